/- The document's wheel: Run. -/
import Derived.Test.YtlmjbmeigclihaaWhd
set_option maxRecDepth 100000
set_option linter.unusedVariables false
set_option linter.unusedSimpArgs false
namespace Go.Proofs.Ytlmjbmeigclihaa.We
open Go.RowKit Go.Proofs.YtlmjbmeigclihaaW.PrintWords Go.Proofs.Ytlmjbmeigclihaa.Ds Go.Proofs.Ytlmjbmeigclihaa.Wp Go.Proofs.Ytlmjbmeigclihaa.Wh Go.Proofs.Ytlmjbmeigclihaa.Wd
open Go.Proofs.Ytlmjbmeigclihaa.Pk (Kp)
open Go.Proofs.Ytlmjbmeigclihaa.Mi (st_eqlP st_neqP x_normS x_retS x_exitS MapI getI putI delI)
theorem wn_undef {R : Array Oper} {m : List (Nat × Value)} {j : Nat} {want : Bool} {t : Nat} (hj : dstOf R j = some t) (hl : Go.Proofs.Ytlmjbmeigclihaa.Ds.look m t = some undef) : Wn R m (some (j, want)) false := fun n a hE o ho => by
  unfold Region.wanted
  rw [ho]
  simp only
  have h1 : yielded R a.tmps j = none := by
    unfold yielded
    unfold dstOf at hj
    rw [hj]
    simp [hE.get t _ hl, undef]
  rw [h1]
  rfl
/-- The best of the first i. -/
def BestOk (L : LW) (now : Int) (i : Nat) (bo : Option Nat) : Prop := match bo with
  | none => ∀ j p, j < i → L[j]? = some p → now < p.2
  | some b => b < i ∧ ∃ q, L[b]? = some q ∧ q.2 ≤ now ∧ ∀ j p, j < i → L[j]? = some p → p.2 ≤ now → ¬ lex p q
def bI (bo : Option Nat) : Int := match bo with | none => -1 | some b => (b : Int)
theorem split_j {L : LW} {i j : Nat} {x p : Int × Int} (hx : L[i]? = some x) (hj : j < i + 1) (hp : L[j]? = some p) : j < i ∨ p = x := by
  rcases Nat.lt_or_ge j i with q | q
  · exact .inl q
  · obtain rfl : j = i := by omega
    rw [hx] at hp
    injection hp with hp
    exact .inr hp.symm
theorem best_late {L : LW} {now : Int} {i : Nat} {bo : Option Nat} {x : Int × Int} (h : BestOk L now i bo) (hx : L[i]? = some x) (hl : ¬ x.2 ≤ now) : BestOk L now (i + 1) bo := by
  cases bo with
  | none => exact fun j p hj hp => (split_j hx hj hp).elim (fun q => h j p q hp) (fun e => by rw [e]; omega)
  | some b =>
    obtain ⟨h1, q, h2, h3, h4⟩ := h
    exact ⟨by omega, q, h2, h3, fun j p hj hp hle => (split_j hx hj hp).elim (fun z => h4 j p z hp hle) (fun e => by rw [e] at hle; exact absurd hle hl)⟩
theorem best_first {L : LW} {now : Int} {i : Nat} {x : Int × Int} (h : BestOk L now i none) (hx : L[i]? = some x) (hl : x.2 ≤ now) : BestOk L now (i + 1) (some i) :=
  ⟨by omega, x, hx, hl, fun j p hj hp hle => (split_j hx hj hp).elim (fun z => by have := h j p z hp; omega) (fun e => by rw [e]; exact fun h => lex_irr h)⟩
theorem best_take {L : LW} {now : Int} {i b : Nat} {x q : Int × Int} (h : BestOk L now i (some b)) (hb : L[b]? = some q) (hx : L[i]? = some x) (hl : x.2 ≤ now) (hlt : lex x q) : BestOk L now (i + 1) (some i) := by
  obtain ⟨h1, q', h2, h3, h4⟩ := h
  rw [hb] at h2
  injection h2 with h2
  subst h2
  exact ⟨by omega, x, hx, hl, fun j p hj hp hle => (split_j hx hj hp).elim (fun z hpx => h4 j p z hp hle (lex_trans hpx hlt)) (fun e => by rw [e]; exact fun h => lex_irr h)⟩
theorem best_keep {L : LW} {now : Int} {i b : Nat} {x q : Int × Int} (h : BestOk L now i (some b)) (hb : L[b]? = some q) (hx : L[i]? = some x) (hlt : ¬ lex x q) : BestOk L now (i + 1) (some b) := by
  obtain ⟨h1, q', h2, h3, h4⟩ := h
  rw [hb] at h2
  injection h2 with h2
  subst h2
  exact ⟨by omega, q, hb, h3, fun j p hj hp hle => (split_j hx hj hp).elim (fun z => h4 j p z hp hle) (fun e => by rw [e]; exact hlt)⟩
theorem best_none {L : LW} {now : Int} (h : BestOk L now L.length none) : fireS now L = ([], L) := by
  cases hf : firstI L with
  | none => exact fire_none hf
  | some p =>
    obtain ⟨j, hj, e⟩ := List.getElem_of_mem (firstI_spec hf).1
    exact fire_stop hf (h j p hj (by rw [List.getElem?_eq_getElem hj, e]))
theorem best_some {L : LW} {now : Int} {b : Nat} {q : Int × Int} (h : BestOk L now L.length (some b)) (hb : L[b]? = some q) : firstI L = some q ∧ ¬ now < q.2 := by
  obtain ⟨h1, q', h2, h3, h4⟩ := h
  rw [hb] at h2
  injection h2 with h2
  subst h2
  refine ⟨?_, by omega⟩
  cases hf : firstI L with
  | none => rw [firstI_none] at hf; subst hf; cases hb
  | some p =>
    obtain ⟨g1, g2⟩ := firstI_spec hf
    obtain ⟨j, hj, e⟩ := List.getElem_of_mem g1
    have a := g2 q (List.mem_of_getElem? hb)
    have hp2 : p.2 ≤ now := by unfold lex at a; omega
    have c := h4 j p hj (by rw [List.getElem?_eq_getElem hj, e]) hp2
    rcases lex_not a with z | z
    · rw [z]
    · exact absurd z c
theorem R20_0_l : List.range (regOf Try.f20 0).size = [0] := by kernel_rfl
theorem R20_1_l : List.range (regOf Try.f20 1).size = [0, 1, 2, 3, 4, 5, 6, 7, 8, 9, 10, 11, 12, 13, 14, 15] := by kernel_rfl
theorem R20_2_l : List.range (regOf Try.f20 2).size = [0] := by kernel_rfl
theorem R20_3_l : List.range (regOf Try.f20 3).size = [0] := by kernel_rfl
theorem R20_4_l : List.range (regOf Try.f20 4).size = [0] := by kernel_rfl
theorem R20_5_l : List.range (regOf Try.f20 5).size = [0, 1, 2, 3, 4, 5, 6] := by kernel_rfl
theorem R20_7_l : List.range (regOf Try.f20 7).size = [0, 1, 2, 3, 4, 5, 6, 7, 8, 9, 10, 11, 12, 13, 14, 15, 16, 17, 18, 19, 20, 21, 22, 23, 24, 25, 26, 27, 28, 29, 30, 31, 32, 33, 34, 35, 36, 37, 38, 39, 40, 41, 42, 43, 44, 45, 46, 47, 48, 49, 50, 51, 52, 53, 54, 55, 56, 57, 58, 59, 60, 61, 62, 63, 64, 65, 66, 67, 68, 69, 70, 71, 72, 73] := by kernel_rfl
theorem R20_8_l : List.range (regOf Try.f20 8).size = [0, 1] := by kernel_rfl
theorem R20_6_l : List.range (regOf Try.f20 6).size = [0, 1, 2] := by kernel_rfl
theorem R20_9_l : List.range (regOf Try.f20 9).size = [0, 1] := by kernel_rfl
theorem R20_10_l : List.range (regOf Try.f20 10).size = [0, 1] := by kernel_rfl
theorem R20_11_l : List.range (regOf Try.f20 11).size = [0, 1, 2, 3, 4, 5, 6, 7, 8, 9, 10, 11] := by kernel_rfl
theorem R20_12_l : List.range (regOf Try.f20 12).size = [0, 1, 2, 3, 4, 5, 6, 7, 8, 9] := by kernel_rfl
theorem body20 : Try.f20.body = some (.seq (.region 0 (regOf Try.f20 0) false) (.seq (.region 1 (regOf Try.f20 1) true) (.seq (.region 2 (regOf Try.f20 2) false) (.block 0 (.loop (.block 1 (.seq (.region 3 (regOf Try.f20 3) false) (.seq (.seq (.region 4 (regOf Try.f20 4) false) (.block 2 (.loop (.seq (.seq (.region 5 (regOf Try.f20 5) false) (.cond (Operand.tmp 29) (.skip) (.exit 2))) (.seq (.block 3 (.seq (.region 7 (regOf Try.f20 7) true) (.cond (Operand.tmp 105) (.region 8 (regOf Try.f20 8) false) (.skip)))) (.region 6 (regOf Try.f20 6) false)))))) (.seq (.seq (.region 9 (regOf Try.f20 9) false) (.cond (Operand.tmp 108) (.seq (.region 10 (regOf Try.f20 10) false) (.ret)) (.skip))) (.seq (.region 11 (regOf Try.f20 11) false) (.region 12 (regOf Try.f20 12) false))))))))))) := by kernel_rfl
theorem p20_0_0 : pj (regOf Try.f20 0) 0 = some (some 4, .assign (.const (.slice none 0 0)), 35, none) := by kernel_rfl
theorem ns20_1 : Region.noSelect (regOf Try.f20 1) = true := by kernel_rfl
theorem p20_1_0 : pj (regOf Try.f20 1) 0 = some (some 8, .move (.tmp 0), 47, none) := by kernel_rfl
theorem p20_1_1 : pj (regOf Try.f20 1) 1 = some (some 9, .move (.tmp 0), 47, none) := by kernel_rfl
theorem p20_1_2 : pj (regOf Try.f20 1) 2 = some (some 10, .nilCheck (.tmp 9), 0, none) := by kernel_rfl
theorem p20_1_3 : pj (regOf Try.f20 1) 3 = some (some 11, .fieldAddr 50 (.tmp 10) 0, 0, none) := by kernel_rfl
theorem tS3 : (Try.prog.info? 3).map (·.size) = some 1 := by kernel_rfl
theorem p20_1_5 : pj (regOf Try.f20 1) 5 = some (some 13, .move (.tmp 1), 3, none) := by kernel_rfl
theorem p20_1_6 : pj (regOf Try.f20 1) 6 = some (some 14, .move (.tmp 0), 47, none) := by kernel_rfl
theorem p20_1_7 : pj (regOf Try.f20 1) 7 = some (some 15, .nilCheck (.tmp 14), 0, none) := by kernel_rfl
theorem p20_1_8 : pj (regOf Try.f20 1) 8 = some (some 16, .fieldAddr 50 (.tmp 15) 0, 0, none) := by kernel_rfl
theorem p20_1_4 : pj (regOf Try.f20 1) 4 = some (some 12, .load 3 (.tmp 11), 3, none) := by kernel_rfl
theorem tA3 : (Try.prog.underlying 3).map aggD = some false := by kernel_rfl
theorem p20_1_9 : pj (regOf Try.f20 1) 9 = some (some 17, .load 3 (.tmp 16), 3, none) := by kernel_rfl
theorem p20_1_10 : pj (regOf Try.f20 1) 10 = some (some 18, .binOp .sub 3 (.const (.int .i64 2305843009213693952)) (.tmp 17) 3, 3, none) := by kernel_rfl
theorem p20_1_11 : pj (regOf Try.f20 1) 11 = some (some 19, .call { callee := .builtin .min, args := #[.tmp 13, .tmp 18], argTypes := #[3, 3] }, 3, none) := by kernel_rfl
theorem p20_1_12 : pj (regOf Try.f20 1) 12 = some (some 20, .binOp .add 3 (.tmp 12) (.tmp 19) 3, 3, none) := by kernel_rfl
theorem p20_1_13 : pj (regOf Try.f20 1) 13 = some (some 21, .nilCheck (.tmp 8), 0, none) := by kernel_rfl
theorem p20_1_14 : pj (regOf Try.f20 1) 14 = some (some 22, .fieldAddr 50 (.tmp 21) 0, 0, none) := by kernel_rfl
theorem p20_1_15 : pj (regOf Try.f20 1) 15 = some (none, .store 3 (.tmp 22) (.tmp 20), 0, none) := by kernel_rfl
theorem p20_2_0 : pj (regOf Try.f20 2) 0 = some (some 5, .assign (.const (.slice none 0 0)), 35, none) := by kernel_rfl
theorem p20_3_0 : pj (regOf Try.f20 3) 0 = some (some 6, .assign (.const (.int .i64 (-1))), 3, none) := by kernel_rfl
theorem p20_4_0 : pj (regOf Try.f20 4) 0 = some (some 7, .assign (.const (.int .i64 0)), 3, none) := by kernel_rfl
theorem p20_5_0 : pj (regOf Try.f20 5) 0 = some (some 23, .move (.tmp 7), 3, none) := by kernel_rfl
theorem p20_5_1 : pj (regOf Try.f20 5) 1 = some (some 24, .move (.tmp 0), 47, none) := by kernel_rfl
theorem p20_5_2 : pj (regOf Try.f20 5) 2 = some (some 25, .nilCheck (.tmp 24), 0, none) := by kernel_rfl
theorem p20_5_3 : pj (regOf Try.f20 5) 3 = some (some 26, .fieldAddr 50 (.tmp 25) 1, 0, none) := by kernel_rfl
theorem tS48 : (Try.prog.info? 48).map (·.size) = some 1 := by kernel_rfl
theorem p20_5_4 : pj (regOf Try.f20 5) 4 = some (some 27, .load 48 (.tmp 26), 48, none) := by kernel_rfl
theorem tA48 : (Try.prog.underlying 48).map aggD = some false := by kernel_rfl
theorem p20_5_5 : pj (regOf Try.f20 5) 5 = some (some 28, .call { callee := .builtin .len, args := #[.tmp 27], argTypes := #[48] }, 3, none) := by kernel_rfl
theorem p20_5_6 : pj (regOf Try.f20 5) 6 = some (some 29, .binOp .lss 3 (.tmp 23) (.tmp 28) 3, 4, none) := by kernel_rfl
theorem ns20_7 : Region.noSelect (regOf Try.f20 7) = true := by kernel_rfl
theorem p20_7_0 : pj (regOf Try.f20 7) 0 = some (some 32, .move (.tmp 0), 47, none) := by kernel_rfl
theorem p20_7_1 : pj (regOf Try.f20 7) 1 = some (some 33, .nilCheck (.tmp 32), 0, none) := by kernel_rfl
theorem p20_7_2 : pj (regOf Try.f20 7) 2 = some (some 34, .fieldAddr 50 (.tmp 33) 1, 0, none) := by kernel_rfl
theorem p20_7_3 : pj (regOf Try.f20 7) 3 = some (some 35, .load 48 (.tmp 34), 48, none) := by kernel_rfl
theorem p20_7_4 : pj (regOf Try.f20 7) 4 = some (some 36, .move (.tmp 7), 3, none) := by kernel_rfl
theorem p20_7_5 : pj (regOf Try.f20 7) 5 = some (some 37, .indexAddr 48 (.tmp 35) (.tmp 36), 0, none) := by kernel_rfl
theorem tS77 : (Try.prog.info? 77).map (·.size) = some 2 := by kernel_rfl
theorem p20_7_6 : pj (regOf Try.f20 7) 6 = some (some 38, .fieldAddr 77 (.tmp 37) 1, 0, none) := by kernel_rfl
theorem p20_7_7 : pj (regOf Try.f20 7) 7 = some (some 39, .load 3 (.tmp 38), 3, none) := by kernel_rfl
theorem p20_7_8 : pj (regOf Try.f20 7) 8 = some (some 40, .move (.tmp 0), 47, none) := by kernel_rfl
theorem p20_7_9 : pj (regOf Try.f20 7) 9 = some (some 41, .nilCheck (.tmp 40), 0, none) := by kernel_rfl
theorem p20_7_10 : pj (regOf Try.f20 7) 10 = some (some 42, .fieldAddr 50 (.tmp 41) 0, 0, none) := by kernel_rfl
theorem p20_7_11 : pj (regOf Try.f20 7) 11 = some (some 43, .load 3 (.tmp 42), 3, none) := by kernel_rfl
theorem p20_7_12 : pj (regOf Try.f20 7) 12 = some (some 44, .binOp .leq 3 (.tmp 39) (.tmp 43) 3, 4, none) := by kernel_rfl
theorem p20_7_13 : pj (regOf Try.f20 7) 13 = some (some 45, .move (.tmp 44), 4, none) := by kernel_rfl
theorem g20_7_13 : dstOf (regOf Try.f20 7) 13 = some 45 := by kernel_rfl
theorem p20_7_14 : pj (regOf Try.f20 7) 14 = some (some 46, .move (.tmp 6), 3, some (13, true)) := by kernel_rfl
theorem p20_7_15 : pj (regOf Try.f20 7) 15 = some (some 47, .binOp .lss 3 (.tmp 46) (.const (.int .i64 0)) 3, 4, some (13, true)) := by kernel_rfl
theorem p20_7_16 : pj (regOf Try.f20 7) 16 = some (some 48, .move (.tmp 47), 4, some (13, true)) := by kernel_rfl
theorem g20_7_16 : dstOf (regOf Try.f20 7) 16 = some 48 := by kernel_rfl
theorem p20_7_17 : pj (regOf Try.f20 7) 17 = some (some 49, .move (.tmp 0), 47, some (16, false)) := by kernel_rfl
theorem p20_7_18 : pj (regOf Try.f20 7) 18 = some (some 50, .nilCheck (.tmp 49), 0, some (16, false)) := by kernel_rfl
theorem p20_7_19 : pj (regOf Try.f20 7) 19 = some (some 51, .fieldAddr 50 (.tmp 50) 1, 0, some (16, false)) := by kernel_rfl
theorem p20_7_20 : pj (regOf Try.f20 7) 20 = some (some 52, .load 48 (.tmp 51), 48, some (16, false)) := by kernel_rfl
theorem p20_7_21 : pj (regOf Try.f20 7) 21 = some (some 53, .move (.tmp 7), 3, some (16, false)) := by kernel_rfl
theorem p20_7_22 : pj (regOf Try.f20 7) 22 = some (some 54, .indexAddr 48 (.tmp 52) (.tmp 53), 0, some (16, false)) := by kernel_rfl
theorem p20_7_23 : pj (regOf Try.f20 7) 23 = some (some 55, .fieldAddr 77 (.tmp 54) 1, 0, some (16, false)) := by kernel_rfl
theorem p20_7_24 : pj (regOf Try.f20 7) 24 = some (some 56, .load 3 (.tmp 55), 3, some (16, false)) := by kernel_rfl
theorem p20_7_25 : pj (regOf Try.f20 7) 25 = some (some 57, .move (.tmp 0), 47, some (16, false)) := by kernel_rfl
theorem p20_7_26 : pj (regOf Try.f20 7) 26 = some (some 58, .nilCheck (.tmp 57), 0, some (16, false)) := by kernel_rfl
theorem p20_7_27 : pj (regOf Try.f20 7) 27 = some (some 59, .fieldAddr 50 (.tmp 58) 1, 0, some (16, false)) := by kernel_rfl
theorem p20_7_28 : pj (regOf Try.f20 7) 28 = some (some 60, .load 48 (.tmp 59), 48, some (16, false)) := by kernel_rfl
theorem p20_7_29 : pj (regOf Try.f20 7) 29 = some (some 61, .move (.tmp 6), 3, some (16, false)) := by kernel_rfl
theorem p20_7_30 : pj (regOf Try.f20 7) 30 = some (some 62, .indexAddr 48 (.tmp 60) (.tmp 61), 0, some (16, false)) := by kernel_rfl
theorem p20_7_31 : pj (regOf Try.f20 7) 31 = some (some 63, .fieldAddr 77 (.tmp 62) 1, 0, some (16, false)) := by kernel_rfl
theorem p20_7_32 : pj (regOf Try.f20 7) 32 = some (some 64, .load 3 (.tmp 63), 3, some (16, false)) := by kernel_rfl
theorem p20_7_33 : pj (regOf Try.f20 7) 33 = some (some 65, .binOp .lss 3 (.tmp 56) (.tmp 64) 3, 4, some (16, false)) := by kernel_rfl
theorem p20_7_34 : pj (regOf Try.f20 7) 34 = some (some 66, .pick (.tmp 48) (.const (.bool true)) (.tmp 65), 4, some (13, true)) := by kernel_rfl
theorem p20_7_35 : pj (regOf Try.f20 7) 35 = some (some 67, .move (.tmp 66), 4, some (13, true)) := by kernel_rfl
theorem g20_7_35 : dstOf (regOf Try.f20 7) 35 = some 67 := by kernel_rfl
theorem p20_7_36 : pj (regOf Try.f20 7) 36 = some (some 68, .move (.tmp 0), 47, some (35, false)) := by kernel_rfl
theorem p20_7_37 : pj (regOf Try.f20 7) 37 = some (some 69, .nilCheck (.tmp 68), 0, some (35, false)) := by kernel_rfl
theorem p20_7_38 : pj (regOf Try.f20 7) 38 = some (some 70, .fieldAddr 50 (.tmp 69) 1, 0, some (35, false)) := by kernel_rfl
theorem p20_7_39 : pj (regOf Try.f20 7) 39 = some (some 71, .load 48 (.tmp 70), 48, some (35, false)) := by kernel_rfl
theorem p20_7_40 : pj (regOf Try.f20 7) 40 = some (some 72, .move (.tmp 7), 3, some (35, false)) := by kernel_rfl
theorem p20_7_41 : pj (regOf Try.f20 7) 41 = some (some 73, .indexAddr 48 (.tmp 71) (.tmp 72), 0, some (35, false)) := by kernel_rfl
theorem p20_7_42 : pj (regOf Try.f20 7) 42 = some (some 74, .fieldAddr 77 (.tmp 73) 1, 0, some (35, false)) := by kernel_rfl
theorem p20_7_43 : pj (regOf Try.f20 7) 43 = some (some 75, .load 3 (.tmp 74), 3, some (35, false)) := by kernel_rfl
theorem p20_7_44 : pj (regOf Try.f20 7) 44 = some (some 76, .move (.tmp 0), 47, some (35, false)) := by kernel_rfl
theorem p20_7_45 : pj (regOf Try.f20 7) 45 = some (some 77, .nilCheck (.tmp 76), 0, some (35, false)) := by kernel_rfl
theorem p20_7_46 : pj (regOf Try.f20 7) 46 = some (some 78, .fieldAddr 50 (.tmp 77) 1, 0, some (35, false)) := by kernel_rfl
theorem p20_7_47 : pj (regOf Try.f20 7) 47 = some (some 79, .load 48 (.tmp 78), 48, some (35, false)) := by kernel_rfl
theorem p20_7_48 : pj (regOf Try.f20 7) 48 = some (some 80, .move (.tmp 6), 3, some (35, false)) := by kernel_rfl
theorem p20_7_49 : pj (regOf Try.f20 7) 49 = some (some 81, .indexAddr 48 (.tmp 79) (.tmp 80), 0, some (35, false)) := by kernel_rfl
theorem p20_7_50 : pj (regOf Try.f20 7) 50 = some (some 82, .fieldAddr 77 (.tmp 81) 1, 0, some (35, false)) := by kernel_rfl
theorem p20_7_51 : pj (regOf Try.f20 7) 51 = some (some 83, .load 3 (.tmp 82), 3, some (35, false)) := by kernel_rfl
theorem p20_7_52 : pj (regOf Try.f20 7) 52 = some (some 84, .binOp .eql 3 (.tmp 75) (.tmp 83) 3, 4, some (35, false)) := by kernel_rfl
theorem p20_7_53 : pj (regOf Try.f20 7) 53 = some (some 85, .move (.tmp 84), 4, some (35, false)) := by kernel_rfl
theorem g20_7_53 : dstOf (regOf Try.f20 7) 53 = some 85 := by kernel_rfl
theorem p20_7_54 : pj (regOf Try.f20 7) 54 = some (some 86, .move (.tmp 0), 47, some (53, true)) := by kernel_rfl
theorem p20_7_55 : pj (regOf Try.f20 7) 55 = some (some 87, .nilCheck (.tmp 86), 0, some (53, true)) := by kernel_rfl
theorem p20_7_56 : pj (regOf Try.f20 7) 56 = some (some 88, .fieldAddr 50 (.tmp 87) 1, 0, some (53, true)) := by kernel_rfl
theorem p20_7_57 : pj (regOf Try.f20 7) 57 = some (some 89, .load 48 (.tmp 88), 48, some (53, true)) := by kernel_rfl
theorem p20_7_58 : pj (regOf Try.f20 7) 58 = some (some 90, .move (.tmp 7), 3, some (53, true)) := by kernel_rfl
theorem p20_7_59 : pj (regOf Try.f20 7) 59 = some (some 91, .indexAddr 48 (.tmp 89) (.tmp 90), 0, some (53, true)) := by kernel_rfl
theorem p20_7_60 : pj (regOf Try.f20 7) 60 = some (some 92, .fieldAddr 77 (.tmp 91) 0, 0, some (53, true)) := by kernel_rfl
theorem p20_7_61 : pj (regOf Try.f20 7) 61 = some (some 93, .load 3 (.tmp 92), 3, some (53, true)) := by kernel_rfl
theorem p20_7_62 : pj (regOf Try.f20 7) 62 = some (some 94, .move (.tmp 0), 47, some (53, true)) := by kernel_rfl
theorem p20_7_63 : pj (regOf Try.f20 7) 63 = some (some 95, .nilCheck (.tmp 94), 0, some (53, true)) := by kernel_rfl
theorem p20_7_64 : pj (regOf Try.f20 7) 64 = some (some 96, .fieldAddr 50 (.tmp 95) 1, 0, some (53, true)) := by kernel_rfl
theorem p20_7_65 : pj (regOf Try.f20 7) 65 = some (some 97, .load 48 (.tmp 96), 48, some (53, true)) := by kernel_rfl
theorem p20_7_66 : pj (regOf Try.f20 7) 66 = some (some 98, .move (.tmp 6), 3, some (53, true)) := by kernel_rfl
theorem p20_7_67 : pj (regOf Try.f20 7) 67 = some (some 99, .indexAddr 48 (.tmp 97) (.tmp 98), 0, some (53, true)) := by kernel_rfl
theorem p20_7_68 : pj (regOf Try.f20 7) 68 = some (some 100, .fieldAddr 77 (.tmp 99) 0, 0, some (53, true)) := by kernel_rfl
theorem p20_7_69 : pj (regOf Try.f20 7) 69 = some (some 101, .load 3 (.tmp 100), 3, some (53, true)) := by kernel_rfl
theorem p20_7_70 : pj (regOf Try.f20 7) 70 = some (some 102, .binOp .lss 3 (.tmp 93) (.tmp 101) 3, 4, some (53, true)) := by kernel_rfl
theorem p20_7_71 : pj (regOf Try.f20 7) 71 = some (some 103, .pick (.tmp 85) (.tmp 102) (.const (.bool false)), 4, some (35, false)) := by kernel_rfl
theorem p20_7_72 : pj (regOf Try.f20 7) 72 = some (some 104, .pick (.tmp 67) (.const (.bool true)) (.tmp 103), 4, some (13, true)) := by kernel_rfl
theorem p20_7_73 : pj (regOf Try.f20 7) 73 = some (some 105, .pick (.tmp 45) (.tmp 104) (.const (.bool false)), 4, none) := by kernel_rfl
theorem p20_8_0 : pj (regOf Try.f20 8) 0 = some (some 106, .move (.tmp 7), 3, none) := by kernel_rfl
theorem p20_8_1 : pj (regOf Try.f20 8) 1 = some (some 6, .assign (.tmp 106), 3, none) := by kernel_rfl
theorem p20_6_0 : pj (regOf Try.f20 6) 0 = some (some 30, .move (.tmp 7), 3, none) := by kernel_rfl
theorem p20_6_1 : pj (regOf Try.f20 6) 1 = some (some 31, .binOp .add 3 (.tmp 30) (.const (.int .i64 1)) 3, 3, none) := by kernel_rfl
theorem p20_6_2 : pj (regOf Try.f20 6) 2 = some (some 7, .assign (.tmp 31), 3, none) := by kernel_rfl
theorem p20_9_0 : pj (regOf Try.f20 9) 0 = some (some 107, .move (.tmp 6), 3, none) := by kernel_rfl
theorem p20_9_1 : pj (regOf Try.f20 9) 1 = some (some 108, .binOp .lss 3 (.tmp 107) (.const (.int .i64 0)) 3, 4, none) := by kernel_rfl
theorem p20_10_0 : pj (regOf Try.f20 10) 0 = some (some 109, .move (.tmp 5), 35, none) := by kernel_rfl
theorem p20_10_1 : pj (regOf Try.f20 10) 1 = some (some 4, .assign (.tmp 109), 35, none) := by kernel_rfl
theorem p20_11_0 : pj (regOf Try.f20 11) 0 = some (some 110, .move (.tmp 5), 35, none) := by kernel_rfl
theorem p20_11_1 : pj (regOf Try.f20 11) 1 = some (some 111, .move (.tmp 0), 47, none) := by kernel_rfl
theorem p20_11_2 : pj (regOf Try.f20 11) 2 = some (some 112, .nilCheck (.tmp 111), 0, none) := by kernel_rfl
theorem p20_11_3 : pj (regOf Try.f20 11) 3 = some (some 113, .fieldAddr 50 (.tmp 112) 1, 0, none) := by kernel_rfl
theorem p20_11_4 : pj (regOf Try.f20 11) 4 = some (some 114, .load 48 (.tmp 113), 48, none) := by kernel_rfl
theorem p20_11_5 : pj (regOf Try.f20 11) 5 = some (some 115, .move (.tmp 6), 3, none) := by kernel_rfl
theorem p20_11_6 : pj (regOf Try.f20 11) 6 = some (some 116, .indexAddr 48 (.tmp 114) (.tmp 115), 0, none) := by kernel_rfl
theorem p20_11_7 : pj (regOf Try.f20 11) 7 = some (some 117, .fieldAddr 77 (.tmp 116) 0, 0, none) := by kernel_rfl
theorem p20_11_8 : pj (regOf Try.f20 11) 8 = some (some 118, .load 3 (.tmp 117), 3, none) := by kernel_rfl
theorem p20_11_9 : pj (regOf Try.f20 11) 9 = some (some 119, .buildSlice 35 1 #[(0, .tmp 118)], 35, none) := by kernel_rfl
theorem p20_11_10 : pj (regOf Try.f20 11) 10 = some (some 120, .call { callee := .builtin .append, args := #[.tmp 110, .tmp 119], argTypes := #[35, 35] }, 35, none) := by kernel_rfl
theorem eD3 : elemD Try.prog 3 = some (1, 1, 8) := by kernel_rfl
theorem p20_11_11 : pj (regOf Try.f20 11) 11 = some (some 5, .assign (.tmp 120), 35, none) := by kernel_rfl
theorem p20_12_0 : pj (regOf Try.f20 12) 0 = some (some 121, .move (.tmp 0), 47, none) := by kernel_rfl
theorem p20_12_1 : pj (regOf Try.f20 12) 1 = some (some 122, .move (.tmp 0), 47, none) := by kernel_rfl
theorem p20_12_2 : pj (regOf Try.f20 12) 2 = some (some 123, .nilCheck (.tmp 122), 0, none) := by kernel_rfl
theorem p20_12_3 : pj (regOf Try.f20 12) 3 = some (some 124, .fieldAddr 50 (.tmp 123) 1, 0, none) := by kernel_rfl
theorem p20_12_4 : pj (regOf Try.f20 12) 4 = some (some 125, .load 48 (.tmp 124), 48, none) := by kernel_rfl
theorem p20_12_5 : pj (regOf Try.f20 12) 5 = some (some 126, .move (.tmp 6), 3, none) := by kernel_rfl
theorem p20_12_6 : pj (regOf Try.f20 12) 6 = some (some 127, .indexAddr 48 (.tmp 125) (.tmp 126), 0, none) := by kernel_rfl
theorem p20_12_7 : pj (regOf Try.f20 12) 7 = some (some 128, .fieldAddr 77 (.tmp 127) 0, 0, none) := by kernel_rfl
theorem p20_12_8 : pj (regOf Try.f20 12) 8 = some (some 129, .load 3 (.tmp 128), 3, none) := by kernel_rfl
theorem p20_12_9 : pj (regOf Try.f20 12) 9 = some (some 130, .call { callee := .value (.func 19), args := #[.tmp 121, .tmp 129], argTypes := #[47, 3] }, 4, none) := by kernel_rfl
theorem cl19 : callable Try.f19 = true := by kernel_rfl
set_option maxHeartbeats 4000000 in
theorem rrun_any (gd : Nat) (A : Option Addr) (c : Nat) (L : LW) (now : Int) (n mn : Int) (hmn : (if 2305843009213693952 - now < n then 2305843009213693952 - now else n) = mn) (hn : 0 ≤ n ∧ n ≤ 1099511627776) (hnow : 0 ≤ now ∧ now ≤ 2305843009213693952) (hnL : (L.map (·.1)).Nodup) (w : World) (hd : w.heap[gd]? = some (.cells #[.int .i64 now, .slice A L.length c] 50 (0, 0))) (hR : Rv.RdV w A L.length 2 (flT L)) (hcA : L.length ≤ c ∧ (A = none → c = 0)) (hll : L.length ≤ 1000) (hnd : ¬ OB A gd) : Calls Try.prog 20 #[.pointer (some ⟨gd, 0, none⟩), .int .i64 n] w fun e w' => ∃ B b A' c', e = .returned (.slice B (fireO (now + mn) L).length b) ∧ w'.ownsRow w.heap.size 3 1 (.slice B (fireO (now + mn) L).length b) (fireO (now + mn) L).length (encs (Value.int .i64) (fireO (now + mn) L)) ∧ w'.heap[gd]? = some (.cells #[.int .i64 (now + mn), .slice A' (fireS (now + mn) L).2.length c'] 50 (0, 0)) ∧ Rv.RdV w' A' (fireS (now + mn) L).2.length 2 (flT (fireS (now + mn) L).2) ∧ ((fireS (now + mn) L).2.length ≤ c' ∧ (A' = none → c' = 0)) ∧ (∀ k, OB A' k → OB A k ∨ w.heap.size ≤ k) ∧ Kp w w' (fun k => k = gd) := by
  have K_0 := Kp.refl w (fun k => k = gd)
  have B_gd := hd
  have O_L := hR
  have Nb_L_gd := hnd
  have hmb : 0 ≤ mn ∧ now + mn ≤ 2305843009213693952 := by rw [← hmn]; split <;> omega
  refine enter (args := [Value.pointer (some ⟨gd, 0, none⟩), Value.int .i64 n]) (n := 131) Try.func20 body20 rfl rfl rfl ?_
  intro a hE
  refine c_reg R20_0_l ?_
  refine q0 p20_0_0 hE (st_assign rfl) ?_
  clear hE a; intro a hE
  refine p_nil ?_
  refine x_norm ?_
  refine c_drawMS (S := fun W => True) rfl rfl (listed := #[false, false, false, false, false, false, false, false, false, false, false, false, false, false, false, false]) rfl pan_body (fun QQ hQ hend => ?_)
  have dr1_4 : ∀ (W : World) (a : Act), En 131 a [(0, Value.pointer (some ⟨gd, 0, none⟩)), (1, Value.int .i64 n), (4, Value.slice none 0 0), (8, Value.pointer (some ⟨gd, 0, none⟩)), (9, Value.pointer (some ⟨gd, 0, none⟩)), (10, Value.pointer (some ⟨gd, 0, none⟩)), (11, Value.pointer (some ⟨gd, 0, none⟩)), (12, Value.int .i64 now), (13, Value.int .i64 n), (14, Value.pointer (some ⟨gd, 0, none⟩)), (15, Value.pointer (some ⟨gd, 0, none⟩)), (16, Value.pointer (some ⟨gd, 0, none⟩)), (17, Value.int .i64 now), (18, Value.int .i64 (2305843009213693952 - now)), (19, Value.int .i64 mn), (20, Value.int .i64 (now + mn)), (21, Value.pointer (some ⟨gd, 0, none⟩)), (22, Value.pointer (some ⟨gd, 0, none⟩))] → W.heap[gd]? = some (.cells #[Value.int .i64 (now + mn), Value.slice A L.length c] 50 (0, 0)) → Rv.RdV W A L.length 2 (flT L) → Kp w W (fun k => k = gd) → wpAnyH Try.prog .any (regOf Try.f20 1) QQ (fun W => True) 0 #[true, true, true, true, true, true, true, true, true, true, true, true, true, true, true, true] a W := by
    intro w3 a hE B_gd O_L K_0
    refine d_end (by kernel_rfl) (hend _ _ ?_)
    refine c_reg R20_2_l ?_
    refine q0 p20_2_0 hE (st_assign rfl) ?_
    clear hE a; intro a hE
    refine p_nil ?_
    refine x_norm ?_
    refine wp_block ?_
    have O_out := own_none w3 w.heap.size 3 1
    have Nb_out_gd : ¬ OB none gd := ob_nil
    have Z_0_out : ∀ k, OB none k → (fun k => k = gd) k ∨ w.heap.size ≤ k := fun k h => absurd h ob_nil
    have NN_out_L : ∀ k, OB none k → ¬ OB A k := fun k h => absurd h ob_nil
    have NN_L_out : ∀ k, OB A k → ¬ OB none k := fun k h h2 => NN_out_L k h2 h
    have NN_L_out : ∀ k, OB A k → ¬ OB none k := fun k _ h => absurd h ob_nil
    have O_M := O_L
    have Nb_M_gd := Nb_L_gd
    have hc_M := hcA
    have NN_M_out := NN_L_out
    have NN_out_M := NN_out_L
    refine c_loop (α := LW) (fun lc a W => ∃ (A_out : Option Addr) (c_out : Nat) (n_out : Nat), ∃ (A_M : Option Addr) (c_M : Nat) (n_M : Nat), ∃ (acc : List (Int × Int)), En 131 a [(0, Value.pointer (some ⟨gd, 0, none⟩)), (1, Value.int .i64 n), (5, Value.slice A_out n_out c_out)] ∧ n_M = lc.length ∧ (lc.length ≤ c_M ∧ (A_M = none → c_M = 0)) ∧ (lc.map (·.1)).Nodup ∧ fireS (now + mn) L = (acc ++ (fireS (now + mn) lc).1, (fireS (now + mn) lc).2) ∧ acc.length + lc.length ≤ L.length ∧ ((∀ k, OB A_M k → OB A k ∨ w.heap.size ≤ k)) ∧ W.heap[gd]? = some (.cells #[Value.int .i64 (now + mn), Value.slice A_M n_M c_M] 50 (0, 0)) ∧ n_out = (acc.map (·.1)).length ∧ W.ownsRow w.heap.size 3 1 (.slice A_out n_out c_out) n_out (encs (Value.int .i64) (acc.map (·.1))) ∧ ¬ OB A_out gd ∧ (∀ k, OB A_out k → (fun k => k = gd) k ∨ w.heap.size ≤ k) ∧ (∀ k, OB A_out k → ¬ OB A_M k) ∧ Rv.RdV W A_M n_M 2 (flT lc) ∧ ¬ OB A_M gd ∧ (∀ k, OB A_M k → ¬ OB A_out k) ∧ Kp w W (fun k => k = gd)) (fun lc => lc.length) (L) ?_ ?_
    ·
      exact ⟨none, 0, 0, A, c, L.length, [], En.sub hE ⟨rfl, rfl, rfl, trivial⟩, rfl, hc_M, hnL, rfl, (by show 0 + L.length ≤ _; omega), (fun k h => .inl h), B_gd, rfl, O_out, Nb_out_gd, Z_0_out, NN_out_M, O_M, Nb_M_gd, NN_M_out, K_0⟩
    ·
      clear hE a
      rintro lc a w4 ⟨A_out, c_out, n_out, A_M, c_M, n_M, acc, hE, hnM, hc_M, hnd9, hfi, hal, hgM, B_gd, hn_out, O_out, Nb_out_gd, Z_0_out, NN_out_M, O_M, Nb_M_gd, NN_M_out, K_0⟩
      refine wp_block ?_
      refine c_reg R20_3_l ?_
      subst hnM
      refine q0 p20_3_0 hE (st_assign rfl) ?_
      clear hE a; intro a hE
      refine p_nil ?_
      refine x_norm ?_
      refine wp_seq ?_
      refine c_reg R20_4_l ?_
      refine q0 p20_4_0 hE (st_assign rfl) ?_
      clear hE a; intro a hE
      refine p_nil ?_
      refine x_norm ?_
      refine wp_block ?_
      refine c_loop (α := Nat) (fun i a W => ∃ (bo : Option Nat), En 131 a [(0, Value.pointer (some ⟨gd, 0, none⟩)), (1, Value.int .i64 n), (5, Value.slice A_out n_out c_out), (7, Value.int .i64 (i : Int)), (6, Value.int .i64 (bI bo))] ∧ i ≤ lc.length ∧ BestOk lc (now + mn) i bo ∧ W.heap[gd]? = some (.cells #[Value.int .i64 (now + mn), Value.slice A_M lc.length c_M] 50 (0, 0)) ∧ W.ownsRow w.heap.size 3 1 (.slice A_out n_out c_out) n_out (encs (Value.int .i64) (acc.map (·.1))) ∧ ¬ OB A_out gd ∧ (∀ k, OB A_out k → (fun k => k = gd) k ∨ w.heap.size ≤ k) ∧ (∀ k, OB A_out k → ¬ OB A_M k) ∧ Rv.RdV W A_M lc.length 2 (flT lc) ∧ ¬ OB A_M gd ∧ (∀ k, OB A_M k → ¬ OB A_out k) ∧ Kp w W (fun k => k = gd)) (fun i => lc.length - i) (0) ?_ ?_
      ·
        exact ⟨none, En.sub hE ⟨rfl, rfl, rfl, rfl, rfl, trivial⟩, Nat.zero_le _, (fun j p h => absurd h (Nat.not_lt_zero _)), B_gd, O_out, Nb_out_gd, Z_0_out, NN_out_M, O_M, Nb_M_gd, NN_M_out, K_0⟩
      ·
        clear hE a
        rintro i a w5 ⟨bo, hE, hi9, hbo, B_gd, O_out, Nb_out_gd, Z_0_out, NN_out_M, O_M, Nb_M_gd, NN_M_out, K_0⟩
        refine wp_seq ?_
        rcases Decidable.em ((i : Int) < (lc.length : Int)) with hK1 | hK1
        ·
          refine c_reg R20_5_l ?_
          refine q0 p20_5_0 hE (st_move rfl) ?_
          clear hE a; intro a hE
          refine q0 p20_5_1 hE (st_move rfl) ?_
          clear hE a; intro a hE
          refine q0 p20_5_2 hE (st_nil rfl) ?_
          clear hE a; intro a hE
          refine q0 p20_5_3 hE (st_fieldAddr Try.underlying50 rfl tS48 rfl rfl) ?_
          clear hE a; intro a hE
          refine q0 p20_5_4 hE (st_load1 tA48 rfl ((blk_cell B_gd 1).trans rfl)) ?_
          clear hE a; intro a hE
          refine q0 p20_5_5 hE (st_len Try.underlying48 rfl) ?_
          clear hE a; intro a hE
          refine q0 p20_5_6 hE (st_lss (b := true) rfl rfl (decide_eq_true hK1)) ?_
          clear hE a; intro a hE
          refine p_nil ?_
          refine x_norm ?_
          refine c_cond (t := true) hE rfl ?_
          refine wp_skip ?_
          refine x_norm ?_
          refine wp_seq ?_
          refine wp_block ?_
          obtain ⟨x, hx⟩ : ∃ o, lc[i]? = some o := ⟨_, List.getElem?_eq_getElem (by omega)⟩
          have hAex := (Rv.rdv_elem (fl := fl2) O_M (by decide) (fun _ => rfl) hx).1
          rcases Decidable.em (x.2 ≤ now + mn) with hDU | hDU
          ·
            rcases Decidable.em (bo = none) with hBN | hBN
            ·
              subst hBN
              refine c_drawS (S := fun W => W.heap[gd]? = some (.cells #[Value.int .i64 (now + mn), Value.slice A_M lc.length c_M] 50 (0, 0)) ∧ (∀ j u, ([Value.int .i64 x.1, Value.int .i64 x.2])[j]? = some u → W.cell? (ea A_M (i * 2 + j)) = some u) ∧ True) rfl rfl (listed := #[false, false, false, false, false, false, false, false, false, false, false, false, false, false, false, false, false, false, false, false, false, false, false, false, false, false, false, false, false, false, false, false, false, false, false, false, false, false, false, false, false, false, false, false, false, false, false, false, false, false, false, false, false, false, false, false, false, false, false, false, false, false, false, false, false, false, false, false, false, false, false, false, false, false]) rfl ?_
              intro w6 hh hk
              replace B_gd := kp_blk B_gd hk (fun h => h)
              replace O_out := own_keep O_out hk (fun _ _ h => h)
              replace O_M := Rv.rdv_keep O_M hk (fun _ _ h => h)
              replace K_0 := K_0.then_ hk (fun _ h => h.elim)
              clear hh hk
              have hS9 : w6.heap[gd]? = some (.cells #[Value.int .i64 (now + mn), Value.slice A_M lc.length c_M] 50 (0, 0)) ∧ (∀ j u, ([Value.int .i64 x.1, Value.int .i64 x.2])[j]? = some u → w6.cell? (ea A_M (i * 2 + j)) = some u) ∧ True := ⟨B_gd, (Rv.rdv_elem (fl := fl2) O_M (by decide) (fun _ => rfl) hx).2, trivial⟩
              refine Rv.dq (v := Value.pointer (some ⟨gd, 0, none⟩)) p20_7_0 ns20_7 hE wn_none hS9 (fun W hS => (st_move rfl)) ?_; clear hE a; intro a hE
              refine Rv.dq (v := Value.pointer (some ⟨gd, 0, none⟩)) p20_7_1 ns20_7 hE wn_none hS9 (fun W hS => (st_nil rfl)) ?_; clear hE a; intro a hE
              refine Rv.dq (v := Value.pointer (some ⟨gd, 1, none⟩)) p20_7_2 ns20_7 hE wn_none hS9 (fun W hS => (st_fieldAddr Try.underlying50 rfl tS48 rfl rfl)) ?_; clear hE a; intro a hE
              refine Rv.dq (v := Value.slice A_M lc.length c_M) p20_7_3 ns20_7 hE wn_none hS9 (fun W hS => (st_load1 tA48 rfl ((blk_cell hS.1 1).trans rfl))) ?_; clear hE a; intro a hE
              refine Rv.dq (v := Value.int .i64 (i : Int)) p20_7_4 ns20_7 hE wn_none hS9 (fun W hS => (st_move rfl)) ?_; clear hE a; intro a hE
              refine Rv.dq (v := Value.pointer (some (ea A_M (i * 2)))) p20_7_5 ns20_7 hE wn_none hS9 (fun W hS => (st_indexAddrR (i := i) (s := 2) Try.underlying48 tS77 hAex rfl rfl (by omega))) ?_; clear hE a; intro a hE
              refine Rv.dq (v := Value.pointer (some (ea A_M (i * 2 + 1)))) p20_7_6 ns20_7 hE wn_none hS9 (fun W hS => (st_fieldAddrR (off := i * 2) (f0 := 1) (o' := i * 2 + 1) Try.underlying77 rfl tS3 rfl (by omega) rfl)) ?_; clear hE a; intro a hE
              refine Rv.dq (v := Value.int .i64 x.2) p20_7_7 ns20_7 hE wn_none hS9 (fun W hS => (st_loadR1 (off := i * 2) (j := 1) tA3 (hS.2.1) rfl (by omega) rfl)) ?_; clear hE a; intro a hE
              refine Rv.dq (v := Value.pointer (some ⟨gd, 0, none⟩)) p20_7_8 ns20_7 hE wn_none hS9 (fun W hS => (st_move rfl)) ?_; clear hE a; intro a hE
              refine Rv.dq (v := Value.pointer (some ⟨gd, 0, none⟩)) p20_7_9 ns20_7 hE wn_none hS9 (fun W hS => (st_nil rfl)) ?_; clear hE a; intro a hE
              refine Rv.dq (v := Value.pointer (some ⟨gd, 0, none⟩)) p20_7_10 ns20_7 hE wn_none hS9 (fun W hS => (st_fieldAddr Try.underlying50 rfl tS3 rfl rfl)) ?_; clear hE a; intro a hE
              refine Rv.dq (v := Value.int .i64 (now + mn)) p20_7_11 ns20_7 hE wn_none hS9 (fun W hS => (st_load1 tA3 rfl ((blk_cell hS.1 0).trans rfl))) ?_; clear hE a; intro a hE
              refine Rv.dq (v := Value.bool true) p20_7_12 ns20_7 hE wn_none hS9 (fun W hS => (st_leq (b := true) rfl rfl (decide_eq_true hDU))) ?_; clear hE a; intro a hE
              refine Rv.dq (v := Value.bool true) p20_7_13 ns20_7 hE wn_none hS9 (fun W hS => (st_move rfl)) ?_; clear hE a; intro a hE
              refine Rv.dq (v := Value.int .i64 (-1)) p20_7_14 ns20_7 hE (wn_some g20_7_13 rfl rfl) hS9 (fun W hS => (st_move rfl)) ?_; clear hE a; intro a hE
              refine Rv.dq (v := Value.bool true) p20_7_15 ns20_7 hE (wn_some g20_7_13 rfl rfl) hS9 (fun W hS => (st_lss (b := true) rfl rfl (by decide))) ?_; clear hE a; intro a hE
              refine Rv.dq (v := Value.bool true) p20_7_16 ns20_7 hE (wn_some g20_7_13 rfl rfl) hS9 (fun W hS => (st_move rfl)) ?_; clear hE a; intro a hE
              refine Rv.dk p20_7_17 ns20_7 hE (wn_some g20_7_16 rfl rfl) hS9 ?_; clear hE a; intro a hE
              refine Rv.dk p20_7_18 ns20_7 hE (wn_some g20_7_16 rfl rfl) hS9 ?_; clear hE a; intro a hE
              refine Rv.dk p20_7_19 ns20_7 hE (wn_some g20_7_16 rfl rfl) hS9 ?_; clear hE a; intro a hE
              refine Rv.dk p20_7_20 ns20_7 hE (wn_some g20_7_16 rfl rfl) hS9 ?_; clear hE a; intro a hE
              refine Rv.dk p20_7_21 ns20_7 hE (wn_some g20_7_16 rfl rfl) hS9 ?_; clear hE a; intro a hE
              refine Rv.dk p20_7_22 ns20_7 hE (wn_some g20_7_16 rfl rfl) hS9 ?_; clear hE a; intro a hE
              refine Rv.dk p20_7_23 ns20_7 hE (wn_some g20_7_16 rfl rfl) hS9 ?_; clear hE a; intro a hE
              refine Rv.dk p20_7_24 ns20_7 hE (wn_some g20_7_16 rfl rfl) hS9 ?_; clear hE a; intro a hE
              refine Rv.dk p20_7_25 ns20_7 hE (wn_some g20_7_16 rfl rfl) hS9 ?_; clear hE a; intro a hE
              refine Rv.dk p20_7_26 ns20_7 hE (wn_some g20_7_16 rfl rfl) hS9 ?_; clear hE a; intro a hE
              refine Rv.dk p20_7_27 ns20_7 hE (wn_some g20_7_16 rfl rfl) hS9 ?_; clear hE a; intro a hE
              refine Rv.dk p20_7_28 ns20_7 hE (wn_some g20_7_16 rfl rfl) hS9 ?_; clear hE a; intro a hE
              refine Rv.dk p20_7_29 ns20_7 hE (wn_some g20_7_16 rfl rfl) hS9 ?_; clear hE a; intro a hE
              refine Rv.dk p20_7_30 ns20_7 hE (wn_some g20_7_16 rfl rfl) hS9 ?_; clear hE a; intro a hE
              refine Rv.dk p20_7_31 ns20_7 hE (wn_some g20_7_16 rfl rfl) hS9 ?_; clear hE a; intro a hE
              refine Rv.dk p20_7_32 ns20_7 hE (wn_some g20_7_16 rfl rfl) hS9 ?_; clear hE a; intro a hE
              refine Rv.dk p20_7_33 ns20_7 hE (wn_some g20_7_16 rfl rfl) hS9 ?_; clear hE a; intro a hE
              refine Rv.dq (v := Value.bool true) p20_7_34 ns20_7 hE (wn_some g20_7_13 rfl rfl) hS9 (fun W hS => (st_pick rfl rfl)) ?_; clear hE a; intro a hE
              refine Rv.dq (v := Value.bool true) p20_7_35 ns20_7 hE (wn_some g20_7_13 rfl rfl) hS9 (fun W hS => (st_move rfl)) ?_; clear hE a; intro a hE
              refine Rv.dk p20_7_36 ns20_7 hE (wn_some g20_7_35 rfl rfl) hS9 ?_; clear hE a; intro a hE
              refine Rv.dk p20_7_37 ns20_7 hE (wn_some g20_7_35 rfl rfl) hS9 ?_; clear hE a; intro a hE
              refine Rv.dk p20_7_38 ns20_7 hE (wn_some g20_7_35 rfl rfl) hS9 ?_; clear hE a; intro a hE
              refine Rv.dk p20_7_39 ns20_7 hE (wn_some g20_7_35 rfl rfl) hS9 ?_; clear hE a; intro a hE
              refine Rv.dk p20_7_40 ns20_7 hE (wn_some g20_7_35 rfl rfl) hS9 ?_; clear hE a; intro a hE
              refine Rv.dk p20_7_41 ns20_7 hE (wn_some g20_7_35 rfl rfl) hS9 ?_; clear hE a; intro a hE
              refine Rv.dk p20_7_42 ns20_7 hE (wn_some g20_7_35 rfl rfl) hS9 ?_; clear hE a; intro a hE
              refine Rv.dk p20_7_43 ns20_7 hE (wn_some g20_7_35 rfl rfl) hS9 ?_; clear hE a; intro a hE
              refine Rv.dk p20_7_44 ns20_7 hE (wn_some g20_7_35 rfl rfl) hS9 ?_; clear hE a; intro a hE
              refine Rv.dk p20_7_45 ns20_7 hE (wn_some g20_7_35 rfl rfl) hS9 ?_; clear hE a; intro a hE
              refine Rv.dk p20_7_46 ns20_7 hE (wn_some g20_7_35 rfl rfl) hS9 ?_; clear hE a; intro a hE
              refine Rv.dk p20_7_47 ns20_7 hE (wn_some g20_7_35 rfl rfl) hS9 ?_; clear hE a; intro a hE
              refine Rv.dk p20_7_48 ns20_7 hE (wn_some g20_7_35 rfl rfl) hS9 ?_; clear hE a; intro a hE
              refine Rv.dk p20_7_49 ns20_7 hE (wn_some g20_7_35 rfl rfl) hS9 ?_; clear hE a; intro a hE
              refine Rv.dk p20_7_50 ns20_7 hE (wn_some g20_7_35 rfl rfl) hS9 ?_; clear hE a; intro a hE
              refine Rv.dk p20_7_51 ns20_7 hE (wn_some g20_7_35 rfl rfl) hS9 ?_; clear hE a; intro a hE
              refine Rv.dk p20_7_52 ns20_7 hE (wn_some g20_7_35 rfl rfl) hS9 ?_; clear hE a; intro a hE
              refine Rv.dk p20_7_53 ns20_7 hE (wn_some g20_7_35 rfl rfl) hS9 ?_; clear hE a; intro a hE
              refine Rv.dk p20_7_54 ns20_7 hE (wn_undef g20_7_53 rfl) hS9 ?_; clear hE a; intro a hE
              refine Rv.dk p20_7_55 ns20_7 hE (wn_undef g20_7_53 rfl) hS9 ?_; clear hE a; intro a hE
              refine Rv.dk p20_7_56 ns20_7 hE (wn_undef g20_7_53 rfl) hS9 ?_; clear hE a; intro a hE
              refine Rv.dk p20_7_57 ns20_7 hE (wn_undef g20_7_53 rfl) hS9 ?_; clear hE a; intro a hE
              refine Rv.dk p20_7_58 ns20_7 hE (wn_undef g20_7_53 rfl) hS9 ?_; clear hE a; intro a hE
              refine Rv.dk p20_7_59 ns20_7 hE (wn_undef g20_7_53 rfl) hS9 ?_; clear hE a; intro a hE
              refine Rv.dk p20_7_60 ns20_7 hE (wn_undef g20_7_53 rfl) hS9 ?_; clear hE a; intro a hE
              refine Rv.dk p20_7_61 ns20_7 hE (wn_undef g20_7_53 rfl) hS9 ?_; clear hE a; intro a hE
              refine Rv.dk p20_7_62 ns20_7 hE (wn_undef g20_7_53 rfl) hS9 ?_; clear hE a; intro a hE
              refine Rv.dk p20_7_63 ns20_7 hE (wn_undef g20_7_53 rfl) hS9 ?_; clear hE a; intro a hE
              refine Rv.dk p20_7_64 ns20_7 hE (wn_undef g20_7_53 rfl) hS9 ?_; clear hE a; intro a hE
              refine Rv.dk p20_7_65 ns20_7 hE (wn_undef g20_7_53 rfl) hS9 ?_; clear hE a; intro a hE
              refine Rv.dk p20_7_66 ns20_7 hE (wn_undef g20_7_53 rfl) hS9 ?_; clear hE a; intro a hE
              refine Rv.dk p20_7_67 ns20_7 hE (wn_undef g20_7_53 rfl) hS9 ?_; clear hE a; intro a hE
              refine Rv.dk p20_7_68 ns20_7 hE (wn_undef g20_7_53 rfl) hS9 ?_; clear hE a; intro a hE
              refine Rv.dk p20_7_69 ns20_7 hE (wn_undef g20_7_53 rfl) hS9 ?_; clear hE a; intro a hE
              refine Rv.dk p20_7_70 ns20_7 hE (wn_undef g20_7_53 rfl) hS9 ?_; clear hE a; intro a hE
              refine Rv.dk p20_7_71 ns20_7 hE (wn_some g20_7_35 rfl rfl) hS9 ?_; clear hE a; intro a hE
              refine Rv.dq (v := Value.bool true) p20_7_72 ns20_7 hE (wn_some g20_7_13 rfl rfl) hS9 (fun W hS => (st_pick rfl rfl)) ?_; clear hE a; intro a hE
              refine Rv.dq (v := Value.bool true) p20_7_73 ns20_7 hE wn_none hS9 (fun W hS => (st_pick rfl rfl)) ?_; clear hE a; intro a hE
              refine d_end (by kernel_rfl) ?_
              refine x_norm ?_
              refine c_cond (t := true) hE rfl ?_
              refine c_regL R20_8_l ?_
              refine q0 p20_8_0 hE (st_move rfl) ?_
              clear hE a; intro a hE
              refine q0 p20_8_1 hE (st_assign rfl) ?_
              clear hE a; intro a hE
              refine p_nil ?_
              refine x_normB ?_
              refine x_norm ?_
              refine c_regL R20_6_l ?_
              refine q0 p20_6_0 hE (st_move rfl) ?_
              clear hE a; intro a hE
              refine q0 p20_6_1 hE (st_add (z := (i : Int) + 1) rfl rfl (wr_i64 _ (by omega) (by omega))) ?_
              clear hE a; intro a hE
              refine q0 p20_6_2 hE (st_assign rfl) ?_
              clear hE a; intro a hE
              refine p_nil ?_
              refine x_norm ?_
              have hbo9 := best_first hbo hx hDU
              exact ⟨i + 1, by omega, (some i), En.sub hE ⟨rfl, rfl, rfl, rfl, rfl, trivial⟩, by omega, hbo9, B_gd, O_out, Nb_out_gd, Z_0_out, NN_out_M, O_M, Nb_M_gd, NN_M_out, K_0⟩
            ·
              obtain ⟨bn, rfl⟩ := Option.ne_none_iff_exists'.1 hBN
              have hbl := hbo.1
              obtain ⟨q, hxb⟩ : ∃ o, lc[bn]? = some o := ⟨_, List.getElem?_eq_getElem (by omega)⟩
              have hAeq := (Rv.rdv_elem (fl := fl2) O_M (by decide) (fun _ => rfl) hxb).1
              rcases Decidable.em (x.2 < q.2) with hA1 | hA1
              ·
                refine c_drawS (S := fun W => W.heap[gd]? = some (.cells #[Value.int .i64 (now + mn), Value.slice A_M lc.length c_M] 50 (0, 0)) ∧ (∀ j u, ([Value.int .i64 x.1, Value.int .i64 x.2])[j]? = some u → W.cell? (ea A_M (i * 2 + j)) = some u) ∧ (∀ j u, ([Value.int .i64 q.1, Value.int .i64 q.2])[j]? = some u → W.cell? (ea A_M (bn * 2 + j)) = some u) ∧ True) rfl rfl (listed := #[false, false, false, false, false, false, false, false, false, false, false, false, false, false, false, false, false, false, false, false, false, false, false, false, false, false, false, false, false, false, false, false, false, false, false, false, false, false, false, false, false, false, false, false, false, false, false, false, false, false, false, false, false, false, false, false, false, false, false, false, false, false, false, false, false, false, false, false, false, false, false, false, false, false]) rfl ?_
                intro w7 hh hk
                replace B_gd := kp_blk B_gd hk (fun h => h)
                replace O_out := own_keep O_out hk (fun _ _ h => h)
                replace O_M := Rv.rdv_keep O_M hk (fun _ _ h => h)
                replace K_0 := K_0.then_ hk (fun _ h => h.elim)
                clear hh hk
                have hS9 : w7.heap[gd]? = some (.cells #[Value.int .i64 (now + mn), Value.slice A_M lc.length c_M] 50 (0, 0)) ∧ (∀ j u, ([Value.int .i64 x.1, Value.int .i64 x.2])[j]? = some u → w7.cell? (ea A_M (i * 2 + j)) = some u) ∧ (∀ j u, ([Value.int .i64 q.1, Value.int .i64 q.2])[j]? = some u → w7.cell? (ea A_M (bn * 2 + j)) = some u) ∧ True := ⟨B_gd, (Rv.rdv_elem (fl := fl2) O_M (by decide) (fun _ => rfl) hx).2, (Rv.rdv_elem (fl := fl2) O_M (by decide) (fun _ => rfl) hxb).2, trivial⟩
                refine Rv.dq (v := Value.pointer (some ⟨gd, 0, none⟩)) p20_7_0 ns20_7 hE wn_none hS9 (fun W hS => (st_move rfl)) ?_; clear hE a; intro a hE
                refine Rv.dq (v := Value.pointer (some ⟨gd, 0, none⟩)) p20_7_1 ns20_7 hE wn_none hS9 (fun W hS => (st_nil rfl)) ?_; clear hE a; intro a hE
                refine Rv.dq (v := Value.pointer (some ⟨gd, 1, none⟩)) p20_7_2 ns20_7 hE wn_none hS9 (fun W hS => (st_fieldAddr Try.underlying50 rfl tS48 rfl rfl)) ?_; clear hE a; intro a hE
                refine Rv.dq (v := Value.slice A_M lc.length c_M) p20_7_3 ns20_7 hE wn_none hS9 (fun W hS => (st_load1 tA48 rfl ((blk_cell hS.1 1).trans rfl))) ?_; clear hE a; intro a hE
                refine Rv.dq (v := Value.int .i64 (i : Int)) p20_7_4 ns20_7 hE wn_none hS9 (fun W hS => (st_move rfl)) ?_; clear hE a; intro a hE
                refine Rv.dq (v := Value.pointer (some (ea A_M (i * 2)))) p20_7_5 ns20_7 hE wn_none hS9 (fun W hS => (st_indexAddrR (i := i) (s := 2) Try.underlying48 tS77 hAex rfl rfl (by omega))) ?_; clear hE a; intro a hE
                refine Rv.dq (v := Value.pointer (some (ea A_M (i * 2 + 1)))) p20_7_6 ns20_7 hE wn_none hS9 (fun W hS => (st_fieldAddrR (off := i * 2) (f0 := 1) (o' := i * 2 + 1) Try.underlying77 rfl tS3 rfl (by omega) rfl)) ?_; clear hE a; intro a hE
                refine Rv.dq (v := Value.int .i64 x.2) p20_7_7 ns20_7 hE wn_none hS9 (fun W hS => (st_loadR1 (off := i * 2) (j := 1) tA3 (hS.2.1) rfl (by omega) rfl)) ?_; clear hE a; intro a hE
                refine Rv.dq (v := Value.pointer (some ⟨gd, 0, none⟩)) p20_7_8 ns20_7 hE wn_none hS9 (fun W hS => (st_move rfl)) ?_; clear hE a; intro a hE
                refine Rv.dq (v := Value.pointer (some ⟨gd, 0, none⟩)) p20_7_9 ns20_7 hE wn_none hS9 (fun W hS => (st_nil rfl)) ?_; clear hE a; intro a hE
                refine Rv.dq (v := Value.pointer (some ⟨gd, 0, none⟩)) p20_7_10 ns20_7 hE wn_none hS9 (fun W hS => (st_fieldAddr Try.underlying50 rfl tS3 rfl rfl)) ?_; clear hE a; intro a hE
                refine Rv.dq (v := Value.int .i64 (now + mn)) p20_7_11 ns20_7 hE wn_none hS9 (fun W hS => (st_load1 tA3 rfl ((blk_cell hS.1 0).trans rfl))) ?_; clear hE a; intro a hE
                refine Rv.dq (v := Value.bool true) p20_7_12 ns20_7 hE wn_none hS9 (fun W hS => (st_leq (b := true) rfl rfl (decide_eq_true hDU))) ?_; clear hE a; intro a hE
                refine Rv.dq (v := Value.bool true) p20_7_13 ns20_7 hE wn_none hS9 (fun W hS => (st_move rfl)) ?_; clear hE a; intro a hE
                refine Rv.dq (v := Value.int .i64 (bn : Int)) p20_7_14 ns20_7 hE (wn_some g20_7_13 rfl rfl) hS9 (fun W hS => (st_move rfl)) ?_; clear hE a; intro a hE
                refine Rv.dq (v := Value.bool false) p20_7_15 ns20_7 hE (wn_some g20_7_13 rfl rfl) hS9 (fun W hS => (st_lss (b := false) rfl rfl (decide_eq_false (by omega)))) ?_; clear hE a; intro a hE
                refine Rv.dq (v := Value.bool false) p20_7_16 ns20_7 hE (wn_some g20_7_13 rfl rfl) hS9 (fun W hS => (st_move rfl)) ?_; clear hE a; intro a hE
                refine Rv.dq (v := Value.pointer (some ⟨gd, 0, none⟩)) p20_7_17 ns20_7 hE (wn_some g20_7_16 rfl rfl) hS9 (fun W hS => (st_move rfl)) ?_; clear hE a; intro a hE
                refine Rv.dq (v := Value.pointer (some ⟨gd, 0, none⟩)) p20_7_18 ns20_7 hE (wn_some g20_7_16 rfl rfl) hS9 (fun W hS => (st_nil rfl)) ?_; clear hE a; intro a hE
                refine Rv.dq (v := Value.pointer (some ⟨gd, 1, none⟩)) p20_7_19 ns20_7 hE (wn_some g20_7_16 rfl rfl) hS9 (fun W hS => (st_fieldAddr Try.underlying50 rfl tS48 rfl rfl)) ?_; clear hE a; intro a hE
                refine Rv.dq (v := Value.slice A_M lc.length c_M) p20_7_20 ns20_7 hE (wn_some g20_7_16 rfl rfl) hS9 (fun W hS => (st_load1 tA48 rfl ((blk_cell hS.1 1).trans rfl))) ?_; clear hE a; intro a hE
                refine Rv.dq (v := Value.int .i64 (i : Int)) p20_7_21 ns20_7 hE (wn_some g20_7_16 rfl rfl) hS9 (fun W hS => (st_move rfl)) ?_; clear hE a; intro a hE
                refine Rv.dq (v := Value.pointer (some (ea A_M (i * 2)))) p20_7_22 ns20_7 hE (wn_some g20_7_16 rfl rfl) hS9 (fun W hS => (st_indexAddrR (i := i) (s := 2) Try.underlying48 tS77 hAex rfl rfl (by omega))) ?_; clear hE a; intro a hE
                refine Rv.dq (v := Value.pointer (some (ea A_M (i * 2 + 1)))) p20_7_23 ns20_7 hE (wn_some g20_7_16 rfl rfl) hS9 (fun W hS => (st_fieldAddrR (off := i * 2) (f0 := 1) (o' := i * 2 + 1) Try.underlying77 rfl tS3 rfl (by omega) rfl)) ?_; clear hE a; intro a hE
                refine Rv.dq (v := Value.int .i64 x.2) p20_7_24 ns20_7 hE (wn_some g20_7_16 rfl rfl) hS9 (fun W hS => (st_loadR1 (off := i * 2) (j := 1) tA3 (hS.2.1) rfl (by omega) rfl)) ?_; clear hE a; intro a hE
                refine Rv.dq (v := Value.pointer (some ⟨gd, 0, none⟩)) p20_7_25 ns20_7 hE (wn_some g20_7_16 rfl rfl) hS9 (fun W hS => (st_move rfl)) ?_; clear hE a; intro a hE
                refine Rv.dq (v := Value.pointer (some ⟨gd, 0, none⟩)) p20_7_26 ns20_7 hE (wn_some g20_7_16 rfl rfl) hS9 (fun W hS => (st_nil rfl)) ?_; clear hE a; intro a hE
                refine Rv.dq (v := Value.pointer (some ⟨gd, 1, none⟩)) p20_7_27 ns20_7 hE (wn_some g20_7_16 rfl rfl) hS9 (fun W hS => (st_fieldAddr Try.underlying50 rfl tS48 rfl rfl)) ?_; clear hE a; intro a hE
                refine Rv.dq (v := Value.slice A_M lc.length c_M) p20_7_28 ns20_7 hE (wn_some g20_7_16 rfl rfl) hS9 (fun W hS => (st_load1 tA48 rfl ((blk_cell hS.1 1).trans rfl))) ?_; clear hE a; intro a hE
                refine Rv.dq (v := Value.int .i64 (bn : Int)) p20_7_29 ns20_7 hE (wn_some g20_7_16 rfl rfl) hS9 (fun W hS => (st_move rfl)) ?_; clear hE a; intro a hE
                refine Rv.dq (v := Value.pointer (some (ea A_M (bn * 2)))) p20_7_30 ns20_7 hE (wn_some g20_7_16 rfl rfl) hS9 (fun W hS => (st_indexAddrR (i := bn) (s := 2) Try.underlying48 tS77 hAeq rfl rfl (by omega))) ?_; clear hE a; intro a hE
                refine Rv.dq (v := Value.pointer (some (ea A_M (bn * 2 + 1)))) p20_7_31 ns20_7 hE (wn_some g20_7_16 rfl rfl) hS9 (fun W hS => (st_fieldAddrR (off := bn * 2) (f0 := 1) (o' := bn * 2 + 1) Try.underlying77 rfl tS3 rfl (by omega) rfl)) ?_; clear hE a; intro a hE
                refine Rv.dq (v := Value.int .i64 q.2) p20_7_32 ns20_7 hE (wn_some g20_7_16 rfl rfl) hS9 (fun W hS => (st_loadR1 (off := bn * 2) (j := 1) tA3 (hS.2.2.1) rfl (by omega) rfl)) ?_; clear hE a; intro a hE
                refine Rv.dq (v := Value.bool true) p20_7_33 ns20_7 hE (wn_some g20_7_16 rfl rfl) hS9 (fun W hS => (st_lss (b := true) rfl rfl (decide_eq_true hA1))) ?_; clear hE a; intro a hE
                refine Rv.dq (v := Value.bool true) p20_7_34 ns20_7 hE (wn_some g20_7_13 rfl rfl) hS9 (fun W hS => (st_pick rfl rfl)) ?_; clear hE a; intro a hE
                refine Rv.dq (v := Value.bool true) p20_7_35 ns20_7 hE (wn_some g20_7_13 rfl rfl) hS9 (fun W hS => (st_move rfl)) ?_; clear hE a; intro a hE
                refine Rv.dk p20_7_36 ns20_7 hE (wn_some g20_7_35 rfl rfl) hS9 ?_; clear hE a; intro a hE
                refine Rv.dk p20_7_37 ns20_7 hE (wn_some g20_7_35 rfl rfl) hS9 ?_; clear hE a; intro a hE
                refine Rv.dk p20_7_38 ns20_7 hE (wn_some g20_7_35 rfl rfl) hS9 ?_; clear hE a; intro a hE
                refine Rv.dk p20_7_39 ns20_7 hE (wn_some g20_7_35 rfl rfl) hS9 ?_; clear hE a; intro a hE
                refine Rv.dk p20_7_40 ns20_7 hE (wn_some g20_7_35 rfl rfl) hS9 ?_; clear hE a; intro a hE
                refine Rv.dk p20_7_41 ns20_7 hE (wn_some g20_7_35 rfl rfl) hS9 ?_; clear hE a; intro a hE
                refine Rv.dk p20_7_42 ns20_7 hE (wn_some g20_7_35 rfl rfl) hS9 ?_; clear hE a; intro a hE
                refine Rv.dk p20_7_43 ns20_7 hE (wn_some g20_7_35 rfl rfl) hS9 ?_; clear hE a; intro a hE
                refine Rv.dk p20_7_44 ns20_7 hE (wn_some g20_7_35 rfl rfl) hS9 ?_; clear hE a; intro a hE
                refine Rv.dk p20_7_45 ns20_7 hE (wn_some g20_7_35 rfl rfl) hS9 ?_; clear hE a; intro a hE
                refine Rv.dk p20_7_46 ns20_7 hE (wn_some g20_7_35 rfl rfl) hS9 ?_; clear hE a; intro a hE
                refine Rv.dk p20_7_47 ns20_7 hE (wn_some g20_7_35 rfl rfl) hS9 ?_; clear hE a; intro a hE
                refine Rv.dk p20_7_48 ns20_7 hE (wn_some g20_7_35 rfl rfl) hS9 ?_; clear hE a; intro a hE
                refine Rv.dk p20_7_49 ns20_7 hE (wn_some g20_7_35 rfl rfl) hS9 ?_; clear hE a; intro a hE
                refine Rv.dk p20_7_50 ns20_7 hE (wn_some g20_7_35 rfl rfl) hS9 ?_; clear hE a; intro a hE
                refine Rv.dk p20_7_51 ns20_7 hE (wn_some g20_7_35 rfl rfl) hS9 ?_; clear hE a; intro a hE
                refine Rv.dk p20_7_52 ns20_7 hE (wn_some g20_7_35 rfl rfl) hS9 ?_; clear hE a; intro a hE
                refine Rv.dk p20_7_53 ns20_7 hE (wn_some g20_7_35 rfl rfl) hS9 ?_; clear hE a; intro a hE
                refine Rv.dk p20_7_54 ns20_7 hE (wn_undef g20_7_53 rfl) hS9 ?_; clear hE a; intro a hE
                refine Rv.dk p20_7_55 ns20_7 hE (wn_undef g20_7_53 rfl) hS9 ?_; clear hE a; intro a hE
                refine Rv.dk p20_7_56 ns20_7 hE (wn_undef g20_7_53 rfl) hS9 ?_; clear hE a; intro a hE
                refine Rv.dk p20_7_57 ns20_7 hE (wn_undef g20_7_53 rfl) hS9 ?_; clear hE a; intro a hE
                refine Rv.dk p20_7_58 ns20_7 hE (wn_undef g20_7_53 rfl) hS9 ?_; clear hE a; intro a hE
                refine Rv.dk p20_7_59 ns20_7 hE (wn_undef g20_7_53 rfl) hS9 ?_; clear hE a; intro a hE
                refine Rv.dk p20_7_60 ns20_7 hE (wn_undef g20_7_53 rfl) hS9 ?_; clear hE a; intro a hE
                refine Rv.dk p20_7_61 ns20_7 hE (wn_undef g20_7_53 rfl) hS9 ?_; clear hE a; intro a hE
                refine Rv.dk p20_7_62 ns20_7 hE (wn_undef g20_7_53 rfl) hS9 ?_; clear hE a; intro a hE
                refine Rv.dk p20_7_63 ns20_7 hE (wn_undef g20_7_53 rfl) hS9 ?_; clear hE a; intro a hE
                refine Rv.dk p20_7_64 ns20_7 hE (wn_undef g20_7_53 rfl) hS9 ?_; clear hE a; intro a hE
                refine Rv.dk p20_7_65 ns20_7 hE (wn_undef g20_7_53 rfl) hS9 ?_; clear hE a; intro a hE
                refine Rv.dk p20_7_66 ns20_7 hE (wn_undef g20_7_53 rfl) hS9 ?_; clear hE a; intro a hE
                refine Rv.dk p20_7_67 ns20_7 hE (wn_undef g20_7_53 rfl) hS9 ?_; clear hE a; intro a hE
                refine Rv.dk p20_7_68 ns20_7 hE (wn_undef g20_7_53 rfl) hS9 ?_; clear hE a; intro a hE
                refine Rv.dk p20_7_69 ns20_7 hE (wn_undef g20_7_53 rfl) hS9 ?_; clear hE a; intro a hE
                refine Rv.dk p20_7_70 ns20_7 hE (wn_undef g20_7_53 rfl) hS9 ?_; clear hE a; intro a hE
                refine Rv.dk p20_7_71 ns20_7 hE (wn_some g20_7_35 rfl rfl) hS9 ?_; clear hE a; intro a hE
                refine Rv.dq (v := Value.bool true) p20_7_72 ns20_7 hE (wn_some g20_7_13 rfl rfl) hS9 (fun W hS => (st_pick rfl rfl)) ?_; clear hE a; intro a hE
                refine Rv.dq (v := Value.bool true) p20_7_73 ns20_7 hE wn_none hS9 (fun W hS => (st_pick rfl rfl)) ?_; clear hE a; intro a hE
                refine d_end (by kernel_rfl) ?_
                refine x_norm ?_
                refine c_cond (t := true) hE rfl ?_
                refine c_regL R20_8_l ?_
                refine q0 p20_8_0 hE (st_move rfl) ?_
                clear hE a; intro a hE
                refine q0 p20_8_1 hE (st_assign rfl) ?_
                clear hE a; intro a hE
                refine p_nil ?_
                refine x_normB ?_
                refine x_norm ?_
                refine c_regL R20_6_l ?_
                refine q0 p20_6_0 hE (st_move rfl) ?_
                clear hE a; intro a hE
                refine q0 p20_6_1 hE (st_add (z := (i : Int) + 1) rfl rfl (wr_i64 _ (by omega) (by omega))) ?_
                clear hE a; intro a hE
                refine q0 p20_6_2 hE (st_assign rfl) ?_
                clear hE a; intro a hE
                refine p_nil ?_
                refine x_norm ?_
                have hbo9 := best_take hbo hxb hx hDU (show lex x q from by unfold lex; omega)
                exact ⟨i + 1, by omega, (some i), En.sub hE ⟨rfl, rfl, rfl, rfl, rfl, trivial⟩, by omega, hbo9, B_gd, O_out, Nb_out_gd, Z_0_out, NN_out_M, O_M, Nb_M_gd, NN_M_out, K_0⟩
              ·
                rcases Decidable.em (x.2 = q.2) with hEQ | hEQ
                ·
                  rcases Decidable.em (x.1 < q.1) with hA2 | hA2
                  ·
                    refine c_drawS (S := fun W => W.heap[gd]? = some (.cells #[Value.int .i64 (now + mn), Value.slice A_M lc.length c_M] 50 (0, 0)) ∧ (∀ j u, ([Value.int .i64 x.1, Value.int .i64 x.2])[j]? = some u → W.cell? (ea A_M (i * 2 + j)) = some u) ∧ (∀ j u, ([Value.int .i64 q.1, Value.int .i64 q.2])[j]? = some u → W.cell? (ea A_M (bn * 2 + j)) = some u) ∧ True) rfl rfl (listed := #[false, false, false, false, false, false, false, false, false, false, false, false, false, false, false, false, false, false, false, false, false, false, false, false, false, false, false, false, false, false, false, false, false, false, false, false, false, false, false, false, false, false, false, false, false, false, false, false, false, false, false, false, false, false, false, false, false, false, false, false, false, false, false, false, false, false, false, false, false, false, false, false, false, false]) rfl ?_
                    intro w8 hh hk
                    replace B_gd := kp_blk B_gd hk (fun h => h)
                    replace O_out := own_keep O_out hk (fun _ _ h => h)
                    replace O_M := Rv.rdv_keep O_M hk (fun _ _ h => h)
                    replace K_0 := K_0.then_ hk (fun _ h => h.elim)
                    clear hh hk
                    have hS9 : w8.heap[gd]? = some (.cells #[Value.int .i64 (now + mn), Value.slice A_M lc.length c_M] 50 (0, 0)) ∧ (∀ j u, ([Value.int .i64 x.1, Value.int .i64 x.2])[j]? = some u → w8.cell? (ea A_M (i * 2 + j)) = some u) ∧ (∀ j u, ([Value.int .i64 q.1, Value.int .i64 q.2])[j]? = some u → w8.cell? (ea A_M (bn * 2 + j)) = some u) ∧ True := ⟨B_gd, (Rv.rdv_elem (fl := fl2) O_M (by decide) (fun _ => rfl) hx).2, (Rv.rdv_elem (fl := fl2) O_M (by decide) (fun _ => rfl) hxb).2, trivial⟩
                    refine Rv.dq (v := Value.pointer (some ⟨gd, 0, none⟩)) p20_7_0 ns20_7 hE wn_none hS9 (fun W hS => (st_move rfl)) ?_; clear hE a; intro a hE
                    refine Rv.dq (v := Value.pointer (some ⟨gd, 0, none⟩)) p20_7_1 ns20_7 hE wn_none hS9 (fun W hS => (st_nil rfl)) ?_; clear hE a; intro a hE
                    refine Rv.dq (v := Value.pointer (some ⟨gd, 1, none⟩)) p20_7_2 ns20_7 hE wn_none hS9 (fun W hS => (st_fieldAddr Try.underlying50 rfl tS48 rfl rfl)) ?_; clear hE a; intro a hE
                    refine Rv.dq (v := Value.slice A_M lc.length c_M) p20_7_3 ns20_7 hE wn_none hS9 (fun W hS => (st_load1 tA48 rfl ((blk_cell hS.1 1).trans rfl))) ?_; clear hE a; intro a hE
                    refine Rv.dq (v := Value.int .i64 (i : Int)) p20_7_4 ns20_7 hE wn_none hS9 (fun W hS => (st_move rfl)) ?_; clear hE a; intro a hE
                    refine Rv.dq (v := Value.pointer (some (ea A_M (i * 2)))) p20_7_5 ns20_7 hE wn_none hS9 (fun W hS => (st_indexAddrR (i := i) (s := 2) Try.underlying48 tS77 hAex rfl rfl (by omega))) ?_; clear hE a; intro a hE
                    refine Rv.dq (v := Value.pointer (some (ea A_M (i * 2 + 1)))) p20_7_6 ns20_7 hE wn_none hS9 (fun W hS => (st_fieldAddrR (off := i * 2) (f0 := 1) (o' := i * 2 + 1) Try.underlying77 rfl tS3 rfl (by omega) rfl)) ?_; clear hE a; intro a hE
                    refine Rv.dq (v := Value.int .i64 x.2) p20_7_7 ns20_7 hE wn_none hS9 (fun W hS => (st_loadR1 (off := i * 2) (j := 1) tA3 (hS.2.1) rfl (by omega) rfl)) ?_; clear hE a; intro a hE
                    refine Rv.dq (v := Value.pointer (some ⟨gd, 0, none⟩)) p20_7_8 ns20_7 hE wn_none hS9 (fun W hS => (st_move rfl)) ?_; clear hE a; intro a hE
                    refine Rv.dq (v := Value.pointer (some ⟨gd, 0, none⟩)) p20_7_9 ns20_7 hE wn_none hS9 (fun W hS => (st_nil rfl)) ?_; clear hE a; intro a hE
                    refine Rv.dq (v := Value.pointer (some ⟨gd, 0, none⟩)) p20_7_10 ns20_7 hE wn_none hS9 (fun W hS => (st_fieldAddr Try.underlying50 rfl tS3 rfl rfl)) ?_; clear hE a; intro a hE
                    refine Rv.dq (v := Value.int .i64 (now + mn)) p20_7_11 ns20_7 hE wn_none hS9 (fun W hS => (st_load1 tA3 rfl ((blk_cell hS.1 0).trans rfl))) ?_; clear hE a; intro a hE
                    refine Rv.dq (v := Value.bool true) p20_7_12 ns20_7 hE wn_none hS9 (fun W hS => (st_leq (b := true) rfl rfl (decide_eq_true hDU))) ?_; clear hE a; intro a hE
                    refine Rv.dq (v := Value.bool true) p20_7_13 ns20_7 hE wn_none hS9 (fun W hS => (st_move rfl)) ?_; clear hE a; intro a hE
                    refine Rv.dq (v := Value.int .i64 (bn : Int)) p20_7_14 ns20_7 hE (wn_some g20_7_13 rfl rfl) hS9 (fun W hS => (st_move rfl)) ?_; clear hE a; intro a hE
                    refine Rv.dq (v := Value.bool false) p20_7_15 ns20_7 hE (wn_some g20_7_13 rfl rfl) hS9 (fun W hS => (st_lss (b := false) rfl rfl (decide_eq_false (by omega)))) ?_; clear hE a; intro a hE
                    refine Rv.dq (v := Value.bool false) p20_7_16 ns20_7 hE (wn_some g20_7_13 rfl rfl) hS9 (fun W hS => (st_move rfl)) ?_; clear hE a; intro a hE
                    refine Rv.dq (v := Value.pointer (some ⟨gd, 0, none⟩)) p20_7_17 ns20_7 hE (wn_some g20_7_16 rfl rfl) hS9 (fun W hS => (st_move rfl)) ?_; clear hE a; intro a hE
                    refine Rv.dq (v := Value.pointer (some ⟨gd, 0, none⟩)) p20_7_18 ns20_7 hE (wn_some g20_7_16 rfl rfl) hS9 (fun W hS => (st_nil rfl)) ?_; clear hE a; intro a hE
                    refine Rv.dq (v := Value.pointer (some ⟨gd, 1, none⟩)) p20_7_19 ns20_7 hE (wn_some g20_7_16 rfl rfl) hS9 (fun W hS => (st_fieldAddr Try.underlying50 rfl tS48 rfl rfl)) ?_; clear hE a; intro a hE
                    refine Rv.dq (v := Value.slice A_M lc.length c_M) p20_7_20 ns20_7 hE (wn_some g20_7_16 rfl rfl) hS9 (fun W hS => (st_load1 tA48 rfl ((blk_cell hS.1 1).trans rfl))) ?_; clear hE a; intro a hE
                    refine Rv.dq (v := Value.int .i64 (i : Int)) p20_7_21 ns20_7 hE (wn_some g20_7_16 rfl rfl) hS9 (fun W hS => (st_move rfl)) ?_; clear hE a; intro a hE
                    refine Rv.dq (v := Value.pointer (some (ea A_M (i * 2)))) p20_7_22 ns20_7 hE (wn_some g20_7_16 rfl rfl) hS9 (fun W hS => (st_indexAddrR (i := i) (s := 2) Try.underlying48 tS77 hAex rfl rfl (by omega))) ?_; clear hE a; intro a hE
                    refine Rv.dq (v := Value.pointer (some (ea A_M (i * 2 + 1)))) p20_7_23 ns20_7 hE (wn_some g20_7_16 rfl rfl) hS9 (fun W hS => (st_fieldAddrR (off := i * 2) (f0 := 1) (o' := i * 2 + 1) Try.underlying77 rfl tS3 rfl (by omega) rfl)) ?_; clear hE a; intro a hE
                    refine Rv.dq (v := Value.int .i64 x.2) p20_7_24 ns20_7 hE (wn_some g20_7_16 rfl rfl) hS9 (fun W hS => (st_loadR1 (off := i * 2) (j := 1) tA3 (hS.2.1) rfl (by omega) rfl)) ?_; clear hE a; intro a hE
                    refine Rv.dq (v := Value.pointer (some ⟨gd, 0, none⟩)) p20_7_25 ns20_7 hE (wn_some g20_7_16 rfl rfl) hS9 (fun W hS => (st_move rfl)) ?_; clear hE a; intro a hE
                    refine Rv.dq (v := Value.pointer (some ⟨gd, 0, none⟩)) p20_7_26 ns20_7 hE (wn_some g20_7_16 rfl rfl) hS9 (fun W hS => (st_nil rfl)) ?_; clear hE a; intro a hE
                    refine Rv.dq (v := Value.pointer (some ⟨gd, 1, none⟩)) p20_7_27 ns20_7 hE (wn_some g20_7_16 rfl rfl) hS9 (fun W hS => (st_fieldAddr Try.underlying50 rfl tS48 rfl rfl)) ?_; clear hE a; intro a hE
                    refine Rv.dq (v := Value.slice A_M lc.length c_M) p20_7_28 ns20_7 hE (wn_some g20_7_16 rfl rfl) hS9 (fun W hS => (st_load1 tA48 rfl ((blk_cell hS.1 1).trans rfl))) ?_; clear hE a; intro a hE
                    refine Rv.dq (v := Value.int .i64 (bn : Int)) p20_7_29 ns20_7 hE (wn_some g20_7_16 rfl rfl) hS9 (fun W hS => (st_move rfl)) ?_; clear hE a; intro a hE
                    refine Rv.dq (v := Value.pointer (some (ea A_M (bn * 2)))) p20_7_30 ns20_7 hE (wn_some g20_7_16 rfl rfl) hS9 (fun W hS => (st_indexAddrR (i := bn) (s := 2) Try.underlying48 tS77 hAeq rfl rfl (by omega))) ?_; clear hE a; intro a hE
                    refine Rv.dq (v := Value.pointer (some (ea A_M (bn * 2 + 1)))) p20_7_31 ns20_7 hE (wn_some g20_7_16 rfl rfl) hS9 (fun W hS => (st_fieldAddrR (off := bn * 2) (f0 := 1) (o' := bn * 2 + 1) Try.underlying77 rfl tS3 rfl (by omega) rfl)) ?_; clear hE a; intro a hE
                    refine Rv.dq (v := Value.int .i64 q.2) p20_7_32 ns20_7 hE (wn_some g20_7_16 rfl rfl) hS9 (fun W hS => (st_loadR1 (off := bn * 2) (j := 1) tA3 (hS.2.2.1) rfl (by omega) rfl)) ?_; clear hE a; intro a hE
                    refine Rv.dq (v := Value.bool false) p20_7_33 ns20_7 hE (wn_some g20_7_16 rfl rfl) hS9 (fun W hS => (st_lss (b := false) rfl rfl (decide_eq_false hA1))) ?_; clear hE a; intro a hE
                    refine Rv.dq (v := Value.bool false) p20_7_34 ns20_7 hE (wn_some g20_7_13 rfl rfl) hS9 (fun W hS => (st_pick rfl rfl)) ?_; clear hE a; intro a hE
                    refine Rv.dq (v := Value.bool false) p20_7_35 ns20_7 hE (wn_some g20_7_13 rfl rfl) hS9 (fun W hS => (st_move rfl)) ?_; clear hE a; intro a hE
                    refine Rv.dq (v := Value.pointer (some ⟨gd, 0, none⟩)) p20_7_36 ns20_7 hE (wn_some g20_7_35 rfl rfl) hS9 (fun W hS => (st_move rfl)) ?_; clear hE a; intro a hE
                    refine Rv.dq (v := Value.pointer (some ⟨gd, 0, none⟩)) p20_7_37 ns20_7 hE (wn_some g20_7_35 rfl rfl) hS9 (fun W hS => (st_nil rfl)) ?_; clear hE a; intro a hE
                    refine Rv.dq (v := Value.pointer (some ⟨gd, 1, none⟩)) p20_7_38 ns20_7 hE (wn_some g20_7_35 rfl rfl) hS9 (fun W hS => (st_fieldAddr Try.underlying50 rfl tS48 rfl rfl)) ?_; clear hE a; intro a hE
                    refine Rv.dq (v := Value.slice A_M lc.length c_M) p20_7_39 ns20_7 hE (wn_some g20_7_35 rfl rfl) hS9 (fun W hS => (st_load1 tA48 rfl ((blk_cell hS.1 1).trans rfl))) ?_; clear hE a; intro a hE
                    refine Rv.dq (v := Value.int .i64 (i : Int)) p20_7_40 ns20_7 hE (wn_some g20_7_35 rfl rfl) hS9 (fun W hS => (st_move rfl)) ?_; clear hE a; intro a hE
                    refine Rv.dq (v := Value.pointer (some (ea A_M (i * 2)))) p20_7_41 ns20_7 hE (wn_some g20_7_35 rfl rfl) hS9 (fun W hS => (st_indexAddrR (i := i) (s := 2) Try.underlying48 tS77 hAex rfl rfl (by omega))) ?_; clear hE a; intro a hE
                    refine Rv.dq (v := Value.pointer (some (ea A_M (i * 2 + 1)))) p20_7_42 ns20_7 hE (wn_some g20_7_35 rfl rfl) hS9 (fun W hS => (st_fieldAddrR (off := i * 2) (f0 := 1) (o' := i * 2 + 1) Try.underlying77 rfl tS3 rfl (by omega) rfl)) ?_; clear hE a; intro a hE
                    refine Rv.dq (v := Value.int .i64 x.2) p20_7_43 ns20_7 hE (wn_some g20_7_35 rfl rfl) hS9 (fun W hS => (st_loadR1 (off := i * 2) (j := 1) tA3 (hS.2.1) rfl (by omega) rfl)) ?_; clear hE a; intro a hE
                    refine Rv.dq (v := Value.pointer (some ⟨gd, 0, none⟩)) p20_7_44 ns20_7 hE (wn_some g20_7_35 rfl rfl) hS9 (fun W hS => (st_move rfl)) ?_; clear hE a; intro a hE
                    refine Rv.dq (v := Value.pointer (some ⟨gd, 0, none⟩)) p20_7_45 ns20_7 hE (wn_some g20_7_35 rfl rfl) hS9 (fun W hS => (st_nil rfl)) ?_; clear hE a; intro a hE
                    refine Rv.dq (v := Value.pointer (some ⟨gd, 1, none⟩)) p20_7_46 ns20_7 hE (wn_some g20_7_35 rfl rfl) hS9 (fun W hS => (st_fieldAddr Try.underlying50 rfl tS48 rfl rfl)) ?_; clear hE a; intro a hE
                    refine Rv.dq (v := Value.slice A_M lc.length c_M) p20_7_47 ns20_7 hE (wn_some g20_7_35 rfl rfl) hS9 (fun W hS => (st_load1 tA48 rfl ((blk_cell hS.1 1).trans rfl))) ?_; clear hE a; intro a hE
                    refine Rv.dq (v := Value.int .i64 (bn : Int)) p20_7_48 ns20_7 hE (wn_some g20_7_35 rfl rfl) hS9 (fun W hS => (st_move rfl)) ?_; clear hE a; intro a hE
                    refine Rv.dq (v := Value.pointer (some (ea A_M (bn * 2)))) p20_7_49 ns20_7 hE (wn_some g20_7_35 rfl rfl) hS9 (fun W hS => (st_indexAddrR (i := bn) (s := 2) Try.underlying48 tS77 hAeq rfl rfl (by omega))) ?_; clear hE a; intro a hE
                    refine Rv.dq (v := Value.pointer (some (ea A_M (bn * 2 + 1)))) p20_7_50 ns20_7 hE (wn_some g20_7_35 rfl rfl) hS9 (fun W hS => (st_fieldAddrR (off := bn * 2) (f0 := 1) (o' := bn * 2 + 1) Try.underlying77 rfl tS3 rfl (by omega) rfl)) ?_; clear hE a; intro a hE
                    refine Rv.dq (v := Value.int .i64 q.2) p20_7_51 ns20_7 hE (wn_some g20_7_35 rfl rfl) hS9 (fun W hS => (st_loadR1 (off := bn * 2) (j := 1) tA3 (hS.2.2.1) rfl (by omega) rfl)) ?_; clear hE a; intro a hE
                    refine Rv.dq (v := Value.bool true) p20_7_52 ns20_7 hE (wn_some g20_7_35 rfl rfl) hS9 (fun W hS => (st_eql (b := true) rfl rfl (decide_eq_true hEQ))) ?_; clear hE a; intro a hE
                    refine Rv.dq (v := Value.bool true) p20_7_53 ns20_7 hE (wn_some g20_7_35 rfl rfl) hS9 (fun W hS => (st_move rfl)) ?_; clear hE a; intro a hE
                    refine Rv.dq (v := Value.pointer (some ⟨gd, 0, none⟩)) p20_7_54 ns20_7 hE (wn_some g20_7_53 rfl rfl) hS9 (fun W hS => (st_move rfl)) ?_; clear hE a; intro a hE
                    refine Rv.dq (v := Value.pointer (some ⟨gd, 0, none⟩)) p20_7_55 ns20_7 hE (wn_some g20_7_53 rfl rfl) hS9 (fun W hS => (st_nil rfl)) ?_; clear hE a; intro a hE
                    refine Rv.dq (v := Value.pointer (some ⟨gd, 1, none⟩)) p20_7_56 ns20_7 hE (wn_some g20_7_53 rfl rfl) hS9 (fun W hS => (st_fieldAddr Try.underlying50 rfl tS48 rfl rfl)) ?_; clear hE a; intro a hE
                    refine Rv.dq (v := Value.slice A_M lc.length c_M) p20_7_57 ns20_7 hE (wn_some g20_7_53 rfl rfl) hS9 (fun W hS => (st_load1 tA48 rfl ((blk_cell hS.1 1).trans rfl))) ?_; clear hE a; intro a hE
                    refine Rv.dq (v := Value.int .i64 (i : Int)) p20_7_58 ns20_7 hE (wn_some g20_7_53 rfl rfl) hS9 (fun W hS => (st_move rfl)) ?_; clear hE a; intro a hE
                    refine Rv.dq (v := Value.pointer (some (ea A_M (i * 2)))) p20_7_59 ns20_7 hE (wn_some g20_7_53 rfl rfl) hS9 (fun W hS => (st_indexAddrR (i := i) (s := 2) Try.underlying48 tS77 hAex rfl rfl (by omega))) ?_; clear hE a; intro a hE
                    refine Rv.dq (v := Value.pointer (some (ea A_M (i * 2)))) p20_7_60 ns20_7 hE (wn_some g20_7_53 rfl rfl) hS9 (fun W hS => (st_fieldAddrR (off := i * 2) (f0 := 0) (o' := i * 2) Try.underlying77 rfl tS3 rfl (by omega) rfl)) ?_; clear hE a; intro a hE
                    refine Rv.dq (v := Value.int .i64 x.1) p20_7_61 ns20_7 hE (wn_some g20_7_53 rfl rfl) hS9 (fun W hS => (st_loadR1 (off := i * 2) (j := 0) tA3 (hS.2.1) rfl (by omega) rfl)) ?_; clear hE a; intro a hE
                    refine Rv.dq (v := Value.pointer (some ⟨gd, 0, none⟩)) p20_7_62 ns20_7 hE (wn_some g20_7_53 rfl rfl) hS9 (fun W hS => (st_move rfl)) ?_; clear hE a; intro a hE
                    refine Rv.dq (v := Value.pointer (some ⟨gd, 0, none⟩)) p20_7_63 ns20_7 hE (wn_some g20_7_53 rfl rfl) hS9 (fun W hS => (st_nil rfl)) ?_; clear hE a; intro a hE
                    refine Rv.dq (v := Value.pointer (some ⟨gd, 1, none⟩)) p20_7_64 ns20_7 hE (wn_some g20_7_53 rfl rfl) hS9 (fun W hS => (st_fieldAddr Try.underlying50 rfl tS48 rfl rfl)) ?_; clear hE a; intro a hE
                    refine Rv.dq (v := Value.slice A_M lc.length c_M) p20_7_65 ns20_7 hE (wn_some g20_7_53 rfl rfl) hS9 (fun W hS => (st_load1 tA48 rfl ((blk_cell hS.1 1).trans rfl))) ?_; clear hE a; intro a hE
                    refine Rv.dq (v := Value.int .i64 (bn : Int)) p20_7_66 ns20_7 hE (wn_some g20_7_53 rfl rfl) hS9 (fun W hS => (st_move rfl)) ?_; clear hE a; intro a hE
                    refine Rv.dq (v := Value.pointer (some (ea A_M (bn * 2)))) p20_7_67 ns20_7 hE (wn_some g20_7_53 rfl rfl) hS9 (fun W hS => (st_indexAddrR (i := bn) (s := 2) Try.underlying48 tS77 hAeq rfl rfl (by omega))) ?_; clear hE a; intro a hE
                    refine Rv.dq (v := Value.pointer (some (ea A_M (bn * 2)))) p20_7_68 ns20_7 hE (wn_some g20_7_53 rfl rfl) hS9 (fun W hS => (st_fieldAddrR (off := bn * 2) (f0 := 0) (o' := bn * 2) Try.underlying77 rfl tS3 rfl (by omega) rfl)) ?_; clear hE a; intro a hE
                    refine Rv.dq (v := Value.int .i64 q.1) p20_7_69 ns20_7 hE (wn_some g20_7_53 rfl rfl) hS9 (fun W hS => (st_loadR1 (off := bn * 2) (j := 0) tA3 (hS.2.2.1) rfl (by omega) rfl)) ?_; clear hE a; intro a hE
                    refine Rv.dq (v := Value.bool true) p20_7_70 ns20_7 hE (wn_some g20_7_53 rfl rfl) hS9 (fun W hS => (st_lss (b := true) rfl rfl (decide_eq_true hA2))) ?_; clear hE a; intro a hE
                    refine Rv.dq (v := Value.bool true) p20_7_71 ns20_7 hE (wn_some g20_7_35 rfl rfl) hS9 (fun W hS => (st_pick rfl rfl)) ?_; clear hE a; intro a hE
                    refine Rv.dq (v := Value.bool true) p20_7_72 ns20_7 hE (wn_some g20_7_13 rfl rfl) hS9 (fun W hS => (st_pick rfl rfl)) ?_; clear hE a; intro a hE
                    refine Rv.dq (v := Value.bool true) p20_7_73 ns20_7 hE wn_none hS9 (fun W hS => (st_pick rfl rfl)) ?_; clear hE a; intro a hE
                    refine d_end (by kernel_rfl) ?_
                    refine x_norm ?_
                    refine c_cond (t := true) hE rfl ?_
                    refine c_regL R20_8_l ?_
                    refine q0 p20_8_0 hE (st_move rfl) ?_
                    clear hE a; intro a hE
                    refine q0 p20_8_1 hE (st_assign rfl) ?_
                    clear hE a; intro a hE
                    refine p_nil ?_
                    refine x_normB ?_
                    refine x_norm ?_
                    refine c_regL R20_6_l ?_
                    refine q0 p20_6_0 hE (st_move rfl) ?_
                    clear hE a; intro a hE
                    refine q0 p20_6_1 hE (st_add (z := (i : Int) + 1) rfl rfl (wr_i64 _ (by omega) (by omega))) ?_
                    clear hE a; intro a hE
                    refine q0 p20_6_2 hE (st_assign rfl) ?_
                    clear hE a; intro a hE
                    refine p_nil ?_
                    refine x_norm ?_
                    have hbo9 := best_take hbo hxb hx hDU (show lex x q from by unfold lex; omega)
                    exact ⟨i + 1, by omega, (some i), En.sub hE ⟨rfl, rfl, rfl, rfl, rfl, trivial⟩, by omega, hbo9, B_gd, O_out, Nb_out_gd, Z_0_out, NN_out_M, O_M, Nb_M_gd, NN_M_out, K_0⟩
                  ·
                    refine c_drawS (S := fun W => W.heap[gd]? = some (.cells #[Value.int .i64 (now + mn), Value.slice A_M lc.length c_M] 50 (0, 0)) ∧ (∀ j u, ([Value.int .i64 x.1, Value.int .i64 x.2])[j]? = some u → W.cell? (ea A_M (i * 2 + j)) = some u) ∧ (∀ j u, ([Value.int .i64 q.1, Value.int .i64 q.2])[j]? = some u → W.cell? (ea A_M (bn * 2 + j)) = some u) ∧ True) rfl rfl (listed := #[false, false, false, false, false, false, false, false, false, false, false, false, false, false, false, false, false, false, false, false, false, false, false, false, false, false, false, false, false, false, false, false, false, false, false, false, false, false, false, false, false, false, false, false, false, false, false, false, false, false, false, false, false, false, false, false, false, false, false, false, false, false, false, false, false, false, false, false, false, false, false, false, false, false]) rfl ?_
                    intro w9 hh hk
                    replace B_gd := kp_blk B_gd hk (fun h => h)
                    replace O_out := own_keep O_out hk (fun _ _ h => h)
                    replace O_M := Rv.rdv_keep O_M hk (fun _ _ h => h)
                    replace K_0 := K_0.then_ hk (fun _ h => h.elim)
                    clear hh hk
                    have hS9 : w9.heap[gd]? = some (.cells #[Value.int .i64 (now + mn), Value.slice A_M lc.length c_M] 50 (0, 0)) ∧ (∀ j u, ([Value.int .i64 x.1, Value.int .i64 x.2])[j]? = some u → w9.cell? (ea A_M (i * 2 + j)) = some u) ∧ (∀ j u, ([Value.int .i64 q.1, Value.int .i64 q.2])[j]? = some u → w9.cell? (ea A_M (bn * 2 + j)) = some u) ∧ True := ⟨B_gd, (Rv.rdv_elem (fl := fl2) O_M (by decide) (fun _ => rfl) hx).2, (Rv.rdv_elem (fl := fl2) O_M (by decide) (fun _ => rfl) hxb).2, trivial⟩
                    refine Rv.dq (v := Value.pointer (some ⟨gd, 0, none⟩)) p20_7_0 ns20_7 hE wn_none hS9 (fun W hS => (st_move rfl)) ?_; clear hE a; intro a hE
                    refine Rv.dq (v := Value.pointer (some ⟨gd, 0, none⟩)) p20_7_1 ns20_7 hE wn_none hS9 (fun W hS => (st_nil rfl)) ?_; clear hE a; intro a hE
                    refine Rv.dq (v := Value.pointer (some ⟨gd, 1, none⟩)) p20_7_2 ns20_7 hE wn_none hS9 (fun W hS => (st_fieldAddr Try.underlying50 rfl tS48 rfl rfl)) ?_; clear hE a; intro a hE
                    refine Rv.dq (v := Value.slice A_M lc.length c_M) p20_7_3 ns20_7 hE wn_none hS9 (fun W hS => (st_load1 tA48 rfl ((blk_cell hS.1 1).trans rfl))) ?_; clear hE a; intro a hE
                    refine Rv.dq (v := Value.int .i64 (i : Int)) p20_7_4 ns20_7 hE wn_none hS9 (fun W hS => (st_move rfl)) ?_; clear hE a; intro a hE
                    refine Rv.dq (v := Value.pointer (some (ea A_M (i * 2)))) p20_7_5 ns20_7 hE wn_none hS9 (fun W hS => (st_indexAddrR (i := i) (s := 2) Try.underlying48 tS77 hAex rfl rfl (by omega))) ?_; clear hE a; intro a hE
                    refine Rv.dq (v := Value.pointer (some (ea A_M (i * 2 + 1)))) p20_7_6 ns20_7 hE wn_none hS9 (fun W hS => (st_fieldAddrR (off := i * 2) (f0 := 1) (o' := i * 2 + 1) Try.underlying77 rfl tS3 rfl (by omega) rfl)) ?_; clear hE a; intro a hE
                    refine Rv.dq (v := Value.int .i64 x.2) p20_7_7 ns20_7 hE wn_none hS9 (fun W hS => (st_loadR1 (off := i * 2) (j := 1) tA3 (hS.2.1) rfl (by omega) rfl)) ?_; clear hE a; intro a hE
                    refine Rv.dq (v := Value.pointer (some ⟨gd, 0, none⟩)) p20_7_8 ns20_7 hE wn_none hS9 (fun W hS => (st_move rfl)) ?_; clear hE a; intro a hE
                    refine Rv.dq (v := Value.pointer (some ⟨gd, 0, none⟩)) p20_7_9 ns20_7 hE wn_none hS9 (fun W hS => (st_nil rfl)) ?_; clear hE a; intro a hE
                    refine Rv.dq (v := Value.pointer (some ⟨gd, 0, none⟩)) p20_7_10 ns20_7 hE wn_none hS9 (fun W hS => (st_fieldAddr Try.underlying50 rfl tS3 rfl rfl)) ?_; clear hE a; intro a hE
                    refine Rv.dq (v := Value.int .i64 (now + mn)) p20_7_11 ns20_7 hE wn_none hS9 (fun W hS => (st_load1 tA3 rfl ((blk_cell hS.1 0).trans rfl))) ?_; clear hE a; intro a hE
                    refine Rv.dq (v := Value.bool true) p20_7_12 ns20_7 hE wn_none hS9 (fun W hS => (st_leq (b := true) rfl rfl (decide_eq_true hDU))) ?_; clear hE a; intro a hE
                    refine Rv.dq (v := Value.bool true) p20_7_13 ns20_7 hE wn_none hS9 (fun W hS => (st_move rfl)) ?_; clear hE a; intro a hE
                    refine Rv.dq (v := Value.int .i64 (bn : Int)) p20_7_14 ns20_7 hE (wn_some g20_7_13 rfl rfl) hS9 (fun W hS => (st_move rfl)) ?_; clear hE a; intro a hE
                    refine Rv.dq (v := Value.bool false) p20_7_15 ns20_7 hE (wn_some g20_7_13 rfl rfl) hS9 (fun W hS => (st_lss (b := false) rfl rfl (decide_eq_false (by omega)))) ?_; clear hE a; intro a hE
                    refine Rv.dq (v := Value.bool false) p20_7_16 ns20_7 hE (wn_some g20_7_13 rfl rfl) hS9 (fun W hS => (st_move rfl)) ?_; clear hE a; intro a hE
                    refine Rv.dq (v := Value.pointer (some ⟨gd, 0, none⟩)) p20_7_17 ns20_7 hE (wn_some g20_7_16 rfl rfl) hS9 (fun W hS => (st_move rfl)) ?_; clear hE a; intro a hE
                    refine Rv.dq (v := Value.pointer (some ⟨gd, 0, none⟩)) p20_7_18 ns20_7 hE (wn_some g20_7_16 rfl rfl) hS9 (fun W hS => (st_nil rfl)) ?_; clear hE a; intro a hE
                    refine Rv.dq (v := Value.pointer (some ⟨gd, 1, none⟩)) p20_7_19 ns20_7 hE (wn_some g20_7_16 rfl rfl) hS9 (fun W hS => (st_fieldAddr Try.underlying50 rfl tS48 rfl rfl)) ?_; clear hE a; intro a hE
                    refine Rv.dq (v := Value.slice A_M lc.length c_M) p20_7_20 ns20_7 hE (wn_some g20_7_16 rfl rfl) hS9 (fun W hS => (st_load1 tA48 rfl ((blk_cell hS.1 1).trans rfl))) ?_; clear hE a; intro a hE
                    refine Rv.dq (v := Value.int .i64 (i : Int)) p20_7_21 ns20_7 hE (wn_some g20_7_16 rfl rfl) hS9 (fun W hS => (st_move rfl)) ?_; clear hE a; intro a hE
                    refine Rv.dq (v := Value.pointer (some (ea A_M (i * 2)))) p20_7_22 ns20_7 hE (wn_some g20_7_16 rfl rfl) hS9 (fun W hS => (st_indexAddrR (i := i) (s := 2) Try.underlying48 tS77 hAex rfl rfl (by omega))) ?_; clear hE a; intro a hE
                    refine Rv.dq (v := Value.pointer (some (ea A_M (i * 2 + 1)))) p20_7_23 ns20_7 hE (wn_some g20_7_16 rfl rfl) hS9 (fun W hS => (st_fieldAddrR (off := i * 2) (f0 := 1) (o' := i * 2 + 1) Try.underlying77 rfl tS3 rfl (by omega) rfl)) ?_; clear hE a; intro a hE
                    refine Rv.dq (v := Value.int .i64 x.2) p20_7_24 ns20_7 hE (wn_some g20_7_16 rfl rfl) hS9 (fun W hS => (st_loadR1 (off := i * 2) (j := 1) tA3 (hS.2.1) rfl (by omega) rfl)) ?_; clear hE a; intro a hE
                    refine Rv.dq (v := Value.pointer (some ⟨gd, 0, none⟩)) p20_7_25 ns20_7 hE (wn_some g20_7_16 rfl rfl) hS9 (fun W hS => (st_move rfl)) ?_; clear hE a; intro a hE
                    refine Rv.dq (v := Value.pointer (some ⟨gd, 0, none⟩)) p20_7_26 ns20_7 hE (wn_some g20_7_16 rfl rfl) hS9 (fun W hS => (st_nil rfl)) ?_; clear hE a; intro a hE
                    refine Rv.dq (v := Value.pointer (some ⟨gd, 1, none⟩)) p20_7_27 ns20_7 hE (wn_some g20_7_16 rfl rfl) hS9 (fun W hS => (st_fieldAddr Try.underlying50 rfl tS48 rfl rfl)) ?_; clear hE a; intro a hE
                    refine Rv.dq (v := Value.slice A_M lc.length c_M) p20_7_28 ns20_7 hE (wn_some g20_7_16 rfl rfl) hS9 (fun W hS => (st_load1 tA48 rfl ((blk_cell hS.1 1).trans rfl))) ?_; clear hE a; intro a hE
                    refine Rv.dq (v := Value.int .i64 (bn : Int)) p20_7_29 ns20_7 hE (wn_some g20_7_16 rfl rfl) hS9 (fun W hS => (st_move rfl)) ?_; clear hE a; intro a hE
                    refine Rv.dq (v := Value.pointer (some (ea A_M (bn * 2)))) p20_7_30 ns20_7 hE (wn_some g20_7_16 rfl rfl) hS9 (fun W hS => (st_indexAddrR (i := bn) (s := 2) Try.underlying48 tS77 hAeq rfl rfl (by omega))) ?_; clear hE a; intro a hE
                    refine Rv.dq (v := Value.pointer (some (ea A_M (bn * 2 + 1)))) p20_7_31 ns20_7 hE (wn_some g20_7_16 rfl rfl) hS9 (fun W hS => (st_fieldAddrR (off := bn * 2) (f0 := 1) (o' := bn * 2 + 1) Try.underlying77 rfl tS3 rfl (by omega) rfl)) ?_; clear hE a; intro a hE
                    refine Rv.dq (v := Value.int .i64 q.2) p20_7_32 ns20_7 hE (wn_some g20_7_16 rfl rfl) hS9 (fun W hS => (st_loadR1 (off := bn * 2) (j := 1) tA3 (hS.2.2.1) rfl (by omega) rfl)) ?_; clear hE a; intro a hE
                    refine Rv.dq (v := Value.bool false) p20_7_33 ns20_7 hE (wn_some g20_7_16 rfl rfl) hS9 (fun W hS => (st_lss (b := false) rfl rfl (decide_eq_false hA1))) ?_; clear hE a; intro a hE
                    refine Rv.dq (v := Value.bool false) p20_7_34 ns20_7 hE (wn_some g20_7_13 rfl rfl) hS9 (fun W hS => (st_pick rfl rfl)) ?_; clear hE a; intro a hE
                    refine Rv.dq (v := Value.bool false) p20_7_35 ns20_7 hE (wn_some g20_7_13 rfl rfl) hS9 (fun W hS => (st_move rfl)) ?_; clear hE a; intro a hE
                    refine Rv.dq (v := Value.pointer (some ⟨gd, 0, none⟩)) p20_7_36 ns20_7 hE (wn_some g20_7_35 rfl rfl) hS9 (fun W hS => (st_move rfl)) ?_; clear hE a; intro a hE
                    refine Rv.dq (v := Value.pointer (some ⟨gd, 0, none⟩)) p20_7_37 ns20_7 hE (wn_some g20_7_35 rfl rfl) hS9 (fun W hS => (st_nil rfl)) ?_; clear hE a; intro a hE
                    refine Rv.dq (v := Value.pointer (some ⟨gd, 1, none⟩)) p20_7_38 ns20_7 hE (wn_some g20_7_35 rfl rfl) hS9 (fun W hS => (st_fieldAddr Try.underlying50 rfl tS48 rfl rfl)) ?_; clear hE a; intro a hE
                    refine Rv.dq (v := Value.slice A_M lc.length c_M) p20_7_39 ns20_7 hE (wn_some g20_7_35 rfl rfl) hS9 (fun W hS => (st_load1 tA48 rfl ((blk_cell hS.1 1).trans rfl))) ?_; clear hE a; intro a hE
                    refine Rv.dq (v := Value.int .i64 (i : Int)) p20_7_40 ns20_7 hE (wn_some g20_7_35 rfl rfl) hS9 (fun W hS => (st_move rfl)) ?_; clear hE a; intro a hE
                    refine Rv.dq (v := Value.pointer (some (ea A_M (i * 2)))) p20_7_41 ns20_7 hE (wn_some g20_7_35 rfl rfl) hS9 (fun W hS => (st_indexAddrR (i := i) (s := 2) Try.underlying48 tS77 hAex rfl rfl (by omega))) ?_; clear hE a; intro a hE
                    refine Rv.dq (v := Value.pointer (some (ea A_M (i * 2 + 1)))) p20_7_42 ns20_7 hE (wn_some g20_7_35 rfl rfl) hS9 (fun W hS => (st_fieldAddrR (off := i * 2) (f0 := 1) (o' := i * 2 + 1) Try.underlying77 rfl tS3 rfl (by omega) rfl)) ?_; clear hE a; intro a hE
                    refine Rv.dq (v := Value.int .i64 x.2) p20_7_43 ns20_7 hE (wn_some g20_7_35 rfl rfl) hS9 (fun W hS => (st_loadR1 (off := i * 2) (j := 1) tA3 (hS.2.1) rfl (by omega) rfl)) ?_; clear hE a; intro a hE
                    refine Rv.dq (v := Value.pointer (some ⟨gd, 0, none⟩)) p20_7_44 ns20_7 hE (wn_some g20_7_35 rfl rfl) hS9 (fun W hS => (st_move rfl)) ?_; clear hE a; intro a hE
                    refine Rv.dq (v := Value.pointer (some ⟨gd, 0, none⟩)) p20_7_45 ns20_7 hE (wn_some g20_7_35 rfl rfl) hS9 (fun W hS => (st_nil rfl)) ?_; clear hE a; intro a hE
                    refine Rv.dq (v := Value.pointer (some ⟨gd, 1, none⟩)) p20_7_46 ns20_7 hE (wn_some g20_7_35 rfl rfl) hS9 (fun W hS => (st_fieldAddr Try.underlying50 rfl tS48 rfl rfl)) ?_; clear hE a; intro a hE
                    refine Rv.dq (v := Value.slice A_M lc.length c_M) p20_7_47 ns20_7 hE (wn_some g20_7_35 rfl rfl) hS9 (fun W hS => (st_load1 tA48 rfl ((blk_cell hS.1 1).trans rfl))) ?_; clear hE a; intro a hE
                    refine Rv.dq (v := Value.int .i64 (bn : Int)) p20_7_48 ns20_7 hE (wn_some g20_7_35 rfl rfl) hS9 (fun W hS => (st_move rfl)) ?_; clear hE a; intro a hE
                    refine Rv.dq (v := Value.pointer (some (ea A_M (bn * 2)))) p20_7_49 ns20_7 hE (wn_some g20_7_35 rfl rfl) hS9 (fun W hS => (st_indexAddrR (i := bn) (s := 2) Try.underlying48 tS77 hAeq rfl rfl (by omega))) ?_; clear hE a; intro a hE
                    refine Rv.dq (v := Value.pointer (some (ea A_M (bn * 2 + 1)))) p20_7_50 ns20_7 hE (wn_some g20_7_35 rfl rfl) hS9 (fun W hS => (st_fieldAddrR (off := bn * 2) (f0 := 1) (o' := bn * 2 + 1) Try.underlying77 rfl tS3 rfl (by omega) rfl)) ?_; clear hE a; intro a hE
                    refine Rv.dq (v := Value.int .i64 q.2) p20_7_51 ns20_7 hE (wn_some g20_7_35 rfl rfl) hS9 (fun W hS => (st_loadR1 (off := bn * 2) (j := 1) tA3 (hS.2.2.1) rfl (by omega) rfl)) ?_; clear hE a; intro a hE
                    refine Rv.dq (v := Value.bool true) p20_7_52 ns20_7 hE (wn_some g20_7_35 rfl rfl) hS9 (fun W hS => (st_eql (b := true) rfl rfl (decide_eq_true hEQ))) ?_; clear hE a; intro a hE
                    refine Rv.dq (v := Value.bool true) p20_7_53 ns20_7 hE (wn_some g20_7_35 rfl rfl) hS9 (fun W hS => (st_move rfl)) ?_; clear hE a; intro a hE
                    refine Rv.dq (v := Value.pointer (some ⟨gd, 0, none⟩)) p20_7_54 ns20_7 hE (wn_some g20_7_53 rfl rfl) hS9 (fun W hS => (st_move rfl)) ?_; clear hE a; intro a hE
                    refine Rv.dq (v := Value.pointer (some ⟨gd, 0, none⟩)) p20_7_55 ns20_7 hE (wn_some g20_7_53 rfl rfl) hS9 (fun W hS => (st_nil rfl)) ?_; clear hE a; intro a hE
                    refine Rv.dq (v := Value.pointer (some ⟨gd, 1, none⟩)) p20_7_56 ns20_7 hE (wn_some g20_7_53 rfl rfl) hS9 (fun W hS => (st_fieldAddr Try.underlying50 rfl tS48 rfl rfl)) ?_; clear hE a; intro a hE
                    refine Rv.dq (v := Value.slice A_M lc.length c_M) p20_7_57 ns20_7 hE (wn_some g20_7_53 rfl rfl) hS9 (fun W hS => (st_load1 tA48 rfl ((blk_cell hS.1 1).trans rfl))) ?_; clear hE a; intro a hE
                    refine Rv.dq (v := Value.int .i64 (i : Int)) p20_7_58 ns20_7 hE (wn_some g20_7_53 rfl rfl) hS9 (fun W hS => (st_move rfl)) ?_; clear hE a; intro a hE
                    refine Rv.dq (v := Value.pointer (some (ea A_M (i * 2)))) p20_7_59 ns20_7 hE (wn_some g20_7_53 rfl rfl) hS9 (fun W hS => (st_indexAddrR (i := i) (s := 2) Try.underlying48 tS77 hAex rfl rfl (by omega))) ?_; clear hE a; intro a hE
                    refine Rv.dq (v := Value.pointer (some (ea A_M (i * 2)))) p20_7_60 ns20_7 hE (wn_some g20_7_53 rfl rfl) hS9 (fun W hS => (st_fieldAddrR (off := i * 2) (f0 := 0) (o' := i * 2) Try.underlying77 rfl tS3 rfl (by omega) rfl)) ?_; clear hE a; intro a hE
                    refine Rv.dq (v := Value.int .i64 x.1) p20_7_61 ns20_7 hE (wn_some g20_7_53 rfl rfl) hS9 (fun W hS => (st_loadR1 (off := i * 2) (j := 0) tA3 (hS.2.1) rfl (by omega) rfl)) ?_; clear hE a; intro a hE
                    refine Rv.dq (v := Value.pointer (some ⟨gd, 0, none⟩)) p20_7_62 ns20_7 hE (wn_some g20_7_53 rfl rfl) hS9 (fun W hS => (st_move rfl)) ?_; clear hE a; intro a hE
                    refine Rv.dq (v := Value.pointer (some ⟨gd, 0, none⟩)) p20_7_63 ns20_7 hE (wn_some g20_7_53 rfl rfl) hS9 (fun W hS => (st_nil rfl)) ?_; clear hE a; intro a hE
                    refine Rv.dq (v := Value.pointer (some ⟨gd, 1, none⟩)) p20_7_64 ns20_7 hE (wn_some g20_7_53 rfl rfl) hS9 (fun W hS => (st_fieldAddr Try.underlying50 rfl tS48 rfl rfl)) ?_; clear hE a; intro a hE
                    refine Rv.dq (v := Value.slice A_M lc.length c_M) p20_7_65 ns20_7 hE (wn_some g20_7_53 rfl rfl) hS9 (fun W hS => (st_load1 tA48 rfl ((blk_cell hS.1 1).trans rfl))) ?_; clear hE a; intro a hE
                    refine Rv.dq (v := Value.int .i64 (bn : Int)) p20_7_66 ns20_7 hE (wn_some g20_7_53 rfl rfl) hS9 (fun W hS => (st_move rfl)) ?_; clear hE a; intro a hE
                    refine Rv.dq (v := Value.pointer (some (ea A_M (bn * 2)))) p20_7_67 ns20_7 hE (wn_some g20_7_53 rfl rfl) hS9 (fun W hS => (st_indexAddrR (i := bn) (s := 2) Try.underlying48 tS77 hAeq rfl rfl (by omega))) ?_; clear hE a; intro a hE
                    refine Rv.dq (v := Value.pointer (some (ea A_M (bn * 2)))) p20_7_68 ns20_7 hE (wn_some g20_7_53 rfl rfl) hS9 (fun W hS => (st_fieldAddrR (off := bn * 2) (f0 := 0) (o' := bn * 2) Try.underlying77 rfl tS3 rfl (by omega) rfl)) ?_; clear hE a; intro a hE
                    refine Rv.dq (v := Value.int .i64 q.1) p20_7_69 ns20_7 hE (wn_some g20_7_53 rfl rfl) hS9 (fun W hS => (st_loadR1 (off := bn * 2) (j := 0) tA3 (hS.2.2.1) rfl (by omega) rfl)) ?_; clear hE a; intro a hE
                    refine Rv.dq (v := Value.bool false) p20_7_70 ns20_7 hE (wn_some g20_7_53 rfl rfl) hS9 (fun W hS => (st_lss (b := false) rfl rfl (decide_eq_false hA2))) ?_; clear hE a; intro a hE
                    refine Rv.dq (v := Value.bool false) p20_7_71 ns20_7 hE (wn_some g20_7_35 rfl rfl) hS9 (fun W hS => (st_pick rfl rfl)) ?_; clear hE a; intro a hE
                    refine Rv.dq (v := Value.bool false) p20_7_72 ns20_7 hE (wn_some g20_7_13 rfl rfl) hS9 (fun W hS => (st_pick rfl rfl)) ?_; clear hE a; intro a hE
                    refine Rv.dq (v := Value.bool false) p20_7_73 ns20_7 hE wn_none hS9 (fun W hS => (st_pick rfl rfl)) ?_; clear hE a; intro a hE
                    refine d_end (by kernel_rfl) ?_
                    refine x_norm ?_
                    refine c_cond (t := false) hE rfl ?_
                    refine wp_skip ?_
                    refine x_normB ?_
                    refine x_norm ?_
                    refine c_regL R20_6_l ?_
                    refine q0 p20_6_0 hE (st_move rfl) ?_
                    clear hE a; intro a hE
                    refine q0 p20_6_1 hE (st_add (z := (i : Int) + 1) rfl rfl (wr_i64 _ (by omega) (by omega))) ?_
                    clear hE a; intro a hE
                    refine q0 p20_6_2 hE (st_assign rfl) ?_
                    clear hE a; intro a hE
                    refine p_nil ?_
                    refine x_norm ?_
                    have hbo9 := best_keep hbo hxb hx (show ¬ lex x q from by unfold lex; omega)
                    exact ⟨i + 1, by omega, (some bn), En.sub hE ⟨rfl, rfl, rfl, rfl, rfl, trivial⟩, by omega, hbo9, B_gd, O_out, Nb_out_gd, Z_0_out, NN_out_M, O_M, Nb_M_gd, NN_M_out, K_0⟩
                ·
                  refine c_drawS (S := fun W => W.heap[gd]? = some (.cells #[Value.int .i64 (now + mn), Value.slice A_M lc.length c_M] 50 (0, 0)) ∧ (∀ j u, ([Value.int .i64 x.1, Value.int .i64 x.2])[j]? = some u → W.cell? (ea A_M (i * 2 + j)) = some u) ∧ (∀ j u, ([Value.int .i64 q.1, Value.int .i64 q.2])[j]? = some u → W.cell? (ea A_M (bn * 2 + j)) = some u) ∧ True) rfl rfl (listed := #[false, false, false, false, false, false, false, false, false, false, false, false, false, false, false, false, false, false, false, false, false, false, false, false, false, false, false, false, false, false, false, false, false, false, false, false, false, false, false, false, false, false, false, false, false, false, false, false, false, false, false, false, false, false, false, false, false, false, false, false, false, false, false, false, false, false, false, false, false, false, false, false, false, false]) rfl ?_
                  intro w10 hh hk
                  replace B_gd := kp_blk B_gd hk (fun h => h)
                  replace O_out := own_keep O_out hk (fun _ _ h => h)
                  replace O_M := Rv.rdv_keep O_M hk (fun _ _ h => h)
                  replace K_0 := K_0.then_ hk (fun _ h => h.elim)
                  clear hh hk
                  have hS9 : w10.heap[gd]? = some (.cells #[Value.int .i64 (now + mn), Value.slice A_M lc.length c_M] 50 (0, 0)) ∧ (∀ j u, ([Value.int .i64 x.1, Value.int .i64 x.2])[j]? = some u → w10.cell? (ea A_M (i * 2 + j)) = some u) ∧ (∀ j u, ([Value.int .i64 q.1, Value.int .i64 q.2])[j]? = some u → w10.cell? (ea A_M (bn * 2 + j)) = some u) ∧ True := ⟨B_gd, (Rv.rdv_elem (fl := fl2) O_M (by decide) (fun _ => rfl) hx).2, (Rv.rdv_elem (fl := fl2) O_M (by decide) (fun _ => rfl) hxb).2, trivial⟩
                  refine Rv.dq (v := Value.pointer (some ⟨gd, 0, none⟩)) p20_7_0 ns20_7 hE wn_none hS9 (fun W hS => (st_move rfl)) ?_; clear hE a; intro a hE
                  refine Rv.dq (v := Value.pointer (some ⟨gd, 0, none⟩)) p20_7_1 ns20_7 hE wn_none hS9 (fun W hS => (st_nil rfl)) ?_; clear hE a; intro a hE
                  refine Rv.dq (v := Value.pointer (some ⟨gd, 1, none⟩)) p20_7_2 ns20_7 hE wn_none hS9 (fun W hS => (st_fieldAddr Try.underlying50 rfl tS48 rfl rfl)) ?_; clear hE a; intro a hE
                  refine Rv.dq (v := Value.slice A_M lc.length c_M) p20_7_3 ns20_7 hE wn_none hS9 (fun W hS => (st_load1 tA48 rfl ((blk_cell hS.1 1).trans rfl))) ?_; clear hE a; intro a hE
                  refine Rv.dq (v := Value.int .i64 (i : Int)) p20_7_4 ns20_7 hE wn_none hS9 (fun W hS => (st_move rfl)) ?_; clear hE a; intro a hE
                  refine Rv.dq (v := Value.pointer (some (ea A_M (i * 2)))) p20_7_5 ns20_7 hE wn_none hS9 (fun W hS => (st_indexAddrR (i := i) (s := 2) Try.underlying48 tS77 hAex rfl rfl (by omega))) ?_; clear hE a; intro a hE
                  refine Rv.dq (v := Value.pointer (some (ea A_M (i * 2 + 1)))) p20_7_6 ns20_7 hE wn_none hS9 (fun W hS => (st_fieldAddrR (off := i * 2) (f0 := 1) (o' := i * 2 + 1) Try.underlying77 rfl tS3 rfl (by omega) rfl)) ?_; clear hE a; intro a hE
                  refine Rv.dq (v := Value.int .i64 x.2) p20_7_7 ns20_7 hE wn_none hS9 (fun W hS => (st_loadR1 (off := i * 2) (j := 1) tA3 (hS.2.1) rfl (by omega) rfl)) ?_; clear hE a; intro a hE
                  refine Rv.dq (v := Value.pointer (some ⟨gd, 0, none⟩)) p20_7_8 ns20_7 hE wn_none hS9 (fun W hS => (st_move rfl)) ?_; clear hE a; intro a hE
                  refine Rv.dq (v := Value.pointer (some ⟨gd, 0, none⟩)) p20_7_9 ns20_7 hE wn_none hS9 (fun W hS => (st_nil rfl)) ?_; clear hE a; intro a hE
                  refine Rv.dq (v := Value.pointer (some ⟨gd, 0, none⟩)) p20_7_10 ns20_7 hE wn_none hS9 (fun W hS => (st_fieldAddr Try.underlying50 rfl tS3 rfl rfl)) ?_; clear hE a; intro a hE
                  refine Rv.dq (v := Value.int .i64 (now + mn)) p20_7_11 ns20_7 hE wn_none hS9 (fun W hS => (st_load1 tA3 rfl ((blk_cell hS.1 0).trans rfl))) ?_; clear hE a; intro a hE
                  refine Rv.dq (v := Value.bool true) p20_7_12 ns20_7 hE wn_none hS9 (fun W hS => (st_leq (b := true) rfl rfl (decide_eq_true hDU))) ?_; clear hE a; intro a hE
                  refine Rv.dq (v := Value.bool true) p20_7_13 ns20_7 hE wn_none hS9 (fun W hS => (st_move rfl)) ?_; clear hE a; intro a hE
                  refine Rv.dq (v := Value.int .i64 (bn : Int)) p20_7_14 ns20_7 hE (wn_some g20_7_13 rfl rfl) hS9 (fun W hS => (st_move rfl)) ?_; clear hE a; intro a hE
                  refine Rv.dq (v := Value.bool false) p20_7_15 ns20_7 hE (wn_some g20_7_13 rfl rfl) hS9 (fun W hS => (st_lss (b := false) rfl rfl (decide_eq_false (by omega)))) ?_; clear hE a; intro a hE
                  refine Rv.dq (v := Value.bool false) p20_7_16 ns20_7 hE (wn_some g20_7_13 rfl rfl) hS9 (fun W hS => (st_move rfl)) ?_; clear hE a; intro a hE
                  refine Rv.dq (v := Value.pointer (some ⟨gd, 0, none⟩)) p20_7_17 ns20_7 hE (wn_some g20_7_16 rfl rfl) hS9 (fun W hS => (st_move rfl)) ?_; clear hE a; intro a hE
                  refine Rv.dq (v := Value.pointer (some ⟨gd, 0, none⟩)) p20_7_18 ns20_7 hE (wn_some g20_7_16 rfl rfl) hS9 (fun W hS => (st_nil rfl)) ?_; clear hE a; intro a hE
                  refine Rv.dq (v := Value.pointer (some ⟨gd, 1, none⟩)) p20_7_19 ns20_7 hE (wn_some g20_7_16 rfl rfl) hS9 (fun W hS => (st_fieldAddr Try.underlying50 rfl tS48 rfl rfl)) ?_; clear hE a; intro a hE
                  refine Rv.dq (v := Value.slice A_M lc.length c_M) p20_7_20 ns20_7 hE (wn_some g20_7_16 rfl rfl) hS9 (fun W hS => (st_load1 tA48 rfl ((blk_cell hS.1 1).trans rfl))) ?_; clear hE a; intro a hE
                  refine Rv.dq (v := Value.int .i64 (i : Int)) p20_7_21 ns20_7 hE (wn_some g20_7_16 rfl rfl) hS9 (fun W hS => (st_move rfl)) ?_; clear hE a; intro a hE
                  refine Rv.dq (v := Value.pointer (some (ea A_M (i * 2)))) p20_7_22 ns20_7 hE (wn_some g20_7_16 rfl rfl) hS9 (fun W hS => (st_indexAddrR (i := i) (s := 2) Try.underlying48 tS77 hAex rfl rfl (by omega))) ?_; clear hE a; intro a hE
                  refine Rv.dq (v := Value.pointer (some (ea A_M (i * 2 + 1)))) p20_7_23 ns20_7 hE (wn_some g20_7_16 rfl rfl) hS9 (fun W hS => (st_fieldAddrR (off := i * 2) (f0 := 1) (o' := i * 2 + 1) Try.underlying77 rfl tS3 rfl (by omega) rfl)) ?_; clear hE a; intro a hE
                  refine Rv.dq (v := Value.int .i64 x.2) p20_7_24 ns20_7 hE (wn_some g20_7_16 rfl rfl) hS9 (fun W hS => (st_loadR1 (off := i * 2) (j := 1) tA3 (hS.2.1) rfl (by omega) rfl)) ?_; clear hE a; intro a hE
                  refine Rv.dq (v := Value.pointer (some ⟨gd, 0, none⟩)) p20_7_25 ns20_7 hE (wn_some g20_7_16 rfl rfl) hS9 (fun W hS => (st_move rfl)) ?_; clear hE a; intro a hE
                  refine Rv.dq (v := Value.pointer (some ⟨gd, 0, none⟩)) p20_7_26 ns20_7 hE (wn_some g20_7_16 rfl rfl) hS9 (fun W hS => (st_nil rfl)) ?_; clear hE a; intro a hE
                  refine Rv.dq (v := Value.pointer (some ⟨gd, 1, none⟩)) p20_7_27 ns20_7 hE (wn_some g20_7_16 rfl rfl) hS9 (fun W hS => (st_fieldAddr Try.underlying50 rfl tS48 rfl rfl)) ?_; clear hE a; intro a hE
                  refine Rv.dq (v := Value.slice A_M lc.length c_M) p20_7_28 ns20_7 hE (wn_some g20_7_16 rfl rfl) hS9 (fun W hS => (st_load1 tA48 rfl ((blk_cell hS.1 1).trans rfl))) ?_; clear hE a; intro a hE
                  refine Rv.dq (v := Value.int .i64 (bn : Int)) p20_7_29 ns20_7 hE (wn_some g20_7_16 rfl rfl) hS9 (fun W hS => (st_move rfl)) ?_; clear hE a; intro a hE
                  refine Rv.dq (v := Value.pointer (some (ea A_M (bn * 2)))) p20_7_30 ns20_7 hE (wn_some g20_7_16 rfl rfl) hS9 (fun W hS => (st_indexAddrR (i := bn) (s := 2) Try.underlying48 tS77 hAeq rfl rfl (by omega))) ?_; clear hE a; intro a hE
                  refine Rv.dq (v := Value.pointer (some (ea A_M (bn * 2 + 1)))) p20_7_31 ns20_7 hE (wn_some g20_7_16 rfl rfl) hS9 (fun W hS => (st_fieldAddrR (off := bn * 2) (f0 := 1) (o' := bn * 2 + 1) Try.underlying77 rfl tS3 rfl (by omega) rfl)) ?_; clear hE a; intro a hE
                  refine Rv.dq (v := Value.int .i64 q.2) p20_7_32 ns20_7 hE (wn_some g20_7_16 rfl rfl) hS9 (fun W hS => (st_loadR1 (off := bn * 2) (j := 1) tA3 (hS.2.2.1) rfl (by omega) rfl)) ?_; clear hE a; intro a hE
                  refine Rv.dq (v := Value.bool false) p20_7_33 ns20_7 hE (wn_some g20_7_16 rfl rfl) hS9 (fun W hS => (st_lss (b := false) rfl rfl (decide_eq_false hA1))) ?_; clear hE a; intro a hE
                  refine Rv.dq (v := Value.bool false) p20_7_34 ns20_7 hE (wn_some g20_7_13 rfl rfl) hS9 (fun W hS => (st_pick rfl rfl)) ?_; clear hE a; intro a hE
                  refine Rv.dq (v := Value.bool false) p20_7_35 ns20_7 hE (wn_some g20_7_13 rfl rfl) hS9 (fun W hS => (st_move rfl)) ?_; clear hE a; intro a hE
                  refine Rv.dq (v := Value.pointer (some ⟨gd, 0, none⟩)) p20_7_36 ns20_7 hE (wn_some g20_7_35 rfl rfl) hS9 (fun W hS => (st_move rfl)) ?_; clear hE a; intro a hE
                  refine Rv.dq (v := Value.pointer (some ⟨gd, 0, none⟩)) p20_7_37 ns20_7 hE (wn_some g20_7_35 rfl rfl) hS9 (fun W hS => (st_nil rfl)) ?_; clear hE a; intro a hE
                  refine Rv.dq (v := Value.pointer (some ⟨gd, 1, none⟩)) p20_7_38 ns20_7 hE (wn_some g20_7_35 rfl rfl) hS9 (fun W hS => (st_fieldAddr Try.underlying50 rfl tS48 rfl rfl)) ?_; clear hE a; intro a hE
                  refine Rv.dq (v := Value.slice A_M lc.length c_M) p20_7_39 ns20_7 hE (wn_some g20_7_35 rfl rfl) hS9 (fun W hS => (st_load1 tA48 rfl ((blk_cell hS.1 1).trans rfl))) ?_; clear hE a; intro a hE
                  refine Rv.dq (v := Value.int .i64 (i : Int)) p20_7_40 ns20_7 hE (wn_some g20_7_35 rfl rfl) hS9 (fun W hS => (st_move rfl)) ?_; clear hE a; intro a hE
                  refine Rv.dq (v := Value.pointer (some (ea A_M (i * 2)))) p20_7_41 ns20_7 hE (wn_some g20_7_35 rfl rfl) hS9 (fun W hS => (st_indexAddrR (i := i) (s := 2) Try.underlying48 tS77 hAex rfl rfl (by omega))) ?_; clear hE a; intro a hE
                  refine Rv.dq (v := Value.pointer (some (ea A_M (i * 2 + 1)))) p20_7_42 ns20_7 hE (wn_some g20_7_35 rfl rfl) hS9 (fun W hS => (st_fieldAddrR (off := i * 2) (f0 := 1) (o' := i * 2 + 1) Try.underlying77 rfl tS3 rfl (by omega) rfl)) ?_; clear hE a; intro a hE
                  refine Rv.dq (v := Value.int .i64 x.2) p20_7_43 ns20_7 hE (wn_some g20_7_35 rfl rfl) hS9 (fun W hS => (st_loadR1 (off := i * 2) (j := 1) tA3 (hS.2.1) rfl (by omega) rfl)) ?_; clear hE a; intro a hE
                  refine Rv.dq (v := Value.pointer (some ⟨gd, 0, none⟩)) p20_7_44 ns20_7 hE (wn_some g20_7_35 rfl rfl) hS9 (fun W hS => (st_move rfl)) ?_; clear hE a; intro a hE
                  refine Rv.dq (v := Value.pointer (some ⟨gd, 0, none⟩)) p20_7_45 ns20_7 hE (wn_some g20_7_35 rfl rfl) hS9 (fun W hS => (st_nil rfl)) ?_; clear hE a; intro a hE
                  refine Rv.dq (v := Value.pointer (some ⟨gd, 1, none⟩)) p20_7_46 ns20_7 hE (wn_some g20_7_35 rfl rfl) hS9 (fun W hS => (st_fieldAddr Try.underlying50 rfl tS48 rfl rfl)) ?_; clear hE a; intro a hE
                  refine Rv.dq (v := Value.slice A_M lc.length c_M) p20_7_47 ns20_7 hE (wn_some g20_7_35 rfl rfl) hS9 (fun W hS => (st_load1 tA48 rfl ((blk_cell hS.1 1).trans rfl))) ?_; clear hE a; intro a hE
                  refine Rv.dq (v := Value.int .i64 (bn : Int)) p20_7_48 ns20_7 hE (wn_some g20_7_35 rfl rfl) hS9 (fun W hS => (st_move rfl)) ?_; clear hE a; intro a hE
                  refine Rv.dq (v := Value.pointer (some (ea A_M (bn * 2)))) p20_7_49 ns20_7 hE (wn_some g20_7_35 rfl rfl) hS9 (fun W hS => (st_indexAddrR (i := bn) (s := 2) Try.underlying48 tS77 hAeq rfl rfl (by omega))) ?_; clear hE a; intro a hE
                  refine Rv.dq (v := Value.pointer (some (ea A_M (bn * 2 + 1)))) p20_7_50 ns20_7 hE (wn_some g20_7_35 rfl rfl) hS9 (fun W hS => (st_fieldAddrR (off := bn * 2) (f0 := 1) (o' := bn * 2 + 1) Try.underlying77 rfl tS3 rfl (by omega) rfl)) ?_; clear hE a; intro a hE
                  refine Rv.dq (v := Value.int .i64 q.2) p20_7_51 ns20_7 hE (wn_some g20_7_35 rfl rfl) hS9 (fun W hS => (st_loadR1 (off := bn * 2) (j := 1) tA3 (hS.2.2.1) rfl (by omega) rfl)) ?_; clear hE a; intro a hE
                  refine Rv.dq (v := Value.bool false) p20_7_52 ns20_7 hE (wn_some g20_7_35 rfl rfl) hS9 (fun W hS => (st_eql (b := false) rfl rfl (decide_eq_false hEQ))) ?_; clear hE a; intro a hE
                  refine Rv.dq (v := Value.bool false) p20_7_53 ns20_7 hE (wn_some g20_7_35 rfl rfl) hS9 (fun W hS => (st_move rfl)) ?_; clear hE a; intro a hE
                  refine Rv.dk p20_7_54 ns20_7 hE (wn_some g20_7_53 rfl rfl) hS9 ?_; clear hE a; intro a hE
                  refine Rv.dk p20_7_55 ns20_7 hE (wn_some g20_7_53 rfl rfl) hS9 ?_; clear hE a; intro a hE
                  refine Rv.dk p20_7_56 ns20_7 hE (wn_some g20_7_53 rfl rfl) hS9 ?_; clear hE a; intro a hE
                  refine Rv.dk p20_7_57 ns20_7 hE (wn_some g20_7_53 rfl rfl) hS9 ?_; clear hE a; intro a hE
                  refine Rv.dk p20_7_58 ns20_7 hE (wn_some g20_7_53 rfl rfl) hS9 ?_; clear hE a; intro a hE
                  refine Rv.dk p20_7_59 ns20_7 hE (wn_some g20_7_53 rfl rfl) hS9 ?_; clear hE a; intro a hE
                  refine Rv.dk p20_7_60 ns20_7 hE (wn_some g20_7_53 rfl rfl) hS9 ?_; clear hE a; intro a hE
                  refine Rv.dk p20_7_61 ns20_7 hE (wn_some g20_7_53 rfl rfl) hS9 ?_; clear hE a; intro a hE
                  refine Rv.dk p20_7_62 ns20_7 hE (wn_some g20_7_53 rfl rfl) hS9 ?_; clear hE a; intro a hE
                  refine Rv.dk p20_7_63 ns20_7 hE (wn_some g20_7_53 rfl rfl) hS9 ?_; clear hE a; intro a hE
                  refine Rv.dk p20_7_64 ns20_7 hE (wn_some g20_7_53 rfl rfl) hS9 ?_; clear hE a; intro a hE
                  refine Rv.dk p20_7_65 ns20_7 hE (wn_some g20_7_53 rfl rfl) hS9 ?_; clear hE a; intro a hE
                  refine Rv.dk p20_7_66 ns20_7 hE (wn_some g20_7_53 rfl rfl) hS9 ?_; clear hE a; intro a hE
                  refine Rv.dk p20_7_67 ns20_7 hE (wn_some g20_7_53 rfl rfl) hS9 ?_; clear hE a; intro a hE
                  refine Rv.dk p20_7_68 ns20_7 hE (wn_some g20_7_53 rfl rfl) hS9 ?_; clear hE a; intro a hE
                  refine Rv.dk p20_7_69 ns20_7 hE (wn_some g20_7_53 rfl rfl) hS9 ?_; clear hE a; intro a hE
                  refine Rv.dk p20_7_70 ns20_7 hE (wn_some g20_7_53 rfl rfl) hS9 ?_; clear hE a; intro a hE
                  refine Rv.dq (v := Value.bool false) p20_7_71 ns20_7 hE (wn_some g20_7_35 rfl rfl) hS9 (fun W hS => (st_pick rfl rfl)) ?_; clear hE a; intro a hE
                  refine Rv.dq (v := Value.bool false) p20_7_72 ns20_7 hE (wn_some g20_7_13 rfl rfl) hS9 (fun W hS => (st_pick rfl rfl)) ?_; clear hE a; intro a hE
                  refine Rv.dq (v := Value.bool false) p20_7_73 ns20_7 hE wn_none hS9 (fun W hS => (st_pick rfl rfl)) ?_; clear hE a; intro a hE
                  refine d_end (by kernel_rfl) ?_
                  refine x_norm ?_
                  refine c_cond (t := false) hE rfl ?_
                  refine wp_skip ?_
                  refine x_normB ?_
                  refine x_norm ?_
                  refine c_regL R20_6_l ?_
                  refine q0 p20_6_0 hE (st_move rfl) ?_
                  clear hE a; intro a hE
                  refine q0 p20_6_1 hE (st_add (z := (i : Int) + 1) rfl rfl (wr_i64 _ (by omega) (by omega))) ?_
                  clear hE a; intro a hE
                  refine q0 p20_6_2 hE (st_assign rfl) ?_
                  clear hE a; intro a hE
                  refine p_nil ?_
                  refine x_norm ?_
                  have hbo9 := best_keep hbo hxb hx (show ¬ lex x q from by unfold lex; omega)
                  exact ⟨i + 1, by omega, (some bn), En.sub hE ⟨rfl, rfl, rfl, rfl, rfl, trivial⟩, by omega, hbo9, B_gd, O_out, Nb_out_gd, Z_0_out, NN_out_M, O_M, Nb_M_gd, NN_M_out, K_0⟩
          ·
            refine c_drawS (S := fun W => W.heap[gd]? = some (.cells #[Value.int .i64 (now + mn), Value.slice A_M lc.length c_M] 50 (0, 0)) ∧ (∀ j u, ([Value.int .i64 x.1, Value.int .i64 x.2])[j]? = some u → W.cell? (ea A_M (i * 2 + j)) = some u) ∧ True) rfl rfl (listed := #[false, false, false, false, false, false, false, false, false, false, false, false, false, false, false, false, false, false, false, false, false, false, false, false, false, false, false, false, false, false, false, false, false, false, false, false, false, false, false, false, false, false, false, false, false, false, false, false, false, false, false, false, false, false, false, false, false, false, false, false, false, false, false, false, false, false, false, false, false, false, false, false, false, false]) rfl ?_
            intro w11 hh hk
            replace B_gd := kp_blk B_gd hk (fun h => h)
            replace O_out := own_keep O_out hk (fun _ _ h => h)
            replace O_M := Rv.rdv_keep O_M hk (fun _ _ h => h)
            replace K_0 := K_0.then_ hk (fun _ h => h.elim)
            clear hh hk
            have hS9 : w11.heap[gd]? = some (.cells #[Value.int .i64 (now + mn), Value.slice A_M lc.length c_M] 50 (0, 0)) ∧ (∀ j u, ([Value.int .i64 x.1, Value.int .i64 x.2])[j]? = some u → w11.cell? (ea A_M (i * 2 + j)) = some u) ∧ True := ⟨B_gd, (Rv.rdv_elem (fl := fl2) O_M (by decide) (fun _ => rfl) hx).2, trivial⟩
            refine Rv.dq (v := Value.pointer (some ⟨gd, 0, none⟩)) p20_7_0 ns20_7 hE wn_none hS9 (fun W hS => (st_move rfl)) ?_; clear hE a; intro a hE
            refine Rv.dq (v := Value.pointer (some ⟨gd, 0, none⟩)) p20_7_1 ns20_7 hE wn_none hS9 (fun W hS => (st_nil rfl)) ?_; clear hE a; intro a hE
            refine Rv.dq (v := Value.pointer (some ⟨gd, 1, none⟩)) p20_7_2 ns20_7 hE wn_none hS9 (fun W hS => (st_fieldAddr Try.underlying50 rfl tS48 rfl rfl)) ?_; clear hE a; intro a hE
            refine Rv.dq (v := Value.slice A_M lc.length c_M) p20_7_3 ns20_7 hE wn_none hS9 (fun W hS => (st_load1 tA48 rfl ((blk_cell hS.1 1).trans rfl))) ?_; clear hE a; intro a hE
            refine Rv.dq (v := Value.int .i64 (i : Int)) p20_7_4 ns20_7 hE wn_none hS9 (fun W hS => (st_move rfl)) ?_; clear hE a; intro a hE
            refine Rv.dq (v := Value.pointer (some (ea A_M (i * 2)))) p20_7_5 ns20_7 hE wn_none hS9 (fun W hS => (st_indexAddrR (i := i) (s := 2) Try.underlying48 tS77 hAex rfl rfl (by omega))) ?_; clear hE a; intro a hE
            refine Rv.dq (v := Value.pointer (some (ea A_M (i * 2 + 1)))) p20_7_6 ns20_7 hE wn_none hS9 (fun W hS => (st_fieldAddrR (off := i * 2) (f0 := 1) (o' := i * 2 + 1) Try.underlying77 rfl tS3 rfl (by omega) rfl)) ?_; clear hE a; intro a hE
            refine Rv.dq (v := Value.int .i64 x.2) p20_7_7 ns20_7 hE wn_none hS9 (fun W hS => (st_loadR1 (off := i * 2) (j := 1) tA3 (hS.2.1) rfl (by omega) rfl)) ?_; clear hE a; intro a hE
            refine Rv.dq (v := Value.pointer (some ⟨gd, 0, none⟩)) p20_7_8 ns20_7 hE wn_none hS9 (fun W hS => (st_move rfl)) ?_; clear hE a; intro a hE
            refine Rv.dq (v := Value.pointer (some ⟨gd, 0, none⟩)) p20_7_9 ns20_7 hE wn_none hS9 (fun W hS => (st_nil rfl)) ?_; clear hE a; intro a hE
            refine Rv.dq (v := Value.pointer (some ⟨gd, 0, none⟩)) p20_7_10 ns20_7 hE wn_none hS9 (fun W hS => (st_fieldAddr Try.underlying50 rfl tS3 rfl rfl)) ?_; clear hE a; intro a hE
            refine Rv.dq (v := Value.int .i64 (now + mn)) p20_7_11 ns20_7 hE wn_none hS9 (fun W hS => (st_load1 tA3 rfl ((blk_cell hS.1 0).trans rfl))) ?_; clear hE a; intro a hE
            refine Rv.dq (v := Value.bool false) p20_7_12 ns20_7 hE wn_none hS9 (fun W hS => (st_leq (b := false) rfl rfl (decide_eq_false hDU))) ?_; clear hE a; intro a hE
            refine Rv.dq (v := Value.bool false) p20_7_13 ns20_7 hE wn_none hS9 (fun W hS => (st_move rfl)) ?_; clear hE a; intro a hE
            refine Rv.dk p20_7_14 ns20_7 hE (wn_some g20_7_13 rfl rfl) hS9 ?_; clear hE a; intro a hE
            refine Rv.dk p20_7_15 ns20_7 hE (wn_some g20_7_13 rfl rfl) hS9 ?_; clear hE a; intro a hE
            refine Rv.dk p20_7_16 ns20_7 hE (wn_some g20_7_13 rfl rfl) hS9 ?_; clear hE a; intro a hE
            refine Rv.dk p20_7_17 ns20_7 hE (wn_undef g20_7_16 rfl) hS9 ?_; clear hE a; intro a hE
            refine Rv.dk p20_7_18 ns20_7 hE (wn_undef g20_7_16 rfl) hS9 ?_; clear hE a; intro a hE
            refine Rv.dk p20_7_19 ns20_7 hE (wn_undef g20_7_16 rfl) hS9 ?_; clear hE a; intro a hE
            refine Rv.dk p20_7_20 ns20_7 hE (wn_undef g20_7_16 rfl) hS9 ?_; clear hE a; intro a hE
            refine Rv.dk p20_7_21 ns20_7 hE (wn_undef g20_7_16 rfl) hS9 ?_; clear hE a; intro a hE
            refine Rv.dk p20_7_22 ns20_7 hE (wn_undef g20_7_16 rfl) hS9 ?_; clear hE a; intro a hE
            refine Rv.dk p20_7_23 ns20_7 hE (wn_undef g20_7_16 rfl) hS9 ?_; clear hE a; intro a hE
            refine Rv.dk p20_7_24 ns20_7 hE (wn_undef g20_7_16 rfl) hS9 ?_; clear hE a; intro a hE
            refine Rv.dk p20_7_25 ns20_7 hE (wn_undef g20_7_16 rfl) hS9 ?_; clear hE a; intro a hE
            refine Rv.dk p20_7_26 ns20_7 hE (wn_undef g20_7_16 rfl) hS9 ?_; clear hE a; intro a hE
            refine Rv.dk p20_7_27 ns20_7 hE (wn_undef g20_7_16 rfl) hS9 ?_; clear hE a; intro a hE
            refine Rv.dk p20_7_28 ns20_7 hE (wn_undef g20_7_16 rfl) hS9 ?_; clear hE a; intro a hE
            refine Rv.dk p20_7_29 ns20_7 hE (wn_undef g20_7_16 rfl) hS9 ?_; clear hE a; intro a hE
            refine Rv.dk p20_7_30 ns20_7 hE (wn_undef g20_7_16 rfl) hS9 ?_; clear hE a; intro a hE
            refine Rv.dk p20_7_31 ns20_7 hE (wn_undef g20_7_16 rfl) hS9 ?_; clear hE a; intro a hE
            refine Rv.dk p20_7_32 ns20_7 hE (wn_undef g20_7_16 rfl) hS9 ?_; clear hE a; intro a hE
            refine Rv.dk p20_7_33 ns20_7 hE (wn_undef g20_7_16 rfl) hS9 ?_; clear hE a; intro a hE
            refine Rv.dk p20_7_34 ns20_7 hE (wn_some g20_7_13 rfl rfl) hS9 ?_; clear hE a; intro a hE
            refine Rv.dk p20_7_35 ns20_7 hE (wn_some g20_7_13 rfl rfl) hS9 ?_; clear hE a; intro a hE
            refine Rv.dk p20_7_36 ns20_7 hE (wn_undef g20_7_35 rfl) hS9 ?_; clear hE a; intro a hE
            refine Rv.dk p20_7_37 ns20_7 hE (wn_undef g20_7_35 rfl) hS9 ?_; clear hE a; intro a hE
            refine Rv.dk p20_7_38 ns20_7 hE (wn_undef g20_7_35 rfl) hS9 ?_; clear hE a; intro a hE
            refine Rv.dk p20_7_39 ns20_7 hE (wn_undef g20_7_35 rfl) hS9 ?_; clear hE a; intro a hE
            refine Rv.dk p20_7_40 ns20_7 hE (wn_undef g20_7_35 rfl) hS9 ?_; clear hE a; intro a hE
            refine Rv.dk p20_7_41 ns20_7 hE (wn_undef g20_7_35 rfl) hS9 ?_; clear hE a; intro a hE
            refine Rv.dk p20_7_42 ns20_7 hE (wn_undef g20_7_35 rfl) hS9 ?_; clear hE a; intro a hE
            refine Rv.dk p20_7_43 ns20_7 hE (wn_undef g20_7_35 rfl) hS9 ?_; clear hE a; intro a hE
            refine Rv.dk p20_7_44 ns20_7 hE (wn_undef g20_7_35 rfl) hS9 ?_; clear hE a; intro a hE
            refine Rv.dk p20_7_45 ns20_7 hE (wn_undef g20_7_35 rfl) hS9 ?_; clear hE a; intro a hE
            refine Rv.dk p20_7_46 ns20_7 hE (wn_undef g20_7_35 rfl) hS9 ?_; clear hE a; intro a hE
            refine Rv.dk p20_7_47 ns20_7 hE (wn_undef g20_7_35 rfl) hS9 ?_; clear hE a; intro a hE
            refine Rv.dk p20_7_48 ns20_7 hE (wn_undef g20_7_35 rfl) hS9 ?_; clear hE a; intro a hE
            refine Rv.dk p20_7_49 ns20_7 hE (wn_undef g20_7_35 rfl) hS9 ?_; clear hE a; intro a hE
            refine Rv.dk p20_7_50 ns20_7 hE (wn_undef g20_7_35 rfl) hS9 ?_; clear hE a; intro a hE
            refine Rv.dk p20_7_51 ns20_7 hE (wn_undef g20_7_35 rfl) hS9 ?_; clear hE a; intro a hE
            refine Rv.dk p20_7_52 ns20_7 hE (wn_undef g20_7_35 rfl) hS9 ?_; clear hE a; intro a hE
            refine Rv.dk p20_7_53 ns20_7 hE (wn_undef g20_7_35 rfl) hS9 ?_; clear hE a; intro a hE
            refine Rv.dk p20_7_54 ns20_7 hE (wn_undef g20_7_53 rfl) hS9 ?_; clear hE a; intro a hE
            refine Rv.dk p20_7_55 ns20_7 hE (wn_undef g20_7_53 rfl) hS9 ?_; clear hE a; intro a hE
            refine Rv.dk p20_7_56 ns20_7 hE (wn_undef g20_7_53 rfl) hS9 ?_; clear hE a; intro a hE
            refine Rv.dk p20_7_57 ns20_7 hE (wn_undef g20_7_53 rfl) hS9 ?_; clear hE a; intro a hE
            refine Rv.dk p20_7_58 ns20_7 hE (wn_undef g20_7_53 rfl) hS9 ?_; clear hE a; intro a hE
            refine Rv.dk p20_7_59 ns20_7 hE (wn_undef g20_7_53 rfl) hS9 ?_; clear hE a; intro a hE
            refine Rv.dk p20_7_60 ns20_7 hE (wn_undef g20_7_53 rfl) hS9 ?_; clear hE a; intro a hE
            refine Rv.dk p20_7_61 ns20_7 hE (wn_undef g20_7_53 rfl) hS9 ?_; clear hE a; intro a hE
            refine Rv.dk p20_7_62 ns20_7 hE (wn_undef g20_7_53 rfl) hS9 ?_; clear hE a; intro a hE
            refine Rv.dk p20_7_63 ns20_7 hE (wn_undef g20_7_53 rfl) hS9 ?_; clear hE a; intro a hE
            refine Rv.dk p20_7_64 ns20_7 hE (wn_undef g20_7_53 rfl) hS9 ?_; clear hE a; intro a hE
            refine Rv.dk p20_7_65 ns20_7 hE (wn_undef g20_7_53 rfl) hS9 ?_; clear hE a; intro a hE
            refine Rv.dk p20_7_66 ns20_7 hE (wn_undef g20_7_53 rfl) hS9 ?_; clear hE a; intro a hE
            refine Rv.dk p20_7_67 ns20_7 hE (wn_undef g20_7_53 rfl) hS9 ?_; clear hE a; intro a hE
            refine Rv.dk p20_7_68 ns20_7 hE (wn_undef g20_7_53 rfl) hS9 ?_; clear hE a; intro a hE
            refine Rv.dk p20_7_69 ns20_7 hE (wn_undef g20_7_53 rfl) hS9 ?_; clear hE a; intro a hE
            refine Rv.dk p20_7_70 ns20_7 hE (wn_undef g20_7_53 rfl) hS9 ?_; clear hE a; intro a hE
            refine Rv.dk p20_7_71 ns20_7 hE (wn_undef g20_7_35 rfl) hS9 ?_; clear hE a; intro a hE
            refine Rv.dk p20_7_72 ns20_7 hE (wn_some g20_7_13 rfl rfl) hS9 ?_; clear hE a; intro a hE
            refine Rv.dq (v := Value.bool false) p20_7_73 ns20_7 hE wn_none hS9 (fun W hS => (st_pick rfl rfl)) ?_; clear hE a; intro a hE
            refine d_end (by kernel_rfl) ?_
            refine x_norm ?_
            refine c_cond (t := false) hE rfl ?_
            refine wp_skip ?_
            refine x_normB ?_
            refine x_norm ?_
            refine c_regL R20_6_l ?_
            refine q0 p20_6_0 hE (st_move rfl) ?_
            clear hE a; intro a hE
            refine q0 p20_6_1 hE (st_add (z := (i : Int) + 1) rfl rfl (wr_i64 _ (by omega) (by omega))) ?_
            clear hE a; intro a hE
            refine q0 p20_6_2 hE (st_assign rfl) ?_
            clear hE a; intro a hE
            refine p_nil ?_
            refine x_norm ?_
            have hbo9 := best_late hbo hx hDU
            exact ⟨i + 1, by omega, bo, En.sub hE ⟨rfl, rfl, rfl, rfl, rfl, trivial⟩, by omega, hbo9, B_gd, O_out, Nb_out_gd, Z_0_out, NN_out_M, O_M, Nb_M_gd, NN_M_out, K_0⟩
        ·
          refine c_reg R20_5_l ?_
          refine q0 p20_5_0 hE (st_move rfl) ?_
          clear hE a; intro a hE
          refine q0 p20_5_1 hE (st_move rfl) ?_
          clear hE a; intro a hE
          refine q0 p20_5_2 hE (st_nil rfl) ?_
          clear hE a; intro a hE
          refine q0 p20_5_3 hE (st_fieldAddr Try.underlying50 rfl tS48 rfl rfl) ?_
          clear hE a; intro a hE
          refine q0 p20_5_4 hE (st_load1 tA48 rfl ((blk_cell B_gd 1).trans rfl)) ?_
          clear hE a; intro a hE
          refine q0 p20_5_5 hE (st_len Try.underlying48 rfl) ?_
          clear hE a; intro a hE
          refine q0 p20_5_6 hE (st_lss (b := false) rfl rfl (decide_eq_false hK1)) ?_
          clear hE a; intro a hE
          refine p_nil ?_
          refine x_norm ?_
          refine c_cond (t := false) hE rfl ?_
          refine wp_exit ?_
          refine x_exit ?_
          refine x_exit ?_
          obtain rfl : i = lc.length := by omega
          refine x_in ?_
          refine x_norm ?_
          refine wp_seq ?_
          rcases Decidable.em (bo = none) with hBN | hBN
          ·
            subst hBN
            have hfz := best_none hbo
            refine c_reg R20_9_l ?_
            refine q0 p20_9_0 hE (st_move rfl) ?_
            clear hE a; intro a hE
            refine q0 p20_9_1 hE (st_lss (b := true) rfl rfl (by decide)) ?_
            clear hE a; intro a hE
            refine p_nil ?_
            refine x_norm ?_
            refine c_cond (t := true) hE rfl ?_
            refine c_reg R20_10_l ?_
            refine q0 p20_10_0 hE (st_move rfl) ?_
            clear hE a; intro a hE
            refine q0 p20_10_1 hE (st_assign rfl) ?_
            clear hE a; intro a hE
            refine p_nil ?_
            refine x_norm ?_
            refine wp_ret ?_
            refine x_ret ?_
            refine x_retB ?_
            refine x_ret ?_
            refine x_retB ?_
            refine ret_one (v := Value.slice A_out n_out c_out) rfl hE (.tmp rfl .nil) ?_
            rw [hfz, List.append_nil] at hfi
            have hO : fireO (now + mn) L = acc.map (·.1) := by unfold fireO; rw [hfi]
            have hL : (fireS (now + mn) L).2 = lc := by rw [hfi]
            rw [hO, hL, ← hn_out]
            exact ⟨A_out, c_out, A_M, c_M, rfl, O_out, B_gd, O_M, hc_M, hgM, K_0⟩
          ·
            obtain ⟨bn, rfl⟩ := Option.ne_none_iff_exists'.1 hBN
            have hbl := hbo.1
            rw [show bI (some bn) = (bn : Int) from rfl] at hE
            obtain ⟨q, hxb⟩ : ∃ o, lc[bn]? = some o := ⟨_, List.getElem?_eq_getElem (by omega)⟩
            have hAeq := (Rv.rdv_elem (fl := fl2) O_M (by decide) (fun _ => rfl) hxb).1
            have hbs := best_some hbo hxb
            have hacl : n_out = acc.length := by rw [hn_out, List.length_map]
            refine c_reg R20_9_l ?_
            refine q0 p20_9_0 hE (st_move rfl) ?_
            clear hE a; intro a hE
            refine q0 p20_9_1 hE (st_lss (b := false) rfl rfl (decide_eq_false (by omega))) ?_
            clear hE a; intro a hE
            refine p_nil ?_
            refine x_norm ?_
            refine c_cond (t := false) hE rfl ?_
            refine wp_skip ?_
            refine x_norm ?_
            refine c_reg R20_11_l ?_
            refine q0 p20_11_0 hE (st_move rfl) ?_
            clear hE a; intro a hE
            refine q0 p20_11_1 hE (st_move rfl) ?_
            clear hE a; intro a hE
            refine q0 p20_11_2 hE (st_nil rfl) ?_
            clear hE a; intro a hE
            refine q0 p20_11_3 hE (st_fieldAddr Try.underlying50 rfl tS48 rfl rfl) ?_
            clear hE a; intro a hE
            refine q0 p20_11_4 hE (st_load1 tA48 rfl ((blk_cell B_gd 1).trans rfl)) ?_
            clear hE a; intro a hE
            refine q0 p20_11_5 hE (st_move rfl) ?_
            clear hE a; intro a hE
            refine q0 p20_11_6 hE (st_indexAddrR (i := bn) (s := 2) Try.underlying48 tS77 hAeq rfl rfl (by omega)) ?_
            clear hE a; intro a hE
            refine q0 p20_11_7 hE (st_fieldAddrR (off := bn * 2) (f0 := 0) (o' := bn * 2) Try.underlying77 rfl tS3 rfl (by omega) rfl) ?_
            clear hE a; intro a hE
            refine q0 p20_11_8 hE (st_loadR1 (off := bn * 2) (j := 0) tA3 (Rv.rdv_elem (fl := fl2) O_M (by decide) (fun _ => rfl) hxb).2 rfl (by omega) rfl) ?_
            clear hE a; intro a hE
            refine p_cons (s_row (xs := [(0, Operand.tmp 118)]) (vs := [(0, Value.int .i64 q.1)]) (cs := #[Value.int .i64 q.1]) p20_11_9 hE wn_none rfl Try.underlying35 rfl (by kernel_rfl) ?_)
            clear hE a; intro g12 w13 z14 B_g12 hk a hE
            have n_gd_g12 : gd ≠ g12 := ne_new B_gd z14
            have z_0_g12 := Nat.le_trans K_0.kept.1 z14
            have Nb_out_g12 : ¬ OB A_out g12 := fun h => by have := (own_ob O_out h).2; omega
            have Nb_M_g12 : ¬ OB A_M g12 := fun h => by have := (Rv.rdv_ob O_M h).2; omega
            replace B_gd := kp_blk B_gd hk (fun h => h)
            replace O_out := own_keep O_out hk (fun _ _ h => h)
            replace O_M := Rv.rdv_keep O_M hk (fun _ _ h => h)
            replace K_0 := K_0.then_ hk (fun _ h => h.elim)
            clear hk
            refine p_cons (s_appendC (xs := (acc.map (·.1))) (ys := [q.1]) p20_11_10 hE wn_none rfl Try.underlying35 eD3 rfl O_out rfl (C_blk (k := .i64) (l := [q.1]) (off := 0) B_g12 ⟨rfl, Nat.le_of_ble_eq_true rfl⟩ rfl) (by omega) (by omega) K_0.kept.1 ?_)
            clear hE a; intro Aout15 cout16 w17 O_out' hk hat a hE
            have Nb_out_gd' := grow_n Nb_out_gd (blk_lt B_gd) hat
            have Nb_out_g12' := grow_n Nb_out_g12 (blk_lt B_g12) hat
            have NN_M_out' : ∀ k, OB A_M k → ¬ OB Aout15 k := fun k h h2 => (hat k h2).elim (NN_M_out k h) (fun h3 => by have := (Rv.rdv_ob O_M h).2; omega)
            have Z_0_out' := grow_z Z_0_out K_0.kept.1 hat
            replace B_gd := kp_blk B_gd hk Nb_out_gd
            replace B_g12 := kp_blk B_g12 hk Nb_out_g12
            replace O_M := Rv.rdv_keep O_M hk NN_M_out
            replace K_0 := K_0.then_ hk Z_0_out
            replace Nb_out_gd := Nb_out_gd'
            replace Nb_out_g12 := Nb_out_g12'
            replace NN_M_out := NN_M_out'
            replace NN_out_M : ∀ k, OB Aout15 k → ¬ OB A_M k := fun k h h2 => NN_M_out k h2 h
            replace Z_0_out := Z_0_out'
            replace O_out : w17.ownsRow _ 3 1 (.slice Aout15 (n_out + 1) cout16) (n_out + 1) (encs (Value.int .i64) ((acc.map (·.1)) ++ [q.1])) := O_out'
            clear O_out' hk hat
            refine q0 p20_11_11 hE (st_assign rfl) ?_
            clear hE a; intro a hE
            refine p_nil ?_
            refine x_norm ?_
            refine c_regL R20_12_l ?_
            refine q0 p20_12_0 hE (st_move rfl) ?_
            clear hE a; intro a hE
            refine q0 p20_12_1 hE (st_move rfl) ?_
            clear hE a; intro a hE
            refine q0 p20_12_2 hE (st_nil rfl) ?_
            clear hE a; intro a hE
            refine q0 p20_12_3 hE (st_fieldAddr Try.underlying50 rfl tS48 rfl rfl) ?_
            clear hE a; intro a hE
            refine q0 p20_12_4 hE (st_load1 tA48 rfl ((blk_cell B_gd 1).trans rfl)) ?_
            clear hE a; intro a hE
            refine q0 p20_12_5 hE (st_move rfl) ?_
            clear hE a; intro a hE
            refine q0 p20_12_6 hE (st_indexAddrR (i := bn) (s := 2) Try.underlying48 tS77 hAeq rfl rfl (by omega)) ?_
            clear hE a; intro a hE
            refine q0 p20_12_7 hE (st_fieldAddrR (off := bn * 2) (f0 := 0) (o' := bn * 2) Try.underlying77 rfl tS3 rfl (by omega) rfl) ?_
            clear hE a; intro a hE
            refine q0 p20_12_8 hE (st_loadR1 (off := bn * 2) (j := 0) tA3 (Rv.rdv_elem (fl := fl2) O_M (by decide) (fun _ => rfl) hxb).2 rfl (by omega) rfl) ?_
            clear hE a; intro a hE
            have hnb_gd := blk_lt B_gd
            have hnb_g12 := blk_lt B_g12
            have hno_out := fun k (h : OB Aout15 k) => (own_ob O_out h).2
            have hkz9 := K_0.kept.1
            refine p_cons (s_call (xs := [Operand.tmp 121, Operand.tmp 129]) (args := [Value.pointer (some ⟨gd, 0, none⟩), Value.int .i64 q.1]) p20_12_9 hE wn_none rfl rfl Try.func19 cl19 (rcan_any gd A_M c_M lc (now + mn) q.1 _ B_gd O_M hc_M (by omega) Nb_M_gd) ?_)
            rintro e w20 ⟨AM218, cM219, rfl, B_gd', O_M2, hc_M2, hg9, hk⟩
            replace B_g12 := kp_blk B_g12 hk (Ne.symm n_gd_g12)
            replace O_out := own_keep O_out hk (fun k hk2 h2 => Nb_out_gd (by rw [show k = gd from h2] at hk2; exact hk2))
            replace O_M := Rv.rdv_keep O_M hk (fun k hk2 h2 => Nb_M_gd (by rw [show k = gd from h2] at hk2; exact hk2))
            replace K_0 := K_0.then_ hk (fun k h => by rw [show k = gd from h]; exact Or.inl rfl)
            replace B_gd := B_gd'
            have Nb_M2_gd : ¬ OB AM218 gd := fun h => (hg9 _ h).elim Nb_M_gd (fun h2 => by have := hnb_gd; omega)
            have Nb_M2_g12 : ¬ OB AM218 g12 := fun h => (hg9 _ h).elim Nb_M_g12 (fun h2 => by have := hnb_g12; omega)
            have NN_M2_out : ∀ k, OB AM218 k → ¬ OB Aout15 k := fun k h h2 => (hg9 _ h).elim (fun h3 => NN_M_out k h3 h2) (fun h3 => by have := hno_out k h2; omega)
            have NN_out_M2 : ∀ k, OB Aout15 k → ¬ OB AM218 k := fun k h h2 => NN_M2_out k h2 h
            refine ⟨_, rfl, ?_⟩
            clear hE a; intro a hE
            refine p_nil ?_
            refine x_normB ?_
            refine x_norm ?_
            have O_M := O_M2
            have hc_M := hc_M2
            have Nb_M_gd := Nb_M2_gd
            have Nb_M_g12 := Nb_M2_g12
            have NN_M_out := NN_M2_out
            have NN_out_M := NN_out_M2
            have hgM9 : ∀ k, OB AM218 k → OB A k ∨ w.heap.size ≤ k := fun k h => (hg9 k h).elim (fun h => hgM k h) (fun h => .inr (Nat.le_trans hkz9 h))
            have e9 : acc.map (·.1) ++ [q.1] = (acc ++ [q]).map (·.1) := by rw [List.map_append]; rfl
            rw [e9] at O_out
            have hfi9 : fireS (now + mn) L = ((acc ++ [q]) ++ (fireS (now + mn) (delI lc q.1)).1, (fireS (now + mn) (delI lc q.1)).2) := by rw [hfi, fire_on hnd9 hbs.1 hbs.2, List.append_assoc]; rfl
            have hdl := (delI_perm hnd9 (firstI_spec hbs.1).1).length_eq
            rw [List.length_cons] at hdl
            have hln9 : (n_out + 1) = ((acc ++ [q]).map (·.1)).length := by rw [List.length_map, List.length_append, hn_out, List.length_map]; rfl
            have hal9 : (acc ++ [q]).length + (delI lc q.1).length ≤ L.length := by rw [List.length_append]; show acc.length + 1 + _ ≤ _; omega
            have hnd8 := Mi.delI_nodup hnd9 q.1
            exact ⟨(delI lc q.1), (by omega), Aout15, cout16, (n_out + 1), AM218, cM219, (delI lc q.1).length, (acc ++ [q]), En.sub hE ⟨rfl, rfl, rfl, trivial⟩, rfl, hc_M, hnd8, hfi9, hal9, hgM9, B_gd, hln9, O_out, Nb_out_gd, Z_0_out, NN_out_M, O_M, Nb_M_gd, NN_M_out, K_0⟩
  have dr1_3 : ∀ (W : World) (a : Act), En 131 a [(0, Value.pointer (some ⟨gd, 0, none⟩)), (1, Value.int .i64 n), (4, Value.slice none 0 0), (8, Value.pointer (some ⟨gd, 0, none⟩)), (9, Value.pointer (some ⟨gd, 0, none⟩)), (10, Value.pointer (some ⟨gd, 0, none⟩)), (11, Value.pointer (some ⟨gd, 0, none⟩)), (12, Value.int .i64 now), (13, Value.int .i64 n), (14, Value.pointer (some ⟨gd, 0, none⟩)), (15, Value.pointer (some ⟨gd, 0, none⟩)), (16, Value.pointer (some ⟨gd, 0, none⟩)), (17, Value.int .i64 now), (18, Value.int .i64 (2305843009213693952 - now)), (19, Value.int .i64 mn), (20, Value.int .i64 (now + mn)), (21, Value.pointer (some ⟨gd, 0, none⟩)), (22, Value.pointer (some ⟨gd, 0, none⟩))] → W.heap[gd]? = some (.cells #[Value.int .i64 now, Value.slice A L.length c] 50 (0, 0)) → Rv.RdV W A L.length 2 (flT L) → Kp w W (fun k => k = gd) → wpAnyH Try.prog .any (regOf Try.f20 1) QQ (fun W => True) 1 #[true, true, true, true, true, true, true, true, true, true, true, true, true, true, true, false] a W := by
    intro w21 a hE B_gd O_L K_0
    refine d_all (rs := [15]) (by kernel_rfl) rfl ?_
    refine all_cons (d_lit (listed' := #[true, true, true, true, true, true, true, true, true, true, true, true, true, true, true, true]) rfl ?_) ?_
    ·
      refine (s_store (off := 0) (k := 1) (cs' := #[Value.int .i64 (now + mn), Value.slice A L.length c]) p20_1_15 hE wn_none tS3 rfl rfl rfl rfl B_gd (Nat.le_of_ble_eq_true rfl) rfl ?_)
      intro w22 B_gd' hk
      replace O_L := Rv.rdv_keep O_L hk (fun k hk2 h2 => Nb_L_gd (by rw [show k = gd from h2] at hk2; exact hk2))
      replace K_0 := K_0.then_ hk (fun k h => by rw [show k = gd from h]; exact Or.inl rfl)
      replace B_gd := B_gd'
      clear hk
      refine ⟨trivial, ?_⟩
      exact dr1_4 _ a (En.sub hE ⟨rfl, rfl, rfl, rfl, rfl, rfl, rfl, rfl, rfl, rfl, rfl, rfl, rfl, rfl, rfl, rfl, rfl, rfl, trivial⟩) B_gd O_L K_0
    exact all_nil
  have dr1_2 : ∀ (W : World) (a : Act), En 131 a [(0, Value.pointer (some ⟨gd, 0, none⟩)), (1, Value.int .i64 n), (4, Value.slice none 0 0), (8, Value.pointer (some ⟨gd, 0, none⟩)), (9, Value.pointer (some ⟨gd, 0, none⟩)), (10, Value.pointer (some ⟨gd, 0, none⟩)), (11, Value.pointer (some ⟨gd, 0, none⟩)), (13, Value.int .i64 n), (14, Value.pointer (some ⟨gd, 0, none⟩)), (15, Value.pointer (some ⟨gd, 0, none⟩)), (16, Value.pointer (some ⟨gd, 0, none⟩)), (17, Value.int .i64 now), (18, Value.int .i64 (2305843009213693952 - now)), (19, Value.int .i64 mn)] → W.heap[gd]? = some (.cells #[Value.int .i64 now, Value.slice A L.length c] 50 (0, 0)) → Rv.RdV W A L.length 2 (flT L) → Kp w W (fun k => k = gd) → wpAnyH Try.prog .any (regOf Try.f20 1) QQ (fun W => True) 5 #[true, true, true, true, false, true, true, true, true, true, true, true, false, false, false, false] a W := by
    intro w23 a hE B_gd O_L K_0
    refine d_all (rs := [4]) (by kernel_rfl) rfl ?_
    refine all_cons (d_lit (listed' := #[true, true, true, true, true, true, true, true, true, true, true, true, false, false, false, false]) rfl ?_) ?_
    ·
      refine (s_still p20_1_4 hE wn_none rfl (st_load1 tA3 rfl ((blk_cell B_gd 0).trans rfl)) ?_)
      clear hE a; intro a hE
      refine ⟨trivial, ?_⟩
      refine Rv.dq (listed' := #[true, true, true, true, true, true, true, true, true, true, true, true, true, false, false, false]) (v := Value.int .i64 (now + mn)) p20_1_12 ns20_1 hE wn_none trivial (fun W hS => (st_add (z := now + mn) rfl rfl (wr_i64 _ (by omega) (by omega)))) ?_ (fun c a w h => hQ c a _ _ w h); clear hE a; intro a hE
      refine Rv.dq (listed' := #[true, true, true, true, true, true, true, true, true, true, true, true, true, true, false, false]) (v := Value.pointer (some ⟨gd, 0, none⟩)) p20_1_13 ns20_1 hE wn_none trivial (fun W hS => (st_nil rfl)) ?_ (fun c a w h => hQ c a _ _ w h); clear hE a; intro a hE
      refine Rv.dq (listed' := #[true, true, true, true, true, true, true, true, true, true, true, true, true, true, true, false]) (v := Value.pointer (some ⟨gd, 0, none⟩)) p20_1_14 ns20_1 hE wn_none trivial (fun W hS => (st_fieldAddr Try.underlying50 rfl tS3 rfl rfl)) ?_ (fun c a w h => hQ c a _ _ w h); clear hE a; intro a hE
      exact dr1_3 _ a (En.sub hE ⟨rfl, rfl, rfl, rfl, rfl, rfl, rfl, rfl, rfl, rfl, rfl, rfl, rfl, rfl, rfl, rfl, rfl, rfl, trivial⟩) B_gd O_L K_0
    exact all_nil
  have dr1_1 : ∀ (W : World) (a : Act), En 131 a [(0, Value.pointer (some ⟨gd, 0, none⟩)), (1, Value.int .i64 n), (4, Value.slice none 0 0), (8, Value.pointer (some ⟨gd, 0, none⟩)), (9, Value.pointer (some ⟨gd, 0, none⟩)), (10, Value.pointer (some ⟨gd, 0, none⟩)), (11, Value.pointer (some ⟨gd, 0, none⟩)), (12, Value.int .i64 now), (13, Value.int .i64 n), (14, Value.pointer (some ⟨gd, 0, none⟩)), (15, Value.pointer (some ⟨gd, 0, none⟩)), (16, Value.pointer (some ⟨gd, 0, none⟩))] → W.heap[gd]? = some (.cells #[Value.int .i64 now, Value.slice A L.length c] 50 (0, 0)) → Rv.RdV W A L.length 2 (flT L) → Kp w W (fun k => k = gd) → wpAnyH Try.prog .any (regOf Try.f20 1) QQ (fun W => True) 7 #[true, true, true, true, true, true, true, true, true, false, false, false, false, false, false, false] a W := by
    intro w24 a hE B_gd O_L K_0
    refine d_all (rs := [9]) (by kernel_rfl) rfl ?_
    refine all_cons (d_lit (listed' := #[true, true, true, true, true, true, true, true, true, true, false, false, false, false, false, false]) rfl ?_) ?_
    ·
      refine (s_still p20_1_9 hE wn_none rfl (st_load1 tA3 rfl ((blk_cell B_gd 0).trans rfl)) ?_)
      clear hE a; intro a hE
      refine ⟨trivial, ?_⟩
      refine Rv.dq (listed' := #[true, true, true, true, true, true, true, true, true, true, true, false, false, false, false, false]) (v := Value.int .i64 (2305843009213693952 - now)) p20_1_10 ns20_1 hE wn_none trivial (fun W hS => (st_sub (z := 2305843009213693952 - now) rfl rfl (wr_i64 _ (by omega) (by omega)))) ?_ (fun c a w h => hQ c a _ _ w h); clear hE a; intro a hE
      refine Rv.dq (listed' := #[true, true, true, true, true, true, true, true, true, true, true, true, false, false, false, false]) (v := Value.int .i64 mn) p20_1_11 ns20_1 hE wn_none trivial (fun W hS => (st_min (z := mn) rfl rfl hmn)) ?_ (fun c a w h => hQ c a _ _ w h); clear hE a; intro a hE
      refine Rv.dq (listed' := #[true, true, true, true, true, true, true, true, true, true, true, true, true, false, false, false]) (v := Value.int .i64 (now + mn)) p20_1_12 ns20_1 hE wn_none trivial (fun W hS => (st_add (z := now + mn) rfl rfl (wr_i64 _ (by omega) (by omega)))) ?_ (fun c a w h => hQ c a _ _ w h); clear hE a; intro a hE
      refine Rv.dq (listed' := #[true, true, true, true, true, true, true, true, true, true, true, true, true, true, false, false]) (v := Value.pointer (some ⟨gd, 0, none⟩)) p20_1_13 ns20_1 hE wn_none trivial (fun W hS => (st_nil rfl)) ?_ (fun c a w h => hQ c a _ _ w h); clear hE a; intro a hE
      refine Rv.dq (listed' := #[true, true, true, true, true, true, true, true, true, true, true, true, true, true, true, false]) (v := Value.pointer (some ⟨gd, 0, none⟩)) p20_1_14 ns20_1 hE wn_none trivial (fun W hS => (st_fieldAddr Try.underlying50 rfl tS3 rfl rfl)) ?_ (fun c a w h => hQ c a _ _ w h); clear hE a; intro a hE
      exact dr1_3 _ a (En.sub hE ⟨rfl, rfl, rfl, rfl, rfl, rfl, rfl, rfl, rfl, rfl, rfl, rfl, rfl, rfl, rfl, rfl, rfl, rfl, trivial⟩) B_gd O_L K_0
    exact all_nil
  have dr1_0 : ∀ (W : World) (a : Act), En 131 a [(0, Value.pointer (some ⟨gd, 0, none⟩)), (1, Value.int .i64 n), (4, Value.slice none 0 0), (8, Value.pointer (some ⟨gd, 0, none⟩)), (9, Value.pointer (some ⟨gd, 0, none⟩)), (10, Value.pointer (some ⟨gd, 0, none⟩)), (11, Value.pointer (some ⟨gd, 0, none⟩)), (13, Value.int .i64 n), (14, Value.pointer (some ⟨gd, 0, none⟩)), (15, Value.pointer (some ⟨gd, 0, none⟩)), (16, Value.pointer (some ⟨gd, 0, none⟩))] → W.heap[gd]? = some (.cells #[Value.int .i64 now, Value.slice A L.length c] 50 (0, 0)) → Rv.RdV W A L.length 2 (flT L) → Kp w W (fun k => k = gd) → wpAnyH Try.prog .any (regOf Try.f20 1) QQ (fun W => True) 8 #[true, true, true, true, false, true, true, true, true, false, false, false, false, false, false, false] a W := by
    intro w25 a hE B_gd O_L K_0
    refine d_all (rs := [4, 9]) (by kernel_rfl) rfl ?_
    refine all_cons (d_lit (listed' := #[true, true, true, true, true, true, true, true, true, false, false, false, false, false, false, false]) rfl ?_) ?_
    ·
      refine (s_still p20_1_4 hE wn_none rfl (st_load1 tA3 rfl ((blk_cell B_gd 0).trans rfl)) ?_)
      clear hE a; intro a hE
      refine ⟨trivial, ?_⟩
      exact dr1_1 _ a (En.sub hE ⟨rfl, rfl, rfl, rfl, rfl, rfl, rfl, rfl, rfl, rfl, rfl, rfl, trivial⟩) B_gd O_L K_0
    refine all_cons (d_lit (listed' := #[true, true, true, true, false, true, true, true, true, true, false, false, false, false, false, false]) rfl ?_) ?_
    ·
      refine (s_still p20_1_9 hE wn_none rfl (st_load1 tA3 rfl ((blk_cell B_gd 0).trans rfl)) ?_)
      clear hE a; intro a hE
      refine ⟨trivial, ?_⟩
      refine Rv.dq (listed' := #[true, true, true, true, false, true, true, true, true, true, true, false, false, false, false, false]) (v := Value.int .i64 (2305843009213693952 - now)) p20_1_10 ns20_1 hE wn_none trivial (fun W hS => (st_sub (z := 2305843009213693952 - now) rfl rfl (wr_i64 _ (by omega) (by omega)))) ?_ (fun c a w h => hQ c a _ _ w h); clear hE a; intro a hE
      refine Rv.dq (listed' := #[true, true, true, true, false, true, true, true, true, true, true, true, false, false, false, false]) (v := Value.int .i64 mn) p20_1_11 ns20_1 hE wn_none trivial (fun W hS => (st_min (z := mn) rfl rfl hmn)) ?_ (fun c a w h => hQ c a _ _ w h); clear hE a; intro a hE
      exact dr1_2 _ a (En.sub hE ⟨rfl, rfl, rfl, rfl, rfl, rfl, rfl, rfl, rfl, rfl, rfl, rfl, rfl, rfl, trivial⟩) B_gd O_L K_0
    exact all_nil
  intro w1 hh hk
  replace B_gd := kp_blk B_gd hk (fun h => h)
  replace O_L := Rv.rdv_keep O_L hk (fun _ _ h => h)
  replace K_0 := K_0.then_ hk (fun _ h => h.elim)
  clear hh hk
  refine Rv.dq (listed' := #[true, false, false, false, false, false, false, false, false, false, false, false, false, false, false, false]) (v := Value.pointer (some ⟨gd, 0, none⟩)) p20_1_0 ns20_1 hE wn_none trivial (fun W hS => (st_move rfl)) ?_ (fun c a w h => hQ c a _ _ w h); clear hE a; intro a hE
  refine Rv.dq (listed' := #[true, true, false, false, false, false, false, false, false, false, false, false, false, false, false, false]) (v := Value.pointer (some ⟨gd, 0, none⟩)) p20_1_1 ns20_1 hE wn_none trivial (fun W hS => (st_move rfl)) ?_ (fun c a w h => hQ c a _ _ w h); clear hE a; intro a hE
  refine Rv.dq (listed' := #[true, true, true, false, false, false, false, false, false, false, false, false, false, false, false, false]) (v := Value.pointer (some ⟨gd, 0, none⟩)) p20_1_2 ns20_1 hE wn_none trivial (fun W hS => (st_nil rfl)) ?_ (fun c a w h => hQ c a _ _ w h); clear hE a; intro a hE
  refine Rv.dq (listed' := #[true, true, true, true, false, false, false, false, false, false, false, false, false, false, false, false]) (v := Value.pointer (some ⟨gd, 0, none⟩)) p20_1_3 ns20_1 hE wn_none trivial (fun W hS => (st_fieldAddr Try.underlying50 rfl tS3 rfl rfl)) ?_ (fun c a w h => hQ c a _ _ w h); clear hE a; intro a hE
  refine Rv.dq (listed' := #[true, true, true, true, false, true, false, false, false, false, false, false, false, false, false, false]) (v := Value.int .i64 n) p20_1_5 ns20_1 hE wn_none trivial (fun W hS => (st_move rfl)) ?_ (fun c a w h => hQ c a _ _ w h); clear hE a; intro a hE
  refine Rv.dq (listed' := #[true, true, true, true, false, true, true, false, false, false, false, false, false, false, false, false]) (v := Value.pointer (some ⟨gd, 0, none⟩)) p20_1_6 ns20_1 hE wn_none trivial (fun W hS => (st_move rfl)) ?_ (fun c a w h => hQ c a _ _ w h); clear hE a; intro a hE
  refine Rv.dq (listed' := #[true, true, true, true, false, true, true, true, false, false, false, false, false, false, false, false]) (v := Value.pointer (some ⟨gd, 0, none⟩)) p20_1_7 ns20_1 hE wn_none trivial (fun W hS => (st_nil rfl)) ?_ (fun c a w h => hQ c a _ _ w h); clear hE a; intro a hE
  refine Rv.dq (listed' := #[true, true, true, true, false, true, true, true, true, false, false, false, false, false, false, false]) (v := Value.pointer (some ⟨gd, 0, none⟩)) p20_1_8 ns20_1 hE wn_none trivial (fun W hS => (st_fieldAddr Try.underlying50 rfl tS3 rfl rfl)) ?_ (fun c a w h => hQ c a _ _ w h); clear hE a; intro a hE
  exact dr1_0 _ a (En.sub hE ⟨rfl, rfl, rfl, rfl, rfl, rfl, rfl, rfl, rfl, rfl, rfl, trivial⟩) B_gd O_L K_0
end Go.Proofs.Ytlmjbmeigclihaa.We
