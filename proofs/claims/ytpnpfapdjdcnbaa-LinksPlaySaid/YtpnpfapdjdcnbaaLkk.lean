/- Layer 26: the chapter's example. -/
import Derived.Test.YtpnpfapdjdcnbaaLkh
import Derived.LoopN
set_option maxRecDepth 100000
set_option linter.unusedVariables false
set_option linter.unusedSimpArgs false
namespace Go.Proofs.Ytpnpfapdjdcnbaa.Lq
open Go.RowKit Go.Proofs.YtpnpfapdjdcnbaaW.PrintWords Go.Proofs.Ytpnpfapdjdcnbaa.Ds Go.Proofs.Ytpnpfapdjdcnbaa.Lk Go.Proofs.Ytpnpfapdjdcnbaa.Ln Go.Proofs.Ytpnpfapdjdcnbaa.Lh
open Go.Proofs.Ytpnpfapdjdcnbaa.Pk (Kp)
open Go.Proofs.Ytpnpfapdjdcnbaa.Mp (st_eqlP st_neqP x_normS x_retS x_exitS)
def fK : Int → Int → Option Int := (lkS 4 (lkS 4 (fun _ _ => none) 0 1 128) 2 1 128)
theorem ed3 (a : Nat) : ¬ Ed 4 fK a 3 := by
  rintro ⟨_, h⟩
  by_cases ha : a < 4
  · have : ∀ a, a < 4 → (costP 4 fK (a : Nat) 3).2 ≠ 0 := by decide +kernel
    exact this a ha h
  · have hn : nodeB ((4 : Nat) : Int) (a : Int) = false := decide_eq_false (by omega)
    unfold costP at h
    rw [hn, Bool.false_and] at h
    exact absurd (show (1 : Int) = 0 from h) (by decide)
theorem knh {h : List Int} (hB : Bf.Base (Ed 4 fK) 4 0 h) (hc : ∀ a b, a < 4 → b < 4 → Ed 4 fK a b → 0 ≤ Bf.at_ h a → 0 ≤ Bf.at_ h b ∧ Bf.at_ h b ≤ Bf.at_ h a + 1) : h = [0, 1, 2, -1] := by
  have e01 : Ed 4 fK 0 1 := ⟨by decide, by decide +kernel⟩
  have e12 : Ed 4 fK 1 2 := ⟨by decide, by decide +kernel⟩
  have n02 : ¬ Ed 4 fK 0 2 := fun q => absurd q.2 (by decide +kernel)
  have h0 := hB.zero
  have h1 := hc 0 1 (by decide) (by decide) e01 (by omega)
  have h2 := hc 1 2 (by decide) (by decide) e12 h1.1
  have w1 := hB.walk 1 (by decide) h1.1
  have w2 := hB.walk 2 (by decide) h2.1
  have v1 : Bf.at_ h 1 = 1 := by
    rcases (show Bf.at_ h 1 = 0 ∨ Bf.at_ h 1 = 1 by omega) with q | q
    · rw [q] at w1; cases w1
    · exact q
  have v2 : Bf.at_ h 2 = 2 := by
    rcases (show Bf.at_ h 2 = 0 ∨ Bf.at_ h 2 = 1 ∨ Bf.at_ h 2 = 2 by omega) with q | q | q
    · rw [q] at w2; cases w2
    · rw [q] at w2
      exfalso
      have w3 : Bf.Wk (Ed 4 fK) 0 2 (0 + 1) := w2
      cases w3 with
      | step a b => cases a; exact n02 b
    · exact q
  have v3 : Bf.at_ h 3 = -1 := by
    have l3 := hB.low 3 (by decide)
    rcases (show Bf.at_ h 3 = -1 ∨ 0 ≤ Bf.at_ h 3 by omega) with q | q
    · exact q
    · exfalso
      have w3 := hB.walk 3 (by decide) q
      generalize (Bf.at_ h 3).toNat = k at w3
      cases w3 with
      | step a b => exact ed3 _ b
  have hl := hB.len
  match h, hl with
  | [a, b, c, d], _ =>
    have q0 : a = 0 := h0
    have q1 : b = 1 := v1
    have q2 : c = 2 := v2
    have q3 : d = -1 := v3
    rw [q0, q1, q2, q3]
theorem R37_0_l : List.range (regOf Try.f37 0).size = [0] := by kernel_rfl
theorem R37_1_l : List.range (regOf Try.f37 1).size = [0, 1, 2, 3, 4] := by kernel_rfl
theorem R37_2_l : List.range (regOf Try.f37 2).size = [0] := by kernel_rfl
theorem R37_3_l : List.range (regOf Try.f37 3).size = [0] := by kernel_rfl
theorem R37_4_l : List.range (regOf Try.f37 4).size = [0, 1, 2, 3] := by kernel_rfl
theorem R37_6_l : List.range (regOf Try.f37 6).size = [0, 1, 2, 3, 4, 5, 6, 7, 8] := by kernel_rfl
theorem R37_7_l : List.range (regOf Try.f37 7).size = [0] := by kernel_rfl
theorem R37_5_l : List.range (regOf Try.f37 5).size = [0, 1, 2] := by kernel_rfl
theorem R37_8_l : List.range (regOf Try.f37 8).size = [0] := by kernel_rfl
theorem body37 : Try.f37.body = some (.seq (.region 0 (regOf Try.f37 0) false) (.seq (.seq (.region 1 (regOf Try.f37 1) false) (.cond (Operand.tmp 10) (.seq (.region 2 (regOf Try.f37 2) false) (.ret)) (.skip))) (.seq (.seq (.region 3 (regOf Try.f37 3) false) (.block 0 (.loop (.seq (.seq (.region 4 (regOf Try.f37 4) false) (.cond (Operand.tmp 14) (.skip) (.exit 0))) (.seq (.block 1 (.seq (.region 6 (regOf Try.f37 6) true) (.cond (Operand.tmp 25) (.seq (.region 7 (regOf Try.f37 7) false) (.ret)) (.skip)))) (.region 5 (regOf Try.f37 5) false)))))) (.seq (.region 8 (regOf Try.f37 8) false) (.ret))))) := by kernel_rfl
theorem p37_0_0 : pj (regOf Try.f37 0) 0 = some (some 4, .assign (.const (.bool false)), 4, none) := by kernel_rfl
theorem p37_1_0 : pj (regOf Try.f37 1) 0 = some (some 6, .move (.tmp 0), 52, none) := by kernel_rfl
theorem p37_1_1 : pj (regOf Try.f37 1) 1 = some (some 7, .call { callee := .builtin .len, args := #[.tmp 6], argTypes := #[52] }, 3, none) := by kernel_rfl
theorem p37_1_2 : pj (regOf Try.f37 1) 2 = some (some 8, .move (.tmp 1), 52, none) := by kernel_rfl
theorem p37_1_3 : pj (regOf Try.f37 1) 3 = some (some 9, .call { callee := .builtin .len, args := #[.tmp 8], argTypes := #[52] }, 3, none) := by kernel_rfl
theorem p37_1_4 : pj (regOf Try.f37 1) 4 = some (some 10, .binOp .neq 3 (.tmp 7) (.tmp 9) 3, 4, none) := by kernel_rfl
theorem p37_3_0 : pj (regOf Try.f37 3) 0 = some (some 5, .assign (.const (.int .i64 0)), 3, none) := by kernel_rfl
theorem p37_4_0 : pj (regOf Try.f37 4) 0 = some (some 11, .move (.tmp 5), 3, none) := by kernel_rfl
theorem p37_4_1 : pj (regOf Try.f37 4) 1 = some (some 12, .move (.tmp 0), 52, none) := by kernel_rfl
theorem p37_4_2 : pj (regOf Try.f37 4) 2 = some (some 13, .call { callee := .builtin .len, args := #[.tmp 12], argTypes := #[52] }, 3, none) := by kernel_rfl
theorem p37_4_3 : pj (regOf Try.f37 4) 3 = some (some 14, .binOp .lss 3 (.tmp 11) (.tmp 13) 3, 4, none) := by kernel_rfl
theorem ns37_6 : Region.noSelect (regOf Try.f37 6) = true := by kernel_rfl
theorem p37_6_0 : pj (regOf Try.f37 6) 0 = some (some 17, .move (.tmp 0), 52, none) := by kernel_rfl
theorem p37_6_1 : pj (regOf Try.f37 6) 1 = some (some 18, .move (.tmp 5), 3, none) := by kernel_rfl
theorem p37_6_2 : pj (regOf Try.f37 6) 2 = some (some 19, .indexAddr 52 (.tmp 17) (.tmp 18), 0, none) := by kernel_rfl
theorem tS3 : (Try.prog.info? 3).map (·.size) = some 1 := by kernel_rfl
theorem p37_6_3 : pj (regOf Try.f37 6) 3 = some (some 20, .load 3 (.tmp 19), 3, none) := by kernel_rfl
theorem tA3 : (Try.prog.underlying 3).map aggD = some false := by kernel_rfl
theorem p37_6_4 : pj (regOf Try.f37 6) 4 = some (some 21, .move (.tmp 1), 52, none) := by kernel_rfl
theorem p37_6_5 : pj (regOf Try.f37 6) 5 = some (some 22, .move (.tmp 5), 3, none) := by kernel_rfl
theorem p37_6_6 : pj (regOf Try.f37 6) 6 = some (some 23, .indexAddr 52 (.tmp 21) (.tmp 22), 0, none) := by kernel_rfl
theorem p37_6_7 : pj (regOf Try.f37 6) 7 = some (some 24, .load 3 (.tmp 23), 3, none) := by kernel_rfl
theorem p37_6_8 : pj (regOf Try.f37 6) 8 = some (some 25, .binOp .neq 3 (.tmp 20) (.tmp 24) 3, 4, none) := by kernel_rfl
theorem p37_5_0 : pj (regOf Try.f37 5) 0 = some (some 15, .move (.tmp 5), 3, none) := by kernel_rfl
theorem p37_5_1 : pj (regOf Try.f37 5) 1 = some (some 16, .binOp .add 3 (.tmp 15) (.const (.int .i64 1)) 3, 3, none) := by kernel_rfl
theorem p37_5_2 : pj (regOf Try.f37 5) 2 = some (some 5, .assign (.tmp 16), 3, none) := by kernel_rfl
theorem p37_8_0 : pj (regOf Try.f37 8) 0 = some (some 4, .assign (.const (.bool true)), 4, none) := by kernel_rfl
set_option maxHeartbeats 4000000 in
theorem same_i (A B : Option Addr) (c cb : Nat) (l : List Int) (w : World) (hl : l.length ≤ 1000000) (hF : ∀ W', Kp w W' (fun _ => False) → Kd.C (Kd.int .i64) W' A l.length l) (hG : ∀ W', Kp w W' (fun _ => False) → Kd.C (Kd.int .i64) W' B l.length l) : Calls Try.prog 37 #[.slice A l.length c, .slice B l.length cb] w fun e w' => e = .returned (.bool true) ∧ Kp w w' (fun _ => False) := by
  have K_0 := Kp.refl w (fun _ => False)
  refine enter (args := [Value.slice A l.length c, Value.slice B l.length cb]) (n := 26) Try.func37 body37 rfl rfl rfl ?_
  intro a hE
  refine c_reg R37_0_l ?_
  refine q0 p37_0_0 hE (st_assign rfl) ?_
  clear hE a; intro a hE
  refine p_nil ?_
  refine x_norm ?_
  refine wp_seq ?_
  refine c_reg R37_1_l ?_
  refine q0 p37_1_0 hE (st_move rfl) ?_
  clear hE a; intro a hE
  refine q0 p37_1_1 hE (st_len Try.underlying52 rfl) ?_
  clear hE a; intro a hE
  refine q0 p37_1_2 hE (st_move rfl) ?_
  clear hE a; intro a hE
  refine q0 p37_1_3 hE (st_len Try.underlying52 rfl) ?_
  clear hE a; intro a hE
  refine q0 p37_1_4 hE (st_neq (b := false) rfl rfl (by simp)) ?_
  clear hE a; intro a hE
  refine p_nil ?_
  refine x_norm ?_
  refine c_cond (t := false) hE rfl ?_
  refine wp_skip ?_
  refine x_norm ?_
  refine wp_seq ?_
  refine c_reg R37_3_l ?_
  refine q0 p37_3_0 hE (st_assign rfl) ?_
  clear hE a; intro a hE
  refine p_nil ?_
  refine x_norm ?_
  refine wp_block ?_
  refine c_loop (α := Nat) (fun j a W => En 26 a [(0, Value.slice A l.length c), (1, Value.slice B l.length cb), (10, Value.bool false), (5, Value.int .i64 (j : Int))] ∧ j ≤ l.length ∧ Kp w W (fun _ => False)) (fun j => l.length - j) (0) ?_ ?_
  ·
    exact ⟨En.sub hE ⟨rfl, rfl, rfl, rfl, trivial⟩, Nat.zero_le _, K_0⟩
  ·
    clear hE a
    rintro j a w1 ⟨hE, hj9, K_0⟩
    refine wp_seq ?_
    rcases Decidable.em ((j : Int) < (l.length : Int)) with hK1 | hK1
    ·
      refine c_reg R37_4_l ?_
      refine q0 p37_4_0 hE (st_move rfl) ?_
      clear hE a; intro a hE
      refine q0 p37_4_1 hE (st_move rfl) ?_
      clear hE a; intro a hE
      refine q0 p37_4_2 hE (st_len Try.underlying52 rfl) ?_
      clear hE a; intro a hE
      refine q0 p37_4_3 hE (st_lss (b := true) rfl rfl (decide_eq_true hK1)) ?_
      clear hE a; intro a hE
      refine p_nil ?_
      refine x_norm ?_
      refine c_cond (t := true) hE rfl ?_
      refine wp_skip ?_
      refine x_norm ?_
      refine wp_seq ?_
      refine wp_block ?_
      refine c_drawS (S := fun W => Kd.C (Kd.int .i64) W A l.length l ∧ Kd.C (Kd.int .i64) W B l.length l ∧ True) rfl rfl (listed := #[false, false, false, false, false, false, false, false, false]) rfl ?_
      intro w2 hh hk
      replace K_0 := K_0.then_ hk (fun _ h => h.elim)
      clear hh hk
      refine d_take (v := Value.slice A l.length c) p37_6_0 ns37_6 (by kernel_rfl) (by kernel_rfl) (fun _ _ _ h => h) hE wn_none rfl ⟨(hF _ K_0), (hG _ K_0), trivial⟩ (fun W hS => (st_move rfl)) rfl ?_
      clear hE a; intro a hE
      refine d_take (v := Value.int .i64 (j : Int)) p37_6_1 ns37_6 (by kernel_rfl) (by kernel_rfl) (fun _ _ _ h => h) hE wn_none rfl ⟨(hF _ K_0), (hG _ K_0), trivial⟩ (fun W hS => (st_move rfl)) rfl ?_
      clear hE a; intro a hE
      refine d_take (v := Value.pointer (some (ea A j))) p37_6_2 ns37_6 (by kernel_rfl) (by kernel_rfl) (fun _ _ _ h => h) hE wn_none rfl ⟨(hF _ K_0), (hG _ K_0), trivial⟩ (fun W hS => (st_indexAddrS (i := j) Try.underlying52 tS3 (C_at (hF _ K_0) (show j < _ by omega)).1 rfl rfl (by omega))) rfl ?_
      clear hE a; intro a hE
      refine d_take (v := Value.int .i64 (rd l (j : Int))) p37_6_3 ns37_6 (by kernel_rfl) (by kernel_rfl) (fun _ _ _ h => h) hE wn_none rfl ⟨(hF _ K_0), (hG _ K_0), trivial⟩ (fun W hS => (st_loadC (i := j) tA3 (hS.1) (by omega) rfl)) rfl ?_
      clear hE a; intro a hE
      refine d_take (v := Value.slice B l.length cb) p37_6_4 ns37_6 (by kernel_rfl) (by kernel_rfl) (fun _ _ _ h => h) hE wn_none rfl ⟨(hF _ K_0), (hG _ K_0), trivial⟩ (fun W hS => (st_move rfl)) rfl ?_
      clear hE a; intro a hE
      refine d_take (v := Value.int .i64 (j : Int)) p37_6_5 ns37_6 (by kernel_rfl) (by kernel_rfl) (fun _ _ _ h => h) hE wn_none rfl ⟨(hF _ K_0), (hG _ K_0), trivial⟩ (fun W hS => (st_move rfl)) rfl ?_
      clear hE a; intro a hE
      refine d_take (v := Value.pointer (some (ea B j))) p37_6_6 ns37_6 (by kernel_rfl) (by kernel_rfl) (fun _ _ _ h => h) hE wn_none rfl ⟨(hF _ K_0), (hG _ K_0), trivial⟩ (fun W hS => (st_indexAddrS (i := j) Try.underlying52 tS3 (C_at (hG _ K_0) (show j < _ by omega)).1 rfl rfl (by omega))) rfl ?_
      clear hE a; intro a hE
      refine d_take (v := Value.int .i64 (rd l (j : Int))) p37_6_7 ns37_6 (by kernel_rfl) (by kernel_rfl) (fun _ _ _ h => h) hE wn_none rfl ⟨(hF _ K_0), (hG _ K_0), trivial⟩ (fun W hS => (st_loadC (i := j) tA3 (hS.2.1) (by omega) rfl)) rfl ?_
      clear hE a; intro a hE
      refine d_take (v := Value.bool false) p37_6_8 ns37_6 (by kernel_rfl) (by kernel_rfl) (fun _ _ _ h => h) hE wn_none rfl ⟨(hF _ K_0), (hG _ K_0), trivial⟩ (fun W hS => (st_neq (b := false) rfl rfl (by simp))) rfl ?_
      clear hE a; intro a hE
      refine d_end (by kernel_rfl) ?_
      refine x_norm ?_
      refine c_cond (t := false) hE rfl ?_
      refine wp_skip ?_
      refine x_normB ?_
      refine x_norm ?_
      refine c_regL R37_5_l ?_
      refine q0 p37_5_0 hE (st_move rfl) ?_
      clear hE a; intro a hE
      refine q0 p37_5_1 hE (st_add (z := (j : Int) + 1) rfl rfl (wr_i64 _ (by omega) (by omega))) ?_
      clear hE a; intro a hE
      refine q0 p37_5_2 hE (st_assign rfl) ?_
      clear hE a; intro a hE
      refine p_nil ?_
      refine x_norm ?_
      exact ⟨j + 1, by omega, En.sub hE ⟨rfl, rfl, rfl, rfl, trivial⟩, by omega, K_0⟩
    ·
      refine c_reg R37_4_l ?_
      refine q0 p37_4_0 hE (st_move rfl) ?_
      clear hE a; intro a hE
      refine q0 p37_4_1 hE (st_move rfl) ?_
      clear hE a; intro a hE
      refine q0 p37_4_2 hE (st_len Try.underlying52 rfl) ?_
      clear hE a; intro a hE
      refine q0 p37_4_3 hE (st_lss (b := false) rfl rfl (decide_eq_false hK1)) ?_
      clear hE a; intro a hE
      refine p_nil ?_
      refine x_norm ?_
      refine c_cond (t := false) hE rfl ?_
      refine wp_exit ?_
      refine x_exit ?_
      refine x_exit ?_
      refine x_in ?_
      refine x_norm ?_
      refine c_reg R37_8_l ?_
      refine q0 p37_8_0 hE (st_assign rfl) ?_
      clear hE a; intro a hE
      refine p_nil ?_
      refine x_norm ?_
      refine wp_ret ?_
      refine ret_one (v := Value.bool true) rfl hE (.tmp rfl .nil) ?_
      exact ⟨rfl, K_0⟩
theorem set_yes (g gm ck : Nat) (es : Array MapEntry) (f : Int → Int → Option Int) (n : Int) (x y c : Int) (hs : setB n x y c = true) (w : World) (hg : w.heap[g]? = some (.cells #[.int .i64 n, .map (some gm)] 83 (0, 0))) (hm : w.heap[gm]? = some (.map es ck)) (hF : Mp.MapF es f) (hne : g ≠ gm) : Calls Try.prog 29 #[.pointer (some ⟨g, 0, none⟩), .int .i64 x, .int .i64 y, .int .i64 c] w fun e w' => ∃ es' ck', e = .returned (.int .i64 0) ∧ Mp.MapF es' (lkS n f x y c) ∧ w'.heap[gm]? = some (.map es' ck') ∧ Kp w w' (fun k => k = gm) := by
  have := set_any g gm ck es f n x y c w hg hm hF hne
  rw [hs] at this
  exact this
theorem R40_0_l : List.range (regOf Try.f40 0).size = [0] := by kernel_rfl
theorem R40_1_l : List.range (regOf Try.f40 1).size = [0, 1, 2, 3] := by kernel_rfl
theorem R40_2_l : List.range (regOf Try.f40 2).size = [0] := by kernel_rfl
theorem R40_3_l : List.range (regOf Try.f40 3).size = [0, 1, 2] := by kernel_rfl
theorem R40_4_l : List.range (regOf Try.f40 4).size = [0, 1] := by kernel_rfl
theorem R40_5_l : List.range (regOf Try.f40 5).size = [0] := by kernel_rfl
theorem R40_6_l : List.range (regOf Try.f40 6).size = [0, 1] := by kernel_rfl
theorem R40_7_l : List.range (regOf Try.f40 7).size = [0, 1, 2] := by kernel_rfl
theorem body40 : Try.f40.body = some (.seq (.region 0 (regOf Try.f40 0) false) (.seq (.seq (.region 1 (regOf Try.f40 1) false) (.block 0 (.loop (.seq (.region 2 (regOf Try.f40 2) false) (.seq (.cond (Operand.tmp 9) (.skip) (.exit 0)) (.seq (.block 1 (.seq (.region 3 (regOf Try.f40 3) false) (.seq (.region 4 (regOf Try.f40 4) false) (.cond (Operand.tmp 13) (.seq (.region 5 (regOf Try.f40 5) false) (.ret)) (.skip))))) (.region 6 (regOf Try.f40 6) false))))))) (.seq (.region 7 (regOf Try.f40 7) false) (.ret)))) := by kernel_rfl
theorem p40_0_0 : pj (regOf Try.f40 0) 0 = some (some 2, .assign (.const (.bool false)), 4, none) := by kernel_rfl
theorem p40_1_0 : pj (regOf Try.f40 1) 0 = some (some 5, .move (.tmp 0), 56, none) := by kernel_rfl
theorem p40_1_1 : pj (regOf Try.f40 1) 1 = some (some 6, .call { callee := .value (.func 30), args := #[.tmp 5, .const (.int .i64 0)], argTypes := #[56, 3] }, 52, none) := by kernel_rfl
theorem cl30 : callable Try.f30 = true := by kernel_rfl
theorem p40_1_2 : pj (regOf Try.f40 1) 2 = some (some 7, .call { callee := .builtin .len, args := #[.tmp 6], argTypes := #[52] }, 3, none) := by kernel_rfl
theorem p40_1_3 : pj (regOf Try.f40 1) 3 = some (some 8, .move (.const (.int .i64 0)), 3, none) := by kernel_rfl
theorem p40_2_0 : pj (regOf Try.f40 2) 0 = some (some 9, .binOp .lss 3 (.tmp 8) (.tmp 7) 3, 0, none) := by kernel_rfl
theorem p40_3_0 : pj (regOf Try.f40 3) 0 = some (some 10, .indexAddr 52 (.tmp 6) (.tmp 8), 0, none) := by kernel_rfl
theorem p40_3_1 : pj (regOf Try.f40 3) 1 = some (some 11, .load 3 (.tmp 10), 3, none) := by kernel_rfl
theorem p40_3_2 : pj (regOf Try.f40 3) 2 = some (some 4, .assign (.tmp 11), 3, none) := by kernel_rfl
theorem p40_4_0 : pj (regOf Try.f40 4) 0 = some (some 12, .move (.tmp 4), 3, none) := by kernel_rfl
theorem p40_4_1 : pj (regOf Try.f40 4) 1 = some (some 13, .binOp .lss 3 (.tmp 12) (.const (.int .i64 0)) 3, 4, none) := by kernel_rfl
theorem p40_6_0 : pj (regOf Try.f40 6) 0 = some (some 14, .binOp .add 3 (.tmp 8) (.const (.int .i64 1)) 3, 3, none) := by kernel_rfl
theorem p40_6_1 : pj (regOf Try.f40 6) 1 = some (some 8, .move (.tmp 14), 3, none) := by kernel_rfl
theorem p40_5_0 : pj (regOf Try.f40 5) 0 = some (some 2, .assign (.const (.bool false)), 4, none) := by kernel_rfl
set_option maxHeartbeats 4000000 in
theorem conn_4 (g gm ck : Nat) (es : Array MapEntry) (w : World) (hg : w.heap[g]? = some (.cells #[.int .i64 4, .map (some gm)] 83 (0, 0))) (hm : w.heap[gm]? = some (.map es ck)) (hF : Mp.MapF es fK) (hne : g ≠ gm) : Calls Try.prog 40 #[.pointer (some ⟨g, 0, none⟩)] w fun e w' => e = .returned (.bool false) ∧ Kp w w' (fun _ => False) := by
  have K_0 := Kp.refl w (fun _ => False)
  have B_g := hg
  have B_gm := hm
  have n_g_gm := hne
  refine enter (args := [Value.pointer (some ⟨g, 0, none⟩)]) (n := 17) Try.func40 body40 rfl rfl rfl ?_
  intro a hE
  refine c_reg R40_0_l ?_
  refine q0 p40_0_0 hE (st_assign rfl) ?_
  clear hE a; intro a hE
  refine p_nil ?_
  refine x_norm ?_
  refine wp_seq ?_
  refine c_reg R40_1_l ?_
  refine q0 p40_1_0 hE (st_move rfl) ?_
  clear hE a; intro a hE
  refine p_cons (s_call (xs := [Operand.tmp 5, Operand.const (Value.int IntKind.i64 0)]) (args := [Value.pointer (some ⟨g, 0, none⟩), Value.int .i64 0]) p40_1_1 hE wn_none rfl rfl Try.func30 cl30 (hops_any g gm _ 4 _ _ 0 (by decide) (by decide) _ B_g B_gm hF n_g_gm) ?_)
  rintro e w2 ⟨Ah1, ch1, hh9, rfl, hqh1, ⟨hB9, hc9⟩, Fh1, hk⟩
  replace B_g := kp_blk B_g hk (fun h => h)
  replace B_gm := kp_blk B_gm hk (fun h => h)
  replace K_0 := K_0.then_ hk (fun _ h => h.elim)
  have ek := knh hB9 hc9
  subst ek
  have K_s3 := Kp.refl w2 (fun _ => False)
  refine ⟨_, rfl, ?_⟩
  clear hE a; intro a hE
  refine q0 p40_1_2 hE (st_len Try.underlying52 rfl) ?_
  clear hE a; intro a hE
  refine q0 p40_1_3 hE (st_move rfl) ?_
  clear hE a; intro a hE
  refine p_nil ?_
  refine x_norm ?_
  refine wp_block ?_
  refine wp_loop_rounds 4 ?_
  refine (Eq.mpr (rounds_succ (n := 3)) ?_)
  refine c_reg R40_2_l ?_
  refine q0 p40_2_0 hE (st_lss (b := true) rfl rfl (by decide)) ?_
  clear hE a; intro a hE
  refine p_nil ?_
  refine x_norm ?_
  refine wp_seq ?_
  refine c_cond (t := true) hE rfl ?_
  refine wp_skip ?_
  refine x_norm ?_
  refine wp_seq ?_
  refine wp_block ?_
  refine c_reg R40_3_l ?_
  refine q0 p40_3_0 hE (st_indexAddrC (i := 0) Try.underlying52 tS3 (Fh1 _ K_s3) rfl rfl (by omega)) ?_
  clear hE a; intro a hE
  refine q0 (v := Value.int .i64 0) p40_3_1 hE (st_loadC (i := 0) tA3 (Fh1 _ K_s3) (by omega) rfl) ?_
  clear hE a; intro a hE
  refine q0 p40_3_2 hE (st_assign rfl) ?_
  clear hE a; intro a hE
  refine p_nil ?_
  refine x_norm ?_
  refine c_reg R40_4_l ?_
  refine q0 p40_4_0 hE (st_move rfl) ?_
  clear hE a; intro a hE
  refine q0 p40_4_1 hE (st_lss (b := false) rfl rfl (by decide)) ?_
  clear hE a; intro a hE
  refine p_nil ?_
  refine x_norm ?_
  refine c_cond (t := false) hE rfl ?_
  refine wp_skip ?_
  refine x_normB ?_
  refine x_norm ?_
  refine c_regL R40_6_l ?_
  refine q0 p40_6_0 hE (st_add (z := 1) rfl rfl (by decide)) ?_
  clear hE a; intro a hE
  refine q0 p40_6_1 hE (st_move rfl) ?_
  clear hE a; intro a hE
  refine p_nil ?_
  refine x_norm ?_
  refine (Eq.mpr (rounds_succ (n := 2)) ?_)
  refine c_reg R40_2_l ?_
  refine q0 p40_2_0 hE (st_lss (b := true) rfl rfl (by decide)) ?_
  clear hE a; intro a hE
  refine p_nil ?_
  refine x_norm ?_
  refine wp_seq ?_
  refine c_cond (t := true) hE rfl ?_
  refine wp_skip ?_
  refine x_norm ?_
  refine wp_seq ?_
  refine wp_block ?_
  refine c_reg R40_3_l ?_
  refine q0 p40_3_0 hE (st_indexAddrC (i := 1) Try.underlying52 tS3 (Fh1 _ K_s3) rfl rfl (by omega)) ?_
  clear hE a; intro a hE
  refine q0 (v := Value.int .i64 1) p40_3_1 hE (st_loadC (i := 1) tA3 (Fh1 _ K_s3) (by omega) rfl) ?_
  clear hE a; intro a hE
  refine q0 p40_3_2 hE (st_assign rfl) ?_
  clear hE a; intro a hE
  refine p_nil ?_
  refine x_norm ?_
  refine c_reg R40_4_l ?_
  refine q0 p40_4_0 hE (st_move rfl) ?_
  clear hE a; intro a hE
  refine q0 p40_4_1 hE (st_lss (b := false) rfl rfl (by decide)) ?_
  clear hE a; intro a hE
  refine p_nil ?_
  refine x_norm ?_
  refine c_cond (t := false) hE rfl ?_
  refine wp_skip ?_
  refine x_normB ?_
  refine x_norm ?_
  refine c_regL R40_6_l ?_
  refine q0 p40_6_0 hE (st_add (z := 2) rfl rfl (by decide)) ?_
  clear hE a; intro a hE
  refine q0 p40_6_1 hE (st_move rfl) ?_
  clear hE a; intro a hE
  refine p_nil ?_
  refine x_norm ?_
  refine (Eq.mpr (rounds_succ (n := 1)) ?_)
  refine c_reg R40_2_l ?_
  refine q0 p40_2_0 hE (st_lss (b := true) rfl rfl (by decide)) ?_
  clear hE a; intro a hE
  refine p_nil ?_
  refine x_norm ?_
  refine wp_seq ?_
  refine c_cond (t := true) hE rfl ?_
  refine wp_skip ?_
  refine x_norm ?_
  refine wp_seq ?_
  refine wp_block ?_
  refine c_reg R40_3_l ?_
  refine q0 p40_3_0 hE (st_indexAddrC (i := 2) Try.underlying52 tS3 (Fh1 _ K_s3) rfl rfl (by omega)) ?_
  clear hE a; intro a hE
  refine q0 (v := Value.int .i64 2) p40_3_1 hE (st_loadC (i := 2) tA3 (Fh1 _ K_s3) (by omega) rfl) ?_
  clear hE a; intro a hE
  refine q0 p40_3_2 hE (st_assign rfl) ?_
  clear hE a; intro a hE
  refine p_nil ?_
  refine x_norm ?_
  refine c_reg R40_4_l ?_
  refine q0 p40_4_0 hE (st_move rfl) ?_
  clear hE a; intro a hE
  refine q0 p40_4_1 hE (st_lss (b := false) rfl rfl (by decide)) ?_
  clear hE a; intro a hE
  refine p_nil ?_
  refine x_norm ?_
  refine c_cond (t := false) hE rfl ?_
  refine wp_skip ?_
  refine x_normB ?_
  refine x_norm ?_
  refine c_regL R40_6_l ?_
  refine q0 p40_6_0 hE (st_add (z := 3) rfl rfl (by decide)) ?_
  clear hE a; intro a hE
  refine q0 p40_6_1 hE (st_move rfl) ?_
  clear hE a; intro a hE
  refine p_nil ?_
  refine x_norm ?_
  refine (Eq.mpr (rounds_succ (n := 0)) ?_)
  refine c_reg R40_2_l ?_
  refine q0 p40_2_0 hE (st_lss (b := true) rfl rfl (by decide)) ?_
  clear hE a; intro a hE
  refine p_nil ?_
  refine x_norm ?_
  refine wp_seq ?_
  refine c_cond (t := true) hE rfl ?_
  refine wp_skip ?_
  refine x_norm ?_
  refine wp_seq ?_
  refine wp_block ?_
  refine c_reg R40_3_l ?_
  refine q0 p40_3_0 hE (st_indexAddrC (i := 3) Try.underlying52 tS3 (Fh1 _ K_s3) rfl rfl (by omega)) ?_
  clear hE a; intro a hE
  refine q0 (v := Value.int .i64 (-1)) p40_3_1 hE (st_loadC (i := 3) tA3 (Fh1 _ K_s3) (by omega) rfl) ?_
  clear hE a; intro a hE
  refine q0 p40_3_2 hE (st_assign rfl) ?_
  clear hE a; intro a hE
  refine p_nil ?_
  refine x_norm ?_
  refine c_reg R40_4_l ?_
  refine q0 p40_4_0 hE (st_move rfl) ?_
  clear hE a; intro a hE
  refine q0 p40_4_1 hE (st_lss (b := true) rfl rfl (by decide)) ?_
  clear hE a; intro a hE
  refine p_nil ?_
  refine x_norm ?_
  refine c_cond (t := true) hE rfl ?_
  refine c_reg R40_5_l ?_
  refine q0 p40_5_0 hE (st_assign rfl) ?_
  clear hE a; intro a hE
  refine p_nil ?_
  refine x_norm ?_
  refine wp_ret ?_
  refine x_retB ?_
  refine x_ret ?_
  refine x_ret ?_
  refine x_retB ?_
  refine x_ret ?_
  refine ret_one (v := Value.bool false) rfl hE (.tmp rfl .nil) ?_
  exact ⟨rfl, K_0⟩
theorem R33_0_l : List.range (regOf Try.f33 0).size = [0] := by kernel_rfl
theorem R33_1_l : List.range (regOf Try.f33 1).size = [0, 1, 2, 3, 4, 5] := by kernel_rfl
theorem R33_2_l : List.range (regOf Try.f33 2).size = [0, 1, 2, 3, 4, 5, 6, 7, 8, 9, 10, 11, 12, 13, 14, 15] := by kernel_rfl
theorem R33_3_l : List.range (regOf Try.f33 3).size = [0] := by kernel_rfl
theorem R33_4_l : List.range (regOf Try.f33 4).size = [0, 1, 2, 3, 4, 5, 6, 7, 8, 9] := by kernel_rfl
theorem body33 : Try.f33.body = some (.seq (.region 0 (regOf Try.f33 0) false) (.seq (.region 1 (regOf Try.f33 1) false) (.seq (.seq (.region 2 (regOf Try.f33 2) false) (.cond (Operand.tmp 22) (.seq (.region 3 (regOf Try.f33 3) false) (.ret)) (.skip))) (.seq (.region 4 (regOf Try.f33 4) false) (.ret))))) := by kernel_rfl
theorem p33_0_0 : pj (regOf Try.f33 0) 0 = some (some 0, .assign (.const (.bool false)), 4, none) := by kernel_rfl
theorem p33_1_0 : pj (regOf Try.f33 1) 0 = some (some 4, .call { callee := .value (.func 28), args := #[.const (.int .i64 4)], argTypes := #[3] }, 57, none) := by kernel_rfl
theorem cl28 : callable Try.f28 = true := by kernel_rfl
theorem p33_1_1 : pj (regOf Try.f33 1) 1 = some (some 3, .move (.tmp 4), 57, none) := by kernel_rfl
theorem p33_1_2 : pj (regOf Try.f33 1) 2 = some (some 5, .extract (.tmp 3) 0, 56, none) := by kernel_rfl
theorem p33_1_3 : pj (regOf Try.f33 1) 3 = some (some 6, .extract (.tmp 3) 1, 23, none) := by kernel_rfl
theorem p33_1_4 : pj (regOf Try.f33 1) 4 = some (some 1, .assign (.tmp 5), 56, none) := by kernel_rfl
theorem p33_1_5 : pj (regOf Try.f33 1) 5 = some (some 2, .assign (.tmp 6), 23, none) := by kernel_rfl
theorem p33_2_0 : pj (regOf Try.f33 2) 0 = some (some 7, .move (.tmp 2), 23, none) := by kernel_rfl
theorem p33_2_1 : pj (regOf Try.f33 2) 1 = some (some 8, .binOp .neq 23 (.tmp 7) (.const (.int .i64 0)) 23, 4, none) := by kernel_rfl
theorem p33_2_2 : pj (regOf Try.f33 2) 2 = some (some 9, .move (.tmp 8), 4, none) := by kernel_rfl
theorem p33_2_3 : pj (regOf Try.f33 2) 3 = some (some 10, .move (.tmp 1), 56, some (2, false)) := by kernel_rfl
theorem g33_2_2 : dstOf (regOf Try.f33 2) 2 = some 9 := by kernel_rfl
theorem p33_2_4 : pj (regOf Try.f33 2) 4 = some (some 11, .binOp .eql 56 (.tmp 10) (.const (.pointer none)) 56, 4, some (2, false)) := by kernel_rfl
theorem tP56 : Try.prog.underlying 56 = some (.pointer (Try.prog.pointee 56)) := by kernel_rfl
theorem p33_2_5 : pj (regOf Try.f33 2) 5 = some (some 12, .pick (.tmp 9) (.const (.bool true)) (.tmp 11), 4, none) := by kernel_rfl
theorem p33_2_6 : pj (regOf Try.f33 2) 6 = some (some 13, .move (.tmp 12), 4, none) := by kernel_rfl
theorem p33_2_7 : pj (regOf Try.f33 2) 7 = some (some 14, .move (.tmp 1), 56, some (6, false)) := by kernel_rfl
theorem g33_2_6 : dstOf (regOf Try.f33 2) 6 = some 13 := by kernel_rfl
theorem p33_2_8 : pj (regOf Try.f33 2) 8 = some (some 15, .call { callee := .value (.func 29), args := #[.tmp 14, .const (.int .i64 0), .const (.int .i64 1), .const (.int .i64 128)], argTypes := #[56, 3, 3, 3] }, 23, some (6, false)) := by kernel_rfl
theorem cl29 : callable Try.f29 = true := by kernel_rfl
theorem p33_2_9 : pj (regOf Try.f33 2) 9 = some (some 16, .binOp .neq 23 (.tmp 15) (.const (.int .i64 0)) 23, 4, some (6, false)) := by kernel_rfl
theorem p33_2_10 : pj (regOf Try.f33 2) 10 = some (some 17, .pick (.tmp 13) (.const (.bool true)) (.tmp 16), 4, none) := by kernel_rfl
theorem p33_2_11 : pj (regOf Try.f33 2) 11 = some (some 18, .move (.tmp 17), 4, none) := by kernel_rfl
theorem p33_2_12 : pj (regOf Try.f33 2) 12 = some (some 19, .move (.tmp 1), 56, some (11, false)) := by kernel_rfl
theorem g33_2_11 : dstOf (regOf Try.f33 2) 11 = some 18 := by kernel_rfl
theorem p33_2_13 : pj (regOf Try.f33 2) 13 = some (some 20, .call { callee := .value (.func 29), args := #[.tmp 19, .const (.int .i64 2), .const (.int .i64 1), .const (.int .i64 128)], argTypes := #[56, 3, 3, 3] }, 23, some (11, false)) := by kernel_rfl
theorem p33_2_14 : pj (regOf Try.f33 2) 14 = some (some 21, .binOp .neq 23 (.tmp 20) (.const (.int .i64 0)) 23, 4, some (11, false)) := by kernel_rfl
theorem p33_2_15 : pj (regOf Try.f33 2) 15 = some (some 22, .pick (.tmp 18) (.const (.bool true)) (.tmp 21), 4, none) := by kernel_rfl
theorem p33_4_0 : pj (regOf Try.f33 4) 0 = some (some 23, .move (.tmp 1), 56, none) := by kernel_rfl
theorem p33_4_1 : pj (regOf Try.f33 4) 1 = some (some 24, .call { callee := .value (.func 30), args := #[.tmp 23, .const (.int .i64 0)], argTypes := #[56, 3] }, 52, none) := by kernel_rfl
theorem p33_4_2 : pj (regOf Try.f33 4) 2 = some (some 25, .buildSlice 52 4 #[(0, .const (.int .i64 0)), (1, .const (.int .i64 1)), (2, .const (.int .i64 2)), (3, .const (.int .i64 (-1)))], 52, none) := by kernel_rfl
theorem p33_4_3 : pj (regOf Try.f33 4) 3 = some (some 26, .call { callee := .value (.func 37), args := #[.tmp 24, .tmp 25], argTypes := #[52, 52] }, 4, none) := by kernel_rfl
theorem cl37 : callable Try.f37 = true := by kernel_rfl
theorem p33_4_4 : pj (regOf Try.f33 4) 4 = some (some 27, .move (.tmp 26), 4, none) := by kernel_rfl
theorem p33_4_5 : pj (regOf Try.f33 4) 5 = some (some 28, .move (.tmp 1), 56, some (4, true)) := by kernel_rfl
theorem g33_4_4 : dstOf (regOf Try.f33 4) 4 = some 27 := by kernel_rfl
theorem p33_4_6 : pj (regOf Try.f33 4) 6 = some (some 29, .call { callee := .value (.func 40), args := #[.tmp 28], argTypes := #[56] }, 4, some (4, true)) := by kernel_rfl
theorem cl40 : callable Try.f40 = true := by kernel_rfl
theorem p33_4_7 : pj (regOf Try.f33 4) 7 = some (some 30, .unOp .not 4 (.tmp 29), 4, some (4, true)) := by kernel_rfl
theorem p33_4_8 : pj (regOf Try.f33 4) 8 = some (some 31, .pick (.tmp 27) (.tmp 30) (.const (.bool false)), 4, none) := by kernel_rfl
theorem p33_4_9 : pj (regOf Try.f33 4) 9 = some (some 0, .assign (.tmp 31), 4, none) := by kernel_rfl
set_option maxHeartbeats 4000000 in
theorem kn26 (w : World) : Calls Try.prog 33 #[] w fun e w' => e = .returned (.bool true) ∧ Kp w w' (fun _ => False) := by
  have K_0 := Kp.refl w (fun _ => False)
  refine enter (args := []) (n := 32) Try.func33 body33 rfl rfl rfl ?_
  intro a hE
  refine c_reg R33_0_l ?_
  refine q0 p33_0_0 hE (st_assign rfl) ?_
  clear hE a; intro a hE
  refine p_nil ?_
  refine x_norm ?_
  refine c_reg R33_1_l ?_
  refine p_cons (s_call (xs := [Operand.const (Value.int IntKind.i64 4)]) (args := [Value.int .i64 4]) p33_1_0 hE wn_none rfl rfl Try.func28 cl28 (new_ok 4 (by decide) _) ?_)
  rintro e w1 ⟨gL, gN, rfl, zL9, zN9, n_gL_gN, B_gL, B_gN, hk⟩
  have z_0_gL := Nat.le_trans K_0.kept.1 zL9
  have z_0_gN := Nat.le_trans K_0.kept.1 zN9
  replace K_0 := K_0.then_ hk (fun _ h => h.elim)
  refine ⟨_, rfl, ?_⟩
  clear hE a; intro a hE
  refine q0 p33_1_1 hE (st_move rfl) ?_
  clear hE a; intro a hE
  refine q0 p33_1_2 hE (st_extract rfl rfl) ?_
  clear hE a; intro a hE
  refine q0 p33_1_3 hE (st_extract rfl rfl) ?_
  clear hE a; intro a hE
  refine q0 p33_1_4 hE (st_assign rfl) ?_
  clear hE a; intro a hE
  refine q0 p33_1_5 hE (st_assign rfl) ?_
  clear hE a; intro a hE
  refine p_nil ?_
  refine x_norm ?_
  refine wp_seq ?_
  refine c_reg R33_2_l ?_
  refine q0 p33_2_0 hE (st_move rfl) ?_
  clear hE a; intro a hE
  refine q0 p33_2_1 hE (st_neq (b := false) rfl rfl (by decide)) ?_
  clear hE a; intro a hE
  refine q0 p33_2_2 hE (st_move rfl) ?_
  clear hE a; intro a hE
  refine p_cons (s_still p33_2_3 hE (wn_some g33_2_2 rfl rfl) rfl (st_move rfl) ?_)
  clear hE a; intro a hE
  refine p_cons (s_still p33_2_4 hE (wn_some g33_2_2 rfl rfl) rfl (st_eqlP (b := false) tP56 rfl rfl rfl) ?_)
  clear hE a; intro a hE
  refine q0 p33_2_5 hE (st_pick rfl rfl) ?_
  clear hE a; intro a hE
  refine q0 p33_2_6 hE (st_move rfl) ?_
  clear hE a; intro a hE
  refine p_cons (s_still p33_2_7 hE (wn_some g33_2_6 rfl rfl) rfl (st_move rfl) ?_)
  clear hE a; intro a hE
  refine p_cons (s_call (xs := [Operand.tmp 14, Operand.const (Value.int IntKind.i64 0), Operand.const (Value.int IntKind.i64 1), Operand.const (Value.int IntKind.i64 128)]) (args := [Value.pointer (some ⟨gL, 0, none⟩), Value.int .i64 0, Value.int .i64 1, Value.int .i64 128]) p33_2_8 hE (wn_some g33_2_6 rfl rfl) rfl rfl Try.func29 cl29 (set_yes gL gN _ _ (fun _ _ => none) 4 0 1 128 (by decide) _ B_gL B_gN Mp.mapf_nil n_gL_gN) ?_)
  rintro e w3 ⟨esm2, ckm2, rfl, MFm2, B_gN', hk⟩
  replace B_gL := kp_blk B_gL hk n_gL_gN
  replace K_0 := K_0.then_ hk (fun k h => by rw [show k = gN from h]; exact Or.inr z_0_gN)
  replace B_gN := B_gN'
  refine ⟨_, rfl, ?_⟩
  clear hE a; intro a hE
  refine p_cons (s_still p33_2_9 hE (wn_some g33_2_6 rfl rfl) rfl (st_neq (b := false) rfl rfl (by decide)) ?_)
  clear hE a; intro a hE
  refine q0 p33_2_10 hE (st_pick rfl rfl) ?_
  clear hE a; intro a hE
  refine q0 p33_2_11 hE (st_move rfl) ?_
  clear hE a; intro a hE
  refine p_cons (s_still p33_2_12 hE (wn_some g33_2_11 rfl rfl) rfl (st_move rfl) ?_)
  clear hE a; intro a hE
  refine p_cons (s_call (xs := [Operand.tmp 19, Operand.const (Value.int IntKind.i64 2), Operand.const (Value.int IntKind.i64 1), Operand.const (Value.int IntKind.i64 128)]) (args := [Value.pointer (some ⟨gL, 0, none⟩), Value.int .i64 2, Value.int .i64 1, Value.int .i64 128]) p33_2_13 hE (wn_some g33_2_11 rfl rfl) rfl rfl Try.func29 cl29 (set_yes gL gN _ _ (lkS 4 (fun _ _ => none) 0 1 128) 4 2 1 128 (by decide) _ B_gL B_gN MFm2 n_gL_gN) ?_)
  rintro e w5 ⟨esm4, ckm4, rfl, MFm4, B_gN', hk⟩
  replace B_gL := kp_blk B_gL hk n_gL_gN
  replace K_0 := K_0.then_ hk (fun k h => by rw [show k = gN from h]; exact Or.inr z_0_gN)
  replace B_gN := B_gN'
  refine ⟨_, rfl, ?_⟩
  clear hE a; intro a hE
  refine p_cons (s_still p33_2_14 hE (wn_some g33_2_11 rfl rfl) rfl (st_neq (b := false) rfl rfl (by decide)) ?_)
  clear hE a; intro a hE
  refine q0 p33_2_15 hE (st_pick rfl rfl) ?_
  clear hE a; intro a hE
  refine p_nil ?_
  refine x_norm ?_
  refine c_cond (t := false) hE rfl ?_
  refine wp_skip ?_
  refine x_norm ?_
  refine c_reg R33_4_l ?_
  refine q0 p33_4_0 hE (st_move rfl) ?_
  clear hE a; intro a hE
  refine p_cons (s_call (xs := [Operand.tmp 23, Operand.const (Value.int IntKind.i64 0)]) (args := [Value.pointer (some ⟨gL, 0, none⟩), Value.int .i64 0]) p33_4_1 hE wn_none rfl rfl Try.func30 cl30 (hops_any gL gN _ 4 _ _ 0 (by decide) (by decide) _ B_gL B_gN MFm4 n_gL_gN) ?_)
  rintro e w7 ⟨Ah6, ch6, hh9, rfl, hqh6, ⟨hB9, hc9⟩, Fh6, hk⟩
  replace B_gL := kp_blk B_gL hk (fun h => h)
  replace B_gN := kp_blk B_gN hk (fun h => h)
  replace K_0 := K_0.then_ hk (fun _ h => h.elim)
  have ek := knh hB9 hc9
  subst ek
  have K_s8 := Kp.refl w7 (fun _ => False)
  refine ⟨_, rfl, ?_⟩
  clear hE a; intro a hE
  refine p_cons (s_row (xs := [(0, Operand.const (Value.int IntKind.i64 0)), (1, Operand.const (Value.int IntKind.i64 1)), (2, Operand.const (Value.int IntKind.i64 2)), (3, Operand.const (Value.int IntKind.i64 (-1)))]) (vs := [(0, Value.int .i64 0), (1, Value.int .i64 1), (2, Value.int .i64 2), (3, Value.int .i64 (-1))]) (cs := #[Value.int .i64 0, Value.int .i64 1, Value.int .i64 2, Value.int .i64 (-1)]) p33_4_2 hE wn_none rfl Try.underlying52 rfl (by kernel_rfl) ?_)
  clear hE a; intro g9 w10 z11 B_g9 hk a hE
  have n_gL_g9 : gL ≠ g9 := ne_new B_gL z11
  have n_gN_g9 : gN ≠ g9 := ne_new B_gN z11
  have z_0_g9 := Nat.le_trans K_0.kept.1 z11
  have z_s8_g9 := Nat.le_trans K_s8.kept.1 z11
  replace B_gL := kp_blk B_gL hk (fun h => h)
  replace B_gN := kp_blk B_gN hk (fun h => h)
  replace K_0 := K_0.then_ hk (fun _ h => h.elim)
  replace K_s8 := K_s8.then_ hk (fun _ h => h.elim)
  clear hk
  refine p_cons (s_call (xs := [Operand.tmp 24, Operand.tmp 25]) (args := [Value.slice Ah6 4 ch6, Value.slice (some ⟨g9, 0, none⟩) 4 4]) p33_4_3 hE wn_none rfl rfl Try.func37 cl37 (same_i Ah6 (some ⟨g9, 0, none⟩) ch6 4 [0, 1, 2, -1] _ (by decide) (fun W' hk => Fh6 W' (K_s8.then_ hk (fun _ h => h.elim))) (fun W' hk => C_blk (k := .i64) (l := [0, 1, 2, -1]) (off := 0) (kp_blk B_g9 hk (fun h => h)) ⟨rfl, Nat.le_of_ble_eq_true rfl⟩ rfl)) ?_)
  rintro e w12 ⟨rfl, hk⟩
  replace B_gL := kp_blk B_gL hk (fun h => h)
  replace B_gN := kp_blk B_gN hk (fun h => h)
  replace B_g9 := kp_blk B_g9 hk (fun h => h)
  replace K_0 := K_0.then_ hk (fun _ h => h.elim)
  replace K_s8 := K_s8.then_ hk (fun _ h => h.elim)
  refine ⟨_, rfl, ?_⟩
  clear hE a; intro a hE
  refine q0 p33_4_4 hE (st_move rfl) ?_
  clear hE a; intro a hE
  refine p_cons (s_still p33_4_5 hE (wn_some g33_4_4 rfl rfl) rfl (st_move rfl) ?_)
  clear hE a; intro a hE
  refine p_cons (s_call (xs := [Operand.tmp 28]) (args := [Value.pointer (some ⟨gL, 0, none⟩)]) p33_4_6 hE (wn_some g33_4_4 rfl rfl) rfl rfl Try.func40 cl40 (conn_4 gL gN _ _ _ B_gL B_gN MFm4 n_gL_gN) ?_)
  rintro e w13 ⟨rfl, hk⟩
  replace B_gL := kp_blk B_gL hk (fun h => h)
  replace B_gN := kp_blk B_gN hk (fun h => h)
  replace B_g9 := kp_blk B_g9 hk (fun h => h)
  replace K_0 := K_0.then_ hk (fun _ h => h.elim)
  replace K_s8 := K_s8.then_ hk (fun _ h => h.elim)
  refine ⟨_, rfl, ?_⟩
  clear hE a; intro a hE
  refine p_cons (s_still p33_4_7 hE (wn_some g33_4_4 rfl rfl) rfl (st_not rfl rfl) ?_)
  clear hE a; intro a hE
  refine q0 p33_4_8 hE (st_pick rfl rfl) ?_
  clear hE a; intro a hE
  refine q0 p33_4_9 hE (st_assign rfl) ?_
  clear hE a; intro a hE
  refine p_nil ?_
  refine x_norm ?_
  refine wp_ret ?_
  refine ret_one (v := Value.bool true) rfl hE (.tmp rfl .nil) ?_
  exact ⟨rfl, K_0⟩
end Go.Proofs.Ytpnpfapdjdcnbaa.Lq
