/- Package links: Hops. -/
import Derived.Test.YtpnpfapdjdcnbaaLkn
import Derived.Test.YtpnpfapdjdcnbaaQu
import Derived.Test.YtpnpfapdjdcnbaaBf
set_option maxRecDepth 100000
set_option linter.unusedVariables false
set_option linter.unusedSimpArgs false
namespace Go.Proofs.Ytpnpfapdjdcnbaa.Lh
open Go.RowKit Go.Proofs.YtpnpfapdjdcnbaaW.PrintWords Go.Proofs.Ytpnpfapdjdcnbaa.Ds Go.Proofs.Ytpnpfapdjdcnbaa.Lk Go.Proofs.Ytpnpfapdjdcnbaa.Ln
open Go.Proofs.Ytpnpfapdjdcnbaa.Qu (s_storeO)
open Go.Proofs.Ytpnpfapdjdcnbaa.Pk (Kp)
open Go.Proofs.Ytpnpfapdjdcnbaa.Mp (st_eqlP st_neqP x_normS x_retS x_exitS)
/-- An edge of the links. -/
def Ed (n : Nat) (f : Int → Int → Option Int) (a b : Nat) : Prop := b < n ∧ (costP (n : Int) f (a : Int) (b : Int)).2 = 0
def nbN (n : Nat) (f : Int → Int → Option Int) (a : Nat) : List Nat := (List.range n).filter fun (j : Nat) => decide ((costP (n : Int) f (a : Int) (j : Int)).2 = 0)
theorem nbs_nat (n : Nat) (f : Int → Int → Option Int) (a : Nat) : nbs (n : Int) f (a : Int) n = (nbN n f a).map fun (j : Nat) => (j : Int) := rfl
theorem nbN_mem {n : Nat} {f : Int → Int → Option Int} {a b : Nat} : b ∈ nbN n f a ↔ Ed n f a b := by
  unfold nbN Ed
  rw [List.mem_filter, List.mem_range]
  exact ⟨fun h => ⟨h.1, of_decide_eq_true h.2⟩, fun h => ⟨h.1, decide_eq_true h.2⟩⟩
theorem rd_at (h : List Int) (b : Nat) : rd h (b : Int) = Bf.at_ h b := by unfold rd Bf.at_; rw [Int.toNat_natCast]
theorem rd_map (ys : List Nat) (j : Nat) (hj : j < ys.length) : rd (ys.map fun (y : Nat) => (y : Int)) (j : Int) = ((ys[j]'hj : Nat) : Int) := by
  unfold rd
  rw [Int.toNat_natCast, List.getD_eq_getElem?_getD, List.getElem?_map, List.getElem?_eq_getElem hj]
  rfl
theorem cnt_rep (n : Nat) : Bf.cnt (List.replicate n (-1)) = n := by unfold Bf.cnt; simp [List.countP_replicate]
theorem cn0 {n x : Nat} (hx : x < n) : Bf.cnt ((List.replicate n (-1)).set x 0) + 1 = n := by
  have h1 := Bf.cnt_set (List.replicate n (-1)) x 0 (by rw [List.length_replicate]; exact hx) (by unfold Bf.at_; simp [List.getD_eq_getElem?_getD, hx]) (Int.le_refl 0)
  rw [cnt_rep] at h1
  exact h1
theorem bd0 {n x : Nat} (hx : x < n) : ∀ c, c < n → Bf.at_ ((List.replicate n (-1)).set x 0) c + 1 + (Bf.cnt ((List.replicate n (-1)).set x 0) : Int) ≤ n := by
  intro c hc
  have hl : x < (List.replicate n (-1 : Int)).length := by rw [List.length_replicate]; exact hx
  have ha : ∀ c, c < n → Bf.at_ (List.replicate n (-1)) c = -1 := fun c hc => by unfold Bf.at_; simp [List.getD_eq_getElem?_getD, hc]
  have h1 := Bf.cnt_set (List.replicate n (-1)) x 0 hl (by rw [ha x hx]; omega) (Int.le_refl 0)
  rw [cnt_rep] at h1
  rw [Bf.at_set hl, ha c hc]
  split <;> omega
theorem fill (n j : Nat) (hj : j < n) : (List.replicate j (-1 : Int) ++ List.replicate (n - j) 0).set j (-1) = List.replicate (j + 1) (-1) ++ List.replicate (n - (j + 1)) 0 := by
  apply List.ext_getElem?
  intro i
  rw [List.getElem?_set]
  by_cases h : j = i
  · subst h
    rw [if_pos rfl, if_pos (by simp; omega), List.getElem?_append_left (by simp), List.getElem?_replicate, if_pos (by omega)]
  · rw [if_neg h, List.getElem?_append, List.getElem?_append]
    simp only [List.length_replicate, List.getElem?_replicate]
    by_cases h1 : i < j
    · rw [if_pos h1, if_pos h1, if_pos (by omega), if_pos (by omega)]
    · rw [if_neg h1, if_neg (show ¬ i < j + 1 by omega)]
      by_cases h2 : i < n
      · rw [if_pos (by omega), if_pos (by omega)]
      · rw [if_neg (by omega), if_neg (by omega)]
theorem R30_0_l : List.range (regOf Try.f30 0).size = [0] := by kernel_rfl
theorem R30_1_l : List.range (regOf Try.f30 1).size = [0, 1, 2, 3] := by kernel_rfl
theorem R30_2_l : List.range (regOf Try.f30 2).size = [0] := by kernel_rfl
theorem R30_3_l : List.range (regOf Try.f30 3).size = [0, 1, 2, 3, 4, 5] := by kernel_rfl
theorem R30_4_l : List.range (regOf Try.f30 4).size = [0, 1, 2] := by kernel_rfl
theorem R30_5_l : List.range (regOf Try.f30 5).size = [0] := by kernel_rfl
theorem R30_6_l : List.range (regOf Try.f30 6).size = [0, 1] := by kernel_rfl
theorem R30_7_l : List.range (regOf Try.f30 7).size = [0, 1, 2, 3] := by kernel_rfl
theorem R30_8_l : List.range (regOf Try.f30 8).size = [0, 1] := by kernel_rfl
theorem R30_9_l : List.range (regOf Try.f30 9).size = [0, 1, 2, 3] := by kernel_rfl
theorem R30_10_l : List.range (regOf Try.f30 10).size = [0, 1, 2] := by kernel_rfl
theorem R30_11_l : List.range (regOf Try.f30 11).size = [0, 1, 2] := by kernel_rfl
theorem R30_12_l : List.range (regOf Try.f30 12).size = [0, 1, 2, 3] := by kernel_rfl
theorem R30_13_l : List.range (regOf Try.f30 13).size = [0, 1, 2] := by kernel_rfl
theorem R30_14_l : List.range (regOf Try.f30 14).size = [0, 1, 2, 3, 4] := by kernel_rfl
theorem R30_15_l : List.range (regOf Try.f30 15).size = [0] := by kernel_rfl
theorem R30_16_l : List.range (regOf Try.f30 16).size = [0, 1, 2] := by kernel_rfl
theorem R30_17_l : List.range (regOf Try.f30 17).size = [0, 1, 2, 3, 4] := by kernel_rfl
theorem R30_18_l : List.range (regOf Try.f30 18).size = [0, 1, 2, 3, 4, 5, 6, 7, 8] := by kernel_rfl
theorem R30_19_l : List.range (regOf Try.f30 19).size = [0, 1, 2, 3, 4] := by kernel_rfl
theorem R30_20_l : List.range (regOf Try.f30 20).size = [0, 1] := by kernel_rfl
theorem R30_21_l : List.range (regOf Try.f30 21).size = [0, 1] := by kernel_rfl
theorem body30 : Try.f30.body = some (.seq (.region 0 (regOf Try.f30 0) false) (.scope (.seq (.seq (.region 1 (regOf Try.f30 1) false) (.cond (Operand.tmp 14) (.seq (.region 2 (regOf Try.f30 2) false) (.ret)) (.skip))) (.seq (.region 3 (regOf Try.f30 3) false) (.seq (.seq (.region 4 (regOf Try.f30 4) false) (.block 0 (.loop (.seq (.region 5 (regOf Try.f30 5) false) (.seq (.cond (Operand.tmp 23) (.skip) (.exit 0)) (.seq (.block 1 (.seq (.region 6 (regOf Try.f30 6) false) (.region 7 (regOf Try.f30 7) false))) (.region 8 (regOf Try.f30 8) false))))))) (.seq (.region 9 (regOf Try.f30 9) false) (.seq (.region 10 (regOf Try.f30 10) false) (.seq (.label 0) (.seq (.block 2 (.loop (.block 3 (.seq (.seq (.region 11 (regOf Try.f30 11) false) (.cond (Operand.tmp 36) (.exit 2) (.skip))) (.seq (.region 12 (regOf Try.f30 12) false) (.seq (.region 13 (regOf Try.f30 13) false) (.seq (.region 14 (regOf Try.f30 14) false) (.block 4 (.loop (.seq (.region 15 (regOf Try.f30 15) false) (.seq (.cond (Operand.tmp 47) (.skip) (.exit 4)) (.seq (.block 5 (.seq (.region 16 (regOf Try.f30 16) false) (.seq (.seq (.region 17 (regOf Try.f30 17) false) (.cond (Operand.tmp 54) (.exit 5) (.skip))) (.seq (.region 18 (regOf Try.f30 18) false) (.region 19 (regOf Try.f30 19) false))))) (.region 20 (regOf Try.f30 20) false))))))))))))) (.seq (.region 21 (regOf Try.f30 21) false) (.ret))))))))))) := by kernel_rfl
theorem p30_0_0 : pj (regOf Try.f30 0) 0 = some (some 4, .assign (.const (.slice none 0 0)), 52, none) := by kernel_rfl
theorem p30_1_0 : pj (regOf Try.f30 1) 0 = some (some 11, .move (.tmp 0), 56, none) := by kernel_rfl
theorem p30_1_1 : pj (regOf Try.f30 1) 1 = some (some 12, .move (.tmp 1), 3, none) := by kernel_rfl
theorem p30_1_2 : pj (regOf Try.f30 1) 2 = some (some 13, .call { callee := .value (.func 55), args := #[.tmp 11, .tmp 12], argTypes := #[56, 3] }, 4, none) := by kernel_rfl
theorem cl55 : callable Try.f55 = true := by kernel_rfl
theorem p30_1_3 : pj (regOf Try.f30 1) 3 = some (some 14, .unOp .not 4 (.tmp 13), 4, none) := by kernel_rfl
theorem p30_3_0 : pj (regOf Try.f30 3) 0 = some (some 15, .move (.tmp 0), 56, none) := by kernel_rfl
theorem p30_3_1 : pj (regOf Try.f30 3) 1 = some (some 16, .nilCheck (.tmp 15), 0, none) := by kernel_rfl
theorem p30_3_2 : pj (regOf Try.f30 3) 2 = some (some 17, .fieldAddr 83 (.tmp 16) 0, 0, none) := by kernel_rfl
theorem tS3 : (Try.prog.info? 3).map (·.size) = some 1 := by kernel_rfl
theorem p30_3_3 : pj (regOf Try.f30 3) 3 = some (some 18, .load 3 (.tmp 17), 3, none) := by kernel_rfl
theorem tA3 : (Try.prog.underlying 3).map aggD = some false := by kernel_rfl
theorem p30_3_4 : pj (regOf Try.f30 3) 4 = some (some 19, .makeSlice 52 (.tmp 18) (.tmp 18), 52, none) := by kernel_rfl
theorem eD3 : elemD Try.prog 3 = some (1, 1, 8) := by kernel_rfl
theorem tZ3 : (Try.prog.info? 3).bind (·.zero) = some (Value.int .i64 0) := by kernel_rfl
theorem p30_3_5 : pj (regOf Try.f30 3) 5 = some (some 5, .assign (.tmp 19), 52, none) := by kernel_rfl
theorem p30_4_0 : pj (regOf Try.f30 4) 0 = some (some 20, .move (.tmp 5), 52, none) := by kernel_rfl
theorem p30_4_1 : pj (regOf Try.f30 4) 1 = some (some 21, .call { callee := .builtin .len, args := #[.tmp 20], argTypes := #[52] }, 3, none) := by kernel_rfl
theorem p30_4_2 : pj (regOf Try.f30 4) 2 = some (some 22, .move (.const (.int .i64 0)), 3, none) := by kernel_rfl
theorem p30_5_0 : pj (regOf Try.f30 5) 0 = some (some 23, .binOp .lss 3 (.tmp 22) (.tmp 21) 3, 0, none) := by kernel_rfl
theorem p30_6_0 : pj (regOf Try.f30 6) 0 = some (some 24, .move (.tmp 22), 3, none) := by kernel_rfl
theorem p30_6_1 : pj (regOf Try.f30 6) 1 = some (some 6, .assign (.tmp 24), 3, none) := by kernel_rfl
theorem p30_7_0 : pj (regOf Try.f30 7) 0 = some (some 25, .move (.tmp 5), 52, none) := by kernel_rfl
theorem p30_7_1 : pj (regOf Try.f30 7) 1 = some (some 26, .move (.tmp 6), 3, none) := by kernel_rfl
theorem p30_7_2 : pj (regOf Try.f30 7) 2 = some (some 27, .indexAddr 52 (.tmp 25) (.tmp 26), 0, none) := by kernel_rfl
theorem p30_7_3 : pj (regOf Try.f30 7) 3 = some (none, .store 3 (.tmp 27) (.const (.int .i64 (-1))), 0, none) := by kernel_rfl
theorem p30_8_0 : pj (regOf Try.f30 8) 0 = some (some 28, .binOp .add 3 (.tmp 22) (.const (.int .i64 1)) 3, 3, none) := by kernel_rfl
theorem p30_8_1 : pj (regOf Try.f30 8) 1 = some (some 22, .move (.tmp 28), 3, none) := by kernel_rfl
theorem p30_9_0 : pj (regOf Try.f30 9) 0 = some (some 29, .move (.tmp 5), 52, none) := by kernel_rfl
theorem p30_9_1 : pj (regOf Try.f30 9) 1 = some (some 30, .move (.tmp 1), 3, none) := by kernel_rfl
theorem p30_9_2 : pj (regOf Try.f30 9) 2 = some (some 31, .indexAddr 52 (.tmp 29) (.tmp 30), 0, none) := by kernel_rfl
theorem p30_9_3 : pj (regOf Try.f30 9) 3 = some (none, .store 3 (.tmp 31) (.const (.int .i64 0)), 0, none) := by kernel_rfl
theorem p30_10_0 : pj (regOf Try.f30 10) 0 = some (some 32, .move (.tmp 1), 3, none) := by kernel_rfl
theorem p30_10_1 : pj (regOf Try.f30 10) 1 = some (some 33, .buildSlice 52 1 #[(0, .tmp 32)], 52, none) := by kernel_rfl
theorem p30_10_2 : pj (regOf Try.f30 10) 2 = some (some 7, .assign (.tmp 33), 52, none) := by kernel_rfl
theorem p30_11_0 : pj (regOf Try.f30 11) 0 = some (some 34, .move (.tmp 7), 52, none) := by kernel_rfl
theorem p30_11_1 : pj (regOf Try.f30 11) 1 = some (some 35, .call { callee := .builtin .len, args := #[.tmp 34], argTypes := #[52] }, 3, none) := by kernel_rfl
theorem p30_11_2 : pj (regOf Try.f30 11) 2 = some (some 36, .binOp .eql 3 (.tmp 35) (.const (.int .i64 0)) 3, 4, none) := by kernel_rfl
theorem p30_21_0 : pj (regOf Try.f30 21) 0 = some (some 68, .move (.tmp 5), 52, none) := by kernel_rfl
theorem p30_21_1 : pj (regOf Try.f30 21) 1 = some (some 4, .assign (.tmp 68), 52, none) := by kernel_rfl
theorem p30_12_0 : pj (regOf Try.f30 12) 0 = some (some 37, .move (.tmp 7), 52, none) := by kernel_rfl
theorem p30_12_1 : pj (regOf Try.f30 12) 1 = some (some 38, .indexAddr 52 (.tmp 37) (.const (.int .i64 0)), 0, none) := by kernel_rfl
theorem p30_12_2 : pj (regOf Try.f30 12) 2 = some (some 39, .load 3 (.tmp 38), 3, none) := by kernel_rfl
theorem p30_12_3 : pj (regOf Try.f30 12) 3 = some (some 8, .assign (.tmp 39), 3, none) := by kernel_rfl
theorem p30_13_0 : pj (regOf Try.f30 13) 0 = some (some 40, .move (.tmp 7), 52, none) := by kernel_rfl
theorem p30_13_1 : pj (regOf Try.f30 13) 1 = some (some 41, .slice 52 (.tmp 40) (some (.const (.int .i64 1))) none none, 52, none) := by kernel_rfl
theorem p30_13_2 : pj (regOf Try.f30 13) 2 = some (some 7, .assign (.tmp 41), 52, none) := by kernel_rfl
theorem p30_14_0 : pj (regOf Try.f30 14) 0 = some (some 42, .move (.tmp 0), 56, none) := by kernel_rfl
theorem p30_14_1 : pj (regOf Try.f30 14) 1 = some (some 43, .move (.tmp 8), 3, none) := by kernel_rfl
theorem p30_14_2 : pj (regOf Try.f30 14) 2 = some (some 44, .call { callee := .value (.func 31), args := #[.tmp 42, .tmp 43], argTypes := #[56, 3] }, 52, none) := by kernel_rfl
theorem cl31 : callable Try.f31 = true := by kernel_rfl
theorem p30_14_3 : pj (regOf Try.f30 14) 3 = some (some 45, .call { callee := .builtin .len, args := #[.tmp 44], argTypes := #[52] }, 3, none) := by kernel_rfl
theorem p30_14_4 : pj (regOf Try.f30 14) 4 = some (some 46, .move (.const (.int .i64 0)), 3, none) := by kernel_rfl
theorem p30_15_0 : pj (regOf Try.f30 15) 0 = some (some 47, .binOp .lss 3 (.tmp 46) (.tmp 45) 3, 0, none) := by kernel_rfl
theorem p30_16_0 : pj (regOf Try.f30 16) 0 = some (some 48, .indexAddr 52 (.tmp 44) (.tmp 46), 0, none) := by kernel_rfl
theorem p30_16_1 : pj (regOf Try.f30 16) 1 = some (some 49, .load 3 (.tmp 48), 3, none) := by kernel_rfl
theorem p30_16_2 : pj (regOf Try.f30 16) 2 = some (some 10, .assign (.tmp 49), 3, none) := by kernel_rfl
theorem p30_17_0 : pj (regOf Try.f30 17) 0 = some (some 50, .move (.tmp 5), 52, none) := by kernel_rfl
theorem p30_17_1 : pj (regOf Try.f30 17) 1 = some (some 51, .move (.tmp 10), 3, none) := by kernel_rfl
theorem p30_17_2 : pj (regOf Try.f30 17) 2 = some (some 52, .indexAddr 52 (.tmp 50) (.tmp 51), 0, none) := by kernel_rfl
theorem p30_17_3 : pj (regOf Try.f30 17) 3 = some (some 53, .load 3 (.tmp 52), 3, none) := by kernel_rfl
theorem p30_17_4 : pj (regOf Try.f30 17) 4 = some (some 54, .binOp .geq 3 (.tmp 53) (.const (.int .i64 0)) 3, 4, none) := by kernel_rfl
theorem p30_20_0 : pj (regOf Try.f30 20) 0 = some (some 67, .binOp .add 3 (.tmp 46) (.const (.int .i64 1)) 3, 3, none) := by kernel_rfl
theorem p30_20_1 : pj (regOf Try.f30 20) 1 = some (some 46, .move (.tmp 67), 3, none) := by kernel_rfl
theorem p30_18_0 : pj (regOf Try.f30 18) 0 = some (some 55, .move (.tmp 5), 52, none) := by kernel_rfl
theorem p30_18_1 : pj (regOf Try.f30 18) 1 = some (some 56, .move (.tmp 10), 3, none) := by kernel_rfl
theorem p30_18_2 : pj (regOf Try.f30 18) 2 = some (some 57, .move (.tmp 5), 52, none) := by kernel_rfl
theorem p30_18_3 : pj (regOf Try.f30 18) 3 = some (some 58, .move (.tmp 8), 3, none) := by kernel_rfl
theorem p30_18_4 : pj (regOf Try.f30 18) 4 = some (some 59, .indexAddr 52 (.tmp 57) (.tmp 58), 0, none) := by kernel_rfl
theorem p30_18_5 : pj (regOf Try.f30 18) 5 = some (some 60, .load 3 (.tmp 59), 3, none) := by kernel_rfl
theorem p30_18_6 : pj (regOf Try.f30 18) 6 = some (some 61, .binOp .add 3 (.tmp 60) (.const (.int .i64 1)) 3, 3, none) := by kernel_rfl
theorem p30_18_7 : pj (regOf Try.f30 18) 7 = some (some 62, .indexAddr 52 (.tmp 55) (.tmp 56), 0, none) := by kernel_rfl
theorem p30_18_8 : pj (regOf Try.f30 18) 8 = some (none, .store 3 (.tmp 62) (.tmp 61), 0, none) := by kernel_rfl
theorem p30_19_0 : pj (regOf Try.f30 19) 0 = some (some 63, .move (.tmp 7), 52, none) := by kernel_rfl
theorem p30_19_1 : pj (regOf Try.f30 19) 1 = some (some 64, .move (.tmp 10), 3, none) := by kernel_rfl
theorem p30_19_2 : pj (regOf Try.f30 19) 2 = some (some 65, .buildSlice 52 1 #[(0, .tmp 64)], 52, none) := by kernel_rfl
theorem p30_19_3 : pj (regOf Try.f30 19) 3 = some (some 66, .call { callee := .builtin .append, args := #[.tmp 63, .tmp 65], argTypes := #[52, 52] }, 52, none) := by kernel_rfl
theorem p30_19_4 : pj (regOf Try.f30 19) 4 = some (some 7, .assign (.tmp 66), 52, none) := by kernel_rfl
set_option maxHeartbeats 4000000 in
theorem hops_gen (g gm ck nn : Nat) (es : Array MapEntry) (f : Int → Int → Option Int)  (x : Nat) (hx : x < nn) (hnn : nn ≤ 64) (w : World) (hg : w.heap[g]? = some (.cells #[.int .i64 (nn : Int), .map (some gm)] 83 (0, 0))) (hm : w.heap[gm]? = some (.map es ck)) (hF : Mp.MapF es f) (hne : g ≠ gm) : Calls Try.prog 30 #[.pointer (some ⟨g, 0, none⟩), .int .i64 (x : Int)] w fun e w' => ∃ A c h, e = .returned (.slice A nn c) ∧ nn ≤ c ∧ (Bf.Base (Ed nn f) nn x h ∧ ∀ a b, a < nn → b < nn → Ed nn f a b → 0 ≤ Bf.at_ h a → 0 ≤ Bf.at_ h b ∧ Bf.at_ h b ≤ Bf.at_ h a + 1) ∧ (∀ c, c < nn → Bf.at_ h c + 1 ≤ nn) ∧ (∀ k, OB A k → w.heap.size ≤ k ∧ k < w'.heap.size) ∧ (∀ W', Kp w' W' (fun _ => False) → Kd.C (Kd.int .i64) W' A nn h) ∧ Kp w w' (fun _ => False) := by
  have K_0 := Kp.refl w (fun _ => False)
  have B_g := hg
  have B_gm := hm
  have n_g_gm := hne
  refine enter (args := [Value.pointer (some ⟨g, 0, none⟩), Value.int .i64 (x : Int)]) (n := 69) Try.func30 body30 rfl rfl rfl ?_
  intro a hE
  refine c_reg R30_0_l ?_
  refine q0 p30_0_0 hE (st_assign rfl) ?_
  clear hE a; intro a hE
  refine p_nil ?_
  refine x_norm ?_
  refine wp_scope_straight ?_
  refine wp_seq ?_
  refine c_reg R30_1_l ?_
  refine q0 p30_1_0 hE (st_move rfl) ?_
  clear hE a; intro a hE
  refine q0 p30_1_1 hE (st_move rfl) ?_
  clear hE a; intro a hE
  refine p_cons (s_call (xs := [Operand.tmp 11, Operand.tmp 12]) (args := [Value.pointer (some ⟨g, 0, none⟩), Value.int .i64 (x : Int)]) p30_1_2 hE wn_none rfl rfl Try.func55 cl55 (node_any g (nn : Int) (x : Int) (Value.map (some gm)) true (by unfold nodeB; exact decide_eq_true ⟨by omega, by omega⟩) _ B_g) ?_)
  rintro e w1 ⟨rfl, hk⟩
  replace B_g := kp_blk B_g hk (fun h => h)
  replace B_gm := kp_blk B_gm hk (fun h => h)
  replace K_0 := K_0.then_ hk (fun _ h => h.elim)
  refine ⟨_, rfl, ?_⟩
  clear hE a; intro a hE
  refine q0 p30_1_3 hE (st_not rfl rfl) ?_
  clear hE a; intro a hE
  refine p_nil ?_
  refine x_norm ?_
  refine c_cond (t := false) hE rfl ?_
  refine wp_skip ?_
  refine x_norm ?_
  refine c_reg R30_3_l ?_
  refine q0 p30_3_0 hE (st_move rfl) ?_
  clear hE a; intro a hE
  refine q0 p30_3_1 hE (st_nil rfl) ?_
  clear hE a; intro a hE
  refine q0 p30_3_2 hE (st_fieldAddr Try.underlying83 rfl tS3 rfl rfl) ?_
  clear hE a; intro a hE
  refine q0 p30_3_3 hE (st_load1 tA3 rfl ((blk_cell B_g 0).trans rfl)) ?_
  clear hE a; intro a hE
  refine p_cons (s_make (s := 1) (q := nn) p30_3_4 hE wn_none rfl Try.underlying52 tZ3 eD3 rfl rfl (by omega) (by omega) rfl ?_)
  clear hE a; intro g2 w3 z4 B_g2 hk a hE
  have n_g_g2 : g ≠ g2 := ne_new B_g z4
  have n_gm_g2 : gm ≠ g2 := ne_new B_gm z4
  have z_0_g2 := Nat.le_trans K_0.kept.1 z4
  replace B_g := kp_blk B_g hk (fun h => h)
  replace B_gm := kp_blk B_gm hk (fun h => h)
  replace K_0 := K_0.then_ hk (fun _ h => h.elim)
  clear hk
  have O_out := own_blk9 (k := .i64) (l := List.replicate nn 0) B_g2 (show w.heap.size ≤ g2 from z_0_g2) (by simp [encs]) (by rw [List.length_replicate]; show nn ≤ maxLen; unfold maxLen; omega)
  rw [List.length_replicate] at O_out
  have Nb_out_g : ¬ OB (some ⟨g2, 0, none⟩) g := fun h => by have h := ob_blk.1 h; exact (Ne.symm n_g_g2) h
  have Nb_out_gm : ¬ OB (some ⟨g2, 0, none⟩) gm := fun h => by have h := ob_blk.1 h; exact (Ne.symm n_gm_g2) h
  have Z_0_out : ∀ k, OB (some ⟨g2, 0, none⟩) k → (fun _ => False) k ∨ w.heap.size ≤ k := fun k h => by have h := ob_blk.1 h; subst h; exact Or.inr z_0_g2
  refine q0 p30_3_5 hE (st_assign rfl) ?_
  clear hE a; intro a hE
  refine p_nil ?_
  refine x_norm ?_
  refine wp_seq ?_
  refine c_reg R30_4_l ?_
  refine q0 p30_4_0 hE (st_move rfl) ?_
  clear hE a; intro a hE
  refine q0 p30_4_1 hE (st_len Try.underlying52 rfl) ?_
  clear hE a; intro a hE
  refine q0 p30_4_2 hE (st_move rfl) ?_
  clear hE a; intro a hE
  refine p_nil ?_
  refine x_norm ?_
  refine wp_block ?_
  refine c_loop (α := Nat) (fun i a W => ∃ (A_out : Option Addr) (c_out : Nat) (n_out : Nat), En 69 a [(0, Value.pointer (some ⟨g, 0, none⟩)), (1, Value.int .i64 (x : Int)), (4, Value.slice none 0 0), (14, Value.bool false), (5, Value.slice A_out n_out c_out), (21, Value.int .i64 (nn : Int)), (22, Value.int .i64 (i : Int))] ∧ i ≤ nn ∧ n_out = nn ∧ W.heap[g]? = some (.cells #[Value.int .i64 (nn : Int), Value.map (some gm)] 83 (0, 0)) ∧ W.heap[gm]? = some (.map es ck) ∧ n_out = (List.replicate i (-1) ++ List.replicate (nn - i) 0).length ∧ W.ownsRow w.heap.size 3 1 (.slice A_out n_out c_out) n_out (encs (Value.int .i64) (List.replicate i (-1) ++ List.replicate (nn - i) 0)) ∧ ¬ OB A_out g ∧ ¬ OB A_out gm ∧ (∀ k, OB A_out k → (fun _ => False) k ∨ w.heap.size ≤ k) ∧ Kp w W (fun _ => False)) (fun i => nn - i) (0) ?_ ?_
  ·
    exact ⟨some ⟨g2, 0, none⟩, nn, nn, En.sub hE ⟨rfl, rfl, rfl, rfl, rfl, rfl, rfl, trivial⟩, Nat.zero_le _, rfl, B_g, B_gm, by simp, O_out, Nb_out_g, Nb_out_gm, Z_0_out, K_0⟩
  ·
    clear hE a
    rintro i a w5 ⟨A_out, c_out, n_out, hE, hi9, hno, B_g, B_gm, hn_out, O_out, Nb_out_g, Nb_out_gm, Z_0_out, K_0⟩
    rcases Decidable.em ((i : Int) < (nn : Int)) with hK1 | hK1
    ·
      refine c_reg R30_5_l ?_
      refine q0 p30_5_0 hE (st_lss (b := true) rfl rfl (decide_eq_true hK1)) ?_
      clear hE a; intro a hE
      refine p_nil ?_
      refine x_norm ?_
      refine wp_seq ?_
      refine c_cond (t := true) hE rfl ?_
      refine wp_skip ?_
      refine x_norm ?_
      refine wp_seq ?_
      refine wp_block ?_
      refine c_reg R30_6_l ?_
      refine q0 p30_6_0 hE (st_move rfl) ?_
      clear hE a; intro a hE
      refine q0 p30_6_1 hE (st_assign rfl) ?_
      clear hE a; intro a hE
      refine p_nil ?_
      refine x_norm ?_
      refine c_regL R30_7_l ?_
      refine q0 p30_7_0 hE (st_move rfl) ?_
      clear hE a; intro a hE
      refine q0 p30_7_1 hE (st_move rfl) ?_
      clear hE a; intro a hE
      refine q0 p30_7_2 hE (st_indexAddrC (i := i) Try.underlying52 tS3 (own_told O_out) rfl rfl (by omega)) ?_
      clear hE a; intro a hE
      refine p_cons (s_storeO (j := i) (v := -1) p30_7_3 hE wn_none tS3 rfl rfl O_out (by omega) ?_)
      intro w6 O_out' hk
      replace B_g := kp_blk B_g hk Nb_out_g
      replace B_gm := kp_blk B_gm hk Nb_out_gm
      replace K_0 := K_0.then_ hk Z_0_out
      replace O_out := O_out'
      clear hk
      refine p_nil ?_
      refine x_normB ?_
      refine x_norm ?_
      refine c_regL R30_8_l ?_
      refine q0 p30_8_0 hE (st_add (z := (i : Int) + 1) rfl rfl (wr_i64 _ (by omega) (by omega))) ?_
      clear hE a; intro a hE
      refine q0 p30_8_1 hE (st_move rfl) ?_
      clear hE a; intro a hE
      refine p_nil ?_
      refine x_norm ?_
      rw [fill nn i (by omega)] at O_out
      exact ⟨i + 1, by omega, A_out, c_out, n_out, En.sub hE ⟨rfl, rfl, rfl, rfl, rfl, rfl, rfl, trivial⟩, by omega, hno, B_g, B_gm, (by simp; omega), O_out, Nb_out_g, Nb_out_gm, Z_0_out, K_0⟩
    ·
      refine c_reg R30_5_l ?_
      refine q0 p30_5_0 hE (st_lss (b := false) rfl rfl (decide_eq_false hK1)) ?_
      clear hE a; intro a hE
      refine p_nil ?_
      refine x_norm ?_
      refine wp_seq ?_
      refine c_cond (t := false) hE rfl ?_
      refine wp_exit ?_
      refine x_exit ?_
      refine x_exit ?_
      have hin : i = nn := by omega
      rw [hin, Nat.sub_self, List.replicate_zero, List.append_nil, hno] at O_out
      rw [hno] at hE
      have hn_o2 : nn = (List.replicate nn (-1)).length := by simp
      refine x_in ?_
      refine x_norm ?_
      refine c_reg R30_9_l ?_
      refine q0 p30_9_0 hE (st_move rfl) ?_
      clear hE a; intro a hE
      refine q0 p30_9_1 hE (st_move rfl) ?_
      clear hE a; intro a hE
      refine q0 p30_9_2 hE (st_indexAddrC (i := x) Try.underlying52 tS3 (own_told O_out) rfl rfl (by omega)) ?_
      clear hE a; intro a hE
      refine p_cons (s_storeO (j := x) (v := 0) p30_9_3 hE wn_none tS3 rfl rfl O_out (by omega) ?_)
      intro w7 O_out' hk
      replace B_g := kp_blk B_g hk Nb_out_g
      replace B_gm := kp_blk B_gm hk Nb_out_gm
      replace K_0 := K_0.then_ hk Z_0_out
      replace O_out := O_out'
      clear hk
      refine p_nil ?_
      refine x_norm ?_
      refine c_reg R30_10_l ?_
      refine q0 p30_10_0 hE (st_move rfl) ?_
      clear hE a; intro a hE
      refine p_cons (s_row (xs := [(0, Operand.tmp 32)]) (vs := [(0, Value.int .i64 (x : Int))]) (cs := #[Value.int .i64 (x : Int)]) p30_10_1 hE wn_none rfl Try.underlying52 rfl (by kernel_rfl) ?_)
      clear hE a; intro g8 w9 z10 B_g8 hk a hE
      have n_g_g8 : g ≠ g8 := ne_new B_g z10
      have n_gm_g8 : gm ≠ g8 := ne_new B_gm z10
      have z_0_g8 := Nat.le_trans K_0.kept.1 z10
      have Nb_out_g8 : ¬ OB A_out g8 := fun h => by have := (own_ob O_out h).2; omega
      replace B_g := kp_blk B_g hk (fun h => h)
      replace B_gm := kp_blk B_gm hk (fun h => h)
      replace O_out := own_keep O_out hk (fun _ _ h => h)
      replace K_0 := K_0.then_ hk (fun _ h => h.elim)
      clear hk
      refine q0 p30_10_2 hE (st_assign rfl) ?_
      clear hE a; intro a hE
      refine p_nil ?_
      refine x_norm ?_
      refine wp_seq ?_
      refine wp_label ?_
      refine x_norm ?_
      refine wp_seq ?_
      refine wp_block ?_
      have hI0 := Bf.start (E := Ed nn f) hx
      have hQ0 := Qu.qo_one (x : Int) 3
      have hl0 : ((List.replicate nn (-1)).set x 0).length = nn := by simp
      have hbd0 := bd0 hx
      have hkn0 : Bf.cnt ((List.replicate nn (-1)).set x 0) + 1 ≤ nn := Nat.le_of_eq (cn0 hx)
      refine c_loop (α := Nat) (fun k a W => ∃ (A_out : Option Addr) (c_out : Nat) (n_out : Nat), ∃ (qb : Nat), ∃ (hs : List Int), ∃ (ys : List Nat), ∃ (off : Nat), ∃ (cq : Nat), ∃ (oq : Obj), En 69 a [(0, Value.pointer (some ⟨g, 0, none⟩)), (1, Value.int .i64 (x : Int)), (4, Value.slice none 0 0), (14, Value.bool false), (5, Value.slice A_out n_out c_out), (21, Value.int .i64 (nn : Int)), (22, Value.int .i64 (i : Int)), (23, Value.bool false), (7, Value.slice (some ⟨qb, off, none⟩) ys.length cq)] ∧ Bf.Inv (Ed nn f) nn x hs ys ∧ Qu.QO oq off ys.length cq (ys.map fun (y : Nat) => (y : Int)) ∧ ys.length ≤ cq ∧ k = Bf.cnt hs + ys.length ∧ n_out = nn ∧ k ≤ nn ∧ (∀ c, c < nn → Bf.at_ hs c + 1 + (Bf.cnt hs : Int) ≤ nn) ∧ W.heap[g]? = some (.cells #[Value.int .i64 (nn : Int), Value.map (some gm)] 83 (0, 0)) ∧ W.heap[gm]? = some (.map es ck) ∧ W.heap[qb]? = some (oq) ∧ w.heap.size ≤ qb ∧ g ≠ qb ∧ gm ≠ qb ∧ n_out = hs.length ∧ W.ownsRow w.heap.size 3 1 (.slice A_out n_out c_out) n_out (encs (Value.int .i64) hs) ∧ ¬ OB A_out g ∧ ¬ OB A_out gm ∧ ¬ OB A_out qb ∧ (∀ k, OB A_out k → (fun _ => False) k ∨ w.heap.size ≤ k) ∧ Kp w W (fun _ => False)) (fun k => k) ((Bf.cnt ((List.replicate nn (-1)).set x 0) + 1)) ?_ ?_
      ·
        exact ⟨A_out, c_out, nn, g8, ((List.replicate nn (-1)).set x 0), [x], 0, 1, (.cells #[.int .i64 (x : Int)] 3 (0, 0)), En.sub hE ⟨rfl, rfl, rfl, rfl, rfl, rfl, rfl, rfl, rfl, trivial⟩, hI0, hQ0, Nat.le_refl _, rfl, rfl, hkn0, hbd0, B_g, B_gm, B_g8, z_0_g8, n_g_g8, n_gm_g8, hl0.symm, O_out, Nb_out_g, Nb_out_gm, Nb_out_g8, Z_0_out, K_0⟩
      ·
        clear hE a
        rintro k a w11 ⟨A_out, c_out, n_out, qb, hs, ys, off, cq, oq, hE, hI, hQ, hcq, hms, hno, hkn, hbd, B_g, B_gm, B_qb, z_0_qb, n_g_qb, n_gm_qb, hn_out, O_out, Nb_out_g, Nb_out_gm, Nb_out_qb, Z_0_out, K_0⟩
        refine wp_block ?_
        refine wp_seq ?_
        rcases Decidable.em (ys = []) with hYS | hYS
        ·
          refine c_reg R30_11_l ?_
          refine q0 p30_11_0 hE (st_move rfl) ?_
          clear hE a; intro a hE
          refine q0 p30_11_1 hE (st_len Try.underlying52 rfl) ?_
          clear hE a; intro a hE
          refine q0 p30_11_2 hE (st_eql (b := true) rfl rfl (by rw [hYS]; rfl)) ?_
          clear hE a; intro a hE
          refine p_nil ?_
          refine x_norm ?_
          refine c_cond (t := true) hE rfl ?_
          refine wp_exit ?_
          refine x_exit ?_
          refine x_out rfl ?_
          refine x_exit ?_
          refine x_in ?_
          refine x_norm ?_
          refine c_reg R30_21_l ?_
          refine q0 p30_21_0 hE (st_move rfl) ?_
          clear hE a; intro a hE
          refine q0 p30_21_1 hE (st_assign rfl) ?_
          clear hE a; intro a hE
          refine p_nil ?_
          refine x_norm ?_
          refine wp_ret ?_
          refine x_retS ?_
          refine ret_one (v := Value.slice A_out n_out c_out) rfl hE (.tmp rfl .nil) ?_
          subst hYS
          have hfin := Bf.over hI
          rw [hno] at O_out
          exact ⟨A_out, c_out, hs, by rw [hno], by have := (own_caps O_out).1; exact this, hfin, fun c hc => by have := hbd c hc; omega, fun k hk => own_ob O_out hk, fun W' hk => own_told (own_keep O_out hk (fun _ _ h => h)), K_0⟩
        ·
          obtain ⟨y, yt, rfl⟩ := List.exists_cons_of_ne_nil hYS
          have hyl : 0 < (y :: yt).length := by simp
          have hlc : (y :: yt).length = yt.length + 1 := rfl
          refine c_reg R30_11_l ?_
          refine q0 p30_11_0 hE (st_move rfl) ?_
          clear hE a; intro a hE
          refine q0 p30_11_1 hE (st_len Try.underlying52 rfl) ?_
          clear hE a; intro a hE
          refine q0 p30_11_2 hE (st_eql (b := false) rfl rfl (decide_eq_false (by omega))) ?_
          clear hE a; intro a hE
          refine p_nil ?_
          refine x_norm ?_
          refine c_cond (t := false) hE rfl ?_
          refine wp_skip ?_
          refine x_norm ?_
          refine c_reg R30_12_l ?_
          refine q0 p30_12_0 hE (st_move rfl) ?_
          clear hE a; intro a hE
          refine q0 p30_12_1 hE (st_indexAddrC (i := 0) Try.underlying52 tS3 (Qu.qo_C hQ B_qb) rfl rfl (by omega)) ?_
          clear hE a; intro a hE
          refine q0 (v := Value.int .i64 (rd ((y :: yt).map fun (y : Nat) => (y : Int)) (0 : Int))) p30_12_2 hE (st_loadC (i := 0) tA3 (Qu.qo_C hQ B_qb) (by omega) rfl) ?_
          clear hE a; intro a hE
          refine q0 p30_12_3 hE (st_assign rfl) ?_
          clear hE a; intro a hE
          refine p_nil ?_
          refine x_norm ?_
          refine c_reg R30_13_l ?_
          have hy9 : (rd ((y :: yt).map fun (y : Nat) => (y : Int)) (0 : Int)) = (y : Int) := rfl
          rw [hy9] at hE
          refine q0 p30_13_0 hE (st_move rfl) ?_
          clear hE a; intro a hE
          refine q0 p30_13_1 hE (st_sliceL (lo := 1) (A' := some ⟨qb, (if cq = 1 then off else off + 1), none⟩) Try.underlying52 tS3 rfl rfl (by simp) rfl rfl (Qu.tail_addr qb off cq)) ?_
          clear hE a; intro a hE
          refine q0 p30_13_2 hE (st_assign rfl) ?_
          clear hE a; intro a hE
          refine p_nil ?_
          refine x_norm ?_
          refine c_reg R30_14_l ?_
          have hcl9 : yt.length + 1 ≤ cq := hcq
          have Q2 := Qu.qo_tail hQ hcl9
          obtain ⟨of2, hof2⟩ : ∃ z, (if cq = 1 then off else off + 1) = z := ⟨_, rfl⟩
          rw [hof2] at Q2 hE
          have hyn := (hI.inn y (List.mem_cons_self ..)).1
          refine q0 p30_14_0 hE (st_move rfl) ?_
          clear hE a; intro a hE
          refine q0 p30_14_1 hE (st_move rfl) ?_
          clear hE a; intro a hE
          have hlt9_g := blk_lt B_g
          have hlt9_gm := blk_lt B_gm
          have hlt9_qb := blk_lt B_qb
          have hlo9 := fun k (h : OB A_out k) => (own_ob O_out h).2
          refine p_cons (s_call (xs := [Operand.tmp 42, Operand.tmp 43]) (args := [Value.pointer (some ⟨g, 0, none⟩), Value.int .i64 (y : Int)]) p30_14_2 hE wn_none rfl rfl Try.func31 cl31 (nbs_any g gm _ nn _ f (y : Int) hnn _ B_g B_gm hF n_g_gm) ?_)
          rintro e w12 ⟨An, cn, rfl, hcn, hFn, hgn, hk⟩
          replace B_g := kp_blk B_g hk (fun h => h)
          replace B_gm := kp_blk B_gm hk (fun h => h)
          replace B_qb := kp_blk B_qb hk (fun h => h)
          replace O_out := own_keep O_out hk (fun _ _ h => h)
          replace K_0 := K_0.then_ hk (fun _ h => h.elim)
          have K_9 := Kp.refl w12 (fun k => k < w11.heap.size)
          have hqs_9_g : (fun k => k < w11.heap.size) g ∨ w12.heap.size ≤ g := .inl hlt9_g
          have hqs_9_gm : (fun k => k < w11.heap.size) gm ∨ w12.heap.size ≤ gm := .inl hlt9_gm
          have hqs_9_qb : (fun k => k < w11.heap.size) qb ∨ w12.heap.size ≤ qb := .inl hlt9_qb
          have Z_9_out : ∀ k, OB A_out k → (fun k => k < w11.heap.size) k ∨ w12.heap.size ≤ k := fun k h => .inl (hlo9 k h)
          refine ⟨_, rfl, ?_⟩
          clear hE a; intro a hE
          refine q0 p30_14_3 hE (st_len Try.underlying52 rfl) ?_
          clear hE a; intro a hE
          refine q0 p30_14_4 hE (st_move rfl) ?_
          clear hE a; intro a hE
          refine p_nil ?_
          refine x_norm ?_
          refine wp_block ?_
          refine c_loop (α := Nat) (fun j a W => ∃ (A_out : Option Addr) (c_out : Nat) (n_out : Nat), ∃ (qb2 : Nat), ∃ (hs2 : List Int), ∃ (ys2 : List Nat), ∃ (o2 : Nat), ∃ (c2 : Nat), ∃ (oq2 : Obj), En 69 a [(0, Value.pointer (some ⟨g, 0, none⟩)), (1, Value.int .i64 (x : Int)), (4, Value.slice none 0 0), (14, Value.bool false), (5, Value.slice A_out n_out c_out), (21, Value.int .i64 (nn : Int)), (22, Value.int .i64 (i : Int)), (23, Value.bool false), (36, Value.bool false), (8, Value.int .i64 (y : Int)), (44, Value.slice An ((nbs (nn : Int) f (y : Int) nn).length) cn), (45, Value.int .i64 ((nbs (nn : Int) f (y : Int) nn).length : Int)), (46, Value.int .i64 (j : Int)), (7, Value.slice (some ⟨qb2, o2, none⟩) ys2.length c2)] ∧ j ≤ (nbN nn f y).length ∧ Bf.Mid (Ed nn f) nn x y (nbN nn f y) j hs2 ys2 ∧ Qu.QO oq2 o2 ys2.length c2 (ys2.map fun (y : Nat) => (y : Int)) ∧ ys2.length ≤ c2 ∧ Bf.cnt hs2 + ys2.length = Bf.cnt hs + yt.length ∧ n_out = nn ∧ (∀ c, c < nn → Bf.at_ hs2 c + 1 + (Bf.cnt hs2 : Int) ≤ nn) ∧ (((fun k => k < w11.heap.size) qb2 ∨ w12.heap.size ≤ qb2)) ∧ W.heap[g]? = some (.cells #[Value.int .i64 (nn : Int), Value.map (some gm)] 83 (0, 0)) ∧ W.heap[gm]? = some (.map es ck) ∧ W.heap[qb2]? = some (oq2) ∧ w.heap.size ≤ qb2 ∧ g ≠ qb2 ∧ gm ≠ qb2 ∧ n_out = hs2.length ∧ W.ownsRow w.heap.size 3 1 (.slice A_out n_out c_out) n_out (encs (Value.int .i64) hs2) ∧ ¬ OB A_out g ∧ ¬ OB A_out gm ∧ ¬ OB A_out qb2 ∧ (∀ k, OB A_out k → (fun _ => False) k ∨ w.heap.size ≤ k) ∧ (∀ k, OB A_out k → (fun k => k < w11.heap.size) k ∨ w12.heap.size ≤ k) ∧ Kp w W (fun _ => False) ∧ Kp w12 W (fun k => k < w11.heap.size)) (fun j => (nbN nn f y).length - j) (0) ?_ ?_
          ·
            exact ⟨A_out, c_out, n_out, qb, hs, yt, of2, (cq - 1), oq, En.sub hE ⟨rfl, rfl, rfl, rfl, rfl, rfl, rfl, rfl, rfl, rfl, rfl, rfl, rfl, rfl, trivial⟩, Nat.zero_le _, Bf.opens hI, Q2, (by omega), rfl, hno, hbd, hqs_9_qb, B_g, B_gm, B_qb, z_0_qb, n_g_qb, n_gm_qb, hn_out, O_out, Nb_out_g, Nb_out_gm, Nb_out_qb, Z_0_out, Z_9_out, K_0, K_9⟩
          ·
            clear hE a
            rintro j a w13 ⟨A_out, c_out, n_out, qb2, hs2, ys2, o2, c2, oq2, hE, hj9, hM2, hQ2, hc2, hms2, hno2, hbd2, hqs_9_qb2, B_g, B_gm, B_qb2, z_0_qb2, n_g_qb2, n_gm_qb2, hn_out, O_out, Nb_out_g, Nb_out_gm, Nb_out_qb2, Z_0_out, Z_9_out, K_0, K_9⟩
            have hjn : (nbs (nn : Int) f (y : Int) nn).length = (nbN nn f y).length := by rw [nbs_nat, List.length_map]
            have hnl := nbs_len (nn : Int) f (y : Int) nn
            rcases Decidable.em ((j : Int) < ((nbs (nn : Int) f (y : Int) nn).length : Int)) with hK2 | hK2
            ·
              refine c_reg R30_15_l ?_
              refine q0 p30_15_0 hE (st_lss (b := true) rfl rfl (decide_eq_true hK2)) ?_
              clear hE a; intro a hE
              refine p_nil ?_
              refine x_norm ?_
              refine wp_seq ?_
              refine c_cond (t := true) hE rfl ?_
              refine wp_skip ?_
              refine x_norm ?_
              refine wp_seq ?_
              refine wp_block ?_
              refine c_reg R30_16_l ?_
              refine q0 p30_16_0 hE (st_indexAddrC (i := j) Try.underlying52 tS3 (hFn _ K_9) rfl rfl (by omega)) ?_
              clear hE a; intro a hE
              refine q0 (v := Value.int .i64 (rd (nbs (nn : Int) f (y : Int) nn) (j : Int))) p30_16_1 hE (st_loadC (i := j) tA3 (hFn _ K_9) (by omega) rfl) ?_
              clear hE a; intro a hE
              refine q0 p30_16_2 hE (st_assign rfl) ?_
              clear hE a; intro a hE
              refine p_nil ?_
              refine x_norm ?_
              refine wp_seq ?_
              have hjl : j < (nbN nn f y).length := by omega
              obtain ⟨b, hb⟩ : ∃ b, (nbN nn f y)[j]? = some b := ⟨_, List.getElem?_eq_getElem hjl⟩
              have hrd : (rd (nbs (nn : Int) f (y : Int) nn) (j : Int)) = (b : Int) := by rw [nbs_nat, rd_map _ _ hjl, (List.getElem?_eq_some_iff.1 hb).2]
              rw [hrd] at hE
              have hbE := nbN_mem.1 (List.mem_of_getElem? hb)
              have hbn := hbE.1
              rcases Decidable.em (0 ≤ rd hs2 (b : Int)) with hV | hV
              ·
                refine c_reg R30_17_l ?_
                refine q0 p30_17_0 hE (st_move rfl) ?_
                clear hE a; intro a hE
                refine q0 p30_17_1 hE (st_move rfl) ?_
                clear hE a; intro a hE
                refine q0 p30_17_2 hE (st_indexAddrC (i := b) Try.underlying52 tS3 (own_told O_out) rfl rfl (by omega)) ?_
                clear hE a; intro a hE
                refine q0 (v := Value.int .i64 (rd hs2 (b : Int))) p30_17_3 hE (st_loadC (i := b) tA3 (own_told O_out) (by omega) rfl) ?_
                clear hE a; intro a hE
                refine q0 p30_17_4 hE (st_geq (b := true) rfl rfl (decide_eq_true hV)) ?_
                clear hE a; intro a hE
                refine p_nil ?_
                refine x_norm ?_
                refine c_cond (t := true) hE rfl ?_
                refine wp_exit ?_
                refine x_exit ?_
                refine x_in ?_
                refine x_norm ?_
                refine c_regL R30_20_l ?_
                refine q0 p30_20_0 hE (st_add (z := (j : Int) + 1) rfl rfl (wr_i64 _ (by omega) (by omega))) ?_
                clear hE a; intro a hE
                refine q0 p30_20_1 hE (st_move rfl) ?_
                clear hE a; intro a hE
                refine p_nil ?_
                refine x_norm ?_
                have hM9 := Bf.skips hb hbn hM2 (by rw [← rd_at]; exact hV)
                have hQ9 := hQ2
                have hc9 := hc2
                have hms9 := hms2
                have hno9 := hno2
                have hbd9 := hbd2
                have hln9 := hn_out
                have hqs9 := hqs_9_qb2
                exact ⟨j + 1, by omega, A_out, c_out, n_out, qb2, hs2, ys2, o2, c2, oq2, En.sub hE ⟨rfl, rfl, rfl, rfl, rfl, rfl, rfl, rfl, rfl, rfl, rfl, rfl, rfl, (by first | rfl | (rw [List.length_append]; rfl)), trivial⟩, by omega, hM9, hQ9, hc9, hms9, hno9, hbd9, hqs9, B_g, B_gm, B_qb2, z_0_qb2, n_g_qb2, n_gm_qb2, hln9, O_out, Nb_out_g, Nb_out_gm, Nb_out_qb2, Z_0_out, Z_9_out, K_0, K_9⟩
              ·
                refine c_reg R30_17_l ?_
                refine q0 p30_17_0 hE (st_move rfl) ?_
                clear hE a; intro a hE
                refine q0 p30_17_1 hE (st_move rfl) ?_
                clear hE a; intro a hE
                refine q0 p30_17_2 hE (st_indexAddrC (i := b) Try.underlying52 tS3 (own_told O_out) rfl rfl (by omega)) ?_
                clear hE a; intro a hE
                refine q0 (v := Value.int .i64 (rd hs2 (b : Int))) p30_17_3 hE (st_loadC (i := b) tA3 (own_told O_out) (by omega) rfl) ?_
                clear hE a; intro a hE
                refine q0 p30_17_4 hE (st_geq (b := false) rfl rfl (decide_eq_false hV)) ?_
                clear hE a; intro a hE
                refine p_nil ?_
                refine x_norm ?_
                refine c_cond (t := false) hE rfl ?_
                refine wp_skip ?_
                refine x_norm ?_
                refine c_reg R30_18_l ?_
                have hyb := hbd2 y hyn
                rw [← rd_at] at hyb
                have hy0 := hM2.an.2
                rw [← rd_at] at hy0
                refine q0 p30_18_0 hE (st_move rfl) ?_
                clear hE a; intro a hE
                refine q0 p30_18_1 hE (st_move rfl) ?_
                clear hE a; intro a hE
                refine q0 p30_18_2 hE (st_move rfl) ?_
                clear hE a; intro a hE
                refine q0 p30_18_3 hE (st_move rfl) ?_
                clear hE a; intro a hE
                refine q0 p30_18_4 hE (st_indexAddrC (i := y) Try.underlying52 tS3 (own_told O_out) rfl rfl (by omega)) ?_
                clear hE a; intro a hE
                refine q0 (v := Value.int .i64 (rd hs2 (y : Int))) p30_18_5 hE (st_loadC (i := y) tA3 (own_told O_out) (by omega) rfl) ?_
                clear hE a; intro a hE
                refine q0 p30_18_6 hE (st_add (z := (rd hs2 (y : Int)) + 1) rfl rfl (wr_i64 _ (by omega) (by omega))) ?_
                clear hE a; intro a hE
                refine q0 p30_18_7 hE (st_indexAddrC (i := b) Try.underlying52 tS3 (own_told O_out) rfl rfl (by omega)) ?_
                clear hE a; intro a hE
                refine p_cons (s_storeO (j := b) (v := (rd hs2 (y : Int)) + 1) p30_18_8 hE wn_none tS3 rfl rfl O_out (by omega) ?_)
                intro w14 O_out' hk
                replace B_g := kp_blk B_g hk Nb_out_g
                replace B_gm := kp_blk B_gm hk Nb_out_gm
                replace B_qb2 := kp_blk B_qb2 hk Nb_out_qb2
                replace K_0 := K_0.then_ hk Z_0_out
                replace K_9 := K_9.then_ hk Z_9_out
                replace O_out := O_out'
                clear hk
                refine p_nil ?_
                refine x_norm ?_
                refine c_regL R30_19_l ?_
                rw [rd_at] at O_out
                have hz9 := K_9.kept.1
                refine q0 p30_19_0 hE (st_move rfl) ?_
                clear hE a; intro a hE
                refine q0 p30_19_1 hE (st_move rfl) ?_
                clear hE a; intro a hE
                refine p_cons (s_row (xs := [(0, Operand.tmp 64)]) (vs := [(0, Value.int .i64 (b : Int))]) (cs := #[Value.int .i64 (b : Int)]) p30_19_2 hE wn_none rfl Try.underlying52 rfl (by kernel_rfl) ?_)
                clear hE a; intro g15 w16 z17 B_g15 hk a hE
                have n_g_g15 : g ≠ g15 := ne_new B_g z17
                have n_gm_g15 : gm ≠ g15 := ne_new B_gm z17
                have n_qb2_g15 : qb2 ≠ g15 := ne_new B_qb2 z17
                have z_0_g15 := Nat.le_trans K_0.kept.1 z17
                have z_9_g15 := Nat.le_trans K_9.kept.1 z17
                have Nb_out_g15 : ¬ OB A_out g15 := fun h => by have := (own_ob O_out h).2; omega
                replace B_g := kp_blk B_g hk (fun h => h)
                replace B_gm := kp_blk B_gm hk (fun h => h)
                replace B_qb2 := kp_blk B_qb2 hk (fun h => h)
                replace O_out := own_keep O_out hk (fun _ _ h => h)
                replace K_0 := K_0.then_ hk (fun _ h => h.elim)
                replace K_9 := K_9.then_ hk (fun _ h => h.elim)
                clear hk
                refine p_cons (Qu.s_push p30_19_3 hE wn_none rfl Try.underlying52 eD3 rfl rfl B_qb2 hQ2 ((blk_cell B_g15 0).trans rfl) (by omega) (by omega) ?_)
                have hlt_g := blk_lt B_g
                have hlt_gm := blk_lt B_gm
                have hlt_qb2 := blk_lt B_qb2
                have hlt_g15 := blk_lt B_g15
                have hlo_out := fun k (h : OB A_out k) => (own_ob O_out h).2
                have hz_0 := K_0.kept.1
                clear hE a; intro qbq18 offq18 cq18 oq18 w19 B_qbq18 Q_q18 hk hnb a hE
                have n_g_qbq18 : g ≠ qbq18 := by rcases hnb with h | h; rw [h]; exact n_g_qb2; omega
                have n_gm_qbq18 : gm ≠ qbq18 := by rcases hnb with h | h; rw [h]; exact n_gm_qb2; omega
                have n_g15_qbq18 : g15 ≠ qbq18 := by rcases hnb with h | h; rw [h]; exact (Ne.symm n_qb2_g15); omega
                have Nb_out_qbq18 : ¬ OB A_out qbq18 := fun h => by rcases hnb with h2 | h2; rw [h2] at h; exact Nb_out_qb2 h; have := hlo_out _ h; omega
                have z_0_qbq18 : w.heap.size ≤ qbq18 := by rcases hnb with h | h; rw [h]; exact z_0_qb2; omega
                have hz_9 := K_9.kept.1
                have hqs_9_qbq18 : (fun k => k < w11.heap.size) qbq18 ∨ w12.heap.size ≤ qbq18 := by rcases hnb with h | h; rw [h]; exact hqs_9_qb2; exact .inr (Nat.le_trans hz_9 h)
                replace B_g := kp_blk B_g hk n_g_qb2
                replace B_gm := kp_blk B_gm hk n_gm_qb2
                replace B_g15 := kp_blk B_g15 hk (Ne.symm n_qb2_g15)
                replace O_out := own_keep O_out hk (fun k hk2 h2 => Nb_out_qb2 (by rw [show k = qb2 from h2] at hk2; exact hk2))
                replace K_0 := K_0.then_ hk (fun k h => by rw [show k = qb2 from h]; exact Or.inr z_0_qb2)
                replace K_9 := K_9.then_ hk (fun k h => by rw [show k = qb2 from h]; exact hqs_9_qb2)
                clear hk hnb
                refine q0 p30_19_4 hE (st_assign rfl) ?_
                clear hE a; intro a hE
                refine p_nil ?_
                refine x_normB ?_
                refine x_norm ?_
                refine c_regL R30_20_l ?_
                refine q0 p30_20_0 hE (st_add (z := (j : Int) + 1) rfl rfl (wr_i64 _ (by omega) (by omega))) ?_
                clear hE a; intro a hE
                refine q0 p30_20_1 hE (st_move rfl) ?_
                clear hE a; intro a hE
                refine p_nil ?_
                refine x_norm ?_
                have hM9 := Bf.visits hb hbn hbE hM2 (by rw [← rd_at]; omega)
                have hcs := Bf.cnt_set hs2 b (Bf.at_ hs2 y + 1) (by rw [hM2.base.len]; exact hbn) (by rw [← rd_at]; omega) (by have := hM2.an.2; omega)
                have hQ9 : Qu.QO oq18 offq18 (ys2 ++ [b]).length cq18 ((ys2 ++ [b]).map fun (y : Nat) => (y : Int)) := by rw [List.map_append, List.length_append]; exact Q_q18
                have hc9 : (ys2 ++ [b]).length ≤ cq18 := (hQ9 _ _ B_qbq18).le
                have hms9 : Bf.cnt (hs2.set b (Bf.at_ hs2 y + 1)) + (ys2 ++ [b]).length = Bf.cnt hs + yt.length := by rw [List.length_append]; show _ + (ys2.length + 1) = _; omega
                have hno9 := hno2
                have hln9 : n_out = (hs2.set b (Bf.at_ hs2 y + 1)).length := by rw [List.length_set]; exact hn_out
                have hbd9 : ∀ c, c < nn → Bf.at_ (hs2.set b (Bf.at_ hs2 y + 1)) c + 1 + (Bf.cnt (hs2.set b (Bf.at_ hs2 y + 1)) : Int) ≤ nn := fun c hc => by
                    have h1 := hbd2 c hc
                    have h2 := hbd2 y hyn
                    rw [Bf.at_set (by rw [hM2.base.len]; exact hbn)]
                    split <;> omega
                have hqs9 := hqs_9_qbq18
                exact ⟨j + 1, by omega, A_out, c_out, n_out, qbq18, (hs2.set b (Bf.at_ hs2 y + 1)), (ys2 ++ [b]), offq18, cq18, oq18, En.sub hE ⟨rfl, rfl, rfl, rfl, rfl, rfl, rfl, rfl, rfl, rfl, rfl, rfl, rfl, (by first | rfl | (rw [List.length_append]; rfl)), trivial⟩, by omega, hM9, hQ9, hc9, hms9, hno9, hbd9, hqs9, B_g, B_gm, B_qbq18, z_0_qbq18, n_g_qbq18, n_gm_qbq18, hln9, O_out, Nb_out_g, Nb_out_gm, Nb_out_qbq18, Z_0_out, Z_9_out, K_0, K_9⟩
            ·
              refine c_reg R30_15_l ?_
              refine q0 p30_15_0 hE (st_lss (b := false) rfl rfl (decide_eq_false hK2)) ?_
              clear hE a; intro a hE
              refine p_nil ?_
              refine x_norm ?_
              refine wp_seq ?_
              refine c_cond (t := false) hE rfl ?_
              refine wp_exit ?_
              refine x_exit ?_
              refine x_exit ?_
              have hjn : (nbs (nn : Int) f (y : Int) nn).length = (nbN nn f y).length := by rw [nbs_nat, List.length_map]
              obtain rfl : j = (nbN nn f y).length := by omega
              have hI9 := Bf.closes (fun b hb hE => nbN_mem.2 hE) hM2
              have hms9 : k - 1 = Bf.cnt hs2 + ys2.length := by rw [hms, hms2, List.length_cons]; omega
              have hQ9 := hQ2
              have hcq9 := hc2
              have hno9 := hno2
              have hbd9 := hbd2
              have hln9 := hn_out
              refine x_in ?_
              refine x_normB ?_
              refine x_norm ?_
              exact ⟨k - 1, by omega, A_out, c_out, n_out, qb2, hs2, ys2, o2, c2, oq2, En.sub hE ⟨rfl, rfl, rfl, rfl, rfl, rfl, rfl, rfl, rfl, trivial⟩, hI9, hQ9, hcq9, hms9, hno9, (by omega), hbd9, B_g, B_gm, B_qb2, z_0_qb2, n_g_qb2, n_gm_qb2, hln9, O_out, Nb_out_g, Nb_out_gm, Nb_out_qb2, Z_0_out, K_0⟩
theorem hops_any (g gm ck nn : Nat) (es : Array MapEntry) (f : Int → Int → Option Int)  (x : Nat) (hx : x < nn) (hnn : nn ≤ 64) (w : World) (hg : w.heap[g]? = some (.cells #[.int .i64 (nn : Int), .map (some gm)] 83 (0, 0))) (hm : w.heap[gm]? = some (.map es ck)) (hF : Mp.MapF es f) (hne : g ≠ gm) : Calls Try.prog 30 #[.pointer (some ⟨g, 0, none⟩), .int .i64 (x : Int)] w fun e w' => ∃ A c h, e = .returned (.slice A nn c) ∧ nn ≤ c ∧ (Bf.Base (Ed nn f) nn x h ∧ ∀ a b, a < nn → b < nn → Ed nn f a b → 0 ≤ Bf.at_ h a → 0 ≤ Bf.at_ h b ∧ Bf.at_ h b ≤ Bf.at_ h a + 1) ∧ (∀ W', Kp w' W' (fun _ => False) → Kd.C (Kd.int .i64) W' A nn h) ∧ Kp w w' (fun _ => False) := by
  refine (hops_gen g gm ck nn es f x hx hnn w hg hm hF hne).mono ?_
  rintro e w' ⟨A, c, h, h1, h2, h3, _, _, h4, h5⟩
  exact ⟨A, c, h, h1, h2, h3, h4, h5⟩
end Go.Proofs.Ytpnpfapdjdcnbaa.Lh
