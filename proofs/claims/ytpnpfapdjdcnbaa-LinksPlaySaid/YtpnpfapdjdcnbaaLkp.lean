/- Layer 26: LinksPlay. -/
import Derived.Test.YtpnpfapdjdcnbaaLkc
import Derived.Test.YtpnpfapdjdcnbaaLkd
import Derived.Test.YtpnpfapdjdcnbaaLkk
import Derived.Test.YtpnpfapdjdcnbaaKdOpen
import Derived.LoopN
set_option maxRecDepth 100000
set_option linter.unusedVariables false
set_option linter.unusedSimpArgs false
namespace Go.Proofs.Ytpnpfapdjdcnbaa.Lp
open Go.RowKit Go.Proofs.YtpnpfapdjdcnbaaW.PrintWords Go.Proofs.Ytpnpfapdjdcnbaa.Ds Go.Proofs.Ytpnpfapdjdcnbaa.Lk Go.Proofs.Ytpnpfapdjdcnbaa.Ln Go.Proofs.Ytpnpfapdjdcnbaa.Ld Go.Proofs.Ytpnpfapdjdcnbaa.Lc Go.Proofs.Ytpnpfapdjdcnbaa.KdOpen
open Go.Proofs.Ytpnpfapdjdcnbaa.Pk (Kp)
open Go.Proofs.Ytpnpfapdjdcnbaa.Mp (x_normS x_retS x_exitS)
/-- The program's links and the document's. -/
structure RelL (nn : Nat) (f : Int → Int → Option Int) (D : Nat → Nat → Int) : Prop where
  val : ∀ p q, p < nn → q < nn → f (min (p : Int) q) (max (p : Int) q) = if 0 < D p q then some (D p q) else none
  low : ∀ p q, 0 ≤ D p q
  sym : ∀ p q, D p q = D q p
  diag : ∀ p, D p p = 0
theorem rl_nil (nn : Nat) : RelL nn (fun _ _ => none) (fun _ _ => 0) := ⟨fun _ _ _ _ => rfl, fun _ _ => Int.le_refl _, fun _ _ => rfl, fun _ => rfl⟩
theorem RelL.cost {nn : Nat} {f : Int → Int → Option Int} {D : Nat → Nat → Int} (h : RelL nn f D) {p q : Nat} (hp : p < nn) (hq : q < nn) : costP (nn : Int) f p q = if 0 < D p q then (D p q, 0) else (0, 8) := by
  unfold costP nodeB
  rw [decide_eq_true ⟨by omega, by omega⟩, decide_eq_true ⟨by omega, by omega⟩, h.val p q hp hq]
  by_cases h1 : 0 < D p q
  · rw [if_pos h1, if_pos h1]; rfl
  · rw [if_neg h1, if_neg h1]; rfl
theorem RelL.set {nn : Nat} {f : Int → Int → Option Int} {D : Nat → Nat → Int} (h : RelL nn f D) {p q : Nat} {c : Int} (hc : 0 < c) (hpq : p ≠ q) : RelL nn (Mp.setF f (min (p : Int) q) (max (p : Int) q) c) (Lm.setD (Lm.setD D p q c) q p c) := by
  refine ⟨fun a b ha hb => ?_, fun a b => ?_, fun a b => ?_, fun a => ?_⟩
  · unfold Mp.setF Lm.setD
    by_cases h1 : a = q ∧ b = p
    · rw [if_pos h1, if_pos (by omega), if_pos hc]
    · by_cases h2 : a = p ∧ b = q
      · rw [if_neg h1, if_pos h2, if_pos (by omega), if_pos hc]
      · rw [if_neg h1, if_neg h2, if_neg (by omega)]; exact h.val a b ha hb
  · unfold Lm.setD; split
    · omega
    · split
      · omega
      · exact h.low a b
  · unfold Lm.setD
    by_cases h1 : a = q ∧ b = p
    · rw [if_pos h1]; by_cases h2 : b = q ∧ a = p
      · rw [if_pos h2]
      · rw [if_neg h2, if_pos (by omega)]
    · rw [if_neg h1]
      by_cases h2 : a = p ∧ b = q
      · rw [if_pos h2, if_pos (by omega)]
      · rw [if_neg h2, if_neg (by omega), if_neg (by omega)]; exact h.sym a b
  · unfold Lm.setD; rw [if_neg (by omega), if_neg (by omega)]; exact h.diag a
theorem RelL.del {nn : Nat} {f : Int → Int → Option Int} {D : Nat → Nat → Int} (h : RelL nn f D) {p q : Nat} : RelL nn (Lm.delF f (min (p : Int) q) (max (p : Int) q)) (Lm.setD (Lm.setD D p q 0) q p 0) := by
  refine ⟨fun a b ha hb => ?_, fun a b => ?_, fun a b => ?_, fun a => ?_⟩
  · unfold Lm.delF Lm.setD
    by_cases h1 : a = q ∧ b = p
    · rw [if_pos h1, if_pos (by omega)]; rfl
    · by_cases h2 : a = p ∧ b = q
      · rw [if_neg h1, if_pos h2, if_pos (by omega)]; rfl
      · rw [if_neg h1, if_neg h2, if_neg (by omega)]; exact h.val a b ha hb
  · unfold Lm.setD; split
    · omega
    · split
      · omega
      · exact h.low a b
  · unfold Lm.setD
    by_cases h1 : a = q ∧ b = p
    · rw [if_pos h1]; by_cases h2 : b = q ∧ a = p
      · rw [if_pos h2]
      · rw [if_neg h2, if_pos (by omega)]
    · rw [if_neg h1]
      by_cases h2 : a = p ∧ b = q
      · rw [if_pos h2]
        by_cases h3 : b = q ∧ a = p
        · rw [if_pos h3]
        · rw [if_neg h3, if_pos (by omega)]
      · rw [if_neg h2, if_neg (by omega), if_neg (by omega)]; exact h.sym a b
  · unfold Lm.setD; split
    · rfl
    · split
      · rfl
      · exact h.diag a
/-- The first m links of x are cut. -/
def cutD (D : Nat → Nat → Int) (x m : Nat) : Nat → Nat → Int := fun a b => if (a = x ∧ b < m) ∨ (b = x ∧ a < m) then 0 else D a b
theorem cut_zero (D : Nat → Nat → Int) (x : Nat) : cutD D x 0 = D := by
  funext a b
  unfold cutD
  rw [if_neg (by omega)]
theorem cut_next (D : Nat → Nat → Int) (x m : Nat) : Lm.setD (Lm.setD (cutD D x m) x m 0) m x 0 = cutD D x (m + 1) := by
  funext a b
  unfold cutD Lm.setD
  by_cases h1 : a = m ∧ b = x
  · rw [if_pos h1, if_pos (by omega)]
  · by_cases h2 : a = x ∧ b = m
    · rw [if_neg h1, if_pos h2, if_pos (by omega)]
    · rw [if_neg h1, if_neg h2]
      show (if (a = x ∧ b < m) ∨ (b = x ∧ a < m) then 0 else D a b) = _
      by_cases h3 : (a = x ∧ b < m) ∨ (b = x ∧ a < m)
      · rw [if_pos h3, if_pos (by omega)]
      · rw [if_neg h3, if_neg (by omega)]
theorem cut_read (D : Nat → Nat → Int) (x m : Nat) : cutD D x m x m = D x m := by
  unfold cutD
  rw [if_neg (by omega)]
def nD (D : Nat → Nat → Int) (x m : Nat) : List Int := ((List.range m).filter fun j => decide (0 < D x j)).map fun (j : Nat) => (j : Int)
theorem nD_next (D : Nat → Nat → Int) (x m : Nat) : nD D x (m + 1) = nD D x m ++ (if 0 < D x m then [(m : Int)] else []) := by
  unfold nD
  rw [List.range_succ, List.filter_append, List.map_append]
  congr 1
  by_cases h : 0 < D x m
  · simp [h]
  · simp [h]
theorem nD_len (D : Nat → Nat → Int) (x m : Nat) : (nD D x m).length ≤ m := by
  unfold nD
  rw [List.length_map]
  exact Nat.le_trans (List.length_filter_le _ _) (by simp)
theorem RelL.nbs {nn : Nat} {f : Int → Int → Option Int} {D : Nat → Nat → Int} (h : RelL nn f D) {p : Nat} (hp : p < nn) : nbs (nn : Int) f p nn = nD D p nn := by
  unfold Ln.nbs nD
  congr 1
  refine List.filter_congr fun j hj => ?_
  rw [List.mem_range] at hj
  rw [h.cost hp hj]
  by_cases h1 : 0 < D p j
  · rw [if_pos h1, decide_eq_true h1]; rfl
  · rw [if_neg h1, decide_eq_false h1]; rfl
theorem RelL.cutAll {nn : Nat} {f : Int → Int → Option Int} {D : Nat → Nat → Int} (h : RelL nn f D) {x : Nat} (hx : x < nn) : RelL nn (delR f x (Ln.nbs (nn : Int) f x nn)) (cutD D x nn) := by
  refine ⟨fun a b ha hb => ?_, fun a b => ?_, fun a b => ?_, fun a => ?_⟩
  · rw [delR_get, h.nbs hx]
    unfold cutD
    have hv := h.val a b ha hb
    by_cases h1 : (a = x ∧ b < nn) ∨ (b = x ∧ a < nn)
    · rw [if_pos h1]
      split
      · rfl
      · rename_i hno
        rw [hv, if_neg (fun hp => hno ?_)]
        · rfl
        · rcases h1 with ⟨rfl, _⟩ | ⟨rfl, _⟩
          · exact ⟨(b : Int), by unfold nD; exact List.mem_map.2 ⟨b, List.mem_filter.2 ⟨List.mem_range.2 hb, decide_eq_true hp⟩, rfl⟩, rfl, rfl⟩
          · exact ⟨(a : Int), by unfold nD; exact List.mem_map.2 ⟨a, List.mem_filter.2 ⟨List.mem_range.2 ha, decide_eq_true (by rw [h.sym]; exact hp)⟩, rfl⟩, by omega, by omega⟩
    · rw [if_neg h1, if_neg]
      · exact hv
      · rintro ⟨y, hy, e1, e2⟩
        unfold nD at hy
        obtain ⟨j, hj, rfl⟩ := List.mem_map.1 hy
        have hj2 := List.mem_range.1 (List.mem_filter.1 hj).1
        omega
  · unfold cutD; split
    · exact Int.le_refl _
    · exact h.low a b
  · unfold cutD
    by_cases h1 : (a = x ∧ b < nn) ∨ (b = x ∧ a < nn)
    · rw [if_pos h1, if_pos (by omega)]
    · rw [if_neg h1, if_neg (by omega)]; exact h.sym a b
  · unfold cutD; split
    · rfl
    · exact h.diag a
theorem RelL.ed {nn : Nat} {f : Int → Int → Option Int} {D : Nat → Nat → Int} (h : RelL nn f D) {a b : Nat} (ha : a < nn) : Lh.Ed nn f a b ↔ Ed2 nn D a b := by
  unfold Lh.Ed Ed2
  constructor
  · rintro ⟨hb, h1⟩
    rw [h.cost ha hb] at h1
    refine ⟨hb, ?_⟩
    by_cases h2 : 0 < D a b
    · exact h2
    · rw [if_neg h2] at h1; cases h1
  · rintro ⟨hb, h1⟩
    exact ⟨hb, by rw [h.cost ha hb, if_pos h1]⟩
theorem both_open {nn : Nat} {x y : Int} (h : bothB (nn : Int) x y = true) : ∃ p q : Nat, x = (p : Int) ∧ y = (q : Int) ∧ p < nn ∧ q < nn ∧ p ≠ q := by
  unfold bothB nodeB at h
  rw [Bool.and_eq_true, Bool.and_eq_true] at h
  have h1 := of_decide_eq_true h.1.1
  have h2 := of_decide_eq_true h.1.2
  have h3 := of_decide_eq_true h.2
  exact ⟨x.toNat, y.toNat, by omega, by omega, by omega, by omega, by omega⟩
theorem node_open {nn : Nat} {x : Int} (h : nodeB (nn : Int) x = true) : ∃ p : Nat, x = (p : Int) ∧ p < nn := by
  have h1 := of_decide_eq_true h
  exact ⟨x.toNat, by omega, by omega⟩
theorem R34_2_l : List.range (regOf Try.f34 2).size = [0, 1, 2, 3] := by kernel_rfl
theorem R34_3_l : List.range (regOf Try.f34 3).size = [0, 1] := by kernel_rfl
theorem R34_4_l : List.range (regOf Try.f34 4).size = [0, 1, 2, 3, 4, 5, 6, 7, 8] := by kernel_rfl
theorem R34_5_l : List.range (regOf Try.f34 5).size = [0, 1, 2, 3, 4, 5, 6, 7, 8, 9, 10, 11] := by kernel_rfl
theorem R34_6_l : List.range (regOf Try.f34 6).size = [0, 1, 2] := by kernel_rfl
theorem R34_7_l : List.range (regOf Try.f34 7).size = [0, 1, 2, 3, 4, 5, 6, 7] := by kernel_rfl
theorem R34_8_l : List.range (regOf Try.f34 8).size = [0, 1, 2] := by kernel_rfl
theorem R34_9_l : List.range (regOf Try.f34 9).size = [0, 1] := by kernel_rfl
theorem R34_10_l : List.range (regOf Try.f34 10).size = [0, 1, 2, 3, 4, 5, 6, 7, 8] := by kernel_rfl
theorem R34_11_l : List.range (regOf Try.f34 11).size = [0, 1, 2, 3, 4, 5, 6, 7] := by kernel_rfl
theorem R34_12_l : List.range (regOf Try.f34 12).size = [0, 1, 2] := by kernel_rfl
theorem R34_13_l : List.range (regOf Try.f34 13).size = [0, 1, 2, 3] := by kernel_rfl
theorem R34_14_l : List.range (regOf Try.f34 14).size = [0, 1] := by kernel_rfl
theorem R34_15_l : List.range (regOf Try.f34 15).size = [0] := by kernel_rfl
theorem R34_16_l : List.range (regOf Try.f34 16).size = [0, 1, 2, 3, 4, 5, 6] := by kernel_rfl
theorem R34_17_l : List.range (regOf Try.f34 17).size = [0, 1, 2] := by kernel_rfl
theorem R34_18_l : List.range (regOf Try.f34 18).size = [0, 1] := by kernel_rfl
theorem R34_19_l : List.range (regOf Try.f34 19).size = [0, 1, 2, 3, 4, 5, 6, 7, 8, 9, 10, 11] := by kernel_rfl
theorem R34_20_l : List.range (regOf Try.f34 20).size = [0, 1, 2, 3, 4, 5, 6, 7, 8, 9, 10, 11] := by kernel_rfl
theorem R34_21_l : List.range (regOf Try.f34 21).size = [0, 1, 2, 3, 4, 5, 6] := by kernel_rfl
theorem R34_22_l : List.range (regOf Try.f34 22).size = [0] := by kernel_rfl
theorem R34_23_l : List.range (regOf Try.f34 23).size = [0, 1, 2, 3, 4, 5, 6, 7, 8, 9, 10] := by kernel_rfl
theorem R34_24_l : List.range (regOf Try.f34 24).size = [0] := by kernel_rfl
theorem R34_25_l : List.range (regOf Try.f34 25).size = [0, 1, 2, 3, 4, 5] := by kernel_rfl
theorem R34_26_l : List.range (regOf Try.f34 26).size = [0, 1, 2, 3, 4, 5, 6, 7] := by kernel_rfl
theorem R34_27_l : List.range (regOf Try.f34 27).size = [0, 1] := by kernel_rfl
theorem R34_28_l : List.range (regOf Try.f34 28).size = [0, 1, 2, 3, 4, 5, 6, 7, 8] := by kernel_rfl
theorem R34_29_l : List.range (regOf Try.f34 29).size = [0, 1, 2, 3, 4] := by kernel_rfl
theorem R34_30_l : List.range (regOf Try.f34 30).size = [0, 1, 2, 3, 4, 5, 6] := by kernel_rfl
theorem R34_31_l : List.range (regOf Try.f34 31).size = [0] := by kernel_rfl
theorem R34_32_l : List.range (regOf Try.f34 32).size = [0] := by kernel_rfl
theorem R34_33_l : List.range (regOf Try.f34 33).size = [0, 1, 2, 3, 4, 5] := by kernel_rfl
theorem R34_35_l : List.range (regOf Try.f34 35).size = [0, 1, 2, 3, 4, 5, 6, 7, 8, 9] := by kernel_rfl
theorem R34_36_l : List.range (regOf Try.f34 36).size = [0, 1, 2] := by kernel_rfl
theorem R34_37_l : List.range (regOf Try.f34 37).size = [0, 1, 2, 3, 4] := by kernel_rfl
theorem R34_34_l : List.range (regOf Try.f34 34).size = [0, 1, 2] := by kernel_rfl
theorem R34_38_l : List.range (regOf Try.f34 38).size = [0, 1, 2, 3, 4, 5, 6, 7] := by kernel_rfl
theorem R34_39_l : List.range (regOf Try.f34 39).size = [0] := by kernel_rfl
theorem p34_2_0 : pj (regOf Try.f34 2) 0 = some (some 35, .fieldAddr 61 (.tmp 5) 0, 0, none) := by kernel_rfl
theorem tS3 : (Try.prog.info? 3).map (·.size) = some 1 := by kernel_rfl
theorem p34_2_1 : pj (regOf Try.f34 2) 1 = some (some 36, .load 3 (.tmp 35), 3, none) := by kernel_rfl
theorem tA3 : (Try.prog.underlying 3).map aggD = some false := by kernel_rfl
theorem p34_2_2 : pj (regOf Try.f34 2) 2 = some (some 37, .convert 3 44 (.tmp 36), 44, none) := by kernel_rfl
theorem p34_2_3 : pj (regOf Try.f34 2) 3 = some (some 38, .binOp .rem 44 (.tmp 37) (.const (.int .u64 5)) 44, 44, none) := by kernel_rfl
theorem p34_3_0 : pj (regOf Try.f34 3) 0 = some (some 40, .binOp .eql 44 (.tmp 38) (.const (.int .u64 0)) 44, 4, none) := by kernel_rfl
theorem p34_3_1 : pj (regOf Try.f34 3) 1 = some (some 39, .assign (.tmp 40), 4, none) := by kernel_rfl
theorem p34_4_0 : pj (regOf Try.f34 4) 0 = some (some 41, .move (.tmp 0), 56, none) := by kernel_rfl
theorem p34_4_1 : pj (regOf Try.f34 4) 1 = some (some 42, .fieldAddr 61 (.tmp 5) 1, 0, none) := by kernel_rfl
theorem p34_4_2 : pj (regOf Try.f34 4) 2 = some (some 43, .load 3 (.tmp 42), 3, none) := by kernel_rfl
theorem p34_4_3 : pj (regOf Try.f34 4) 3 = some (some 44, .fieldAddr 61 (.tmp 5) 2, 0, none) := by kernel_rfl
theorem p34_4_4 : pj (regOf Try.f34 4) 4 = some (some 45, .load 3 (.tmp 44), 3, none) := by kernel_rfl
theorem p34_4_5 : pj (regOf Try.f34 4) 5 = some (some 46, .fieldAddr 61 (.tmp 5) 3, 0, none) := by kernel_rfl
theorem p34_4_6 : pj (regOf Try.f34 4) 6 = some (some 47, .load 3 (.tmp 46), 3, none) := by kernel_rfl
theorem p34_4_7 : pj (regOf Try.f34 4) 7 = some (some 48, .call { callee := .value (.func 29), args := #[.tmp 41, .tmp 43, .tmp 45, .tmp 47], argTypes := #[56, 3, 3, 3] }, 23, none) := by kernel_rfl
theorem cl29 : callable Try.f29 = true := by kernel_rfl
theorem p34_4_8 : pj (regOf Try.f34 4) 8 = some (some 8, .assign (.tmp 48), 23, none) := by kernel_rfl
theorem p34_5_0 : pj (regOf Try.f34 5) 0 = some (some 49, .move (.tmp 7), 4, none) := by kernel_rfl
theorem p34_5_1 : pj (regOf Try.f34 5) 1 = some (some 50, .unOp .not 4 (.tmp 49), 4, none) := by kernel_rfl
theorem p34_5_2 : pj (regOf Try.f34 5) 2 = some (some 51, .move (.tmp 50), 4, none) := by kernel_rfl
theorem p34_5_3 : pj (regOf Try.f34 5) 3 = some (some 52, .fieldAddr 61 (.tmp 5) 3, 0, some (2, false)) := by kernel_rfl
theorem g34_5_2 : dstOf (regOf Try.f34 5) 2 = some 51 := by kernel_rfl
theorem p34_5_4 : pj (regOf Try.f34 5) 4 = some (some 53, .load 3 (.tmp 52), 3, some (2, false)) := by kernel_rfl
theorem p34_5_5 : pj (regOf Try.f34 5) 5 = some (some 54, .binOp .lss 3 (.tmp 53) (.const (.int .i64 128)) 3, 4, some (2, false)) := by kernel_rfl
theorem p34_5_6 : pj (regOf Try.f34 5) 6 = some (some 55, .pick (.tmp 51) (.const (.bool true)) (.tmp 54), 4, none) := by kernel_rfl
theorem p34_5_7 : pj (regOf Try.f34 5) 7 = some (some 56, .move (.tmp 55), 4, none) := by kernel_rfl
theorem p34_5_8 : pj (regOf Try.f34 5) 8 = some (some 57, .fieldAddr 61 (.tmp 5) 3, 0, some (7, false)) := by kernel_rfl
theorem g34_5_7 : dstOf (regOf Try.f34 5) 7 = some 56 := by kernel_rfl
theorem p34_5_9 : pj (regOf Try.f34 5) 9 = some (some 58, .load 3 (.tmp 57), 3, some (7, false)) := by kernel_rfl
theorem p34_5_10 : pj (regOf Try.f34 5) 10 = some (some 59, .binOp .gtr 3 (.tmp 58) (.const (.int .i64 65534)) 3, 4, some (7, false)) := by kernel_rfl
theorem p34_5_11 : pj (regOf Try.f34 5) 11 = some (some 60, .pick (.tmp 56) (.const (.bool true)) (.tmp 59), 4, none) := by kernel_rfl
theorem p34_6_0 : pj (regOf Try.f34 6) 0 = some (some 61, .move (.tmp 8), 23, none) := by kernel_rfl
theorem p34_6_1 : pj (regOf Try.f34 6) 1 = some (some 62, .binOp .eql 23 (.tmp 61) (.const (.int .i64 1)) 23, 4, none) := by kernel_rfl
theorem p34_6_2 : pj (regOf Try.f34 6) 2 = some (some 6, .assign (.tmp 62), 4, none) := by kernel_rfl
theorem p34_7_0 : pj (regOf Try.f34 7) 0 = some (some 63, .move (.tmp 1), 67, none) := by kernel_rfl
theorem p34_7_1 : pj (regOf Try.f34 7) 1 = some (some 64, .fieldAddr 61 (.tmp 5) 1, 0, none) := by kernel_rfl
theorem p34_7_2 : pj (regOf Try.f34 7) 2 = some (some 65, .load 3 (.tmp 64), 3, none) := by kernel_rfl
theorem p34_7_3 : pj (regOf Try.f34 7) 3 = some (some 66, .fieldAddr 61 (.tmp 5) 2, 0, none) := by kernel_rfl
theorem p34_7_4 : pj (regOf Try.f34 7) 4 = some (some 67, .load 3 (.tmp 66), 3, none) := by kernel_rfl
theorem p34_7_5 : pj (regOf Try.f34 7) 5 = some (some 68, .fieldAddr 61 (.tmp 5) 3, 0, none) := by kernel_rfl
theorem p34_7_6 : pj (regOf Try.f34 7) 6 = some (some 69, .load 3 (.tmp 68), 3, none) := by kernel_rfl
theorem p34_7_7 : pj (regOf Try.f34 7) 7 = some (some 70, .call { callee := .value (.func 56), args := #[.tmp 63, .tmp 65, .tmp 67, .tmp 69], argTypes := #[67, 3, 3, 3] }, 0, none) := by kernel_rfl
theorem cl56 : callable Try.f56 = true := by kernel_rfl
theorem p34_8_0 : pj (regOf Try.f34 8) 0 = some (some 71, .move (.tmp 8), 23, none) := by kernel_rfl
theorem p34_8_1 : pj (regOf Try.f34 8) 1 = some (some 72, .binOp .eql 23 (.tmp 71) (.const (.int .i64 0)) 23, 4, none) := by kernel_rfl
theorem p34_8_2 : pj (regOf Try.f34 8) 2 = some (some 6, .assign (.tmp 72), 4, none) := by kernel_rfl
theorem p34_9_0 : pj (regOf Try.f34 9) 0 = some (some 74, .binOp .eql 44 (.tmp 38) (.const (.int .u64 1)) 44, 4, none) := by kernel_rfl
theorem p34_9_1 : pj (regOf Try.f34 9) 1 = some (some 73, .assign (.tmp 74), 4, none) := by kernel_rfl
theorem p34_10_0 : pj (regOf Try.f34 10) 0 = some (some 75, .move (.tmp 0), 56, none) := by kernel_rfl
theorem p34_10_1 : pj (regOf Try.f34 10) 1 = some (some 76, .fieldAddr 61 (.tmp 5) 1, 0, none) := by kernel_rfl
theorem p34_10_2 : pj (regOf Try.f34 10) 2 = some (some 77, .load 3 (.tmp 76), 3, none) := by kernel_rfl
theorem p34_10_3 : pj (regOf Try.f34 10) 3 = some (some 78, .fieldAddr 61 (.tmp 5) 2, 0, none) := by kernel_rfl
theorem p34_10_4 : pj (regOf Try.f34 10) 4 = some (some 79, .load 3 (.tmp 78), 3, none) := by kernel_rfl
theorem p34_10_5 : pj (regOf Try.f34 10) 5 = some (some 80, .fieldAddr 61 (.tmp 5) 4, 0, none) := by kernel_rfl
theorem tS22 : (Try.prog.info? 22).map (·.size) = some 1 := by kernel_rfl
theorem p34_10_6 : pj (regOf Try.f34 10) 6 = some (some 81, .load 22 (.tmp 80), 22, none) := by kernel_rfl
theorem tA22 : (Try.prog.underlying 22).map aggD = some false := by kernel_rfl
theorem p34_10_7 : pj (regOf Try.f34 10) 7 = some (some 82, .call { callee := .value (.func 57), args := #[.tmp 75, .tmp 77, .tmp 79, .tmp 81], argTypes := #[56, 3, 3, 22] }, 23, none) := by kernel_rfl
theorem cl57 : callable Try.f57 = true := by kernel_rfl
theorem p34_10_8 : pj (regOf Try.f34 10) 8 = some (some 9, .assign (.tmp 82), 23, none) := by kernel_rfl
theorem p34_11_0 : pj (regOf Try.f34 11) 0 = some (some 83, .move (.tmp 7), 4, none) := by kernel_rfl
theorem p34_11_1 : pj (regOf Try.f34 11) 1 = some (some 84, .unOp .not 4 (.tmp 83), 4, none) := by kernel_rfl
theorem p34_11_2 : pj (regOf Try.f34 11) 2 = some (some 85, .move (.tmp 84), 4, none) := by kernel_rfl
theorem p34_11_3 : pj (regOf Try.f34 11) 3 = some (some 86, .fieldAddr 61 (.tmp 5) 4, 0, some (2, false)) := by kernel_rfl
theorem g34_11_2 : dstOf (regOf Try.f34 11) 2 = some 85 := by kernel_rfl
theorem p34_11_4 : pj (regOf Try.f34 11) 4 = some (some 87, .load 22 (.tmp 86), 22, some (2, false)) := by kernel_rfl
theorem p34_11_5 : pj (regOf Try.f34 11) 5 = some (some 88, .call { callee := .value (.func 14), args := #[.tmp 87], argTypes := #[22] }, 4, some (2, false)) := by kernel_rfl
theorem cl14 : callable Try.f14 = true := by kernel_rfl
theorem p34_11_6 : pj (regOf Try.f34 11) 6 = some (some 89, .unOp .not 4 (.tmp 88), 4, some (2, false)) := by kernel_rfl
theorem p34_11_7 : pj (regOf Try.f34 11) 7 = some (some 90, .pick (.tmp 85) (.const (.bool true)) (.tmp 89), 4, none) := by kernel_rfl
theorem p34_13_0 : pj (regOf Try.f34 13) 0 = some (some 93, .fieldAddr 61 (.tmp 5) 4, 0, none) := by kernel_rfl
theorem p34_13_1 : pj (regOf Try.f34 13) 1 = some (some 94, .load 22 (.tmp 93), 22, none) := by kernel_rfl
theorem p34_13_2 : pj (regOf Try.f34 13) 2 = some (some 95, .call { callee := .value (.func 15), args := #[.tmp 94], argTypes := #[22] }, 3, none) := by kernel_rfl
theorem cl15 : callable Try.f15 = true := by kernel_rfl
theorem p34_13_3 : pj (regOf Try.f34 13) 3 = some (some 10, .assign (.tmp 95), 3, none) := by kernel_rfl
theorem p34_14_0 : pj (regOf Try.f34 14) 0 = some (some 96, .move (.tmp 10), 3, none) := by kernel_rfl
theorem p34_14_1 : pj (regOf Try.f34 14) 1 = some (some 97, .binOp .eql 3 (.tmp 96) (.const (.int .i64 65535)) 3, 4, none) := by kernel_rfl
theorem p34_15_0 : pj (regOf Try.f34 15) 0 = some (some 10, .assign (.const (.int .i64 0)), 3, none) := by kernel_rfl
theorem p34_16_0 : pj (regOf Try.f34 16) 0 = some (some 98, .move (.tmp 1), 67, none) := by kernel_rfl
theorem p34_16_1 : pj (regOf Try.f34 16) 1 = some (some 99, .fieldAddr 61 (.tmp 5) 1, 0, none) := by kernel_rfl
theorem p34_16_2 : pj (regOf Try.f34 16) 2 = some (some 100, .load 3 (.tmp 99), 3, none) := by kernel_rfl
theorem p34_16_3 : pj (regOf Try.f34 16) 3 = some (some 101, .fieldAddr 61 (.tmp 5) 2, 0, none) := by kernel_rfl
theorem p34_16_4 : pj (regOf Try.f34 16) 4 = some (some 102, .load 3 (.tmp 101), 3, none) := by kernel_rfl
theorem p34_16_5 : pj (regOf Try.f34 16) 5 = some (some 103, .move (.tmp 10), 3, none) := by kernel_rfl
theorem p34_16_6 : pj (regOf Try.f34 16) 6 = some (some 104, .call { callee := .value (.func 56), args := #[.tmp 98, .tmp 100, .tmp 102, .tmp 103], argTypes := #[67, 3, 3, 3] }, 0, none) := by kernel_rfl
theorem p34_17_0 : pj (regOf Try.f34 17) 0 = some (some 105, .move (.tmp 9), 23, none) := by kernel_rfl
theorem p34_17_1 : pj (regOf Try.f34 17) 1 = some (some 106, .binOp .eql 23 (.tmp 105) (.const (.int .i64 0)) 23, 4, none) := by kernel_rfl
theorem p34_17_2 : pj (regOf Try.f34 17) 2 = some (some 6, .assign (.tmp 106), 4, none) := by kernel_rfl
theorem p34_12_0 : pj (regOf Try.f34 12) 0 = some (some 91, .move (.tmp 9), 23, none) := by kernel_rfl
theorem p34_12_1 : pj (regOf Try.f34 12) 1 = some (some 92, .binOp .eql 23 (.tmp 91) (.const (.int .i64 1)) 23, 4, none) := by kernel_rfl
theorem p34_12_2 : pj (regOf Try.f34 12) 2 = some (some 6, .assign (.tmp 92), 4, none) := by kernel_rfl
theorem p34_18_0 : pj (regOf Try.f34 18) 0 = some (some 108, .binOp .eql 44 (.tmp 38) (.const (.int .u64 2)) 44, 4, none) := by kernel_rfl
theorem p34_18_1 : pj (regOf Try.f34 18) 1 = some (some 107, .assign (.tmp 108), 4, none) := by kernel_rfl
theorem p34_19_0 : pj (regOf Try.f34 19) 0 = some (some 110, .move (.tmp 0), 56, none) := by kernel_rfl
theorem p34_19_1 : pj (regOf Try.f34 19) 1 = some (some 111, .fieldAddr 61 (.tmp 5) 1, 0, none) := by kernel_rfl
theorem p34_19_2 : pj (regOf Try.f34 19) 2 = some (some 112, .load 3 (.tmp 111), 3, none) := by kernel_rfl
theorem p34_19_3 : pj (regOf Try.f34 19) 3 = some (some 113, .fieldAddr 61 (.tmp 5) 2, 0, none) := by kernel_rfl
theorem p34_19_4 : pj (regOf Try.f34 19) 4 = some (some 114, .load 3 (.tmp 113), 3, none) := by kernel_rfl
theorem p34_19_5 : pj (regOf Try.f34 19) 5 = some (some 115, .buildSlice 52 1 #[(0, .tmp 114)], 52, none) := by kernel_rfl
theorem p34_19_6 : pj (regOf Try.f34 19) 6 = some (some 116, .call { callee := .value (.func 36), args := #[.tmp 110, .tmp 112, .tmp 115], argTypes := #[56, 3, 52] }, 24, none) := by kernel_rfl
theorem cl36 : callable Try.f36 = true := by kernel_rfl
theorem p34_19_7 : pj (regOf Try.f34 19) 7 = some (some 109, .move (.tmp 116), 24, none) := by kernel_rfl
theorem p34_19_8 : pj (regOf Try.f34 19) 8 = some (some 117, .extract (.tmp 109) 0, 3, none) := by kernel_rfl
theorem p34_19_9 : pj (regOf Try.f34 19) 9 = some (some 118, .extract (.tmp 109) 1, 23, none) := by kernel_rfl
theorem p34_19_10 : pj (regOf Try.f34 19) 10 = some (some 11, .assign (.tmp 117), 3, none) := by kernel_rfl
theorem p34_19_11 : pj (regOf Try.f34 19) 11 = some (some 12, .assign (.tmp 118), 23, none) := by kernel_rfl
theorem p34_20_0 : pj (regOf Try.f34 20) 0 = some (some 119, .move (.tmp 1), 67, none) := by kernel_rfl
theorem p34_20_1 : pj (regOf Try.f34 20) 1 = some (some 120, .fieldAddr 61 (.tmp 5) 1, 0, none) := by kernel_rfl
theorem p34_20_2 : pj (regOf Try.f34 20) 2 = some (some 121, .load 3 (.tmp 120), 3, none) := by kernel_rfl
theorem p34_20_3 : pj (regOf Try.f34 20) 3 = some (some 122, .call { callee := .value (.func 38), args := #[.tmp 119, .tmp 121], argTypes := #[67, 3] }, 4, none) := by kernel_rfl
theorem cl38 : callable Try.f38 = true := by kernel_rfl
theorem p34_20_4 : pj (regOf Try.f34 20) 4 = some (some 123, .unOp .not 4 (.tmp 122), 4, none) := by kernel_rfl
theorem p34_20_5 : pj (regOf Try.f34 20) 5 = some (some 124, .move (.tmp 123), 4, none) := by kernel_rfl
theorem p34_20_6 : pj (regOf Try.f34 20) 6 = some (some 125, .move (.tmp 1), 67, some (5, false)) := by kernel_rfl
theorem g34_20_5 : dstOf (regOf Try.f34 20) 5 = some 124 := by kernel_rfl
theorem p34_20_7 : pj (regOf Try.f34 20) 7 = some (some 126, .fieldAddr 61 (.tmp 5) 2, 0, some (5, false)) := by kernel_rfl
theorem p34_20_8 : pj (regOf Try.f34 20) 8 = some (some 127, .load 3 (.tmp 126), 3, some (5, false)) := by kernel_rfl
theorem p34_20_9 : pj (regOf Try.f34 20) 9 = some (some 128, .call { callee := .value (.func 38), args := #[.tmp 125, .tmp 127], argTypes := #[67, 3] }, 4, some (5, false)) := by kernel_rfl
theorem p34_20_10 : pj (regOf Try.f34 20) 10 = some (some 129, .unOp .not 4 (.tmp 128), 4, some (5, false)) := by kernel_rfl
theorem p34_20_11 : pj (regOf Try.f34 20) 11 = some (some 130, .pick (.tmp 124) (.const (.bool true)) (.tmp 129), 4, none) := by kernel_rfl
theorem p34_22_0 : pj (regOf Try.f34 22) 0 = some (some 13, .assign (.const (.int .i64 0)), 3, none) := by kernel_rfl
theorem ns34_23 : Region.noSelect (regOf Try.f34 23) = true := by kernel_rfl
theorem p34_23_0 : pj (regOf Try.f34 23) 0 = some (some 137, .move (.tmp 1), 67, none) := by kernel_rfl
theorem p34_23_1 : pj (regOf Try.f34 23) 1 = some (some 138, .fieldAddr 61 (.tmp 5) 1, 0, none) := by kernel_rfl
theorem p34_23_2 : pj (regOf Try.f34 23) 2 = some (some 139, .load 3 (.tmp 138), 3, none) := by kernel_rfl
theorem p34_23_3 : pj (regOf Try.f34 23) 3 = some (some 140, .fieldAddr 61 (.tmp 5) 2, 0, none) := by kernel_rfl
theorem p34_23_4 : pj (regOf Try.f34 23) 4 = some (some 141, .load 3 (.tmp 140), 3, none) := by kernel_rfl
theorem p34_23_5 : pj (regOf Try.f34 23) 5 = some (some 142, .nilCheck (.tmp 137), 0, none) := by kernel_rfl
theorem p34_23_6 : pj (regOf Try.f34 23) 6 = some (some 143, .fieldAddr 71 (.tmp 142) 1, 0, none) := by kernel_rfl
theorem tS69 : (Try.prog.info? 69).map (·.size) = some 4096 := by kernel_rfl
theorem p34_23_7 : pj (regOf Try.f34 23) 7 = some (some 144, .indexAddr 69 (.tmp 143) (.tmp 139), 0, none) := by kernel_rfl
theorem tS68 : (Try.prog.info? 68).map (·.size) = some 64 := by kernel_rfl
theorem p34_23_8 : pj (regOf Try.f34 23) 8 = some (some 145, .indexAddr 68 (.tmp 144) (.tmp 141), 0, none) := by kernel_rfl
theorem p34_23_9 : pj (regOf Try.f34 23) 9 = some (some 146, .load 3 (.tmp 145), 3, none) := by kernel_rfl
theorem p34_23_10 : pj (regOf Try.f34 23) 10 = some (some 147, .binOp .gtr 3 (.tmp 146) (.const (.int .i64 0)) 3, 4, none) := by kernel_rfl
theorem p34_24_0 : pj (regOf Try.f34 24) 0 = some (some 13, .assign (.const (.int .i64 1)), 3, none) := by kernel_rfl
theorem p34_25_0 : pj (regOf Try.f34 25) 0 = some (some 148, .move (.tmp 1), 67, none) := by kernel_rfl
theorem p34_25_1 : pj (regOf Try.f34 25) 1 = some (some 149, .fieldAddr 61 (.tmp 5) 1, 0, none) := by kernel_rfl
theorem p34_25_2 : pj (regOf Try.f34 25) 2 = some (some 150, .load 3 (.tmp 149), 3, none) := by kernel_rfl
theorem p34_25_3 : pj (regOf Try.f34 25) 3 = some (some 151, .fieldAddr 61 (.tmp 5) 2, 0, none) := by kernel_rfl
theorem p34_25_4 : pj (regOf Try.f34 25) 4 = some (some 152, .load 3 (.tmp 151), 3, none) := by kernel_rfl
theorem p34_25_5 : pj (regOf Try.f34 25) 5 = some (some 153, .call { callee := .value (.func 56), args := #[.tmp 148, .tmp 150, .tmp 152, .const (.int .i64 0)], argTypes := #[67, 3, 3, 3] }, 0, none) := by kernel_rfl
theorem p34_26_0 : pj (regOf Try.f34 26) 0 = some (some 154, .move (.tmp 12), 23, none) := by kernel_rfl
theorem p34_26_1 : pj (regOf Try.f34 26) 1 = some (some 155, .binOp .eql 23 (.tmp 154) (.const (.int .i64 0)) 23, 4, none) := by kernel_rfl
theorem p34_26_2 : pj (regOf Try.f34 26) 2 = some (some 156, .move (.tmp 155), 4, none) := by kernel_rfl
theorem p34_26_3 : pj (regOf Try.f34 26) 3 = some (some 157, .move (.tmp 11), 3, some (2, true)) := by kernel_rfl
theorem g34_26_2 : dstOf (regOf Try.f34 26) 2 = some 156 := by kernel_rfl
theorem p34_26_4 : pj (regOf Try.f34 26) 4 = some (some 158, .move (.tmp 13), 3, some (2, true)) := by kernel_rfl
theorem p34_26_5 : pj (regOf Try.f34 26) 5 = some (some 159, .binOp .eql 3 (.tmp 157) (.tmp 158) 3, 4, some (2, true)) := by kernel_rfl
theorem p34_26_6 : pj (regOf Try.f34 26) 6 = some (some 160, .pick (.tmp 156) (.tmp 159) (.const (.bool false)), 4, none) := by kernel_rfl
theorem p34_26_7 : pj (regOf Try.f34 26) 7 = some (some 6, .assign (.tmp 160), 4, none) := by kernel_rfl
theorem p34_21_0 : pj (regOf Try.f34 21) 0 = some (some 131, .move (.tmp 12), 23, none) := by kernel_rfl
theorem p34_21_1 : pj (regOf Try.f34 21) 1 = some (some 132, .binOp .eql 23 (.tmp 131) (.const (.int .i64 1)) 23, 4, none) := by kernel_rfl
theorem p34_21_2 : pj (regOf Try.f34 21) 2 = some (some 133, .move (.tmp 132), 4, none) := by kernel_rfl
theorem p34_21_3 : pj (regOf Try.f34 21) 3 = some (some 134, .move (.tmp 11), 3, some (2, true)) := by kernel_rfl
theorem g34_21_2 : dstOf (regOf Try.f34 21) 2 = some 133 := by kernel_rfl
theorem p34_21_4 : pj (regOf Try.f34 21) 4 = some (some 135, .binOp .eql 3 (.tmp 134) (.const (.int .i64 0)) 3, 4, some (2, true)) := by kernel_rfl
theorem p34_21_5 : pj (regOf Try.f34 21) 5 = some (some 136, .pick (.tmp 133) (.tmp 135) (.const (.bool false)), 4, none) := by kernel_rfl
theorem p34_21_6 : pj (regOf Try.f34 21) 6 = some (some 6, .assign (.tmp 136), 4, none) := by kernel_rfl
theorem p34_27_0 : pj (regOf Try.f34 27) 0 = some (some 162, .binOp .eql 44 (.tmp 38) (.const (.int .u64 3)) 44, 4, none) := by kernel_rfl
theorem p34_27_1 : pj (regOf Try.f34 27) 1 = some (some 161, .assign (.tmp 162), 4, none) := by kernel_rfl
theorem p34_28_0 : pj (regOf Try.f34 28) 0 = some (some 164, .move (.tmp 0), 56, none) := by kernel_rfl
theorem p34_28_1 : pj (regOf Try.f34 28) 1 = some (some 165, .fieldAddr 61 (.tmp 5) 1, 0, none) := by kernel_rfl
theorem p34_28_2 : pj (regOf Try.f34 28) 2 = some (some 166, .load 3 (.tmp 165), 3, none) := by kernel_rfl
theorem p34_28_3 : pj (regOf Try.f34 28) 3 = some (some 167, .call { callee := .value (.func 36), args := #[.tmp 164, .tmp 166, .const (.slice none 0 0)], argTypes := #[56, 3, 52] }, 24, none) := by kernel_rfl
theorem p34_28_4 : pj (regOf Try.f34 28) 4 = some (some 163, .move (.tmp 167), 24, none) := by kernel_rfl
theorem p34_28_5 : pj (regOf Try.f34 28) 5 = some (some 168, .extract (.tmp 163) 0, 3, none) := by kernel_rfl
theorem p34_28_6 : pj (regOf Try.f34 28) 6 = some (some 169, .extract (.tmp 163) 1, 23, none) := by kernel_rfl
theorem p34_28_7 : pj (regOf Try.f34 28) 7 = some (some 14, .assign (.tmp 168), 3, none) := by kernel_rfl
theorem p34_28_8 : pj (regOf Try.f34 28) 8 = some (some 15, .assign (.tmp 169), 23, none) := by kernel_rfl
theorem p34_29_0 : pj (regOf Try.f34 29) 0 = some (some 170, .move (.tmp 1), 67, none) := by kernel_rfl
theorem p34_29_1 : pj (regOf Try.f34 29) 1 = some (some 171, .fieldAddr 61 (.tmp 5) 1, 0, none) := by kernel_rfl
theorem p34_29_2 : pj (regOf Try.f34 29) 2 = some (some 172, .load 3 (.tmp 171), 3, none) := by kernel_rfl
theorem p34_29_3 : pj (regOf Try.f34 29) 3 = some (some 173, .call { callee := .value (.func 38), args := #[.tmp 170, .tmp 172], argTypes := #[67, 3] }, 4, none) := by kernel_rfl
theorem p34_29_4 : pj (regOf Try.f34 29) 4 = some (some 174, .unOp .not 4 (.tmp 173), 4, none) := by kernel_rfl
theorem p34_31_0 : pj (regOf Try.f34 31) 0 = some (some 16, .assign (.const (.int .i64 0)), 3, none) := by kernel_rfl
theorem p34_32_0 : pj (regOf Try.f34 32) 0 = some (some 17, .assign (.const (.int .i64 0)), 3, none) := by kernel_rfl
theorem p34_33_0 : pj (regOf Try.f34 33) 0 = some (some 181, .move (.tmp 17), 3, none) := by kernel_rfl
theorem p34_33_1 : pj (regOf Try.f34 33) 1 = some (some 182, .move (.tmp 1), 67, none) := by kernel_rfl
theorem p34_33_2 : pj (regOf Try.f34 33) 2 = some (some 183, .nilCheck (.tmp 182), 0, none) := by kernel_rfl
theorem p34_33_3 : pj (regOf Try.f34 33) 3 = some (some 184, .fieldAddr 71 (.tmp 183) 0, 0, none) := by kernel_rfl
theorem p34_33_4 : pj (regOf Try.f34 33) 4 = some (some 185, .load 3 (.tmp 184), 3, none) := by kernel_rfl
theorem p34_33_5 : pj (regOf Try.f34 33) 5 = some (some 186, .binOp .lss 3 (.tmp 181) (.tmp 185) 3, 4, none) := by kernel_rfl
theorem ns34_35 : Region.noSelect (regOf Try.f34 35) = true := by kernel_rfl
theorem p34_35_0 : pj (regOf Try.f34 35) 0 = some (some 189, .move (.tmp 1), 67, none) := by kernel_rfl
theorem p34_35_1 : pj (regOf Try.f34 35) 1 = some (some 190, .fieldAddr 61 (.tmp 5) 1, 0, none) := by kernel_rfl
theorem p34_35_2 : pj (regOf Try.f34 35) 2 = some (some 191, .load 3 (.tmp 190), 3, none) := by kernel_rfl
theorem p34_35_3 : pj (regOf Try.f34 35) 3 = some (some 192, .move (.tmp 17), 3, none) := by kernel_rfl
theorem p34_35_4 : pj (regOf Try.f34 35) 4 = some (some 193, .nilCheck (.tmp 189), 0, none) := by kernel_rfl
theorem p34_35_5 : pj (regOf Try.f34 35) 5 = some (some 194, .fieldAddr 71 (.tmp 193) 1, 0, none) := by kernel_rfl
theorem p34_35_6 : pj (regOf Try.f34 35) 6 = some (some 195, .indexAddr 69 (.tmp 194) (.tmp 191), 0, none) := by kernel_rfl
theorem p34_35_7 : pj (regOf Try.f34 35) 7 = some (some 196, .indexAddr 68 (.tmp 195) (.tmp 192), 0, none) := by kernel_rfl
theorem p34_35_8 : pj (regOf Try.f34 35) 8 = some (some 197, .load 3 (.tmp 196), 3, none) := by kernel_rfl
theorem p34_35_9 : pj (regOf Try.f34 35) 9 = some (some 198, .binOp .gtr 3 (.tmp 197) (.const (.int .i64 0)) 3, 4, none) := by kernel_rfl
theorem p34_36_0 : pj (regOf Try.f34 36) 0 = some (some 199, .move (.tmp 16), 3, none) := by kernel_rfl
theorem p34_36_1 : pj (regOf Try.f34 36) 1 = some (some 200, .binOp .add 3 (.tmp 199) (.const (.int .i64 1)) 3, 3, none) := by kernel_rfl
theorem p34_36_2 : pj (regOf Try.f34 36) 2 = some (some 16, .assign (.tmp 200), 3, none) := by kernel_rfl
theorem p34_37_0 : pj (regOf Try.f34 37) 0 = some (some 201, .move (.tmp 1), 67, none) := by kernel_rfl
theorem p34_37_1 : pj (regOf Try.f34 37) 1 = some (some 202, .fieldAddr 61 (.tmp 5) 1, 0, none) := by kernel_rfl
theorem p34_37_2 : pj (regOf Try.f34 37) 2 = some (some 203, .load 3 (.tmp 202), 3, none) := by kernel_rfl
theorem p34_37_3 : pj (regOf Try.f34 37) 3 = some (some 204, .move (.tmp 17), 3, none) := by kernel_rfl
theorem p34_37_4 : pj (regOf Try.f34 37) 4 = some (some 205, .call { callee := .value (.func 56), args := #[.tmp 201, .tmp 203, .tmp 204, .const (.int .i64 0)], argTypes := #[67, 3, 3, 3] }, 0, none) := by kernel_rfl
theorem p34_34_0 : pj (regOf Try.f34 34) 0 = some (some 187, .move (.tmp 17), 3, none) := by kernel_rfl
theorem p34_34_1 : pj (regOf Try.f34 34) 1 = some (some 188, .binOp .add 3 (.tmp 187) (.const (.int .i64 1)) 3, 3, none) := by kernel_rfl
theorem p34_34_2 : pj (regOf Try.f34 34) 2 = some (some 17, .assign (.tmp 188), 3, none) := by kernel_rfl
theorem p34_38_0 : pj (regOf Try.f34 38) 0 = some (some 206, .move (.tmp 15), 23, none) := by kernel_rfl
theorem p34_38_1 : pj (regOf Try.f34 38) 1 = some (some 207, .binOp .eql 23 (.tmp 206) (.const (.int .i64 0)) 23, 4, none) := by kernel_rfl
theorem p34_38_2 : pj (regOf Try.f34 38) 2 = some (some 208, .move (.tmp 207), 4, none) := by kernel_rfl
theorem p34_38_3 : pj (regOf Try.f34 38) 3 = some (some 209, .move (.tmp 14), 3, some (2, true)) := by kernel_rfl
theorem g34_38_2 : dstOf (regOf Try.f34 38) 2 = some 208 := by kernel_rfl
theorem p34_38_4 : pj (regOf Try.f34 38) 4 = some (some 210, .move (.tmp 16), 3, some (2, true)) := by kernel_rfl
theorem p34_38_5 : pj (regOf Try.f34 38) 5 = some (some 211, .binOp .eql 3 (.tmp 209) (.tmp 210) 3, 4, some (2, true)) := by kernel_rfl
theorem p34_38_6 : pj (regOf Try.f34 38) 6 = some (some 212, .pick (.tmp 208) (.tmp 211) (.const (.bool false)), 4, none) := by kernel_rfl
theorem p34_38_7 : pj (regOf Try.f34 38) 7 = some (some 6, .assign (.tmp 212), 4, none) := by kernel_rfl
theorem p34_30_0 : pj (regOf Try.f34 30) 0 = some (some 175, .move (.tmp 15), 23, none) := by kernel_rfl
theorem p34_30_1 : pj (regOf Try.f34 30) 1 = some (some 176, .binOp .eql 23 (.tmp 175) (.const (.int .i64 1)) 23, 4, none) := by kernel_rfl
theorem p34_30_2 : pj (regOf Try.f34 30) 2 = some (some 177, .move (.tmp 176), 4, none) := by kernel_rfl
theorem p34_30_3 : pj (regOf Try.f34 30) 3 = some (some 178, .move (.tmp 14), 3, some (2, true)) := by kernel_rfl
theorem g34_30_2 : dstOf (regOf Try.f34 30) 2 = some 177 := by kernel_rfl
theorem p34_30_4 : pj (regOf Try.f34 30) 4 = some (some 179, .binOp .eql 3 (.tmp 178) (.const (.int .i64 0)) 3, 4, some (2, true)) := by kernel_rfl
theorem p34_30_5 : pj (regOf Try.f34 30) 5 = some (some 180, .pick (.tmp 177) (.tmp 179) (.const (.bool false)), 4, none) := by kernel_rfl
theorem p34_30_6 : pj (regOf Try.f34 30) 6 = some (some 6, .assign (.tmp 180), 4, none) := by kernel_rfl
theorem p34_39_0 : pj (regOf Try.f34 39) 0 = some (some 6, .assign (.const (.bool true)), 4, none) := by kernel_rfl
set_option maxHeartbeats 4000000 in
theorem do2 {R : Ending → World → Prop} (g gm gd ck nn : Nat) (es : Array MapEntry) (f : Int → Int → Option Int) (D : Nat → Nat → Int) (hnn : nn ≤ 64) (xk xa xb xc : Int) (xm : Nat) (hxm : xm < 18446744073709551616) (gs : Nat) (okx : Bool) (w W : World) (hok : okx = bothB (nn : Int) xa xb) (B_g : W.heap[g]? = some (.cells #[.int .i64 (nn : Int), .map (some gm)] 83 (0, 0))) (B_gm : W.heap[gm]? = some (.map es ck)) (hF : Mp.MapF es f) (B_gd : W.heap[gd]? = some (.cells (Lm.cellsD (nn : Int) D) 71 (0, 0))) (hrel : RelL nn f D) (n_g_gm : g ≠ gm) (n_g_gd : g ≠ gd) (n_gm_gd : gm ≠ gd) (B_gs : W.heap[gs]? = some (.cells #[.int .i64 xk, .int .i64 xa, .int .i64 xb, .int .i64 xc, .float .f64 xm] 61 (0, 0))) (n_g_gs : g ≠ gs) (n_gm_gs : gm ≠ gs) (n_gd_gs : gd ≠ gs) (z_0_gs : w.heap.size ≤ gs) (K_0 : Kp w W (fun k => k = gm ∨ k = gd)) (hR : ∀ W' es' ck' f' D', Mp.MapF es' f' → RelL nn f' D' → W'.heap[gm]? = some (.map es' ck') → W'.heap[gd]? = some (.cells (Lm.cellsD (nn : Int) D') 71 (0, 0)) → Kp w W' (fun k => k = gm ∨ k = gd) → R (.returned (.bool true)) W') (a : Act) (hE : En 213 a [(0, Value.pointer (some ⟨g, 0, none⟩)), (1, Value.pointer (some ⟨gd, 0, none⟩)), (5, Value.pointer (some ⟨gs, 0, none⟩)), (7, Value.bool okx)]) : Code.wp Try.prog (.seq (.seq (.region 2 (regOf Try.f34 2) false) (.block 0 (.seq (.region 3 (regOf Try.f34 3) false) (.cond (Operand.tmp 39) (.seq (.region 4 (regOf Try.f34 4) false) (.seq (.seq (.region 5 (regOf Try.f34 5) false) (.cond (Operand.tmp 60) (.seq (.region 6 (regOf Try.f34 6) false) (.ret)) (.skip))) (.seq (.region 7 (regOf Try.f34 7) false) (.seq (.region 8 (regOf Try.f34 8) false) (.ret))))) (.seq (.region 9 (regOf Try.f34 9) false) (.cond (Operand.tmp 73) (.seq (.region 10 (regOf Try.f34 10) false) (.seq (.seq (.region 11 (regOf Try.f34 11) false) (.cond (Operand.tmp 90) (.seq (.region 12 (regOf Try.f34 12) false) (.ret)) (.skip))) (.seq (.region 13 (regOf Try.f34 13) false) (.seq (.seq (.region 14 (regOf Try.f34 14) false) (.cond (Operand.tmp 97) (.region 15 (regOf Try.f34 15) false) (.skip))) (.seq (.region 16 (regOf Try.f34 16) false) (.seq (.region 17 (regOf Try.f34 17) false) (.ret))))))) (.seq (.region 18 (regOf Try.f34 18) false) (.cond (Operand.tmp 107) (.seq (.region 19 (regOf Try.f34 19) false) (.seq (.seq (.region 20 (regOf Try.f34 20) false) (.cond (Operand.tmp 130) (.seq (.region 21 (regOf Try.f34 21) false) (.ret)) (.skip))) (.seq (.region 22 (regOf Try.f34 22) false) (.seq (.seq (.region 23 (regOf Try.f34 23) true) (.cond (Operand.tmp 147) (.region 24 (regOf Try.f34 24) false) (.skip))) (.seq (.region 25 (regOf Try.f34 25) false) (.seq (.region 26 (regOf Try.f34 26) false) (.ret))))))) (.seq (.region 27 (regOf Try.f34 27) false) (.cond (Operand.tmp 161) (.seq (.region 28 (regOf Try.f34 28) false) (.seq (.seq (.region 29 (regOf Try.f34 29) false) (.cond (Operand.tmp 174) (.seq (.region 30 (regOf Try.f34 30) false) (.ret)) (.skip))) (.seq (.region 31 (regOf Try.f34 31) false) (.seq (.seq (.region 32 (regOf Try.f34 32) false) (.block 1 (.loop (.seq (.seq (.region 33 (regOf Try.f34 33) false) (.cond (Operand.tmp 186) (.skip) (.exit 1))) (.seq (.block 2 (.seq (.seq (.region 35 (regOf Try.f34 35) true) (.cond (Operand.tmp 198) (.region 36 (regOf Try.f34 36) false) (.skip))) (.region 37 (regOf Try.f34 37) false))) (.region 34 (regOf Try.f34 34) false)))))) (.seq (.region 38 (regOf Try.f34 38) false) (.ret)))))) (.skip))))))))))) (.seq (.region 39 (regOf Try.f34 39) false) (.ret))) (bodyPost Try.prog Try.f34 R) a W := by
  refine wp_seq ?_
  refine c_reg R34_2_l ?_
  refine q0 p34_2_0 hE (st_fieldAddr Try.underlying61 rfl tS3 rfl rfl) ?_
  clear hE a; intro a hE
  refine q0 p34_2_1 hE (st_load1 tA3 rfl ((blk_cell B_gs 0).trans rfl)) ?_
  clear hE a; intro a hE
  refine q0 p34_2_2 hE (st_conv (z := (xk % 18446744073709551616)) (by kernel_rfl) Try.underlying44 rfl (IntKind.wrap_u64 _)) ?_
  clear hE a; intro a hE
  refine q0 p34_2_3 hE (st_rem (z := xk % 18446744073709551616 % 5) rfl rfl (by omega) (Int.tmod_eq_emod_of_nonneg (by omega))) ?_
  clear hE a; intro a hE
  refine p_nil ?_
  refine x_norm ?_
  refine wp_block ?_
  rcases Decidable.em ((xk % 18446744073709551616 % 5) = 0) with hKA | hKA
  ·
    refine c_reg R34_3_l ?_
    refine q0 p34_3_0 hE (st_eql (b := true) rfl rfl (decide_eq_true hKA)) ?_
    clear hE a; intro a hE
    refine q0 p34_3_1 hE (st_assign rfl) ?_
    clear hE a; intro a hE
    refine p_nil ?_
    refine x_norm ?_
    refine c_cond (t := true) hE rfl ?_
    rcases Decidable.em (okx = true) with hOK | hOK
    ·
      subst hOK
      obtain ⟨p, q, rfl, rfl, hp, hq, hpq⟩ := both_open hok.symm
      rcases Decidable.em (xc < 128) with hC1 | hC1
      ·
        refine c_reg R34_4_l ?_
        refine q0 p34_4_0 hE (st_move rfl) ?_
        clear hE a; intro a hE
        refine q0 p34_4_1 hE (st_fieldAddr Try.underlying61 rfl tS3 rfl rfl) ?_
        clear hE a; intro a hE
        refine q0 p34_4_2 hE (st_load1 tA3 rfl ((blk_cell B_gs 1).trans rfl)) ?_
        clear hE a; intro a hE
        refine q0 p34_4_3 hE (st_fieldAddr Try.underlying61 rfl tS3 rfl rfl) ?_
        clear hE a; intro a hE
        refine q0 p34_4_4 hE (st_load1 tA3 rfl ((blk_cell B_gs 2).trans rfl)) ?_
        clear hE a; intro a hE
        refine q0 p34_4_5 hE (st_fieldAddr Try.underlying61 rfl tS3 rfl rfl) ?_
        clear hE a; intro a hE
        refine q0 p34_4_6 hE (st_load1 tA3 rfl ((blk_cell B_gs 3).trans rfl)) ?_
        clear hE a; intro a hE
        have hst : setB (nn : Int) (p : Int) (q : Int) xc = false := by unfold setB; rw [← hok, decide_eq_false (by omega)]; rfl
        have hlk : lkS (nn : Int) f (p : Int) (q : Int) xc = f := by unfold lkS; rw [hst]; rfl
        have hct := set_any g gm _ _ f (nn : Int) (p : Int) (q : Int) xc W B_g B_gm hF n_g_gm
        rw [hst, hlk] at hct
        refine p_cons (s_call (xs := [Operand.tmp 41, Operand.tmp 43, Operand.tmp 45, Operand.tmp 47]) (args := [Value.pointer (some ⟨g, 0, none⟩), Value.int .i64 (p : Int), Value.int .i64 (q : Int), Value.int .i64 xc]) p34_4_7 hE wn_none rfl rfl Try.func29 cl29 (hct) ?_)
        rintro e w2 ⟨esm1, ckm1, rfl, MFm1, B_gm', hk⟩
        replace B_g := kp_blk B_g hk n_g_gm
        replace B_gd := kp_blk B_gd hk (Ne.symm n_gm_gd)
        replace B_gs := kp_blk B_gs hk (Ne.symm n_gm_gs)
        replace K_0 := K_0.then_ hk (fun k h => by rw [show k = gm from h]; exact Or.inl (Or.inl rfl))
        replace B_gm := B_gm'
        refine ⟨_, rfl, ?_⟩
        clear hE a; intro a hE
        refine q0 p34_4_8 hE (st_assign rfl) ?_
        clear hE a; intro a hE
        refine p_nil ?_
        refine x_norm ?_
        refine wp_seq ?_
        refine c_reg R34_5_l ?_
        refine q0 p34_5_0 hE (st_move rfl) ?_
        clear hE a; intro a hE
        refine q0 p34_5_1 hE (st_not rfl rfl) ?_
        clear hE a; intro a hE
        refine q0 p34_5_2 hE (st_move rfl) ?_
        clear hE a; intro a hE
        refine p_cons (s_still p34_5_3 hE (wn_some g34_5_2 rfl rfl) rfl (st_fieldAddr Try.underlying61 rfl tS3 rfl rfl) ?_)
        clear hE a; intro a hE
        refine p_cons (s_still p34_5_4 hE (wn_some g34_5_2 rfl rfl) rfl (st_load1 tA3 rfl ((blk_cell B_gs 3).trans rfl)) ?_)
        clear hE a; intro a hE
        refine p_cons (s_still p34_5_5 hE (wn_some g34_5_2 rfl rfl) rfl (st_lss (b := true) rfl rfl (decide_eq_true hC1)) ?_)
        clear hE a; intro a hE
        refine q0 p34_5_6 hE (st_pick rfl rfl) ?_
        clear hE a; intro a hE
        refine q0 p34_5_7 hE (st_move rfl) ?_
        clear hE a; intro a hE
        refine p_cons (s_skip p34_5_8 hE (wn_some g34_5_7 rfl rfl) rfl ?_)
        clear hE a; intro a hE
        refine p_cons (s_skip p34_5_9 hE (wn_some g34_5_7 rfl rfl) rfl ?_)
        clear hE a; intro a hE
        refine p_cons (s_skip p34_5_10 hE (wn_some g34_5_7 rfl rfl) rfl ?_)
        clear hE a; intro a hE
        refine q0 p34_5_11 hE (st_pick rfl rfl) ?_
        clear hE a; intro a hE
        refine p_nil ?_
        refine x_norm ?_
        refine c_cond (t := true) hE rfl ?_
        refine c_reg R34_6_l ?_
        refine q0 p34_6_0 hE (st_move rfl) ?_
        clear hE a; intro a hE
        refine q0 p34_6_1 hE (st_eql (b := true) rfl rfl (by decide)) ?_
        clear hE a; intro a hE
        refine q0 p34_6_2 hE (st_assign rfl) ?_
        clear hE a; intro a hE
        refine p_nil ?_
        refine x_norm ?_
        refine wp_ret ?_
        refine x_ret ?_
        refine x_retB ?_
        refine x_ret ?_
        refine ret_one (v := Value.bool true) rfl hE (.tmp rfl .nil) ?_
        exact hR _ esm1 ckm1 f D MFm1 hrel B_gm B_gd K_0
      ·
        rcases Decidable.em (65534 < xc) with hC2 | hC2
        ·
          refine c_reg R34_4_l ?_
          refine q0 p34_4_0 hE (st_move rfl) ?_
          clear hE a; intro a hE
          refine q0 p34_4_1 hE (st_fieldAddr Try.underlying61 rfl tS3 rfl rfl) ?_
          clear hE a; intro a hE
          refine q0 p34_4_2 hE (st_load1 tA3 rfl ((blk_cell B_gs 1).trans rfl)) ?_
          clear hE a; intro a hE
          refine q0 p34_4_3 hE (st_fieldAddr Try.underlying61 rfl tS3 rfl rfl) ?_
          clear hE a; intro a hE
          refine q0 p34_4_4 hE (st_load1 tA3 rfl ((blk_cell B_gs 2).trans rfl)) ?_
          clear hE a; intro a hE
          refine q0 p34_4_5 hE (st_fieldAddr Try.underlying61 rfl tS3 rfl rfl) ?_
          clear hE a; intro a hE
          refine q0 p34_4_6 hE (st_load1 tA3 rfl ((blk_cell B_gs 3).trans rfl)) ?_
          clear hE a; intro a hE
          have hst : setB (nn : Int) (p : Int) (q : Int) xc = false := by unfold setB; rw [← hok, decide_eq_false (by omega)]; rfl
          have hlk : lkS (nn : Int) f (p : Int) (q : Int) xc = f := by unfold lkS; rw [hst]; rfl
          have hct := set_any g gm _ _ f (nn : Int) (p : Int) (q : Int) xc W B_g B_gm hF n_g_gm
          rw [hst, hlk] at hct
          refine p_cons (s_call (xs := [Operand.tmp 41, Operand.tmp 43, Operand.tmp 45, Operand.tmp 47]) (args := [Value.pointer (some ⟨g, 0, none⟩), Value.int .i64 (p : Int), Value.int .i64 (q : Int), Value.int .i64 xc]) p34_4_7 hE wn_none rfl rfl Try.func29 cl29 (hct) ?_)
          rintro e w4 ⟨esm3, ckm3, rfl, MFm3, B_gm', hk⟩
          replace B_g := kp_blk B_g hk n_g_gm
          replace B_gd := kp_blk B_gd hk (Ne.symm n_gm_gd)
          replace B_gs := kp_blk B_gs hk (Ne.symm n_gm_gs)
          replace K_0 := K_0.then_ hk (fun k h => by rw [show k = gm from h]; exact Or.inl (Or.inl rfl))
          replace B_gm := B_gm'
          refine ⟨_, rfl, ?_⟩
          clear hE a; intro a hE
          refine q0 p34_4_8 hE (st_assign rfl) ?_
          clear hE a; intro a hE
          refine p_nil ?_
          refine x_norm ?_
          refine wp_seq ?_
          refine c_reg R34_5_l ?_
          refine q0 p34_5_0 hE (st_move rfl) ?_
          clear hE a; intro a hE
          refine q0 p34_5_1 hE (st_not rfl rfl) ?_
          clear hE a; intro a hE
          refine q0 p34_5_2 hE (st_move rfl) ?_
          clear hE a; intro a hE
          refine p_cons (s_still p34_5_3 hE (wn_some g34_5_2 rfl rfl) rfl (st_fieldAddr Try.underlying61 rfl tS3 rfl rfl) ?_)
          clear hE a; intro a hE
          refine p_cons (s_still p34_5_4 hE (wn_some g34_5_2 rfl rfl) rfl (st_load1 tA3 rfl ((blk_cell B_gs 3).trans rfl)) ?_)
          clear hE a; intro a hE
          refine p_cons (s_still p34_5_5 hE (wn_some g34_5_2 rfl rfl) rfl (st_lss (b := false) rfl rfl (decide_eq_false hC1)) ?_)
          clear hE a; intro a hE
          refine q0 p34_5_6 hE (st_pick rfl rfl) ?_
          clear hE a; intro a hE
          refine q0 p34_5_7 hE (st_move rfl) ?_
          clear hE a; intro a hE
          refine p_cons (s_still p34_5_8 hE (wn_some g34_5_7 rfl rfl) rfl (st_fieldAddr Try.underlying61 rfl tS3 rfl rfl) ?_)
          clear hE a; intro a hE
          refine p_cons (s_still p34_5_9 hE (wn_some g34_5_7 rfl rfl) rfl (st_load1 tA3 rfl ((blk_cell B_gs 3).trans rfl)) ?_)
          clear hE a; intro a hE
          refine p_cons (s_still p34_5_10 hE (wn_some g34_5_7 rfl rfl) rfl (st_gtr (b := true) rfl rfl (decide_eq_true hC2)) ?_)
          clear hE a; intro a hE
          refine q0 p34_5_11 hE (st_pick rfl rfl) ?_
          clear hE a; intro a hE
          refine p_nil ?_
          refine x_norm ?_
          refine c_cond (t := true) hE rfl ?_
          refine c_reg R34_6_l ?_
          refine q0 p34_6_0 hE (st_move rfl) ?_
          clear hE a; intro a hE
          refine q0 p34_6_1 hE (st_eql (b := true) rfl rfl (by decide)) ?_
          clear hE a; intro a hE
          refine q0 p34_6_2 hE (st_assign rfl) ?_
          clear hE a; intro a hE
          refine p_nil ?_
          refine x_norm ?_
          refine wp_ret ?_
          refine x_ret ?_
          refine x_retB ?_
          refine x_ret ?_
          refine ret_one (v := Value.bool true) rfl hE (.tmp rfl .nil) ?_
          exact hR _ esm3 ckm3 f D MFm3 hrel B_gm B_gd K_0
        ·
          refine c_reg R34_4_l ?_
          refine q0 p34_4_0 hE (st_move rfl) ?_
          clear hE a; intro a hE
          refine q0 p34_4_1 hE (st_fieldAddr Try.underlying61 rfl tS3 rfl rfl) ?_
          clear hE a; intro a hE
          refine q0 p34_4_2 hE (st_load1 tA3 rfl ((blk_cell B_gs 1).trans rfl)) ?_
          clear hE a; intro a hE
          refine q0 p34_4_3 hE (st_fieldAddr Try.underlying61 rfl tS3 rfl rfl) ?_
          clear hE a; intro a hE
          refine q0 p34_4_4 hE (st_load1 tA3 rfl ((blk_cell B_gs 2).trans rfl)) ?_
          clear hE a; intro a hE
          refine q0 p34_4_5 hE (st_fieldAddr Try.underlying61 rfl tS3 rfl rfl) ?_
          clear hE a; intro a hE
          refine q0 p34_4_6 hE (st_load1 tA3 rfl ((blk_cell B_gs 3).trans rfl)) ?_
          clear hE a; intro a hE
          have hst : setB (nn : Int) (p : Int) (q : Int) xc = true := by unfold setB; rw [← hok, decide_eq_true ⟨by omega, by omega⟩]; rfl
          have hlk : lkS (nn : Int) f (p : Int) (q : Int) xc = (Mp.setF f (min (p : Int) (q : Int)) (max (p : Int) (q : Int)) xc) := by unfold lkS; rw [hst]; rfl
          have hct := set_any g gm _ _ f (nn : Int) (p : Int) (q : Int) xc W B_g B_gm hF n_g_gm
          rw [hst, hlk] at hct
          refine p_cons (s_call (xs := [Operand.tmp 41, Operand.tmp 43, Operand.tmp 45, Operand.tmp 47]) (args := [Value.pointer (some ⟨g, 0, none⟩), Value.int .i64 (p : Int), Value.int .i64 (q : Int), Value.int .i64 xc]) p34_4_7 hE wn_none rfl rfl Try.func29 cl29 (hct) ?_)
          rintro e w6 ⟨esm5, ckm5, rfl, MFm5, B_gm', hk⟩
          replace B_g := kp_blk B_g hk n_g_gm
          replace B_gd := kp_blk B_gd hk (Ne.symm n_gm_gd)
          replace B_gs := kp_blk B_gs hk (Ne.symm n_gm_gs)
          replace K_0 := K_0.then_ hk (fun k h => by rw [show k = gm from h]; exact Or.inl (Or.inl rfl))
          replace B_gm := B_gm'
          refine ⟨_, rfl, ?_⟩
          clear hE a; intro a hE
          refine q0 p34_4_8 hE (st_assign rfl) ?_
          clear hE a; intro a hE
          refine p_nil ?_
          refine x_norm ?_
          refine wp_seq ?_
          refine c_reg R34_5_l ?_
          refine q0 p34_5_0 hE (st_move rfl) ?_
          clear hE a; intro a hE
          refine q0 p34_5_1 hE (st_not rfl rfl) ?_
          clear hE a; intro a hE
          refine q0 p34_5_2 hE (st_move rfl) ?_
          clear hE a; intro a hE
          refine p_cons (s_still p34_5_3 hE (wn_some g34_5_2 rfl rfl) rfl (st_fieldAddr Try.underlying61 rfl tS3 rfl rfl) ?_)
          clear hE a; intro a hE
          refine p_cons (s_still p34_5_4 hE (wn_some g34_5_2 rfl rfl) rfl (st_load1 tA3 rfl ((blk_cell B_gs 3).trans rfl)) ?_)
          clear hE a; intro a hE
          refine p_cons (s_still p34_5_5 hE (wn_some g34_5_2 rfl rfl) rfl (st_lss (b := false) rfl rfl (decide_eq_false hC1)) ?_)
          clear hE a; intro a hE
          refine q0 p34_5_6 hE (st_pick rfl rfl) ?_
          clear hE a; intro a hE
          refine q0 p34_5_7 hE (st_move rfl) ?_
          clear hE a; intro a hE
          refine p_cons (s_still p34_5_8 hE (wn_some g34_5_7 rfl rfl) rfl (st_fieldAddr Try.underlying61 rfl tS3 rfl rfl) ?_)
          clear hE a; intro a hE
          refine p_cons (s_still p34_5_9 hE (wn_some g34_5_7 rfl rfl) rfl (st_load1 tA3 rfl ((blk_cell B_gs 3).trans rfl)) ?_)
          clear hE a; intro a hE
          refine p_cons (s_still p34_5_10 hE (wn_some g34_5_7 rfl rfl) rfl (st_gtr (b := false) rfl rfl (decide_eq_false hC2)) ?_)
          clear hE a; intro a hE
          refine q0 p34_5_11 hE (st_pick rfl rfl) ?_
          clear hE a; intro a hE
          refine p_nil ?_
          refine x_norm ?_
          refine c_cond (t := false) hE rfl ?_
          refine wp_skip ?_
          refine x_norm ?_
          refine c_reg R34_7_l ?_
          refine q0 p34_7_0 hE (st_move rfl) ?_
          clear hE a; intro a hE
          refine q0 p34_7_1 hE (st_fieldAddr Try.underlying61 rfl tS3 rfl rfl) ?_
          clear hE a; intro a hE
          refine q0 p34_7_2 hE (st_load1 tA3 rfl ((blk_cell B_gs 1).trans rfl)) ?_
          clear hE a; intro a hE
          refine q0 p34_7_3 hE (st_fieldAddr Try.underlying61 rfl tS3 rfl rfl) ?_
          clear hE a; intro a hE
          refine q0 p34_7_4 hE (st_load1 tA3 rfl ((blk_cell B_gs 2).trans rfl)) ?_
          clear hE a; intro a hE
          refine q0 p34_7_5 hE (st_fieldAddr Try.underlying61 rfl tS3 rfl rfl) ?_
          clear hE a; intro a hE
          refine q0 p34_7_6 hE (st_load1 tA3 rfl ((blk_cell B_gs 3).trans rfl)) ?_
          clear hE a; intro a hE
          refine p_cons (s_call (xs := [Operand.tmp 63, Operand.tmp 65, Operand.tmp 67, Operand.tmp 69]) (args := [Value.pointer (some ⟨gd, 0, none⟩), Value.int .i64 (p : Int), Value.int .i64 (q : Int), Value.int .i64 xc]) p34_7_7 hE wn_none rfl rfl Try.func56 cl56 (rset_any gd (nn : Int) D p q (by omega) (by omega) xc _ B_gd) ?_)
          rintro e w7 ⟨rfl, B_gd', hk⟩
          replace B_g := kp_blk B_g hk n_g_gd
          replace B_gm := kp_blk B_gm hk n_gm_gd
          replace B_gs := kp_blk B_gs hk (Ne.symm n_gd_gs)
          replace K_0 := K_0.then_ hk (fun k h => by rw [show k = gd from h]; exact Or.inl (Or.inr rfl))
          replace B_gd := B_gd'
          refine ⟨_, rfl, ?_⟩
          clear hE a; intro a hE
          refine p_nil ?_
          refine x_norm ?_
          refine c_reg R34_8_l ?_
          refine q0 p34_8_0 hE (st_move rfl) ?_
          clear hE a; intro a hE
          refine q0 p34_8_1 hE (st_eql (b := true) rfl rfl (by decide)) ?_
          clear hE a; intro a hE
          refine q0 p34_8_2 hE (st_assign rfl) ?_
          clear hE a; intro a hE
          refine p_nil ?_
          refine x_norm ?_
          refine wp_ret ?_
          refine x_retB ?_
          refine x_ret ?_
          refine ret_one (v := Value.bool true) rfl hE (.tmp rfl .nil) ?_
          exact hR _ esm5 ckm5 (Mp.setF f (min (p : Int) (q : Int)) (max (p : Int) (q : Int)) xc) (Lm.setD (Lm.setD D p q xc) q p xc) MFm5 (hrel.set (by omega) hpq) B_gm B_gd K_0
    ·
      have hOKf : okx = false := by simpa using hOK
      subst hOKf
      refine c_reg R34_4_l ?_
      refine q0 p34_4_0 hE (st_move rfl) ?_
      clear hE a; intro a hE
      refine q0 p34_4_1 hE (st_fieldAddr Try.underlying61 rfl tS3 rfl rfl) ?_
      clear hE a; intro a hE
      refine q0 p34_4_2 hE (st_load1 tA3 rfl ((blk_cell B_gs 1).trans rfl)) ?_
      clear hE a; intro a hE
      refine q0 p34_4_3 hE (st_fieldAddr Try.underlying61 rfl tS3 rfl rfl) ?_
      clear hE a; intro a hE
      refine q0 p34_4_4 hE (st_load1 tA3 rfl ((blk_cell B_gs 2).trans rfl)) ?_
      clear hE a; intro a hE
      refine q0 p34_4_5 hE (st_fieldAddr Try.underlying61 rfl tS3 rfl rfl) ?_
      clear hE a; intro a hE
      refine q0 p34_4_6 hE (st_load1 tA3 rfl ((blk_cell B_gs 3).trans rfl)) ?_
      clear hE a; intro a hE
      have hst : setB (nn : Int) xa xb xc = false := by unfold setB; rw [← hok]; rfl
      have hlk : lkS (nn : Int) f xa xb xc = f := by unfold lkS; rw [hst]; rfl
      have hct := set_any g gm _ _ f (nn : Int) xa xb xc W B_g B_gm hF n_g_gm
      rw [hst, hlk] at hct
      refine p_cons (s_call (xs := [Operand.tmp 41, Operand.tmp 43, Operand.tmp 45, Operand.tmp 47]) (args := [Value.pointer (some ⟨g, 0, none⟩), Value.int .i64 xa, Value.int .i64 xb, Value.int .i64 xc]) p34_4_7 hE wn_none rfl rfl Try.func29 cl29 (hct) ?_)
      rintro e w9 ⟨esm8, ckm8, rfl, MFm8, B_gm', hk⟩
      replace B_g := kp_blk B_g hk n_g_gm
      replace B_gd := kp_blk B_gd hk (Ne.symm n_gm_gd)
      replace B_gs := kp_blk B_gs hk (Ne.symm n_gm_gs)
      replace K_0 := K_0.then_ hk (fun k h => by rw [show k = gm from h]; exact Or.inl (Or.inl rfl))
      replace B_gm := B_gm'
      refine ⟨_, rfl, ?_⟩
      clear hE a; intro a hE
      refine q0 p34_4_8 hE (st_assign rfl) ?_
      clear hE a; intro a hE
      refine p_nil ?_
      refine x_norm ?_
      refine wp_seq ?_
      refine c_reg R34_5_l ?_
      refine q0 p34_5_0 hE (st_move rfl) ?_
      clear hE a; intro a hE
      refine q0 p34_5_1 hE (st_not rfl rfl) ?_
      clear hE a; intro a hE
      refine q0 p34_5_2 hE (st_move rfl) ?_
      clear hE a; intro a hE
      refine p_cons (s_skip p34_5_3 hE (wn_some g34_5_2 rfl rfl) rfl ?_)
      clear hE a; intro a hE
      refine p_cons (s_skip p34_5_4 hE (wn_some g34_5_2 rfl rfl) rfl ?_)
      clear hE a; intro a hE
      refine p_cons (s_skip p34_5_5 hE (wn_some g34_5_2 rfl rfl) rfl ?_)
      clear hE a; intro a hE
      refine q0 p34_5_6 hE (st_pick rfl rfl) ?_
      clear hE a; intro a hE
      refine q0 p34_5_7 hE (st_move rfl) ?_
      clear hE a; intro a hE
      refine p_cons (s_skip p34_5_8 hE (wn_some g34_5_7 rfl rfl) rfl ?_)
      clear hE a; intro a hE
      refine p_cons (s_skip p34_5_9 hE (wn_some g34_5_7 rfl rfl) rfl ?_)
      clear hE a; intro a hE
      refine p_cons (s_skip p34_5_10 hE (wn_some g34_5_7 rfl rfl) rfl ?_)
      clear hE a; intro a hE
      refine q0 p34_5_11 hE (st_pick rfl rfl) ?_
      clear hE a; intro a hE
      refine p_nil ?_
      refine x_norm ?_
      refine c_cond (t := true) hE rfl ?_
      refine c_reg R34_6_l ?_
      refine q0 p34_6_0 hE (st_move rfl) ?_
      clear hE a; intro a hE
      refine q0 p34_6_1 hE (st_eql (b := true) rfl rfl (by decide)) ?_
      clear hE a; intro a hE
      refine q0 p34_6_2 hE (st_assign rfl) ?_
      clear hE a; intro a hE
      refine p_nil ?_
      refine x_norm ?_
      refine wp_ret ?_
      refine x_ret ?_
      refine x_retB ?_
      refine x_ret ?_
      refine ret_one (v := Value.bool true) rfl hE (.tmp rfl .nil) ?_
      exact hR _ esm8 ckm8 f D MFm8 hrel B_gm B_gd K_0
  ·
    refine c_reg R34_3_l ?_
    refine q0 p34_3_0 hE (st_eql (b := false) rfl rfl (decide_eq_false hKA)) ?_
    clear hE a; intro a hE
    refine q0 p34_3_1 hE (st_assign rfl) ?_
    clear hE a; intro a hE
    refine p_nil ?_
    refine x_norm ?_
    refine c_cond (t := false) hE rfl ?_
    rcases Decidable.em ((xk % 18446744073709551616 % 5) = 1) with hKB | hKB
    ·
      refine c_reg R34_9_l ?_
      refine q0 p34_9_0 hE (st_eql (b := true) rfl rfl (decide_eq_true hKB)) ?_
      clear hE a; intro a hE
      refine q0 p34_9_1 hE (st_assign rfl) ?_
      clear hE a; intro a hE
      refine p_nil ?_
      refine x_norm ?_
      refine c_cond (t := true) hE rfl ?_
      rcases Decidable.em (okx = true) with hOK | hOK
      ·
        subst hOK
        obtain ⟨p, q, rfl, rfl, hp, hq, hpq⟩ := both_open hok.symm
        rcases Decidable.em (Fl.right xm) with hRI | hRI
        ·
          rcases Decidable.em (Fl.costV xm = 65535) with hC5 | hC5
          ·
            refine c_reg R34_10_l ?_
            refine q0 p34_10_0 hE (st_move rfl) ?_
            clear hE a; intro a hE
            refine q0 p34_10_1 hE (st_fieldAddr Try.underlying61 rfl tS3 rfl rfl) ?_
            clear hE a; intro a hE
            refine q0 p34_10_2 hE (st_load1 tA3 rfl ((blk_cell B_gs 1).trans rfl)) ?_
            clear hE a; intro a hE
            refine q0 p34_10_3 hE (st_fieldAddr Try.underlying61 rfl tS3 rfl rfl) ?_
            clear hE a; intro a hE
            refine q0 p34_10_4 hE (st_load1 tA3 rfl ((blk_cell B_gs 2).trans rfl)) ?_
            clear hE a; intro a hE
            refine q0 p34_10_5 hE (st_fieldAddr Try.underlying61 rfl tS22 rfl rfl) ?_
            clear hE a; intro a hE
            refine q0 p34_10_6 hE (st_load1 tA22 rfl ((blk_cell B_gs 4).trans rfl)) ?_
            clear hE a; intro a hE
            have hmc : measC (nn : Int) (p : Int) (q : Int) xm = 0 := if_pos ⟨hok.symm, hRI⟩
            have hmf : measF (nn : Int) f (p : Int) (q : Int) xm = (Lm.delF f (min (p : Int) (q : Int)) (max (p : Int) (q : Int))) := by unfold measF; rw [if_pos ⟨hok.symm, hRI⟩, if_pos hC5]
            have hct := meas_any g gm _ nn _ f (p : Int) (q : Int) xm hxm W B_g B_gm hF n_g_gm
            rw [hmc, hmf] at hct
            refine p_cons (s_call (xs := [Operand.tmp 75, Operand.tmp 77, Operand.tmp 79, Operand.tmp 81]) (args := [Value.pointer (some ⟨g, 0, none⟩), Value.int .i64 (p : Int), Value.int .i64 (q : Int), Value.float .f64 xm]) p34_10_7 hE wn_none rfl rfl Try.func57 cl57 (hct) ?_)
            rintro e w11 ⟨esm10, ckm10, rfl, MFm10, B_gm', hk⟩
            replace B_g := kp_blk B_g hk n_g_gm
            replace B_gd := kp_blk B_gd hk (Ne.symm n_gm_gd)
            replace B_gs := kp_blk B_gs hk (Ne.symm n_gm_gs)
            replace K_0 := K_0.then_ hk (fun k h => by rw [show k = gm from h]; exact Or.inl (Or.inl rfl))
            replace B_gm := B_gm'
            refine ⟨_, rfl, ?_⟩
            clear hE a; intro a hE
            refine q0 p34_10_8 hE (st_assign rfl) ?_
            clear hE a; intro a hE
            refine p_nil ?_
            refine x_norm ?_
            refine wp_seq ?_
            refine c_reg R34_11_l ?_
            refine q0 p34_11_0 hE (st_move rfl) ?_
            clear hE a; intro a hE
            refine q0 p34_11_1 hE (st_not rfl rfl) ?_
            clear hE a; intro a hE
            refine q0 p34_11_2 hE (st_move rfl) ?_
            clear hE a; intro a hE
            refine p_cons (s_still p34_11_3 hE (wn_some g34_11_2 rfl rfl) rfl (st_fieldAddr Try.underlying61 rfl tS22 rfl rfl) ?_)
            clear hE a; intro a hE
            refine p_cons (s_still p34_11_4 hE (wn_some g34_11_2 rfl rfl) rfl (st_load1 tA22 rfl ((blk_cell B_gs 4).trans rfl)) ?_)
            clear hE a; intro a hE
            refine p_cons (s_call (xs := [Operand.tmp 87]) (args := [Value.float .f64 xm]) p34_11_5 hE (wn_some g34_11_2 rfl rfl) rfl rfl Try.func14 cl14 (Me.rright_any xm hxm true (decide_eq_true hRI) _) ?_)
            rintro e w12 ⟨rfl, hk⟩
            replace B_g := kp_blk B_g hk (fun h => h)
            replace B_gm := kp_blk B_gm hk (fun h => h)
            replace B_gd := kp_blk B_gd hk (fun h => h)
            replace B_gs := kp_blk B_gs hk (fun h => h)
            replace K_0 := K_0.then_ hk (fun _ h => h.elim)
            refine ⟨_, rfl, ?_⟩
            clear hE a; intro a hE
            refine p_cons (s_still p34_11_6 hE (wn_some g34_11_2 rfl rfl) rfl (st_not rfl rfl) ?_)
            clear hE a; intro a hE
            refine q0 p34_11_7 hE (st_pick rfl rfl) ?_
            clear hE a; intro a hE
            refine p_nil ?_
            refine x_norm ?_
            refine c_cond (t := false) hE rfl ?_
            refine wp_skip ?_
            refine x_norm ?_
            refine c_reg R34_13_l ?_
            refine q0 p34_13_0 hE (st_fieldAddr Try.underlying61 rfl tS22 rfl rfl) ?_
            clear hE a; intro a hE
            refine q0 p34_13_1 hE (st_load1 tA22 rfl ((blk_cell B_gs 4).trans rfl)) ?_
            clear hE a; intro a hE
            refine p_cons (s_call (xs := [Operand.tmp 94]) (args := [Value.float .f64 xm]) p34_13_2 hE wn_none rfl rfl Try.func15 cl15 (Me.rcost_any xm hRI 65535 hC5 _) ?_)
            rintro e w13 ⟨rfl, hk⟩
            replace B_g := kp_blk B_g hk (fun h => h)
            replace B_gm := kp_blk B_gm hk (fun h => h)
            replace B_gd := kp_blk B_gd hk (fun h => h)
            replace B_gs := kp_blk B_gs hk (fun h => h)
            replace K_0 := K_0.then_ hk (fun _ h => h.elim)
            refine ⟨_, rfl, ?_⟩
            clear hE a; intro a hE
            refine q0 p34_13_3 hE (st_assign rfl) ?_
            clear hE a; intro a hE
            refine p_nil ?_
            refine x_norm ?_
            refine wp_seq ?_
            refine c_reg R34_14_l ?_
            refine q0 p34_14_0 hE (st_move rfl) ?_
            clear hE a; intro a hE
            refine q0 p34_14_1 hE (st_eql (b := true) rfl rfl (by decide)) ?_
            clear hE a; intro a hE
            refine p_nil ?_
            refine x_norm ?_
            refine c_cond (t := true) hE rfl ?_
            refine c_regL R34_15_l ?_
            refine q0 p34_15_0 hE (st_assign rfl) ?_
            clear hE a; intro a hE
            refine p_nil ?_
            refine x_norm ?_
            refine c_reg R34_16_l ?_
            refine q0 p34_16_0 hE (st_move rfl) ?_
            clear hE a; intro a hE
            refine q0 p34_16_1 hE (st_fieldAddr Try.underlying61 rfl tS3 rfl rfl) ?_
            clear hE a; intro a hE
            refine q0 p34_16_2 hE (st_load1 tA3 rfl ((blk_cell B_gs 1).trans rfl)) ?_
            clear hE a; intro a hE
            refine q0 p34_16_3 hE (st_fieldAddr Try.underlying61 rfl tS3 rfl rfl) ?_
            clear hE a; intro a hE
            refine q0 p34_16_4 hE (st_load1 tA3 rfl ((blk_cell B_gs 2).trans rfl)) ?_
            clear hE a; intro a hE
            refine q0 p34_16_5 hE (st_move rfl) ?_
            clear hE a; intro a hE
            refine p_cons (s_call (xs := [Operand.tmp 98, Operand.tmp 100, Operand.tmp 102, Operand.tmp 103]) (args := [Value.pointer (some ⟨gd, 0, none⟩), Value.int .i64 (p : Int), Value.int .i64 (q : Int), Value.int .i64 0]) p34_16_6 hE wn_none rfl rfl Try.func56 cl56 (rset_any gd (nn : Int) D p q (by omega) (by omega) 0 _ B_gd) ?_)
            rintro e w14 ⟨rfl, B_gd', hk⟩
            replace B_g := kp_blk B_g hk n_g_gd
            replace B_gm := kp_blk B_gm hk n_gm_gd
            replace B_gs := kp_blk B_gs hk (Ne.symm n_gd_gs)
            replace K_0 := K_0.then_ hk (fun k h => by rw [show k = gd from h]; exact Or.inl (Or.inr rfl))
            replace B_gd := B_gd'
            refine ⟨_, rfl, ?_⟩
            clear hE a; intro a hE
            refine p_nil ?_
            refine x_norm ?_
            refine c_reg R34_17_l ?_
            refine q0 p34_17_0 hE (st_move rfl) ?_
            clear hE a; intro a hE
            refine q0 p34_17_1 hE (st_eql (b := true) rfl rfl (by decide)) ?_
            clear hE a; intro a hE
            refine q0 p34_17_2 hE (st_assign rfl) ?_
            clear hE a; intro a hE
            refine p_nil ?_
            refine x_norm ?_
            refine wp_ret ?_
            refine x_retB ?_
            refine x_ret ?_
            refine ret_one (v := Value.bool true) rfl hE (.tmp rfl .nil) ?_
            exact hR _ esm10 ckm10 (Lm.delF f (min (p : Int) (q : Int)) (max (p : Int) (q : Int))) (Lm.setD (Lm.setD D p q 0) q p 0) MFm10 hrel.del B_gm B_gd K_0
          ·
            refine c_reg R34_10_l ?_
            refine q0 p34_10_0 hE (st_move rfl) ?_
            clear hE a; intro a hE
            refine q0 p34_10_1 hE (st_fieldAddr Try.underlying61 rfl tS3 rfl rfl) ?_
            clear hE a; intro a hE
            refine q0 p34_10_2 hE (st_load1 tA3 rfl ((blk_cell B_gs 1).trans rfl)) ?_
            clear hE a; intro a hE
            refine q0 p34_10_3 hE (st_fieldAddr Try.underlying61 rfl tS3 rfl rfl) ?_
            clear hE a; intro a hE
            refine q0 p34_10_4 hE (st_load1 tA3 rfl ((blk_cell B_gs 2).trans rfl)) ?_
            clear hE a; intro a hE
            refine q0 p34_10_5 hE (st_fieldAddr Try.underlying61 rfl tS22 rfl rfl) ?_
            clear hE a; intro a hE
            refine q0 p34_10_6 hE (st_load1 tA22 rfl ((blk_cell B_gs 4).trans rfl)) ?_
            clear hE a; intro a hE
            have hmc : measC (nn : Int) (p : Int) (q : Int) xm = 0 := if_pos ⟨hok.symm, hRI⟩
            have hmf : measF (nn : Int) f (p : Int) (q : Int) xm = (Mp.setF f (min (p : Int) (q : Int)) (max (p : Int) (q : Int)) (Fl.costV xm)) := by unfold measF; rw [if_pos ⟨hok.symm, hRI⟩, if_neg hC5]
            have hct := meas_any g gm _ nn _ f (p : Int) (q : Int) xm hxm W B_g B_gm hF n_g_gm
            rw [hmc, hmf] at hct
            refine p_cons (s_call (xs := [Operand.tmp 75, Operand.tmp 77, Operand.tmp 79, Operand.tmp 81]) (args := [Value.pointer (some ⟨g, 0, none⟩), Value.int .i64 (p : Int), Value.int .i64 (q : Int), Value.float .f64 xm]) p34_10_7 hE wn_none rfl rfl Try.func57 cl57 (hct) ?_)
            rintro e w16 ⟨esm15, ckm15, rfl, MFm15, B_gm', hk⟩
            replace B_g := kp_blk B_g hk n_g_gm
            replace B_gd := kp_blk B_gd hk (Ne.symm n_gm_gd)
            replace B_gs := kp_blk B_gs hk (Ne.symm n_gm_gs)
            replace K_0 := K_0.then_ hk (fun k h => by rw [show k = gm from h]; exact Or.inl (Or.inl rfl))
            replace B_gm := B_gm'
            refine ⟨_, rfl, ?_⟩
            clear hE a; intro a hE
            refine q0 p34_10_8 hE (st_assign rfl) ?_
            clear hE a; intro a hE
            refine p_nil ?_
            refine x_norm ?_
            refine wp_seq ?_
            refine c_reg R34_11_l ?_
            refine q0 p34_11_0 hE (st_move rfl) ?_
            clear hE a; intro a hE
            refine q0 p34_11_1 hE (st_not rfl rfl) ?_
            clear hE a; intro a hE
            refine q0 p34_11_2 hE (st_move rfl) ?_
            clear hE a; intro a hE
            refine p_cons (s_still p34_11_3 hE (wn_some g34_11_2 rfl rfl) rfl (st_fieldAddr Try.underlying61 rfl tS22 rfl rfl) ?_)
            clear hE a; intro a hE
            refine p_cons (s_still p34_11_4 hE (wn_some g34_11_2 rfl rfl) rfl (st_load1 tA22 rfl ((blk_cell B_gs 4).trans rfl)) ?_)
            clear hE a; intro a hE
            refine p_cons (s_call (xs := [Operand.tmp 87]) (args := [Value.float .f64 xm]) p34_11_5 hE (wn_some g34_11_2 rfl rfl) rfl rfl Try.func14 cl14 (Me.rright_any xm hxm true (decide_eq_true hRI) _) ?_)
            rintro e w17 ⟨rfl, hk⟩
            replace B_g := kp_blk B_g hk (fun h => h)
            replace B_gm := kp_blk B_gm hk (fun h => h)
            replace B_gd := kp_blk B_gd hk (fun h => h)
            replace B_gs := kp_blk B_gs hk (fun h => h)
            replace K_0 := K_0.then_ hk (fun _ h => h.elim)
            refine ⟨_, rfl, ?_⟩
            clear hE a; intro a hE
            refine p_cons (s_still p34_11_6 hE (wn_some g34_11_2 rfl rfl) rfl (st_not rfl rfl) ?_)
            clear hE a; intro a hE
            refine q0 p34_11_7 hE (st_pick rfl rfl) ?_
            clear hE a; intro a hE
            refine p_nil ?_
            refine x_norm ?_
            refine c_cond (t := false) hE rfl ?_
            refine wp_skip ?_
            refine x_norm ?_
            refine c_reg R34_13_l ?_
            refine q0 p34_13_0 hE (st_fieldAddr Try.underlying61 rfl tS22 rfl rfl) ?_
            clear hE a; intro a hE
            refine q0 p34_13_1 hE (st_load1 tA22 rfl ((blk_cell B_gs 4).trans rfl)) ?_
            clear hE a; intro a hE
            refine p_cons (s_call (xs := [Operand.tmp 94]) (args := [Value.float .f64 xm]) p34_13_2 hE wn_none rfl rfl Try.func15 cl15 (Me.rcost_any xm hRI (Fl.costV xm) rfl _) ?_)
            rintro e w18 ⟨rfl, hk⟩
            replace B_g := kp_blk B_g hk (fun h => h)
            replace B_gm := kp_blk B_gm hk (fun h => h)
            replace B_gd := kp_blk B_gd hk (fun h => h)
            replace B_gs := kp_blk B_gs hk (fun h => h)
            replace K_0 := K_0.then_ hk (fun _ h => h.elim)
            refine ⟨_, rfl, ?_⟩
            clear hE a; intro a hE
            refine q0 p34_13_3 hE (st_assign rfl) ?_
            clear hE a; intro a hE
            refine p_nil ?_
            refine x_norm ?_
            refine wp_seq ?_
            refine c_reg R34_14_l ?_
            refine q0 p34_14_0 hE (st_move rfl) ?_
            clear hE a; intro a hE
            refine q0 p34_14_1 hE (st_eql (b := false) rfl rfl (decide_eq_false hC5)) ?_
            clear hE a; intro a hE
            refine p_nil ?_
            refine x_norm ?_
            refine c_cond (t := false) hE rfl ?_
            refine wp_skip ?_
            refine x_norm ?_
            refine c_reg R34_16_l ?_
            refine q0 p34_16_0 hE (st_move rfl) ?_
            clear hE a; intro a hE
            refine q0 p34_16_1 hE (st_fieldAddr Try.underlying61 rfl tS3 rfl rfl) ?_
            clear hE a; intro a hE
            refine q0 p34_16_2 hE (st_load1 tA3 rfl ((blk_cell B_gs 1).trans rfl)) ?_
            clear hE a; intro a hE
            refine q0 p34_16_3 hE (st_fieldAddr Try.underlying61 rfl tS3 rfl rfl) ?_
            clear hE a; intro a hE
            refine q0 p34_16_4 hE (st_load1 tA3 rfl ((blk_cell B_gs 2).trans rfl)) ?_
            clear hE a; intro a hE
            refine q0 p34_16_5 hE (st_move rfl) ?_
            clear hE a; intro a hE
            refine p_cons (s_call (xs := [Operand.tmp 98, Operand.tmp 100, Operand.tmp 102, Operand.tmp 103]) (args := [Value.pointer (some ⟨gd, 0, none⟩), Value.int .i64 (p : Int), Value.int .i64 (q : Int), Value.int .i64 (Fl.costV xm)]) p34_16_6 hE wn_none rfl rfl Try.func56 cl56 (rset_any gd (nn : Int) D p q (by omega) (by omega) (Fl.costV xm) _ B_gd) ?_)
            rintro e w19 ⟨rfl, B_gd', hk⟩
            replace B_g := kp_blk B_g hk n_g_gd
            replace B_gm := kp_blk B_gm hk n_gm_gd
            replace B_gs := kp_blk B_gs hk (Ne.symm n_gd_gs)
            replace K_0 := K_0.then_ hk (fun k h => by rw [show k = gd from h]; exact Or.inl (Or.inr rfl))
            replace B_gd := B_gd'
            refine ⟨_, rfl, ?_⟩
            clear hE a; intro a hE
            refine p_nil ?_
            refine x_norm ?_
            refine c_reg R34_17_l ?_
            refine q0 p34_17_0 hE (st_move rfl) ?_
            clear hE a; intro a hE
            refine q0 p34_17_1 hE (st_eql (b := true) rfl rfl (by decide)) ?_
            clear hE a; intro a hE
            refine q0 p34_17_2 hE (st_assign rfl) ?_
            clear hE a; intro a hE
            refine p_nil ?_
            refine x_norm ?_
            refine wp_ret ?_
            refine x_retB ?_
            refine x_ret ?_
            refine ret_one (v := Value.bool true) rfl hE (.tmp rfl .nil) ?_
            exact hR _ esm15 ckm15 (Mp.setF f (min (p : Int) (q : Int)) (max (p : Int) (q : Int)) (Fl.costV xm)) (Lm.setD (Lm.setD D p q (Fl.costV xm)) q p (Fl.costV xm)) MFm15 (hrel.set (by have := costV_rng hRI; omega) hpq) B_gm B_gd K_0
        ·
          refine c_reg R34_10_l ?_
          refine q0 p34_10_0 hE (st_move rfl) ?_
          clear hE a; intro a hE
          refine q0 p34_10_1 hE (st_fieldAddr Try.underlying61 rfl tS3 rfl rfl) ?_
          clear hE a; intro a hE
          refine q0 p34_10_2 hE (st_load1 tA3 rfl ((blk_cell B_gs 1).trans rfl)) ?_
          clear hE a; intro a hE
          refine q0 p34_10_3 hE (st_fieldAddr Try.underlying61 rfl tS3 rfl rfl) ?_
          clear hE a; intro a hE
          refine q0 p34_10_4 hE (st_load1 tA3 rfl ((blk_cell B_gs 2).trans rfl)) ?_
          clear hE a; intro a hE
          refine q0 p34_10_5 hE (st_fieldAddr Try.underlying61 rfl tS22 rfl rfl) ?_
          clear hE a; intro a hE
          refine q0 p34_10_6 hE (st_load1 tA22 rfl ((blk_cell B_gs 4).trans rfl)) ?_
          clear hE a; intro a hE
          have hmc : measC (nn : Int) (p : Int) (q : Int) xm = 1 := if_neg (fun h => hRI h.2)
          have hmf : measF (nn : Int) f (p : Int) (q : Int) xm = f := by unfold measF; rw [if_neg (fun h => hRI h.2)]
          have hct := meas_any g gm _ nn _ f (p : Int) (q : Int) xm hxm W B_g B_gm hF n_g_gm
          rw [hmc, hmf] at hct
          refine p_cons (s_call (xs := [Operand.tmp 75, Operand.tmp 77, Operand.tmp 79, Operand.tmp 81]) (args := [Value.pointer (some ⟨g, 0, none⟩), Value.int .i64 (p : Int), Value.int .i64 (q : Int), Value.float .f64 xm]) p34_10_7 hE wn_none rfl rfl Try.func57 cl57 (hct) ?_)
          rintro e w21 ⟨esm20, ckm20, rfl, MFm20, B_gm', hk⟩
          replace B_g := kp_blk B_g hk n_g_gm
          replace B_gd := kp_blk B_gd hk (Ne.symm n_gm_gd)
          replace B_gs := kp_blk B_gs hk (Ne.symm n_gm_gs)
          replace K_0 := K_0.then_ hk (fun k h => by rw [show k = gm from h]; exact Or.inl (Or.inl rfl))
          replace B_gm := B_gm'
          refine ⟨_, rfl, ?_⟩
          clear hE a; intro a hE
          refine q0 p34_10_8 hE (st_assign rfl) ?_
          clear hE a; intro a hE
          refine p_nil ?_
          refine x_norm ?_
          refine wp_seq ?_
          refine c_reg R34_11_l ?_
          refine q0 p34_11_0 hE (st_move rfl) ?_
          clear hE a; intro a hE
          refine q0 p34_11_1 hE (st_not rfl rfl) ?_
          clear hE a; intro a hE
          refine q0 p34_11_2 hE (st_move rfl) ?_
          clear hE a; intro a hE
          refine p_cons (s_still p34_11_3 hE (wn_some g34_11_2 rfl rfl) rfl (st_fieldAddr Try.underlying61 rfl tS22 rfl rfl) ?_)
          clear hE a; intro a hE
          refine p_cons (s_still p34_11_4 hE (wn_some g34_11_2 rfl rfl) rfl (st_load1 tA22 rfl ((blk_cell B_gs 4).trans rfl)) ?_)
          clear hE a; intro a hE
          refine p_cons (s_call (xs := [Operand.tmp 87]) (args := [Value.float .f64 xm]) p34_11_5 hE (wn_some g34_11_2 rfl rfl) rfl rfl Try.func14 cl14 (Me.rright_any xm hxm false (decide_eq_false hRI) _) ?_)
          rintro e w22 ⟨rfl, hk⟩
          replace B_g := kp_blk B_g hk (fun h => h)
          replace B_gm := kp_blk B_gm hk (fun h => h)
          replace B_gd := kp_blk B_gd hk (fun h => h)
          replace B_gs := kp_blk B_gs hk (fun h => h)
          replace K_0 := K_0.then_ hk (fun _ h => h.elim)
          refine ⟨_, rfl, ?_⟩
          clear hE a; intro a hE
          refine p_cons (s_still p34_11_6 hE (wn_some g34_11_2 rfl rfl) rfl (st_not rfl rfl) ?_)
          clear hE a; intro a hE
          refine q0 p34_11_7 hE (st_pick rfl rfl) ?_
          clear hE a; intro a hE
          refine p_nil ?_
          refine x_norm ?_
          refine c_cond (t := true) hE rfl ?_
          refine c_reg R34_12_l ?_
          refine q0 p34_12_0 hE (st_move rfl) ?_
          clear hE a; intro a hE
          refine q0 p34_12_1 hE (st_eql (b := true) rfl rfl (by decide)) ?_
          clear hE a; intro a hE
          refine q0 p34_12_2 hE (st_assign rfl) ?_
          clear hE a; intro a hE
          refine p_nil ?_
          refine x_norm ?_
          refine wp_ret ?_
          refine x_ret ?_
          refine x_retB ?_
          refine x_ret ?_
          refine ret_one (v := Value.bool true) rfl hE (.tmp rfl .nil) ?_
          exact hR _ esm20 ckm20 f D MFm20 hrel B_gm B_gd K_0
      ·
        have hOKf : okx = false := by simpa using hOK
        subst hOKf
        refine c_reg R34_10_l ?_
        refine q0 p34_10_0 hE (st_move rfl) ?_
        clear hE a; intro a hE
        refine q0 p34_10_1 hE (st_fieldAddr Try.underlying61 rfl tS3 rfl rfl) ?_
        clear hE a; intro a hE
        refine q0 p34_10_2 hE (st_load1 tA3 rfl ((blk_cell B_gs 1).trans rfl)) ?_
        clear hE a; intro a hE
        refine q0 p34_10_3 hE (st_fieldAddr Try.underlying61 rfl tS3 rfl rfl) ?_
        clear hE a; intro a hE
        refine q0 p34_10_4 hE (st_load1 tA3 rfl ((blk_cell B_gs 2).trans rfl)) ?_
        clear hE a; intro a hE
        refine q0 p34_10_5 hE (st_fieldAddr Try.underlying61 rfl tS22 rfl rfl) ?_
        clear hE a; intro a hE
        refine q0 p34_10_6 hE (st_load1 tA22 rfl ((blk_cell B_gs 4).trans rfl)) ?_
        clear hE a; intro a hE
        have hmc : measC (nn : Int) xa xb xm = 1 := if_neg (fun h => by have := hok.trans h.1; cases this)
        have hmf : measF (nn : Int) f xa xb xm = f := by unfold measF; rw [if_neg (fun h => by have := hok.trans h.1; cases this)]
        have hct := meas_any g gm _ nn _ f xa xb xm hxm W B_g B_gm hF n_g_gm
        rw [hmc, hmf] at hct
        refine p_cons (s_call (xs := [Operand.tmp 75, Operand.tmp 77, Operand.tmp 79, Operand.tmp 81]) (args := [Value.pointer (some ⟨g, 0, none⟩), Value.int .i64 xa, Value.int .i64 xb, Value.float .f64 xm]) p34_10_7 hE wn_none rfl rfl Try.func57 cl57 (hct) ?_)
        rintro e w24 ⟨esm23, ckm23, rfl, MFm23, B_gm', hk⟩
        replace B_g := kp_blk B_g hk n_g_gm
        replace B_gd := kp_blk B_gd hk (Ne.symm n_gm_gd)
        replace B_gs := kp_blk B_gs hk (Ne.symm n_gm_gs)
        replace K_0 := K_0.then_ hk (fun k h => by rw [show k = gm from h]; exact Or.inl (Or.inl rfl))
        replace B_gm := B_gm'
        refine ⟨_, rfl, ?_⟩
        clear hE a; intro a hE
        refine q0 p34_10_8 hE (st_assign rfl) ?_
        clear hE a; intro a hE
        refine p_nil ?_
        refine x_norm ?_
        refine wp_seq ?_
        refine c_reg R34_11_l ?_
        refine q0 p34_11_0 hE (st_move rfl) ?_
        clear hE a; intro a hE
        refine q0 p34_11_1 hE (st_not rfl rfl) ?_
        clear hE a; intro a hE
        refine q0 p34_11_2 hE (st_move rfl) ?_
        clear hE a; intro a hE
        refine p_cons (s_skip p34_11_3 hE (wn_some g34_11_2 rfl rfl) rfl ?_)
        clear hE a; intro a hE
        refine p_cons (s_skip p34_11_4 hE (wn_some g34_11_2 rfl rfl) rfl ?_)
        clear hE a; intro a hE
        refine p_cons (s_skip p34_11_5 hE (wn_some g34_11_2 rfl rfl) rfl ?_)
        clear hE a; intro a hE
        refine p_cons (s_skip p34_11_6 hE (wn_some g34_11_2 rfl rfl) rfl ?_)
        clear hE a; intro a hE
        refine q0 p34_11_7 hE (st_pick rfl rfl) ?_
        clear hE a; intro a hE
        refine p_nil ?_
        refine x_norm ?_
        refine c_cond (t := true) hE rfl ?_
        refine c_reg R34_12_l ?_
        refine q0 p34_12_0 hE (st_move rfl) ?_
        clear hE a; intro a hE
        refine q0 p34_12_1 hE (st_eql (b := true) rfl rfl (by decide)) ?_
        clear hE a; intro a hE
        refine q0 p34_12_2 hE (st_assign rfl) ?_
        clear hE a; intro a hE
        refine p_nil ?_
        refine x_norm ?_
        refine wp_ret ?_
        refine x_ret ?_
        refine x_retB ?_
        refine x_ret ?_
        refine ret_one (v := Value.bool true) rfl hE (.tmp rfl .nil) ?_
        exact hR _ esm23 ckm23 f D MFm23 hrel B_gm B_gd K_0
    ·
      refine c_reg R34_9_l ?_
      refine q0 p34_9_0 hE (st_eql (b := false) rfl rfl (decide_eq_false hKB)) ?_
      clear hE a; intro a hE
      refine q0 p34_9_1 hE (st_assign rfl) ?_
      clear hE a; intro a hE
      refine p_nil ?_
      refine x_norm ?_
      refine c_cond (t := false) hE rfl ?_
      rcases Decidable.em ((xk % 18446744073709551616 % 5) = 2) with hKC | hKC
      ·
        refine c_reg R34_18_l ?_
        refine q0 p34_18_0 hE (st_eql (b := true) rfl rfl (decide_eq_true hKC)) ?_
        clear hE a; intro a hE
        refine q0 p34_18_1 hE (st_assign rfl) ?_
        clear hE a; intro a hE
        refine p_nil ?_
        refine x_norm ?_
        refine c_cond (t := true) hE rfl ?_
        rcases Decidable.em (nodeB (nn : Int) xa = true) with hNA | hNA
        ·
          rcases Decidable.em (nodeB (nn : Int) xb = true) with hNB | hNB
          ·
            obtain ⟨p, rfl, hp⟩ := node_open hNA
            obtain ⟨q, rfl, hq⟩ := node_open hNB
            rcases Decidable.em (0 < D p q) with hPO | hPO
            ·
              refine c_reg R34_19_l ?_
              refine q0 p34_19_0 hE (st_move rfl) ?_
              clear hE a; intro a hE
              refine q0 p34_19_1 hE (st_fieldAddr Try.underlying61 rfl tS3 rfl rfl) ?_
              clear hE a; intro a hE
              refine q0 p34_19_2 hE (st_load1 tA3 rfl ((blk_cell B_gs 1).trans rfl)) ?_
              clear hE a; intro a hE
              refine q0 p34_19_3 hE (st_fieldAddr Try.underlying61 rfl tS3 rfl rfl) ?_
              clear hE a; intro a hE
              refine q0 p34_19_4 hE (st_load1 tA3 rfl ((blk_cell B_gs 2).trans rfl)) ?_
              clear hE a; intro a hE
              refine p_cons (s_row (xs := [(0, Operand.tmp 114)]) (vs := [(0, Value.int .i64 (q : Int))]) (cs := #[Value.int .i64 (q : Int)]) p34_19_5 hE wn_none rfl Try.underlying52 rfl (by kernel_rfl) ?_)
              clear hE a; intro g25 w26 z27 B_g25 hk a hE
              have n_g_g25 : g ≠ g25 := ne_new B_g z27
              have n_gm_g25 : gm ≠ g25 := ne_new B_gm z27
              have n_gd_g25 : gd ≠ g25 := ne_new B_gd z27
              have n_gs_g25 : gs ≠ g25 := ne_new B_gs z27
              have z_0_g25 := Nat.le_trans K_0.kept.1 z27
              replace B_g := kp_blk B_g hk (fun h => h)
              replace B_gm := kp_blk B_gm hk (fun h => h)
              replace B_gd := kp_blk B_gd hk (fun h => h)
              replace B_gs := kp_blk B_gs hk (fun h => h)
              replace K_0 := K_0.then_ hk (fun _ h => h.elim)
              clear hk
              have hct := cut1_ok g gm _ nn _ f (p : Int) (q : Int) g25 hNA hNB w26 B_g25 n_g_g25 B_g B_gm hF n_g_gm
              have hcn : (if (f (min (p : Int) (q : Int)) (max (p : Int) (q : Int))).isSome then (1 : Int) else 0) = 1 := by rw [hrel.val p q hp hq, if_pos hPO]; rfl
              rw [hcn] at hct
              refine p_cons (s_call (xs := [Operand.tmp 110, Operand.tmp 112, Operand.tmp 115]) (args := [Value.pointer (some ⟨g, 0, none⟩), Value.int .i64 (p : Int), Value.slice (some ⟨g25, 0, none⟩) 1 1]) p34_19_6 hE wn_none rfl rfl Try.func36 cl36 (hct) ?_)
              rintro e w29 ⟨esm28, rfl, MFm28, B_gm', hk⟩
              replace B_g := kp_blk B_g hk n_g_gm
              replace B_gd := kp_blk B_gd hk (Ne.symm n_gm_gd)
              replace B_gs := kp_blk B_gs hk (Ne.symm n_gm_gs)
              replace B_g25 := kp_blk B_g25 hk (Ne.symm n_gm_g25)
              replace K_0 := K_0.then_ hk (fun k h => by rw [show k = gm from h]; exact Or.inl (Or.inl rfl))
              replace B_gm := B_gm'
              refine ⟨_, rfl, ?_⟩
              clear hE a; intro a hE
              refine q0 p34_19_7 hE (st_move rfl) ?_
              clear hE a; intro a hE
              refine q0 p34_19_8 hE (st_extract rfl rfl) ?_
              clear hE a; intro a hE
              refine q0 p34_19_9 hE (st_extract rfl rfl) ?_
              clear hE a; intro a hE
              refine q0 p34_19_10 hE (st_assign rfl) ?_
              clear hE a; intro a hE
              refine q0 p34_19_11 hE (st_assign rfl) ?_
              clear hE a; intro a hE
              refine p_nil ?_
              refine x_norm ?_
              refine wp_seq ?_
              refine c_reg R34_20_l ?_
              refine q0 p34_20_0 hE (st_move rfl) ?_
              clear hE a; intro a hE
              refine q0 p34_20_1 hE (st_fieldAddr Try.underlying61 rfl tS3 rfl rfl) ?_
              clear hE a; intro a hE
              refine q0 p34_20_2 hE (st_load1 tA3 rfl ((blk_cell B_gs 1).trans rfl)) ?_
              clear hE a; intro a hE
              refine p_cons (s_call (xs := [Operand.tmp 119, Operand.tmp 121]) (args := [Value.pointer (some ⟨gd, 0, none⟩), Value.int .i64 (p : Int)]) p34_20_3 hE wn_none rfl rfl Try.func38 cl38 (rnode_any gd (nn : Int) D (p : Int) true hNA _ B_gd) ?_)
              rintro e w30 ⟨rfl, hk⟩
              replace B_g := kp_blk B_g hk (fun h => h)
              replace B_gm := kp_blk B_gm hk (fun h => h)
              replace B_gd := kp_blk B_gd hk (fun h => h)
              replace B_gs := kp_blk B_gs hk (fun h => h)
              replace B_g25 := kp_blk B_g25 hk (fun h => h)
              replace K_0 := K_0.then_ hk (fun _ h => h.elim)
              refine ⟨_, rfl, ?_⟩
              clear hE a; intro a hE
              refine q0 p34_20_4 hE (st_not rfl rfl) ?_
              clear hE a; intro a hE
              refine q0 p34_20_5 hE (st_move rfl) ?_
              clear hE a; intro a hE
              refine p_cons (s_still p34_20_6 hE (wn_some g34_20_5 rfl rfl) rfl (st_move rfl) ?_)
              clear hE a; intro a hE
              refine p_cons (s_still p34_20_7 hE (wn_some g34_20_5 rfl rfl) rfl (st_fieldAddr Try.underlying61 rfl tS3 rfl rfl) ?_)
              clear hE a; intro a hE
              refine p_cons (s_still p34_20_8 hE (wn_some g34_20_5 rfl rfl) rfl (st_load1 tA3 rfl ((blk_cell B_gs 2).trans rfl)) ?_)
              clear hE a; intro a hE
              refine p_cons (s_call (xs := [Operand.tmp 125, Operand.tmp 127]) (args := [Value.pointer (some ⟨gd, 0, none⟩), Value.int .i64 (q : Int)]) p34_20_9 hE (wn_some g34_20_5 rfl rfl) rfl rfl Try.func38 cl38 (rnode_any gd (nn : Int) D (q : Int) true hNB _ B_gd) ?_)
              rintro e w31 ⟨rfl, hk⟩
              replace B_g := kp_blk B_g hk (fun h => h)
              replace B_gm := kp_blk B_gm hk (fun h => h)
              replace B_gd := kp_blk B_gd hk (fun h => h)
              replace B_gs := kp_blk B_gs hk (fun h => h)
              replace B_g25 := kp_blk B_g25 hk (fun h => h)
              replace K_0 := K_0.then_ hk (fun _ h => h.elim)
              refine ⟨_, rfl, ?_⟩
              clear hE a; intro a hE
              refine p_cons (s_still p34_20_10 hE (wn_some g34_20_5 rfl rfl) rfl (st_not rfl rfl) ?_)
              clear hE a; intro a hE
              refine q0 p34_20_11 hE (st_pick rfl rfl) ?_
              clear hE a; intro a hE
              refine p_nil ?_
              refine x_norm ?_
              refine c_cond (t := false) hE rfl ?_
              refine wp_skip ?_
              refine x_norm ?_
              refine c_reg R34_22_l ?_
              refine q0 p34_22_0 hE (st_assign rfl) ?_
              clear hE a; intro a hE
              refine p_nil ?_
              refine x_norm ?_
              refine wp_seq ?_
              refine c_drawS (S := fun W => W.heap[gd]? = some (.cells (Lm.cellsD (nn : Int) D) 71 (0, 0)) ∧ W.heap[gs]? = some (.cells #[Value.int .i64 xk, Value.int .i64 (p : Int), Value.int .i64 (q : Int), Value.int .i64 xc, Value.float .f64 xm] 61 (0, 0)) ∧ True) rfl rfl (listed := #[false, false, false, false, false, false, false, false, false, false, false]) rfl ?_
              intro w32 hh hk
              replace B_g := kp_blk B_g hk (fun h => h)
              replace B_gm := kp_blk B_gm hk (fun h => h)
              replace B_gd := kp_blk B_gd hk (fun h => h)
              replace B_gs := kp_blk B_gs hk (fun h => h)
              replace B_g25 := kp_blk B_g25 hk (fun h => h)
              replace K_0 := K_0.then_ hk (fun _ h => h.elim)
              clear hh hk
              refine d_take (v := Value.pointer (some ⟨gd, 0, none⟩)) p34_23_0 ns34_23 (by kernel_rfl) (by kernel_rfl) (fun _ _ _ h => h) hE wn_none rfl ⟨B_gd, B_gs, trivial⟩ (fun W hS => (st_move rfl)) rfl ?_
              clear hE a; intro a hE
              refine d_take (v := Value.pointer (some ⟨gs, 1, none⟩)) p34_23_1 ns34_23 (by kernel_rfl) (by kernel_rfl) (fun _ _ _ h => h) hE wn_none rfl ⟨B_gd, B_gs, trivial⟩ (fun W hS => (st_fieldAddr Try.underlying61 rfl tS3 rfl rfl)) rfl ?_
              clear hE a; intro a hE
              refine d_take (v := Value.int .i64 (p : Int)) p34_23_2 ns34_23 (by kernel_rfl) (by kernel_rfl) (fun _ _ _ h => h) hE wn_none rfl ⟨B_gd, B_gs, trivial⟩ (fun W hS => (st_load1 tA3 rfl ((blk_cell hS.2.1 1).trans rfl))) rfl ?_
              clear hE a; intro a hE
              refine d_take (v := Value.pointer (some ⟨gs, 2, none⟩)) p34_23_3 ns34_23 (by kernel_rfl) (by kernel_rfl) (fun _ _ _ h => h) hE wn_none rfl ⟨B_gd, B_gs, trivial⟩ (fun W hS => (st_fieldAddr Try.underlying61 rfl tS3 rfl rfl)) rfl ?_
              clear hE a; intro a hE
              refine d_take (v := Value.int .i64 (q : Int)) p34_23_4 ns34_23 (by kernel_rfl) (by kernel_rfl) (fun _ _ _ h => h) hE wn_none rfl ⟨B_gd, B_gs, trivial⟩ (fun W hS => (st_load1 tA3 rfl ((blk_cell hS.2.1 2).trans rfl))) rfl ?_
              clear hE a; intro a hE
              refine d_take (v := Value.pointer (some ⟨gd, 0, none⟩)) p34_23_5 ns34_23 (by kernel_rfl) (by kernel_rfl) (fun _ _ _ h => h) hE wn_none rfl ⟨B_gd, B_gs, trivial⟩ (fun W hS => (st_nil rfl)) rfl ?_
              clear hE a; intro a hE
              refine d_take (v := Value.pointer (some ⟨gd, 1, none⟩)) p34_23_6 ns34_23 (by kernel_rfl) (by kernel_rfl) (fun _ _ _ h => h) hE wn_none rfl ⟨B_gd, B_gs, trivial⟩ (fun W hS => (st_fieldAddr Try.underlying71 rfl tS69 rfl rfl)) rfl ?_
              clear hE a; intro a hE
              refine d_take (v := Value.pointer (some ⟨gd, (1 + p * 64), none⟩)) p34_23_7 ns34_23 (by kernel_rfl) (by kernel_rfl) (fun _ _ _ h => h) hE wn_none rfl ⟨B_gd, B_gs, trivial⟩ (fun W hS => (st_indexAddrA (l := 64) (i := p) (o' := 1 + p * 64) Try.underlying69 tS68 rfl rfl (by omega) rfl)) rfl ?_
              clear hE a; intro a hE
              refine d_take (v := Value.pointer (some ⟨gd, ((1 + p * 64) + q), none⟩)) p34_23_8 ns34_23 (by kernel_rfl) (by kernel_rfl) (fun _ _ _ h => h) hE wn_none rfl ⟨B_gd, B_gs, trivial⟩ (fun W hS => (st_indexAddrA (l := 64) (i := q) (o' := (1 + p * 64) + q) Try.underlying68 tS3 rfl rfl (by omega) (by omega))) rfl ?_
              clear hE a; intro a hE
              refine d_take (v := Value.int .i64 (D p q)) p34_23_9 ns34_23 (by kernel_rfl) (by kernel_rfl) (fun _ _ _ h => h) hE wn_none rfl ⟨B_gd, B_gs, trivial⟩ (fun W hS => (st_load1 tA3 rfl ((blk_cell hS.1 _).trans (Lm.cD (by omega) (by omega) rfl)))) rfl ?_
              clear hE a; intro a hE
              refine d_take (v := Value.bool true) p34_23_10 ns34_23 (by kernel_rfl) (by kernel_rfl) (fun _ _ _ h => h) hE wn_none rfl ⟨B_gd, B_gs, trivial⟩ (fun W hS => (st_gtr (b := true) rfl rfl (decide_eq_true hPO))) rfl ?_
              clear hE a; intro a hE
              refine d_end (by kernel_rfl) ?_
              refine x_norm ?_
              refine c_cond (t := true) hE rfl ?_
              refine c_regL R34_24_l ?_
              refine q0 p34_24_0 hE (st_assign rfl) ?_
              clear hE a; intro a hE
              refine p_nil ?_
              refine x_norm ?_
              refine c_reg R34_25_l ?_
              refine q0 p34_25_0 hE (st_move rfl) ?_
              clear hE a; intro a hE
              refine q0 p34_25_1 hE (st_fieldAddr Try.underlying61 rfl tS3 rfl rfl) ?_
              clear hE a; intro a hE
              refine q0 p34_25_2 hE (st_load1 tA3 rfl ((blk_cell B_gs 1).trans rfl)) ?_
              clear hE a; intro a hE
              refine q0 p34_25_3 hE (st_fieldAddr Try.underlying61 rfl tS3 rfl rfl) ?_
              clear hE a; intro a hE
              refine q0 p34_25_4 hE (st_load1 tA3 rfl ((blk_cell B_gs 2).trans rfl)) ?_
              clear hE a; intro a hE
              refine p_cons (s_call (xs := [Operand.tmp 148, Operand.tmp 150, Operand.tmp 152, Operand.const (Value.int IntKind.i64 0)]) (args := [Value.pointer (some ⟨gd, 0, none⟩), Value.int .i64 (p : Int), Value.int .i64 (q : Int), Value.int .i64 0]) p34_25_5 hE wn_none rfl rfl Try.func56 cl56 (rset_any gd (nn : Int) D p q (by omega) (by omega) 0 _ B_gd) ?_)
              rintro e w33 ⟨rfl, B_gd', hk⟩
              replace B_g := kp_blk B_g hk n_g_gd
              replace B_gm := kp_blk B_gm hk n_gm_gd
              replace B_gs := kp_blk B_gs hk (Ne.symm n_gd_gs)
              replace B_g25 := kp_blk B_g25 hk (Ne.symm n_gd_g25)
              replace K_0 := K_0.then_ hk (fun k h => by rw [show k = gd from h]; exact Or.inl (Or.inr rfl))
              replace B_gd := B_gd'
              refine ⟨_, rfl, ?_⟩
              clear hE a; intro a hE
              refine p_nil ?_
              refine x_norm ?_
              refine c_reg R34_26_l ?_
              refine q0 p34_26_0 hE (st_move rfl) ?_
              clear hE a; intro a hE
              refine q0 p34_26_1 hE (st_eql (b := true) rfl rfl (by decide)) ?_
              clear hE a; intro a hE
              refine q0 p34_26_2 hE (st_move rfl) ?_
              clear hE a; intro a hE
              refine p_cons (s_still p34_26_3 hE (wn_some g34_26_2 rfl rfl) rfl (st_move rfl) ?_)
              clear hE a; intro a hE
              refine p_cons (s_still p34_26_4 hE (wn_some g34_26_2 rfl rfl) rfl (st_move rfl) ?_)
              clear hE a; intro a hE
              refine p_cons (s_still p34_26_5 hE (wn_some g34_26_2 rfl rfl) rfl (st_eql (b := true) rfl rfl (by decide)) ?_)
              clear hE a; intro a hE
              refine q0 p34_26_6 hE (st_pick rfl rfl) ?_
              clear hE a; intro a hE
              refine q0 p34_26_7 hE (st_assign rfl) ?_
              clear hE a; intro a hE
              refine p_nil ?_
              refine x_norm ?_
              refine wp_ret ?_
              refine x_retB ?_
              refine x_ret ?_
              refine ret_one (v := Value.bool true) rfl hE (.tmp rfl .nil) ?_
              exact hR _ esm28 ck (Lm.delF f (min (p : Int) (q : Int)) (max (p : Int) (q : Int))) (Lm.setD (Lm.setD D p q 0) q p 0) MFm28 hrel.del B_gm B_gd K_0
            ·
              refine c_reg R34_19_l ?_
              refine q0 p34_19_0 hE (st_move rfl) ?_
              clear hE a; intro a hE
              refine q0 p34_19_1 hE (st_fieldAddr Try.underlying61 rfl tS3 rfl rfl) ?_
              clear hE a; intro a hE
              refine q0 p34_19_2 hE (st_load1 tA3 rfl ((blk_cell B_gs 1).trans rfl)) ?_
              clear hE a; intro a hE
              refine q0 p34_19_3 hE (st_fieldAddr Try.underlying61 rfl tS3 rfl rfl) ?_
              clear hE a; intro a hE
              refine q0 p34_19_4 hE (st_load1 tA3 rfl ((blk_cell B_gs 2).trans rfl)) ?_
              clear hE a; intro a hE
              refine p_cons (s_row (xs := [(0, Operand.tmp 114)]) (vs := [(0, Value.int .i64 (q : Int))]) (cs := #[Value.int .i64 (q : Int)]) p34_19_5 hE wn_none rfl Try.underlying52 rfl (by kernel_rfl) ?_)
              clear hE a; intro g34 w35 z36 B_g34 hk a hE
              have n_g_g34 : g ≠ g34 := ne_new B_g z36
              have n_gm_g34 : gm ≠ g34 := ne_new B_gm z36
              have n_gd_g34 : gd ≠ g34 := ne_new B_gd z36
              have n_gs_g34 : gs ≠ g34 := ne_new B_gs z36
              have z_0_g34 := Nat.le_trans K_0.kept.1 z36
              replace B_g := kp_blk B_g hk (fun h => h)
              replace B_gm := kp_blk B_gm hk (fun h => h)
              replace B_gd := kp_blk B_gd hk (fun h => h)
              replace B_gs := kp_blk B_gs hk (fun h => h)
              replace K_0 := K_0.then_ hk (fun _ h => h.elim)
              clear hk
              have hct := cut1_ok g gm _ nn _ f (p : Int) (q : Int) g34 hNA hNB w35 B_g34 n_g_g34 B_g B_gm hF n_g_gm
              have hcn : (if (f (min (p : Int) (q : Int)) (max (p : Int) (q : Int))).isSome then (1 : Int) else 0) = 0 := by rw [hrel.val p q hp hq, if_neg hPO]; rfl
              rw [hcn] at hct
              refine p_cons (s_call (xs := [Operand.tmp 110, Operand.tmp 112, Operand.tmp 115]) (args := [Value.pointer (some ⟨g, 0, none⟩), Value.int .i64 (p : Int), Value.slice (some ⟨g34, 0, none⟩) 1 1]) p34_19_6 hE wn_none rfl rfl Try.func36 cl36 (hct) ?_)
              rintro e w38 ⟨esm37, rfl, MFm37, B_gm', hk⟩
              replace B_g := kp_blk B_g hk n_g_gm
              replace B_gd := kp_blk B_gd hk (Ne.symm n_gm_gd)
              replace B_gs := kp_blk B_gs hk (Ne.symm n_gm_gs)
              replace B_g34 := kp_blk B_g34 hk (Ne.symm n_gm_g34)
              replace K_0 := K_0.then_ hk (fun k h => by rw [show k = gm from h]; exact Or.inl (Or.inl rfl))
              replace B_gm := B_gm'
              refine ⟨_, rfl, ?_⟩
              clear hE a; intro a hE
              refine q0 p34_19_7 hE (st_move rfl) ?_
              clear hE a; intro a hE
              refine q0 p34_19_8 hE (st_extract rfl rfl) ?_
              clear hE a; intro a hE
              refine q0 p34_19_9 hE (st_extract rfl rfl) ?_
              clear hE a; intro a hE
              refine q0 p34_19_10 hE (st_assign rfl) ?_
              clear hE a; intro a hE
              refine q0 p34_19_11 hE (st_assign rfl) ?_
              clear hE a; intro a hE
              refine p_nil ?_
              refine x_norm ?_
              refine wp_seq ?_
              refine c_reg R34_20_l ?_
              refine q0 p34_20_0 hE (st_move rfl) ?_
              clear hE a; intro a hE
              refine q0 p34_20_1 hE (st_fieldAddr Try.underlying61 rfl tS3 rfl rfl) ?_
              clear hE a; intro a hE
              refine q0 p34_20_2 hE (st_load1 tA3 rfl ((blk_cell B_gs 1).trans rfl)) ?_
              clear hE a; intro a hE
              refine p_cons (s_call (xs := [Operand.tmp 119, Operand.tmp 121]) (args := [Value.pointer (some ⟨gd, 0, none⟩), Value.int .i64 (p : Int)]) p34_20_3 hE wn_none rfl rfl Try.func38 cl38 (rnode_any gd (nn : Int) D (p : Int) true hNA _ B_gd) ?_)
              rintro e w39 ⟨rfl, hk⟩
              replace B_g := kp_blk B_g hk (fun h => h)
              replace B_gm := kp_blk B_gm hk (fun h => h)
              replace B_gd := kp_blk B_gd hk (fun h => h)
              replace B_gs := kp_blk B_gs hk (fun h => h)
              replace B_g34 := kp_blk B_g34 hk (fun h => h)
              replace K_0 := K_0.then_ hk (fun _ h => h.elim)
              refine ⟨_, rfl, ?_⟩
              clear hE a; intro a hE
              refine q0 p34_20_4 hE (st_not rfl rfl) ?_
              clear hE a; intro a hE
              refine q0 p34_20_5 hE (st_move rfl) ?_
              clear hE a; intro a hE
              refine p_cons (s_still p34_20_6 hE (wn_some g34_20_5 rfl rfl) rfl (st_move rfl) ?_)
              clear hE a; intro a hE
              refine p_cons (s_still p34_20_7 hE (wn_some g34_20_5 rfl rfl) rfl (st_fieldAddr Try.underlying61 rfl tS3 rfl rfl) ?_)
              clear hE a; intro a hE
              refine p_cons (s_still p34_20_8 hE (wn_some g34_20_5 rfl rfl) rfl (st_load1 tA3 rfl ((blk_cell B_gs 2).trans rfl)) ?_)
              clear hE a; intro a hE
              refine p_cons (s_call (xs := [Operand.tmp 125, Operand.tmp 127]) (args := [Value.pointer (some ⟨gd, 0, none⟩), Value.int .i64 (q : Int)]) p34_20_9 hE (wn_some g34_20_5 rfl rfl) rfl rfl Try.func38 cl38 (rnode_any gd (nn : Int) D (q : Int) true hNB _ B_gd) ?_)
              rintro e w40 ⟨rfl, hk⟩
              replace B_g := kp_blk B_g hk (fun h => h)
              replace B_gm := kp_blk B_gm hk (fun h => h)
              replace B_gd := kp_blk B_gd hk (fun h => h)
              replace B_gs := kp_blk B_gs hk (fun h => h)
              replace B_g34 := kp_blk B_g34 hk (fun h => h)
              replace K_0 := K_0.then_ hk (fun _ h => h.elim)
              refine ⟨_, rfl, ?_⟩
              clear hE a; intro a hE
              refine p_cons (s_still p34_20_10 hE (wn_some g34_20_5 rfl rfl) rfl (st_not rfl rfl) ?_)
              clear hE a; intro a hE
              refine q0 p34_20_11 hE (st_pick rfl rfl) ?_
              clear hE a; intro a hE
              refine p_nil ?_
              refine x_norm ?_
              refine c_cond (t := false) hE rfl ?_
              refine wp_skip ?_
              refine x_norm ?_
              refine c_reg R34_22_l ?_
              refine q0 p34_22_0 hE (st_assign rfl) ?_
              clear hE a; intro a hE
              refine p_nil ?_
              refine x_norm ?_
              refine wp_seq ?_
              refine c_drawS (S := fun W => W.heap[gd]? = some (.cells (Lm.cellsD (nn : Int) D) 71 (0, 0)) ∧ W.heap[gs]? = some (.cells #[Value.int .i64 xk, Value.int .i64 (p : Int), Value.int .i64 (q : Int), Value.int .i64 xc, Value.float .f64 xm] 61 (0, 0)) ∧ True) rfl rfl (listed := #[false, false, false, false, false, false, false, false, false, false, false]) rfl ?_
              intro w41 hh hk
              replace B_g := kp_blk B_g hk (fun h => h)
              replace B_gm := kp_blk B_gm hk (fun h => h)
              replace B_gd := kp_blk B_gd hk (fun h => h)
              replace B_gs := kp_blk B_gs hk (fun h => h)
              replace B_g34 := kp_blk B_g34 hk (fun h => h)
              replace K_0 := K_0.then_ hk (fun _ h => h.elim)
              clear hh hk
              refine d_take (v := Value.pointer (some ⟨gd, 0, none⟩)) p34_23_0 ns34_23 (by kernel_rfl) (by kernel_rfl) (fun _ _ _ h => h) hE wn_none rfl ⟨B_gd, B_gs, trivial⟩ (fun W hS => (st_move rfl)) rfl ?_
              clear hE a; intro a hE
              refine d_take (v := Value.pointer (some ⟨gs, 1, none⟩)) p34_23_1 ns34_23 (by kernel_rfl) (by kernel_rfl) (fun _ _ _ h => h) hE wn_none rfl ⟨B_gd, B_gs, trivial⟩ (fun W hS => (st_fieldAddr Try.underlying61 rfl tS3 rfl rfl)) rfl ?_
              clear hE a; intro a hE
              refine d_take (v := Value.int .i64 (p : Int)) p34_23_2 ns34_23 (by kernel_rfl) (by kernel_rfl) (fun _ _ _ h => h) hE wn_none rfl ⟨B_gd, B_gs, trivial⟩ (fun W hS => (st_load1 tA3 rfl ((blk_cell hS.2.1 1).trans rfl))) rfl ?_
              clear hE a; intro a hE
              refine d_take (v := Value.pointer (some ⟨gs, 2, none⟩)) p34_23_3 ns34_23 (by kernel_rfl) (by kernel_rfl) (fun _ _ _ h => h) hE wn_none rfl ⟨B_gd, B_gs, trivial⟩ (fun W hS => (st_fieldAddr Try.underlying61 rfl tS3 rfl rfl)) rfl ?_
              clear hE a; intro a hE
              refine d_take (v := Value.int .i64 (q : Int)) p34_23_4 ns34_23 (by kernel_rfl) (by kernel_rfl) (fun _ _ _ h => h) hE wn_none rfl ⟨B_gd, B_gs, trivial⟩ (fun W hS => (st_load1 tA3 rfl ((blk_cell hS.2.1 2).trans rfl))) rfl ?_
              clear hE a; intro a hE
              refine d_take (v := Value.pointer (some ⟨gd, 0, none⟩)) p34_23_5 ns34_23 (by kernel_rfl) (by kernel_rfl) (fun _ _ _ h => h) hE wn_none rfl ⟨B_gd, B_gs, trivial⟩ (fun W hS => (st_nil rfl)) rfl ?_
              clear hE a; intro a hE
              refine d_take (v := Value.pointer (some ⟨gd, 1, none⟩)) p34_23_6 ns34_23 (by kernel_rfl) (by kernel_rfl) (fun _ _ _ h => h) hE wn_none rfl ⟨B_gd, B_gs, trivial⟩ (fun W hS => (st_fieldAddr Try.underlying71 rfl tS69 rfl rfl)) rfl ?_
              clear hE a; intro a hE
              refine d_take (v := Value.pointer (some ⟨gd, (1 + p * 64), none⟩)) p34_23_7 ns34_23 (by kernel_rfl) (by kernel_rfl) (fun _ _ _ h => h) hE wn_none rfl ⟨B_gd, B_gs, trivial⟩ (fun W hS => (st_indexAddrA (l := 64) (i := p) (o' := 1 + p * 64) Try.underlying69 tS68 rfl rfl (by omega) rfl)) rfl ?_
              clear hE a; intro a hE
              refine d_take (v := Value.pointer (some ⟨gd, ((1 + p * 64) + q), none⟩)) p34_23_8 ns34_23 (by kernel_rfl) (by kernel_rfl) (fun _ _ _ h => h) hE wn_none rfl ⟨B_gd, B_gs, trivial⟩ (fun W hS => (st_indexAddrA (l := 64) (i := q) (o' := (1 + p * 64) + q) Try.underlying68 tS3 rfl rfl (by omega) (by omega))) rfl ?_
              clear hE a; intro a hE
              refine d_take (v := Value.int .i64 (D p q)) p34_23_9 ns34_23 (by kernel_rfl) (by kernel_rfl) (fun _ _ _ h => h) hE wn_none rfl ⟨B_gd, B_gs, trivial⟩ (fun W hS => (st_load1 tA3 rfl ((blk_cell hS.1 _).trans (Lm.cD (by omega) (by omega) rfl)))) rfl ?_
              clear hE a; intro a hE
              refine d_take (v := Value.bool false) p34_23_10 ns34_23 (by kernel_rfl) (by kernel_rfl) (fun _ _ _ h => h) hE wn_none rfl ⟨B_gd, B_gs, trivial⟩ (fun W hS => (st_gtr (b := false) rfl rfl (decide_eq_false hPO))) rfl ?_
              clear hE a; intro a hE
              refine d_end (by kernel_rfl) ?_
              refine x_norm ?_
              refine c_cond (t := false) hE rfl ?_
              refine wp_skip ?_
              refine x_norm ?_
              refine c_reg R34_25_l ?_
              refine q0 p34_25_0 hE (st_move rfl) ?_
              clear hE a; intro a hE
              refine q0 p34_25_1 hE (st_fieldAddr Try.underlying61 rfl tS3 rfl rfl) ?_
              clear hE a; intro a hE
              refine q0 p34_25_2 hE (st_load1 tA3 rfl ((blk_cell B_gs 1).trans rfl)) ?_
              clear hE a; intro a hE
              refine q0 p34_25_3 hE (st_fieldAddr Try.underlying61 rfl tS3 rfl rfl) ?_
              clear hE a; intro a hE
              refine q0 p34_25_4 hE (st_load1 tA3 rfl ((blk_cell B_gs 2).trans rfl)) ?_
              clear hE a; intro a hE
              refine p_cons (s_call (xs := [Operand.tmp 148, Operand.tmp 150, Operand.tmp 152, Operand.const (Value.int IntKind.i64 0)]) (args := [Value.pointer (some ⟨gd, 0, none⟩), Value.int .i64 (p : Int), Value.int .i64 (q : Int), Value.int .i64 0]) p34_25_5 hE wn_none rfl rfl Try.func56 cl56 (rset_any gd (nn : Int) D p q (by omega) (by omega) 0 _ B_gd) ?_)
              rintro e w42 ⟨rfl, B_gd', hk⟩
              replace B_g := kp_blk B_g hk n_g_gd
              replace B_gm := kp_blk B_gm hk n_gm_gd
              replace B_gs := kp_blk B_gs hk (Ne.symm n_gd_gs)
              replace B_g34 := kp_blk B_g34 hk (Ne.symm n_gd_g34)
              replace K_0 := K_0.then_ hk (fun k h => by rw [show k = gd from h]; exact Or.inl (Or.inr rfl))
              replace B_gd := B_gd'
              refine ⟨_, rfl, ?_⟩
              clear hE a; intro a hE
              refine p_nil ?_
              refine x_norm ?_
              refine c_reg R34_26_l ?_
              refine q0 p34_26_0 hE (st_move rfl) ?_
              clear hE a; intro a hE
              refine q0 p34_26_1 hE (st_eql (b := true) rfl rfl (by decide)) ?_
              clear hE a; intro a hE
              refine q0 p34_26_2 hE (st_move rfl) ?_
              clear hE a; intro a hE
              refine p_cons (s_still p34_26_3 hE (wn_some g34_26_2 rfl rfl) rfl (st_move rfl) ?_)
              clear hE a; intro a hE
              refine p_cons (s_still p34_26_4 hE (wn_some g34_26_2 rfl rfl) rfl (st_move rfl) ?_)
              clear hE a; intro a hE
              refine p_cons (s_still p34_26_5 hE (wn_some g34_26_2 rfl rfl) rfl (st_eql (b := true) rfl rfl (by decide)) ?_)
              clear hE a; intro a hE
              refine q0 p34_26_6 hE (st_pick rfl rfl) ?_
              clear hE a; intro a hE
              refine q0 p34_26_7 hE (st_assign rfl) ?_
              clear hE a; intro a hE
              refine p_nil ?_
              refine x_norm ?_
              refine wp_ret ?_
              refine x_retB ?_
              refine x_ret ?_
              refine ret_one (v := Value.bool true) rfl hE (.tmp rfl .nil) ?_
              exact hR _ esm37 ck (Lm.delF f (min (p : Int) (q : Int)) (max (p : Int) (q : Int))) (Lm.setD (Lm.setD D p q 0) q p 0) MFm37 hrel.del B_gm B_gd K_0
          ·
            refine c_reg R34_19_l ?_
            refine q0 p34_19_0 hE (st_move rfl) ?_
            clear hE a; intro a hE
            refine q0 p34_19_1 hE (st_fieldAddr Try.underlying61 rfl tS3 rfl rfl) ?_
            clear hE a; intro a hE
            refine q0 p34_19_2 hE (st_load1 tA3 rfl ((blk_cell B_gs 1).trans rfl)) ?_
            clear hE a; intro a hE
            refine q0 p34_19_3 hE (st_fieldAddr Try.underlying61 rfl tS3 rfl rfl) ?_
            clear hE a; intro a hE
            refine q0 p34_19_4 hE (st_load1 tA3 rfl ((blk_cell B_gs 2).trans rfl)) ?_
            clear hE a; intro a hE
            refine p_cons (s_row (xs := [(0, Operand.tmp 114)]) (vs := [(0, Value.int .i64 xb)]) (cs := #[Value.int .i64 xb]) p34_19_5 hE wn_none rfl Try.underlying52 rfl (by kernel_rfl) ?_)
            clear hE a; intro g43 w44 z45 B_g43 hk a hE
            have n_g_g43 : g ≠ g43 := ne_new B_g z45
            have n_gm_g43 : gm ≠ g43 := ne_new B_gm z45
            have n_gd_g43 : gd ≠ g43 := ne_new B_gd z45
            have n_gs_g43 : gs ≠ g43 := ne_new B_gs z45
            have z_0_g43 := Nat.le_trans K_0.kept.1 z45
            replace B_g := kp_blk B_g hk (fun h => h)
            replace B_gm := kp_blk B_gm hk (fun h => h)
            replace B_gd := kp_blk B_gd hk (fun h => h)
            replace B_gs := kp_blk B_gs hk (fun h => h)
            replace K_0 := K_0.then_ hk (fun _ h => h.elim)
            clear hk
            refine p_cons (s_call (xs := [Operand.tmp 110, Operand.tmp 112, Operand.tmp 115]) (args := [Value.pointer (some ⟨g, 0, none⟩), Value.int .i64 xa, Value.slice (some ⟨g43, 0, none⟩) 1 1]) p34_19_6 hE wn_none rfl rfl Try.func36 cl36 (cut1_no g gm _ nn _ f xa xb g43 (fun h => hNB h.2) _ B_g43 n_g_g43 B_g B_gm hF n_g_gm) ?_)
            rintro e w47 ⟨rfl, hk⟩
            replace B_g := kp_blk B_g hk (fun h => h)
            replace B_gm := kp_blk B_gm hk (fun h => h)
            replace B_gd := kp_blk B_gd hk (fun h => h)
            replace B_gs := kp_blk B_gs hk (fun h => h)
            replace B_g43 := kp_blk B_g43 hk (fun h => h)
            replace K_0 := K_0.then_ hk (fun _ h => h.elim)
            refine ⟨_, rfl, ?_⟩
            clear hE a; intro a hE
            refine q0 p34_19_7 hE (st_move rfl) ?_
            clear hE a; intro a hE
            refine q0 p34_19_8 hE (st_extract rfl rfl) ?_
            clear hE a; intro a hE
            refine q0 p34_19_9 hE (st_extract rfl rfl) ?_
            clear hE a; intro a hE
            refine q0 p34_19_10 hE (st_assign rfl) ?_
            clear hE a; intro a hE
            refine q0 p34_19_11 hE (st_assign rfl) ?_
            clear hE a; intro a hE
            refine p_nil ?_
            refine x_norm ?_
            refine wp_seq ?_
            refine c_reg R34_20_l ?_
            refine q0 p34_20_0 hE (st_move rfl) ?_
            clear hE a; intro a hE
            refine q0 p34_20_1 hE (st_fieldAddr Try.underlying61 rfl tS3 rfl rfl) ?_
            clear hE a; intro a hE
            refine q0 p34_20_2 hE (st_load1 tA3 rfl ((blk_cell B_gs 1).trans rfl)) ?_
            clear hE a; intro a hE
            refine p_cons (s_call (xs := [Operand.tmp 119, Operand.tmp 121]) (args := [Value.pointer (some ⟨gd, 0, none⟩), Value.int .i64 xa]) p34_20_3 hE wn_none rfl rfl Try.func38 cl38 (rnode_any gd (nn : Int) D xa true hNA _ B_gd) ?_)
            rintro e w48 ⟨rfl, hk⟩
            replace B_g := kp_blk B_g hk (fun h => h)
            replace B_gm := kp_blk B_gm hk (fun h => h)
            replace B_gd := kp_blk B_gd hk (fun h => h)
            replace B_gs := kp_blk B_gs hk (fun h => h)
            replace B_g43 := kp_blk B_g43 hk (fun h => h)
            replace K_0 := K_0.then_ hk (fun _ h => h.elim)
            refine ⟨_, rfl, ?_⟩
            clear hE a; intro a hE
            refine q0 p34_20_4 hE (st_not rfl rfl) ?_
            clear hE a; intro a hE
            refine q0 p34_20_5 hE (st_move rfl) ?_
            clear hE a; intro a hE
            refine p_cons (s_still p34_20_6 hE (wn_some g34_20_5 rfl rfl) rfl (st_move rfl) ?_)
            clear hE a; intro a hE
            refine p_cons (s_still p34_20_7 hE (wn_some g34_20_5 rfl rfl) rfl (st_fieldAddr Try.underlying61 rfl tS3 rfl rfl) ?_)
            clear hE a; intro a hE
            refine p_cons (s_still p34_20_8 hE (wn_some g34_20_5 rfl rfl) rfl (st_load1 tA3 rfl ((blk_cell B_gs 2).trans rfl)) ?_)
            clear hE a; intro a hE
            refine p_cons (s_call (xs := [Operand.tmp 125, Operand.tmp 127]) (args := [Value.pointer (some ⟨gd, 0, none⟩), Value.int .i64 xb]) p34_20_9 hE (wn_some g34_20_5 rfl rfl) rfl rfl Try.func38 cl38 (rnode_any gd (nn : Int) D xb false (by simpa using hNB) _ B_gd) ?_)
            rintro e w49 ⟨rfl, hk⟩
            replace B_g := kp_blk B_g hk (fun h => h)
            replace B_gm := kp_blk B_gm hk (fun h => h)
            replace B_gd := kp_blk B_gd hk (fun h => h)
            replace B_gs := kp_blk B_gs hk (fun h => h)
            replace B_g43 := kp_blk B_g43 hk (fun h => h)
            replace K_0 := K_0.then_ hk (fun _ h => h.elim)
            refine ⟨_, rfl, ?_⟩
            clear hE a; intro a hE
            refine p_cons (s_still p34_20_10 hE (wn_some g34_20_5 rfl rfl) rfl (st_not rfl rfl) ?_)
            clear hE a; intro a hE
            refine q0 p34_20_11 hE (st_pick rfl rfl) ?_
            clear hE a; intro a hE
            refine p_nil ?_
            refine x_norm ?_
            refine c_cond (t := true) hE rfl ?_
            refine c_reg R34_21_l ?_
            refine q0 p34_21_0 hE (st_move rfl) ?_
            clear hE a; intro a hE
            refine q0 p34_21_1 hE (st_eql (b := true) rfl rfl (by decide)) ?_
            clear hE a; intro a hE
            refine q0 p34_21_2 hE (st_move rfl) ?_
            clear hE a; intro a hE
            refine p_cons (s_still p34_21_3 hE (wn_some g34_21_2 rfl rfl) rfl (st_move rfl) ?_)
            clear hE a; intro a hE
            refine p_cons (s_still p34_21_4 hE (wn_some g34_21_2 rfl rfl) rfl (st_eql (b := true) rfl rfl (by decide)) ?_)
            clear hE a; intro a hE
            refine q0 p34_21_5 hE (st_pick rfl rfl) ?_
            clear hE a; intro a hE
            refine q0 p34_21_6 hE (st_assign rfl) ?_
            clear hE a; intro a hE
            refine p_nil ?_
            refine x_norm ?_
            refine wp_ret ?_
            refine x_ret ?_
            refine x_retB ?_
            refine x_ret ?_
            refine ret_one (v := Value.bool true) rfl hE (.tmp rfl .nil) ?_
            exact hR _ es ck f D hF hrel B_gm B_gd K_0
        ·
          refine c_reg R34_19_l ?_
          refine q0 p34_19_0 hE (st_move rfl) ?_
          clear hE a; intro a hE
          refine q0 p34_19_1 hE (st_fieldAddr Try.underlying61 rfl tS3 rfl rfl) ?_
          clear hE a; intro a hE
          refine q0 p34_19_2 hE (st_load1 tA3 rfl ((blk_cell B_gs 1).trans rfl)) ?_
          clear hE a; intro a hE
          refine q0 p34_19_3 hE (st_fieldAddr Try.underlying61 rfl tS3 rfl rfl) ?_
          clear hE a; intro a hE
          refine q0 p34_19_4 hE (st_load1 tA3 rfl ((blk_cell B_gs 2).trans rfl)) ?_
          clear hE a; intro a hE
          refine p_cons (s_row (xs := [(0, Operand.tmp 114)]) (vs := [(0, Value.int .i64 xb)]) (cs := #[Value.int .i64 xb]) p34_19_5 hE wn_none rfl Try.underlying52 rfl (by kernel_rfl) ?_)
          clear hE a; intro g50 w51 z52 B_g50 hk a hE
          have n_g_g50 : g ≠ g50 := ne_new B_g z52
          have n_gm_g50 : gm ≠ g50 := ne_new B_gm z52
          have n_gd_g50 : gd ≠ g50 := ne_new B_gd z52
          have n_gs_g50 : gs ≠ g50 := ne_new B_gs z52
          have z_0_g50 := Nat.le_trans K_0.kept.1 z52
          replace B_g := kp_blk B_g hk (fun h => h)
          replace B_gm := kp_blk B_gm hk (fun h => h)
          replace B_gd := kp_blk B_gd hk (fun h => h)
          replace B_gs := kp_blk B_gs hk (fun h => h)
          replace K_0 := K_0.then_ hk (fun _ h => h.elim)
          clear hk
          refine p_cons (s_call (xs := [Operand.tmp 110, Operand.tmp 112, Operand.tmp 115]) (args := [Value.pointer (some ⟨g, 0, none⟩), Value.int .i64 xa, Value.slice (some ⟨g50, 0, none⟩) 1 1]) p34_19_6 hE wn_none rfl rfl Try.func36 cl36 (cut1_no g gm _ nn _ f xa xb g50 (fun h => hNA h.1) _ B_g50 n_g_g50 B_g B_gm hF n_g_gm) ?_)
          rintro e w54 ⟨rfl, hk⟩
          replace B_g := kp_blk B_g hk (fun h => h)
          replace B_gm := kp_blk B_gm hk (fun h => h)
          replace B_gd := kp_blk B_gd hk (fun h => h)
          replace B_gs := kp_blk B_gs hk (fun h => h)
          replace B_g50 := kp_blk B_g50 hk (fun h => h)
          replace K_0 := K_0.then_ hk (fun _ h => h.elim)
          refine ⟨_, rfl, ?_⟩
          clear hE a; intro a hE
          refine q0 p34_19_7 hE (st_move rfl) ?_
          clear hE a; intro a hE
          refine q0 p34_19_8 hE (st_extract rfl rfl) ?_
          clear hE a; intro a hE
          refine q0 p34_19_9 hE (st_extract rfl rfl) ?_
          clear hE a; intro a hE
          refine q0 p34_19_10 hE (st_assign rfl) ?_
          clear hE a; intro a hE
          refine q0 p34_19_11 hE (st_assign rfl) ?_
          clear hE a; intro a hE
          refine p_nil ?_
          refine x_norm ?_
          refine wp_seq ?_
          refine c_reg R34_20_l ?_
          refine q0 p34_20_0 hE (st_move rfl) ?_
          clear hE a; intro a hE
          refine q0 p34_20_1 hE (st_fieldAddr Try.underlying61 rfl tS3 rfl rfl) ?_
          clear hE a; intro a hE
          refine q0 p34_20_2 hE (st_load1 tA3 rfl ((blk_cell B_gs 1).trans rfl)) ?_
          clear hE a; intro a hE
          refine p_cons (s_call (xs := [Operand.tmp 119, Operand.tmp 121]) (args := [Value.pointer (some ⟨gd, 0, none⟩), Value.int .i64 xa]) p34_20_3 hE wn_none rfl rfl Try.func38 cl38 (rnode_any gd (nn : Int) D xa false (by simpa using hNA) _ B_gd) ?_)
          rintro e w55 ⟨rfl, hk⟩
          replace B_g := kp_blk B_g hk (fun h => h)
          replace B_gm := kp_blk B_gm hk (fun h => h)
          replace B_gd := kp_blk B_gd hk (fun h => h)
          replace B_gs := kp_blk B_gs hk (fun h => h)
          replace B_g50 := kp_blk B_g50 hk (fun h => h)
          replace K_0 := K_0.then_ hk (fun _ h => h.elim)
          refine ⟨_, rfl, ?_⟩
          clear hE a; intro a hE
          refine q0 p34_20_4 hE (st_not rfl rfl) ?_
          clear hE a; intro a hE
          refine q0 p34_20_5 hE (st_move rfl) ?_
          clear hE a; intro a hE
          refine p_cons (s_skip p34_20_6 hE (wn_some g34_20_5 rfl rfl) rfl ?_)
          clear hE a; intro a hE
          refine p_cons (s_skip p34_20_7 hE (wn_some g34_20_5 rfl rfl) rfl ?_)
          clear hE a; intro a hE
          refine p_cons (s_skip p34_20_8 hE (wn_some g34_20_5 rfl rfl) rfl ?_)
          clear hE a; intro a hE
          refine p_cons (s_skip p34_20_9 hE (wn_some g34_20_5 rfl rfl) rfl ?_)
          clear hE a; intro a hE
          refine p_cons (s_skip p34_20_10 hE (wn_some g34_20_5 rfl rfl) rfl ?_)
          clear hE a; intro a hE
          refine q0 p34_20_11 hE (st_pick rfl rfl) ?_
          clear hE a; intro a hE
          refine p_nil ?_
          refine x_norm ?_
          refine c_cond (t := true) hE rfl ?_
          refine c_reg R34_21_l ?_
          refine q0 p34_21_0 hE (st_move rfl) ?_
          clear hE a; intro a hE
          refine q0 p34_21_1 hE (st_eql (b := true) rfl rfl (by decide)) ?_
          clear hE a; intro a hE
          refine q0 p34_21_2 hE (st_move rfl) ?_
          clear hE a; intro a hE
          refine p_cons (s_still p34_21_3 hE (wn_some g34_21_2 rfl rfl) rfl (st_move rfl) ?_)
          clear hE a; intro a hE
          refine p_cons (s_still p34_21_4 hE (wn_some g34_21_2 rfl rfl) rfl (st_eql (b := true) rfl rfl (by decide)) ?_)
          clear hE a; intro a hE
          refine q0 p34_21_5 hE (st_pick rfl rfl) ?_
          clear hE a; intro a hE
          refine q0 p34_21_6 hE (st_assign rfl) ?_
          clear hE a; intro a hE
          refine p_nil ?_
          refine x_norm ?_
          refine wp_ret ?_
          refine x_ret ?_
          refine x_retB ?_
          refine x_ret ?_
          refine ret_one (v := Value.bool true) rfl hE (.tmp rfl .nil) ?_
          exact hR _ es ck f D hF hrel B_gm B_gd K_0
      ·
        refine c_reg R34_18_l ?_
        refine q0 p34_18_0 hE (st_eql (b := false) rfl rfl (decide_eq_false hKC)) ?_
        clear hE a; intro a hE
        refine q0 p34_18_1 hE (st_assign rfl) ?_
        clear hE a; intro a hE
        refine p_nil ?_
        refine x_norm ?_
        refine c_cond (t := false) hE rfl ?_
        rcases Decidable.em ((xk % 18446744073709551616 % 5) = 3) with hKD | hKD
        ·
          refine c_reg R34_27_l ?_
          refine q0 p34_27_0 hE (st_eql (b := true) rfl rfl (decide_eq_true hKD)) ?_
          clear hE a; intro a hE
          refine q0 p34_27_1 hE (st_assign rfl) ?_
          clear hE a; intro a hE
          refine p_nil ?_
          refine x_norm ?_
          refine c_cond (t := true) hE rfl ?_
          rcases Decidable.em (nodeB (nn : Int) xa = true) with hNA | hNA
          ·
            obtain ⟨p, rfl, hp⟩ := node_open hNA
            refine c_reg R34_28_l ?_
            refine q0 p34_28_0 hE (st_move rfl) ?_
            clear hE a; intro a hE
            refine q0 p34_28_1 hE (st_fieldAddr Try.underlying61 rfl tS3 rfl rfl) ?_
            clear hE a; intro a hE
            refine q0 p34_28_2 hE (st_load1 tA3 rfl ((blk_cell B_gs 1).trans rfl)) ?_
            clear hE a; intro a hE
            have hct := cut0_ok g gm _ nn _ f (p : Int) hnn hNA W B_g B_gm hF n_g_gm
            rw [hrel.nbs hp] at hct
            refine p_cons (s_call (xs := [Operand.tmp 164, Operand.tmp 166, Operand.const (Value.slice none 0 0)]) (args := [Value.pointer (some ⟨g, 0, none⟩), Value.int .i64 (p : Int), Value.slice none 0 0]) p34_28_3 hE wn_none rfl rfl Try.func36 cl36 (hct) ?_)
            rintro e w57 ⟨esm56, rfl, MFm56, B_gm', hk⟩
            replace B_g := kp_blk B_g hk n_g_gm
            replace B_gd := kp_blk B_gd hk (Ne.symm n_gm_gd)
            replace B_gs := kp_blk B_gs hk (Ne.symm n_gm_gs)
            replace K_0 := K_0.then_ hk (fun k h => by rw [show k = gm from h]; exact Or.inl (Or.inl rfl))
            replace B_gm := B_gm'
            have hca := hrel.cutAll hp
            rw [hrel.nbs hp] at hca
            refine ⟨_, rfl, ?_⟩
            clear hE a; intro a hE
            refine q0 p34_28_4 hE (st_move rfl) ?_
            clear hE a; intro a hE
            refine q0 p34_28_5 hE (st_extract rfl rfl) ?_
            clear hE a; intro a hE
            refine q0 p34_28_6 hE (st_extract rfl rfl) ?_
            clear hE a; intro a hE
            refine q0 p34_28_7 hE (st_assign rfl) ?_
            clear hE a; intro a hE
            refine q0 p34_28_8 hE (st_assign rfl) ?_
            clear hE a; intro a hE
            refine p_nil ?_
            refine x_norm ?_
            refine wp_seq ?_
            refine c_reg R34_29_l ?_
            refine q0 p34_29_0 hE (st_move rfl) ?_
            clear hE a; intro a hE
            refine q0 p34_29_1 hE (st_fieldAddr Try.underlying61 rfl tS3 rfl rfl) ?_
            clear hE a; intro a hE
            refine q0 p34_29_2 hE (st_load1 tA3 rfl ((blk_cell B_gs 1).trans rfl)) ?_
            clear hE a; intro a hE
            refine p_cons (s_call (xs := [Operand.tmp 170, Operand.tmp 172]) (args := [Value.pointer (some ⟨gd, 0, none⟩), Value.int .i64 (p : Int)]) p34_29_3 hE wn_none rfl rfl Try.func38 cl38 (rnode_any gd (nn : Int) D (p : Int) true hNA _ B_gd) ?_)
            rintro e w58 ⟨rfl, hk⟩
            replace B_g := kp_blk B_g hk (fun h => h)
            replace B_gm := kp_blk B_gm hk (fun h => h)
            replace B_gd := kp_blk B_gd hk (fun h => h)
            replace B_gs := kp_blk B_gs hk (fun h => h)
            replace K_0 := K_0.then_ hk (fun _ h => h.elim)
            refine ⟨_, rfl, ?_⟩
            clear hE a; intro a hE
            refine q0 p34_29_4 hE (st_not rfl rfl) ?_
            clear hE a; intro a hE
            refine p_nil ?_
            refine x_norm ?_
            refine c_cond (t := false) hE rfl ?_
            refine wp_skip ?_
            refine x_norm ?_
            refine c_reg R34_31_l ?_
            refine q0 p34_31_0 hE (st_assign rfl) ?_
            clear hE a; intro a hE
            refine p_nil ?_
            refine x_norm ?_
            refine wp_seq ?_
            refine c_reg R34_32_l ?_
            refine q0 p34_32_0 hE (st_assign rfl) ?_
            clear hE a; intro a hE
            refine p_nil ?_
            refine x_norm ?_
            refine wp_block ?_
            rw [← cut_zero D p] at B_gd
            refine c_loop (α := Nat) (fun j a W => En 213 a [(0, Value.pointer (some ⟨g, 0, none⟩)), (1, Value.pointer (some ⟨gd, 0, none⟩)), (5, Value.pointer (some ⟨gs, 0, none⟩)), (7, Value.bool okx), (38, Value.int .u64 (xk % 18446744073709551616 % 5)), (39, Value.bool false), (73, Value.bool false), (107, Value.bool false), (161, Value.bool true), (14, Value.int .i64 ((nD D p nn).length : Int)), (15, Value.int .i64 0), (174, Value.bool false), (17, Value.int .i64 (j : Int)), (16, Value.int .i64 ((nD D p j).length : Int))] ∧ j ≤ nn ∧ W.heap[g]? = some (.cells #[Value.int .i64 (nn : Int), Value.map (some gm)] 83 (0, 0)) ∧ W.heap[gm]? = some (.map esm56 ck) ∧ W.heap[gd]? = some (.cells (Lm.cellsD (nn : Int) (cutD D p j)) 71 (0, 0)) ∧ W.heap[gs]? = some (.cells #[Value.int .i64 xk, Value.int .i64 (p : Int), Value.int .i64 xb, Value.int .i64 xc, Value.float .f64 xm] 61 (0, 0)) ∧ (Kp w W (fun k => k = gm ∨ k = gd))) (fun j => nn - j) (0) ?_ ?_
            ·
              exact ⟨En.sub hE ⟨rfl, rfl, rfl, rfl, rfl, rfl, rfl, rfl, rfl, rfl, rfl, rfl, rfl, rfl, trivial⟩, Nat.zero_le _, B_g, B_gm, B_gd, B_gs, K_0⟩
            ·
              clear hE a
              rintro j a w59 ⟨hE, hj9, B_g, B_gm, B_gd, B_gs, K_0⟩
              refine wp_seq ?_
              rcases Decidable.em ((j : Int) < (nn : Int)) with hK1 | hK1
              ·
                refine c_reg R34_33_l ?_
                refine q0 p34_33_0 hE (st_move rfl) ?_
                clear hE a; intro a hE
                refine q0 p34_33_1 hE (st_move rfl) ?_
                clear hE a; intro a hE
                refine q0 p34_33_2 hE (st_nil rfl) ?_
                clear hE a; intro a hE
                refine q0 p34_33_3 hE (st_fieldAddr Try.underlying71 rfl tS3 rfl rfl) ?_
                clear hE a; intro a hE
                refine q0 p34_33_4 hE (st_load1 tA3 rfl ((blk_cell B_gd 0).trans (Lm.c0 _ _))) ?_
                clear hE a; intro a hE
                refine q0 p34_33_5 hE (st_lss (b := true) rfl rfl (decide_eq_true hK1)) ?_
                clear hE a; intro a hE
                refine p_nil ?_
                refine x_norm ?_
                refine c_cond (t := true) hE rfl ?_
                refine wp_skip ?_
                refine x_norm ?_
                refine wp_seq ?_
                refine wp_block ?_
                refine wp_seq ?_
                rcases Decidable.em (0 < D p j) with hPJ | hPJ
                ·
                  refine c_drawS (S := fun W => W.heap[gd]? = some (.cells (Lm.cellsD (nn : Int) (cutD D p j)) 71 (0, 0)) ∧ W.heap[gs]? = some (.cells #[Value.int .i64 xk, Value.int .i64 (p : Int), Value.int .i64 xb, Value.int .i64 xc, Value.float .f64 xm] 61 (0, 0)) ∧ True) rfl rfl (listed := #[false, false, false, false, false, false, false, false, false, false]) rfl ?_
                  intro w60 hh hk
                  replace B_g := kp_blk B_g hk (fun h => h)
                  replace B_gm := kp_blk B_gm hk (fun h => h)
                  replace B_gd := kp_blk B_gd hk (fun h => h)
                  replace B_gs := kp_blk B_gs hk (fun h => h)
                  replace K_0 := K_0.then_ hk (fun _ h => h.elim)
                  clear hh hk
                  refine d_take (v := Value.pointer (some ⟨gd, 0, none⟩)) p34_35_0 ns34_35 (by kernel_rfl) (by kernel_rfl) (fun _ _ _ h => h) hE wn_none rfl ⟨B_gd, B_gs, trivial⟩ (fun W hS => (st_move rfl)) rfl ?_
                  clear hE a; intro a hE
                  refine d_take (v := Value.pointer (some ⟨gs, 1, none⟩)) p34_35_1 ns34_35 (by kernel_rfl) (by kernel_rfl) (fun _ _ _ h => h) hE wn_none rfl ⟨B_gd, B_gs, trivial⟩ (fun W hS => (st_fieldAddr Try.underlying61 rfl tS3 rfl rfl)) rfl ?_
                  clear hE a; intro a hE
                  refine d_take (v := Value.int .i64 (p : Int)) p34_35_2 ns34_35 (by kernel_rfl) (by kernel_rfl) (fun _ _ _ h => h) hE wn_none rfl ⟨B_gd, B_gs, trivial⟩ (fun W hS => (st_load1 tA3 rfl ((blk_cell hS.2.1 1).trans rfl))) rfl ?_
                  clear hE a; intro a hE
                  refine d_take (v := Value.int .i64 (j : Int)) p34_35_3 ns34_35 (by kernel_rfl) (by kernel_rfl) (fun _ _ _ h => h) hE wn_none rfl ⟨B_gd, B_gs, trivial⟩ (fun W hS => (st_move rfl)) rfl ?_
                  clear hE a; intro a hE
                  refine d_take (v := Value.pointer (some ⟨gd, 0, none⟩)) p34_35_4 ns34_35 (by kernel_rfl) (by kernel_rfl) (fun _ _ _ h => h) hE wn_none rfl ⟨B_gd, B_gs, trivial⟩ (fun W hS => (st_nil rfl)) rfl ?_
                  clear hE a; intro a hE
                  refine d_take (v := Value.pointer (some ⟨gd, 1, none⟩)) p34_35_5 ns34_35 (by kernel_rfl) (by kernel_rfl) (fun _ _ _ h => h) hE wn_none rfl ⟨B_gd, B_gs, trivial⟩ (fun W hS => (st_fieldAddr Try.underlying71 rfl tS69 rfl rfl)) rfl ?_
                  clear hE a; intro a hE
                  refine d_take (v := Value.pointer (some ⟨gd, (1 + p * 64), none⟩)) p34_35_6 ns34_35 (by kernel_rfl) (by kernel_rfl) (fun _ _ _ h => h) hE wn_none rfl ⟨B_gd, B_gs, trivial⟩ (fun W hS => (st_indexAddrA (l := 64) (i := p) (o' := 1 + p * 64) Try.underlying69 tS68 rfl rfl (by omega) rfl)) rfl ?_
                  clear hE a; intro a hE
                  refine d_take (v := Value.pointer (some ⟨gd, ((1 + p * 64) + j), none⟩)) p34_35_7 ns34_35 (by kernel_rfl) (by kernel_rfl) (fun _ _ _ h => h) hE wn_none rfl ⟨B_gd, B_gs, trivial⟩ (fun W hS => (st_indexAddrA (l := 64) (i := j) (o' := (1 + p * 64) + j) Try.underlying68 tS3 rfl rfl (by omega) (by omega))) rfl ?_
                  clear hE a; intro a hE
                  refine d_take (v := Value.int .i64 ((cutD D p j) p j)) p34_35_8 ns34_35 (by kernel_rfl) (by kernel_rfl) (fun _ _ _ h => h) hE wn_none rfl ⟨B_gd, B_gs, trivial⟩ (fun W hS => (st_load1 tA3 rfl ((blk_cell hS.1 _).trans (Lm.cD (by omega) (by omega) rfl)))) rfl ?_
                  clear hE a; intro a hE
                  refine d_take (v := Value.bool true) p34_35_9 ns34_35 (by kernel_rfl) (by kernel_rfl) (fun _ _ _ h => h) hE wn_none rfl ⟨B_gd, B_gs, trivial⟩ (fun W hS => (st_gtr (b := true) rfl rfl (by rw [cut_read]; exact decide_eq_true hPJ))) rfl ?_
                  clear hE a; intro a hE
                  refine d_end (by kernel_rfl) ?_
                  refine x_norm ?_
                  refine c_cond (t := true) hE rfl ?_
                  refine c_regL R34_36_l ?_
                  have hnl := nD_len D p j
                  refine q0 p34_36_0 hE (st_move rfl) ?_
                  clear hE a; intro a hE
                  refine q0 p34_36_1 hE (st_add (z := ((nD D p j).length : Int) + 1) rfl rfl (wr_i64 _ (by omega) (by omega))) ?_
                  clear hE a; intro a hE
                  refine q0 p34_36_2 hE (st_assign rfl) ?_
                  clear hE a; intro a hE
                  refine p_nil ?_
                  refine x_norm ?_
                  refine c_regL R34_37_l ?_
                  refine q0 p34_37_0 hE (st_move rfl) ?_
                  clear hE a; intro a hE
                  refine q0 p34_37_1 hE (st_fieldAddr Try.underlying61 rfl tS3 rfl rfl) ?_
                  clear hE a; intro a hE
                  refine q0 p34_37_2 hE (st_load1 tA3 rfl ((blk_cell B_gs 1).trans rfl)) ?_
                  clear hE a; intro a hE
                  refine q0 p34_37_3 hE (st_move rfl) ?_
                  clear hE a; intro a hE
                  refine p_cons (s_call (xs := [Operand.tmp 201, Operand.tmp 203, Operand.tmp 204, Operand.const (Value.int IntKind.i64 0)]) (args := [Value.pointer (some ⟨gd, 0, none⟩), Value.int .i64 (p : Int), Value.int .i64 (j : Int), Value.int .i64 0]) p34_37_4 hE wn_none rfl rfl Try.func56 cl56 (rset_any gd (nn : Int) (cutD D p j) p j (by omega) (by omega) 0 _ B_gd) ?_)
                  rintro e w61 ⟨rfl, B_gd', hk⟩
                  replace B_g := kp_blk B_g hk n_g_gd
                  replace B_gm := kp_blk B_gm hk n_gm_gd
                  replace B_gs := kp_blk B_gs hk (Ne.symm n_gd_gs)
                  replace K_0 := K_0.then_ hk (fun k h => by rw [show k = gd from h]; exact Or.inl (Or.inr rfl))
                  replace B_gd := B_gd'
                  refine ⟨_, rfl, ?_⟩
                  clear hE a; intro a hE
                  refine p_nil ?_
                  refine x_normB ?_
                  refine x_norm ?_
                  refine c_regL R34_34_l ?_
                  refine q0 p34_34_0 hE (st_move rfl) ?_
                  clear hE a; intro a hE
                  refine q0 p34_34_1 hE (st_add (z := (j : Int) + 1) rfl rfl (wr_i64 _ (by omega) (by omega))) ?_
                  clear hE a; intro a hE
                  refine q0 p34_34_2 hE (st_assign rfl) ?_
                  clear hE a; intro a hE
                  refine p_nil ?_
                  refine x_norm ?_
                  rw [cut_next] at B_gd
                  exact ⟨j + 1, by omega, En.sub hE ⟨rfl, rfl, rfl, rfl, rfl, rfl, rfl, rfl, rfl, rfl, rfl, rfl, rfl, (by first | (rw [nD_next, if_pos hPJ, List.length_append]; rfl) | (rw [nD_next, if_neg hPJ, List.append_nil]; rfl)), trivial⟩, by omega, B_g, B_gm, B_gd, B_gs, K_0⟩
                ·
                  refine c_drawS (S := fun W => W.heap[gd]? = some (.cells (Lm.cellsD (nn : Int) (cutD D p j)) 71 (0, 0)) ∧ W.heap[gs]? = some (.cells #[Value.int .i64 xk, Value.int .i64 (p : Int), Value.int .i64 xb, Value.int .i64 xc, Value.float .f64 xm] 61 (0, 0)) ∧ True) rfl rfl (listed := #[false, false, false, false, false, false, false, false, false, false]) rfl ?_
                  intro w62 hh hk
                  replace B_g := kp_blk B_g hk (fun h => h)
                  replace B_gm := kp_blk B_gm hk (fun h => h)
                  replace B_gd := kp_blk B_gd hk (fun h => h)
                  replace B_gs := kp_blk B_gs hk (fun h => h)
                  replace K_0 := K_0.then_ hk (fun _ h => h.elim)
                  clear hh hk
                  refine d_take (v := Value.pointer (some ⟨gd, 0, none⟩)) p34_35_0 ns34_35 (by kernel_rfl) (by kernel_rfl) (fun _ _ _ h => h) hE wn_none rfl ⟨B_gd, B_gs, trivial⟩ (fun W hS => (st_move rfl)) rfl ?_
                  clear hE a; intro a hE
                  refine d_take (v := Value.pointer (some ⟨gs, 1, none⟩)) p34_35_1 ns34_35 (by kernel_rfl) (by kernel_rfl) (fun _ _ _ h => h) hE wn_none rfl ⟨B_gd, B_gs, trivial⟩ (fun W hS => (st_fieldAddr Try.underlying61 rfl tS3 rfl rfl)) rfl ?_
                  clear hE a; intro a hE
                  refine d_take (v := Value.int .i64 (p : Int)) p34_35_2 ns34_35 (by kernel_rfl) (by kernel_rfl) (fun _ _ _ h => h) hE wn_none rfl ⟨B_gd, B_gs, trivial⟩ (fun W hS => (st_load1 tA3 rfl ((blk_cell hS.2.1 1).trans rfl))) rfl ?_
                  clear hE a; intro a hE
                  refine d_take (v := Value.int .i64 (j : Int)) p34_35_3 ns34_35 (by kernel_rfl) (by kernel_rfl) (fun _ _ _ h => h) hE wn_none rfl ⟨B_gd, B_gs, trivial⟩ (fun W hS => (st_move rfl)) rfl ?_
                  clear hE a; intro a hE
                  refine d_take (v := Value.pointer (some ⟨gd, 0, none⟩)) p34_35_4 ns34_35 (by kernel_rfl) (by kernel_rfl) (fun _ _ _ h => h) hE wn_none rfl ⟨B_gd, B_gs, trivial⟩ (fun W hS => (st_nil rfl)) rfl ?_
                  clear hE a; intro a hE
                  refine d_take (v := Value.pointer (some ⟨gd, 1, none⟩)) p34_35_5 ns34_35 (by kernel_rfl) (by kernel_rfl) (fun _ _ _ h => h) hE wn_none rfl ⟨B_gd, B_gs, trivial⟩ (fun W hS => (st_fieldAddr Try.underlying71 rfl tS69 rfl rfl)) rfl ?_
                  clear hE a; intro a hE
                  refine d_take (v := Value.pointer (some ⟨gd, (1 + p * 64), none⟩)) p34_35_6 ns34_35 (by kernel_rfl) (by kernel_rfl) (fun _ _ _ h => h) hE wn_none rfl ⟨B_gd, B_gs, trivial⟩ (fun W hS => (st_indexAddrA (l := 64) (i := p) (o' := 1 + p * 64) Try.underlying69 tS68 rfl rfl (by omega) rfl)) rfl ?_
                  clear hE a; intro a hE
                  refine d_take (v := Value.pointer (some ⟨gd, ((1 + p * 64) + j), none⟩)) p34_35_7 ns34_35 (by kernel_rfl) (by kernel_rfl) (fun _ _ _ h => h) hE wn_none rfl ⟨B_gd, B_gs, trivial⟩ (fun W hS => (st_indexAddrA (l := 64) (i := j) (o' := (1 + p * 64) + j) Try.underlying68 tS3 rfl rfl (by omega) (by omega))) rfl ?_
                  clear hE a; intro a hE
                  refine d_take (v := Value.int .i64 ((cutD D p j) p j)) p34_35_8 ns34_35 (by kernel_rfl) (by kernel_rfl) (fun _ _ _ h => h) hE wn_none rfl ⟨B_gd, B_gs, trivial⟩ (fun W hS => (st_load1 tA3 rfl ((blk_cell hS.1 _).trans (Lm.cD (by omega) (by omega) rfl)))) rfl ?_
                  clear hE a; intro a hE
                  refine d_take (v := Value.bool false) p34_35_9 ns34_35 (by kernel_rfl) (by kernel_rfl) (fun _ _ _ h => h) hE wn_none rfl ⟨B_gd, B_gs, trivial⟩ (fun W hS => (st_gtr (b := false) rfl rfl (by rw [cut_read]; exact decide_eq_false hPJ))) rfl ?_
                  clear hE a; intro a hE
                  refine d_end (by kernel_rfl) ?_
                  refine x_norm ?_
                  refine c_cond (t := false) hE rfl ?_
                  refine wp_skip ?_
                  refine x_norm ?_
                  refine c_regL R34_37_l ?_
                  refine q0 p34_37_0 hE (st_move rfl) ?_
                  clear hE a; intro a hE
                  refine q0 p34_37_1 hE (st_fieldAddr Try.underlying61 rfl tS3 rfl rfl) ?_
                  clear hE a; intro a hE
                  refine q0 p34_37_2 hE (st_load1 tA3 rfl ((blk_cell B_gs 1).trans rfl)) ?_
                  clear hE a; intro a hE
                  refine q0 p34_37_3 hE (st_move rfl) ?_
                  clear hE a; intro a hE
                  refine p_cons (s_call (xs := [Operand.tmp 201, Operand.tmp 203, Operand.tmp 204, Operand.const (Value.int IntKind.i64 0)]) (args := [Value.pointer (some ⟨gd, 0, none⟩), Value.int .i64 (p : Int), Value.int .i64 (j : Int), Value.int .i64 0]) p34_37_4 hE wn_none rfl rfl Try.func56 cl56 (rset_any gd (nn : Int) (cutD D p j) p j (by omega) (by omega) 0 _ B_gd) ?_)
                  rintro e w63 ⟨rfl, B_gd', hk⟩
                  replace B_g := kp_blk B_g hk n_g_gd
                  replace B_gm := kp_blk B_gm hk n_gm_gd
                  replace B_gs := kp_blk B_gs hk (Ne.symm n_gd_gs)
                  replace K_0 := K_0.then_ hk (fun k h => by rw [show k = gd from h]; exact Or.inl (Or.inr rfl))
                  replace B_gd := B_gd'
                  refine ⟨_, rfl, ?_⟩
                  clear hE a; intro a hE
                  refine p_nil ?_
                  refine x_normB ?_
                  refine x_norm ?_
                  refine c_regL R34_34_l ?_
                  refine q0 p34_34_0 hE (st_move rfl) ?_
                  clear hE a; intro a hE
                  refine q0 p34_34_1 hE (st_add (z := (j : Int) + 1) rfl rfl (wr_i64 _ (by omega) (by omega))) ?_
                  clear hE a; intro a hE
                  refine q0 p34_34_2 hE (st_assign rfl) ?_
                  clear hE a; intro a hE
                  refine p_nil ?_
                  refine x_norm ?_
                  rw [cut_next] at B_gd
                  exact ⟨j + 1, by omega, En.sub hE ⟨rfl, rfl, rfl, rfl, rfl, rfl, rfl, rfl, rfl, rfl, rfl, rfl, rfl, (by first | (rw [nD_next, if_pos hPJ, List.length_append]; rfl) | (rw [nD_next, if_neg hPJ, List.append_nil]; rfl)), trivial⟩, by omega, B_g, B_gm, B_gd, B_gs, K_0⟩
              ·
                refine c_reg R34_33_l ?_
                refine q0 p34_33_0 hE (st_move rfl) ?_
                clear hE a; intro a hE
                refine q0 p34_33_1 hE (st_move rfl) ?_
                clear hE a; intro a hE
                refine q0 p34_33_2 hE (st_nil rfl) ?_
                clear hE a; intro a hE
                refine q0 p34_33_3 hE (st_fieldAddr Try.underlying71 rfl tS3 rfl rfl) ?_
                clear hE a; intro a hE
                refine q0 p34_33_4 hE (st_load1 tA3 rfl ((blk_cell B_gd 0).trans (Lm.c0 _ _))) ?_
                clear hE a; intro a hE
                refine q0 p34_33_5 hE (st_lss (b := false) rfl rfl (decide_eq_false hK1)) ?_
                clear hE a; intro a hE
                refine p_nil ?_
                refine x_norm ?_
                refine c_cond (t := false) hE rfl ?_
                refine wp_exit ?_
                refine x_exit ?_
                refine x_exit ?_
                obtain rfl : nn = j := by omega
                refine x_in ?_
                refine x_norm ?_
                refine c_reg R34_38_l ?_
                refine q0 p34_38_0 hE (st_move rfl) ?_
                clear hE a; intro a hE
                refine q0 p34_38_1 hE (st_eql (b := true) rfl rfl (by decide)) ?_
                clear hE a; intro a hE
                refine q0 p34_38_2 hE (st_move rfl) ?_
                clear hE a; intro a hE
                refine p_cons (s_still p34_38_3 hE (wn_some g34_38_2 rfl rfl) rfl (st_move rfl) ?_)
                clear hE a; intro a hE
                refine p_cons (s_still p34_38_4 hE (wn_some g34_38_2 rfl rfl) rfl (st_move rfl) ?_)
                clear hE a; intro a hE
                refine p_cons (s_still p34_38_5 hE (wn_some g34_38_2 rfl rfl) rfl (st_eql (b := true) rfl rfl (by simp)) ?_)
                clear hE a; intro a hE
                refine q0 p34_38_6 hE (st_pick rfl rfl) ?_
                clear hE a; intro a hE
                refine q0 p34_38_7 hE (st_assign rfl) ?_
                clear hE a; intro a hE
                refine p_nil ?_
                refine x_norm ?_
                refine wp_ret ?_
                refine x_retB ?_
                refine x_ret ?_
                refine ret_one (v := Value.bool true) rfl hE (.tmp rfl .nil) ?_
                exact hR _ esm56 ck (delR f (p : Int) (nD D p nn)) (cutD D p nn) MFm56 hca B_gm B_gd K_0
          ·
            refine c_reg R34_28_l ?_
            refine q0 p34_28_0 hE (st_move rfl) ?_
            clear hE a; intro a hE
            refine q0 p34_28_1 hE (st_fieldAddr Try.underlying61 rfl tS3 rfl rfl) ?_
            clear hE a; intro a hE
            refine q0 p34_28_2 hE (st_load1 tA3 rfl ((blk_cell B_gs 1).trans rfl)) ?_
            clear hE a; intro a hE
            refine p_cons (s_call (xs := [Operand.tmp 164, Operand.tmp 166, Operand.const (Value.slice none 0 0)]) (args := [Value.pointer (some ⟨g, 0, none⟩), Value.int .i64 xa, Value.slice none 0 0]) p34_28_3 hE wn_none rfl rfl Try.func36 cl36 (cut0_no g gm _ nn _ f xa hNA _ B_g B_gm hF n_g_gm) ?_)
            rintro e w65 ⟨rfl, hk⟩
            replace B_g := kp_blk B_g hk (fun h => h)
            replace B_gm := kp_blk B_gm hk (fun h => h)
            replace B_gd := kp_blk B_gd hk (fun h => h)
            replace B_gs := kp_blk B_gs hk (fun h => h)
            replace K_0 := K_0.then_ hk (fun _ h => h.elim)
            refine ⟨_, rfl, ?_⟩
            clear hE a; intro a hE
            refine q0 p34_28_4 hE (st_move rfl) ?_
            clear hE a; intro a hE
            refine q0 p34_28_5 hE (st_extract rfl rfl) ?_
            clear hE a; intro a hE
            refine q0 p34_28_6 hE (st_extract rfl rfl) ?_
            clear hE a; intro a hE
            refine q0 p34_28_7 hE (st_assign rfl) ?_
            clear hE a; intro a hE
            refine q0 p34_28_8 hE (st_assign rfl) ?_
            clear hE a; intro a hE
            refine p_nil ?_
            refine x_norm ?_
            refine wp_seq ?_
            refine c_reg R34_29_l ?_
            refine q0 p34_29_0 hE (st_move rfl) ?_
            clear hE a; intro a hE
            refine q0 p34_29_1 hE (st_fieldAddr Try.underlying61 rfl tS3 rfl rfl) ?_
            clear hE a; intro a hE
            refine q0 p34_29_2 hE (st_load1 tA3 rfl ((blk_cell B_gs 1).trans rfl)) ?_
            clear hE a; intro a hE
            refine p_cons (s_call (xs := [Operand.tmp 170, Operand.tmp 172]) (args := [Value.pointer (some ⟨gd, 0, none⟩), Value.int .i64 xa]) p34_29_3 hE wn_none rfl rfl Try.func38 cl38 (rnode_any gd (nn : Int) D xa false (by simpa using hNA) _ B_gd) ?_)
            rintro e w66 ⟨rfl, hk⟩
            replace B_g := kp_blk B_g hk (fun h => h)
            replace B_gm := kp_blk B_gm hk (fun h => h)
            replace B_gd := kp_blk B_gd hk (fun h => h)
            replace B_gs := kp_blk B_gs hk (fun h => h)
            replace K_0 := K_0.then_ hk (fun _ h => h.elim)
            refine ⟨_, rfl, ?_⟩
            clear hE a; intro a hE
            refine q0 p34_29_4 hE (st_not rfl rfl) ?_
            clear hE a; intro a hE
            refine p_nil ?_
            refine x_norm ?_
            refine c_cond (t := true) hE rfl ?_
            refine c_reg R34_30_l ?_
            refine q0 p34_30_0 hE (st_move rfl) ?_
            clear hE a; intro a hE
            refine q0 p34_30_1 hE (st_eql (b := true) rfl rfl (by decide)) ?_
            clear hE a; intro a hE
            refine q0 p34_30_2 hE (st_move rfl) ?_
            clear hE a; intro a hE
            refine p_cons (s_still p34_30_3 hE (wn_some g34_30_2 rfl rfl) rfl (st_move rfl) ?_)
            clear hE a; intro a hE
            refine p_cons (s_still p34_30_4 hE (wn_some g34_30_2 rfl rfl) rfl (st_eql (b := true) rfl rfl (by decide)) ?_)
            clear hE a; intro a hE
            refine q0 p34_30_5 hE (st_pick rfl rfl) ?_
            clear hE a; intro a hE
            refine q0 p34_30_6 hE (st_assign rfl) ?_
            clear hE a; intro a hE
            refine p_nil ?_
            refine x_norm ?_
            refine wp_ret ?_
            refine x_ret ?_
            refine x_retB ?_
            refine x_ret ?_
            refine ret_one (v := Value.bool true) rfl hE (.tmp rfl .nil) ?_
            exact hR _ es ck f D hF hrel B_gm B_gd K_0
        ·
          refine c_reg R34_27_l ?_
          refine q0 p34_27_0 hE (st_eql (b := false) rfl rfl (decide_eq_false hKD)) ?_
          clear hE a; intro a hE
          refine q0 p34_27_1 hE (st_assign rfl) ?_
          clear hE a; intro a hE
          refine p_nil ?_
          refine x_norm ?_
          refine c_cond (t := false) hE rfl ?_
          refine wp_skip ?_
          refine x_normB ?_
          refine x_norm ?_
          refine c_reg R34_39_l ?_
          refine q0 p34_39_0 hE (st_assign rfl) ?_
          clear hE a; intro a hE
          refine p_nil ?_
          refine x_norm ?_
          refine wp_ret ?_
          refine ret_one (v := Value.bool true) rfl hE (.tmp rfl .nil) ?_
          exact hR _ es ck f D hF hrel B_gm B_gd K_0
theorem R34_0_l : List.range (regOf Try.f34 0).size = [0, 1] := by kernel_rfl
theorem R34_1_l : List.range (regOf Try.f34 1).size = [0, 1, 2, 3, 4, 5, 6, 7, 8, 9, 10, 11, 12, 13, 14, 15, 16, 17] := by kernel_rfl
theorem body34 : Try.f34.body = some (.seq (.region 0 (regOf Try.f34 0) false) (.seq (.region 1 (regOf Try.f34 1) false) (.seq (.seq (.region 2 (regOf Try.f34 2) false) (.block 0 (.seq (.region 3 (regOf Try.f34 3) false) (.cond (Operand.tmp 39) (.seq (.region 4 (regOf Try.f34 4) false) (.seq (.seq (.region 5 (regOf Try.f34 5) false) (.cond (Operand.tmp 60) (.seq (.region 6 (regOf Try.f34 6) false) (.ret)) (.skip))) (.seq (.region 7 (regOf Try.f34 7) false) (.seq (.region 8 (regOf Try.f34 8) false) (.ret))))) (.seq (.region 9 (regOf Try.f34 9) false) (.cond (Operand.tmp 73) (.seq (.region 10 (regOf Try.f34 10) false) (.seq (.seq (.region 11 (regOf Try.f34 11) false) (.cond (Operand.tmp 90) (.seq (.region 12 (regOf Try.f34 12) false) (.ret)) (.skip))) (.seq (.region 13 (regOf Try.f34 13) false) (.seq (.seq (.region 14 (regOf Try.f34 14) false) (.cond (Operand.tmp 97) (.region 15 (regOf Try.f34 15) false) (.skip))) (.seq (.region 16 (regOf Try.f34 16) false) (.seq (.region 17 (regOf Try.f34 17) false) (.ret))))))) (.seq (.region 18 (regOf Try.f34 18) false) (.cond (Operand.tmp 107) (.seq (.region 19 (regOf Try.f34 19) false) (.seq (.seq (.region 20 (regOf Try.f34 20) false) (.cond (Operand.tmp 130) (.seq (.region 21 (regOf Try.f34 21) false) (.ret)) (.skip))) (.seq (.region 22 (regOf Try.f34 22) false) (.seq (.seq (.region 23 (regOf Try.f34 23) true) (.cond (Operand.tmp 147) (.region 24 (regOf Try.f34 24) false) (.skip))) (.seq (.region 25 (regOf Try.f34 25) false) (.seq (.region 26 (regOf Try.f34 26) false) (.ret))))))) (.seq (.region 27 (regOf Try.f34 27) false) (.cond (Operand.tmp 161) (.seq (.region 28 (regOf Try.f34 28) false) (.seq (.seq (.region 29 (regOf Try.f34 29) false) (.cond (Operand.tmp 174) (.seq (.region 30 (regOf Try.f34 30) false) (.ret)) (.skip))) (.seq (.region 31 (regOf Try.f34 31) false) (.seq (.seq (.region 32 (regOf Try.f34 32) false) (.block 1 (.loop (.seq (.seq (.region 33 (regOf Try.f34 33) false) (.cond (Operand.tmp 186) (.skip) (.exit 1))) (.seq (.block 2 (.seq (.seq (.region 35 (regOf Try.f34 35) true) (.cond (Operand.tmp 198) (.region 36 (regOf Try.f34 36) false) (.skip))) (.region 37 (regOf Try.f34 37) false))) (.region 34 (regOf Try.f34 34) false)))))) (.seq (.region 38 (regOf Try.f34 38) false) (.ret)))))) (.skip))))))))))) (.seq (.region 39 (regOf Try.f34 39) false) (.ret))))) := by kernel_rfl
theorem p34_0_0 : pj (regOf Try.f34 0) 0 = some (some 5, .box 61 (.tmp 2), 0, none) := by kernel_rfl
theorem p34_0_1 : pj (regOf Try.f34 0) 1 = some (some 6, .assign (.const (.bool false)), 4, none) := by kernel_rfl
theorem p34_1_0 : pj (regOf Try.f34 1) 0 = some (some 18, .move (.tmp 1), 67, none) := by kernel_rfl
theorem p34_1_1 : pj (regOf Try.f34 1) 1 = some (some 19, .fieldAddr 61 (.tmp 5) 1, 0, none) := by kernel_rfl
theorem p34_1_2 : pj (regOf Try.f34 1) 2 = some (some 20, .load 3 (.tmp 19), 3, none) := by kernel_rfl
theorem p34_1_3 : pj (regOf Try.f34 1) 3 = some (some 21, .call { callee := .value (.func 38), args := #[.tmp 18, .tmp 20], argTypes := #[67, 3] }, 4, none) := by kernel_rfl
theorem p34_1_4 : pj (regOf Try.f34 1) 4 = some (some 22, .move (.tmp 21), 4, none) := by kernel_rfl
theorem p34_1_5 : pj (regOf Try.f34 1) 5 = some (some 23, .move (.tmp 1), 67, some (4, true)) := by kernel_rfl
theorem g34_1_4 : dstOf (regOf Try.f34 1) 4 = some 22 := by kernel_rfl
theorem p34_1_6 : pj (regOf Try.f34 1) 6 = some (some 24, .fieldAddr 61 (.tmp 5) 2, 0, some (4, true)) := by kernel_rfl
theorem p34_1_7 : pj (regOf Try.f34 1) 7 = some (some 25, .load 3 (.tmp 24), 3, some (4, true)) := by kernel_rfl
theorem p34_1_8 : pj (regOf Try.f34 1) 8 = some (some 26, .call { callee := .value (.func 38), args := #[.tmp 23, .tmp 25], argTypes := #[67, 3] }, 4, some (4, true)) := by kernel_rfl
theorem p34_1_9 : pj (regOf Try.f34 1) 9 = some (some 27, .pick (.tmp 22) (.tmp 26) (.const (.bool false)), 4, none) := by kernel_rfl
theorem p34_1_10 : pj (regOf Try.f34 1) 10 = some (some 28, .move (.tmp 27), 4, none) := by kernel_rfl
theorem p34_1_11 : pj (regOf Try.f34 1) 11 = some (some 29, .fieldAddr 61 (.tmp 5) 1, 0, some (10, true)) := by kernel_rfl
theorem g34_1_10 : dstOf (regOf Try.f34 1) 10 = some 28 := by kernel_rfl
theorem p34_1_12 : pj (regOf Try.f34 1) 12 = some (some 30, .load 3 (.tmp 29), 3, some (10, true)) := by kernel_rfl
theorem p34_1_13 : pj (regOf Try.f34 1) 13 = some (some 31, .fieldAddr 61 (.tmp 5) 2, 0, some (10, true)) := by kernel_rfl
theorem p34_1_14 : pj (regOf Try.f34 1) 14 = some (some 32, .load 3 (.tmp 31), 3, some (10, true)) := by kernel_rfl
theorem p34_1_15 : pj (regOf Try.f34 1) 15 = some (some 33, .binOp .neq 3 (.tmp 30) (.tmp 32) 3, 4, some (10, true)) := by kernel_rfl
theorem p34_1_16 : pj (regOf Try.f34 1) 16 = some (some 34, .pick (.tmp 28) (.tmp 33) (.const (.bool false)), 4, none) := by kernel_rfl
theorem p34_1_17 : pj (regOf Try.f34 1) 17 = some (some 7, .assign (.tmp 34), 4, none) := by kernel_rfl
set_option maxHeartbeats 4000000 in
theorem do_any (g gm gd ck nn : Nat) (es : Array MapEntry) (f : Int → Int → Option Int) (D : Nat → Nat → Int) (hnn : nn ≤ 64) (xk xa xb xc : Int) (xm : Nat) (hxm : xm < 18446744073709551616) (w : World) (B_g : w.heap[g]? = some (.cells #[.int .i64 (nn : Int), .map (some gm)] 83 (0, 0))) (B_gm : w.heap[gm]? = some (.map es ck)) (hF : Mp.MapF es f) (B_gd : w.heap[gd]? = some (.cells (Lm.cellsD (nn : Int) D) 71 (0, 0))) (hrel : RelL nn f D) (n_g_gm : g ≠ gm) (n_g_gd : g ≠ gd) (n_gm_gd : gm ≠ gd) : Calls Try.prog 34 #[.pointer (some ⟨g, 0, none⟩), .pointer (some ⟨gd, 0, none⟩), .agg #[.int .i64 xk, .int .i64 xa, .int .i64 xb, .int .i64 xc, .float .f64 xm]] w fun e w' => ∃ es' ck' f' D', e = .returned (.bool true) ∧ Mp.MapF es' f' ∧ RelL nn f' D' ∧ w'.heap[gm]? = some (.map es' ck') ∧ w'.heap[gd]? = some (.cells (Lm.cellsD (nn : Int) D') 71 (0, 0)) ∧ Kp w w' (fun k => k = gm ∨ k = gd) := by
  have K_0 := Kp.refl w (fun k => k = gm ∨ k = gd)
  refine enter (args := [Value.pointer (some ⟨g, 0, none⟩), Value.pointer (some ⟨gd, 0, none⟩), Value.agg #[Value.int .i64 xk, Value.int .i64 xa, Value.int .i64 xb, Value.int .i64 xc, Value.float .f64 xm]]) (n := 213) Try.func34 body34 rfl rfl rfl ?_
  intro a hE
  refine c_reg R34_0_l ?_
  refine p_cons (s_box p34_0_0 hE wn_none rfl rfl ?_)
  clear hE a; intro g1 w2 z3 B_g1 hk a hE
  replace B_g1 : w2.heap[g1]? = some (.cells #[Value.int .i64 xk, Value.int .i64 xa, Value.int .i64 xb, Value.int .i64 xc, Value.float .f64 xm] 61 (0, 0)) := B_g1
  have n_g_g1 : g ≠ g1 := ne_new B_g z3
  have n_gm_g1 : gm ≠ g1 := ne_new B_gm z3
  have n_gd_g1 : gd ≠ g1 := ne_new B_gd z3
  have z_0_g1 := Nat.le_trans K_0.kept.1 z3
  replace B_g := kp_blk B_g hk (fun h => h)
  replace B_gm := kp_blk B_gm hk (fun h => h)
  replace B_gd := kp_blk B_gd hk (fun h => h)
  replace K_0 := K_0.then_ hk (fun _ h => h.elim)
  clear hk
  refine q0 p34_0_1 hE (st_assign rfl) ?_
  clear hE a; intro a hE
  refine p_nil ?_
  refine x_norm ?_
  rcases Decidable.em (nodeB (nn : Int) xa = true) with hNA | hNA
  ·
    rcases Decidable.em (nodeB (nn : Int) xb = true) with hNB | hNB
    ·
      rcases Decidable.em (xa = xb) with hEQ | hEQ
      ·
        refine c_reg R34_1_l ?_
        refine q0 p34_1_0 hE (st_move rfl) ?_
        clear hE a; intro a hE
        refine q0 p34_1_1 hE (st_fieldAddr Try.underlying61 rfl tS3 rfl rfl) ?_
        clear hE a; intro a hE
        refine q0 p34_1_2 hE (st_load1 tA3 rfl ((blk_cell B_g1 1).trans rfl)) ?_
        clear hE a; intro a hE
        refine p_cons (s_call (xs := [Operand.tmp 18, Operand.tmp 20]) (args := [Value.pointer (some ⟨gd, 0, none⟩), Value.int .i64 xa]) p34_1_3 hE wn_none rfl rfl Try.func38 cl38 (rnode_any gd (nn : Int) D xa true hNA _ B_gd) ?_)
        rintro e w4 ⟨rfl, hk⟩
        replace B_g := kp_blk B_g hk (fun h => h)
        replace B_gm := kp_blk B_gm hk (fun h => h)
        replace B_gd := kp_blk B_gd hk (fun h => h)
        replace B_g1 := kp_blk B_g1 hk (fun h => h)
        replace K_0 := K_0.then_ hk (fun _ h => h.elim)
        refine ⟨_, rfl, ?_⟩
        clear hE a; intro a hE
        refine q0 p34_1_4 hE (st_move rfl) ?_
        clear hE a; intro a hE
        refine p_cons (s_still p34_1_5 hE (wn_some g34_1_4 rfl rfl) rfl (st_move rfl) ?_)
        clear hE a; intro a hE
        refine p_cons (s_still p34_1_6 hE (wn_some g34_1_4 rfl rfl) rfl (st_fieldAddr Try.underlying61 rfl tS3 rfl rfl) ?_)
        clear hE a; intro a hE
        refine p_cons (s_still p34_1_7 hE (wn_some g34_1_4 rfl rfl) rfl (st_load1 tA3 rfl ((blk_cell B_g1 2).trans rfl)) ?_)
        clear hE a; intro a hE
        refine p_cons (s_call (xs := [Operand.tmp 23, Operand.tmp 25]) (args := [Value.pointer (some ⟨gd, 0, none⟩), Value.int .i64 xb]) p34_1_8 hE (wn_some g34_1_4 rfl rfl) rfl rfl Try.func38 cl38 (rnode_any gd (nn : Int) D xb true hNB _ B_gd) ?_)
        rintro e w5 ⟨rfl, hk⟩
        replace B_g := kp_blk B_g hk (fun h => h)
        replace B_gm := kp_blk B_gm hk (fun h => h)
        replace B_gd := kp_blk B_gd hk (fun h => h)
        replace B_g1 := kp_blk B_g1 hk (fun h => h)
        replace K_0 := K_0.then_ hk (fun _ h => h.elim)
        refine ⟨_, rfl, ?_⟩
        clear hE a; intro a hE
        refine q0 p34_1_9 hE (st_pick rfl rfl) ?_
        clear hE a; intro a hE
        refine q0 p34_1_10 hE (st_move rfl) ?_
        clear hE a; intro a hE
        refine p_cons (s_still p34_1_11 hE (wn_some g34_1_10 rfl rfl) rfl (st_fieldAddr Try.underlying61 rfl tS3 rfl rfl) ?_)
        clear hE a; intro a hE
        refine p_cons (s_still p34_1_12 hE (wn_some g34_1_10 rfl rfl) rfl (st_load1 tA3 rfl ((blk_cell B_g1 1).trans rfl)) ?_)
        clear hE a; intro a hE
        refine p_cons (s_still p34_1_13 hE (wn_some g34_1_10 rfl rfl) rfl (st_fieldAddr Try.underlying61 rfl tS3 rfl rfl) ?_)
        clear hE a; intro a hE
        refine p_cons (s_still p34_1_14 hE (wn_some g34_1_10 rfl rfl) rfl (st_load1 tA3 rfl ((blk_cell B_g1 2).trans rfl)) ?_)
        clear hE a; intro a hE
        refine p_cons (s_still p34_1_15 hE (wn_some g34_1_10 rfl rfl) rfl (st_neq (b := false) rfl rfl (by simp [hEQ])) ?_)
        clear hE a; intro a hE
        refine q0 p34_1_16 hE (st_pick rfl rfl) ?_
        clear hE a; intro a hE
        refine q0 p34_1_17 hE (st_assign rfl) ?_
        clear hE a; intro a hE
        refine p_nil ?_
        refine x_norm ?_
        have hok9 : false = bothB (nn : Int) xa xb := by unfold bothB; rw [hNA, hNB, decide_eq_false (fun h => h hEQ)]; rfl
        have hE2 : En 213 a [(0, Value.pointer (some ⟨g, 0, none⟩)), (1, Value.pointer (some ⟨gd, 0, none⟩)), (5, Value.pointer (some ⟨g1, 0, none⟩)), (7, Value.bool false)] := En.sub hE ⟨rfl, rfl, rfl, rfl, trivial⟩
        exact do2 g gm gd ck nn es f D hnn xk xa xb xc xm hxm g1 false w w5 hok9 B_g B_gm hF B_gd hrel n_g_gm n_g_gd n_gm_gd B_g1 n_g_g1 n_gm_g1 n_gd_g1 z_0_g1 K_0 (fun W' es' ck' f' D' h1 h2 h3 h4 h5 => ⟨es', ck', f', D', rfl, h1, h2, h3, h4, h5⟩) _ hE2
      ·
        refine c_reg R34_1_l ?_
        refine q0 p34_1_0 hE (st_move rfl) ?_
        clear hE a; intro a hE
        refine q0 p34_1_1 hE (st_fieldAddr Try.underlying61 rfl tS3 rfl rfl) ?_
        clear hE a; intro a hE
        refine q0 p34_1_2 hE (st_load1 tA3 rfl ((blk_cell B_g1 1).trans rfl)) ?_
        clear hE a; intro a hE
        refine p_cons (s_call (xs := [Operand.tmp 18, Operand.tmp 20]) (args := [Value.pointer (some ⟨gd, 0, none⟩), Value.int .i64 xa]) p34_1_3 hE wn_none rfl rfl Try.func38 cl38 (rnode_any gd (nn : Int) D xa true hNA _ B_gd) ?_)
        rintro e w6 ⟨rfl, hk⟩
        replace B_g := kp_blk B_g hk (fun h => h)
        replace B_gm := kp_blk B_gm hk (fun h => h)
        replace B_gd := kp_blk B_gd hk (fun h => h)
        replace B_g1 := kp_blk B_g1 hk (fun h => h)
        replace K_0 := K_0.then_ hk (fun _ h => h.elim)
        refine ⟨_, rfl, ?_⟩
        clear hE a; intro a hE
        refine q0 p34_1_4 hE (st_move rfl) ?_
        clear hE a; intro a hE
        refine p_cons (s_still p34_1_5 hE (wn_some g34_1_4 rfl rfl) rfl (st_move rfl) ?_)
        clear hE a; intro a hE
        refine p_cons (s_still p34_1_6 hE (wn_some g34_1_4 rfl rfl) rfl (st_fieldAddr Try.underlying61 rfl tS3 rfl rfl) ?_)
        clear hE a; intro a hE
        refine p_cons (s_still p34_1_7 hE (wn_some g34_1_4 rfl rfl) rfl (st_load1 tA3 rfl ((blk_cell B_g1 2).trans rfl)) ?_)
        clear hE a; intro a hE
        refine p_cons (s_call (xs := [Operand.tmp 23, Operand.tmp 25]) (args := [Value.pointer (some ⟨gd, 0, none⟩), Value.int .i64 xb]) p34_1_8 hE (wn_some g34_1_4 rfl rfl) rfl rfl Try.func38 cl38 (rnode_any gd (nn : Int) D xb true hNB _ B_gd) ?_)
        rintro e w7 ⟨rfl, hk⟩
        replace B_g := kp_blk B_g hk (fun h => h)
        replace B_gm := kp_blk B_gm hk (fun h => h)
        replace B_gd := kp_blk B_gd hk (fun h => h)
        replace B_g1 := kp_blk B_g1 hk (fun h => h)
        replace K_0 := K_0.then_ hk (fun _ h => h.elim)
        refine ⟨_, rfl, ?_⟩
        clear hE a; intro a hE
        refine q0 p34_1_9 hE (st_pick rfl rfl) ?_
        clear hE a; intro a hE
        refine q0 p34_1_10 hE (st_move rfl) ?_
        clear hE a; intro a hE
        refine p_cons (s_still p34_1_11 hE (wn_some g34_1_10 rfl rfl) rfl (st_fieldAddr Try.underlying61 rfl tS3 rfl rfl) ?_)
        clear hE a; intro a hE
        refine p_cons (s_still p34_1_12 hE (wn_some g34_1_10 rfl rfl) rfl (st_load1 tA3 rfl ((blk_cell B_g1 1).trans rfl)) ?_)
        clear hE a; intro a hE
        refine p_cons (s_still p34_1_13 hE (wn_some g34_1_10 rfl rfl) rfl (st_fieldAddr Try.underlying61 rfl tS3 rfl rfl) ?_)
        clear hE a; intro a hE
        refine p_cons (s_still p34_1_14 hE (wn_some g34_1_10 rfl rfl) rfl (st_load1 tA3 rfl ((blk_cell B_g1 2).trans rfl)) ?_)
        clear hE a; intro a hE
        refine p_cons (s_still p34_1_15 hE (wn_some g34_1_10 rfl rfl) rfl (st_neq (b := true) rfl rfl (by simp [hEQ])) ?_)
        clear hE a; intro a hE
        refine q0 p34_1_16 hE (st_pick rfl rfl) ?_
        clear hE a; intro a hE
        refine q0 p34_1_17 hE (st_assign rfl) ?_
        clear hE a; intro a hE
        refine p_nil ?_
        refine x_norm ?_
        have hok9 : true = bothB (nn : Int) xa xb := by unfold bothB; rw [hNA, hNB, decide_eq_true hEQ]; rfl
        have hE2 : En 213 a [(0, Value.pointer (some ⟨g, 0, none⟩)), (1, Value.pointer (some ⟨gd, 0, none⟩)), (5, Value.pointer (some ⟨g1, 0, none⟩)), (7, Value.bool true)] := En.sub hE ⟨rfl, rfl, rfl, rfl, trivial⟩
        exact do2 g gm gd ck nn es f D hnn xk xa xb xc xm hxm g1 true w w7 hok9 B_g B_gm hF B_gd hrel n_g_gm n_g_gd n_gm_gd B_g1 n_g_g1 n_gm_g1 n_gd_g1 z_0_g1 K_0 (fun W' es' ck' f' D' h1 h2 h3 h4 h5 => ⟨es', ck', f', D', rfl, h1, h2, h3, h4, h5⟩) _ hE2
    ·
      refine c_reg R34_1_l ?_
      refine q0 p34_1_0 hE (st_move rfl) ?_
      clear hE a; intro a hE
      refine q0 p34_1_1 hE (st_fieldAddr Try.underlying61 rfl tS3 rfl rfl) ?_
      clear hE a; intro a hE
      refine q0 p34_1_2 hE (st_load1 tA3 rfl ((blk_cell B_g1 1).trans rfl)) ?_
      clear hE a; intro a hE
      refine p_cons (s_call (xs := [Operand.tmp 18, Operand.tmp 20]) (args := [Value.pointer (some ⟨gd, 0, none⟩), Value.int .i64 xa]) p34_1_3 hE wn_none rfl rfl Try.func38 cl38 (rnode_any gd (nn : Int) D xa true hNA _ B_gd) ?_)
      rintro e w8 ⟨rfl, hk⟩
      replace B_g := kp_blk B_g hk (fun h => h)
      replace B_gm := kp_blk B_gm hk (fun h => h)
      replace B_gd := kp_blk B_gd hk (fun h => h)
      replace B_g1 := kp_blk B_g1 hk (fun h => h)
      replace K_0 := K_0.then_ hk (fun _ h => h.elim)
      refine ⟨_, rfl, ?_⟩
      clear hE a; intro a hE
      refine q0 p34_1_4 hE (st_move rfl) ?_
      clear hE a; intro a hE
      refine p_cons (s_still p34_1_5 hE (wn_some g34_1_4 rfl rfl) rfl (st_move rfl) ?_)
      clear hE a; intro a hE
      refine p_cons (s_still p34_1_6 hE (wn_some g34_1_4 rfl rfl) rfl (st_fieldAddr Try.underlying61 rfl tS3 rfl rfl) ?_)
      clear hE a; intro a hE
      refine p_cons (s_still p34_1_7 hE (wn_some g34_1_4 rfl rfl) rfl (st_load1 tA3 rfl ((blk_cell B_g1 2).trans rfl)) ?_)
      clear hE a; intro a hE
      refine p_cons (s_call (xs := [Operand.tmp 23, Operand.tmp 25]) (args := [Value.pointer (some ⟨gd, 0, none⟩), Value.int .i64 xb]) p34_1_8 hE (wn_some g34_1_4 rfl rfl) rfl rfl Try.func38 cl38 (rnode_any gd (nn : Int) D xb false (by simpa using hNB) _ B_gd) ?_)
      rintro e w9 ⟨rfl, hk⟩
      replace B_g := kp_blk B_g hk (fun h => h)
      replace B_gm := kp_blk B_gm hk (fun h => h)
      replace B_gd := kp_blk B_gd hk (fun h => h)
      replace B_g1 := kp_blk B_g1 hk (fun h => h)
      replace K_0 := K_0.then_ hk (fun _ h => h.elim)
      refine ⟨_, rfl, ?_⟩
      clear hE a; intro a hE
      refine q0 p34_1_9 hE (st_pick rfl rfl) ?_
      clear hE a; intro a hE
      refine q0 p34_1_10 hE (st_move rfl) ?_
      clear hE a; intro a hE
      refine p_cons (s_skip p34_1_11 hE (wn_some g34_1_10 rfl rfl) rfl ?_)
      clear hE a; intro a hE
      refine p_cons (s_skip p34_1_12 hE (wn_some g34_1_10 rfl rfl) rfl ?_)
      clear hE a; intro a hE
      refine p_cons (s_skip p34_1_13 hE (wn_some g34_1_10 rfl rfl) rfl ?_)
      clear hE a; intro a hE
      refine p_cons (s_skip p34_1_14 hE (wn_some g34_1_10 rfl rfl) rfl ?_)
      clear hE a; intro a hE
      refine p_cons (s_skip p34_1_15 hE (wn_some g34_1_10 rfl rfl) rfl ?_)
      clear hE a; intro a hE
      refine q0 p34_1_16 hE (st_pick rfl rfl) ?_
      clear hE a; intro a hE
      refine q0 p34_1_17 hE (st_assign rfl) ?_
      clear hE a; intro a hE
      refine p_nil ?_
      refine x_norm ?_
      have hok9 : false = bothB (nn : Int) xa xb := by unfold bothB; rw [hNA, show nodeB (nn : Int) xb = false by simpa using hNB]; rfl
      have hE2 : En 213 a [(0, Value.pointer (some ⟨g, 0, none⟩)), (1, Value.pointer (some ⟨gd, 0, none⟩)), (5, Value.pointer (some ⟨g1, 0, none⟩)), (7, Value.bool false)] := En.sub hE ⟨rfl, rfl, rfl, rfl, trivial⟩
      exact do2 g gm gd ck nn es f D hnn xk xa xb xc xm hxm g1 false w w9 hok9 B_g B_gm hF B_gd hrel n_g_gm n_g_gd n_gm_gd B_g1 n_g_g1 n_gm_g1 n_gd_g1 z_0_g1 K_0 (fun W' es' ck' f' D' h1 h2 h3 h4 h5 => ⟨es', ck', f', D', rfl, h1, h2, h3, h4, h5⟩) _ hE2
  ·
    refine c_reg R34_1_l ?_
    refine q0 p34_1_0 hE (st_move rfl) ?_
    clear hE a; intro a hE
    refine q0 p34_1_1 hE (st_fieldAddr Try.underlying61 rfl tS3 rfl rfl) ?_
    clear hE a; intro a hE
    refine q0 p34_1_2 hE (st_load1 tA3 rfl ((blk_cell B_g1 1).trans rfl)) ?_
    clear hE a; intro a hE
    refine p_cons (s_call (xs := [Operand.tmp 18, Operand.tmp 20]) (args := [Value.pointer (some ⟨gd, 0, none⟩), Value.int .i64 xa]) p34_1_3 hE wn_none rfl rfl Try.func38 cl38 (rnode_any gd (nn : Int) D xa false (by simpa using hNA) _ B_gd) ?_)
    rintro e w10 ⟨rfl, hk⟩
    replace B_g := kp_blk B_g hk (fun h => h)
    replace B_gm := kp_blk B_gm hk (fun h => h)
    replace B_gd := kp_blk B_gd hk (fun h => h)
    replace B_g1 := kp_blk B_g1 hk (fun h => h)
    replace K_0 := K_0.then_ hk (fun _ h => h.elim)
    refine ⟨_, rfl, ?_⟩
    clear hE a; intro a hE
    refine q0 p34_1_4 hE (st_move rfl) ?_
    clear hE a; intro a hE
    refine p_cons (s_skip p34_1_5 hE (wn_some g34_1_4 rfl rfl) rfl ?_)
    clear hE a; intro a hE
    refine p_cons (s_skip p34_1_6 hE (wn_some g34_1_4 rfl rfl) rfl ?_)
    clear hE a; intro a hE
    refine p_cons (s_skip p34_1_7 hE (wn_some g34_1_4 rfl rfl) rfl ?_)
    clear hE a; intro a hE
    refine p_cons (s_skip p34_1_8 hE (wn_some g34_1_4 rfl rfl) rfl ?_)
    clear hE a; intro a hE
    refine q0 p34_1_9 hE (st_pick rfl rfl) ?_
    clear hE a; intro a hE
    refine q0 p34_1_10 hE (st_move rfl) ?_
    clear hE a; intro a hE
    refine p_cons (s_skip p34_1_11 hE (wn_some g34_1_10 rfl rfl) rfl ?_)
    clear hE a; intro a hE
    refine p_cons (s_skip p34_1_12 hE (wn_some g34_1_10 rfl rfl) rfl ?_)
    clear hE a; intro a hE
    refine p_cons (s_skip p34_1_13 hE (wn_some g34_1_10 rfl rfl) rfl ?_)
    clear hE a; intro a hE
    refine p_cons (s_skip p34_1_14 hE (wn_some g34_1_10 rfl rfl) rfl ?_)
    clear hE a; intro a hE
    refine p_cons (s_skip p34_1_15 hE (wn_some g34_1_10 rfl rfl) rfl ?_)
    clear hE a; intro a hE
    refine q0 p34_1_16 hE (st_pick rfl rfl) ?_
    clear hE a; intro a hE
    refine q0 p34_1_17 hE (st_assign rfl) ?_
    clear hE a; intro a hE
    refine p_nil ?_
    refine x_norm ?_
    have hok9 : false = bothB (nn : Int) xa xb := by unfold bothB; rw [show nodeB (nn : Int) xa = false by simpa using hNA]; rfl
    have hE2 : En 213 a [(0, Value.pointer (some ⟨g, 0, none⟩)), (1, Value.pointer (some ⟨gd, 0, none⟩)), (5, Value.pointer (some ⟨g1, 0, none⟩)), (7, Value.bool false)] := En.sub hE ⟨rfl, rfl, rfl, rfl, trivial⟩
    exact do2 g gm gd ck nn es f D hnn xk xa xb xc xm hxm g1 false w w10 hok9 B_g B_gm hF B_gd hrel n_g_gm n_g_gd n_gm_gd B_g1 n_g_g1 n_gm_g1 n_gd_g1 z_0_g1 K_0 (fun W' es' ck' f' D' h1 h2 h3 h4 h5 => ⟨es', ck', f', D', rfl, h1, h2, h3, h4, h5⟩) _ hE2
theorem wk_map {E E2 : Nat → Nat → Prop} {nn x : Nat} (hE : ∀ a b, a < nn → E a b → E2 a b ∧ b < nn) (hx : x < nn) {b k : Nat} (h : Bf.Wk E x b k) : Bf.Wk E2 x b k ∧ b < nn := by
  induction h with
  | nil => exact ⟨.nil, hx⟩
  | step _ hab ih => exact ⟨.step ih.1 (hE _ _ ih.2 hab).1, (hE _ _ ih.2 hab).2⟩
theorem fit_to {nn x : Nat} {f : Int → Int → Option Int} {D : Nat → Nat → Int} {h : List Int} (hrel : RelL nn f D) (hx : x < nn) (hf : Lv.Fit (Lh.Ed nn f) nn x h) : Lv.Fit (Ed2 nn D) nn x h :=
  ⟨⟨hf.base.len, hf.base.zero, hf.base.low, fun b hb h0 => (wk_map (fun a b ha e => ⟨(hrel.ed ha).1 e, e.1⟩) hx (hf.base.walk b hb h0)).1⟩, fun a b ha hb e => hf.step a b ha hb ((hrel.ed ha).2 e), hf.bnd⟩
def Ed3 (nn : Nat) (D : Nat → Nat → Int) (a b : Nat) : Prop := a < nn ∧ b < nn ∧ 0 < D a b
theorem conn_one {nn x y : Nat} {D : Nat → Nat → Int} {h1 h2 : List Int} (hs : ∀ p q, D p q = D q p) (F1 : Lv.Fit (Ed2 nn D) nn x h1) (F2 : Lv.Fit (Ed2 nn D) nn y h2) (hx : x < nn) (hy : y < nn) (h : ∀ c, c < nn → 0 ≤ Bf.at_ h1 c) : ∀ c, c < nn → 0 ≤ Bf.at_ h2 c := fun c hc => by
  have to3 : ∀ a b, a < nn → Ed2 nn D a b → Ed3 nn D a b ∧ b < nn := fun a b ha e => ⟨⟨ha, e.1, e.2⟩, e.1⟩
  have w1 := (wk_map to3 hx (F1.base.walk y hy (h y hy))).1
  have w2 := (wk_map to3 hx (F1.base.walk c hc (h c hc))).1
  have w3 := Bf.wk_app (Bf.wk_sym (fun a b (e : Ed3 nn D a b) => (⟨e.2.1, e.1, by rw [hs]; exact e.2.2⟩ : Ed3 nn D b a)) w1) w2
  exact (Lv.wk_le (fun a b e => e.1) hy F2 (wk_map (fun a b ha (e : Ed3 nn D a b) => ⟨(⟨e.2.1, e.2.2⟩ : Ed2 nn D a b), e.2.1⟩) hy w3).1).2.1
theorem nbs_bad {n x : Int} {f : Int → Int → Option Int} {m : Nat} (h : nodeB n x = false) : Ln.nbs n f x m = [] := by
  unfold Ln.nbs
  rw [List.filter_eq_nil_iff.2 (fun j _ => by unfold costP; rw [h]; simp)]
  rfl
abbrev dA : Kd (Int × Int × Int × Int × Nat) := Kd.pair (Kd.int .i64) (Kd.pair (Kd.int .i64) (Kd.pair (Kd.int .i64) (Kd.pair (Kd.int .i64) Kf)))
abbrev zA : Int × Int × Int × Int × Nat := (0, 0, 0, 0, 0)
theorem act_open {w : World} {k x y c : Int} {m : Nat} {l : List Value} (h : Kd.K dA w (k, x, y, c, m) l) : l = [.int .i64 k, .int .i64 x, .int .i64 y, .int .i64 c, .float .f64 m] := by
  obtain ⟨c0, d0, rfl, h0, c1, d1, rfl, h1, c2, d2, rfl, h2, c3, d3, rfl, h3, h4⟩ := h
  subst h0; subst h1; subst h2; subst h3
  rw [show d3 = [Value.float .f64 m] from h4]
  rfl
theorem f64_lt {m : Nat} (h : (Lit.float .f64 m).wf = true) : m < 18446744073709551616 := of_decide_eq_true h
theorem R9_18_l : List.range (regOf Try.f9 18).size = [0] := by kernel_rfl
theorem R9_19_l : List.range (regOf Try.f9 19).size = [0, 1, 2] := by kernel_rfl
theorem R9_21_l : List.range (regOf Try.f9 21).size = [0] := by kernel_rfl
theorem R9_22_l : List.range (regOf Try.f9 22).size = [0] := by kernel_rfl
theorem R9_23_l : List.range (regOf Try.f9 23).size = [0, 1, 2] := by kernel_rfl
theorem R9_25_l : List.range (regOf Try.f9 25).size = [0, 1, 2, 3, 4, 5, 6, 7, 8] := by kernel_rfl
theorem R9_26_l : List.range (regOf Try.f9 26).size = [0, 1, 2, 3, 4, 5, 6, 7, 8] := by kernel_rfl
theorem R9_27_l : List.range (regOf Try.f9 27).size = [0, 1, 2, 3, 4] := by kernel_rfl
theorem R9_28_l : List.range (regOf Try.f9 28).size = [0, 1, 2, 3, 4, 5, 6, 7, 8, 9, 10, 11, 12, 13, 14, 15, 16, 17, 18, 19, 20, 21, 22, 23, 24, 25, 26, 27, 28, 29, 30, 31, 32, 33, 34, 35, 36, 37, 38, 39] := by kernel_rfl
theorem R9_29_l : List.range (regOf Try.f9 29).size = [0] := by kernel_rfl
theorem R9_24_l : List.range (regOf Try.f9 24).size = [0, 1, 2] := by kernel_rfl
theorem R9_30_l : List.range (regOf Try.f9 30).size = [0, 1, 2, 3, 4, 5] := by kernel_rfl
theorem R9_31_l : List.range (regOf Try.f9 31).size = [0] := by kernel_rfl
theorem R9_20_l : List.range (regOf Try.f9 20).size = [0, 1, 2] := by kernel_rfl
theorem R9_32_l : List.range (regOf Try.f9 32).size = [0, 1, 2, 3] := by kernel_rfl
theorem R9_33_l : List.range (regOf Try.f9 33).size = [0, 1, 2, 3, 4, 5, 6, 7] := by kernel_rfl
theorem R9_34_l : List.range (regOf Try.f9 34).size = [0, 1, 2, 3, 4, 5, 6, 7, 8, 9, 10, 11, 12, 13, 14, 15, 16, 17, 18, 19] := by kernel_rfl
theorem R9_35_l : List.range (regOf Try.f9 35).size = [0, 1, 2, 3] := by kernel_rfl
theorem R9_36_l : List.range (regOf Try.f9 36).size = [0] := by kernel_rfl
theorem R9_37_l : List.range (regOf Try.f9 37).size = [0] := by kernel_rfl
theorem R9_38_l : List.range (regOf Try.f9 38).size = [0, 1, 2, 3] := by kernel_rfl
theorem R9_40_l : List.range (regOf Try.f9 40).size = [0, 1, 2, 3, 4, 5, 6, 7, 8] := by kernel_rfl
theorem R9_39_l : List.range (regOf Try.f9 39).size = [0, 1, 2] := by kernel_rfl
theorem R9_41_l : List.range (regOf Try.f9 41).size = [0, 1, 2, 3, 4, 5, 6, 7, 8, 9, 10, 11, 12, 13, 14, 15, 16, 17, 18, 19, 20] := by kernel_rfl
theorem p9_18_0 : pj (regOf Try.f9 18) 0 = some (some 12, .assign (.const (.int .i64 0)), 3, none) := by kernel_rfl
theorem p9_19_0 : pj (regOf Try.f9 19) 0 = some (some 84, .move (.tmp 12), 3, none) := by kernel_rfl
theorem p9_19_1 : pj (regOf Try.f9 19) 1 = some (some 85, .move (.tmp 0), 3, none) := by kernel_rfl
theorem p9_19_2 : pj (regOf Try.f9 19) 2 = some (some 86, .binOp .lss 3 (.tmp 84) (.tmp 85) 3, 4, none) := by kernel_rfl
theorem p9_21_0 : pj (regOf Try.f9 21) 0 = some (some 13, .assign (.const (.slice none 0 0)), 52, none) := by kernel_rfl
theorem p9_22_0 : pj (regOf Try.f9 22) 0 = some (some 14, .assign (.const (.int .i64 0)), 3, none) := by kernel_rfl
theorem p9_23_0 : pj (regOf Try.f9 23) 0 = some (some 89, .move (.tmp 14), 3, none) := by kernel_rfl
theorem p9_23_1 : pj (regOf Try.f9 23) 1 = some (some 90, .move (.tmp 0), 3, none) := by kernel_rfl
theorem p9_23_2 : pj (regOf Try.f9 23) 2 = some (some 91, .binOp .lss 3 (.tmp 89) (.tmp 90) 3, 4, none) := by kernel_rfl
theorem p9_25_0 : pj (regOf Try.f9 25) 0 = some (some 95, .move (.tmp 7), 56, none) := by kernel_rfl
theorem p9_25_1 : pj (regOf Try.f9 25) 1 = some (some 96, .move (.tmp 12), 3, none) := by kernel_rfl
theorem p9_25_2 : pj (regOf Try.f9 25) 2 = some (some 97, .move (.tmp 14), 3, none) := by kernel_rfl
theorem p9_25_3 : pj (regOf Try.f9 25) 3 = some (some 98, .call { callee := .value (.func 32), args := #[.tmp 95, .tmp 96, .tmp 97], argTypes := #[56, 3, 3] }, 24, none) := by kernel_rfl
theorem cl32 : callable Try.f32 = true := by kernel_rfl
theorem p9_25_4 : pj (regOf Try.f9 25) 4 = some (some 94, .move (.tmp 98), 24, none) := by kernel_rfl
theorem p9_25_5 : pj (regOf Try.f9 25) 5 = some (some 99, .extract (.tmp 94) 0, 3, none) := by kernel_rfl
theorem p9_25_6 : pj (regOf Try.f9 25) 6 = some (some 100, .extract (.tmp 94) 1, 23, none) := by kernel_rfl
theorem p9_25_7 : pj (regOf Try.f9 25) 7 = some (some 15, .assign (.tmp 99), 3, none) := by kernel_rfl
theorem p9_25_8 : pj (regOf Try.f9 25) 8 = some (some 16, .assign (.tmp 100), 23, none) := by kernel_rfl
theorem p9_26_0 : pj (regOf Try.f9 26) 0 = some (some 101, .move (.tmp 9), 67, none) := by kernel_rfl
theorem p9_26_1 : pj (regOf Try.f9 26) 1 = some (some 102, .move (.tmp 12), 3, none) := by kernel_rfl
theorem p9_26_2 : pj (regOf Try.f9 26) 2 = some (some 103, .move (.tmp 14), 3, none) := by kernel_rfl
theorem p9_26_3 : pj (regOf Try.f9 26) 3 = some (some 104, .nilCheck (.tmp 101), 0, none) := by kernel_rfl
theorem p9_26_4 : pj (regOf Try.f9 26) 4 = some (some 105, .fieldAddr 71 (.tmp 104) 1, 0, none) := by kernel_rfl
theorem p9_26_5 : pj (regOf Try.f9 26) 5 = some (some 106, .indexAddr 69 (.tmp 105) (.tmp 102), 0, none) := by kernel_rfl
theorem p9_26_6 : pj (regOf Try.f9 26) 6 = some (some 107, .indexAddr 68 (.tmp 106) (.tmp 103), 0, none) := by kernel_rfl
theorem p9_26_7 : pj (regOf Try.f9 26) 7 = some (some 108, .load 3 (.tmp 107), 3, none) := by kernel_rfl
theorem p9_26_8 : pj (regOf Try.f9 26) 8 = some (some 109, .binOp .gtr 3 (.tmp 108) (.const (.int .i64 0)) 3, 4, none) := by kernel_rfl
theorem p9_27_0 : pj (regOf Try.f9 27) 0 = some (some 110, .move (.tmp 13), 52, none) := by kernel_rfl
theorem p9_27_1 : pj (regOf Try.f9 27) 1 = some (some 111, .move (.tmp 14), 3, none) := by kernel_rfl
theorem p9_27_2 : pj (regOf Try.f9 27) 2 = some (some 112, .buildSlice 52 1 #[(0, .tmp 111)], 52, none) := by kernel_rfl
theorem p9_27_3 : pj (regOf Try.f9 27) 3 = some (some 113, .call { callee := .builtin .append, args := #[.tmp 110, .tmp 112], argTypes := #[52, 52] }, 52, none) := by kernel_rfl
theorem eD3 : elemD Try.prog 3 = some (1, 1, 8) := by kernel_rfl
theorem p9_27_4 : pj (regOf Try.f9 27) 4 = some (some 13, .assign (.tmp 113), 52, none) := by kernel_rfl
theorem p9_28_0 : pj (regOf Try.f9 28) 0 = some (some 114, .move (.tmp 9), 67, none) := by kernel_rfl
theorem p9_28_1 : pj (regOf Try.f9 28) 1 = some (some 115, .move (.tmp 12), 3, none) := by kernel_rfl
theorem p9_28_2 : pj (regOf Try.f9 28) 2 = some (some 116, .move (.tmp 14), 3, none) := by kernel_rfl
theorem p9_28_3 : pj (regOf Try.f9 28) 3 = some (some 117, .nilCheck (.tmp 114), 0, none) := by kernel_rfl
theorem p9_28_4 : pj (regOf Try.f9 28) 4 = some (some 118, .fieldAddr 71 (.tmp 117) 1, 0, none) := by kernel_rfl
theorem p9_28_5 : pj (regOf Try.f9 28) 5 = some (some 119, .indexAddr 69 (.tmp 118) (.tmp 115), 0, none) := by kernel_rfl
theorem p9_28_6 : pj (regOf Try.f9 28) 6 = some (some 120, .indexAddr 68 (.tmp 119) (.tmp 116), 0, none) := by kernel_rfl
theorem p9_28_7 : pj (regOf Try.f9 28) 7 = some (some 121, .load 3 (.tmp 120), 3, none) := by kernel_rfl
theorem p9_28_8 : pj (regOf Try.f9 28) 8 = some (some 122, .binOp .gtr 3 (.tmp 121) (.const (.int .i64 0)) 3, 4, none) := by kernel_rfl
theorem p9_28_9 : pj (regOf Try.f9 28) 9 = some (some 123, .move (.tmp 122), 4, none) := by kernel_rfl
theorem p9_28_10 : pj (regOf Try.f9 28) 10 = some (some 124, .move (.tmp 16), 23, some (9, true)) := by kernel_rfl
theorem g9_28_9 : dstOf (regOf Try.f9 28) 9 = some 123 := by kernel_rfl
theorem p9_28_11 : pj (regOf Try.f9 28) 11 = some (some 125, .binOp .neq 23 (.tmp 124) (.const (.int .i64 0)) 23, 4, some (9, true)) := by kernel_rfl
theorem p9_28_12 : pj (regOf Try.f9 28) 12 = some (some 126, .move (.tmp 125), 4, some (9, true)) := by kernel_rfl
theorem p9_28_13 : pj (regOf Try.f9 28) 13 = some (some 127, .move (.tmp 15), 3, some (12, false)) := by kernel_rfl
theorem g9_28_12 : dstOf (regOf Try.f9 28) 12 = some 126 := by kernel_rfl
theorem p9_28_14 : pj (regOf Try.f9 28) 14 = some (some 128, .move (.tmp 9), 67, some (12, false)) := by kernel_rfl
theorem p9_28_15 : pj (regOf Try.f9 28) 15 = some (some 129, .move (.tmp 12), 3, some (12, false)) := by kernel_rfl
theorem p9_28_16 : pj (regOf Try.f9 28) 16 = some (some 130, .move (.tmp 14), 3, some (12, false)) := by kernel_rfl
theorem p9_28_17 : pj (regOf Try.f9 28) 17 = some (some 131, .nilCheck (.tmp 128), 0, some (12, false)) := by kernel_rfl
theorem p9_28_18 : pj (regOf Try.f9 28) 18 = some (some 132, .fieldAddr 71 (.tmp 131) 1, 0, some (12, false)) := by kernel_rfl
theorem p9_28_19 : pj (regOf Try.f9 28) 19 = some (some 133, .indexAddr 69 (.tmp 132) (.tmp 129), 0, some (12, false)) := by kernel_rfl
theorem p9_28_20 : pj (regOf Try.f9 28) 20 = some (some 134, .indexAddr 68 (.tmp 133) (.tmp 130), 0, some (12, false)) := by kernel_rfl
theorem p9_28_21 : pj (regOf Try.f9 28) 21 = some (some 135, .load 3 (.tmp 134), 3, some (12, false)) := by kernel_rfl
theorem p9_28_22 : pj (regOf Try.f9 28) 22 = some (some 136, .binOp .neq 3 (.tmp 127) (.tmp 135) 3, 4, some (12, false)) := by kernel_rfl
theorem p9_28_23 : pj (regOf Try.f9 28) 23 = some (some 137, .pick (.tmp 126) (.const (.bool true)) (.tmp 136), 4, some (9, true)) := by kernel_rfl
theorem p9_28_24 : pj (regOf Try.f9 28) 24 = some (some 138, .pick (.tmp 123) (.tmp 137) (.const (.bool false)), 4, none) := by kernel_rfl
theorem p9_28_25 : pj (regOf Try.f9 28) 25 = some (some 139, .move (.tmp 138), 4, none) := by kernel_rfl
theorem p9_28_26 : pj (regOf Try.f9 28) 26 = some (some 140, .move (.tmp 9), 67, some (25, false)) := by kernel_rfl
theorem g9_28_25 : dstOf (regOf Try.f9 28) 25 = some 139 := by kernel_rfl
theorem p9_28_27 : pj (regOf Try.f9 28) 27 = some (some 141, .move (.tmp 12), 3, some (25, false)) := by kernel_rfl
theorem p9_28_28 : pj (regOf Try.f9 28) 28 = some (some 142, .move (.tmp 14), 3, some (25, false)) := by kernel_rfl
theorem p9_28_29 : pj (regOf Try.f9 28) 29 = some (some 143, .nilCheck (.tmp 140), 0, some (25, false)) := by kernel_rfl
theorem p9_28_30 : pj (regOf Try.f9 28) 30 = some (some 144, .fieldAddr 71 (.tmp 143) 1, 0, some (25, false)) := by kernel_rfl
theorem p9_28_31 : pj (regOf Try.f9 28) 31 = some (some 145, .indexAddr 69 (.tmp 144) (.tmp 141), 0, some (25, false)) := by kernel_rfl
theorem p9_28_32 : pj (regOf Try.f9 28) 32 = some (some 146, .indexAddr 68 (.tmp 145) (.tmp 142), 0, some (25, false)) := by kernel_rfl
theorem p9_28_33 : pj (regOf Try.f9 28) 33 = some (some 147, .load 3 (.tmp 146), 3, some (25, false)) := by kernel_rfl
theorem p9_28_34 : pj (regOf Try.f9 28) 34 = some (some 148, .binOp .eql 3 (.tmp 147) (.const (.int .i64 0)) 3, 4, some (25, false)) := by kernel_rfl
theorem p9_28_35 : pj (regOf Try.f9 28) 35 = some (some 149, .move (.tmp 148), 4, some (25, false)) := by kernel_rfl
theorem p9_28_36 : pj (regOf Try.f9 28) 36 = some (some 150, .move (.tmp 16), 23, some (35, true)) := by kernel_rfl
theorem g9_28_35 : dstOf (regOf Try.f9 28) 35 = some 149 := by kernel_rfl
theorem p9_28_37 : pj (regOf Try.f9 28) 37 = some (some 151, .binOp .neq 23 (.tmp 150) (.const (.int .i64 8)) 23, 4, some (35, true)) := by kernel_rfl
theorem p9_28_38 : pj (regOf Try.f9 28) 38 = some (some 152, .pick (.tmp 149) (.tmp 151) (.const (.bool false)), 4, some (25, false)) := by kernel_rfl
theorem p9_28_39 : pj (regOf Try.f9 28) 39 = some (some 153, .pick (.tmp 139) (.const (.bool true)) (.tmp 152), 4, none) := by kernel_rfl
theorem p9_24_0 : pj (regOf Try.f9 24) 0 = some (some 92, .move (.tmp 14), 3, none) := by kernel_rfl
theorem p9_24_1 : pj (regOf Try.f9 24) 1 = some (some 93, .binOp .add 3 (.tmp 92) (.const (.int .i64 1)) 3, 3, none) := by kernel_rfl
theorem p9_24_2 : pj (regOf Try.f9 24) 2 = some (some 14, .assign (.tmp 93), 3, none) := by kernel_rfl
theorem p9_30_0 : pj (regOf Try.f9 30) 0 = some (some 154, .move (.tmp 7), 56, none) := by kernel_rfl
theorem p9_30_1 : pj (regOf Try.f9 30) 1 = some (some 155, .move (.tmp 12), 3, none) := by kernel_rfl
theorem p9_30_2 : pj (regOf Try.f9 30) 2 = some (some 156, .call { callee := .value (.func 31), args := #[.tmp 154, .tmp 155], argTypes := #[56, 3] }, 52, none) := by kernel_rfl
theorem cl31 : callable Try.f31 = true := by kernel_rfl
theorem p9_30_3 : pj (regOf Try.f9 30) 3 = some (some 157, .move (.tmp 13), 52, none) := by kernel_rfl
theorem p9_30_4 : pj (regOf Try.f9 30) 4 = some (some 158, .call { callee := .value (.func 37), args := #[.tmp 156, .tmp 157], argTypes := #[52, 52] }, 4, none) := by kernel_rfl
theorem cl37 : callable Try.f37 = true := by kernel_rfl
theorem p9_30_5 : pj (regOf Try.f9 30) 5 = some (some 159, .unOp .not 4 (.tmp 158), 4, none) := by kernel_rfl
theorem p9_20_0 : pj (regOf Try.f9 20) 0 = some (some 87, .move (.tmp 12), 3, none) := by kernel_rfl
theorem p9_20_1 : pj (regOf Try.f9 20) 1 = some (some 88, .binOp .add 3 (.tmp 87) (.const (.int .i64 1)) 3, 3, none) := by kernel_rfl
theorem p9_20_2 : pj (regOf Try.f9 20) 2 = some (some 12, .assign (.tmp 88), 3, none) := by kernel_rfl
theorem p9_32_0 : pj (regOf Try.f9 32) 0 = some (some 160, .move (.tmp 9), 67, none) := by kernel_rfl
theorem p9_32_1 : pj (regOf Try.f9 32) 1 = some (some 161, .move (.tmp 2), 3, none) := by kernel_rfl
theorem p9_32_2 : pj (regOf Try.f9 32) 2 = some (some 162, .call { callee := .value (.func 38), args := #[.tmp 160, .tmp 161], argTypes := #[67, 3] }, 4, none) := by kernel_rfl
theorem p9_32_3 : pj (regOf Try.f9 32) 3 = some (some 163, .unOp .not 4 (.tmp 162), 4, none) := by kernel_rfl
theorem p9_35_0 : pj (regOf Try.f9 35) 0 = some (some 189, .move (.tmp 9), 67, none) := by kernel_rfl
theorem p9_35_1 : pj (regOf Try.f9 35) 1 = some (some 190, .move (.tmp 2), 3, none) := by kernel_rfl
theorem p9_35_2 : pj (regOf Try.f9 35) 2 = some (some 191, .call { callee := .value (.func 39), args := #[.tmp 189, .tmp 190], argTypes := #[67, 3] }, 52, none) := by kernel_rfl
theorem cl39 : callable Try.f39 = true := by kernel_rfl
theorem p9_35_3 : pj (regOf Try.f9 35) 3 = some (some 19, .assign (.tmp 191), 52, none) := by kernel_rfl
theorem p9_36_0 : pj (regOf Try.f9 36) 0 = some (some 20, .assign (.const (.bool true)), 4, none) := by kernel_rfl
theorem p9_37_0 : pj (regOf Try.f9 37) 0 = some (some 21, .assign (.const (.int .i64 0)), 3, none) := by kernel_rfl
theorem p9_38_0 : pj (regOf Try.f9 38) 0 = some (some 192, .move (.tmp 21), 3, none) := by kernel_rfl
theorem p9_38_1 : pj (regOf Try.f9 38) 1 = some (some 193, .move (.tmp 19), 52, none) := by kernel_rfl
theorem p9_38_2 : pj (regOf Try.f9 38) 2 = some (some 194, .call { callee := .builtin .len, args := #[.tmp 193], argTypes := #[52] }, 3, none) := by kernel_rfl
theorem p9_38_3 : pj (regOf Try.f9 38) 3 = some (some 195, .binOp .lss 3 (.tmp 192) (.tmp 194) 3, 4, none) := by kernel_rfl
theorem p9_40_0 : pj (regOf Try.f9 40) 0 = some (some 198, .move (.tmp 20), 4, none) := by kernel_rfl
theorem p9_40_1 : pj (regOf Try.f9 40) 1 = some (some 199, .move (.tmp 198), 4, none) := by kernel_rfl
theorem p9_40_2 : pj (regOf Try.f9 40) 2 = some (some 200, .move (.tmp 19), 52, some (1, true)) := by kernel_rfl
theorem g9_40_1 : dstOf (regOf Try.f9 40) 1 = some 199 := by kernel_rfl
theorem p9_40_3 : pj (regOf Try.f9 40) 3 = some (some 201, .move (.tmp 21), 3, some (1, true)) := by kernel_rfl
theorem p9_40_4 : pj (regOf Try.f9 40) 4 = some (some 202, .indexAddr 52 (.tmp 200) (.tmp 201), 0, some (1, true)) := by kernel_rfl
theorem p9_40_5 : pj (regOf Try.f9 40) 5 = some (some 203, .load 3 (.tmp 202), 3, some (1, true)) := by kernel_rfl
theorem p9_40_6 : pj (regOf Try.f9 40) 6 = some (some 204, .binOp .geq 3 (.tmp 203) (.const (.int .i64 0)) 3, 4, some (1, true)) := by kernel_rfl
theorem p9_40_7 : pj (regOf Try.f9 40) 7 = some (some 205, .pick (.tmp 199) (.tmp 204) (.const (.bool false)), 4, none) := by kernel_rfl
theorem p9_40_8 : pj (regOf Try.f9 40) 8 = some (some 20, .assign (.tmp 205), 4, none) := by kernel_rfl
theorem p9_39_0 : pj (regOf Try.f9 39) 0 = some (some 196, .move (.tmp 21), 3, none) := by kernel_rfl
theorem p9_39_1 : pj (regOf Try.f9 39) 1 = some (some 197, .binOp .add 3 (.tmp 196) (.const (.int .i64 1)) 3, 3, none) := by kernel_rfl
theorem p9_39_2 : pj (regOf Try.f9 39) 2 = some (some 21, .assign (.tmp 197), 3, none) := by kernel_rfl
theorem p9_41_0 : pj (regOf Try.f9 41) 0 = some (some 206, .call { callee := .value (.func 33), args := #[], argTypes := #[] }, 4, none) := by kernel_rfl
theorem cl33 : callable Try.f33 = true := by kernel_rfl
theorem p9_41_1 : pj (regOf Try.f9 41) 1 = some (some 207, .move (.tmp 206), 4, none) := by kernel_rfl
theorem p9_41_2 : pj (regOf Try.f9 41) 2 = some (some 208, .move (.tmp 7), 56, some (1, true)) := by kernel_rfl
theorem g9_41_1 : dstOf (regOf Try.f9 41) 1 = some 207 := by kernel_rfl
theorem p9_41_3 : pj (regOf Try.f9 41) 3 = some (some 209, .move (.tmp 2), 3, some (1, true)) := by kernel_rfl
theorem p9_41_4 : pj (regOf Try.f9 41) 4 = some (some 210, .call { callee := .value (.func 30), args := #[.tmp 208, .tmp 209], argTypes := #[56, 3] }, 52, some (1, true)) := by kernel_rfl
theorem cl30 : callable Try.f30 = true := by kernel_rfl
theorem p9_41_5 : pj (regOf Try.f9 41) 5 = some (some 211, .move (.tmp 19), 52, some (1, true)) := by kernel_rfl
theorem p9_41_6 : pj (regOf Try.f9 41) 6 = some (some 212, .call { callee := .value (.func 37), args := #[.tmp 210, .tmp 211], argTypes := #[52, 52] }, 4, some (1, true)) := by kernel_rfl
theorem p9_41_7 : pj (regOf Try.f9 41) 7 = some (some 213, .pick (.tmp 207) (.tmp 212) (.const (.bool false)), 4, none) := by kernel_rfl
theorem p9_41_8 : pj (regOf Try.f9 41) 8 = some (some 214, .move (.tmp 213), 4, none) := by kernel_rfl
theorem p9_41_9 : pj (regOf Try.f9 41) 9 = some (some 215, .move (.tmp 7), 56, some (8, true)) := by kernel_rfl
theorem g9_41_8 : dstOf (regOf Try.f9 41) 8 = some 214 := by kernel_rfl
theorem p9_41_10 : pj (regOf Try.f9 41) 10 = some (some 216, .call { callee := .value (.func 40), args := #[.tmp 215], argTypes := #[56] }, 4, some (8, true)) := by kernel_rfl
theorem cl40 : callable Try.f40 = true := by kernel_rfl
theorem p9_41_11 : pj (regOf Try.f9 41) 11 = some (some 217, .move (.tmp 20), 4, some (8, true)) := by kernel_rfl
theorem p9_41_12 : pj (regOf Try.f9 41) 12 = some (some 218, .binOp .eql 4 (.tmp 216) (.tmp 217) 4, 4, some (8, true)) := by kernel_rfl
theorem p9_41_13 : pj (regOf Try.f9 41) 13 = some (some 219, .pick (.tmp 214) (.tmp 218) (.const (.bool false)), 4, none) := by kernel_rfl
theorem p9_41_14 : pj (regOf Try.f9 41) 14 = some (some 220, .move (.tmp 219), 4, none) := by kernel_rfl
theorem p9_41_15 : pj (regOf Try.f9 41) 15 = some (some 221, .move (.tmp 7), 56, some (14, true)) := by kernel_rfl
theorem g9_41_14 : dstOf (regOf Try.f9 41) 14 = some 220 := by kernel_rfl
theorem p9_41_16 : pj (regOf Try.f9 41) 16 = some (some 222, .call { callee := .value (.func 41), args := #[.tmp 221], argTypes := #[56] }, 3, some (14, true)) := by kernel_rfl
theorem cl41 : callable Try.f41 = true := by kernel_rfl
theorem p9_41_17 : pj (regOf Try.f9 41) 17 = some (some 223, .move (.tmp 0), 3, some (14, true)) := by kernel_rfl
theorem p9_41_18 : pj (regOf Try.f9 41) 18 = some (some 224, .binOp .eql 3 (.tmp 222) (.tmp 223) 3, 4, some (14, true)) := by kernel_rfl
theorem p9_41_19 : pj (regOf Try.f9 41) 19 = some (some 225, .pick (.tmp 220) (.tmp 224) (.const (.bool false)), 4, none) := by kernel_rfl
theorem p9_41_20 : pj (regOf Try.f9 41) 20 = some (some 6, .assign (.tmp 225), 4, none) := by kernel_rfl
theorem p9_33_0 : pj (regOf Try.f9 33) 0 = some (some 165, .move (.tmp 7), 56, none) := by kernel_rfl
theorem p9_33_1 : pj (regOf Try.f9 33) 1 = some (some 166, .move (.tmp 2), 3, none) := by kernel_rfl
theorem p9_33_2 : pj (regOf Try.f9 33) 2 = some (some 167, .call { callee := .value (.func 32), args := #[.tmp 165, .tmp 166, .const (.int .i64 0)], argTypes := #[56, 3, 3] }, 24, none) := by kernel_rfl
theorem p9_33_3 : pj (regOf Try.f9 33) 3 = some (some 164, .move (.tmp 167), 24, none) := by kernel_rfl
theorem p9_33_4 : pj (regOf Try.f9 33) 4 = some (some 168, .extract (.tmp 164) 0, 3, none) := by kernel_rfl
theorem p9_33_5 : pj (regOf Try.f9 33) 5 = some (some 169, .extract (.tmp 164) 1, 23, none) := by kernel_rfl
theorem p9_33_6 : pj (regOf Try.f9 33) 6 = some (some 17, .assign (.tmp 168), 3, none) := by kernel_rfl
theorem p9_33_7 : pj (regOf Try.f9 33) 7 = some (some 18, .assign (.tmp 169), 23, none) := by kernel_rfl
theorem p9_34_0 : pj (regOf Try.f9 34) 0 = some (some 170, .call { callee := .value (.func 33), args := #[], argTypes := #[] }, 4, none) := by kernel_rfl
theorem p9_34_1 : pj (regOf Try.f9 34) 1 = some (some 171, .move (.tmp 170), 4, none) := by kernel_rfl
theorem p9_34_2 : pj (regOf Try.f9 34) 2 = some (some 172, .move (.tmp 7), 56, some (1, true)) := by kernel_rfl
theorem g9_34_1 : dstOf (regOf Try.f9 34) 1 = some 171 := by kernel_rfl
theorem p9_34_3 : pj (regOf Try.f9 34) 3 = some (some 173, .move (.tmp 2), 3, some (1, true)) := by kernel_rfl
theorem p9_34_4 : pj (regOf Try.f9 34) 4 = some (some 174, .call { callee := .value (.func 30), args := #[.tmp 172, .tmp 173], argTypes := #[56, 3] }, 52, some (1, true)) := by kernel_rfl
theorem p9_34_5 : pj (regOf Try.f9 34) 5 = some (some 175, .call { callee := .builtin .len, args := #[.tmp 174], argTypes := #[52] }, 3, some (1, true)) := by kernel_rfl
theorem p9_34_6 : pj (regOf Try.f9 34) 6 = some (some 176, .binOp .eql 3 (.tmp 175) (.const (.int .i64 0)) 3, 4, some (1, true)) := by kernel_rfl
theorem p9_34_7 : pj (regOf Try.f9 34) 7 = some (some 177, .pick (.tmp 171) (.tmp 176) (.const (.bool false)), 4, none) := by kernel_rfl
theorem p9_34_8 : pj (regOf Try.f9 34) 8 = some (some 178, .move (.tmp 177), 4, none) := by kernel_rfl
theorem p9_34_9 : pj (regOf Try.f9 34) 9 = some (some 179, .move (.tmp 7), 56, some (8, true)) := by kernel_rfl
theorem g9_34_8 : dstOf (regOf Try.f9 34) 8 = some 178 := by kernel_rfl
theorem p9_34_10 : pj (regOf Try.f9 34) 10 = some (some 180, .move (.tmp 2), 3, some (8, true)) := by kernel_rfl
theorem p9_34_11 : pj (regOf Try.f9 34) 11 = some (some 181, .call { callee := .value (.func 31), args := #[.tmp 179, .tmp 180], argTypes := #[56, 3] }, 52, some (8, true)) := by kernel_rfl
theorem p9_34_12 : pj (regOf Try.f9 34) 12 = some (some 182, .call { callee := .builtin .len, args := #[.tmp 181], argTypes := #[52] }, 3, some (8, true)) := by kernel_rfl
theorem p9_34_13 : pj (regOf Try.f9 34) 13 = some (some 183, .binOp .eql 3 (.tmp 182) (.const (.int .i64 0)) 3, 4, some (8, true)) := by kernel_rfl
theorem p9_34_14 : pj (regOf Try.f9 34) 14 = some (some 184, .pick (.tmp 178) (.tmp 183) (.const (.bool false)), 4, none) := by kernel_rfl
theorem p9_34_15 : pj (regOf Try.f9 34) 15 = some (some 185, .move (.tmp 184), 4, none) := by kernel_rfl
theorem p9_34_16 : pj (regOf Try.f9 34) 16 = some (some 186, .move (.tmp 18), 23, some (15, true)) := by kernel_rfl
theorem g9_34_15 : dstOf (regOf Try.f9 34) 15 = some 185 := by kernel_rfl
theorem p9_34_17 : pj (regOf Try.f9 34) 17 = some (some 187, .binOp .eql 23 (.tmp 186) (.const (.int .i64 1)) 23, 4, some (15, true)) := by kernel_rfl
theorem p9_34_18 : pj (regOf Try.f9 34) 18 = some (some 188, .pick (.tmp 185) (.tmp 187) (.const (.bool false)), 4, none) := by kernel_rfl
theorem p9_34_19 : pj (regOf Try.f9 34) 19 = some (some 6, .assign (.tmp 188), 4, none) := by kernel_rfl
set_option maxHeartbeats 4000000 in
theorem play18 {R : Ending → World → Prop} (nn : Nat) (hn0 : 0 < nn) (hnn : nn ≤ 64) (a2 : Int) (w W : World) (gX gY gd ck9 : Nat) (es9 : Array MapEntry) (f9 : Int → Int → Option Int) (D9 : Nat → Nat → Int) (B_gX : W.heap[gX]? = some (.cells #[.int .i64 (nn : Int), .map (some gY)] 83 (0, 0))) (B_gY : W.heap[gY]? = some (.map es9 ck9)) (B_gd : W.heap[gd]? = some (.cells (Lm.cellsD (nn : Int) D9) 71 (0, 0))) (MF9 : Mp.MapF es9 f9) (hrel : RelL nn f9 D9) (n_gX_gY : gX ≠ gY) (n_gd_gX : gd ≠ gX) (n_gd_gY : gd ≠ gY) (K_0 : Kp w W (fun _ => False)) (hR : ∀ W', Kp w W' (fun _ => False) → R (.returned (.bool true)) W') (a : Act) (hE : En 226 a [(0, Value.int .i64 (nn : Int)), (2, Value.int .i64 a2), (7, Value.pointer (some ⟨gX, 0, none⟩)), (9, Value.pointer (some ⟨gd, 0, none⟩))]) : Code.wp Try.prog (.seq (.seq (.region 18 (regOf Try.f9 18) false) (.block 2 (.loop (.seq (.seq (.region 19 (regOf Try.f9 19) false) (.cond (Operand.tmp 86) (.skip) (.exit 2))) (.seq (.block 3 (.seq (.region 21 (regOf Try.f9 21) false) (.seq (.seq (.region 22 (regOf Try.f9 22) false) (.block 4 (.loop (.seq (.seq (.region 23 (regOf Try.f9 23) false) (.cond (Operand.tmp 91) (.skip) (.exit 4))) (.seq (.block 5 (.seq (.region 25 (regOf Try.f9 25) false) (.seq (.seq (.region 26 (regOf Try.f9 26) false) (.cond (Operand.tmp 109) (.region 27 (regOf Try.f9 27) false) (.skip))) (.seq (.region 28 (regOf Try.f9 28) false) (.cond (Operand.tmp 153) (.seq (.region 29 (regOf Try.f9 29) false) (.ret)) (.skip)))))) (.region 24 (regOf Try.f9 24) false)))))) (.seq (.region 30 (regOf Try.f9 30) false) (.cond (Operand.tmp 159) (.seq (.region 31 (regOf Try.f9 31) false) (.ret)) (.skip)))))) (.region 20 (regOf Try.f9 20) false)))))) (.seq (.seq (.region 32 (regOf Try.f9 32) false) (.cond (Operand.tmp 163) (.seq (.region 33 (regOf Try.f9 33) false) (.seq (.region 34 (regOf Try.f9 34) false) (.ret))) (.skip))) (.seq (.region 35 (regOf Try.f9 35) false) (.seq (.region 36 (regOf Try.f9 36) false) (.seq (.seq (.region 37 (regOf Try.f9 37) false) (.block 6 (.loop (.seq (.seq (.region 38 (regOf Try.f9 38) false) (.cond (Operand.tmp 195) (.skip) (.exit 6))) (.seq (.block 7 (.region 40 (regOf Try.f9 40) false)) (.region 39 (regOf Try.f9 39) false)))))) (.seq (.region 41 (regOf Try.f9 41) false) (.ret))))))) (bodyPost Try.prog Try.f9 R) a W := by
  refine wp_seq ?_
  refine c_reg R9_18_l ?_
  refine q0 p9_18_0 hE (st_assign rfl) ?_
  clear hE a; intro a hE
  refine p_nil ?_
  refine x_norm ?_
  refine wp_block ?_
  refine c_loop (α := Nat) (fun p a W => En 226 a [(0, Value.int .i64 (nn : Int)), (2, Value.int .i64 a2), (7, Value.pointer (some ⟨gX, 0, none⟩)), (9, Value.pointer (some ⟨gd, 0, none⟩)), (12, Value.int .i64 (p : Int))] ∧ p ≤ nn ∧ W.heap[gX]? = some (.cells #[Value.int .i64 (nn : Int), Value.map (some gY)] 83 (0, 0)) ∧ W.heap[gY]? = some (.map es9 ck9) ∧ W.heap[gd]? = some (.cells (Lm.cellsD (nn : Int) D9) 71 (0, 0)) ∧ Kp w W (fun _ => False)) (fun p => nn - p) (0) ?_ ?_
  ·
    exact ⟨En.sub hE ⟨rfl, rfl, rfl, rfl, rfl, trivial⟩, Nat.zero_le _, B_gX, B_gY, B_gd, K_0⟩
  ·
    clear hE a
    rintro p a w1 ⟨hE, hp9, B_gX, B_gY, B_gd, K_0⟩
    refine wp_seq ?_
    rcases Decidable.em ((p : Int) < (nn : Int)) with hP1 | hP1
    ·
      refine c_reg R9_19_l ?_
      refine q0 p9_19_0 hE (st_move rfl) ?_
      clear hE a; intro a hE
      refine q0 p9_19_1 hE (st_move rfl) ?_
      clear hE a; intro a hE
      refine q0 p9_19_2 hE (st_lss (b := true) rfl rfl (decide_eq_true hP1)) ?_
      clear hE a; intro a hE
      refine p_nil ?_
      refine x_norm ?_
      refine c_cond (t := true) hE rfl ?_
      refine wp_skip ?_
      refine x_norm ?_
      refine wp_seq ?_
      refine wp_block ?_
      refine c_reg R9_21_l ?_
      refine q0 p9_21_0 hE (st_assign rfl) ?_
      clear hE a; intro a hE
      refine p_nil ?_
      refine x_norm ?_
      refine wp_seq ?_
      refine c_reg R9_22_l ?_
      refine q0 p9_22_0 hE (st_assign rfl) ?_
      clear hE a; intro a hE
      refine p_nil ?_
      refine x_norm ?_
      refine wp_block ?_
      have O_near := own_none w1 w.heap.size 3 1
      have Nb_near_gX : ¬ OB none gX := ob_nil
      have Nb_near_gY : ¬ OB none gY := ob_nil
      have Nb_near_gd : ¬ OB none gd := ob_nil
      have Z_0_near : ∀ k, OB none k → (fun _ => False) k ∨ w.heap.size ≤ k := fun k h => absurd h ob_nil
      refine c_loop (α := Nat) (fun q a W => ∃ (A_near : Option Addr) (c_near : Nat) (n_near : Nat), En 226 a [(0, Value.int .i64 (nn : Int)), (2, Value.int .i64 a2), (7, Value.pointer (some ⟨gX, 0, none⟩)), (9, Value.pointer (some ⟨gd, 0, none⟩)), (12, Value.int .i64 (p : Int)), (86, Value.bool true), (14, Value.int .i64 (q : Int)), (13, Value.slice A_near n_near c_near)] ∧ q ≤ nn ∧ W.heap[gX]? = some (.cells #[Value.int .i64 (nn : Int), Value.map (some gY)] 83 (0, 0)) ∧ W.heap[gY]? = some (.map es9 ck9) ∧ W.heap[gd]? = some (.cells (Lm.cellsD (nn : Int) D9) 71 (0, 0)) ∧ n_near = (nD D9 p q).length ∧ W.ownsRow w.heap.size 3 1 (.slice A_near n_near c_near) n_near (encs (Value.int .i64) (nD D9 p q)) ∧ ¬ OB A_near gX ∧ ¬ OB A_near gY ∧ ¬ OB A_near gd ∧ (∀ k, OB A_near k → (fun _ => False) k ∨ w.heap.size ≤ k) ∧ Kp w W (fun _ => False)) (fun q => nn - q) (0) ?_ ?_
      ·
        exact ⟨none, 0, 0, En.sub hE ⟨rfl, rfl, rfl, rfl, rfl, rfl, rfl, rfl, trivial⟩, Nat.zero_le _, B_gX, B_gY, B_gd, rfl, O_near, Nb_near_gX, Nb_near_gY, Nb_near_gd, Z_0_near, K_0⟩
      ·
        clear hE a
        rintro q a w2 ⟨A_near, c_near, n_near, hE, hq9, B_gX, B_gY, B_gd, hn_near, O_near, Nb_near_gX, Nb_near_gY, Nb_near_gd, Z_0_near, K_0⟩
        refine wp_seq ?_
        rcases Decidable.em ((q : Int) < (nn : Int)) with hQ1 | hQ1
        ·
          refine c_reg R9_23_l ?_
          refine q0 p9_23_0 hE (st_move rfl) ?_
          clear hE a; intro a hE
          refine q0 p9_23_1 hE (st_move rfl) ?_
          clear hE a; intro a hE
          refine q0 p9_23_2 hE (st_lss (b := true) rfl rfl (decide_eq_true hQ1)) ?_
          clear hE a; intro a hE
          refine p_nil ?_
          refine x_norm ?_
          refine c_cond (t := true) hE rfl ?_
          refine wp_skip ?_
          refine x_norm ?_
          refine wp_seq ?_
          refine wp_block ?_
          have hlo := hrel.low p q
          rcases Decidable.em (0 < D9 p q) with hPO | hPO
          ·
            refine c_reg R9_25_l ?_
            refine q0 p9_25_0 hE (st_move rfl) ?_
            clear hE a; intro a hE
            refine q0 p9_25_1 hE (st_move rfl) ?_
            clear hE a; intro a hE
            refine q0 p9_25_2 hE (st_move rfl) ?_
            clear hE a; intro a hE
            have hct := cost_any gX gY _ _ f9 (nn : Int) (p : Int) (q : Int) w2 B_gX B_gY MF9 n_gX_gY
            rw [hrel.cost (by omega) (by omega), if_pos hPO] at hct
            dsimp only at hct
            refine p_cons (s_call (xs := [Operand.tmp 95, Operand.tmp 96, Operand.tmp 97]) (args := [Value.pointer (some ⟨gX, 0, none⟩), Value.int .i64 (p : Int), Value.int .i64 (q : Int)]) p9_25_3 hE wn_none rfl rfl Try.func32 cl32 (hct) ?_)
            rintro e w3 ⟨rfl, hk⟩
            replace B_gX := kp_blk B_gX hk (fun h => h)
            replace B_gY := kp_blk B_gY hk (fun h => h)
            replace B_gd := kp_blk B_gd hk (fun h => h)
            replace O_near := own_keep O_near hk (fun _ _ h => h)
            replace K_0 := K_0.then_ hk (fun _ h => h.elim)
            refine ⟨_, rfl, ?_⟩
            clear hE a; intro a hE
            refine q0 p9_25_4 hE (st_move rfl) ?_
            clear hE a; intro a hE
            refine q0 p9_25_5 hE (st_extract rfl rfl) ?_
            clear hE a; intro a hE
            refine q0 p9_25_6 hE (st_extract rfl rfl) ?_
            clear hE a; intro a hE
            refine q0 p9_25_7 hE (st_assign rfl) ?_
            clear hE a; intro a hE
            refine q0 p9_25_8 hE (st_assign rfl) ?_
            clear hE a; intro a hE
            refine p_nil ?_
            refine x_norm ?_
            refine wp_seq ?_
            refine c_reg R9_26_l ?_
            refine q0 p9_26_0 hE (st_move rfl) ?_
            clear hE a; intro a hE
            refine q0 p9_26_1 hE (st_move rfl) ?_
            clear hE a; intro a hE
            refine q0 p9_26_2 hE (st_move rfl) ?_
            clear hE a; intro a hE
            refine q0 p9_26_3 hE (st_nil rfl) ?_
            clear hE a; intro a hE
            refine q0 p9_26_4 hE (st_fieldAddr Try.underlying71 rfl tS69 rfl rfl) ?_
            clear hE a; intro a hE
            refine q0 p9_26_5 hE (st_indexAddrA (l := 64) (i := p) (o' := 1 + p * 64) Try.underlying69 tS68 rfl rfl (by omega) rfl) ?_
            clear hE a; intro a hE
            refine q0 p9_26_6 hE (st_indexAddrA (l := 64) (i := q) (o' := (1 + p * 64) + q) Try.underlying68 tS3 rfl rfl (by omega) (by omega)) ?_
            clear hE a; intro a hE
            refine q0 p9_26_7 hE (st_load1 tA3 rfl ((blk_cell B_gd _).trans (Lm.cD (by omega) (by omega) rfl))) ?_
            clear hE a; intro a hE
            refine q0 p9_26_8 hE (st_gtr (b := true) rfl rfl (decide_eq_true hPO)) ?_
            clear hE a; intro a hE
            refine p_nil ?_
            refine x_norm ?_
            refine c_cond (t := true) hE rfl ?_
            refine c_regL R9_27_l ?_
            have hnl := nD_len D9 p q
            refine q0 p9_27_0 hE (st_move rfl) ?_
            clear hE a; intro a hE
            refine q0 p9_27_1 hE (st_move rfl) ?_
            clear hE a; intro a hE
            refine p_cons (s_row (xs := [(0, Operand.tmp 111)]) (vs := [(0, Value.int .i64 (q : Int))]) (cs := #[Value.int .i64 (q : Int)]) p9_27_2 hE wn_none rfl Try.underlying52 rfl (by kernel_rfl) ?_)
            clear hE a; intro g4 w5 z6 B_g4 hk a hE
            have n_gX_g4 : gX ≠ g4 := ne_new B_gX z6
            have n_gY_g4 : gY ≠ g4 := ne_new B_gY z6
            have n_gd_g4 : gd ≠ g4 := ne_new B_gd z6
            have z_0_g4 := Nat.le_trans K_0.kept.1 z6
            have Nb_near_g4 : ¬ OB A_near g4 := fun h => by have := (own_ob O_near h).2; omega
            replace B_gX := kp_blk B_gX hk (fun h => h)
            replace B_gY := kp_blk B_gY hk (fun h => h)
            replace B_gd := kp_blk B_gd hk (fun h => h)
            replace O_near := own_keep O_near hk (fun _ _ h => h)
            replace K_0 := K_0.then_ hk (fun _ h => h.elim)
            clear hk
            refine p_cons (s_appendC (xs := (nD D9 p q)) (ys := [(q : Int)]) p9_27_3 hE wn_none rfl Try.underlying52 eD3 rfl O_near rfl (C_blk (k := .i64) (l := [(q : Int)]) (off := 0) B_g4 ⟨rfl, Nat.le_of_ble_eq_true rfl⟩ rfl) (by omega) (by omega) K_0.kept.1 ?_)
            clear hE a; intro Anear7 cnear8 w9 O_near' hk hat a hE
            have Nb_near_gX' := grow_n Nb_near_gX (blk_lt B_gX) hat
            have Nb_near_gY' := grow_n Nb_near_gY (blk_lt B_gY) hat
            have Nb_near_gd' := grow_n Nb_near_gd (blk_lt B_gd) hat
            have Nb_near_g4' := grow_n Nb_near_g4 (blk_lt B_g4) hat
            have Z_0_near' := grow_z Z_0_near K_0.kept.1 hat
            replace B_gX := kp_blk B_gX hk Nb_near_gX
            replace B_gY := kp_blk B_gY hk Nb_near_gY
            replace B_gd := kp_blk B_gd hk Nb_near_gd
            replace B_g4 := kp_blk B_g4 hk Nb_near_g4
            replace K_0 := K_0.then_ hk Z_0_near
            replace Nb_near_gX := Nb_near_gX'
            replace Nb_near_gY := Nb_near_gY'
            replace Nb_near_gd := Nb_near_gd'
            replace Nb_near_g4 := Nb_near_g4'
            replace Z_0_near := Z_0_near'
            replace O_near : w9.ownsRow _ 3 1 (.slice Anear7 (n_near + 1) cnear8) (n_near + 1) (encs (Value.int .i64) ((nD D9 p q) ++ [(q : Int)])) := O_near'
            clear O_near' hk hat
            refine q0 p9_27_4 hE (st_assign rfl) ?_
            clear hE a; intro a hE
            refine p_nil ?_
            refine x_norm ?_
            refine c_reg R9_28_l ?_
            refine q0 p9_28_0 hE (st_move rfl) ?_
            clear hE a; intro a hE
            refine q0 p9_28_1 hE (st_move rfl) ?_
            clear hE a; intro a hE
            refine q0 p9_28_2 hE (st_move rfl) ?_
            clear hE a; intro a hE
            refine q0 p9_28_3 hE (st_nil rfl) ?_
            clear hE a; intro a hE
            refine q0 p9_28_4 hE (st_fieldAddr Try.underlying71 rfl tS69 rfl rfl) ?_
            clear hE a; intro a hE
            refine q0 p9_28_5 hE (st_indexAddrA (l := 64) (i := p) (o' := 1 + p * 64) Try.underlying69 tS68 rfl rfl (by omega) rfl) ?_
            clear hE a; intro a hE
            refine q0 p9_28_6 hE (st_indexAddrA (l := 64) (i := q) (o' := (1 + p * 64) + q) Try.underlying68 tS3 rfl rfl (by omega) (by omega)) ?_
            clear hE a; intro a hE
            refine q0 p9_28_7 hE (st_load1 tA3 rfl ((blk_cell B_gd _).trans (Lm.cD (by omega) (by omega) rfl))) ?_
            clear hE a; intro a hE
            refine q0 p9_28_8 hE (st_gtr (b := true) rfl rfl (decide_eq_true hPO)) ?_
            clear hE a; intro a hE
            refine q0 p9_28_9 hE (st_move rfl) ?_
            clear hE a; intro a hE
            refine p_cons (s_still p9_28_10 hE (wn_some g9_28_9 rfl rfl) rfl (st_move rfl) ?_)
            clear hE a; intro a hE
            refine p_cons (s_still p9_28_11 hE (wn_some g9_28_9 rfl rfl) rfl (st_neq (b := false) rfl rfl (by decide)) ?_)
            clear hE a; intro a hE
            refine p_cons (s_still p9_28_12 hE (wn_some g9_28_9 rfl rfl) rfl (st_move rfl) ?_)
            clear hE a; intro a hE
            refine p_cons (s_still p9_28_13 hE (wn_some g9_28_12 rfl rfl) rfl (st_move rfl) ?_)
            clear hE a; intro a hE
            refine p_cons (s_still p9_28_14 hE (wn_some g9_28_12 rfl rfl) rfl (st_move rfl) ?_)
            clear hE a; intro a hE
            refine p_cons (s_still p9_28_15 hE (wn_some g9_28_12 rfl rfl) rfl (st_move rfl) ?_)
            clear hE a; intro a hE
            refine p_cons (s_still p9_28_16 hE (wn_some g9_28_12 rfl rfl) rfl (st_move rfl) ?_)
            clear hE a; intro a hE
            refine p_cons (s_still p9_28_17 hE (wn_some g9_28_12 rfl rfl) rfl (st_nil rfl) ?_)
            clear hE a; intro a hE
            refine p_cons (s_still p9_28_18 hE (wn_some g9_28_12 rfl rfl) rfl (st_fieldAddr Try.underlying71 rfl tS69 rfl rfl) ?_)
            clear hE a; intro a hE
            refine p_cons (s_still p9_28_19 hE (wn_some g9_28_12 rfl rfl) rfl (st_indexAddrA (l := 64) (i := p) (o' := 1 + p * 64) Try.underlying69 tS68 rfl rfl (by omega) rfl) ?_)
            clear hE a; intro a hE
            refine p_cons (s_still p9_28_20 hE (wn_some g9_28_12 rfl rfl) rfl (st_indexAddrA (l := 64) (i := q) (o' := (1 + p * 64) + q) Try.underlying68 tS3 rfl rfl (by omega) (by omega)) ?_)
            clear hE a; intro a hE
            refine p_cons (s_still p9_28_21 hE (wn_some g9_28_12 rfl rfl) rfl (st_load1 tA3 rfl ((blk_cell B_gd _).trans (Lm.cD (by omega) (by omega) rfl))) ?_)
            clear hE a; intro a hE
            refine p_cons (s_still p9_28_22 hE (wn_some g9_28_12 rfl rfl) rfl (st_neq (b := false) rfl rfl (by simp)) ?_)
            clear hE a; intro a hE
            refine p_cons (s_still p9_28_23 hE (wn_some g9_28_9 rfl rfl) rfl (st_pick rfl rfl) ?_)
            clear hE a; intro a hE
            refine q0 p9_28_24 hE (st_pick rfl rfl) ?_
            clear hE a; intro a hE
            refine q0 p9_28_25 hE (st_move rfl) ?_
            clear hE a; intro a hE
            refine p_cons (s_still p9_28_26 hE (wn_some g9_28_25 rfl rfl) rfl (st_move rfl) ?_)
            clear hE a; intro a hE
            refine p_cons (s_still p9_28_27 hE (wn_some g9_28_25 rfl rfl) rfl (st_move rfl) ?_)
            clear hE a; intro a hE
            refine p_cons (s_still p9_28_28 hE (wn_some g9_28_25 rfl rfl) rfl (st_move rfl) ?_)
            clear hE a; intro a hE
            refine p_cons (s_still p9_28_29 hE (wn_some g9_28_25 rfl rfl) rfl (st_nil rfl) ?_)
            clear hE a; intro a hE
            refine p_cons (s_still p9_28_30 hE (wn_some g9_28_25 rfl rfl) rfl (st_fieldAddr Try.underlying71 rfl tS69 rfl rfl) ?_)
            clear hE a; intro a hE
            refine p_cons (s_still p9_28_31 hE (wn_some g9_28_25 rfl rfl) rfl (st_indexAddrA (l := 64) (i := p) (o' := 1 + p * 64) Try.underlying69 tS68 rfl rfl (by omega) rfl) ?_)
            clear hE a; intro a hE
            refine p_cons (s_still p9_28_32 hE (wn_some g9_28_25 rfl rfl) rfl (st_indexAddrA (l := 64) (i := q) (o' := (1 + p * 64) + q) Try.underlying68 tS3 rfl rfl (by omega) (by omega)) ?_)
            clear hE a; intro a hE
            refine p_cons (s_still p9_28_33 hE (wn_some g9_28_25 rfl rfl) rfl (st_load1 tA3 rfl ((blk_cell B_gd _).trans (Lm.cD (by omega) (by omega) rfl))) ?_)
            clear hE a; intro a hE
            refine p_cons (s_still p9_28_34 hE (wn_some g9_28_25 rfl rfl) rfl (st_eql (b := false) rfl rfl (decide_eq_false (by omega))) ?_)
            clear hE a; intro a hE
            refine p_cons (s_still p9_28_35 hE (wn_some g9_28_25 rfl rfl) rfl (st_move rfl) ?_)
            clear hE a; intro a hE
            refine p_cons (s_skip p9_28_36 hE (wn_some g9_28_35 rfl rfl) rfl ?_)
            clear hE a; intro a hE
            refine p_cons (s_skip p9_28_37 hE (wn_some g9_28_35 rfl rfl) rfl ?_)
            clear hE a; intro a hE
            refine p_cons (s_still p9_28_38 hE (wn_some g9_28_25 rfl rfl) rfl (st_pick rfl rfl) ?_)
            clear hE a; intro a hE
            refine q0 p9_28_39 hE (st_pick rfl rfl) ?_
            clear hE a; intro a hE
            refine p_nil ?_
            refine x_norm ?_
            refine c_cond (t := false) hE rfl ?_
            refine wp_skip ?_
            refine x_normB ?_
            refine x_norm ?_
            refine c_regL R9_24_l ?_
            refine q0 p9_24_0 hE (st_move rfl) ?_
            clear hE a; intro a hE
            refine q0 p9_24_1 hE (st_add (z := (q : Int) + 1) rfl rfl (wr_i64 _ (by omega) (by omega))) ?_
            clear hE a; intro a hE
            refine q0 p9_24_2 hE (st_assign rfl) ?_
            clear hE a; intro a hE
            refine p_nil ?_
            refine x_norm ?_
            have e9 : ((nD D9 p q) ++ [(q : Int)]) = (nD D9 p (q + 1)) := by rw [nD_next, if_pos hPO]
            rw [e9] at O_near
            have hln9 : (n_near + 1) = (nD D9 p (q + 1)).length := by rw [← e9]; simp; omega
            exact ⟨q + 1, by omega, Anear7, cnear8, (n_near + 1), En.sub hE ⟨rfl, rfl, rfl, rfl, rfl, rfl, rfl, rfl, trivial⟩, by omega, B_gX, B_gY, B_gd, hln9, O_near, Nb_near_gX, Nb_near_gY, Nb_near_gd, Z_0_near, K_0⟩
          ·
            refine c_reg R9_25_l ?_
            refine q0 p9_25_0 hE (st_move rfl) ?_
            clear hE a; intro a hE
            refine q0 p9_25_1 hE (st_move rfl) ?_
            clear hE a; intro a hE
            refine q0 p9_25_2 hE (st_move rfl) ?_
            clear hE a; intro a hE
            have hct := cost_any gX gY _ _ f9 (nn : Int) (p : Int) (q : Int) w2 B_gX B_gY MF9 n_gX_gY
            rw [hrel.cost (by omega) (by omega), if_neg hPO] at hct
            dsimp only at hct
            refine p_cons (s_call (xs := [Operand.tmp 95, Operand.tmp 96, Operand.tmp 97]) (args := [Value.pointer (some ⟨gX, 0, none⟩), Value.int .i64 (p : Int), Value.int .i64 (q : Int)]) p9_25_3 hE wn_none rfl rfl Try.func32 cl32 (hct) ?_)
            rintro e w10 ⟨rfl, hk⟩
            replace B_gX := kp_blk B_gX hk (fun h => h)
            replace B_gY := kp_blk B_gY hk (fun h => h)
            replace B_gd := kp_blk B_gd hk (fun h => h)
            replace O_near := own_keep O_near hk (fun _ _ h => h)
            replace K_0 := K_0.then_ hk (fun _ h => h.elim)
            refine ⟨_, rfl, ?_⟩
            clear hE a; intro a hE
            refine q0 p9_25_4 hE (st_move rfl) ?_
            clear hE a; intro a hE
            refine q0 p9_25_5 hE (st_extract rfl rfl) ?_
            clear hE a; intro a hE
            refine q0 p9_25_6 hE (st_extract rfl rfl) ?_
            clear hE a; intro a hE
            refine q0 p9_25_7 hE (st_assign rfl) ?_
            clear hE a; intro a hE
            refine q0 p9_25_8 hE (st_assign rfl) ?_
            clear hE a; intro a hE
            refine p_nil ?_
            refine x_norm ?_
            refine wp_seq ?_
            refine c_reg R9_26_l ?_
            refine q0 p9_26_0 hE (st_move rfl) ?_
            clear hE a; intro a hE
            refine q0 p9_26_1 hE (st_move rfl) ?_
            clear hE a; intro a hE
            refine q0 p9_26_2 hE (st_move rfl) ?_
            clear hE a; intro a hE
            refine q0 p9_26_3 hE (st_nil rfl) ?_
            clear hE a; intro a hE
            refine q0 p9_26_4 hE (st_fieldAddr Try.underlying71 rfl tS69 rfl rfl) ?_
            clear hE a; intro a hE
            refine q0 p9_26_5 hE (st_indexAddrA (l := 64) (i := p) (o' := 1 + p * 64) Try.underlying69 tS68 rfl rfl (by omega) rfl) ?_
            clear hE a; intro a hE
            refine q0 p9_26_6 hE (st_indexAddrA (l := 64) (i := q) (o' := (1 + p * 64) + q) Try.underlying68 tS3 rfl rfl (by omega) (by omega)) ?_
            clear hE a; intro a hE
            refine q0 p9_26_7 hE (st_load1 tA3 rfl ((blk_cell B_gd _).trans (Lm.cD (by omega) (by omega) rfl))) ?_
            clear hE a; intro a hE
            refine q0 p9_26_8 hE (st_gtr (b := false) rfl rfl (decide_eq_false hPO)) ?_
            clear hE a; intro a hE
            refine p_nil ?_
            refine x_norm ?_
            refine c_cond (t := false) hE rfl ?_
            refine wp_skip ?_
            refine x_norm ?_
            refine c_reg R9_28_l ?_
            refine q0 p9_28_0 hE (st_move rfl) ?_
            clear hE a; intro a hE
            refine q0 p9_28_1 hE (st_move rfl) ?_
            clear hE a; intro a hE
            refine q0 p9_28_2 hE (st_move rfl) ?_
            clear hE a; intro a hE
            refine q0 p9_28_3 hE (st_nil rfl) ?_
            clear hE a; intro a hE
            refine q0 p9_28_4 hE (st_fieldAddr Try.underlying71 rfl tS69 rfl rfl) ?_
            clear hE a; intro a hE
            refine q0 p9_28_5 hE (st_indexAddrA (l := 64) (i := p) (o' := 1 + p * 64) Try.underlying69 tS68 rfl rfl (by omega) rfl) ?_
            clear hE a; intro a hE
            refine q0 p9_28_6 hE (st_indexAddrA (l := 64) (i := q) (o' := (1 + p * 64) + q) Try.underlying68 tS3 rfl rfl (by omega) (by omega)) ?_
            clear hE a; intro a hE
            refine q0 p9_28_7 hE (st_load1 tA3 rfl ((blk_cell B_gd _).trans (Lm.cD (by omega) (by omega) rfl))) ?_
            clear hE a; intro a hE
            refine q0 p9_28_8 hE (st_gtr (b := false) rfl rfl (decide_eq_false hPO)) ?_
            clear hE a; intro a hE
            refine q0 p9_28_9 hE (st_move rfl) ?_
            clear hE a; intro a hE
            refine p_cons (s_skip p9_28_10 hE (wn_some g9_28_9 rfl rfl) rfl ?_)
            clear hE a; intro a hE
            refine p_cons (s_skip p9_28_11 hE (wn_some g9_28_9 rfl rfl) rfl ?_)
            clear hE a; intro a hE
            refine p_cons (s_skip p9_28_12 hE (wn_some g9_28_9 rfl rfl) rfl ?_)
            clear hE a; intro a hE
            refine p_cons (s_skip p9_28_13 hE (wn_undef g9_28_12 rfl) rfl ?_)
            clear hE a; intro a hE
            refine p_cons (s_skip p9_28_14 hE (wn_undef g9_28_12 rfl) rfl ?_)
            clear hE a; intro a hE
            refine p_cons (s_skip p9_28_15 hE (wn_undef g9_28_12 rfl) rfl ?_)
            clear hE a; intro a hE
            refine p_cons (s_skip p9_28_16 hE (wn_undef g9_28_12 rfl) rfl ?_)
            clear hE a; intro a hE
            refine p_cons (s_skip p9_28_17 hE (wn_undef g9_28_12 rfl) rfl ?_)
            clear hE a; intro a hE
            refine p_cons (s_skip p9_28_18 hE (wn_undef g9_28_12 rfl) rfl ?_)
            clear hE a; intro a hE
            refine p_cons (s_skip p9_28_19 hE (wn_undef g9_28_12 rfl) rfl ?_)
            clear hE a; intro a hE
            refine p_cons (s_skip p9_28_20 hE (wn_undef g9_28_12 rfl) rfl ?_)
            clear hE a; intro a hE
            refine p_cons (s_skip p9_28_21 hE (wn_undef g9_28_12 rfl) rfl ?_)
            clear hE a; intro a hE
            refine p_cons (s_skip p9_28_22 hE (wn_undef g9_28_12 rfl) rfl ?_)
            clear hE a; intro a hE
            refine p_cons (s_skip p9_28_23 hE (wn_some g9_28_9 rfl rfl) rfl ?_)
            clear hE a; intro a hE
            refine q0 p9_28_24 hE (st_pick rfl rfl) ?_
            clear hE a; intro a hE
            refine q0 p9_28_25 hE (st_move rfl) ?_
            clear hE a; intro a hE
            refine p_cons (s_still p9_28_26 hE (wn_some g9_28_25 rfl rfl) rfl (st_move rfl) ?_)
            clear hE a; intro a hE
            refine p_cons (s_still p9_28_27 hE (wn_some g9_28_25 rfl rfl) rfl (st_move rfl) ?_)
            clear hE a; intro a hE
            refine p_cons (s_still p9_28_28 hE (wn_some g9_28_25 rfl rfl) rfl (st_move rfl) ?_)
            clear hE a; intro a hE
            refine p_cons (s_still p9_28_29 hE (wn_some g9_28_25 rfl rfl) rfl (st_nil rfl) ?_)
            clear hE a; intro a hE
            refine p_cons (s_still p9_28_30 hE (wn_some g9_28_25 rfl rfl) rfl (st_fieldAddr Try.underlying71 rfl tS69 rfl rfl) ?_)
            clear hE a; intro a hE
            refine p_cons (s_still p9_28_31 hE (wn_some g9_28_25 rfl rfl) rfl (st_indexAddrA (l := 64) (i := p) (o' := 1 + p * 64) Try.underlying69 tS68 rfl rfl (by omega) rfl) ?_)
            clear hE a; intro a hE
            refine p_cons (s_still p9_28_32 hE (wn_some g9_28_25 rfl rfl) rfl (st_indexAddrA (l := 64) (i := q) (o' := (1 + p * 64) + q) Try.underlying68 tS3 rfl rfl (by omega) (by omega)) ?_)
            clear hE a; intro a hE
            refine p_cons (s_still p9_28_33 hE (wn_some g9_28_25 rfl rfl) rfl (st_load1 tA3 rfl ((blk_cell B_gd _).trans (Lm.cD (by omega) (by omega) rfl))) ?_)
            clear hE a; intro a hE
            refine p_cons (s_still p9_28_34 hE (wn_some g9_28_25 rfl rfl) rfl (st_eql (b := true) rfl rfl (decide_eq_true (by omega))) ?_)
            clear hE a; intro a hE
            refine p_cons (s_still p9_28_35 hE (wn_some g9_28_25 rfl rfl) rfl (st_move rfl) ?_)
            clear hE a; intro a hE
            refine p_cons (s_still p9_28_36 hE (wn_some g9_28_35 rfl rfl) rfl (st_move rfl) ?_)
            clear hE a; intro a hE
            refine p_cons (s_still p9_28_37 hE (wn_some g9_28_35 rfl rfl) rfl (st_neq (b := false) rfl rfl (by decide)) ?_)
            clear hE a; intro a hE
            refine p_cons (s_still p9_28_38 hE (wn_some g9_28_25 rfl rfl) rfl (st_pick rfl rfl) ?_)
            clear hE a; intro a hE
            refine q0 p9_28_39 hE (st_pick rfl rfl) ?_
            clear hE a; intro a hE
            refine p_nil ?_
            refine x_norm ?_
            refine c_cond (t := false) hE rfl ?_
            refine wp_skip ?_
            refine x_normB ?_
            refine x_norm ?_
            refine c_regL R9_24_l ?_
            refine q0 p9_24_0 hE (st_move rfl) ?_
            clear hE a; intro a hE
            refine q0 p9_24_1 hE (st_add (z := (q : Int) + 1) rfl rfl (wr_i64 _ (by omega) (by omega))) ?_
            clear hE a; intro a hE
            refine q0 p9_24_2 hE (st_assign rfl) ?_
            clear hE a; intro a hE
            refine p_nil ?_
            refine x_norm ?_
            have e9 : nD D9 p q = (nD D9 p (q + 1)) := by rw [nD_next, if_neg hPO, List.append_nil]
            rw [e9] at O_near
            have hln9 : n_near = (nD D9 p (q + 1)).length := by rw [← e9]; exact hn_near
            exact ⟨q + 1, by omega, A_near, c_near, n_near, En.sub hE ⟨rfl, rfl, rfl, rfl, rfl, rfl, rfl, rfl, trivial⟩, by omega, B_gX, B_gY, B_gd, hln9, O_near, Nb_near_gX, Nb_near_gY, Nb_near_gd, Z_0_near, K_0⟩
        ·
          refine c_reg R9_23_l ?_
          refine q0 p9_23_0 hE (st_move rfl) ?_
          clear hE a; intro a hE
          refine q0 p9_23_1 hE (st_move rfl) ?_
          clear hE a; intro a hE
          refine q0 p9_23_2 hE (st_lss (b := false) rfl rfl (decide_eq_false hQ1)) ?_
          clear hE a; intro a hE
          refine p_nil ?_
          refine x_norm ?_
          refine c_cond (t := false) hE rfl ?_
          refine wp_exit ?_
          refine x_exit ?_
          refine x_exit ?_
          obtain rfl : nn = q := by omega
          refine x_in ?_
          refine x_norm ?_
          refine c_reg R9_30_l ?_
          refine q0 p9_30_0 hE (st_move rfl) ?_
          clear hE a; intro a hE
          refine q0 p9_30_1 hE (st_move rfl) ?_
          clear hE a; intro a hE
          have hct := nbs_any gX gY _ nn _ f9 (p : Int) hnn w2 B_gX B_gY MF9 n_gX_gY
          rw [hrel.nbs (by omega)] at hct
          refine p_cons (s_call (xs := [Operand.tmp 154, Operand.tmp 155]) (args := [Value.pointer (some ⟨gX, 0, none⟩), Value.int .i64 (p : Int)]) p9_30_2 hE wn_none rfl rfl Try.func31 cl31 (hct) ?_)
          rintro e w11 ⟨An, cn, rfl, hcn, hFn, hgn, hk⟩
          replace B_gX := kp_blk B_gX hk (fun h => h)
          replace B_gY := kp_blk B_gY hk (fun h => h)
          replace B_gd := kp_blk B_gd hk (fun h => h)
          replace O_near := own_keep O_near hk (fun _ _ h => h)
          replace K_0 := K_0.then_ hk (fun _ h => h.elim)
          refine ⟨_, rfl, ?_⟩
          clear hE a; intro a hE
          refine q0 p9_30_3 hE (st_move rfl) ?_
          clear hE a; intro a hE
          have hct : Calls Try.prog 37 #[Value.slice An ((nD D9 p nn).length) cn, Value.slice A_near n_near c_near] w11 fun e w' => e = .returned (.bool true) ∧ Kp w11 w' (fun _ => False) := by
            rw [hn_near]
            exact Lq.same_i An A_near cn c_near (nD D9 p nn) w11 (by have := nD_len D9 p nn; omega) (fun W' hk => hFn W' (hk.mono (fun _ h => h.elim))) (fun W' hk => by have h := own_told (own_keep O_near hk (fun _ _ h => h)); rw [hn_near] at h; exact h)
          refine p_cons (s_call (xs := [Operand.tmp 156, Operand.tmp 157]) (args := [Value.slice An ((nD D9 p nn).length) cn, Value.slice A_near n_near c_near]) p9_30_4 hE wn_none rfl rfl Try.func37 cl37 (hct) ?_)
          rintro e w12 ⟨rfl, hk⟩
          replace B_gX := kp_blk B_gX hk (fun h => h)
          replace B_gY := kp_blk B_gY hk (fun h => h)
          replace B_gd := kp_blk B_gd hk (fun h => h)
          replace O_near := own_keep O_near hk (fun _ _ h => h)
          replace K_0 := K_0.then_ hk (fun _ h => h.elim)
          refine ⟨_, rfl, ?_⟩
          clear hE a; intro a hE
          refine q0 p9_30_5 hE (st_not rfl rfl) ?_
          clear hE a; intro a hE
          refine p_nil ?_
          refine x_norm ?_
          refine c_cond (t := false) hE rfl ?_
          refine wp_skip ?_
          refine x_normB ?_
          refine x_norm ?_
          refine c_regL R9_20_l ?_
          refine q0 p9_20_0 hE (st_move rfl) ?_
          clear hE a; intro a hE
          refine q0 p9_20_1 hE (st_add (z := (p : Int) + 1) rfl rfl (wr_i64 _ (by omega) (by omega))) ?_
          clear hE a; intro a hE
          refine q0 p9_20_2 hE (st_assign rfl) ?_
          clear hE a; intro a hE
          refine p_nil ?_
          refine x_norm ?_
          exact ⟨p + 1, by omega, En.sub hE ⟨rfl, rfl, rfl, rfl, rfl, trivial⟩, by omega, B_gX, B_gY, B_gd, K_0⟩
    ·
      refine c_reg R9_19_l ?_
      refine q0 p9_19_0 hE (st_move rfl) ?_
      clear hE a; intro a hE
      refine q0 p9_19_1 hE (st_move rfl) ?_
      clear hE a; intro a hE
      refine q0 p9_19_2 hE (st_lss (b := false) rfl rfl (decide_eq_false hP1)) ?_
      clear hE a; intro a hE
      refine p_nil ?_
      refine x_norm ?_
      refine c_cond (t := false) hE rfl ?_
      refine wp_exit ?_
      refine x_exit ?_
      refine x_exit ?_
      refine x_in ?_
      refine x_norm ?_
      refine wp_seq ?_
      rcases Decidable.em (nodeB (nn : Int) a2 = true) with hNS | hNS
      ·
        refine c_reg R9_32_l ?_
        refine q0 p9_32_0 hE (st_move rfl) ?_
        clear hE a; intro a hE
        refine q0 p9_32_1 hE (st_move rfl) ?_
        clear hE a; intro a hE
        refine p_cons (s_call (xs := [Operand.tmp 160, Operand.tmp 161]) (args := [Value.pointer (some ⟨gd, 0, none⟩), Value.int .i64 a2]) p9_32_2 hE wn_none rfl rfl Try.func38 cl38 (rnode_any gd (nn : Int) D9 a2 true hNS _ B_gd) ?_)
        rintro e w13 ⟨rfl, hk⟩
        replace B_gX := kp_blk B_gX hk (fun h => h)
        replace B_gY := kp_blk B_gY hk (fun h => h)
        replace B_gd := kp_blk B_gd hk (fun h => h)
        replace K_0 := K_0.then_ hk (fun _ h => h.elim)
        refine ⟨_, rfl, ?_⟩
        clear hE a; intro a hE
        refine q0 p9_32_3 hE (st_not rfl rfl) ?_
        clear hE a; intro a hE
        refine p_nil ?_
        refine x_norm ?_
        refine c_cond (t := false) hE rfl ?_
        refine wp_skip ?_
        refine x_norm ?_
        refine c_reg R9_35_l ?_
        obtain ⟨x, rfl, hx⟩ := node_open hNS
        refine q0 p9_35_0 hE (st_move rfl) ?_
        clear hE a; intro a hE
        refine q0 p9_35_1 hE (st_move rfl) ?_
        clear hE a; intro a hE
        have hnb_gX := blk_lt B_gX
        have hnb_gY := blk_lt B_gY
        have hnb_gd := blk_lt B_gd
        have hnz_0 := K_0.kept.1
        refine p_cons (s_call (xs := [Operand.tmp 189, Operand.tmp 190]) (args := [Value.pointer (some ⟨gd, 0, none⟩), Value.int .i64 (x : Int)]) p9_35_2 hE wn_none rfl rfl Try.func39 cl39 (rhops_any gd nn x D9 hx hnn _ B_gd) ?_)
        rintro e w14 ⟨Ad, cd, hd, rfl, hld, hun, hgd, O_hd, hk⟩
        replace B_gX := kp_blk B_gX hk (fun h => h)
        replace B_gY := kp_blk B_gY hk (fun h => h)
        replace B_gd := kp_blk B_gd hk (fun h => h)
        replace K_0 := K_0.then_ hk (fun _ h => h.elim)
        have Nb_hd_gX : ¬ OB Ad gX := fun h => by have := (own_ob O_hd h).1; have := hnb_gX; omega
        have Nb_hd_gY : ¬ OB Ad gY := fun h => by have := (own_ob O_hd h).1; have := hnb_gY; omega
        have Nb_hd_gd : ¬ OB Ad gd := fun h => by have := (own_ob O_hd h).1; have := hnb_gd; omega
        have Z_0_hd : ∀ k, OB Ad k → (fun _ => False) k ∨ w.heap.size ≤ k := fun k h => .inr (by have := (own_ob O_hd h).1; have := hnz_0; omega)
        replace O_hd := own_lower O_hd hnz_0
        refine ⟨_, rfl, ?_⟩
        clear hE a; intro a hE
        refine q0 p9_35_3 hE (st_assign rfl) ?_
        clear hE a; intro a hE
        refine p_nil ?_
        refine x_norm ?_
        refine c_reg R9_36_l ?_
        refine q0 p9_36_0 hE (st_assign rfl) ?_
        clear hE a; intro a hE
        refine p_nil ?_
        refine x_norm ?_
        refine wp_seq ?_
        refine c_reg R9_37_l ?_
        refine q0 p9_37_0 hE (st_assign rfl) ?_
        clear hE a; intro a hE
        refine p_nil ?_
        refine x_norm ?_
        refine wp_block ?_
        refine c_loop (α := Nat) (fun k a W => ∃ (bb : Bool), En 226 a [(0, Value.int .i64 (nn : Int)), (2, Value.int .i64 (x : Int)), (7, Value.pointer (some ⟨gX, 0, none⟩)), (9, Value.pointer (some ⟨gd, 0, none⟩)), (12, Value.int .i64 (p : Int)), (86, Value.bool false), (163, Value.bool false), (19, Value.slice Ad nn cd), (21, Value.int .i64 (k : Int)), (20, Value.bool bb)] ∧ k ≤ nn ∧ (bb = true ↔ ∀ c, c < k → 0 ≤ Bf.at_ hd c) ∧ W.heap[gX]? = some (.cells #[Value.int .i64 (nn : Int), Value.map (some gY)] 83 (0, 0)) ∧ W.heap[gY]? = some (.map es9 ck9) ∧ W.heap[gd]? = some (.cells (Lm.cellsD (nn : Int) D9) 71 (0, 0)) ∧ W.ownsRow w.heap.size 3 1 (.slice Ad nn cd) nn (encs (Value.int .i64) hd) ∧ ¬ OB Ad gX ∧ ¬ OB Ad gY ∧ ¬ OB Ad gd ∧ (∀ k, OB Ad k → (fun _ => False) k ∨ w.heap.size ≤ k) ∧ Kp w W (fun _ => False)) (fun k => nn - k) (0) ?_ ?_
        ·
          exact ⟨true, En.sub hE ⟨rfl, rfl, rfl, rfl, rfl, rfl, rfl, rfl, rfl, rfl, trivial⟩, Nat.zero_le _, ⟨fun _ c hc => absurd hc (Nat.not_lt_zero _), fun _ => rfl⟩, B_gX, B_gY, B_gd, O_hd, Nb_hd_gX, Nb_hd_gY, Nb_hd_gd, Z_0_hd, K_0⟩
        ·
          clear hE a
          rintro k a w15 ⟨bb, hE, hk9, hbb, B_gX, B_gY, B_gd, O_hd, Nb_hd_gX, Nb_hd_gY, Nb_hd_gd, Z_0_hd, K_0⟩
          refine wp_seq ?_
          rcases Decidable.em ((k : Int) < (nn : Int)) with hL1 | hL1
          ·
            refine c_reg R9_38_l ?_
            refine q0 p9_38_0 hE (st_move rfl) ?_
            clear hE a; intro a hE
            refine q0 p9_38_1 hE (st_move rfl) ?_
            clear hE a; intro a hE
            refine q0 p9_38_2 hE (st_len Try.underlying52 rfl) ?_
            clear hE a; intro a hE
            refine q0 p9_38_3 hE (st_lss (b := true) rfl rfl (decide_eq_true hL1)) ?_
            clear hE a; intro a hE
            refine p_nil ?_
            refine x_norm ?_
            refine c_cond (t := true) hE rfl ?_
            refine wp_skip ?_
            refine x_norm ?_
            refine wp_seq ?_
            refine wp_block ?_
            rcases Decidable.em (bb = true) with hBB | hBB
            ·
              subst hBB
              rcases Decidable.em (0 ≤ rd hd (k : Int)) with hGE | hGE
              ·
                refine c_regL R9_40_l ?_
                refine q0 p9_40_0 hE (st_move rfl) ?_
                clear hE a; intro a hE
                refine q0 p9_40_1 hE (st_move rfl) ?_
                clear hE a; intro a hE
                refine p_cons (s_still p9_40_2 hE (wn_some g9_40_1 rfl rfl) rfl (st_move rfl) ?_)
                clear hE a; intro a hE
                refine p_cons (s_still p9_40_3 hE (wn_some g9_40_1 rfl rfl) rfl (st_move rfl) ?_)
                clear hE a; intro a hE
                refine p_cons (s_still p9_40_4 hE (wn_some g9_40_1 rfl rfl) rfl (st_indexAddrC (i := k) Try.underlying52 tS3 (own_told O_hd) rfl rfl (by omega)) ?_)
                clear hE a; intro a hE
                refine p_cons (s_still (v := Value.int .i64 (rd hd (k : Int))) p9_40_5 hE (wn_some g9_40_1 rfl rfl) rfl (st_loadC (i := k) tA3 (own_told O_hd) (by omega) rfl) ?_)
                clear hE a; intro a hE
                refine p_cons (s_still p9_40_6 hE (wn_some g9_40_1 rfl rfl) rfl (st_geq (b := true) rfl rfl (decide_eq_true hGE)) ?_)
                clear hE a; intro a hE
                refine q0 p9_40_7 hE (st_pick rfl rfl) ?_
                clear hE a; intro a hE
                refine q0 p9_40_8 hE (st_assign rfl) ?_
                clear hE a; intro a hE
                refine p_nil ?_
                refine x_normB ?_
                refine x_norm ?_
                refine c_regL R9_39_l ?_
                refine q0 p9_39_0 hE (st_move rfl) ?_
                clear hE a; intro a hE
                refine q0 p9_39_1 hE (st_add (z := (k : Int) + 1) rfl rfl (wr_i64 _ (by omega) (by omega))) ?_
                clear hE a; intro a hE
                refine q0 p9_39_2 hE (st_assign rfl) ?_
                clear hE a; intro a hE
                refine p_nil ?_
                refine x_norm ?_
                have hbb9 : (true = true ↔ ∀ c, c < k + 1 → 0 ≤ Bf.at_ hd c) := ⟨fun _ => al_next (hbb.1 rfl) (by omega), fun _ => rfl⟩
                exact ⟨k + 1, by omega, true, En.sub hE ⟨rfl, rfl, rfl, rfl, rfl, rfl, rfl, rfl, rfl, rfl, trivial⟩, by omega, hbb9, B_gX, B_gY, B_gd, O_hd, Nb_hd_gX, Nb_hd_gY, Nb_hd_gd, Z_0_hd, K_0⟩
              ·
                refine c_regL R9_40_l ?_
                refine q0 p9_40_0 hE (st_move rfl) ?_
                clear hE a; intro a hE
                refine q0 p9_40_1 hE (st_move rfl) ?_
                clear hE a; intro a hE
                refine p_cons (s_still p9_40_2 hE (wn_some g9_40_1 rfl rfl) rfl (st_move rfl) ?_)
                clear hE a; intro a hE
                refine p_cons (s_still p9_40_3 hE (wn_some g9_40_1 rfl rfl) rfl (st_move rfl) ?_)
                clear hE a; intro a hE
                refine p_cons (s_still p9_40_4 hE (wn_some g9_40_1 rfl rfl) rfl (st_indexAddrC (i := k) Try.underlying52 tS3 (own_told O_hd) rfl rfl (by omega)) ?_)
                clear hE a; intro a hE
                refine p_cons (s_still (v := Value.int .i64 (rd hd (k : Int))) p9_40_5 hE (wn_some g9_40_1 rfl rfl) rfl (st_loadC (i := k) tA3 (own_told O_hd) (by omega) rfl) ?_)
                clear hE a; intro a hE
                refine p_cons (s_still p9_40_6 hE (wn_some g9_40_1 rfl rfl) rfl (st_geq (b := false) rfl rfl (decide_eq_false hGE)) ?_)
                clear hE a; intro a hE
                refine q0 p9_40_7 hE (st_pick rfl rfl) ?_
                clear hE a; intro a hE
                refine q0 p9_40_8 hE (st_assign rfl) ?_
                clear hE a; intro a hE
                refine p_nil ?_
                refine x_normB ?_
                refine x_norm ?_
                refine c_regL R9_39_l ?_
                refine q0 p9_39_0 hE (st_move rfl) ?_
                clear hE a; intro a hE
                refine q0 p9_39_1 hE (st_add (z := (k : Int) + 1) rfl rfl (wr_i64 _ (by omega) (by omega))) ?_
                clear hE a; intro a hE
                refine q0 p9_39_2 hE (st_assign rfl) ?_
                clear hE a; intro a hE
                refine p_nil ?_
                refine x_norm ?_
                have hbb9 : (false = true ↔ ∀ c, c < k + 1 → 0 ≤ Bf.at_ hd c) := ⟨fun h => (by cases h), fun h => (by have := h k (by omega); rw [← Lh.rd_at] at this; omega)⟩
                exact ⟨k + 1, by omega, false, En.sub hE ⟨rfl, rfl, rfl, rfl, rfl, rfl, rfl, rfl, rfl, rfl, trivial⟩, by omega, hbb9, B_gX, B_gY, B_gd, O_hd, Nb_hd_gX, Nb_hd_gY, Nb_hd_gd, Z_0_hd, K_0⟩
            ·
              have hBBf : bb = false := by simpa using hBB
              subst hBBf
              refine c_regL R9_40_l ?_
              refine q0 p9_40_0 hE (st_move rfl) ?_
              clear hE a; intro a hE
              refine q0 p9_40_1 hE (st_move rfl) ?_
              clear hE a; intro a hE
              refine p_cons (s_skip p9_40_2 hE (wn_some g9_40_1 rfl rfl) rfl ?_)
              clear hE a; intro a hE
              refine p_cons (s_skip p9_40_3 hE (wn_some g9_40_1 rfl rfl) rfl ?_)
              clear hE a; intro a hE
              refine p_cons (s_skip p9_40_4 hE (wn_some g9_40_1 rfl rfl) rfl ?_)
              clear hE a; intro a hE
              refine p_cons (s_skip p9_40_5 hE (wn_some g9_40_1 rfl rfl) rfl ?_)
              clear hE a; intro a hE
              refine p_cons (s_skip p9_40_6 hE (wn_some g9_40_1 rfl rfl) rfl ?_)
              clear hE a; intro a hE
              refine q0 p9_40_7 hE (st_pick rfl rfl) ?_
              clear hE a; intro a hE
              refine q0 p9_40_8 hE (st_assign rfl) ?_
              clear hE a; intro a hE
              refine p_nil ?_
              refine x_normB ?_
              refine x_norm ?_
              refine c_regL R9_39_l ?_
              refine q0 p9_39_0 hE (st_move rfl) ?_
              clear hE a; intro a hE
              refine q0 p9_39_1 hE (st_add (z := (k : Int) + 1) rfl rfl (wr_i64 _ (by omega) (by omega))) ?_
              clear hE a; intro a hE
              refine q0 p9_39_2 hE (st_assign rfl) ?_
              clear hE a; intro a hE
              refine p_nil ?_
              refine x_norm ?_
              have hbb9 : (false = true ↔ ∀ c, c < k + 1 → 0 ≤ Bf.at_ hd c) := ⟨fun h => (by cases h), fun h => (by have := hbb.2 (fun c hc => h c (by omega)); cases this)⟩
              exact ⟨k + 1, by omega, false, En.sub hE ⟨rfl, rfl, rfl, rfl, rfl, rfl, rfl, rfl, rfl, rfl, trivial⟩, by omega, hbb9, B_gX, B_gY, B_gd, O_hd, Nb_hd_gX, Nb_hd_gY, Nb_hd_gd, Z_0_hd, K_0⟩
          ·
            refine c_reg R9_38_l ?_
            refine q0 p9_38_0 hE (st_move rfl) ?_
            clear hE a; intro a hE
            refine q0 p9_38_1 hE (st_move rfl) ?_
            clear hE a; intro a hE
            refine q0 p9_38_2 hE (st_len Try.underlying52 rfl) ?_
            clear hE a; intro a hE
            refine q0 p9_38_3 hE (st_lss (b := false) rfl rfl (decide_eq_false hL1)) ?_
            clear hE a; intro a hE
            refine p_nil ?_
            refine x_norm ?_
            refine c_cond (t := false) hE rfl ?_
            refine wp_exit ?_
            refine x_exit ?_
            refine x_exit ?_
            obtain rfl : nn = k := by omega
            refine x_in ?_
            refine x_norm ?_
            rcases Decidable.em (bb = true) with hB2 | hB2
            ·
              subst hB2
              refine c_reg R9_41_l ?_
              refine p_cons (s_call (xs := []) (args := []) p9_41_0 hE wn_none rfl rfl Try.func33 cl33 (Lq.kn26  _) ?_)
              rintro e w16 ⟨rfl, hk⟩
              replace B_gX := kp_blk B_gX hk (fun h => h)
              replace B_gY := kp_blk B_gY hk (fun h => h)
              replace B_gd := kp_blk B_gd hk (fun h => h)
              replace O_hd := own_keep O_hd hk (fun _ _ h => h)
              replace K_0 := K_0.then_ hk (fun _ h => h.elim)
              refine ⟨_, rfl, ?_⟩
              clear hE a; intro a hE
              refine q0 p9_41_1 hE (st_move rfl) ?_
              clear hE a; intro a hE
              refine p_cons (s_still p9_41_2 hE (wn_some g9_41_1 rfl rfl) rfl (st_move rfl) ?_)
              clear hE a; intro a hE
              refine p_cons (s_still p9_41_3 hE (wn_some g9_41_1 rfl rfl) rfl (st_move rfl) ?_)
              clear hE a; intro a hE
              refine p_cons (s_call (xs := [Operand.tmp 208, Operand.tmp 209]) (args := [Value.pointer (some ⟨gX, 0, none⟩), Value.int .i64 (x : Int)]) p9_41_4 hE (wn_some g9_41_1 rfl rfl) rfl rfl Try.func30 cl30 (Lh.hops_gen gX gY _ nn _ f9 x hx hnn _ B_gX B_gY MF9 n_gX_gY) ?_)
              rintro e w17 ⟨Ah, ch, hh, rfl, hch, hft, hbd, hgh, hFh, hk⟩
              replace B_gX := kp_blk B_gX hk (fun h => h)
              replace B_gY := kp_blk B_gY hk (fun h => h)
              replace B_gd := kp_blk B_gd hk (fun h => h)
              replace O_hd := own_keep O_hd hk (fun _ _ h => h)
              replace K_0 := K_0.then_ hk (fun _ h => h.elim)
              have hfit := fit_to hrel hx ⟨hft.1, hft.2, hbd⟩
              have hdh := hun hh hfit
              refine ⟨_, rfl, ?_⟩
              clear hE a; intro a hE
              refine p_cons (s_still p9_41_5 hE (wn_some g9_41_1 rfl rfl) rfl (st_move rfl) ?_)
              clear hE a; intro a hE
              have hlen : nn = hh.length := hft.1.len.symm
              have hct : Calls Try.prog 37 #[Value.slice Ah nn ch, Value.slice Ad nn cd] w17 fun e w' => e = .returned (.bool true) ∧ Kp w17 w' (fun _ => False) := by
                have h := Lq.same_i Ah Ad ch cd hh w17 (by rw [← hlen]; omega) (fun W' hk => by rw [← hlen]; exact hFh W' hk) (fun W' hk => by rw [← hlen, ← hdh]; exact own_told (own_keep O_hd hk (fun _ _ h => h)))
                rw [← hlen] at h
                exact h
              refine p_cons (s_call (xs := [Operand.tmp 210, Operand.tmp 211]) (args := [Value.slice Ah nn ch, Value.slice Ad nn cd]) p9_41_6 hE (wn_some g9_41_1 rfl rfl) rfl rfl Try.func37 cl37 (hct) ?_)
              rintro e w18 ⟨rfl, hk⟩
              replace B_gX := kp_blk B_gX hk (fun h => h)
              replace B_gY := kp_blk B_gY hk (fun h => h)
              replace B_gd := kp_blk B_gd hk (fun h => h)
              replace O_hd := own_keep O_hd hk (fun _ _ h => h)
              replace K_0 := K_0.then_ hk (fun _ h => h.elim)
              refine ⟨_, rfl, ?_⟩
              clear hE a; intro a hE
              refine q0 p9_41_7 hE (st_pick rfl rfl) ?_
              clear hE a; intro a hE
              refine q0 p9_41_8 hE (st_move rfl) ?_
              clear hE a; intro a hE
              refine p_cons (s_still p9_41_9 hE (wn_some g9_41_8 rfl rfl) rfl (st_move rfl) ?_)
              clear hE a; intro a hE
              refine p_cons (s_call (xs := [Operand.tmp 215]) (args := [Value.pointer (some ⟨gX, 0, none⟩)]) p9_41_10 hE (wn_some g9_41_8 rfl rfl) rfl rfl Try.func40 cl40 (conn_any gX gY _ nn _ f9 hn0 hnn _ B_gX B_gY MF9 n_gX_gY) ?_)
              rintro e w19 ⟨h0, b0, hf0, hb0, rfl, hk⟩
              replace B_gX := kp_blk B_gX hk (fun h => h)
              replace B_gY := kp_blk B_gY hk (fun h => h)
              replace B_gd := kp_blk B_gd hk (fun h => h)
              replace O_hd := own_keep O_hd hk (fun _ _ h => h)
              replace K_0 := K_0.then_ hk (fun _ h => h.elim)
              have hbe : b0 = true := hb0.2 (conn_one hrel.sym hfit (fit_to hrel hn0 hf0) hx hn0 (fun c hc => by rw [← hdh]; exact hbb.1 rfl c hc))
              subst hbe
              refine ⟨_, rfl, ?_⟩
              clear hE a; intro a hE
              refine p_cons (s_still p9_41_11 hE (wn_some g9_41_8 rfl rfl) rfl (st_move rfl) ?_)
              clear hE a; intro a hE
              refine p_cons (s_still p9_41_12 hE (wn_some g9_41_8 rfl rfl) rfl (st_eqlB (b := true) Try.underlying4 rfl rfl rfl) ?_)
              clear hE a; intro a hE
              refine q0 p9_41_13 hE (st_pick rfl rfl) ?_
              clear hE a; intro a hE
              refine q0 p9_41_14 hE (st_move rfl) ?_
              clear hE a; intro a hE
              refine p_cons (s_still p9_41_15 hE (wn_some g9_41_14 rfl rfl) rfl (st_move rfl) ?_)
              clear hE a; intro a hE
              refine p_cons (s_call (xs := [Operand.tmp 221]) (args := [Value.pointer (some ⟨gX, 0, none⟩)]) p9_41_16 hE (wn_some g9_41_14 rfl rfl) rfl rfl Try.func41 cl41 (nodes_any gX (nn : Int) (Value.map (some gY)) _ B_gX) ?_)
              rintro e w20 ⟨rfl, hk⟩
              replace B_gX := kp_blk B_gX hk (fun h => h)
              replace B_gY := kp_blk B_gY hk (fun h => h)
              replace B_gd := kp_blk B_gd hk (fun h => h)
              replace O_hd := own_keep O_hd hk (fun _ _ h => h)
              replace K_0 := K_0.then_ hk (fun _ h => h.elim)
              refine ⟨_, rfl, ?_⟩
              clear hE a; intro a hE
              refine p_cons (s_still p9_41_17 hE (wn_some g9_41_14 rfl rfl) rfl (st_move rfl) ?_)
              clear hE a; intro a hE
              refine p_cons (s_still p9_41_18 hE (wn_some g9_41_14 rfl rfl) rfl (st_eql (b := true) rfl rfl (by simp)) ?_)
              clear hE a; intro a hE
              refine q0 p9_41_19 hE (st_pick rfl rfl) ?_
              clear hE a; intro a hE
              refine q0 p9_41_20 hE (st_assign rfl) ?_
              clear hE a; intro a hE
              refine p_nil ?_
              refine x_norm ?_
              refine wp_ret ?_
              refine ret_one (v := Value.bool true) rfl hE (.tmp rfl .nil) ?_
              exact hR _ K_0
            ·
              have hBBf : bb = false := by simpa using hB2
              subst hBBf
              refine c_reg R9_41_l ?_
              refine p_cons (s_call (xs := []) (args := []) p9_41_0 hE wn_none rfl rfl Try.func33 cl33 (Lq.kn26  _) ?_)
              rintro e w21 ⟨rfl, hk⟩
              replace B_gX := kp_blk B_gX hk (fun h => h)
              replace B_gY := kp_blk B_gY hk (fun h => h)
              replace B_gd := kp_blk B_gd hk (fun h => h)
              replace O_hd := own_keep O_hd hk (fun _ _ h => h)
              replace K_0 := K_0.then_ hk (fun _ h => h.elim)
              refine ⟨_, rfl, ?_⟩
              clear hE a; intro a hE
              refine q0 p9_41_1 hE (st_move rfl) ?_
              clear hE a; intro a hE
              refine p_cons (s_still p9_41_2 hE (wn_some g9_41_1 rfl rfl) rfl (st_move rfl) ?_)
              clear hE a; intro a hE
              refine p_cons (s_still p9_41_3 hE (wn_some g9_41_1 rfl rfl) rfl (st_move rfl) ?_)
              clear hE a; intro a hE
              refine p_cons (s_call (xs := [Operand.tmp 208, Operand.tmp 209]) (args := [Value.pointer (some ⟨gX, 0, none⟩), Value.int .i64 (x : Int)]) p9_41_4 hE (wn_some g9_41_1 rfl rfl) rfl rfl Try.func30 cl30 (Lh.hops_gen gX gY _ nn _ f9 x hx hnn _ B_gX B_gY MF9 n_gX_gY) ?_)
              rintro e w22 ⟨Ah, ch, hh, rfl, hch, hft, hbd, hgh, hFh, hk⟩
              replace B_gX := kp_blk B_gX hk (fun h => h)
              replace B_gY := kp_blk B_gY hk (fun h => h)
              replace B_gd := kp_blk B_gd hk (fun h => h)
              replace O_hd := own_keep O_hd hk (fun _ _ h => h)
              replace K_0 := K_0.then_ hk (fun _ h => h.elim)
              have hfit := fit_to hrel hx ⟨hft.1, hft.2, hbd⟩
              have hdh := hun hh hfit
              refine ⟨_, rfl, ?_⟩
              clear hE a; intro a hE
              refine p_cons (s_still p9_41_5 hE (wn_some g9_41_1 rfl rfl) rfl (st_move rfl) ?_)
              clear hE a; intro a hE
              have hlen : nn = hh.length := hft.1.len.symm
              have hct : Calls Try.prog 37 #[Value.slice Ah nn ch, Value.slice Ad nn cd] w22 fun e w' => e = .returned (.bool true) ∧ Kp w22 w' (fun _ => False) := by
                have h := Lq.same_i Ah Ad ch cd hh w22 (by rw [← hlen]; omega) (fun W' hk => by rw [← hlen]; exact hFh W' hk) (fun W' hk => by rw [← hlen, ← hdh]; exact own_told (own_keep O_hd hk (fun _ _ h => h)))
                rw [← hlen] at h
                exact h
              refine p_cons (s_call (xs := [Operand.tmp 210, Operand.tmp 211]) (args := [Value.slice Ah nn ch, Value.slice Ad nn cd]) p9_41_6 hE (wn_some g9_41_1 rfl rfl) rfl rfl Try.func37 cl37 (hct) ?_)
              rintro e w23 ⟨rfl, hk⟩
              replace B_gX := kp_blk B_gX hk (fun h => h)
              replace B_gY := kp_blk B_gY hk (fun h => h)
              replace B_gd := kp_blk B_gd hk (fun h => h)
              replace O_hd := own_keep O_hd hk (fun _ _ h => h)
              replace K_0 := K_0.then_ hk (fun _ h => h.elim)
              refine ⟨_, rfl, ?_⟩
              clear hE a; intro a hE
              refine q0 p9_41_7 hE (st_pick rfl rfl) ?_
              clear hE a; intro a hE
              refine q0 p9_41_8 hE (st_move rfl) ?_
              clear hE a; intro a hE
              refine p_cons (s_still p9_41_9 hE (wn_some g9_41_8 rfl rfl) rfl (st_move rfl) ?_)
              clear hE a; intro a hE
              refine p_cons (s_call (xs := [Operand.tmp 215]) (args := [Value.pointer (some ⟨gX, 0, none⟩)]) p9_41_10 hE (wn_some g9_41_8 rfl rfl) rfl rfl Try.func40 cl40 (conn_any gX gY _ nn _ f9 hn0 hnn _ B_gX B_gY MF9 n_gX_gY) ?_)
              rintro e w24 ⟨h0, b0, hf0, hb0, rfl, hk⟩
              replace B_gX := kp_blk B_gX hk (fun h => h)
              replace B_gY := kp_blk B_gY hk (fun h => h)
              replace B_gd := kp_blk B_gd hk (fun h => h)
              replace O_hd := own_keep O_hd hk (fun _ _ h => h)
              replace K_0 := K_0.then_ hk (fun _ h => h.elim)
              have hbe : b0 = false := (Bool.eq_false_or_eq_true b0).elim (fun h => absurd (hbb.2 (fun c hc => by rw [hdh]; exact conn_one hrel.sym (fit_to hrel hn0 hf0) hfit hn0 hx (hb0.1 h) c hc)) (by decide)) id
              subst hbe
              refine ⟨_, rfl, ?_⟩
              clear hE a; intro a hE
              refine p_cons (s_still p9_41_11 hE (wn_some g9_41_8 rfl rfl) rfl (st_move rfl) ?_)
              clear hE a; intro a hE
              refine p_cons (s_still p9_41_12 hE (wn_some g9_41_8 rfl rfl) rfl (st_eqlB (b := true) Try.underlying4 rfl rfl rfl) ?_)
              clear hE a; intro a hE
              refine q0 p9_41_13 hE (st_pick rfl rfl) ?_
              clear hE a; intro a hE
              refine q0 p9_41_14 hE (st_move rfl) ?_
              clear hE a; intro a hE
              refine p_cons (s_still p9_41_15 hE (wn_some g9_41_14 rfl rfl) rfl (st_move rfl) ?_)
              clear hE a; intro a hE
              refine p_cons (s_call (xs := [Operand.tmp 221]) (args := [Value.pointer (some ⟨gX, 0, none⟩)]) p9_41_16 hE (wn_some g9_41_14 rfl rfl) rfl rfl Try.func41 cl41 (nodes_any gX (nn : Int) (Value.map (some gY)) _ B_gX) ?_)
              rintro e w25 ⟨rfl, hk⟩
              replace B_gX := kp_blk B_gX hk (fun h => h)
              replace B_gY := kp_blk B_gY hk (fun h => h)
              replace B_gd := kp_blk B_gd hk (fun h => h)
              replace O_hd := own_keep O_hd hk (fun _ _ h => h)
              replace K_0 := K_0.then_ hk (fun _ h => h.elim)
              refine ⟨_, rfl, ?_⟩
              clear hE a; intro a hE
              refine p_cons (s_still p9_41_17 hE (wn_some g9_41_14 rfl rfl) rfl (st_move rfl) ?_)
              clear hE a; intro a hE
              refine p_cons (s_still p9_41_18 hE (wn_some g9_41_14 rfl rfl) rfl (st_eql (b := true) rfl rfl (by simp)) ?_)
              clear hE a; intro a hE
              refine q0 p9_41_19 hE (st_pick rfl rfl) ?_
              clear hE a; intro a hE
              refine q0 p9_41_20 hE (st_assign rfl) ?_
              clear hE a; intro a hE
              refine p_nil ?_
              refine x_norm ?_
              refine wp_ret ?_
              refine ret_one (v := Value.bool true) rfl hE (.tmp rfl .nil) ?_
              exact hR _ K_0
      ·
        have hNSf : nodeB (nn : Int) a2 = false := by simpa using hNS
        refine c_reg R9_32_l ?_
        refine q0 p9_32_0 hE (st_move rfl) ?_
        clear hE a; intro a hE
        refine q0 p9_32_1 hE (st_move rfl) ?_
        clear hE a; intro a hE
        refine p_cons (s_call (xs := [Operand.tmp 160, Operand.tmp 161]) (args := [Value.pointer (some ⟨gd, 0, none⟩), Value.int .i64 a2]) p9_32_2 hE wn_none rfl rfl Try.func38 cl38 (rnode_any gd (nn : Int) D9 a2 false hNSf _ B_gd) ?_)
        rintro e w26 ⟨rfl, hk⟩
        replace B_gX := kp_blk B_gX hk (fun h => h)
        replace B_gY := kp_blk B_gY hk (fun h => h)
        replace B_gd := kp_blk B_gd hk (fun h => h)
        replace K_0 := K_0.then_ hk (fun _ h => h.elim)
        refine ⟨_, rfl, ?_⟩
        clear hE a; intro a hE
        refine q0 p9_32_3 hE (st_not rfl rfl) ?_
        clear hE a; intro a hE
        refine p_nil ?_
        refine x_norm ?_
        refine c_cond (t := true) hE rfl ?_
        refine c_reg R9_33_l ?_
        refine q0 p9_33_0 hE (st_move rfl) ?_
        clear hE a; intro a hE
        refine q0 p9_33_1 hE (st_move rfl) ?_
        clear hE a; intro a hE
        have hcb : costP (nn : Int) f9 a2 0 = (0, 1) := by unfold costP; rw [hNSf]; rfl
        have hct := cost_any gX gY _ _ f9 (nn : Int) a2 0 w26 B_gX B_gY MF9 n_gX_gY
        rw [hcb] at hct
        refine p_cons (s_call (xs := [Operand.tmp 165, Operand.tmp 166, Operand.const (Value.int IntKind.i64 0)]) (args := [Value.pointer (some ⟨gX, 0, none⟩), Value.int .i64 a2, Value.int .i64 0]) p9_33_2 hE wn_none rfl rfl Try.func32 cl32 (hct) ?_)
        rintro e w27 ⟨rfl, hk⟩
        replace B_gX := kp_blk B_gX hk (fun h => h)
        replace B_gY := kp_blk B_gY hk (fun h => h)
        replace B_gd := kp_blk B_gd hk (fun h => h)
        replace K_0 := K_0.then_ hk (fun _ h => h.elim)
        refine ⟨_, rfl, ?_⟩
        clear hE a; intro a hE
        refine q0 p9_33_3 hE (st_move rfl) ?_
        clear hE a; intro a hE
        refine q0 p9_33_4 hE (st_extract rfl rfl) ?_
        clear hE a; intro a hE
        refine q0 p9_33_5 hE (st_extract rfl rfl) ?_
        clear hE a; intro a hE
        refine q0 p9_33_6 hE (st_assign rfl) ?_
        clear hE a; intro a hE
        refine q0 p9_33_7 hE (st_assign rfl) ?_
        clear hE a; intro a hE
        refine p_nil ?_
        refine x_norm ?_
        refine c_reg R9_34_l ?_
        refine p_cons (s_call (xs := []) (args := []) p9_34_0 hE wn_none rfl rfl Try.func33 cl33 (Lq.kn26  _) ?_)
        rintro e w28 ⟨rfl, hk⟩
        replace B_gX := kp_blk B_gX hk (fun h => h)
        replace B_gY := kp_blk B_gY hk (fun h => h)
        replace B_gd := kp_blk B_gd hk (fun h => h)
        replace K_0 := K_0.then_ hk (fun _ h => h.elim)
        refine ⟨_, rfl, ?_⟩
        clear hE a; intro a hE
        refine q0 p9_34_1 hE (st_move rfl) ?_
        clear hE a; intro a hE
        refine p_cons (s_still p9_34_2 hE (wn_some g9_34_1 rfl rfl) rfl (st_move rfl) ?_)
        clear hE a; intro a hE
        refine p_cons (s_still p9_34_3 hE (wn_some g9_34_1 rfl rfl) rfl (st_move rfl) ?_)
        clear hE a; intro a hE
        refine p_cons (s_call (xs := [Operand.tmp 172, Operand.tmp 173]) (args := [Value.pointer (some ⟨gX, 0, none⟩), Value.int .i64 a2]) p9_34_4 hE (wn_some g9_34_1 rfl rfl) rfl rfl Try.func30 cl30 (hops_bad gX gY _ nn _ f9 a2 hNSf _ B_gX B_gY MF9 n_gX_gY) ?_)
        rintro e w29 ⟨rfl, hk⟩
        replace B_gX := kp_blk B_gX hk (fun h => h)
        replace B_gY := kp_blk B_gY hk (fun h => h)
        replace B_gd := kp_blk B_gd hk (fun h => h)
        replace K_0 := K_0.then_ hk (fun _ h => h.elim)
        refine ⟨_, rfl, ?_⟩
        clear hE a; intro a hE
        refine p_cons (s_still p9_34_5 hE (wn_some g9_34_1 rfl rfl) rfl (st_len Try.underlying52 rfl) ?_)
        clear hE a; intro a hE
        refine p_cons (s_still p9_34_6 hE (wn_some g9_34_1 rfl rfl) rfl (st_eql (b := true) rfl rfl (by decide)) ?_)
        clear hE a; intro a hE
        refine q0 p9_34_7 hE (st_pick rfl rfl) ?_
        clear hE a; intro a hE
        refine q0 p9_34_8 hE (st_move rfl) ?_
        clear hE a; intro a hE
        refine p_cons (s_still p9_34_9 hE (wn_some g9_34_8 rfl rfl) rfl (st_move rfl) ?_)
        clear hE a; intro a hE
        refine p_cons (s_still p9_34_10 hE (wn_some g9_34_8 rfl rfl) rfl (st_move rfl) ?_)
        clear hE a; intro a hE
        have hct := nbs_any gX gY _ nn _ f9 a2 hnn w29 B_gX B_gY MF9 n_gX_gY
        rw [nbs_bad hNSf] at hct
        refine p_cons (s_call (xs := [Operand.tmp 179, Operand.tmp 180]) (args := [Value.pointer (some ⟨gX, 0, none⟩), Value.int .i64 a2]) p9_34_11 hE (wn_some g9_34_8 rfl rfl) rfl rfl Try.func31 cl31 (hct) ?_)
        rintro e w30 ⟨An, cn, rfl, hcn, hFn, hgn, hk⟩
        replace B_gX := kp_blk B_gX hk (fun h => h)
        replace B_gY := kp_blk B_gY hk (fun h => h)
        replace B_gd := kp_blk B_gd hk (fun h => h)
        replace K_0 := K_0.then_ hk (fun _ h => h.elim)
        refine ⟨_, rfl, ?_⟩
        clear hE a; intro a hE
        refine p_cons (s_still p9_34_12 hE (wn_some g9_34_8 rfl rfl) rfl (st_len Try.underlying52 rfl) ?_)
        clear hE a; intro a hE
        refine p_cons (s_still p9_34_13 hE (wn_some g9_34_8 rfl rfl) rfl (st_eql (b := true) rfl rfl (by decide)) ?_)
        clear hE a; intro a hE
        refine q0 p9_34_14 hE (st_pick rfl rfl) ?_
        clear hE a; intro a hE
        refine q0 p9_34_15 hE (st_move rfl) ?_
        clear hE a; intro a hE
        refine p_cons (s_still p9_34_16 hE (wn_some g9_34_15 rfl rfl) rfl (st_move rfl) ?_)
        clear hE a; intro a hE
        refine p_cons (s_still p9_34_17 hE (wn_some g9_34_15 rfl rfl) rfl (st_eql (b := true) rfl rfl (by decide)) ?_)
        clear hE a; intro a hE
        refine q0 p9_34_18 hE (st_pick rfl rfl) ?_
        clear hE a; intro a hE
        refine q0 p9_34_19 hE (st_assign rfl) ?_
        clear hE a; intro a hE
        refine p_nil ?_
        refine x_norm ?_
        refine wp_ret ?_
        refine x_ret ?_
        refine ret_one (v := Value.bool true) rfl hE (.tmp rfl .nil) ?_
        exact hR _ K_0
theorem R9_0_l : List.range (regOf Try.f9 0).size = [0] := by kernel_rfl
theorem R9_1_l : List.range (regOf Try.f9 1).size = [0, 1, 2, 3, 4, 5, 6] := by kernel_rfl
theorem R9_2_l : List.range (regOf Try.f9 2).size = [0, 1, 2, 3, 4, 5] := by kernel_rfl
theorem R9_3_l : List.range (regOf Try.f9 3).size = [0, 1, 2, 3, 4, 5, 6, 7, 8, 9] := by kernel_rfl
theorem R9_4_l : List.range (regOf Try.f9 4).size = [0, 1, 2, 3, 4, 5] := by kernel_rfl
theorem R9_5_l : List.range (regOf Try.f9 5).size = [0] := by kernel_rfl
theorem R9_6_l : List.range (regOf Try.f9 6).size = [0, 1, 2, 3] := by kernel_rfl
theorem R9_7_l : List.range (regOf Try.f9 7).size = [0] := by kernel_rfl
theorem R9_8_l : List.range (regOf Try.f9 8).size = [0, 1, 2, 3, 4, 5, 6, 7] := by kernel_rfl
theorem R9_10_l : List.range (regOf Try.f9 10).size = [0, 1, 2, 3, 4, 5, 6, 7] := by kernel_rfl
theorem R9_11_l : List.range (regOf Try.f9 11).size = [0] := by kernel_rfl
theorem R9_12_l : List.range (regOf Try.f9 12).size = [0, 1, 2, 3, 4, 5, 6, 7] := by kernel_rfl
theorem R9_13_l : List.range (regOf Try.f9 13).size = [0, 1, 2] := by kernel_rfl
theorem R9_14_l : List.range (regOf Try.f9 14).size = [0, 1] := by kernel_rfl
theorem R9_15_l : List.range (regOf Try.f9 15).size = [0] := by kernel_rfl
theorem R9_16_l : List.range (regOf Try.f9 16).size = [0, 1] := by kernel_rfl
theorem R9_17_l : List.range (regOf Try.f9 17).size = [0, 1] := by kernel_rfl
theorem R9_9_l : List.range (regOf Try.f9 9).size = [0, 1, 2] := by kernel_rfl
theorem body9 : Try.f9.body = some (.seq (.region 0 (regOf Try.f9 0) false) (.seq (.region 1 (regOf Try.f9 1) false) (.seq (.seq (.region 2 (regOf Try.f9 2) false) (.cond (Operand.tmp 32) (.seq (.region 3 (regOf Try.f9 3) false) (.ret)) (.skip))) (.seq (.seq (.region 4 (regOf Try.f9 4) false) (.cond (Operand.tmp 47) (.seq (.region 5 (regOf Try.f9 5) false) (.ret)) (.skip))) (.seq (.region 6 (regOf Try.f9 6) false) (.seq (.seq (.region 7 (regOf Try.f9 7) false) (.block 0 (.loop (.seq (.seq (.region 8 (regOf Try.f9 8) false) (.cond (Operand.tmp 58) (.skip) (.exit 0))) (.seq (.block 1 (.seq (.seq (.region 10 (regOf Try.f9 10) false) (.cond (Operand.tmp 68) (.seq (.region 11 (regOf Try.f9 11) false) (.ret)) (.skip))) (.seq (.region 12 (regOf Try.f9 12) false) (.cond (Operand.tmp 76) (.seq (.region 13 (regOf Try.f9 13) false) (.seq (.seq (.region 14 (regOf Try.f9 14) false) (.cond (Operand.tmp 80) (.seq (.region 15 (regOf Try.f9 15) false) (.ret)) (.skip))) (.seq (.region 16 (regOf Try.f9 16) false) (.region 17 (regOf Try.f9 17) false)))) (.skip))))) (.region 9 (regOf Try.f9 9) false)))))) (.seq (.seq (.region 18 (regOf Try.f9 18) false) (.block 2 (.loop (.seq (.seq (.region 19 (regOf Try.f9 19) false) (.cond (Operand.tmp 86) (.skip) (.exit 2))) (.seq (.block 3 (.seq (.region 21 (regOf Try.f9 21) false) (.seq (.seq (.region 22 (regOf Try.f9 22) false) (.block 4 (.loop (.seq (.seq (.region 23 (regOf Try.f9 23) false) (.cond (Operand.tmp 91) (.skip) (.exit 4))) (.seq (.block 5 (.seq (.region 25 (regOf Try.f9 25) false) (.seq (.seq (.region 26 (regOf Try.f9 26) false) (.cond (Operand.tmp 109) (.region 27 (regOf Try.f9 27) false) (.skip))) (.seq (.region 28 (regOf Try.f9 28) false) (.cond (Operand.tmp 153) (.seq (.region 29 (regOf Try.f9 29) false) (.ret)) (.skip)))))) (.region 24 (regOf Try.f9 24) false)))))) (.seq (.region 30 (regOf Try.f9 30) false) (.cond (Operand.tmp 159) (.seq (.region 31 (regOf Try.f9 31) false) (.ret)) (.skip)))))) (.region 20 (regOf Try.f9 20) false)))))) (.seq (.seq (.region 32 (regOf Try.f9 32) false) (.cond (Operand.tmp 163) (.seq (.region 33 (regOf Try.f9 33) false) (.seq (.region 34 (regOf Try.f9 34) false) (.ret))) (.skip))) (.seq (.region 35 (regOf Try.f9 35) false) (.seq (.region 36 (regOf Try.f9 36) false) (.seq (.seq (.region 37 (regOf Try.f9 37) false) (.block 6 (.loop (.seq (.seq (.region 38 (regOf Try.f9 38) false) (.cond (Operand.tmp 195) (.skip) (.exit 6))) (.seq (.block 7 (.region 40 (regOf Try.f9 40) false)) (.region 39 (regOf Try.f9 39) false)))))) (.seq (.region 41 (regOf Try.f9 41) false) (.ret))))))))))))) := by kernel_rfl
theorem p9_0_0 : pj (regOf Try.f9 0) 0 = some (some 6, .assign (.const (.bool false)), 4, none) := by kernel_rfl
theorem p9_1_0 : pj (regOf Try.f9 1) 0 = some (some 23, .move (.tmp 0), 3, none) := by kernel_rfl
theorem p9_1_1 : pj (regOf Try.f9 1) 1 = some (some 24, .call { callee := .value (.func 28), args := #[.tmp 23], argTypes := #[3] }, 57, none) := by kernel_rfl
theorem cl28 : callable Try.f28 = true := by kernel_rfl
theorem p9_1_2 : pj (regOf Try.f9 1) 2 = some (some 22, .move (.tmp 24), 57, none) := by kernel_rfl
theorem p9_1_3 : pj (regOf Try.f9 1) 3 = some (some 25, .extract (.tmp 22) 0, 56, none) := by kernel_rfl
theorem p9_1_4 : pj (regOf Try.f9 1) 4 = some (some 26, .extract (.tmp 22) 1, 23, none) := by kernel_rfl
theorem p9_1_5 : pj (regOf Try.f9 1) 5 = some (some 7, .assign (.tmp 25), 56, none) := by kernel_rfl
theorem p9_1_6 : pj (regOf Try.f9 1) 6 = some (some 8, .assign (.tmp 26), 23, none) := by kernel_rfl
theorem p9_2_0 : pj (regOf Try.f9 2) 0 = some (some 27, .move (.tmp 0), 3, none) := by kernel_rfl
theorem p9_2_1 : pj (regOf Try.f9 2) 1 = some (some 28, .binOp .lss 3 (.tmp 27) (.const (.int .i64 1)) 3, 4, none) := by kernel_rfl
theorem p9_2_2 : pj (regOf Try.f9 2) 2 = some (some 29, .move (.tmp 28), 4, none) := by kernel_rfl
theorem p9_2_3 : pj (regOf Try.f9 2) 3 = some (some 30, .move (.tmp 0), 3, some (2, false)) := by kernel_rfl
theorem g9_2_2 : dstOf (regOf Try.f9 2) 2 = some 29 := by kernel_rfl
theorem p9_2_4 : pj (regOf Try.f9 2) 4 = some (some 31, .binOp .gtr 3 (.tmp 30) (.const (.int .i64 64)) 3, 4, some (2, false)) := by kernel_rfl
theorem p9_2_5 : pj (regOf Try.f9 2) 5 = some (some 32, .pick (.tmp 29) (.const (.bool true)) (.tmp 31), 4, none) := by kernel_rfl
theorem p9_4_0 : pj (regOf Try.f9 4) 0 = some (some 42, .move (.tmp 8), 23, none) := by kernel_rfl
theorem p9_4_1 : pj (regOf Try.f9 4) 1 = some (some 43, .binOp .neq 23 (.tmp 42) (.const (.int .i64 0)) 23, 4, none) := by kernel_rfl
theorem p9_4_2 : pj (regOf Try.f9 4) 2 = some (some 44, .move (.tmp 43), 4, none) := by kernel_rfl
theorem p9_4_3 : pj (regOf Try.f9 4) 3 = some (some 45, .move (.tmp 7), 56, some (2, false)) := by kernel_rfl
theorem g9_4_2 : dstOf (regOf Try.f9 4) 2 = some 44 := by kernel_rfl
theorem p9_4_4 : pj (regOf Try.f9 4) 4 = some (some 46, .binOp .eql 56 (.tmp 45) (.const (.pointer none)) 56, 4, some (2, false)) := by kernel_rfl
theorem tP56 : Try.prog.underlying 56 = some (.pointer (Try.prog.pointee 56)) := by kernel_rfl
theorem p9_4_5 : pj (regOf Try.f9 4) 5 = some (some 47, .pick (.tmp 44) (.const (.bool true)) (.tmp 46), 4, none) := by kernel_rfl
theorem p9_6_0 : pj (regOf Try.f9 6) 0 = some (some 48, .move (.tmp 0), 3, none) := by kernel_rfl
theorem p9_6_1 : pj (regOf Try.f9 6) 1 = some (some 49, .build 71 #[(0, .tmp 48)], 71, none) := by kernel_rfl
theorem p9_6_2 : pj (regOf Try.f9 6) 2 = some (some 50, .box 71 (.tmp 49), 67, none) := by kernel_rfl
theorem p9_6_3 : pj (regOf Try.f9 6) 3 = some (some 9, .assign (.tmp 50), 67, none) := by kernel_rfl
theorem p9_7_0 : pj (regOf Try.f9 7) 0 = some (some 10, .assign (.const (.int .i64 0)), 3, none) := by kernel_rfl
theorem p9_8_0 : pj (regOf Try.f9 8) 0 = some (some 51, .move (.tmp 10), 3, none) := by kernel_rfl
theorem p9_8_1 : pj (regOf Try.f9 8) 1 = some (some 52, .move (.tmp 1), 55, none) := by kernel_rfl
theorem p9_8_2 : pj (regOf Try.f9 8) 2 = some (some 53, .call { callee := .builtin .len, args := #[.tmp 52], argTypes := #[55] }, 3, none) := by kernel_rfl
theorem p9_8_3 : pj (regOf Try.f9 8) 3 = some (some 54, .binOp .lss 3 (.tmp 51) (.tmp 53) 3, 4, none) := by kernel_rfl
theorem p9_8_4 : pj (regOf Try.f9 8) 4 = some (some 55, .move (.tmp 54), 4, none) := by kernel_rfl
theorem p9_8_5 : pj (regOf Try.f9 8) 5 = some (some 56, .move (.tmp 10), 3, some (4, true)) := by kernel_rfl
theorem g9_8_4 : dstOf (regOf Try.f9 8) 4 = some 55 := by kernel_rfl
theorem p9_8_6 : pj (regOf Try.f9 8) 6 = some (some 57, .binOp .lss 3 (.tmp 56) (.const (.int .i64 40)) 3, 4, some (4, true)) := by kernel_rfl
theorem p9_8_7 : pj (regOf Try.f9 8) 7 = some (some 58, .pick (.tmp 55) (.tmp 57) (.const (.bool false)), 4, none) := by kernel_rfl
theorem p9_10_0 : pj (regOf Try.f9 10) 0 = some (some 61, .move (.tmp 7), 56, none) := by kernel_rfl
theorem p9_10_1 : pj (regOf Try.f9 10) 1 = some (some 62, .move (.tmp 9), 67, none) := by kernel_rfl
theorem p9_10_2 : pj (regOf Try.f9 10) 2 = some (some 63, .move (.tmp 1), 55, none) := by kernel_rfl
theorem p9_10_3 : pj (regOf Try.f9 10) 3 = some (some 64, .move (.tmp 10), 3, none) := by kernel_rfl
theorem p9_10_4 : pj (regOf Try.f9 10) 4 = some (some 65, .indexAddr 55 (.tmp 63) (.tmp 64), 0, none) := by kernel_rfl
theorem tS61 : (Try.prog.info? 61).map (·.size) = some 5 := by kernel_rfl
theorem p9_10_5 : pj (regOf Try.f9 10) 5 = some (some 66, .load 61 (.tmp 65), 61, none) := by kernel_rfl
theorem tA61 : (Try.prog.underlying 61).map aggD = some true := by kernel_rfl
theorem p9_10_6 : pj (regOf Try.f9 10) 6 = some (some 67, .call { callee := .value (.func 34), args := #[.tmp 61, .tmp 62, .tmp 66], argTypes := #[56, 67, 61] }, 4, none) := by kernel_rfl
theorem cl34 : callable Try.f34 = true := by kernel_rfl
theorem p9_10_7 : pj (regOf Try.f9 10) 7 = some (some 68, .unOp .not 4 (.tmp 67), 4, none) := by kernel_rfl
theorem p9_12_0 : pj (regOf Try.f9 12) 0 = some (some 69, .move (.tmp 1), 55, none) := by kernel_rfl
theorem p9_12_1 : pj (regOf Try.f9 12) 1 = some (some 70, .move (.tmp 10), 3, none) := by kernel_rfl
theorem p9_12_2 : pj (regOf Try.f9 12) 2 = some (some 71, .indexAddr 55 (.tmp 69) (.tmp 70), 0, none) := by kernel_rfl
theorem p9_12_3 : pj (regOf Try.f9 12) 3 = some (some 72, .fieldAddr 61 (.tmp 71) 0, 0, none) := by kernel_rfl
theorem p9_12_4 : pj (regOf Try.f9 12) 4 = some (some 73, .load 3 (.tmp 72), 3, none) := by kernel_rfl
theorem p9_12_5 : pj (regOf Try.f9 12) 5 = some (some 74, .convert 3 44 (.tmp 73), 44, none) := by kernel_rfl
theorem p9_12_6 : pj (regOf Try.f9 12) 6 = some (some 75, .binOp .rem 44 (.tmp 74) (.const (.int .u64 5)) 44, 44, none) := by kernel_rfl
theorem p9_12_7 : pj (regOf Try.f9 12) 7 = some (some 76, .binOp .eql 44 (.tmp 75) (.const (.int .u64 4)) 44, 4, none) := by kernel_rfl
theorem p9_13_0 : pj (regOf Try.f9 13) 0 = some (some 77, .move (.tmp 7), 56, none) := by kernel_rfl
theorem p9_13_1 : pj (regOf Try.f9 13) 1 = some (some 78, .call { callee := .value (.func 35), args := #[.tmp 77], argTypes := #[56] }, 56, none) := by kernel_rfl
theorem cl35 : callable Try.f35 = true := by kernel_rfl
theorem p9_13_2 : pj (regOf Try.f9 13) 2 = some (some 11, .assign (.tmp 78), 56, none) := by kernel_rfl
theorem p9_14_0 : pj (regOf Try.f9 14) 0 = some (some 79, .move (.tmp 11), 56, none) := by kernel_rfl
theorem p9_14_1 : pj (regOf Try.f9 14) 1 = some (some 80, .binOp .eql 56 (.tmp 79) (.const (.pointer none)) 56, 4, none) := by kernel_rfl
theorem p9_16_0 : pj (regOf Try.f9 16) 0 = some (some 81, .move (.tmp 7), 56, none) := by kernel_rfl
theorem p9_16_1 : pj (regOf Try.f9 16) 1 = some (some 82, .call { callee := .value (.func 36), args := #[.tmp 81, .const (.int .i64 0), .const (.slice none 0 0)], argTypes := #[56, 3, 52] }, 24, none) := by kernel_rfl
theorem p9_17_0 : pj (regOf Try.f9 17) 0 = some (some 83, .move (.tmp 11), 56, none) := by kernel_rfl
theorem p9_17_1 : pj (regOf Try.f9 17) 1 = some (some 7, .assign (.tmp 83), 56, none) := by kernel_rfl
theorem p9_9_0 : pj (regOf Try.f9 9) 0 = some (some 59, .move (.tmp 10), 3, none) := by kernel_rfl
theorem p9_9_1 : pj (regOf Try.f9 9) 1 = some (some 60, .binOp .add 3 (.tmp 59) (.const (.int .i64 1)) 3, 3, none) := by kernel_rfl
theorem p9_9_2 : pj (regOf Try.f9 9) 2 = some (some 10, .assign (.tmp 60), 3, none) := by kernel_rfl
theorem p9_3_0 : pj (regOf Try.f9 3) 0 = some (some 33, .call { callee := .value (.func 33), args := #[], argTypes := #[] }, 4, none) := by kernel_rfl
theorem p9_3_1 : pj (regOf Try.f9 3) 1 = some (some 34, .move (.tmp 33), 4, none) := by kernel_rfl
theorem p9_3_2 : pj (regOf Try.f9 3) 2 = some (some 35, .move (.tmp 8), 23, some (1, true)) := by kernel_rfl
theorem g9_3_1 : dstOf (regOf Try.f9 3) 1 = some 34 := by kernel_rfl
theorem p9_3_3 : pj (regOf Try.f9 3) 3 = some (some 36, .binOp .eql 23 (.tmp 35) (.const (.int .i64 1)) 23, 4, some (1, true)) := by kernel_rfl
theorem p9_3_4 : pj (regOf Try.f9 3) 4 = some (some 37, .pick (.tmp 34) (.tmp 36) (.const (.bool false)), 4, none) := by kernel_rfl
theorem p9_3_5 : pj (regOf Try.f9 3) 5 = some (some 38, .move (.tmp 37), 4, none) := by kernel_rfl
theorem p9_3_6 : pj (regOf Try.f9 3) 6 = some (some 39, .move (.tmp 7), 56, some (5, true)) := by kernel_rfl
theorem g9_3_5 : dstOf (regOf Try.f9 3) 5 = some 38 := by kernel_rfl
theorem p9_3_7 : pj (regOf Try.f9 3) 7 = some (some 40, .binOp .eql 56 (.tmp 39) (.const (.pointer none)) 56, 4, some (5, true)) := by kernel_rfl
theorem p9_3_8 : pj (regOf Try.f9 3) 8 = some (some 41, .pick (.tmp 38) (.tmp 40) (.const (.bool false)), 4, none) := by kernel_rfl
theorem p9_3_9 : pj (regOf Try.f9 3) 9 = some (some 6, .assign (.tmp 41), 4, none) := by kernel_rfl
set_option maxHeartbeats 4000000 in
theorem walk (a0 : Int) (a1 : Option Addr) (cap1 : Nat) (z1 : List (Int × Int × Int × Int × Nat)) (a2 : Int) (w : World) (w0 : (Lit.int .i64 a0).wf = true) (w1 : Kd.C (Kd.pair (Kd.int .i64) (Kd.pair (Kd.int .i64) (Kd.pair (Kd.int .i64) (Kd.pair (Kd.int .i64) Kf)))) w a1 z1.length z1) (m1 : z1.length ≤ cap1) (o1 : (z1.length ≤ maxLen ∧ ∀ x0 ∈ z1, ((Lit.int .i64 x0.1).wf = true ∧ ((Lit.int .i64 x0.2.1).wf = true ∧ ((Lit.int .i64 x0.2.2.1).wf = true ∧ ((Lit.int .i64 x0.2.2.2.1).wf = true ∧ ((Lit.float .f64 x0.2.2.2.2).wf = true))))))) (y1 : z1.length * Try.prog.bytesOf 61 ≤ 140737488351232) (c1 : cap1 ≤ maxLen ∧ (a1 = none → cap1 = 0)) (w2 : (Lit.int .i64 a2).wf = true) :
    Calls Try.prog 9 #[.int .i64 a0, .slice a1 z1.length cap1, .int .i64 a2] w fun e w' => e = .returned (.bool true) ∧ Below w.heap.size w w' := by
  have K_0 := Kp.refl w (fun _ => False)
  have Fz1 := w1
  refine enter (args := [Value.int .i64 a0, Value.slice a1 z1.length cap1, Value.int .i64 a2]) (n := 226) Try.func9 body9 rfl rfl rfl ?_
  intro a hE
  refine c_reg R9_0_l ?_
  refine q0 p9_0_0 hE (st_assign rfl) ?_
  clear hE a; intro a hE
  refine p_nil ?_
  refine x_norm ?_
  rcases Decidable.em (1 ≤ a0 ∧ a0 ≤ 64) with hOKN | hOKN
  ·
    obtain ⟨nn, rfl⟩ : ∃ nn : Nat, a0 = (nn : Int) := ⟨a0.toNat, by omega⟩
    have hn0 : 0 < nn := by omega
    have hnn : nn ≤ 64 := by omega
    refine c_reg R9_1_l ?_
    refine q0 p9_1_0 hE (st_move rfl) ?_
    clear hE a; intro a hE
    refine p_cons (s_call (xs := [Operand.tmp 23]) (args := [Value.int .i64 (nn : Int)]) p9_1_1 hE wn_none rfl rfl Try.func28 cl28 (new_ok (nn : Int) hOKN _) ?_)
    rintro e w1 ⟨gL, gN, rfl, zL9, zN9, n_gL_gN, B_gL, B_gN, hk⟩
    have z_0_gL := Nat.le_trans K_0.kept.1 zL9
    have z_0_gN := Nat.le_trans K_0.kept.1 zN9
    replace K_0 := K_0.then_ hk (fun _ h => h.elim)
    refine ⟨_, rfl, ?_⟩
    clear hE a; intro a hE
    refine q0 p9_1_2 hE (st_move rfl) ?_
    clear hE a; intro a hE
    refine q0 p9_1_3 hE (st_extract rfl rfl) ?_
    clear hE a; intro a hE
    refine q0 p9_1_4 hE (st_extract rfl rfl) ?_
    clear hE a; intro a hE
    refine q0 p9_1_5 hE (st_assign rfl) ?_
    clear hE a; intro a hE
    refine q0 p9_1_6 hE (st_assign rfl) ?_
    clear hE a; intro a hE
    refine p_nil ?_
    refine x_norm ?_
    refine wp_seq ?_
    refine c_reg R9_2_l ?_
    refine q0 p9_2_0 hE (st_move rfl) ?_
    clear hE a; intro a hE
    refine q0 p9_2_1 hE (st_lss (b := false) rfl rfl (decide_eq_false (by omega))) ?_
    clear hE a; intro a hE
    refine q0 p9_2_2 hE (st_move rfl) ?_
    clear hE a; intro a hE
    refine p_cons (s_still p9_2_3 hE (wn_some g9_2_2 rfl rfl) rfl (st_move rfl) ?_)
    clear hE a; intro a hE
    refine p_cons (s_still p9_2_4 hE (wn_some g9_2_2 rfl rfl) rfl (st_gtr (b := false) rfl rfl (decide_eq_false (by omega))) ?_)
    clear hE a; intro a hE
    refine q0 p9_2_5 hE (st_pick rfl rfl) ?_
    clear hE a; intro a hE
    refine p_nil ?_
    refine x_norm ?_
    refine c_cond (t := false) hE rfl ?_
    refine wp_skip ?_
    refine x_norm ?_
    refine wp_seq ?_
    refine c_reg R9_4_l ?_
    refine q0 p9_4_0 hE (st_move rfl) ?_
    clear hE a; intro a hE
    refine q0 p9_4_1 hE (st_neq (b := false) rfl rfl (by decide)) ?_
    clear hE a; intro a hE
    refine q0 p9_4_2 hE (st_move rfl) ?_
    clear hE a; intro a hE
    refine p_cons (s_still p9_4_3 hE (wn_some g9_4_2 rfl rfl) rfl (st_move rfl) ?_)
    clear hE a; intro a hE
    refine p_cons (s_still p9_4_4 hE (wn_some g9_4_2 rfl rfl) rfl (st_eqlP (b := false) tP56 rfl rfl rfl) ?_)
    clear hE a; intro a hE
    refine q0 p9_4_5 hE (st_pick rfl rfl) ?_
    clear hE a; intro a hE
    refine p_nil ?_
    refine x_norm ?_
    refine c_cond (t := false) hE rfl ?_
    refine wp_skip ?_
    refine x_norm ?_
    refine c_reg R9_6_l ?_
    refine q0 p9_6_0 hE (st_move rfl) ?_
    clear hE a; intro a hE
    refine q0 p9_6_1 hE (st_build (xs := [(0, Operand.tmp 48)]) (vs := [(0, Value.int .i64 (nn : Int))]) (cs := (Lm.cellsD (nn : Int) (fun _ _ => 0))) rfl (Eq.trans (b := some ⟨.int .i64 (nn : Int) :: List.replicate 4096 (.int .i64 0)⟩) (by kernel_rfl) (congrArg some (Lm.zeroD _)))) ?_
    clear hE a; intro a hE
    refine p_cons (s_box p9_6_2 hE wn_none rfl rfl ?_)
    clear hE a; intro g2 w3 z4 B_g2 hk a hE
    replace B_g2 : w3.heap[g2]? = some (.cells (Lm.cellsD (nn : Int) (fun _ _ => 0)) 71 (0, 0)) := B_g2
    have n_gL_g2 : gL ≠ g2 := ne_new B_gL z4
    have n_gN_g2 : gN ≠ g2 := ne_new B_gN z4
    have z_0_g2 := Nat.le_trans K_0.kept.1 z4
    replace B_gL := kp_blk B_gL hk (fun h => h)
    replace B_gN := kp_blk B_gN hk (fun h => h)
    replace K_0 := K_0.then_ hk (fun _ h => h.elim)
    clear hk
    refine q0 p9_6_3 hE (st_assign rfl) ?_
    clear hE a; intro a hE
    refine p_nil ?_
    refine x_norm ?_
    refine wp_seq ?_
    refine c_reg R9_7_l ?_
    refine q0 p9_7_0 hE (st_assign rfl) ?_
    clear hE a; intro a hE
    refine p_nil ?_
    refine x_norm ?_
    refine wp_block ?_
    refine c_loop (α := Nat) (fun i a W => ∃ (gX : Nat), ∃ (gY : Nat), ∃ (es9 : Array MapEntry), ∃ (ck9 : Nat), ∃ (f9 : Int → Int → Option Int), ∃ (D9 : Nat → Nat → Int), En 226 a [(0, Value.int .i64 (nn : Int)), (1, Value.slice a1 z1.length cap1), (2, Value.int .i64 a2), (8, Value.int .i64 0), (32, Value.bool false), (47, Value.bool false), (9, Value.pointer (some ⟨g2, 0, none⟩)), (10, Value.int .i64 (i : Int)), (7, Value.pointer (some ⟨gX, 0, none⟩))] ∧ Mp.MapF es9 f9 ∧ RelL nn f9 D9 ∧ i ≤ z1.length ∧ W.heap[g2]? = some (.cells (Lm.cellsD (nn : Int) D9) 71 (0, 0)) ∧ W.heap[gX]? = some (.cells #[Value.int .i64 (nn : Int), Value.map (some gY)] 83 (0, 0)) ∧ w.heap.size ≤ gX ∧ g2 ≠ gX ∧ W.heap[gY]? = some (.map es9 ck9) ∧ w.heap.size ≤ gY ∧ g2 ≠ gY ∧ gX ≠ gY ∧ Kp w W (fun _ => False)) (fun i => z1.length - i) (0) ?_ ?_
    ·
      exact ⟨gL, gN, #[], 0, (fun _ _ => none), (fun _ _ => 0), En.sub hE ⟨rfl, rfl, rfl, rfl, rfl, rfl, rfl, rfl, rfl, trivial⟩, Mp.mapf_nil, (rl_nil nn), Nat.zero_le _, B_g2, B_gL, z_0_gL, (Ne.symm n_gL_g2), B_gN, z_0_gN, (Ne.symm n_gN_g2), n_gL_gN, K_0⟩
    ·
      clear hE a
      rintro i a w5 ⟨gX, gY, es9, ck9, f9, D9, hE, MF9, hrel, hi9, B_g2, B_gX, z_0_gX, n_g2_gX, B_gY, z_0_gY, n_g2_gY, n_gX_gY, K_0⟩
      refine wp_seq ?_
      rcases Decidable.em ((i : Int) < (z1.length : Int)) with hI1 | hI1
      ·
        rcases Decidable.em ((i : Int) < 40) with hI2 | hI2
        ·
          refine c_reg R9_8_l ?_
          refine q0 p9_8_0 hE (st_move rfl) ?_
          clear hE a; intro a hE
          refine q0 p9_8_1 hE (st_move rfl) ?_
          clear hE a; intro a hE
          refine q0 p9_8_2 hE (st_len Try.underlying55 rfl) ?_
          clear hE a; intro a hE
          refine q0 p9_8_3 hE (st_lss (b := true) rfl rfl (decide_eq_true hI1)) ?_
          clear hE a; intro a hE
          refine q0 p9_8_4 hE (st_move rfl) ?_
          clear hE a; intro a hE
          refine p_cons (s_still p9_8_5 hE (wn_some g9_8_4 rfl rfl) rfl (st_move rfl) ?_)
          clear hE a; intro a hE
          refine p_cons (s_still p9_8_6 hE (wn_some g9_8_4 rfl rfl) rfl (st_lss (b := true) rfl rfl (decide_eq_true hI2)) ?_)
          clear hE a; intro a hE
          refine q0 p9_8_7 hE (st_pick rfl rfl) ?_
          clear hE a; intro a hE
          refine p_nil ?_
          refine x_norm ?_
          refine c_cond (t := true) hE rfl ?_
          refine wp_skip ?_
          refine x_norm ?_
          refine wp_seq ?_
          refine wp_block ?_
          refine wp_seq ?_
          refine c_reg R9_10_l ?_
          obtain ⟨hAe, cce, hKe, hce⟩ := C_elem (i := i) Fz1 zA (show i < z1.length by omega)
          obtain ⟨⟨xk, xa, xb, xc, xm⟩, hxe⟩ : ∃ x, List.getD z1 i zA = x := ⟨_, rfl⟩
          rw [hxe] at hKe
          obtain rfl := act_open hKe
          have hxm : xm < 18446744073709551616 := by
            have hme := o1.2 (List.getD z1 i zA) (by rw [List.getD_eq_getElem?_getD, List.getElem?_eq_getElem (show i < z1.length by omega)]; exact List.getElem_mem _)
            rw [hxe] at hme
            exact f64_lt hme.2.2.2.2
          refine q0 p9_10_0 hE (st_move rfl) ?_
          clear hE a; intro a hE
          refine q0 p9_10_1 hE (st_move rfl) ?_
          clear hE a; intro a hE
          refine q0 p9_10_2 hE (st_move rfl) ?_
          clear hE a; intro a hE
          refine q0 p9_10_3 hE (st_move rfl) ?_
          clear hE a; intro a hE
          refine q0 p9_10_4 hE (st_indexAddrR (i := i) (s := 5) Try.underlying55 tS61 hAe rfl rfl (by omega)) ?_
          clear hE a; intro a hE
          refine q0 p9_10_5 hE (st_loadR (off := i * 5) (j := 0) (k := 5) (vs := [Value.int .i64 xk, Value.int .i64 xa, Value.int .i64 xb, Value.int .i64 xc, Value.float .f64 xm]) tA61 tS61 (fun j u h => cell_to K_0 (hce j u h)) rfl rfl (by omega) rfl) ?_
          clear hE a; intro a hE
          refine p_cons (s_call (xs := [Operand.tmp 61, Operand.tmp 62, Operand.tmp 66]) (args := [Value.pointer (some ⟨gX, 0, none⟩), Value.pointer (some ⟨g2, 0, none⟩), Value.agg #[Value.int .i64 xk, Value.int .i64 xa, Value.int .i64 xb, Value.int .i64 xc, Value.float .f64 xm]]) p9_10_6 hE wn_none rfl rfl Try.func34 cl34 (do_any gX gY g2 _ nn _ f9 D9 hnn xk xa xb xc xm hxm _ B_gX B_gY MF9 B_g2 hrel n_gX_gY (Ne.symm n_g2_gX) (Ne.symm n_g2_gY)) ?_)
          rintro e w7 ⟨esm6, ckm6, fm6, Dm6, rfl, MFm6, hrm6, B_gY', B_g2', hk⟩
          replace B_gX := kp_blk B_gX hk (fun h => h.elim n_gX_gY (Ne.symm n_g2_gX))
          replace K_0 := K_0.then_ hk (fun k h => h.elim (fun h => by rw [show k = gY from h]; exact Or.inr z_0_gY) (fun h => by rw [show k = g2 from h]; exact Or.inr z_0_g2))
          replace B_gY := B_gY'
          replace B_g2 := B_g2'
          refine ⟨_, rfl, ?_⟩
          clear hE a; intro a hE
          refine q0 p9_10_7 hE (st_not rfl rfl) ?_
          clear hE a; intro a hE
          refine p_nil ?_
          refine x_norm ?_
          refine c_cond (t := false) hE rfl ?_
          refine wp_skip ?_
          refine x_norm ?_
          rcases Decidable.em ((xk % 18446744073709551616 % 5) = 4) with hK4 | hK4
          ·
            refine c_reg R9_12_l ?_
            refine q0 p9_12_0 hE (st_move rfl) ?_
            clear hE a; intro a hE
            refine q0 p9_12_1 hE (st_move rfl) ?_
            clear hE a; intro a hE
            refine q0 p9_12_2 hE (st_indexAddrR (i := i) (s := 5) Try.underlying55 tS61 hAe rfl rfl (by omega)) ?_
            clear hE a; intro a hE
            refine q0 p9_12_3 hE (st_fieldAddrR (off := i * 5) (f0 := 0) (o' := i * 5) Try.underlying61 rfl tS3 rfl (by omega) rfl) ?_
            clear hE a; intro a hE
            refine q0 p9_12_4 hE (st_loadR1 (off := i * 5) (j := 0) tA3 (fun j u h => cell_to K_0 (hce j u h)) rfl (by omega) rfl) ?_
            clear hE a; intro a hE
            refine q0 p9_12_5 hE (st_conv (z := (xk % 18446744073709551616)) (by kernel_rfl) Try.underlying44 rfl (IntKind.wrap_u64 _)) ?_
            clear hE a; intro a hE
            refine q0 p9_12_6 hE (st_rem (z := xk % 18446744073709551616 % 5) rfl rfl (by omega) (Int.tmod_eq_emod_of_nonneg (by omega))) ?_
            clear hE a; intro a hE
            refine q0 p9_12_7 hE (st_eql (b := true) rfl rfl (decide_eq_true hK4)) ?_
            clear hE a; intro a hE
            refine p_nil ?_
            refine x_norm ?_
            refine c_cond (t := true) hE rfl ?_
            refine c_reg R9_13_l ?_
            refine q0 p9_13_0 hE (st_move rfl) ?_
            clear hE a; intro a hE
            refine p_cons (s_call (xs := [Operand.tmp 77]) (args := [Value.pointer (some ⟨gX, 0, none⟩)]) p9_13_1 hE wn_none rfl rfl Try.func35 cl35 (copy_any gX gY _ _ fm6 _ _ B_gX B_gY MFm6 n_gX_gY) ?_)
            rintro e w8 ⟨gC, gE, rfl, zC9, zE9, n_gC_gE, B_gC, B_gE, hk⟩
            have n_g2_gC : g2 ≠ gC := ne_new B_g2 zC9
            have n_gX_gC : gX ≠ gC := ne_new B_gX zC9
            have n_gY_gC : gY ≠ gC := ne_new B_gY zC9
            have z_0_gC := Nat.le_trans K_0.kept.1 zC9
            have n_g2_gE : g2 ≠ gE := ne_new B_g2 zE9
            have n_gX_gE : gX ≠ gE := ne_new B_gX zE9
            have n_gY_gE : gY ≠ gE := ne_new B_gY zE9
            have z_0_gE := Nat.le_trans K_0.kept.1 zE9
            replace B_g2 := kp_blk B_g2 hk (fun h => h)
            replace B_gX := kp_blk B_gX hk (fun h => h)
            replace B_gY := kp_blk B_gY hk (fun h => h)
            replace K_0 := K_0.then_ hk (fun _ h => h.elim)
            refine ⟨_, rfl, ?_⟩
            clear hE a; intro a hE
            refine q0 p9_13_2 hE (st_assign rfl) ?_
            clear hE a; intro a hE
            refine p_nil ?_
            refine x_norm ?_
            refine wp_seq ?_
            refine c_reg R9_14_l ?_
            refine q0 p9_14_0 hE (st_move rfl) ?_
            clear hE a; intro a hE
            refine q0 p9_14_1 hE (st_eqlP (b := false) tP56 rfl rfl rfl) ?_
            clear hE a; intro a hE
            refine p_nil ?_
            refine x_norm ?_
            refine c_cond (t := false) hE rfl ?_
            refine wp_skip ?_
            refine x_norm ?_
            refine c_reg R9_16_l ?_
            refine q0 p9_16_0 hE (st_move rfl) ?_
            clear hE a; intro a hE
            refine p_cons (s_call (xs := [Operand.tmp 81, Operand.const (Value.int IntKind.i64 0), Operand.const (Value.slice none 0 0)]) (args := [Value.pointer (some ⟨gX, 0, none⟩), Value.int .i64 0, Value.slice none 0 0]) p9_16_1 hE wn_none rfl rfl Try.func36 cl36 (cut0_ok gX gY _ nn _ fm6 0 hnn (decide_eq_true ⟨by omega, by omega⟩) _ B_gX B_gY MFm6 n_gX_gY) ?_)
            rintro e w10 ⟨esm9, rfl, MFm9, B_gY', hk⟩
            replace B_g2 := kp_blk B_g2 hk n_g2_gY
            replace B_gX := kp_blk B_gX hk n_gX_gY
            replace B_gC := kp_blk B_gC hk (Ne.symm n_gY_gC)
            replace B_gE := kp_blk B_gE hk (Ne.symm n_gY_gE)
            replace K_0 := K_0.then_ hk (fun k h => by rw [show k = gY from h]; exact Or.inr z_0_gY)
            replace B_gY := B_gY'
            refine ⟨_, rfl, ?_⟩
            clear hE a; intro a hE
            refine p_nil ?_
            refine x_norm ?_
            refine c_regL R9_17_l ?_
            refine q0 p9_17_0 hE (st_move rfl) ?_
            clear hE a; intro a hE
            refine q0 p9_17_1 hE (st_assign rfl) ?_
            clear hE a; intro a hE
            refine p_nil ?_
            refine x_normB ?_
            refine x_norm ?_
            refine c_regL R9_9_l ?_
            refine q0 p9_9_0 hE (st_move rfl) ?_
            clear hE a; intro a hE
            refine q0 p9_9_1 hE (st_add (z := (i : Int) + 1) rfl rfl (wr_i64 _ (by omega) (by omega))) ?_
            clear hE a; intro a hE
            refine q0 p9_9_2 hE (st_assign rfl) ?_
            clear hE a; intro a hE
            refine p_nil ?_
            refine x_norm ?_
            exact ⟨i + 1, by omega, gC, gE, esm6, ckm6, fm6, Dm6, En.sub hE ⟨rfl, rfl, rfl, rfl, rfl, rfl, rfl, rfl, rfl, trivial⟩, MFm6, hrm6, by omega, B_g2, B_gC, z_0_gC, n_g2_gC, B_gE, z_0_gE, n_g2_gE, n_gC_gE, K_0⟩
          ·
            refine c_reg R9_12_l ?_
            refine q0 p9_12_0 hE (st_move rfl) ?_
            clear hE a; intro a hE
            refine q0 p9_12_1 hE (st_move rfl) ?_
            clear hE a; intro a hE
            refine q0 p9_12_2 hE (st_indexAddrR (i := i) (s := 5) Try.underlying55 tS61 hAe rfl rfl (by omega)) ?_
            clear hE a; intro a hE
            refine q0 p9_12_3 hE (st_fieldAddrR (off := i * 5) (f0 := 0) (o' := i * 5) Try.underlying61 rfl tS3 rfl (by omega) rfl) ?_
            clear hE a; intro a hE
            refine q0 p9_12_4 hE (st_loadR1 (off := i * 5) (j := 0) tA3 (fun j u h => cell_to K_0 (hce j u h)) rfl (by omega) rfl) ?_
            clear hE a; intro a hE
            refine q0 p9_12_5 hE (st_conv (z := (xk % 18446744073709551616)) (by kernel_rfl) Try.underlying44 rfl (IntKind.wrap_u64 _)) ?_
            clear hE a; intro a hE
            refine q0 p9_12_6 hE (st_rem (z := xk % 18446744073709551616 % 5) rfl rfl (by omega) (Int.tmod_eq_emod_of_nonneg (by omega))) ?_
            clear hE a; intro a hE
            refine q0 p9_12_7 hE (st_eql (b := false) rfl rfl (decide_eq_false hK4)) ?_
            clear hE a; intro a hE
            refine p_nil ?_
            refine x_norm ?_
            refine c_cond (t := false) hE rfl ?_
            refine wp_skip ?_
            refine x_normB ?_
            refine x_norm ?_
            refine c_regL R9_9_l ?_
            refine q0 p9_9_0 hE (st_move rfl) ?_
            clear hE a; intro a hE
            refine q0 p9_9_1 hE (st_add (z := (i : Int) + 1) rfl rfl (wr_i64 _ (by omega) (by omega))) ?_
            clear hE a; intro a hE
            refine q0 p9_9_2 hE (st_assign rfl) ?_
            clear hE a; intro a hE
            refine p_nil ?_
            refine x_norm ?_
            exact ⟨i + 1, by omega, gX, gY, esm6, ckm6, fm6, Dm6, En.sub hE ⟨rfl, rfl, rfl, rfl, rfl, rfl, rfl, rfl, rfl, trivial⟩, MFm6, hrm6, by omega, B_g2, B_gX, z_0_gX, n_g2_gX, B_gY, z_0_gY, n_g2_gY, n_gX_gY, K_0⟩
        ·
          refine c_reg R9_8_l ?_
          refine q0 p9_8_0 hE (st_move rfl) ?_
          clear hE a; intro a hE
          refine q0 p9_8_1 hE (st_move rfl) ?_
          clear hE a; intro a hE
          refine q0 p9_8_2 hE (st_len Try.underlying55 rfl) ?_
          clear hE a; intro a hE
          refine q0 p9_8_3 hE (st_lss (b := true) rfl rfl (decide_eq_true hI1)) ?_
          clear hE a; intro a hE
          refine q0 p9_8_4 hE (st_move rfl) ?_
          clear hE a; intro a hE
          refine p_cons (s_still p9_8_5 hE (wn_some g9_8_4 rfl rfl) rfl (st_move rfl) ?_)
          clear hE a; intro a hE
          refine p_cons (s_still p9_8_6 hE (wn_some g9_8_4 rfl rfl) rfl (st_lss (b := false) rfl rfl (decide_eq_false hI2)) ?_)
          clear hE a; intro a hE
          refine q0 p9_8_7 hE (st_pick rfl rfl) ?_
          clear hE a; intro a hE
          refine p_nil ?_
          refine x_norm ?_
          refine c_cond (t := false) hE rfl ?_
          refine wp_exit ?_
          refine x_exit ?_
          refine x_exit ?_
          refine x_in ?_
          refine x_norm ?_
          have hE2 : En 226 a [(0, Value.int .i64 (nn : Int)), (2, Value.int .i64 a2), (7, Value.pointer (some ⟨gX, 0, none⟩)), (9, Value.pointer (some ⟨g2, 0, none⟩))] := En.sub hE ⟨rfl, rfl, rfl, rfl, trivial⟩
          exact play18 nn hn0 hnn a2 w w5 gX gY g2 ck9 es9 f9 D9 B_gX B_gY B_g2 MF9 hrel n_gX_gY n_g2_gX n_g2_gY K_0 (fun W' hk => ⟨rfl, hk.to (Nat.le_refl _) (fun _ h => h.elim)⟩) _ hE2
      ·
        refine c_reg R9_8_l ?_
        refine q0 p9_8_0 hE (st_move rfl) ?_
        clear hE a; intro a hE
        refine q0 p9_8_1 hE (st_move rfl) ?_
        clear hE a; intro a hE
        refine q0 p9_8_2 hE (st_len Try.underlying55 rfl) ?_
        clear hE a; intro a hE
        refine q0 p9_8_3 hE (st_lss (b := false) rfl rfl (decide_eq_false hI1)) ?_
        clear hE a; intro a hE
        refine q0 p9_8_4 hE (st_move rfl) ?_
        clear hE a; intro a hE
        refine p_cons (s_skip p9_8_5 hE (wn_some g9_8_4 rfl rfl) rfl ?_)
        clear hE a; intro a hE
        refine p_cons (s_skip p9_8_6 hE (wn_some g9_8_4 rfl rfl) rfl ?_)
        clear hE a; intro a hE
        refine q0 p9_8_7 hE (st_pick rfl rfl) ?_
        clear hE a; intro a hE
        refine p_nil ?_
        refine x_norm ?_
        refine c_cond (t := false) hE rfl ?_
        refine wp_exit ?_
        refine x_exit ?_
        refine x_exit ?_
        refine x_in ?_
        refine x_norm ?_
        have hE2 : En 226 a [(0, Value.int .i64 (nn : Int)), (2, Value.int .i64 a2), (7, Value.pointer (some ⟨gX, 0, none⟩)), (9, Value.pointer (some ⟨g2, 0, none⟩))] := En.sub hE ⟨rfl, rfl, rfl, rfl, trivial⟩
        exact play18 nn hn0 hnn a2 w w5 gX gY g2 ck9 es9 f9 D9 B_gX B_gY B_g2 MF9 hrel n_gX_gY n_g2_gX n_g2_gY K_0 (fun W' hk => ⟨rfl, hk.to (Nat.le_refl _) (fun _ h => h.elim)⟩) _ hE2
  ·
    refine c_reg R9_1_l ?_
    refine q0 p9_1_0 hE (st_move rfl) ?_
    clear hE a; intro a hE
    refine p_cons (s_call (xs := [Operand.tmp 23]) (args := [Value.int .i64 a0]) p9_1_1 hE wn_none rfl rfl Try.func28 cl28 (new_no a0 hOKN _) ?_)
    rintro e w11 ⟨rfl, hk⟩
    replace K_0 := K_0.then_ hk (fun _ h => h.elim)
    refine ⟨_, rfl, ?_⟩
    clear hE a; intro a hE
    refine q0 p9_1_2 hE (st_move rfl) ?_
    clear hE a; intro a hE
    refine q0 p9_1_3 hE (st_extract rfl rfl) ?_
    clear hE a; intro a hE
    refine q0 p9_1_4 hE (st_extract rfl rfl) ?_
    clear hE a; intro a hE
    refine q0 p9_1_5 hE (st_assign rfl) ?_
    clear hE a; intro a hE
    refine q0 p9_1_6 hE (st_assign rfl) ?_
    clear hE a; intro a hE
    refine p_nil ?_
    refine x_norm ?_
    refine wp_seq ?_
    rcases Decidable.em (a0 < 1) with hM1 | hM1
    ·
      refine c_reg R9_2_l ?_
      refine q0 p9_2_0 hE (st_move rfl) ?_
      clear hE a; intro a hE
      refine q0 p9_2_1 hE (st_lss (b := true) rfl rfl (decide_eq_true hM1)) ?_
      clear hE a; intro a hE
      refine q0 p9_2_2 hE (st_move rfl) ?_
      clear hE a; intro a hE
      refine p_cons (s_skip p9_2_3 hE (wn_some g9_2_2 rfl rfl) rfl ?_)
      clear hE a; intro a hE
      refine p_cons (s_skip p9_2_4 hE (wn_some g9_2_2 rfl rfl) rfl ?_)
      clear hE a; intro a hE
      refine q0 p9_2_5 hE (st_pick rfl rfl) ?_
      clear hE a; intro a hE
      refine p_nil ?_
      refine x_norm ?_
      refine c_cond (t := true) hE rfl ?_
      refine c_reg R9_3_l ?_
      refine p_cons (s_call (xs := []) (args := []) p9_3_0 hE wn_none rfl rfl Try.func33 cl33 (Lq.kn26  _) ?_)
      rintro e w12 ⟨rfl, hk⟩
      replace K_0 := K_0.then_ hk (fun _ h => h.elim)
      refine ⟨_, rfl, ?_⟩
      clear hE a; intro a hE
      refine q0 p9_3_1 hE (st_move rfl) ?_
      clear hE a; intro a hE
      refine p_cons (s_still p9_3_2 hE (wn_some g9_3_1 rfl rfl) rfl (st_move rfl) ?_)
      clear hE a; intro a hE
      refine p_cons (s_still p9_3_3 hE (wn_some g9_3_1 rfl rfl) rfl (st_eql (b := true) rfl rfl (by decide)) ?_)
      clear hE a; intro a hE
      refine q0 p9_3_4 hE (st_pick rfl rfl) ?_
      clear hE a; intro a hE
      refine q0 p9_3_5 hE (st_move rfl) ?_
      clear hE a; intro a hE
      refine p_cons (s_still p9_3_6 hE (wn_some g9_3_5 rfl rfl) rfl (st_move rfl) ?_)
      clear hE a; intro a hE
      refine p_cons (s_still p9_3_7 hE (wn_some g9_3_5 rfl rfl) rfl (st_eqlP (b := true) tP56 rfl rfl rfl) ?_)
      clear hE a; intro a hE
      refine q0 p9_3_8 hE (st_pick rfl rfl) ?_
      clear hE a; intro a hE
      refine q0 p9_3_9 hE (st_assign rfl) ?_
      clear hE a; intro a hE
      refine p_nil ?_
      refine x_norm ?_
      refine wp_ret ?_
      refine x_ret ?_
      refine ret_one (v := Value.bool true) rfl hE (.tmp rfl .nil) ?_
      exact ⟨rfl, K_0.to (Nat.le_refl _) (fun _ h => h.elim)⟩
    ·
      refine c_reg R9_2_l ?_
      refine q0 p9_2_0 hE (st_move rfl) ?_
      clear hE a; intro a hE
      refine q0 p9_2_1 hE (st_lss (b := false) rfl rfl (decide_eq_false hM1)) ?_
      clear hE a; intro a hE
      refine q0 p9_2_2 hE (st_move rfl) ?_
      clear hE a; intro a hE
      refine p_cons (s_still p9_2_3 hE (wn_some g9_2_2 rfl rfl) rfl (st_move rfl) ?_)
      clear hE a; intro a hE
      refine p_cons (s_still p9_2_4 hE (wn_some g9_2_2 rfl rfl) rfl (st_gtr (b := true) rfl rfl (decide_eq_true (by omega))) ?_)
      clear hE a; intro a hE
      refine q0 p9_2_5 hE (st_pick rfl rfl) ?_
      clear hE a; intro a hE
      refine p_nil ?_
      refine x_norm ?_
      refine c_cond (t := true) hE rfl ?_
      refine c_reg R9_3_l ?_
      refine p_cons (s_call (xs := []) (args := []) p9_3_0 hE wn_none rfl rfl Try.func33 cl33 (Lq.kn26  _) ?_)
      rintro e w13 ⟨rfl, hk⟩
      replace K_0 := K_0.then_ hk (fun _ h => h.elim)
      refine ⟨_, rfl, ?_⟩
      clear hE a; intro a hE
      refine q0 p9_3_1 hE (st_move rfl) ?_
      clear hE a; intro a hE
      refine p_cons (s_still p9_3_2 hE (wn_some g9_3_1 rfl rfl) rfl (st_move rfl) ?_)
      clear hE a; intro a hE
      refine p_cons (s_still p9_3_3 hE (wn_some g9_3_1 rfl rfl) rfl (st_eql (b := true) rfl rfl (by decide)) ?_)
      clear hE a; intro a hE
      refine q0 p9_3_4 hE (st_pick rfl rfl) ?_
      clear hE a; intro a hE
      refine q0 p9_3_5 hE (st_move rfl) ?_
      clear hE a; intro a hE
      refine p_cons (s_still p9_3_6 hE (wn_some g9_3_5 rfl rfl) rfl (st_move rfl) ?_)
      clear hE a; intro a hE
      refine p_cons (s_still p9_3_7 hE (wn_some g9_3_5 rfl rfl) rfl (st_eqlP (b := true) tP56 rfl rfl rfl) ?_)
      clear hE a; intro a hE
      refine q0 p9_3_8 hE (st_pick rfl rfl) ?_
      clear hE a; intro a hE
      refine q0 p9_3_9 hE (st_assign rfl) ?_
      clear hE a; intro a hE
      refine p_nil ?_
      refine x_norm ?_
      refine wp_ret ?_
      refine x_ret ?_
      refine ret_one (v := Value.bool true) rfl hE (.tmp rfl .nil) ?_
      exact ⟨rfl, K_0.to (Nat.le_refl _) (fun _ h => h.elim)⟩
end Go.Proofs.Ytpnpfapdjdcnbaa.Lp
