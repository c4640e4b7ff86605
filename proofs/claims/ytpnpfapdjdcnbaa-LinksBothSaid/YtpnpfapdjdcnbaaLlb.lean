/- The law LinksBoth, walked. -/
import Derived.Test.YtpnpfapdjdcnbaaLkk
import Derived.Test.YtpnpfapdjdcnbaaKdOpen
set_option maxRecDepth 100000
set_option linter.unusedVariables false
set_option linter.unusedSimpArgs false
namespace Go.Proofs.Ytpnpfapdjdcnbaa.Lb
open Go.RowKit Go.Proofs.YtpnpfapdjdcnbaaW.PrintWords Go.Proofs.Ytpnpfapdjdcnbaa.Ds Go.Proofs.Ytpnpfapdjdcnbaa.Lk Go.Proofs.Ytpnpfapdjdcnbaa.Ln Go.Proofs.Ytpnpfapdjdcnbaa.Lh Go.Proofs.Ytpnpfapdjdcnbaa.Lq Go.Proofs.Ytpnpfapdjdcnbaa.KdOpen
open Go.Proofs.Ytpnpfapdjdcnbaa.Pk (Kp)
open Go.Proofs.Ytpnpfapdjdcnbaa.Mp (st_eqlP st_neqP x_normS x_retS x_exitS)
abbrev dA : Kd (Int × Int × Int × Int × Nat) := (Kd.pair (Kd.int .i64) (Kd.pair (Kd.int .i64) (Kd.pair (Kd.int .i64) (Kd.pair (Kd.int .i64) Kf))))
abbrev zA : Int × Int × Int × Int × Nat := (0, 0, 0, 0, 0)
theorem act_open {w : World} {k x y c : Int} {v : Nat} {l : List Value} (h : Kd.K dA w (k, x, y, c, v) l) : ∃ u, l = [.int .i64 k, .int .i64 x, .int .i64 y, .int .i64 c, u] := by
  obtain ⟨c0, d0, rfl, h0, c1, d1, rfl, h1, c2, d2, rfl, h2, c3, d3, rfl, h3, h4⟩ := h
  subst h0; subst h1; subst h2; subst h3
  exact ⟨.float .f64 v, by rw [show d3 = [Value.float .f64 v] from h4]; rfl⟩
theorem cost_sym (n : Int) (f : Int → Int → Option Int) (x y : Int) : costP n f x y = costP n f y x := by
  unfold costP
  rw [Bool.and_comm, Int.min_comm, Int.max_comm]
theorem wn_undef {R : Array Oper} {m : List (Nat × Value)} {j : Nat} {want : Bool} {t : Nat} (hj : dstOf R j = some t) (hl : Go.Proofs.Ytpnpfapdjdcnbaa.Ds.look m t = some undef) : Wn R m (some (j, want)) false := fun n a hE o ho => by
  unfold Region.wanted
  rw [ho]
  simp only
  have h1 : yielded R a.tmps j = none := by
    unfold yielded
    unfold dstOf at hj
    rw [hj]
    simp [hE.get t _ hl, undef]
  rw [h1]
  rfl
theorem news1 {w : World} {b : Nat} {v : Value} {T : TypeId} {fr : Nat × Nat} (h : w.heap[b]? = some (.cells #[v] T fr)) : ∀ j u, [v][j]? = some u → w.cell? ((⟨b, 0, none⟩ : Addr).add j) = some u := by
  intro j u hj
  have hj0 : j = 0 := by
    rcases j with _ | j
    · rfl
    · simp at hj
  subst hj0
  rw [add_mk, cell_of_row w b _ _ T fr h]
  exact hj
def encR (nn : Nat) (r : Option Addr × Nat × List Int) : Value := Value.slice r.1 nn r.2.1
structure RowOk (nn : Nat) (f : Int → Int → Option Int) (w : World) (A : Option Addr) (i : Nat) (r : Option Addr × Nat × List Int) : Prop where
  read : Kd.C (Kd.int .i64) w r.1 nn r.2.2
  far : ∀ x, r.1 = some x → ¬ OB A x.block ∧ x.block < w.heap.size
  fine : Bf.Fine (Ed nn f) nn i r.2.2
  bnd : ∀ c, c < nn → Bf.at_ r.2.2 c + 1 ≤ nn
theorem rows_snoc {nn : Nat} {f : Int → Int → Option Int} {w w' : World} {A : Option Addr} {rs : List (Option Addr × Nat × List Int)} {p : Nat} {x : Option Addr × Nat × List Int} (hl : rs.length = p) (hk : Kp w w' (fun _ => False)) (h : ∀ i r, rs[i]? = some r → RowOk nn f w A i r) (hn : RowOk nn f w' A p x) : ∀ i r, (rs ++ [x])[i]? = some r → RowOk nn f w' A i r := by
  intro i r hi
  rcases Nat.lt_or_ge i rs.length with q | q
  · rw [List.getElem?_append_left q] at hi
    have ho := h i r hi
    exact ⟨C_to ho.read hk, fun x hx => ⟨(ho.far x hx).1, Nat.lt_of_lt_of_le (ho.far x hx).2 hk.kept.1⟩, ho.fine, ho.bnd⟩
  · rw [List.getElem?_append_right q] at hi
    have hi0 : i - rs.length = 0 := by have := (List.getElem?_eq_some_iff.1 hi).1; simp at this; omega
    rw [hi0] at hi
    have e : x = r := by simpa using hi
    subst e
    rw [show i = p by omega]
    exact hn
theorem rows_keep {nn : Nat} {f : Int → Int → Option Int} {w w' : World} {A A' : Option Addr} {rs : List (Option Addr × Nat × List Int)} (hk : Kp w w' (fun k => OB A k)) (hz : ∀ k, OB A' k → OB A k ∨ w.heap.size ≤ k) (h : ∀ i r, rs[i]? = some r → RowOk nn f w A i r) : ∀ i r, rs[i]? = some r → RowOk nn f w' A' i r := by
  intro i r hi
  have ho := h i r hi
  exact ⟨C_keep ho.read hk (fun x hx => (ho.far x hx).1), fun x hx => ⟨fun hob => (hz _ hob).elim (ho.far x hx).1 (fun q => by have := (ho.far x hx).2; omega), Nat.lt_of_lt_of_le (ho.far x hx).2 hk.kept.1⟩, ho.fine, ho.bnd⟩
theorem own_one {w : World} {base e n c j : Nat} {A : Option Addr} {xs : List Value} {v : Value} (h : w.ownsRow base e 1 (.slice A n c) n xs) (hj : xs[j]? = some v) : A = some (A.getD default) ∧ ∀ j' u, [v][j']? = some u → w.cell? (ea A (j * 1 + j')) = some u := by
  have h' : w.ownsRow base e 1 (.slice A n c) n (xs.map id) := by rw [List.map_id]; exact h
  have hr := own_reads_of' (enc := id) (d := v) (xs := xs) h'
  have hlt := (List.getElem?_eq_some_iff.1 hj).1
  have hn : xs.length = n := by simpa using hr.1
  obtain ⟨ad, rfl, hc⟩ := hr.2.2 (by omega)
  refine ⟨rfl, fun j' u hu => ?_⟩
  have h0 : j' = 0 := by
    rcases j' with _ | j'
    · rfl
    · simp at hu
  subst h0
  have hv : v = u := by simpa using hu
  subst hv
  have := hc j (by omega)
  rw [List.getD_eq_getElem?_getD, hj] at this
  rw [Nat.mul_one, Nat.add_zero]
  exact this
theorem ed_lt {nn : Nat} {f : Int → Int → Option Int} {x y : Nat} (h : Ed nn f x y) : x < nn ∧ y < nn := by
  refine ⟨?_, h.1⟩
  rcases Nat.lt_or_ge x nn with q | q
  · exact q
  · have h2 := h.2
    have hn : nodeB (nn : Int) (x : Int) = false := decide_eq_false (by omega)
    unfold costP at h2
    rw [hn, Bool.false_and] at h2
    exact absurd (show (1 : Int) = 0 from h2) (by decide)
theorem ed_sym {nn : Nat} {f : Int → Int → Option Int} {x y : Nat} (h : Ed nn f x y) : Ed nn f y x := ⟨(ed_lt h).1, by rw [cost_sym]; exact h.2⟩
theorem R8_0_l : List.range (regOf Try.f8 0).size = [0] := by kernel_rfl
theorem R8_1_l : List.range (regOf Try.f8 1).size = [0, 1, 2, 3, 4, 5] := by kernel_rfl
theorem R8_2_l : List.range (regOf Try.f8 2).size = [0, 1, 2, 3, 4, 5, 6] := by kernel_rfl
theorem R8_3_l : List.range (regOf Try.f8 3).size = [0, 1, 2, 3, 4, 5] := by kernel_rfl
theorem R8_4_l : List.range (regOf Try.f8 4).size = [0] := by kernel_rfl
theorem R8_5_l : List.range (regOf Try.f8 5).size = [0] := by kernel_rfl
theorem R8_6_l : List.range (regOf Try.f8 6).size = [0, 1, 2, 3, 4, 5, 6, 7] := by kernel_rfl
theorem R8_8_l : List.range (regOf Try.f8 8).size = [0, 1, 2, 3, 4, 5, 6, 7, 8, 9, 10, 11, 12, 13, 14, 15, 16] := by kernel_rfl
theorem R8_7_l : List.range (regOf Try.f8 7).size = [0, 1, 2] := by kernel_rfl
theorem R8_9_l : List.range (regOf Try.f8 9).size = [0] := by kernel_rfl
theorem R8_10_l : List.range (regOf Try.f8 10).size = [0] := by kernel_rfl
theorem R8_11_l : List.range (regOf Try.f8 11).size = [0, 1, 2] := by kernel_rfl
theorem R8_13_l : List.range (regOf Try.f8 13).size = [0, 1, 2, 3, 4, 5, 6] := by kernel_rfl
theorem R8_14_l : List.range (regOf Try.f8 14).size = [0, 1, 2, 3, 4, 5, 6] := by kernel_rfl
theorem R8_15_l : List.range (regOf Try.f8 15).size = [0] := by kernel_rfl
theorem R8_12_l : List.range (regOf Try.f8 12).size = [0, 1, 2] := by kernel_rfl
theorem R8_16_l : List.range (regOf Try.f8 16).size = [0] := by kernel_rfl
theorem R8_17_l : List.range (regOf Try.f8 17).size = [0, 1, 2] := by kernel_rfl
theorem R8_19_l : List.range (regOf Try.f8 19).size = [0] := by kernel_rfl
theorem R8_20_l : List.range (regOf Try.f8 20).size = [0, 1, 2] := by kernel_rfl
theorem R8_22_l : List.range (regOf Try.f8 22).size = [0, 1, 2, 3, 4, 5, 6, 7, 8, 9, 10, 11, 12, 13, 14] := by kernel_rfl
theorem R8_23_l : List.range (regOf Try.f8 23).size = [0] := by kernel_rfl
theorem R8_24_l : List.range (regOf Try.f8 24).size = [0] := by kernel_rfl
theorem R8_25_l : List.range (regOf Try.f8 25).size = [0, 1, 2] := by kernel_rfl
theorem R8_27_l : List.range (regOf Try.f8 27).size = [0, 1, 2, 3, 4, 5, 6, 7, 8, 9, 10, 11, 12, 13, 14, 15, 16, 17, 18, 19, 20, 21, 22, 23, 24, 25, 26, 27, 28, 29, 30, 31, 32, 33, 34, 35, 36, 37, 38, 39, 40, 41, 42, 43, 44, 45, 46, 47, 48, 49, 50, 51, 52] := by kernel_rfl
theorem R8_28_l : List.range (regOf Try.f8 28).size = [0] := by kernel_rfl
theorem R8_26_l : List.range (regOf Try.f8 26).size = [0, 1, 2] := by kernel_rfl
theorem R8_21_l : List.range (regOf Try.f8 21).size = [0, 1, 2] := by kernel_rfl
theorem R8_18_l : List.range (regOf Try.f8 18).size = [0, 1, 2] := by kernel_rfl
theorem R8_29_l : List.range (regOf Try.f8 29).size = [0, 1] := by kernel_rfl
theorem body8 : Try.f8.body = some (.seq (.region 0 (regOf Try.f8 0) false) (.seq (.region 1 (regOf Try.f8 1) false) (.seq (.region 2 (regOf Try.f8 2) false) (.seq (.seq (.region 3 (regOf Try.f8 3) false) (.cond (Operand.tmp 28) (.seq (.region 4 (regOf Try.f8 4) false) (.ret)) (.skip))) (.seq (.seq (.region 5 (regOf Try.f8 5) false) (.block 0 (.loop (.seq (.seq (.region 6 (regOf Try.f8 6) false) (.cond (Operand.tmp 36) (.skip) (.exit 0))) (.seq (.block 1 (.region 8 (regOf Try.f8 8) true)) (.region 7 (regOf Try.f8 7) false)))))) (.seq (.region 9 (regOf Try.f8 9) false) (.seq (.seq (.region 10 (regOf Try.f8 10) false) (.block 2 (.loop (.seq (.seq (.region 11 (regOf Try.f8 11) false) (.cond (Operand.tmp 58) (.skip) (.exit 2))) (.seq (.block 3 (.seq (.region 13 (regOf Try.f8 13) false) (.seq (.region 14 (regOf Try.f8 14) false) (.cond (Operand.tmp 73) (.seq (.region 15 (regOf Try.f8 15) false) (.ret)) (.skip))))) (.region 12 (regOf Try.f8 12) false)))))) (.seq (.seq (.region 16 (regOf Try.f8 16) false) (.block 4 (.loop (.seq (.seq (.region 17 (regOf Try.f8 17) false) (.cond (Operand.tmp 76) (.skip) (.exit 4))) (.seq (.block 5 (.seq (.region 19 (regOf Try.f8 19) false) (.block 6 (.loop (.seq (.seq (.region 20 (regOf Try.f8 20) false) (.cond (Operand.tmp 81) (.skip) (.exit 6))) (.seq (.block 7 (.seq (.seq (.region 22 (regOf Try.f8 22) true) (.cond (Operand.tmp 98) (.seq (.region 23 (regOf Try.f8 23) false) (.ret)) (.skip))) (.seq (.region 24 (regOf Try.f8 24) false) (.block 8 (.loop (.seq (.seq (.region 25 (regOf Try.f8 25) false) (.cond (Operand.tmp 101) (.skip) (.exit 8))) (.seq (.block 9 (.seq (.region 27 (regOf Try.f8 27) true) (.cond (Operand.tmp 156) (.seq (.region 28 (regOf Try.f8 28) false) (.ret)) (.skip)))) (.region 26 (regOf Try.f8 26) false)))))))) (.region 21 (regOf Try.f8 21) false))))))) (.region 18 (regOf Try.f8 18) false)))))) (.seq (.region 29 (regOf Try.f8 29) false) (.ret)))))))))) := by kernel_rfl
theorem p8_0_0 : pj (regOf Try.f8 0) 0 = some (some 4, .assign (.const (.bool false)), 4, none) := by kernel_rfl
theorem p8_1_0 : pj (regOf Try.f8 1) 0 = some (some 13, .move (.tmp 0), 3, none) := by kernel_rfl
theorem p8_1_1 : pj (regOf Try.f8 1) 1 = some (some 14, .convert 3 44 (.tmp 13), 44, none) := by kernel_rfl
theorem p8_1_2 : pj (regOf Try.f8 1) 2 = some (some 15, .binOp .rem 44 (.tmp 14) (.const (.int .u64 12)) 44, 44, none) := by kernel_rfl
theorem p8_1_3 : pj (regOf Try.f8 1) 3 = some (some 16, .convert 44 3 (.tmp 15), 3, none) := by kernel_rfl
theorem p8_1_4 : pj (regOf Try.f8 1) 4 = some (some 17, .binOp .add 3 (.const (.int .i64 1)) (.tmp 16) 3, 3, none) := by kernel_rfl
theorem p8_1_5 : pj (regOf Try.f8 1) 5 = some (some 0, .assign (.tmp 17), 3, none) := by kernel_rfl
theorem p8_2_0 : pj (regOf Try.f8 2) 0 = some (some 19, .move (.tmp 0), 3, none) := by kernel_rfl
theorem p8_2_1 : pj (regOf Try.f8 2) 1 = some (some 20, .call { callee := .value (.func 28), args := #[.tmp 19], argTypes := #[3] }, 57, none) := by kernel_rfl
theorem cl28 : callable Try.f28 = true := by kernel_rfl
theorem p8_2_2 : pj (regOf Try.f8 2) 2 = some (some 18, .move (.tmp 20), 57, none) := by kernel_rfl
theorem p8_2_3 : pj (regOf Try.f8 2) 3 = some (some 21, .extract (.tmp 18) 0, 56, none) := by kernel_rfl
theorem p8_2_4 : pj (regOf Try.f8 2) 4 = some (some 22, .extract (.tmp 18) 1, 23, none) := by kernel_rfl
theorem p8_2_5 : pj (regOf Try.f8 2) 5 = some (some 5, .assign (.tmp 21), 56, none) := by kernel_rfl
theorem p8_2_6 : pj (regOf Try.f8 2) 6 = some (some 6, .assign (.tmp 22), 23, none) := by kernel_rfl
theorem p8_3_0 : pj (regOf Try.f8 3) 0 = some (some 23, .move (.tmp 6), 23, none) := by kernel_rfl
theorem p8_3_1 : pj (regOf Try.f8 3) 1 = some (some 24, .binOp .neq 23 (.tmp 23) (.const (.int .i64 0)) 23, 4, none) := by kernel_rfl
theorem p8_3_2 : pj (regOf Try.f8 3) 2 = some (some 25, .move (.tmp 24), 4, none) := by kernel_rfl
theorem p8_3_3 : pj (regOf Try.f8 3) 3 = some (some 26, .move (.tmp 5), 56, some (2, false)) := by kernel_rfl
theorem g8_3_2 : dstOf (regOf Try.f8 3) 2 = some 25 := by kernel_rfl
theorem p8_3_4 : pj (regOf Try.f8 3) 4 = some (some 27, .binOp .eql 56 (.tmp 26) (.const (.pointer none)) 56, 4, some (2, false)) := by kernel_rfl
theorem tP56 : Try.prog.underlying 56 = some (.pointer (Try.prog.pointee 56)) := by kernel_rfl
theorem p8_3_5 : pj (regOf Try.f8 3) 5 = some (some 28, .pick (.tmp 25) (.const (.bool true)) (.tmp 27), 4, none) := by kernel_rfl
theorem p8_5_0 : pj (regOf Try.f8 5) 0 = some (some 7, .assign (.const (.int .i64 0)), 3, none) := by kernel_rfl
theorem p8_6_0 : pj (regOf Try.f8 6) 0 = some (some 29, .move (.tmp 7), 3, none) := by kernel_rfl
theorem p8_6_1 : pj (regOf Try.f8 6) 1 = some (some 30, .move (.tmp 1), 55, none) := by kernel_rfl
theorem p8_6_2 : pj (regOf Try.f8 6) 2 = some (some 31, .call { callee := .builtin .len, args := #[.tmp 30], argTypes := #[55] }, 3, none) := by kernel_rfl
theorem p8_6_3 : pj (regOf Try.f8 6) 3 = some (some 32, .binOp .lss 3 (.tmp 29) (.tmp 31) 3, 4, none) := by kernel_rfl
theorem p8_6_4 : pj (regOf Try.f8 6) 4 = some (some 33, .move (.tmp 32), 4, none) := by kernel_rfl
theorem p8_6_5 : pj (regOf Try.f8 6) 5 = some (some 34, .move (.tmp 7), 3, some (4, true)) := by kernel_rfl
theorem g8_6_4 : dstOf (regOf Try.f8 6) 4 = some 33 := by kernel_rfl
theorem p8_6_6 : pj (regOf Try.f8 6) 6 = some (some 35, .binOp .lss 3 (.tmp 34) (.const (.int .i64 40)) 3, 4, some (4, true)) := by kernel_rfl
theorem p8_6_7 : pj (regOf Try.f8 6) 7 = some (some 36, .pick (.tmp 33) (.tmp 35) (.const (.bool false)), 4, none) := by kernel_rfl
theorem ns8_8 : Region.noSelect (regOf Try.f8 8) = true := by kernel_rfl
theorem p8_8_0 : pj (regOf Try.f8 8) 0 = some (some 39, .move (.tmp 5), 56, none) := by kernel_rfl
theorem p8_8_1 : pj (regOf Try.f8 8) 1 = some (some 40, .move (.tmp 1), 55, none) := by kernel_rfl
theorem p8_8_2 : pj (regOf Try.f8 8) 2 = some (some 41, .move (.tmp 7), 3, none) := by kernel_rfl
theorem p8_8_3 : pj (regOf Try.f8 8) 3 = some (some 42, .indexAddr 55 (.tmp 40) (.tmp 41), 0, none) := by kernel_rfl
theorem tS61 : (Try.prog.info? 61).map (·.size) = some 5 := by kernel_rfl
theorem p8_8_4 : pj (regOf Try.f8 8) 4 = some (some 43, .fieldAddr 61 (.tmp 42) 1, 0, none) := by kernel_rfl
theorem tS3 : (Try.prog.info? 3).map (·.size) = some 1 := by kernel_rfl
theorem p8_8_5 : pj (regOf Try.f8 8) 5 = some (some 44, .load 3 (.tmp 43), 3, none) := by kernel_rfl
theorem tA3 : (Try.prog.underlying 3).map aggD = some false := by kernel_rfl
theorem p8_8_6 : pj (regOf Try.f8 8) 6 = some (some 45, .move (.tmp 1), 55, none) := by kernel_rfl
theorem p8_8_7 : pj (regOf Try.f8 8) 7 = some (some 46, .move (.tmp 7), 3, none) := by kernel_rfl
theorem p8_8_8 : pj (regOf Try.f8 8) 8 = some (some 47, .indexAddr 55 (.tmp 45) (.tmp 46), 0, none) := by kernel_rfl
theorem p8_8_9 : pj (regOf Try.f8 8) 9 = some (some 48, .fieldAddr 61 (.tmp 47) 2, 0, none) := by kernel_rfl
theorem p8_8_10 : pj (regOf Try.f8 8) 10 = some (some 49, .load 3 (.tmp 48), 3, none) := by kernel_rfl
theorem p8_8_11 : pj (regOf Try.f8 8) 11 = some (some 50, .move (.tmp 1), 55, none) := by kernel_rfl
theorem p8_8_12 : pj (regOf Try.f8 8) 12 = some (some 51, .move (.tmp 7), 3, none) := by kernel_rfl
theorem p8_8_13 : pj (regOf Try.f8 8) 13 = some (some 52, .indexAddr 55 (.tmp 50) (.tmp 51), 0, none) := by kernel_rfl
theorem p8_8_14 : pj (regOf Try.f8 8) 14 = some (some 53, .fieldAddr 61 (.tmp 52) 3, 0, none) := by kernel_rfl
theorem p8_8_15 : pj (regOf Try.f8 8) 15 = some (some 54, .load 3 (.tmp 53), 3, none) := by kernel_rfl
theorem p8_8_16 : pj (regOf Try.f8 8) 16 = some (some 55, .call { callee := .value (.func 29), args := #[.tmp 39, .tmp 44, .tmp 49, .tmp 54], argTypes := #[56, 3, 3, 3] }, 23, none) := by kernel_rfl
theorem cl29 : callable Try.f29 = true := by kernel_rfl
theorem p8_7_0 : pj (regOf Try.f8 7) 0 = some (some 37, .move (.tmp 7), 3, none) := by kernel_rfl
theorem p8_7_1 : pj (regOf Try.f8 7) 1 = some (some 38, .binOp .add 3 (.tmp 37) (.const (.int .i64 1)) 3, 3, none) := by kernel_rfl
theorem p8_7_2 : pj (regOf Try.f8 7) 2 = some (some 7, .assign (.tmp 38), 3, none) := by kernel_rfl
theorem p8_9_0 : pj (regOf Try.f8 9) 0 = some (some 8, .assign (.const (.slice none 0 0)), 65, none) := by kernel_rfl
theorem p8_10_0 : pj (regOf Try.f8 10) 0 = some (some 9, .assign (.const (.int .i64 0)), 3, none) := by kernel_rfl
theorem p8_11_0 : pj (regOf Try.f8 11) 0 = some (some 56, .move (.tmp 9), 3, none) := by kernel_rfl
theorem p8_11_1 : pj (regOf Try.f8 11) 1 = some (some 57, .move (.tmp 0), 3, none) := by kernel_rfl
theorem p8_11_2 : pj (regOf Try.f8 11) 2 = some (some 58, .binOp .lss 3 (.tmp 56) (.tmp 57) 3, 4, none) := by kernel_rfl
theorem p8_13_0 : pj (regOf Try.f8 13) 0 = some (some 61, .move (.tmp 8), 65, none) := by kernel_rfl
theorem p8_13_1 : pj (regOf Try.f8 13) 1 = some (some 62, .move (.tmp 5), 56, none) := by kernel_rfl
theorem p8_13_2 : pj (regOf Try.f8 13) 2 = some (some 63, .move (.tmp 9), 3, none) := by kernel_rfl
theorem p8_13_3 : pj (regOf Try.f8 13) 3 = some (some 64, .call { callee := .value (.func 30), args := #[.tmp 62, .tmp 63], argTypes := #[56, 3] }, 52, none) := by kernel_rfl
theorem cl30 : callable Try.f30 = true := by kernel_rfl
theorem p8_13_4 : pj (regOf Try.f8 13) 4 = some (some 65, .buildSlice 65 1 #[(0, .tmp 64)], 65, none) := by kernel_rfl
theorem p8_13_5 : pj (regOf Try.f8 13) 5 = some (some 66, .call { callee := .builtin .append, args := #[.tmp 61, .tmp 65], argTypes := #[65, 65] }, 65, none) := by kernel_rfl
theorem eD52 : elemD Try.prog 52 = some (1, 1, 24) := by kernel_rfl
theorem p8_13_6 : pj (regOf Try.f8 13) 6 = some (some 8, .assign (.tmp 66), 65, none) := by kernel_rfl
theorem p8_14_0 : pj (regOf Try.f8 14) 0 = some (some 67, .move (.tmp 8), 65, none) := by kernel_rfl
theorem p8_14_1 : pj (regOf Try.f8 14) 1 = some (some 68, .move (.tmp 9), 3, none) := by kernel_rfl
theorem p8_14_2 : pj (regOf Try.f8 14) 2 = some (some 69, .indexAddr 65 (.tmp 67) (.tmp 68), 0, none) := by kernel_rfl
theorem tS52 : (Try.prog.info? 52).map (·.size) = some 1 := by kernel_rfl
theorem p8_14_3 : pj (regOf Try.f8 14) 3 = some (some 70, .load 52 (.tmp 69), 52, none) := by kernel_rfl
theorem tA52 : (Try.prog.underlying 52).map aggD = some false := by kernel_rfl
theorem p8_14_4 : pj (regOf Try.f8 14) 4 = some (some 71, .call { callee := .builtin .len, args := #[.tmp 70], argTypes := #[52] }, 3, none) := by kernel_rfl
theorem p8_14_5 : pj (regOf Try.f8 14) 5 = some (some 72, .move (.tmp 0), 3, none) := by kernel_rfl
theorem p8_14_6 : pj (regOf Try.f8 14) 6 = some (some 73, .binOp .neq 3 (.tmp 71) (.tmp 72) 3, 4, none) := by kernel_rfl
theorem p8_12_0 : pj (regOf Try.f8 12) 0 = some (some 59, .move (.tmp 9), 3, none) := by kernel_rfl
theorem p8_12_1 : pj (regOf Try.f8 12) 1 = some (some 60, .binOp .add 3 (.tmp 59) (.const (.int .i64 1)) 3, 3, none) := by kernel_rfl
theorem p8_12_2 : pj (regOf Try.f8 12) 2 = some (some 9, .assign (.tmp 60), 3, none) := by kernel_rfl
theorem p8_16_0 : pj (regOf Try.f8 16) 0 = some (some 10, .assign (.const (.int .i64 0)), 3, none) := by kernel_rfl
theorem p8_17_0 : pj (regOf Try.f8 17) 0 = some (some 74, .move (.tmp 10), 3, none) := by kernel_rfl
theorem p8_17_1 : pj (regOf Try.f8 17) 1 = some (some 75, .move (.tmp 0), 3, none) := by kernel_rfl
theorem p8_17_2 : pj (regOf Try.f8 17) 2 = some (some 76, .binOp .lss 3 (.tmp 74) (.tmp 75) 3, 4, none) := by kernel_rfl
theorem p8_19_0 : pj (regOf Try.f8 19) 0 = some (some 11, .assign (.const (.int .i64 0)), 3, none) := by kernel_rfl
theorem p8_20_0 : pj (regOf Try.f8 20) 0 = some (some 79, .move (.tmp 11), 3, none) := by kernel_rfl
theorem p8_20_1 : pj (regOf Try.f8 20) 1 = some (some 80, .move (.tmp 0), 3, none) := by kernel_rfl
theorem p8_20_2 : pj (regOf Try.f8 20) 2 = some (some 81, .binOp .lss 3 (.tmp 79) (.tmp 80) 3, 4, none) := by kernel_rfl
theorem ns8_22 : Region.noSelect (regOf Try.f8 22) = true := by kernel_rfl
theorem p8_22_0 : pj (regOf Try.f8 22) 0 = some (some 84, .move (.tmp 8), 65, none) := by kernel_rfl
theorem p8_22_1 : pj (regOf Try.f8 22) 1 = some (some 85, .move (.tmp 10), 3, none) := by kernel_rfl
theorem p8_22_2 : pj (regOf Try.f8 22) 2 = some (some 86, .indexAddr 65 (.tmp 84) (.tmp 85), 0, none) := by kernel_rfl
theorem p8_22_3 : pj (regOf Try.f8 22) 3 = some (some 87, .load 52 (.tmp 86), 52, none) := by kernel_rfl
theorem p8_22_4 : pj (regOf Try.f8 22) 4 = some (some 88, .move (.tmp 11), 3, none) := by kernel_rfl
theorem p8_22_5 : pj (regOf Try.f8 22) 5 = some (some 89, .indexAddr 52 (.tmp 87) (.tmp 88), 0, none) := by kernel_rfl
theorem p8_22_6 : pj (regOf Try.f8 22) 6 = some (some 90, .load 3 (.tmp 89), 3, none) := by kernel_rfl
theorem p8_22_7 : pj (regOf Try.f8 22) 7 = some (some 91, .move (.tmp 8), 65, none) := by kernel_rfl
theorem p8_22_8 : pj (regOf Try.f8 22) 8 = some (some 92, .move (.tmp 11), 3, none) := by kernel_rfl
theorem p8_22_9 : pj (regOf Try.f8 22) 9 = some (some 93, .indexAddr 65 (.tmp 91) (.tmp 92), 0, none) := by kernel_rfl
theorem p8_22_10 : pj (regOf Try.f8 22) 10 = some (some 94, .load 52 (.tmp 93), 52, none) := by kernel_rfl
theorem p8_22_11 : pj (regOf Try.f8 22) 11 = some (some 95, .move (.tmp 10), 3, none) := by kernel_rfl
theorem p8_22_12 : pj (regOf Try.f8 22) 12 = some (some 96, .indexAddr 52 (.tmp 94) (.tmp 95), 0, none) := by kernel_rfl
theorem p8_22_13 : pj (regOf Try.f8 22) 13 = some (some 97, .load 3 (.tmp 96), 3, none) := by kernel_rfl
theorem p8_22_14 : pj (regOf Try.f8 22) 14 = some (some 98, .binOp .neq 3 (.tmp 90) (.tmp 97) 3, 4, none) := by kernel_rfl
theorem p8_24_0 : pj (regOf Try.f8 24) 0 = some (some 12, .assign (.const (.int .i64 0)), 3, none) := by kernel_rfl
theorem p8_25_0 : pj (regOf Try.f8 25) 0 = some (some 99, .move (.tmp 12), 3, none) := by kernel_rfl
theorem p8_25_1 : pj (regOf Try.f8 25) 1 = some (some 100, .move (.tmp 0), 3, none) := by kernel_rfl
theorem p8_25_2 : pj (regOf Try.f8 25) 2 = some (some 101, .binOp .lss 3 (.tmp 99) (.tmp 100) 3, 4, none) := by kernel_rfl
theorem ns8_27 : Region.noSelect (regOf Try.f8 27) = true := by kernel_rfl
theorem p8_27_0 : pj (regOf Try.f8 27) 0 = some (some 104, .move (.tmp 8), 65, none) := by kernel_rfl
theorem p8_27_1 : pj (regOf Try.f8 27) 1 = some (some 105, .move (.tmp 10), 3, none) := by kernel_rfl
theorem p8_27_2 : pj (regOf Try.f8 27) 2 = some (some 106, .indexAddr 65 (.tmp 104) (.tmp 105), 0, none) := by kernel_rfl
theorem p8_27_3 : pj (regOf Try.f8 27) 3 = some (some 107, .load 52 (.tmp 106), 52, none) := by kernel_rfl
theorem p8_27_4 : pj (regOf Try.f8 27) 4 = some (some 108, .move (.tmp 11), 3, none) := by kernel_rfl
theorem p8_27_5 : pj (regOf Try.f8 27) 5 = some (some 109, .indexAddr 52 (.tmp 107) (.tmp 108), 0, none) := by kernel_rfl
theorem p8_27_6 : pj (regOf Try.f8 27) 6 = some (some 110, .load 3 (.tmp 109), 3, none) := by kernel_rfl
theorem p8_27_7 : pj (regOf Try.f8 27) 7 = some (some 111, .binOp .geq 3 (.tmp 110) (.const (.int .i64 0)) 3, 4, none) := by kernel_rfl
theorem p8_27_8 : pj (regOf Try.f8 27) 8 = some (some 112, .move (.tmp 111), 4, none) := by kernel_rfl
theorem g8_27_8 : dstOf (regOf Try.f8 27) 8 = some 112 := by kernel_rfl
theorem p8_27_9 : pj (regOf Try.f8 27) 9 = some (some 113, .move (.tmp 8), 65, some (8, true)) := by kernel_rfl
theorem p8_27_10 : pj (regOf Try.f8 27) 10 = some (some 114, .move (.tmp 11), 3, some (8, true)) := by kernel_rfl
theorem p8_27_11 : pj (regOf Try.f8 27) 11 = some (some 115, .indexAddr 65 (.tmp 113) (.tmp 114), 0, some (8, true)) := by kernel_rfl
theorem p8_27_12 : pj (regOf Try.f8 27) 12 = some (some 116, .load 52 (.tmp 115), 52, some (8, true)) := by kernel_rfl
theorem p8_27_13 : pj (regOf Try.f8 27) 13 = some (some 117, .move (.tmp 12), 3, some (8, true)) := by kernel_rfl
theorem p8_27_14 : pj (regOf Try.f8 27) 14 = some (some 118, .indexAddr 52 (.tmp 116) (.tmp 117), 0, some (8, true)) := by kernel_rfl
theorem p8_27_15 : pj (regOf Try.f8 27) 15 = some (some 119, .load 3 (.tmp 118), 3, some (8, true)) := by kernel_rfl
theorem p8_27_16 : pj (regOf Try.f8 27) 16 = some (some 120, .binOp .geq 3 (.tmp 119) (.const (.int .i64 0)) 3, 4, some (8, true)) := by kernel_rfl
theorem p8_27_17 : pj (regOf Try.f8 27) 17 = some (some 121, .pick (.tmp 112) (.tmp 120) (.const (.bool false)), 4, none) := by kernel_rfl
theorem p8_27_18 : pj (regOf Try.f8 27) 18 = some (some 122, .move (.tmp 121), 4, none) := by kernel_rfl
theorem g8_27_18 : dstOf (regOf Try.f8 27) 18 = some 122 := by kernel_rfl
theorem p8_27_19 : pj (regOf Try.f8 27) 19 = some (some 123, .move (.tmp 8), 65, some (18, true)) := by kernel_rfl
theorem p8_27_20 : pj (regOf Try.f8 27) 20 = some (some 124, .move (.tmp 10), 3, some (18, true)) := by kernel_rfl
theorem p8_27_21 : pj (regOf Try.f8 27) 21 = some (some 125, .indexAddr 65 (.tmp 123) (.tmp 124), 0, some (18, true)) := by kernel_rfl
theorem p8_27_22 : pj (regOf Try.f8 27) 22 = some (some 126, .load 52 (.tmp 125), 52, some (18, true)) := by kernel_rfl
theorem p8_27_23 : pj (regOf Try.f8 27) 23 = some (some 127, .move (.tmp 12), 3, some (18, true)) := by kernel_rfl
theorem p8_27_24 : pj (regOf Try.f8 27) 24 = some (some 128, .indexAddr 52 (.tmp 126) (.tmp 127), 0, some (18, true)) := by kernel_rfl
theorem p8_27_25 : pj (regOf Try.f8 27) 25 = some (some 129, .load 3 (.tmp 128), 3, some (18, true)) := by kernel_rfl
theorem p8_27_26 : pj (regOf Try.f8 27) 26 = some (some 130, .binOp .lss 3 (.tmp 129) (.const (.int .i64 0)) 3, 4, some (18, true)) := by kernel_rfl
theorem p8_27_27 : pj (regOf Try.f8 27) 27 = some (some 131, .move (.tmp 130), 4, some (18, true)) := by kernel_rfl
theorem g8_27_27 : dstOf (regOf Try.f8 27) 27 = some 131 := by kernel_rfl
theorem p8_27_28 : pj (regOf Try.f8 27) 28 = some (some 132, .move (.tmp 8), 65, some (27, false)) := by kernel_rfl
theorem p8_27_29 : pj (regOf Try.f8 27) 29 = some (some 133, .move (.tmp 10), 3, some (27, false)) := by kernel_rfl
theorem p8_27_30 : pj (regOf Try.f8 27) 30 = some (some 134, .indexAddr 65 (.tmp 132) (.tmp 133), 0, some (27, false)) := by kernel_rfl
theorem p8_27_31 : pj (regOf Try.f8 27) 31 = some (some 135, .load 52 (.tmp 134), 52, some (27, false)) := by kernel_rfl
theorem p8_27_32 : pj (regOf Try.f8 27) 32 = some (some 136, .move (.tmp 12), 3, some (27, false)) := by kernel_rfl
theorem p8_27_33 : pj (regOf Try.f8 27) 33 = some (some 137, .indexAddr 52 (.tmp 135) (.tmp 136), 0, some (27, false)) := by kernel_rfl
theorem p8_27_34 : pj (regOf Try.f8 27) 34 = some (some 138, .load 3 (.tmp 137), 3, some (27, false)) := by kernel_rfl
theorem p8_27_35 : pj (regOf Try.f8 27) 35 = some (some 139, .move (.tmp 8), 65, some (27, false)) := by kernel_rfl
theorem p8_27_36 : pj (regOf Try.f8 27) 36 = some (some 140, .move (.tmp 10), 3, some (27, false)) := by kernel_rfl
theorem p8_27_37 : pj (regOf Try.f8 27) 37 = some (some 141, .indexAddr 65 (.tmp 139) (.tmp 140), 0, some (27, false)) := by kernel_rfl
theorem p8_27_38 : pj (regOf Try.f8 27) 38 = some (some 142, .load 52 (.tmp 141), 52, some (27, false)) := by kernel_rfl
theorem p8_27_39 : pj (regOf Try.f8 27) 39 = some (some 143, .move (.tmp 11), 3, some (27, false)) := by kernel_rfl
theorem p8_27_40 : pj (regOf Try.f8 27) 40 = some (some 144, .indexAddr 52 (.tmp 142) (.tmp 143), 0, some (27, false)) := by kernel_rfl
theorem p8_27_41 : pj (regOf Try.f8 27) 41 = some (some 145, .load 3 (.tmp 144), 3, some (27, false)) := by kernel_rfl
theorem p8_27_42 : pj (regOf Try.f8 27) 42 = some (some 146, .move (.tmp 8), 65, some (27, false)) := by kernel_rfl
theorem p8_27_43 : pj (regOf Try.f8 27) 43 = some (some 147, .move (.tmp 11), 3, some (27, false)) := by kernel_rfl
theorem p8_27_44 : pj (regOf Try.f8 27) 44 = some (some 148, .indexAddr 65 (.tmp 146) (.tmp 147), 0, some (27, false)) := by kernel_rfl
theorem p8_27_45 : pj (regOf Try.f8 27) 45 = some (some 149, .load 52 (.tmp 148), 52, some (27, false)) := by kernel_rfl
theorem p8_27_46 : pj (regOf Try.f8 27) 46 = some (some 150, .move (.tmp 12), 3, some (27, false)) := by kernel_rfl
theorem p8_27_47 : pj (regOf Try.f8 27) 47 = some (some 151, .indexAddr 52 (.tmp 149) (.tmp 150), 0, some (27, false)) := by kernel_rfl
theorem p8_27_48 : pj (regOf Try.f8 27) 48 = some (some 152, .load 3 (.tmp 151), 3, some (27, false)) := by kernel_rfl
theorem p8_27_49 : pj (regOf Try.f8 27) 49 = some (some 153, .binOp .add 3 (.tmp 145) (.tmp 152) 3, 3, some (27, false)) := by kernel_rfl
theorem p8_27_50 : pj (regOf Try.f8 27) 50 = some (some 154, .binOp .gtr 3 (.tmp 138) (.tmp 153) 3, 4, some (27, false)) := by kernel_rfl
theorem p8_27_51 : pj (regOf Try.f8 27) 51 = some (some 155, .pick (.tmp 131) (.const (.bool true)) (.tmp 154), 4, some (18, true)) := by kernel_rfl
theorem p8_27_52 : pj (regOf Try.f8 27) 52 = some (some 156, .pick (.tmp 122) (.tmp 155) (.const (.bool false)), 4, none) := by kernel_rfl
theorem p8_26_0 : pj (regOf Try.f8 26) 0 = some (some 102, .move (.tmp 12), 3, none) := by kernel_rfl
theorem p8_26_1 : pj (regOf Try.f8 26) 1 = some (some 103, .binOp .add 3 (.tmp 102) (.const (.int .i64 1)) 3, 3, none) := by kernel_rfl
theorem p8_26_2 : pj (regOf Try.f8 26) 2 = some (some 12, .assign (.tmp 103), 3, none) := by kernel_rfl
theorem p8_21_0 : pj (regOf Try.f8 21) 0 = some (some 82, .move (.tmp 11), 3, none) := by kernel_rfl
theorem p8_21_1 : pj (regOf Try.f8 21) 1 = some (some 83, .binOp .add 3 (.tmp 82) (.const (.int .i64 1)) 3, 3, none) := by kernel_rfl
theorem p8_21_2 : pj (regOf Try.f8 21) 2 = some (some 11, .assign (.tmp 83), 3, none) := by kernel_rfl
theorem p8_18_0 : pj (regOf Try.f8 18) 0 = some (some 77, .move (.tmp 10), 3, none) := by kernel_rfl
theorem p8_18_1 : pj (regOf Try.f8 18) 1 = some (some 78, .binOp .add 3 (.tmp 77) (.const (.int .i64 1)) 3, 3, none) := by kernel_rfl
theorem p8_18_2 : pj (regOf Try.f8 18) 2 = some (some 10, .assign (.tmp 78), 3, none) := by kernel_rfl
theorem p8_29_0 : pj (regOf Try.f8 29) 0 = some (some 157, .call { callee := .value (.func 33), args := #[], argTypes := #[] }, 4, none) := by kernel_rfl
theorem cl33 : callable Try.f33 = true := by kernel_rfl
theorem p8_29_1 : pj (regOf Try.f8 29) 1 = some (some 4, .assign (.tmp 157), 4, none) := by kernel_rfl
set_option maxHeartbeats 4000000 in
theorem walk (a0 : Int) (a1 : Option Addr) (cap1 : Nat) (z1 : List (Int × Int × Int × Int × Nat)) (w : World) (w0 : (Lit.int .i64 a0).wf = true) (w1 : Kd.C (Kd.pair (Kd.int .i64) (Kd.pair (Kd.int .i64) (Kd.pair (Kd.int .i64) (Kd.pair (Kd.int .i64) Kf)))) w a1 z1.length z1) (m1 : z1.length ≤ cap1) (o1 : (z1.length ≤ maxLen ∧ ∀ x0 ∈ z1, ((Lit.int .i64 x0.1).wf = true ∧ ((Lit.int .i64 x0.2.1).wf = true ∧ ((Lit.int .i64 x0.2.2.1).wf = true ∧ ((Lit.int .i64 x0.2.2.2.1).wf = true ∧ ((Lit.float .f64 x0.2.2.2.2).wf = true))))))) (y1 : z1.length * Try.prog.bytesOf 61 ≤ 140737488351232) (c1 : cap1 ≤ maxLen ∧ (a1 = none → cap1 = 0)) :
    Calls Try.prog 8 #[.int .i64 a0, .slice a1 z1.length cap1] w fun e w' => e = .returned (.bool true) ∧ Below w.heap.size w w' := by
  have K_0 := Kp.refl w (fun _ => False)
  have Fz1 := w1
  obtain ⟨nn, hn⟩ : ∃ nn : Nat, 1 + a0 % 18446744073709551616 % 12 = (nn : Int) := ⟨(1 + a0 % 18446744073709551616 % 12).toNat, by omega⟩
  have hnn : 1 ≤ nn ∧ nn ≤ 12 := by omega
  refine enter (args := [Value.int .i64 a0, Value.slice a1 z1.length cap1]) (n := 158) Try.func8 body8 rfl rfl rfl ?_
  intro a hE
  refine c_reg R8_0_l ?_
  refine q0 p8_0_0 hE (st_assign rfl) ?_
  clear hE a; intro a hE
  refine p_nil ?_
  refine x_norm ?_
  refine c_reg R8_1_l ?_
  refine q0 p8_1_0 hE (st_move rfl) ?_
  clear hE a; intro a hE
  refine q0 p8_1_1 hE (st_conv (z := (a0 % 18446744073709551616)) (by kernel_rfl) Try.underlying44 rfl (IntKind.wrap_u64 _)) ?_
  clear hE a; intro a hE
  refine q0 p8_1_2 hE (st_rem (z := (a0 % 18446744073709551616) % 12) rfl rfl (by omega) (Int.tmod_eq_emod_of_nonneg (by omega))) ?_
  clear hE a; intro a hE
  refine q0 p8_1_3 hE (st_conv (z := ((a0 % 18446744073709551616) % 12)) (by kernel_rfl) Try.underlying3 rfl (wr_i64 _ (by omega) (by omega))) ?_
  clear hE a; intro a hE
  refine q0 p8_1_4 hE (st_add (z := (nn : Int)) rfl rfl (by rw [hn]; exact wr_i64 _ (by omega) (by omega))) ?_
  clear hE a; intro a hE
  refine q0 p8_1_5 hE (st_assign rfl) ?_
  clear hE a; intro a hE
  refine p_nil ?_
  refine x_norm ?_
  refine c_reg R8_2_l ?_
  refine q0 p8_2_0 hE (st_move rfl) ?_
  clear hE a; intro a hE
  refine p_cons (s_call (xs := [Operand.tmp 19]) (args := [Value.int .i64 (nn : Int)]) p8_2_1 hE wn_none rfl rfl Try.func28 cl28 (new_ok (nn : Int) ⟨by omega, by omega⟩ _) ?_)
  rintro e w1 ⟨gL, gN, rfl, zL9, zN9, n_gL_gN, B_gL, B_gN, hk⟩
  have z_0_gL := Nat.le_trans K_0.kept.1 zL9
  have z_0_gN := Nat.le_trans K_0.kept.1 zN9
  replace K_0 := K_0.then_ hk (fun _ h => h.elim)
  refine ⟨_, rfl, ?_⟩
  clear hE a; intro a hE
  refine q0 p8_2_2 hE (st_move rfl) ?_
  clear hE a; intro a hE
  refine q0 p8_2_3 hE (st_extract rfl rfl) ?_
  clear hE a; intro a hE
  refine q0 p8_2_4 hE (st_extract rfl rfl) ?_
  clear hE a; intro a hE
  refine q0 p8_2_5 hE (st_assign rfl) ?_
  clear hE a; intro a hE
  refine q0 p8_2_6 hE (st_assign rfl) ?_
  clear hE a; intro a hE
  refine p_nil ?_
  refine x_norm ?_
  refine wp_seq ?_
  refine c_reg R8_3_l ?_
  refine q0 p8_3_0 hE (st_move rfl) ?_
  clear hE a; intro a hE
  refine q0 p8_3_1 hE (st_neq (b := false) rfl rfl (by decide)) ?_
  clear hE a; intro a hE
  refine q0 p8_3_2 hE (st_move rfl) ?_
  clear hE a; intro a hE
  refine p_cons (s_still p8_3_3 hE (wn_some g8_3_2 rfl rfl) rfl (st_move rfl) ?_)
  clear hE a; intro a hE
  refine p_cons (s_still p8_3_4 hE (wn_some g8_3_2 rfl rfl) rfl (st_eqlP (b := false) tP56 rfl rfl rfl) ?_)
  clear hE a; intro a hE
  refine q0 p8_3_5 hE (st_pick rfl rfl) ?_
  clear hE a; intro a hE
  refine p_nil ?_
  refine x_norm ?_
  refine c_cond (t := false) hE rfl ?_
  refine wp_skip ?_
  refine x_norm ?_
  refine wp_seq ?_
  refine c_reg R8_5_l ?_
  refine q0 p8_5_0 hE (st_assign rfl) ?_
  clear hE a; intro a hE
  refine p_nil ?_
  refine x_norm ?_
  refine wp_block ?_
  refine c_loop (α := Nat) (fun i a W => ∃ (es9 : Array MapEntry), ∃ (ck9 : Nat), ∃ (f9 : Int → Int → Option Int), En 158 a [(0, Value.int .i64 (nn : Int)), (1, Value.slice a1 z1.length cap1), (4, Value.bool false), (5, Value.pointer (some ⟨gL, 0, none⟩)), (6, Value.int .i64 0), (28, Value.bool false), (7, Value.int .i64 (i : Int))] ∧ Mp.MapF es9 f9 ∧ i ≤ z1.length ∧ W.heap[gL]? = some (.cells #[Value.int .i64 (nn : Int), Value.map (some gN)] 83 (0, 0)) ∧ W.heap[gN]? = some (.map es9 ck9) ∧ Kp w W (fun _ => False)) (fun i => z1.length - i) (0) ?_ ?_
  ·
    exact ⟨#[], 0, (fun _ _ => none), En.sub hE ⟨rfl, rfl, rfl, rfl, rfl, rfl, rfl, trivial⟩, Mp.mapf_nil, Nat.zero_le _, B_gL, B_gN, K_0⟩
  ·
    clear hE a
    rintro i a w2 ⟨es9, ck9, f9, hE, MF9, hi9, B_gL, B_gN, K_0⟩
    refine wp_seq ?_
    rcases Decidable.em ((i : Int) < (z1.length : Int)) with hI1 | hI1
    ·
      rcases Decidable.em ((i : Int) < 40) with hI2 | hI2
      ·
        refine c_reg R8_6_l ?_
        refine q0 p8_6_0 hE (st_move rfl) ?_
        clear hE a; intro a hE
        refine q0 p8_6_1 hE (st_move rfl) ?_
        clear hE a; intro a hE
        refine q0 p8_6_2 hE (st_len Try.underlying55 rfl) ?_
        clear hE a; intro a hE
        refine q0 p8_6_3 hE (st_lss (b := true) rfl rfl (decide_eq_true hI1)) ?_
        clear hE a; intro a hE
        refine q0 p8_6_4 hE (st_move rfl) ?_
        clear hE a; intro a hE
        refine p_cons (s_still p8_6_5 hE (wn_some g8_6_4 rfl rfl) rfl (st_move rfl) ?_)
        clear hE a; intro a hE
        refine p_cons (s_still p8_6_6 hE (wn_some g8_6_4 rfl rfl) rfl (st_lss (b := true) rfl rfl (decide_eq_true hI2)) ?_)
        clear hE a; intro a hE
        refine q0 p8_6_7 hE (st_pick rfl rfl) ?_
        clear hE a; intro a hE
        refine p_nil ?_
        refine x_norm ?_
        refine c_cond (t := true) hE rfl ?_
        refine wp_skip ?_
        refine x_norm ?_
        refine wp_seq ?_
        refine wp_block ?_
        obtain ⟨hAe, cce, hKe, hce⟩ := C_elem (i := i) Fz1 zA (show i < z1.length by omega)
        obtain ⟨⟨xk, xa, xb, xc, xx⟩, hxe⟩ : ∃ x, List.getD z1 i zA = x := ⟨_, rfl⟩
        rw [hxe] at hKe
        obtain ⟨v9, rfl⟩ := act_open hKe
        refine c_draw (S := fun W => W.heap[gL]? = some (.cells #[Value.int .i64 (nn : Int), Value.map (some gN)] 83 (0, 0)) ∧ (∀ j u, ([Value.int .i64 xk, Value.int .i64 xa, Value.int .i64 xb, Value.int .i64 xc, v9])[j]? = some u → W.cell? (ea a1 (i * 5 + j)) = some u) ∧ True) rfl rfl (listed := #[false, false, false, false, false, false, false, false, false, false, false, false, false, false, false, false, false]) rfl ?_
        intro w3 hh hk
        replace B_gL := kp_blk B_gL hk (fun h => h)
        replace B_gN := kp_blk B_gN hk (fun h => h)
        replace K_0 := K_0.then_ hk (fun _ h => h.elim)
        clear hh hk
        refine d_take (v := Value.pointer (some ⟨gL, 0, none⟩)) p8_8_0 ns8_8 (by kernel_rfl) (by kernel_rfl) (fun _ _ _ h => h) hE wn_none rfl ⟨B_gL, (fun j u h => cell_to K_0 (hce j u h)), trivial⟩ (fun W hS => (st_move rfl)) rfl ?_
        clear hE a; intro a hE
        refine d_take (v := Value.slice a1 z1.length cap1) p8_8_1 ns8_8 (by kernel_rfl) (by kernel_rfl) (fun _ _ _ h => h) hE wn_none rfl ⟨B_gL, (fun j u h => cell_to K_0 (hce j u h)), trivial⟩ (fun W hS => (st_move rfl)) rfl ?_
        clear hE a; intro a hE
        refine d_take (v := Value.int .i64 (i : Int)) p8_8_2 ns8_8 (by kernel_rfl) (by kernel_rfl) (fun _ _ _ h => h) hE wn_none rfl ⟨B_gL, (fun j u h => cell_to K_0 (hce j u h)), trivial⟩ (fun W hS => (st_move rfl)) rfl ?_
        clear hE a; intro a hE
        refine d_take (v := Value.pointer (some (ea a1 (i * 5)))) p8_8_3 ns8_8 (by kernel_rfl) (by kernel_rfl) (fun _ _ _ h => h) hE wn_none rfl ⟨B_gL, (fun j u h => cell_to K_0 (hce j u h)), trivial⟩ (fun W hS => (st_indexAddrR (i := i) (s := 5) Try.underlying55 tS61 hAe rfl rfl (by omega))) rfl ?_
        clear hE a; intro a hE
        refine d_take (v := Value.pointer (some (ea a1 (i * 5 + 1)))) p8_8_4 ns8_8 (by kernel_rfl) (by kernel_rfl) (fun _ _ _ h => h) hE wn_none rfl ⟨B_gL, (fun j u h => cell_to K_0 (hce j u h)), trivial⟩ (fun W hS => (st_fieldAddrR (off := i * 5) (f0 := 1) (o' := i * 5 + 1) Try.underlying61 rfl tS3 rfl (by omega) rfl)) rfl ?_
        clear hE a; intro a hE
        refine d_take (v := Value.int .i64 xa) p8_8_5 ns8_8 (by kernel_rfl) (by kernel_rfl) (fun _ _ _ h => h) hE wn_none rfl ⟨B_gL, (fun j u h => cell_to K_0 (hce j u h)), trivial⟩ (fun W hS => (st_loadR1 (off := i * 5) (j := 1) tA3 (hS.2.1) rfl (by omega) rfl)) rfl ?_
        clear hE a; intro a hE
        refine d_take (v := Value.slice a1 z1.length cap1) p8_8_6 ns8_8 (by kernel_rfl) (by kernel_rfl) (fun _ _ _ h => h) hE wn_none rfl ⟨B_gL, (fun j u h => cell_to K_0 (hce j u h)), trivial⟩ (fun W hS => (st_move rfl)) rfl ?_
        clear hE a; intro a hE
        refine d_take (v := Value.int .i64 (i : Int)) p8_8_7 ns8_8 (by kernel_rfl) (by kernel_rfl) (fun _ _ _ h => h) hE wn_none rfl ⟨B_gL, (fun j u h => cell_to K_0 (hce j u h)), trivial⟩ (fun W hS => (st_move rfl)) rfl ?_
        clear hE a; intro a hE
        refine d_take (v := Value.pointer (some (ea a1 (i * 5)))) p8_8_8 ns8_8 (by kernel_rfl) (by kernel_rfl) (fun _ _ _ h => h) hE wn_none rfl ⟨B_gL, (fun j u h => cell_to K_0 (hce j u h)), trivial⟩ (fun W hS => (st_indexAddrR (i := i) (s := 5) Try.underlying55 tS61 hAe rfl rfl (by omega))) rfl ?_
        clear hE a; intro a hE
        refine d_take (v := Value.pointer (some (ea a1 (i * 5 + 2)))) p8_8_9 ns8_8 (by kernel_rfl) (by kernel_rfl) (fun _ _ _ h => h) hE wn_none rfl ⟨B_gL, (fun j u h => cell_to K_0 (hce j u h)), trivial⟩ (fun W hS => (st_fieldAddrR (off := i * 5) (f0 := 2) (o' := i * 5 + 2) Try.underlying61 rfl tS3 rfl (by omega) rfl)) rfl ?_
        clear hE a; intro a hE
        refine d_take (v := Value.int .i64 xb) p8_8_10 ns8_8 (by kernel_rfl) (by kernel_rfl) (fun _ _ _ h => h) hE wn_none rfl ⟨B_gL, (fun j u h => cell_to K_0 (hce j u h)), trivial⟩ (fun W hS => (st_loadR1 (off := i * 5) (j := 2) tA3 (hS.2.1) rfl (by omega) rfl)) rfl ?_
        clear hE a; intro a hE
        refine d_take (v := Value.slice a1 z1.length cap1) p8_8_11 ns8_8 (by kernel_rfl) (by kernel_rfl) (fun _ _ _ h => h) hE wn_none rfl ⟨B_gL, (fun j u h => cell_to K_0 (hce j u h)), trivial⟩ (fun W hS => (st_move rfl)) rfl ?_
        clear hE a; intro a hE
        refine d_take (v := Value.int .i64 (i : Int)) p8_8_12 ns8_8 (by kernel_rfl) (by kernel_rfl) (fun _ _ _ h => h) hE wn_none rfl ⟨B_gL, (fun j u h => cell_to K_0 (hce j u h)), trivial⟩ (fun W hS => (st_move rfl)) rfl ?_
        clear hE a; intro a hE
        refine d_take (v := Value.pointer (some (ea a1 (i * 5)))) p8_8_13 ns8_8 (by kernel_rfl) (by kernel_rfl) (fun _ _ _ h => h) hE wn_none rfl ⟨B_gL, (fun j u h => cell_to K_0 (hce j u h)), trivial⟩ (fun W hS => (st_indexAddrR (i := i) (s := 5) Try.underlying55 tS61 hAe rfl rfl (by omega))) rfl ?_
        clear hE a; intro a hE
        refine d_take (v := Value.pointer (some (ea a1 (i * 5 + 3)))) p8_8_14 ns8_8 (by kernel_rfl) (by kernel_rfl) (fun _ _ _ h => h) hE wn_none rfl ⟨B_gL, (fun j u h => cell_to K_0 (hce j u h)), trivial⟩ (fun W hS => (st_fieldAddrR (off := i * 5) (f0 := 3) (o' := i * 5 + 3) Try.underlying61 rfl tS3 rfl (by omega) rfl)) rfl ?_
        clear hE a; intro a hE
        refine d_take (v := Value.int .i64 xc) p8_8_15 ns8_8 (by kernel_rfl) (by kernel_rfl) (fun _ _ _ h => h) hE wn_none rfl ⟨B_gL, (fun j u h => cell_to K_0 (hce j u h)), trivial⟩ (fun W hS => (st_loadR1 (off := i * 5) (j := 3) tA3 (hS.2.1) rfl (by omega) rfl)) rfl ?_
        clear hE a; intro a hE
        refine d_one (by kernel_rfl) rfl (s_call (xs := [Operand.tmp 39, Operand.tmp 44, Operand.tmp 49, Operand.tmp 54]) (args := [Value.pointer (some ⟨gL, 0, none⟩), Value.int .i64 xa, Value.int .i64 xb, Value.int .i64 xc]) p8_8_16 hE wn_none rfl rfl Try.func29 cl29 (set_any gL gN _ _ f9 (nn : Int) xa xb xc _ B_gL B_gN MF9 n_gL_gN) ?_)
        rintro e w5 ⟨esm4, ckm4, rfl, MFm4, B_gN', hk⟩
        replace B_gL := kp_blk B_gL hk n_gL_gN
        replace K_0 := K_0.then_ hk (fun k h => by rw [show k = gN from h]; exact Or.inr z_0_gN)
        replace B_gN := B_gN'
        refine ⟨_, rfl, ?_⟩
        clear hE a; intro a hE
        refine ⟨⟨B_gL, (fun j u h => cell_to K_0 (hce j u h)), trivial⟩, ?_⟩
        refine d_end (by kernel_rfl) ?_
        refine x_normB ?_
        refine x_norm ?_
        refine c_regL R8_7_l ?_
        refine q0 p8_7_0 hE (st_move rfl) ?_
        clear hE a; intro a hE
        refine q0 p8_7_1 hE (st_add (z := (i : Int) + 1) rfl rfl (wr_i64 _ (by omega) (by omega))) ?_
        clear hE a; intro a hE
        refine q0 p8_7_2 hE (st_assign rfl) ?_
        clear hE a; intro a hE
        refine p_nil ?_
        refine x_norm ?_
        have MFx := MFm4
        exact ⟨i + 1, by omega, esm4, ckm4, _, En.sub hE ⟨rfl, rfl, rfl, rfl, rfl, rfl, rfl, trivial⟩, MFx, by omega, B_gL, B_gN, K_0⟩
      ·
        refine c_reg R8_6_l ?_
        refine q0 p8_6_0 hE (st_move rfl) ?_
        clear hE a; intro a hE
        refine q0 p8_6_1 hE (st_move rfl) ?_
        clear hE a; intro a hE
        refine q0 p8_6_2 hE (st_len Try.underlying55 rfl) ?_
        clear hE a; intro a hE
        refine q0 p8_6_3 hE (st_lss (b := true) rfl rfl (decide_eq_true hI1)) ?_
        clear hE a; intro a hE
        refine q0 p8_6_4 hE (st_move rfl) ?_
        clear hE a; intro a hE
        refine p_cons (s_still p8_6_5 hE (wn_some g8_6_4 rfl rfl) rfl (st_move rfl) ?_)
        clear hE a; intro a hE
        refine p_cons (s_still p8_6_6 hE (wn_some g8_6_4 rfl rfl) rfl (st_lss (b := false) rfl rfl (decide_eq_false hI2)) ?_)
        clear hE a; intro a hE
        refine q0 p8_6_7 hE (st_pick rfl rfl) ?_
        clear hE a; intro a hE
        refine p_nil ?_
        refine x_norm ?_
        refine c_cond (t := false) hE rfl ?_
        refine wp_exit ?_
        refine x_exit ?_
        refine x_exit ?_
        refine x_in ?_
        refine x_norm ?_
        refine c_reg R8_9_l ?_
        refine q0 p8_9_0 hE (st_assign rfl) ?_
        clear hE a; intro a hE
        refine p_nil ?_
        refine x_norm ?_
        refine wp_seq ?_
        refine c_reg R8_10_l ?_
        have O_all := own_none w2 w.heap.size 52 1
        have Nb_all_gL : ¬ OB none gL := ob_nil
        have Nb_all_gN : ¬ OB none gN := ob_nil
        have Z_0_all : ∀ k, OB none k → (fun _ => False) k ∨ w.heap.size ≤ k := fun k h => absurd h ob_nil
        refine q0 p8_10_0 hE (st_assign rfl) ?_
        clear hE a; intro a hE
        refine p_nil ?_
        refine x_norm ?_
        refine wp_block ?_
        refine c_loop (α := Nat) (fun p a W => ∃ (A_all : Option Addr) (c_all : Nat) (n_all : Nat), ∃ (rs : List (Option Addr × Nat × List Int)), En 158 a [(0, Value.int .i64 (nn : Int)), (1, Value.slice a1 z1.length cap1), (5, Value.pointer (some ⟨gL, 0, none⟩)), (6, Value.int .i64 0), (28, Value.bool false), (7, Value.int .i64 (i : Int)), (36, Value.bool false), (9, Value.int .i64 (p : Int)), (8, Value.slice A_all n_all c_all)] ∧ p ≤ nn ∧ rs.length = p ∧ n_all = p ∧ (∀ i r, rs[i]? = some r → RowOk nn f9 W A_all i r) ∧ W.heap[gL]? = some (.cells #[Value.int .i64 (nn : Int), Value.map (some gN)] 83 (0, 0)) ∧ W.heap[gN]? = some (.map es9 ck9) ∧ n_all = (rs.map (encR nn)).length ∧ W.ownsRow w.heap.size 52 1 (.slice A_all n_all c_all) n_all (rs.map (encR nn)) ∧ ¬ OB A_all gL ∧ ¬ OB A_all gN ∧ (∀ k, OB A_all k → (fun _ => False) k ∨ w.heap.size ≤ k) ∧ Kp w W (fun _ => False)) (fun p => nn - p) (0) ?_ ?_
        ·
          exact ⟨none, 0, 0, [], En.sub hE ⟨rfl, rfl, rfl, rfl, rfl, rfl, rfl, rfl, rfl, trivial⟩, Nat.zero_le _, rfl, rfl, (fun i r h => by simp at h), B_gL, B_gN, by simp, O_all, Nb_all_gL, Nb_all_gN, Z_0_all, K_0⟩
        ·
          clear hE a
          rintro p a w6 ⟨A_all, c_all, n_all, rs, hE, hp9, hrl, hnp, FR, B_gL, B_gN, hn_all, O_all, Nb_all_gL, Nb_all_gN, Z_0_all, K_0⟩
          refine wp_seq ?_
          rcases Decidable.em ((p : Int) < (nn : Int)) with hP1 | hP1
          ·
            refine c_reg R8_11_l ?_
            refine q0 p8_11_0 hE (st_move rfl) ?_
            clear hE a; intro a hE
            refine q0 p8_11_1 hE (st_move rfl) ?_
            clear hE a; intro a hE
            refine q0 p8_11_2 hE (st_lss (b := true) rfl rfl (decide_eq_true hP1)) ?_
            clear hE a; intro a hE
            refine p_nil ?_
            refine x_norm ?_
            refine c_cond (t := true) hE rfl ?_
            refine wp_skip ?_
            refine x_norm ?_
            refine wp_seq ?_
            refine wp_block ?_
            refine c_reg R8_13_l ?_
            refine q0 p8_13_0 hE (st_move rfl) ?_
            clear hE a; intro a hE
            refine q0 p8_13_1 hE (st_move rfl) ?_
            clear hE a; intro a hE
            refine q0 p8_13_2 hE (st_move rfl) ?_
            clear hE a; intro a hE
            have hlo9 := fun k (h : OB A_all k) => (own_ob O_all h).2
            refine p_cons (s_call (xs := [Operand.tmp 62, Operand.tmp 63]) (args := [Value.pointer (some ⟨gL, 0, none⟩), Value.int .i64 (p : Int)]) p8_13_3 hE wn_none rfl rfl Try.func30 cl30 (hops_gen gL gN _ nn _ _ p (by omega) (by omega) _ B_gL B_gN MF9 n_gL_gN) ?_)
            rintro e w7 ⟨Ah, ch, hh, rfl, hch, hfn, hbn, hgn, FAh, hk⟩
            replace B_gL := kp_blk B_gL hk (fun h => h)
            replace B_gN := kp_blk B_gN hk (fun h => h)
            replace O_all := own_keep O_all hk (fun _ _ h => h)
            replace K_0 := K_0.then_ hk (fun _ h => h.elim)
            have hFR2 := rows_snoc hrl hk FR (x := (Ah, ch, hh)) ⟨FAh _ (Kp.refl _ _), fun x hx => ⟨fun q => by have h1 := hlo9 _ q; have h2 := (hgn _ ⟨x, hx, rfl⟩).1; omega, (hgn _ ⟨x, hx, rfl⟩).2⟩, hfn, hbn⟩
            have K_s8 := Kp.refl w7 (fun k => OB A_all k)
            have Z_s8_all : ∀ k, OB A_all k → (fun k => OB A_all k) k ∨ w7.heap.size ≤ k := fun k h => .inl h
            refine ⟨_, rfl, ?_⟩
            clear hE a; intro a hE
            refine p_cons (s_row (xs := [(0, Operand.tmp 64)]) (vs := [(0, Value.slice Ah nn ch)]) (cs := #[Value.slice Ah nn ch]) p8_13_4 hE wn_none rfl Try.underlying65 rfl (by kernel_rfl) ?_)
            clear hE a; intro g9 w10 z11 B_g9 hk a hE
            have n_gL_g9 : gL ≠ g9 := ne_new B_gL z11
            have n_gN_g9 : gN ≠ g9 := ne_new B_gN z11
            have z_0_g9 := Nat.le_trans K_0.kept.1 z11
            have z_s8_g9 := Nat.le_trans K_s8.kept.1 z11
            have Nb_all_g9 : ¬ OB A_all g9 := fun h => by have := (own_ob O_all h).2; omega
            replace B_gL := kp_blk B_gL hk (fun h => h)
            replace B_gN := kp_blk B_gN hk (fun h => h)
            replace O_all := own_keep O_all hk (fun _ _ h => h)
            replace K_0 := K_0.then_ hk (fun _ h => h.elim)
            replace K_s8 := K_s8.then_ hk (fun _ h => h.elim)
            clear hk
            refine p_cons (s_append (xs := (rs.map (encR nn))) (news := [Value.slice Ah nn ch]) p8_13_5 hE wn_none rfl Try.underlying65 eD52 (by decide) rfl O_all rfl rfl (news1 B_g9) (by intro u hu; rw [List.mem_singleton.1 hu]; rfl) (by omega) (by omega) K_0.kept.1 ?_)
            clear hE a; intro Aall12 call13 w14 O_all' hk hat a hE
            have Nb_all_gL' := grow_n Nb_all_gL (blk_lt B_gL) hat
            have Nb_all_gN' := grow_n Nb_all_gN (blk_lt B_gN) hat
            have Nb_all_g9' := grow_n Nb_all_g9 (blk_lt B_g9) hat
            have Z_0_all' := grow_z Z_0_all K_0.kept.1 hat
            have Z_s8_all' := grow_z Z_s8_all K_s8.kept.1 hat
            replace B_gL := kp_blk B_gL hk Nb_all_gL
            replace B_gN := kp_blk B_gN hk Nb_all_gN
            replace B_g9 := kp_blk B_g9 hk Nb_all_g9
            replace K_0 := K_0.then_ hk Z_0_all
            replace K_s8 := K_s8.then_ hk Z_s8_all
            replace Nb_all_gL := Nb_all_gL'
            replace Nb_all_gN := Nb_all_gN'
            replace Nb_all_g9 := Nb_all_g9'
            replace Z_0_all := Z_0_all'
            replace Z_s8_all := Z_s8_all'
            replace O_all := O_all'
            try clear O_all'
            clear hk hat
            refine q0 p8_13_6 hE (st_assign rfl) ?_
            clear hE a; intro a hE
            refine p_nil ?_
            refine x_norm ?_
            refine c_reg R8_14_l ?_
            obtain ⟨hAx, hcx⟩ := own_one (j := p) (v := Value.slice Ah nn ch) O_all (by rw [List.getElem?_append_right (by rw [List.length_map]; omega), List.length_map, show p - rs.length = 0 by omega]; rfl)
            refine q0 p8_14_0 hE (st_move rfl) ?_
            clear hE a; intro a hE
            refine q0 p8_14_1 hE (st_move rfl) ?_
            clear hE a; intro a hE
            refine q0 p8_14_2 hE (st_indexAddrR (i := p) (s := 1) Try.underlying65 tS52 hAx rfl rfl (by omega)) ?_
            clear hE a; intro a hE
            refine q0 p8_14_3 hE (st_loadR1 (off := p * 1) (j := 0) tA52 hcx rfl (by omega) rfl) ?_
            clear hE a; intro a hE
            refine q0 p8_14_4 hE (st_len Try.underlying52 rfl) ?_
            clear hE a; intro a hE
            refine q0 p8_14_5 hE (st_move rfl) ?_
            clear hE a; intro a hE
            refine q0 p8_14_6 hE (st_neq (b := false) rfl rfl (by simp)) ?_
            clear hE a; intro a hE
            refine p_nil ?_
            refine x_norm ?_
            refine c_cond (t := false) hE rfl ?_
            refine wp_skip ?_
            refine x_normB ?_
            refine x_norm ?_
            refine c_regL R8_12_l ?_
            refine q0 p8_12_0 hE (st_move rfl) ?_
            clear hE a; intro a hE
            refine q0 p8_12_1 hE (st_add (z := (p : Int) + 1) rfl rfl (wr_i64 _ (by omega) (by omega))) ?_
            clear hE a; intro a hE
            refine q0 p8_12_2 hE (st_assign rfl) ?_
            clear hE a; intro a hE
            refine p_nil ?_
            refine x_norm ?_
            have exs : (rs.map (encR nn) ++ [Value.slice Ah nn ch]) = (rs ++ [(Ah, ch, hh)]).map (encR nn) := by rw [List.map_append]; rfl
            rw [exs] at O_all
            exact ⟨p + 1, by omega, Aall12, call13, (n_all + 1), (rs ++ [(Ah, ch, hh)]), En.sub hE ⟨rfl, rfl, rfl, rfl, rfl, rfl, rfl, rfl, rfl, trivial⟩, by omega, (by rw [List.length_append, hrl]; rfl), (by omega), (rows_keep K_s8 Z_s8_all hFR2), B_gL, B_gN, (by rw [List.length_map, List.length_append]; show _ = rs.length + 1; omega), O_all, Nb_all_gL, Nb_all_gN, Z_0_all, K_0⟩
          ·
            refine c_reg R8_11_l ?_
            refine q0 p8_11_0 hE (st_move rfl) ?_
            clear hE a; intro a hE
            refine q0 p8_11_1 hE (st_move rfl) ?_
            clear hE a; intro a hE
            refine q0 p8_11_2 hE (st_lss (b := false) rfl rfl (decide_eq_false hP1)) ?_
            clear hE a; intro a hE
            refine p_nil ?_
            refine x_norm ?_
            refine c_cond (t := false) hE rfl ?_
            refine wp_exit ?_
            refine x_exit ?_
            refine x_exit ?_
            have hAll : ∀ i, i < nn → ∃ A c h, (A_all = some (A_all.getD default) ∧ ∀ j' u, [Value.slice A nn c][j']? = some u → w6.cell? (ea A_all (i * 1 + j')) = some u) ∧ Kd.C (Kd.int .i64) w6 A nn h ∧ Bf.Fine (Ed nn f9) nn i h ∧ ∀ c, c < nn → Bf.at_ h c + 1 ≤ nn := fun i hi => by
              obtain ⟨r, hr⟩ : ∃ r, rs[i]? = some r := ⟨_, List.getElem?_eq_getElem (by omega)⟩
              have ho := FR i r hr
              exact ⟨r.1, r.2.1, r.2.2, own_one O_all (by rw [List.getElem?_map, hr]; rfl), ho.read, ho.fine, ho.bnd⟩
            have K_s15 := Kp.refl w6 (fun _ => False)
            refine x_in ?_
            refine x_norm ?_
            refine wp_seq ?_
            refine c_reg R8_16_l ?_
            refine q0 p8_16_0 hE (st_assign rfl) ?_
            clear hE a; intro a hE
            refine p_nil ?_
            refine x_norm ?_
            refine wp_block ?_
            refine c_loop (α := Nat) (fun pa a W => En 158 a [(0, Value.int .i64 (nn : Int)), (1, Value.slice a1 z1.length cap1), (5, Value.pointer (some ⟨gL, 0, none⟩)), (6, Value.int .i64 0), (28, Value.bool false), (7, Value.int .i64 (i : Int)), (36, Value.bool false), (9, Value.int .i64 (p : Int)), (8, Value.slice A_all n_all c_all), (58, Value.bool false), (10, Value.int .i64 (pa : Int))] ∧ pa ≤ nn ∧ W.heap[gL]? = some (.cells #[Value.int .i64 (nn : Int), Value.map (some gN)] 83 (0, 0)) ∧ W.heap[gN]? = some (.map es9 ck9) ∧ Kp w W (fun _ => False) ∧ Kp w6 W (fun _ => False)) (fun pa => nn - pa) (0) ?_ ?_
            ·
              exact ⟨En.sub hE ⟨rfl, rfl, rfl, rfl, rfl, rfl, rfl, rfl, rfl, rfl, rfl, trivial⟩, Nat.zero_le _, B_gL, B_gN, K_0, K_s15⟩
            ·
              clear hE a
              rintro pa a w16 ⟨hE, hpa9, B_gL, B_gN, K_0, K_s15⟩
              refine wp_seq ?_
              rcases Decidable.em ((pa : Int) < (nn : Int)) with hPA | hPA
              ·
                refine c_reg R8_17_l ?_
                refine q0 p8_17_0 hE (st_move rfl) ?_
                clear hE a; intro a hE
                refine q0 p8_17_1 hE (st_move rfl) ?_
                clear hE a; intro a hE
                refine q0 p8_17_2 hE (st_lss (b := true) rfl rfl (decide_eq_true hPA)) ?_
                clear hE a; intro a hE
                refine p_nil ?_
                refine x_norm ?_
                refine c_cond (t := true) hE rfl ?_
                refine wp_skip ?_
                refine x_norm ?_
                refine wp_seq ?_
                refine wp_block ?_
                refine c_reg R8_19_l ?_
                obtain ⟨Aa, ca, ha, ⟨hAa, hca⟩, hCa, hFa, hBa⟩ := hAll pa (by omega)
                refine q0 p8_19_0 hE (st_assign rfl) ?_
                clear hE a; intro a hE
                refine p_nil ?_
                refine x_norm ?_
                refine wp_block ?_
                refine c_loop (α := Nat) (fun pb a W => En 158 a [(0, Value.int .i64 (nn : Int)), (1, Value.slice a1 z1.length cap1), (5, Value.pointer (some ⟨gL, 0, none⟩)), (6, Value.int .i64 0), (28, Value.bool false), (7, Value.int .i64 (i : Int)), (36, Value.bool false), (9, Value.int .i64 (p : Int)), (8, Value.slice A_all n_all c_all), (58, Value.bool false), (10, Value.int .i64 (pa : Int)), (76, Value.bool true), (11, Value.int .i64 (pb : Int))] ∧ pb ≤ nn ∧ W.heap[gL]? = some (.cells #[Value.int .i64 (nn : Int), Value.map (some gN)] 83 (0, 0)) ∧ W.heap[gN]? = some (.map es9 ck9) ∧ Kp w W (fun _ => False) ∧ Kp w6 W (fun _ => False)) (fun pb => nn - pb) (0) ?_ ?_
                ·
                  exact ⟨En.sub hE ⟨rfl, rfl, rfl, rfl, rfl, rfl, rfl, rfl, rfl, rfl, rfl, rfl, rfl, trivial⟩, Nat.zero_le _, B_gL, B_gN, K_0, K_s15⟩
                ·
                  clear hE a
                  rintro pb a w17 ⟨hE, hpb9, B_gL, B_gN, K_0, K_s15⟩
                  refine wp_seq ?_
                  rcases Decidable.em ((pb : Int) < (nn : Int)) with hPB | hPB
                  ·
                    refine c_reg R8_20_l ?_
                    refine q0 p8_20_0 hE (st_move rfl) ?_
                    clear hE a; intro a hE
                    refine q0 p8_20_1 hE (st_move rfl) ?_
                    clear hE a; intro a hE
                    refine q0 p8_20_2 hE (st_lss (b := true) rfl rfl (decide_eq_true hPB)) ?_
                    clear hE a; intro a hE
                    refine p_nil ?_
                    refine x_norm ?_
                    refine c_cond (t := true) hE rfl ?_
                    refine wp_skip ?_
                    refine x_norm ?_
                    refine wp_seq ?_
                    refine wp_block ?_
                    refine wp_seq ?_
                    obtain ⟨Ab, cb, hb, ⟨hAb, hcb⟩, hCb, hFb, hBb⟩ := hAll pb (by omega)
                    have hbo : rd ha (pb : Int) = rd hb (pa : Int) := by rw [rd_at, rd_at]; exact Bf.both (fun x y h => ed_lt h) (fun x y h => ed_sym h) (by omega) (by omega) hFa hFb
                    refine c_drawS (S := fun W => Kd.C (Kd.int .i64) W Aa nn ha ∧ Kd.C (Kd.int .i64) W Ab nn hb ∧ (∀ j u, ([Value.slice Aa nn ca])[j]? = some u → W.cell? (ea A_all (pa * 1 + j)) = some u) ∧ (∀ j u, ([Value.slice Ab nn cb])[j]? = some u → W.cell? (ea A_all (pb * 1 + j)) = some u) ∧ True) rfl rfl (listed := #[false, false, false, false, false, false, false, false, false, false, false, false, false, false, false]) rfl ?_
                    intro w18 hh hk
                    replace B_gL := kp_blk B_gL hk (fun h => h)
                    replace B_gN := kp_blk B_gN hk (fun h => h)
                    replace K_0 := K_0.then_ hk (fun _ h => h.elim)
                    replace K_s15 := K_s15.then_ hk (fun _ h => h.elim)
                    clear hh hk
                    refine d_take (v := Value.slice A_all n_all c_all) p8_22_0 ns8_22 (by kernel_rfl) (by kernel_rfl) (fun _ _ _ h => h) hE wn_none rfl ⟨(C_to hCa K_s15), (C_to hCb K_s15), (fun j u h => cell_to K_s15 (hca j u h)), (fun j u h => cell_to K_s15 (hcb j u h)), trivial⟩ (fun W hS => (st_move rfl)) rfl ?_
                    clear hE a; intro a hE
                    refine d_take (v := Value.int .i64 (pa : Int)) p8_22_1 ns8_22 (by kernel_rfl) (by kernel_rfl) (fun _ _ _ h => h) hE wn_none rfl ⟨(C_to hCa K_s15), (C_to hCb K_s15), (fun j u h => cell_to K_s15 (hca j u h)), (fun j u h => cell_to K_s15 (hcb j u h)), trivial⟩ (fun W hS => (st_move rfl)) rfl ?_
                    clear hE a; intro a hE
                    refine d_take (v := Value.pointer (some (ea A_all (pa * 1)))) p8_22_2 ns8_22 (by kernel_rfl) (by kernel_rfl) (fun _ _ _ h => h) hE wn_none rfl ⟨(C_to hCa K_s15), (C_to hCb K_s15), (fun j u h => cell_to K_s15 (hca j u h)), (fun j u h => cell_to K_s15 (hcb j u h)), trivial⟩ (fun W hS => (st_indexAddrR (i := pa) (s := 1) Try.underlying65 tS52 hAa rfl rfl (by omega))) rfl ?_
                    clear hE a; intro a hE
                    refine d_take (v := Value.slice Aa nn ca) p8_22_3 ns8_22 (by kernel_rfl) (by kernel_rfl) (fun _ _ _ h => h) hE wn_none rfl ⟨(C_to hCa K_s15), (C_to hCb K_s15), (fun j u h => cell_to K_s15 (hca j u h)), (fun j u h => cell_to K_s15 (hcb j u h)), trivial⟩ (fun W hS => (st_loadR1 (off := pa * 1) (j := 0) tA52 (hS.2.2.1) rfl (by omega) rfl)) rfl ?_
                    clear hE a; intro a hE
                    refine d_take (v := Value.int .i64 (pb : Int)) p8_22_4 ns8_22 (by kernel_rfl) (by kernel_rfl) (fun _ _ _ h => h) hE wn_none rfl ⟨(C_to hCa K_s15), (C_to hCb K_s15), (fun j u h => cell_to K_s15 (hca j u h)), (fun j u h => cell_to K_s15 (hcb j u h)), trivial⟩ (fun W hS => (st_move rfl)) rfl ?_
                    clear hE a; intro a hE
                    refine d_take (v := Value.pointer (some (ea Aa pb))) p8_22_5 ns8_22 (by kernel_rfl) (by kernel_rfl) (fun _ _ _ h => h) hE wn_none rfl ⟨(C_to hCa K_s15), (C_to hCb K_s15), (fun j u h => cell_to K_s15 (hca j u h)), (fun j u h => cell_to K_s15 (hcb j u h)), trivial⟩ (fun W hS => (st_indexAddrS (i := pb) Try.underlying52 tS3 (C_at (C_to hCa K_s15) (show pb < _ by omega)).1 rfl rfl (by omega))) rfl ?_
                    clear hE a; intro a hE
                    refine d_take (v := Value.int .i64 (rd ha (pb : Int))) p8_22_6 ns8_22 (by kernel_rfl) (by kernel_rfl) (fun _ _ _ h => h) hE wn_none rfl ⟨(C_to hCa K_s15), (C_to hCb K_s15), (fun j u h => cell_to K_s15 (hca j u h)), (fun j u h => cell_to K_s15 (hcb j u h)), trivial⟩ (fun W hS => (st_loadC (i := pb) tA3 (hS.1) (by omega) rfl)) rfl ?_
                    clear hE a; intro a hE
                    refine d_take (v := Value.slice A_all n_all c_all) p8_22_7 ns8_22 (by kernel_rfl) (by kernel_rfl) (fun _ _ _ h => h) hE wn_none rfl ⟨(C_to hCa K_s15), (C_to hCb K_s15), (fun j u h => cell_to K_s15 (hca j u h)), (fun j u h => cell_to K_s15 (hcb j u h)), trivial⟩ (fun W hS => (st_move rfl)) rfl ?_
                    clear hE a; intro a hE
                    refine d_take (v := Value.int .i64 (pb : Int)) p8_22_8 ns8_22 (by kernel_rfl) (by kernel_rfl) (fun _ _ _ h => h) hE wn_none rfl ⟨(C_to hCa K_s15), (C_to hCb K_s15), (fun j u h => cell_to K_s15 (hca j u h)), (fun j u h => cell_to K_s15 (hcb j u h)), trivial⟩ (fun W hS => (st_move rfl)) rfl ?_
                    clear hE a; intro a hE
                    refine d_take (v := Value.pointer (some (ea A_all (pb * 1)))) p8_22_9 ns8_22 (by kernel_rfl) (by kernel_rfl) (fun _ _ _ h => h) hE wn_none rfl ⟨(C_to hCa K_s15), (C_to hCb K_s15), (fun j u h => cell_to K_s15 (hca j u h)), (fun j u h => cell_to K_s15 (hcb j u h)), trivial⟩ (fun W hS => (st_indexAddrR (i := pb) (s := 1) Try.underlying65 tS52 hAb rfl rfl (by omega))) rfl ?_
                    clear hE a; intro a hE
                    refine d_take (v := Value.slice Ab nn cb) p8_22_10 ns8_22 (by kernel_rfl) (by kernel_rfl) (fun _ _ _ h => h) hE wn_none rfl ⟨(C_to hCa K_s15), (C_to hCb K_s15), (fun j u h => cell_to K_s15 (hca j u h)), (fun j u h => cell_to K_s15 (hcb j u h)), trivial⟩ (fun W hS => (st_loadR1 (off := pb * 1) (j := 0) tA52 (hS.2.2.2.1) rfl (by omega) rfl)) rfl ?_
                    clear hE a; intro a hE
                    refine d_take (v := Value.int .i64 (pa : Int)) p8_22_11 ns8_22 (by kernel_rfl) (by kernel_rfl) (fun _ _ _ h => h) hE wn_none rfl ⟨(C_to hCa K_s15), (C_to hCb K_s15), (fun j u h => cell_to K_s15 (hca j u h)), (fun j u h => cell_to K_s15 (hcb j u h)), trivial⟩ (fun W hS => (st_move rfl)) rfl ?_
                    clear hE a; intro a hE
                    refine d_take (v := Value.pointer (some (ea Ab pa))) p8_22_12 ns8_22 (by kernel_rfl) (by kernel_rfl) (fun _ _ _ h => h) hE wn_none rfl ⟨(C_to hCa K_s15), (C_to hCb K_s15), (fun j u h => cell_to K_s15 (hca j u h)), (fun j u h => cell_to K_s15 (hcb j u h)), trivial⟩ (fun W hS => (st_indexAddrS (i := pa) Try.underlying52 tS3 (C_at (C_to hCb K_s15) (show pa < _ by omega)).1 rfl rfl (by omega))) rfl ?_
                    clear hE a; intro a hE
                    refine d_take (v := Value.int .i64 (rd hb (pa : Int))) p8_22_13 ns8_22 (by kernel_rfl) (by kernel_rfl) (fun _ _ _ h => h) hE wn_none rfl ⟨(C_to hCa K_s15), (C_to hCb K_s15), (fun j u h => cell_to K_s15 (hca j u h)), (fun j u h => cell_to K_s15 (hcb j u h)), trivial⟩ (fun W hS => (st_loadC (i := pa) tA3 (hS.2.1) (by omega) rfl)) rfl ?_
                    clear hE a; intro a hE
                    refine d_take (v := Value.bool false) p8_22_14 ns8_22 (by kernel_rfl) (by kernel_rfl) (fun _ _ _ h => h) hE wn_none rfl ⟨(C_to hCa K_s15), (C_to hCb K_s15), (fun j u h => cell_to K_s15 (hca j u h)), (fun j u h => cell_to K_s15 (hcb j u h)), trivial⟩ (fun W hS => (st_neq (b := false) rfl rfl (by rw [hbo]; simp))) rfl ?_
                    clear hE a; intro a hE
                    refine d_end (by kernel_rfl) ?_
                    refine x_norm ?_
                    refine c_cond (t := false) hE rfl ?_
                    refine wp_skip ?_
                    refine x_norm ?_
                    refine c_reg R8_24_l ?_
                    refine q0 p8_24_0 hE (st_assign rfl) ?_
                    clear hE a; intro a hE
                    refine p_nil ?_
                    refine x_norm ?_
                    refine wp_block ?_
                    refine c_loop (α := Nat) (fun pc a W => En 158 a [(0, Value.int .i64 (nn : Int)), (1, Value.slice a1 z1.length cap1), (5, Value.pointer (some ⟨gL, 0, none⟩)), (6, Value.int .i64 0), (28, Value.bool false), (7, Value.int .i64 (i : Int)), (36, Value.bool false), (9, Value.int .i64 (p : Int)), (8, Value.slice A_all n_all c_all), (58, Value.bool false), (10, Value.int .i64 (pa : Int)), (76, Value.bool true), (11, Value.int .i64 (pb : Int)), (81, Value.bool true), (98, Value.bool false), (12, Value.int .i64 (pc : Int))] ∧ pc ≤ nn ∧ W.heap[gL]? = some (.cells #[Value.int .i64 (nn : Int), Value.map (some gN)] 83 (0, 0)) ∧ W.heap[gN]? = some (.map es9 ck9) ∧ Kp w W (fun _ => False) ∧ Kp w6 W (fun _ => False)) (fun pc => nn - pc) (0) ?_ ?_
                    ·
                      exact ⟨En.sub hE ⟨rfl, rfl, rfl, rfl, rfl, rfl, rfl, rfl, rfl, rfl, rfl, rfl, rfl, rfl, rfl, rfl, trivial⟩, Nat.zero_le _, B_gL, B_gN, K_0, K_s15⟩
                    ·
                      clear hE a
                      rintro pc a w19 ⟨hE, hpc9, B_gL, B_gN, K_0, K_s15⟩
                      refine wp_seq ?_
                      rcases Decidable.em ((pc : Int) < (nn : Int)) with hPC | hPC
                      ·
                        refine c_reg R8_25_l ?_
                        refine q0 p8_25_0 hE (st_move rfl) ?_
                        clear hE a; intro a hE
                        refine q0 p8_25_1 hE (st_move rfl) ?_
                        clear hE a; intro a hE
                        refine q0 p8_25_2 hE (st_lss (b := true) rfl rfl (decide_eq_true hPC)) ?_
                        clear hE a; intro a hE
                        refine p_nil ?_
                        refine x_norm ?_
                        refine c_cond (t := true) hE rfl ?_
                        refine wp_skip ?_
                        refine x_norm ?_
                        refine wp_seq ?_
                        refine wp_block ?_
                        rcases Decidable.em (0 ≤ rd ha (pb : Int)) with hV1 | hV1
                        ·
                          rcases Decidable.em (0 ≤ rd hb (pc : Int)) with hV2 | hV2
                          ·
                            have hov := Bf.over3 (fun x y h => ed_lt h) (show pa < nn by omega) (show pb < nn by omega) (show pc < nn by omega) hFa hFb (by rw [← rd_at]; exact hV1) (by rw [← rd_at]; exact hV2)
                            rw [← rd_at, ← rd_at, ← rd_at] at hov
                            have hb1 := hBa pb (by omega)
                            have hb2 := hBb pc (by omega)
                            rw [← rd_at] at hb1 hb2
                            obtain ⟨hov1, hov2⟩ := hov
                            refine c_drawS (S := fun W => Kd.C (Kd.int .i64) W Aa nn ha ∧ Kd.C (Kd.int .i64) W Ab nn hb ∧ (∀ j u, ([Value.slice Aa nn ca])[j]? = some u → W.cell? (ea A_all (pa * 1 + j)) = some u) ∧ (∀ j u, ([Value.slice Ab nn cb])[j]? = some u → W.cell? (ea A_all (pb * 1 + j)) = some u) ∧ True) rfl rfl (listed := #[false, false, false, false, false, false, false, false, false, false, false, false, false, false, false, false, false, false, false, false, false, false, false, false, false, false, false, false, false, false, false, false, false, false, false, false, false, false, false, false, false, false, false, false, false, false, false, false, false, false, false, false, false]) rfl ?_
                            intro w20 hh hk
                            replace B_gL := kp_blk B_gL hk (fun h => h)
                            replace B_gN := kp_blk B_gN hk (fun h => h)
                            replace K_0 := K_0.then_ hk (fun _ h => h.elim)
                            replace K_s15 := K_s15.then_ hk (fun _ h => h.elim)
                            clear hh hk
                            refine d_take (v := Value.slice A_all n_all c_all) p8_27_0 ns8_27 (by kernel_rfl) (by kernel_rfl) (fun _ _ _ h => h) hE wn_none rfl ⟨(C_to hCa K_s15), (C_to hCb K_s15), (fun j u h => cell_to K_s15 (hca j u h)), (fun j u h => cell_to K_s15 (hcb j u h)), trivial⟩ (fun W hS => (st_move rfl)) rfl ?_
                            clear hE a; intro a hE
                            refine d_take (v := Value.int .i64 (pa : Int)) p8_27_1 ns8_27 (by kernel_rfl) (by kernel_rfl) (fun _ _ _ h => h) hE wn_none rfl ⟨(C_to hCa K_s15), (C_to hCb K_s15), (fun j u h => cell_to K_s15 (hca j u h)), (fun j u h => cell_to K_s15 (hcb j u h)), trivial⟩ (fun W hS => (st_move rfl)) rfl ?_
                            clear hE a; intro a hE
                            refine d_take (v := Value.pointer (some (ea A_all (pa * 1)))) p8_27_2 ns8_27 (by kernel_rfl) (by kernel_rfl) (fun _ _ _ h => h) hE wn_none rfl ⟨(C_to hCa K_s15), (C_to hCb K_s15), (fun j u h => cell_to K_s15 (hca j u h)), (fun j u h => cell_to K_s15 (hcb j u h)), trivial⟩ (fun W hS => (st_indexAddrR (i := pa) (s := 1) Try.underlying65 tS52 hAa rfl rfl (by omega))) rfl ?_
                            clear hE a; intro a hE
                            refine d_take (v := Value.slice Aa nn ca) p8_27_3 ns8_27 (by kernel_rfl) (by kernel_rfl) (fun _ _ _ h => h) hE wn_none rfl ⟨(C_to hCa K_s15), (C_to hCb K_s15), (fun j u h => cell_to K_s15 (hca j u h)), (fun j u h => cell_to K_s15 (hcb j u h)), trivial⟩ (fun W hS => (st_loadR1 (off := pa * 1) (j := 0) tA52 (hS.2.2.1) rfl (by omega) rfl)) rfl ?_
                            clear hE a; intro a hE
                            refine d_take (v := Value.int .i64 (pb : Int)) p8_27_4 ns8_27 (by kernel_rfl) (by kernel_rfl) (fun _ _ _ h => h) hE wn_none rfl ⟨(C_to hCa K_s15), (C_to hCb K_s15), (fun j u h => cell_to K_s15 (hca j u h)), (fun j u h => cell_to K_s15 (hcb j u h)), trivial⟩ (fun W hS => (st_move rfl)) rfl ?_
                            clear hE a; intro a hE
                            refine d_take (v := Value.pointer (some (ea Aa pb))) p8_27_5 ns8_27 (by kernel_rfl) (by kernel_rfl) (fun _ _ _ h => h) hE wn_none rfl ⟨(C_to hCa K_s15), (C_to hCb K_s15), (fun j u h => cell_to K_s15 (hca j u h)), (fun j u h => cell_to K_s15 (hcb j u h)), trivial⟩ (fun W hS => (st_indexAddrS (i := pb) Try.underlying52 tS3 (C_at (C_to hCa K_s15) (show pb < _ by omega)).1 rfl rfl (by omega))) rfl ?_
                            clear hE a; intro a hE
                            refine d_take (v := Value.int .i64 (rd ha (pb : Int))) p8_27_6 ns8_27 (by kernel_rfl) (by kernel_rfl) (fun _ _ _ h => h) hE wn_none rfl ⟨(C_to hCa K_s15), (C_to hCb K_s15), (fun j u h => cell_to K_s15 (hca j u h)), (fun j u h => cell_to K_s15 (hcb j u h)), trivial⟩ (fun W hS => (st_loadC (i := pb) tA3 (hS.1) (by omega) rfl)) rfl ?_
                            clear hE a; intro a hE
                            refine d_take (v := Value.bool true) p8_27_7 ns8_27 (by kernel_rfl) (by kernel_rfl) (fun _ _ _ h => h) hE wn_none rfl ⟨(C_to hCa K_s15), (C_to hCb K_s15), (fun j u h => cell_to K_s15 (hca j u h)), (fun j u h => cell_to K_s15 (hcb j u h)), trivial⟩ (fun W hS => (st_geq (b := true) rfl rfl (decide_eq_true hV1))) rfl ?_
                            clear hE a; intro a hE
                            refine d_take (v := Value.bool true) p8_27_8 ns8_27 (by kernel_rfl) (by kernel_rfl) (fun _ _ _ h => h) hE wn_none rfl ⟨(C_to hCa K_s15), (C_to hCb K_s15), (fun j u h => cell_to K_s15 (hca j u h)), (fun j u h => cell_to K_s15 (hcb j u h)), trivial⟩ (fun W hS => (st_move rfl)) rfl ?_
                            clear hE a; intro a hE
                            refine d_take (v := Value.slice A_all n_all c_all) p8_27_9 ns8_27 (by kernel_rfl) (by kernel_rfl) (fun _ _ _ h => h) hE (wn_some g8_27_8 rfl rfl) rfl ⟨(C_to hCa K_s15), (C_to hCb K_s15), (fun j u h => cell_to K_s15 (hca j u h)), (fun j u h => cell_to K_s15 (hcb j u h)), trivial⟩ (fun W hS => (st_move rfl)) rfl ?_
                            clear hE a; intro a hE
                            refine d_take (v := Value.int .i64 (pb : Int)) p8_27_10 ns8_27 (by kernel_rfl) (by kernel_rfl) (fun _ _ _ h => h) hE (wn_some g8_27_8 rfl rfl) rfl ⟨(C_to hCa K_s15), (C_to hCb K_s15), (fun j u h => cell_to K_s15 (hca j u h)), (fun j u h => cell_to K_s15 (hcb j u h)), trivial⟩ (fun W hS => (st_move rfl)) rfl ?_
                            clear hE a; intro a hE
                            refine d_take (v := Value.pointer (some (ea A_all (pb * 1)))) p8_27_11 ns8_27 (by kernel_rfl) (by kernel_rfl) (fun _ _ _ h => h) hE (wn_some g8_27_8 rfl rfl) rfl ⟨(C_to hCa K_s15), (C_to hCb K_s15), (fun j u h => cell_to K_s15 (hca j u h)), (fun j u h => cell_to K_s15 (hcb j u h)), trivial⟩ (fun W hS => (st_indexAddrR (i := pb) (s := 1) Try.underlying65 tS52 hAb rfl rfl (by omega))) rfl ?_
                            clear hE a; intro a hE
                            refine d_take (v := Value.slice Ab nn cb) p8_27_12 ns8_27 (by kernel_rfl) (by kernel_rfl) (fun _ _ _ h => h) hE (wn_some g8_27_8 rfl rfl) rfl ⟨(C_to hCa K_s15), (C_to hCb K_s15), (fun j u h => cell_to K_s15 (hca j u h)), (fun j u h => cell_to K_s15 (hcb j u h)), trivial⟩ (fun W hS => (st_loadR1 (off := pb * 1) (j := 0) tA52 (hS.2.2.2.1) rfl (by omega) rfl)) rfl ?_
                            clear hE a; intro a hE
                            refine d_take (v := Value.int .i64 (pc : Int)) p8_27_13 ns8_27 (by kernel_rfl) (by kernel_rfl) (fun _ _ _ h => h) hE (wn_some g8_27_8 rfl rfl) rfl ⟨(C_to hCa K_s15), (C_to hCb K_s15), (fun j u h => cell_to K_s15 (hca j u h)), (fun j u h => cell_to K_s15 (hcb j u h)), trivial⟩ (fun W hS => (st_move rfl)) rfl ?_
                            clear hE a; intro a hE
                            refine d_take (v := Value.pointer (some (ea Ab pc))) p8_27_14 ns8_27 (by kernel_rfl) (by kernel_rfl) (fun _ _ _ h => h) hE (wn_some g8_27_8 rfl rfl) rfl ⟨(C_to hCa K_s15), (C_to hCb K_s15), (fun j u h => cell_to K_s15 (hca j u h)), (fun j u h => cell_to K_s15 (hcb j u h)), trivial⟩ (fun W hS => (st_indexAddrS (i := pc) Try.underlying52 tS3 (C_at (C_to hCb K_s15) (show pc < _ by omega)).1 rfl rfl (by omega))) rfl ?_
                            clear hE a; intro a hE
                            refine d_take (v := Value.int .i64 (rd hb (pc : Int))) p8_27_15 ns8_27 (by kernel_rfl) (by kernel_rfl) (fun _ _ _ h => h) hE (wn_some g8_27_8 rfl rfl) rfl ⟨(C_to hCa K_s15), (C_to hCb K_s15), (fun j u h => cell_to K_s15 (hca j u h)), (fun j u h => cell_to K_s15 (hcb j u h)), trivial⟩ (fun W hS => (st_loadC (i := pc) tA3 (hS.2.1) (by omega) rfl)) rfl ?_
                            clear hE a; intro a hE
                            refine d_take (v := Value.bool true) p8_27_16 ns8_27 (by kernel_rfl) (by kernel_rfl) (fun _ _ _ h => h) hE (wn_some g8_27_8 rfl rfl) rfl ⟨(C_to hCa K_s15), (C_to hCb K_s15), (fun j u h => cell_to K_s15 (hca j u h)), (fun j u h => cell_to K_s15 (hcb j u h)), trivial⟩ (fun W hS => (st_geq (b := true) rfl rfl (decide_eq_true hV2))) rfl ?_
                            clear hE a; intro a hE
                            refine d_take (v := Value.bool true) p8_27_17 ns8_27 (by kernel_rfl) (by kernel_rfl) (fun _ _ _ h => h) hE wn_none rfl ⟨(C_to hCa K_s15), (C_to hCb K_s15), (fun j u h => cell_to K_s15 (hca j u h)), (fun j u h => cell_to K_s15 (hcb j u h)), trivial⟩ (fun W hS => (st_pick rfl rfl)) rfl ?_
                            clear hE a; intro a hE
                            refine d_take (v := Value.bool true) p8_27_18 ns8_27 (by kernel_rfl) (by kernel_rfl) (fun _ _ _ h => h) hE wn_none rfl ⟨(C_to hCa K_s15), (C_to hCb K_s15), (fun j u h => cell_to K_s15 (hca j u h)), (fun j u h => cell_to K_s15 (hcb j u h)), trivial⟩ (fun W hS => (st_move rfl)) rfl ?_
                            clear hE a; intro a hE
                            refine d_take (v := Value.slice A_all n_all c_all) p8_27_19 ns8_27 (by kernel_rfl) (by kernel_rfl) (fun _ _ _ h => h) hE (wn_some g8_27_18 rfl rfl) rfl ⟨(C_to hCa K_s15), (C_to hCb K_s15), (fun j u h => cell_to K_s15 (hca j u h)), (fun j u h => cell_to K_s15 (hcb j u h)), trivial⟩ (fun W hS => (st_move rfl)) rfl ?_
                            clear hE a; intro a hE
                            refine d_take (v := Value.int .i64 (pa : Int)) p8_27_20 ns8_27 (by kernel_rfl) (by kernel_rfl) (fun _ _ _ h => h) hE (wn_some g8_27_18 rfl rfl) rfl ⟨(C_to hCa K_s15), (C_to hCb K_s15), (fun j u h => cell_to K_s15 (hca j u h)), (fun j u h => cell_to K_s15 (hcb j u h)), trivial⟩ (fun W hS => (st_move rfl)) rfl ?_
                            clear hE a; intro a hE
                            refine d_take (v := Value.pointer (some (ea A_all (pa * 1)))) p8_27_21 ns8_27 (by kernel_rfl) (by kernel_rfl) (fun _ _ _ h => h) hE (wn_some g8_27_18 rfl rfl) rfl ⟨(C_to hCa K_s15), (C_to hCb K_s15), (fun j u h => cell_to K_s15 (hca j u h)), (fun j u h => cell_to K_s15 (hcb j u h)), trivial⟩ (fun W hS => (st_indexAddrR (i := pa) (s := 1) Try.underlying65 tS52 hAa rfl rfl (by omega))) rfl ?_
                            clear hE a; intro a hE
                            refine d_take (v := Value.slice Aa nn ca) p8_27_22 ns8_27 (by kernel_rfl) (by kernel_rfl) (fun _ _ _ h => h) hE (wn_some g8_27_18 rfl rfl) rfl ⟨(C_to hCa K_s15), (C_to hCb K_s15), (fun j u h => cell_to K_s15 (hca j u h)), (fun j u h => cell_to K_s15 (hcb j u h)), trivial⟩ (fun W hS => (st_loadR1 (off := pa * 1) (j := 0) tA52 (hS.2.2.1) rfl (by omega) rfl)) rfl ?_
                            clear hE a; intro a hE
                            refine d_take (v := Value.int .i64 (pc : Int)) p8_27_23 ns8_27 (by kernel_rfl) (by kernel_rfl) (fun _ _ _ h => h) hE (wn_some g8_27_18 rfl rfl) rfl ⟨(C_to hCa K_s15), (C_to hCb K_s15), (fun j u h => cell_to K_s15 (hca j u h)), (fun j u h => cell_to K_s15 (hcb j u h)), trivial⟩ (fun W hS => (st_move rfl)) rfl ?_
                            clear hE a; intro a hE
                            refine d_take (v := Value.pointer (some (ea Aa pc))) p8_27_24 ns8_27 (by kernel_rfl) (by kernel_rfl) (fun _ _ _ h => h) hE (wn_some g8_27_18 rfl rfl) rfl ⟨(C_to hCa K_s15), (C_to hCb K_s15), (fun j u h => cell_to K_s15 (hca j u h)), (fun j u h => cell_to K_s15 (hcb j u h)), trivial⟩ (fun W hS => (st_indexAddrS (i := pc) Try.underlying52 tS3 (C_at (C_to hCa K_s15) (show pc < _ by omega)).1 rfl rfl (by omega))) rfl ?_
                            clear hE a; intro a hE
                            refine d_take (v := Value.int .i64 (rd ha (pc : Int))) p8_27_25 ns8_27 (by kernel_rfl) (by kernel_rfl) (fun _ _ _ h => h) hE (wn_some g8_27_18 rfl rfl) rfl ⟨(C_to hCa K_s15), (C_to hCb K_s15), (fun j u h => cell_to K_s15 (hca j u h)), (fun j u h => cell_to K_s15 (hcb j u h)), trivial⟩ (fun W hS => (st_loadC (i := pc) tA3 (hS.1) (by omega) rfl)) rfl ?_
                            clear hE a; intro a hE
                            refine d_take (v := Value.bool false) p8_27_26 ns8_27 (by kernel_rfl) (by kernel_rfl) (fun _ _ _ h => h) hE (wn_some g8_27_18 rfl rfl) rfl ⟨(C_to hCa K_s15), (C_to hCb K_s15), (fun j u h => cell_to K_s15 (hca j u h)), (fun j u h => cell_to K_s15 (hcb j u h)), trivial⟩ (fun W hS => (st_lss (b := false) rfl rfl (decide_eq_false (by omega)))) rfl ?_
                            clear hE a; intro a hE
                            refine d_take (v := Value.bool false) p8_27_27 ns8_27 (by kernel_rfl) (by kernel_rfl) (fun _ _ _ h => h) hE (wn_some g8_27_18 rfl rfl) rfl ⟨(C_to hCa K_s15), (C_to hCb K_s15), (fun j u h => cell_to K_s15 (hca j u h)), (fun j u h => cell_to K_s15 (hcb j u h)), trivial⟩ (fun W hS => (st_move rfl)) rfl ?_
                            clear hE a; intro a hE
                            refine d_take (v := Value.slice A_all n_all c_all) p8_27_28 ns8_27 (by kernel_rfl) (by kernel_rfl) (fun _ _ _ h => h) hE (wn_some g8_27_27 rfl rfl) rfl ⟨(C_to hCa K_s15), (C_to hCb K_s15), (fun j u h => cell_to K_s15 (hca j u h)), (fun j u h => cell_to K_s15 (hcb j u h)), trivial⟩ (fun W hS => (st_move rfl)) rfl ?_
                            clear hE a; intro a hE
                            refine d_take (v := Value.int .i64 (pa : Int)) p8_27_29 ns8_27 (by kernel_rfl) (by kernel_rfl) (fun _ _ _ h => h) hE (wn_some g8_27_27 rfl rfl) rfl ⟨(C_to hCa K_s15), (C_to hCb K_s15), (fun j u h => cell_to K_s15 (hca j u h)), (fun j u h => cell_to K_s15 (hcb j u h)), trivial⟩ (fun W hS => (st_move rfl)) rfl ?_
                            clear hE a; intro a hE
                            refine d_take (v := Value.pointer (some (ea A_all (pa * 1)))) p8_27_30 ns8_27 (by kernel_rfl) (by kernel_rfl) (fun _ _ _ h => h) hE (wn_some g8_27_27 rfl rfl) rfl ⟨(C_to hCa K_s15), (C_to hCb K_s15), (fun j u h => cell_to K_s15 (hca j u h)), (fun j u h => cell_to K_s15 (hcb j u h)), trivial⟩ (fun W hS => (st_indexAddrR (i := pa) (s := 1) Try.underlying65 tS52 hAa rfl rfl (by omega))) rfl ?_
                            clear hE a; intro a hE
                            refine d_take (v := Value.slice Aa nn ca) p8_27_31 ns8_27 (by kernel_rfl) (by kernel_rfl) (fun _ _ _ h => h) hE (wn_some g8_27_27 rfl rfl) rfl ⟨(C_to hCa K_s15), (C_to hCb K_s15), (fun j u h => cell_to K_s15 (hca j u h)), (fun j u h => cell_to K_s15 (hcb j u h)), trivial⟩ (fun W hS => (st_loadR1 (off := pa * 1) (j := 0) tA52 (hS.2.2.1) rfl (by omega) rfl)) rfl ?_
                            clear hE a; intro a hE
                            refine d_take (v := Value.int .i64 (pc : Int)) p8_27_32 ns8_27 (by kernel_rfl) (by kernel_rfl) (fun _ _ _ h => h) hE (wn_some g8_27_27 rfl rfl) rfl ⟨(C_to hCa K_s15), (C_to hCb K_s15), (fun j u h => cell_to K_s15 (hca j u h)), (fun j u h => cell_to K_s15 (hcb j u h)), trivial⟩ (fun W hS => (st_move rfl)) rfl ?_
                            clear hE a; intro a hE
                            refine d_take (v := Value.pointer (some (ea Aa pc))) p8_27_33 ns8_27 (by kernel_rfl) (by kernel_rfl) (fun _ _ _ h => h) hE (wn_some g8_27_27 rfl rfl) rfl ⟨(C_to hCa K_s15), (C_to hCb K_s15), (fun j u h => cell_to K_s15 (hca j u h)), (fun j u h => cell_to K_s15 (hcb j u h)), trivial⟩ (fun W hS => (st_indexAddrS (i := pc) Try.underlying52 tS3 (C_at (C_to hCa K_s15) (show pc < _ by omega)).1 rfl rfl (by omega))) rfl ?_
                            clear hE a; intro a hE
                            refine d_take (v := Value.int .i64 (rd ha (pc : Int))) p8_27_34 ns8_27 (by kernel_rfl) (by kernel_rfl) (fun _ _ _ h => h) hE (wn_some g8_27_27 rfl rfl) rfl ⟨(C_to hCa K_s15), (C_to hCb K_s15), (fun j u h => cell_to K_s15 (hca j u h)), (fun j u h => cell_to K_s15 (hcb j u h)), trivial⟩ (fun W hS => (st_loadC (i := pc) tA3 (hS.1) (by omega) rfl)) rfl ?_
                            clear hE a; intro a hE
                            refine d_take (v := Value.slice A_all n_all c_all) p8_27_35 ns8_27 (by kernel_rfl) (by kernel_rfl) (fun _ _ _ h => h) hE (wn_some g8_27_27 rfl rfl) rfl ⟨(C_to hCa K_s15), (C_to hCb K_s15), (fun j u h => cell_to K_s15 (hca j u h)), (fun j u h => cell_to K_s15 (hcb j u h)), trivial⟩ (fun W hS => (st_move rfl)) rfl ?_
                            clear hE a; intro a hE
                            refine d_take (v := Value.int .i64 (pa : Int)) p8_27_36 ns8_27 (by kernel_rfl) (by kernel_rfl) (fun _ _ _ h => h) hE (wn_some g8_27_27 rfl rfl) rfl ⟨(C_to hCa K_s15), (C_to hCb K_s15), (fun j u h => cell_to K_s15 (hca j u h)), (fun j u h => cell_to K_s15 (hcb j u h)), trivial⟩ (fun W hS => (st_move rfl)) rfl ?_
                            clear hE a; intro a hE
                            refine d_take (v := Value.pointer (some (ea A_all (pa * 1)))) p8_27_37 ns8_27 (by kernel_rfl) (by kernel_rfl) (fun _ _ _ h => h) hE (wn_some g8_27_27 rfl rfl) rfl ⟨(C_to hCa K_s15), (C_to hCb K_s15), (fun j u h => cell_to K_s15 (hca j u h)), (fun j u h => cell_to K_s15 (hcb j u h)), trivial⟩ (fun W hS => (st_indexAddrR (i := pa) (s := 1) Try.underlying65 tS52 hAa rfl rfl (by omega))) rfl ?_
                            clear hE a; intro a hE
                            refine d_take (v := Value.slice Aa nn ca) p8_27_38 ns8_27 (by kernel_rfl) (by kernel_rfl) (fun _ _ _ h => h) hE (wn_some g8_27_27 rfl rfl) rfl ⟨(C_to hCa K_s15), (C_to hCb K_s15), (fun j u h => cell_to K_s15 (hca j u h)), (fun j u h => cell_to K_s15 (hcb j u h)), trivial⟩ (fun W hS => (st_loadR1 (off := pa * 1) (j := 0) tA52 (hS.2.2.1) rfl (by omega) rfl)) rfl ?_
                            clear hE a; intro a hE
                            refine d_take (v := Value.int .i64 (pb : Int)) p8_27_39 ns8_27 (by kernel_rfl) (by kernel_rfl) (fun _ _ _ h => h) hE (wn_some g8_27_27 rfl rfl) rfl ⟨(C_to hCa K_s15), (C_to hCb K_s15), (fun j u h => cell_to K_s15 (hca j u h)), (fun j u h => cell_to K_s15 (hcb j u h)), trivial⟩ (fun W hS => (st_move rfl)) rfl ?_
                            clear hE a; intro a hE
                            refine d_take (v := Value.pointer (some (ea Aa pb))) p8_27_40 ns8_27 (by kernel_rfl) (by kernel_rfl) (fun _ _ _ h => h) hE (wn_some g8_27_27 rfl rfl) rfl ⟨(C_to hCa K_s15), (C_to hCb K_s15), (fun j u h => cell_to K_s15 (hca j u h)), (fun j u h => cell_to K_s15 (hcb j u h)), trivial⟩ (fun W hS => (st_indexAddrS (i := pb) Try.underlying52 tS3 (C_at (C_to hCa K_s15) (show pb < _ by omega)).1 rfl rfl (by omega))) rfl ?_
                            clear hE a; intro a hE
                            refine d_take (v := Value.int .i64 (rd ha (pb : Int))) p8_27_41 ns8_27 (by kernel_rfl) (by kernel_rfl) (fun _ _ _ h => h) hE (wn_some g8_27_27 rfl rfl) rfl ⟨(C_to hCa K_s15), (C_to hCb K_s15), (fun j u h => cell_to K_s15 (hca j u h)), (fun j u h => cell_to K_s15 (hcb j u h)), trivial⟩ (fun W hS => (st_loadC (i := pb) tA3 (hS.1) (by omega) rfl)) rfl ?_
                            clear hE a; intro a hE
                            refine d_take (v := Value.slice A_all n_all c_all) p8_27_42 ns8_27 (by kernel_rfl) (by kernel_rfl) (fun _ _ _ h => h) hE (wn_some g8_27_27 rfl rfl) rfl ⟨(C_to hCa K_s15), (C_to hCb K_s15), (fun j u h => cell_to K_s15 (hca j u h)), (fun j u h => cell_to K_s15 (hcb j u h)), trivial⟩ (fun W hS => (st_move rfl)) rfl ?_
                            clear hE a; intro a hE
                            refine d_take (v := Value.int .i64 (pb : Int)) p8_27_43 ns8_27 (by kernel_rfl) (by kernel_rfl) (fun _ _ _ h => h) hE (wn_some g8_27_27 rfl rfl) rfl ⟨(C_to hCa K_s15), (C_to hCb K_s15), (fun j u h => cell_to K_s15 (hca j u h)), (fun j u h => cell_to K_s15 (hcb j u h)), trivial⟩ (fun W hS => (st_move rfl)) rfl ?_
                            clear hE a; intro a hE
                            refine d_take (v := Value.pointer (some (ea A_all (pb * 1)))) p8_27_44 ns8_27 (by kernel_rfl) (by kernel_rfl) (fun _ _ _ h => h) hE (wn_some g8_27_27 rfl rfl) rfl ⟨(C_to hCa K_s15), (C_to hCb K_s15), (fun j u h => cell_to K_s15 (hca j u h)), (fun j u h => cell_to K_s15 (hcb j u h)), trivial⟩ (fun W hS => (st_indexAddrR (i := pb) (s := 1) Try.underlying65 tS52 hAb rfl rfl (by omega))) rfl ?_
                            clear hE a; intro a hE
                            refine d_take (v := Value.slice Ab nn cb) p8_27_45 ns8_27 (by kernel_rfl) (by kernel_rfl) (fun _ _ _ h => h) hE (wn_some g8_27_27 rfl rfl) rfl ⟨(C_to hCa K_s15), (C_to hCb K_s15), (fun j u h => cell_to K_s15 (hca j u h)), (fun j u h => cell_to K_s15 (hcb j u h)), trivial⟩ (fun W hS => (st_loadR1 (off := pb * 1) (j := 0) tA52 (hS.2.2.2.1) rfl (by omega) rfl)) rfl ?_
                            clear hE a; intro a hE
                            refine d_take (v := Value.int .i64 (pc : Int)) p8_27_46 ns8_27 (by kernel_rfl) (by kernel_rfl) (fun _ _ _ h => h) hE (wn_some g8_27_27 rfl rfl) rfl ⟨(C_to hCa K_s15), (C_to hCb K_s15), (fun j u h => cell_to K_s15 (hca j u h)), (fun j u h => cell_to K_s15 (hcb j u h)), trivial⟩ (fun W hS => (st_move rfl)) rfl ?_
                            clear hE a; intro a hE
                            refine d_take (v := Value.pointer (some (ea Ab pc))) p8_27_47 ns8_27 (by kernel_rfl) (by kernel_rfl) (fun _ _ _ h => h) hE (wn_some g8_27_27 rfl rfl) rfl ⟨(C_to hCa K_s15), (C_to hCb K_s15), (fun j u h => cell_to K_s15 (hca j u h)), (fun j u h => cell_to K_s15 (hcb j u h)), trivial⟩ (fun W hS => (st_indexAddrS (i := pc) Try.underlying52 tS3 (C_at (C_to hCb K_s15) (show pc < _ by omega)).1 rfl rfl (by omega))) rfl ?_
                            clear hE a; intro a hE
                            refine d_take (v := Value.int .i64 (rd hb (pc : Int))) p8_27_48 ns8_27 (by kernel_rfl) (by kernel_rfl) (fun _ _ _ h => h) hE (wn_some g8_27_27 rfl rfl) rfl ⟨(C_to hCa K_s15), (C_to hCb K_s15), (fun j u h => cell_to K_s15 (hca j u h)), (fun j u h => cell_to K_s15 (hcb j u h)), trivial⟩ (fun W hS => (st_loadC (i := pc) tA3 (hS.2.1) (by omega) rfl)) rfl ?_
                            clear hE a; intro a hE
                            refine d_take (v := Value.int .i64 ((rd ha (pb : Int)) + (rd hb (pc : Int)))) p8_27_49 ns8_27 (by kernel_rfl) (by kernel_rfl) (fun _ _ _ h => h) hE (wn_some g8_27_27 rfl rfl) rfl ⟨(C_to hCa K_s15), (C_to hCb K_s15), (fun j u h => cell_to K_s15 (hca j u h)), (fun j u h => cell_to K_s15 (hcb j u h)), trivial⟩ (fun W hS => (st_add (z := (rd ha (pb : Int)) + (rd hb (pc : Int))) rfl rfl (wr_i64 _ (by omega) (by omega)))) rfl ?_
                            clear hE a; intro a hE
                            refine d_take (v := Value.bool false) p8_27_50 ns8_27 (by kernel_rfl) (by kernel_rfl) (fun _ _ _ h => h) hE (wn_some g8_27_27 rfl rfl) rfl ⟨(C_to hCa K_s15), (C_to hCb K_s15), (fun j u h => cell_to K_s15 (hca j u h)), (fun j u h => cell_to K_s15 (hcb j u h)), trivial⟩ (fun W hS => (st_gtr (b := false) rfl rfl (decide_eq_false (by omega)))) rfl ?_
                            clear hE a; intro a hE
                            refine d_take (v := Value.bool false) p8_27_51 ns8_27 (by kernel_rfl) (by kernel_rfl) (fun _ _ _ h => h) hE (wn_some g8_27_18 rfl rfl) rfl ⟨(C_to hCa K_s15), (C_to hCb K_s15), (fun j u h => cell_to K_s15 (hca j u h)), (fun j u h => cell_to K_s15 (hcb j u h)), trivial⟩ (fun W hS => (st_pick rfl rfl)) rfl ?_
                            clear hE a; intro a hE
                            refine d_take (v := Value.bool false) p8_27_52 ns8_27 (by kernel_rfl) (by kernel_rfl) (fun _ _ _ h => h) hE wn_none rfl ⟨(C_to hCa K_s15), (C_to hCb K_s15), (fun j u h => cell_to K_s15 (hca j u h)), (fun j u h => cell_to K_s15 (hcb j u h)), trivial⟩ (fun W hS => (st_pick rfl rfl)) rfl ?_
                            clear hE a; intro a hE
                            refine d_end (by kernel_rfl) ?_
                            refine x_norm ?_
                            refine c_cond (t := false) hE rfl ?_
                            refine wp_skip ?_
                            refine x_normB ?_
                            refine x_norm ?_
                            refine c_regL R8_26_l ?_
                            refine q0 p8_26_0 hE (st_move rfl) ?_
                            clear hE a; intro a hE
                            refine q0 p8_26_1 hE (st_add (z := (pc : Int) + 1) rfl rfl (wr_i64 _ (by omega) (by omega))) ?_
                            clear hE a; intro a hE
                            refine q0 p8_26_2 hE (st_assign rfl) ?_
                            clear hE a; intro a hE
                            refine p_nil ?_
                            refine x_norm ?_
                            exact ⟨pc + 1, by omega, En.sub hE ⟨rfl, rfl, rfl, rfl, rfl, rfl, rfl, rfl, rfl, rfl, rfl, rfl, rfl, rfl, rfl, rfl, trivial⟩, by omega, B_gL, B_gN, K_0, K_s15⟩
                          ·
                            refine c_drawS (S := fun W => Kd.C (Kd.int .i64) W Aa nn ha ∧ Kd.C (Kd.int .i64) W Ab nn hb ∧ (∀ j u, ([Value.slice Aa nn ca])[j]? = some u → W.cell? (ea A_all (pa * 1 + j)) = some u) ∧ (∀ j u, ([Value.slice Ab nn cb])[j]? = some u → W.cell? (ea A_all (pb * 1 + j)) = some u) ∧ True) rfl rfl (listed := #[false, false, false, false, false, false, false, false, false, false, false, false, false, false, false, false, false, false, false, false, false, false, false, false, false, false, false, false, false, false, false, false, false, false, false, false, false, false, false, false, false, false, false, false, false, false, false, false, false, false, false, false, false]) rfl ?_
                            intro w21 hh hk
                            replace B_gL := kp_blk B_gL hk (fun h => h)
                            replace B_gN := kp_blk B_gN hk (fun h => h)
                            replace K_0 := K_0.then_ hk (fun _ h => h.elim)
                            replace K_s15 := K_s15.then_ hk (fun _ h => h.elim)
                            clear hh hk
                            refine d_take (v := Value.slice A_all n_all c_all) p8_27_0 ns8_27 (by kernel_rfl) (by kernel_rfl) (fun _ _ _ h => h) hE wn_none rfl ⟨(C_to hCa K_s15), (C_to hCb K_s15), (fun j u h => cell_to K_s15 (hca j u h)), (fun j u h => cell_to K_s15 (hcb j u h)), trivial⟩ (fun W hS => (st_move rfl)) rfl ?_
                            clear hE a; intro a hE
                            refine d_take (v := Value.int .i64 (pa : Int)) p8_27_1 ns8_27 (by kernel_rfl) (by kernel_rfl) (fun _ _ _ h => h) hE wn_none rfl ⟨(C_to hCa K_s15), (C_to hCb K_s15), (fun j u h => cell_to K_s15 (hca j u h)), (fun j u h => cell_to K_s15 (hcb j u h)), trivial⟩ (fun W hS => (st_move rfl)) rfl ?_
                            clear hE a; intro a hE
                            refine d_take (v := Value.pointer (some (ea A_all (pa * 1)))) p8_27_2 ns8_27 (by kernel_rfl) (by kernel_rfl) (fun _ _ _ h => h) hE wn_none rfl ⟨(C_to hCa K_s15), (C_to hCb K_s15), (fun j u h => cell_to K_s15 (hca j u h)), (fun j u h => cell_to K_s15 (hcb j u h)), trivial⟩ (fun W hS => (st_indexAddrR (i := pa) (s := 1) Try.underlying65 tS52 hAa rfl rfl (by omega))) rfl ?_
                            clear hE a; intro a hE
                            refine d_take (v := Value.slice Aa nn ca) p8_27_3 ns8_27 (by kernel_rfl) (by kernel_rfl) (fun _ _ _ h => h) hE wn_none rfl ⟨(C_to hCa K_s15), (C_to hCb K_s15), (fun j u h => cell_to K_s15 (hca j u h)), (fun j u h => cell_to K_s15 (hcb j u h)), trivial⟩ (fun W hS => (st_loadR1 (off := pa * 1) (j := 0) tA52 (hS.2.2.1) rfl (by omega) rfl)) rfl ?_
                            clear hE a; intro a hE
                            refine d_take (v := Value.int .i64 (pb : Int)) p8_27_4 ns8_27 (by kernel_rfl) (by kernel_rfl) (fun _ _ _ h => h) hE wn_none rfl ⟨(C_to hCa K_s15), (C_to hCb K_s15), (fun j u h => cell_to K_s15 (hca j u h)), (fun j u h => cell_to K_s15 (hcb j u h)), trivial⟩ (fun W hS => (st_move rfl)) rfl ?_
                            clear hE a; intro a hE
                            refine d_take (v := Value.pointer (some (ea Aa pb))) p8_27_5 ns8_27 (by kernel_rfl) (by kernel_rfl) (fun _ _ _ h => h) hE wn_none rfl ⟨(C_to hCa K_s15), (C_to hCb K_s15), (fun j u h => cell_to K_s15 (hca j u h)), (fun j u h => cell_to K_s15 (hcb j u h)), trivial⟩ (fun W hS => (st_indexAddrS (i := pb) Try.underlying52 tS3 (C_at (C_to hCa K_s15) (show pb < _ by omega)).1 rfl rfl (by omega))) rfl ?_
                            clear hE a; intro a hE
                            refine d_take (v := Value.int .i64 (rd ha (pb : Int))) p8_27_6 ns8_27 (by kernel_rfl) (by kernel_rfl) (fun _ _ _ h => h) hE wn_none rfl ⟨(C_to hCa K_s15), (C_to hCb K_s15), (fun j u h => cell_to K_s15 (hca j u h)), (fun j u h => cell_to K_s15 (hcb j u h)), trivial⟩ (fun W hS => (st_loadC (i := pb) tA3 (hS.1) (by omega) rfl)) rfl ?_
                            clear hE a; intro a hE
                            refine d_take (v := Value.bool true) p8_27_7 ns8_27 (by kernel_rfl) (by kernel_rfl) (fun _ _ _ h => h) hE wn_none rfl ⟨(C_to hCa K_s15), (C_to hCb K_s15), (fun j u h => cell_to K_s15 (hca j u h)), (fun j u h => cell_to K_s15 (hcb j u h)), trivial⟩ (fun W hS => (st_geq (b := true) rfl rfl (decide_eq_true hV1))) rfl ?_
                            clear hE a; intro a hE
                            refine d_take (v := Value.bool true) p8_27_8 ns8_27 (by kernel_rfl) (by kernel_rfl) (fun _ _ _ h => h) hE wn_none rfl ⟨(C_to hCa K_s15), (C_to hCb K_s15), (fun j u h => cell_to K_s15 (hca j u h)), (fun j u h => cell_to K_s15 (hcb j u h)), trivial⟩ (fun W hS => (st_move rfl)) rfl ?_
                            clear hE a; intro a hE
                            refine d_take (v := Value.slice A_all n_all c_all) p8_27_9 ns8_27 (by kernel_rfl) (by kernel_rfl) (fun _ _ _ h => h) hE (wn_some g8_27_8 rfl rfl) rfl ⟨(C_to hCa K_s15), (C_to hCb K_s15), (fun j u h => cell_to K_s15 (hca j u h)), (fun j u h => cell_to K_s15 (hcb j u h)), trivial⟩ (fun W hS => (st_move rfl)) rfl ?_
                            clear hE a; intro a hE
                            refine d_take (v := Value.int .i64 (pb : Int)) p8_27_10 ns8_27 (by kernel_rfl) (by kernel_rfl) (fun _ _ _ h => h) hE (wn_some g8_27_8 rfl rfl) rfl ⟨(C_to hCa K_s15), (C_to hCb K_s15), (fun j u h => cell_to K_s15 (hca j u h)), (fun j u h => cell_to K_s15 (hcb j u h)), trivial⟩ (fun W hS => (st_move rfl)) rfl ?_
                            clear hE a; intro a hE
                            refine d_take (v := Value.pointer (some (ea A_all (pb * 1)))) p8_27_11 ns8_27 (by kernel_rfl) (by kernel_rfl) (fun _ _ _ h => h) hE (wn_some g8_27_8 rfl rfl) rfl ⟨(C_to hCa K_s15), (C_to hCb K_s15), (fun j u h => cell_to K_s15 (hca j u h)), (fun j u h => cell_to K_s15 (hcb j u h)), trivial⟩ (fun W hS => (st_indexAddrR (i := pb) (s := 1) Try.underlying65 tS52 hAb rfl rfl (by omega))) rfl ?_
                            clear hE a; intro a hE
                            refine d_take (v := Value.slice Ab nn cb) p8_27_12 ns8_27 (by kernel_rfl) (by kernel_rfl) (fun _ _ _ h => h) hE (wn_some g8_27_8 rfl rfl) rfl ⟨(C_to hCa K_s15), (C_to hCb K_s15), (fun j u h => cell_to K_s15 (hca j u h)), (fun j u h => cell_to K_s15 (hcb j u h)), trivial⟩ (fun W hS => (st_loadR1 (off := pb * 1) (j := 0) tA52 (hS.2.2.2.1) rfl (by omega) rfl)) rfl ?_
                            clear hE a; intro a hE
                            refine d_take (v := Value.int .i64 (pc : Int)) p8_27_13 ns8_27 (by kernel_rfl) (by kernel_rfl) (fun _ _ _ h => h) hE (wn_some g8_27_8 rfl rfl) rfl ⟨(C_to hCa K_s15), (C_to hCb K_s15), (fun j u h => cell_to K_s15 (hca j u h)), (fun j u h => cell_to K_s15 (hcb j u h)), trivial⟩ (fun W hS => (st_move rfl)) rfl ?_
                            clear hE a; intro a hE
                            refine d_take (v := Value.pointer (some (ea Ab pc))) p8_27_14 ns8_27 (by kernel_rfl) (by kernel_rfl) (fun _ _ _ h => h) hE (wn_some g8_27_8 rfl rfl) rfl ⟨(C_to hCa K_s15), (C_to hCb K_s15), (fun j u h => cell_to K_s15 (hca j u h)), (fun j u h => cell_to K_s15 (hcb j u h)), trivial⟩ (fun W hS => (st_indexAddrS (i := pc) Try.underlying52 tS3 (C_at (C_to hCb K_s15) (show pc < _ by omega)).1 rfl rfl (by omega))) rfl ?_
                            clear hE a; intro a hE
                            refine d_take (v := Value.int .i64 (rd hb (pc : Int))) p8_27_15 ns8_27 (by kernel_rfl) (by kernel_rfl) (fun _ _ _ h => h) hE (wn_some g8_27_8 rfl rfl) rfl ⟨(C_to hCa K_s15), (C_to hCb K_s15), (fun j u h => cell_to K_s15 (hca j u h)), (fun j u h => cell_to K_s15 (hcb j u h)), trivial⟩ (fun W hS => (st_loadC (i := pc) tA3 (hS.2.1) (by omega) rfl)) rfl ?_
                            clear hE a; intro a hE
                            refine d_take (v := Value.bool false) p8_27_16 ns8_27 (by kernel_rfl) (by kernel_rfl) (fun _ _ _ h => h) hE (wn_some g8_27_8 rfl rfl) rfl ⟨(C_to hCa K_s15), (C_to hCb K_s15), (fun j u h => cell_to K_s15 (hca j u h)), (fun j u h => cell_to K_s15 (hcb j u h)), trivial⟩ (fun W hS => (st_geq (b := false) rfl rfl (decide_eq_false hV2))) rfl ?_
                            clear hE a; intro a hE
                            refine d_take (v := Value.bool false) p8_27_17 ns8_27 (by kernel_rfl) (by kernel_rfl) (fun _ _ _ h => h) hE wn_none rfl ⟨(C_to hCa K_s15), (C_to hCb K_s15), (fun j u h => cell_to K_s15 (hca j u h)), (fun j u h => cell_to K_s15 (hcb j u h)), trivial⟩ (fun W hS => (st_pick rfl rfl)) rfl ?_
                            clear hE a; intro a hE
                            refine d_take (v := Value.bool false) p8_27_18 ns8_27 (by kernel_rfl) (by kernel_rfl) (fun _ _ _ h => h) hE wn_none rfl ⟨(C_to hCa K_s15), (C_to hCb K_s15), (fun j u h => cell_to K_s15 (hca j u h)), (fun j u h => cell_to K_s15 (hcb j u h)), trivial⟩ (fun W hS => (st_move rfl)) rfl ?_
                            clear hE a; intro a hE
                            refine d_skip p8_27_19 ns8_27 (by kernel_rfl) (by kernel_rfl) (fun _ _ _ h => h) hE (wn_some g8_27_18 rfl rfl) rfl ⟨(C_to hCa K_s15), (C_to hCb K_s15), (fun j u h => cell_to K_s15 (hca j u h)), (fun j u h => cell_to K_s15 (hcb j u h)), trivial⟩ rfl ?_
                            clear hE a; intro a hE
                            refine d_skip p8_27_20 ns8_27 (by kernel_rfl) (by kernel_rfl) (fun _ _ _ h => h) hE (wn_some g8_27_18 rfl rfl) rfl ⟨(C_to hCa K_s15), (C_to hCb K_s15), (fun j u h => cell_to K_s15 (hca j u h)), (fun j u h => cell_to K_s15 (hcb j u h)), trivial⟩ rfl ?_
                            clear hE a; intro a hE
                            refine d_skip p8_27_21 ns8_27 (by kernel_rfl) (by kernel_rfl) (fun _ _ _ h => h) hE (wn_some g8_27_18 rfl rfl) rfl ⟨(C_to hCa K_s15), (C_to hCb K_s15), (fun j u h => cell_to K_s15 (hca j u h)), (fun j u h => cell_to K_s15 (hcb j u h)), trivial⟩ rfl ?_
                            clear hE a; intro a hE
                            refine d_skip p8_27_22 ns8_27 (by kernel_rfl) (by kernel_rfl) (fun _ _ _ h => h) hE (wn_some g8_27_18 rfl rfl) rfl ⟨(C_to hCa K_s15), (C_to hCb K_s15), (fun j u h => cell_to K_s15 (hca j u h)), (fun j u h => cell_to K_s15 (hcb j u h)), trivial⟩ rfl ?_
                            clear hE a; intro a hE
                            refine d_skip p8_27_23 ns8_27 (by kernel_rfl) (by kernel_rfl) (fun _ _ _ h => h) hE (wn_some g8_27_18 rfl rfl) rfl ⟨(C_to hCa K_s15), (C_to hCb K_s15), (fun j u h => cell_to K_s15 (hca j u h)), (fun j u h => cell_to K_s15 (hcb j u h)), trivial⟩ rfl ?_
                            clear hE a; intro a hE
                            refine d_skip p8_27_24 ns8_27 (by kernel_rfl) (by kernel_rfl) (fun _ _ _ h => h) hE (wn_some g8_27_18 rfl rfl) rfl ⟨(C_to hCa K_s15), (C_to hCb K_s15), (fun j u h => cell_to K_s15 (hca j u h)), (fun j u h => cell_to K_s15 (hcb j u h)), trivial⟩ rfl ?_
                            clear hE a; intro a hE
                            refine d_skip p8_27_25 ns8_27 (by kernel_rfl) (by kernel_rfl) (fun _ _ _ h => h) hE (wn_some g8_27_18 rfl rfl) rfl ⟨(C_to hCa K_s15), (C_to hCb K_s15), (fun j u h => cell_to K_s15 (hca j u h)), (fun j u h => cell_to K_s15 (hcb j u h)), trivial⟩ rfl ?_
                            clear hE a; intro a hE
                            refine d_skip p8_27_26 ns8_27 (by kernel_rfl) (by kernel_rfl) (fun _ _ _ h => h) hE (wn_some g8_27_18 rfl rfl) rfl ⟨(C_to hCa K_s15), (C_to hCb K_s15), (fun j u h => cell_to K_s15 (hca j u h)), (fun j u h => cell_to K_s15 (hcb j u h)), trivial⟩ rfl ?_
                            clear hE a; intro a hE
                            refine d_skip p8_27_27 ns8_27 (by kernel_rfl) (by kernel_rfl) (fun _ _ _ h => h) hE (wn_some g8_27_18 rfl rfl) rfl ⟨(C_to hCa K_s15), (C_to hCb K_s15), (fun j u h => cell_to K_s15 (hca j u h)), (fun j u h => cell_to K_s15 (hcb j u h)), trivial⟩ rfl ?_
                            clear hE a; intro a hE
                            refine d_skip p8_27_28 ns8_27 (by kernel_rfl) (by kernel_rfl) (fun _ _ _ h => h) hE (wn_undef g8_27_27 rfl) rfl ⟨(C_to hCa K_s15), (C_to hCb K_s15), (fun j u h => cell_to K_s15 (hca j u h)), (fun j u h => cell_to K_s15 (hcb j u h)), trivial⟩ rfl ?_
                            clear hE a; intro a hE
                            refine d_skip p8_27_29 ns8_27 (by kernel_rfl) (by kernel_rfl) (fun _ _ _ h => h) hE (wn_undef g8_27_27 rfl) rfl ⟨(C_to hCa K_s15), (C_to hCb K_s15), (fun j u h => cell_to K_s15 (hca j u h)), (fun j u h => cell_to K_s15 (hcb j u h)), trivial⟩ rfl ?_
                            clear hE a; intro a hE
                            refine d_skip p8_27_30 ns8_27 (by kernel_rfl) (by kernel_rfl) (fun _ _ _ h => h) hE (wn_undef g8_27_27 rfl) rfl ⟨(C_to hCa K_s15), (C_to hCb K_s15), (fun j u h => cell_to K_s15 (hca j u h)), (fun j u h => cell_to K_s15 (hcb j u h)), trivial⟩ rfl ?_
                            clear hE a; intro a hE
                            refine d_skip p8_27_31 ns8_27 (by kernel_rfl) (by kernel_rfl) (fun _ _ _ h => h) hE (wn_undef g8_27_27 rfl) rfl ⟨(C_to hCa K_s15), (C_to hCb K_s15), (fun j u h => cell_to K_s15 (hca j u h)), (fun j u h => cell_to K_s15 (hcb j u h)), trivial⟩ rfl ?_
                            clear hE a; intro a hE
                            refine d_skip p8_27_32 ns8_27 (by kernel_rfl) (by kernel_rfl) (fun _ _ _ h => h) hE (wn_undef g8_27_27 rfl) rfl ⟨(C_to hCa K_s15), (C_to hCb K_s15), (fun j u h => cell_to K_s15 (hca j u h)), (fun j u h => cell_to K_s15 (hcb j u h)), trivial⟩ rfl ?_
                            clear hE a; intro a hE
                            refine d_skip p8_27_33 ns8_27 (by kernel_rfl) (by kernel_rfl) (fun _ _ _ h => h) hE (wn_undef g8_27_27 rfl) rfl ⟨(C_to hCa K_s15), (C_to hCb K_s15), (fun j u h => cell_to K_s15 (hca j u h)), (fun j u h => cell_to K_s15 (hcb j u h)), trivial⟩ rfl ?_
                            clear hE a; intro a hE
                            refine d_skip p8_27_34 ns8_27 (by kernel_rfl) (by kernel_rfl) (fun _ _ _ h => h) hE (wn_undef g8_27_27 rfl) rfl ⟨(C_to hCa K_s15), (C_to hCb K_s15), (fun j u h => cell_to K_s15 (hca j u h)), (fun j u h => cell_to K_s15 (hcb j u h)), trivial⟩ rfl ?_
                            clear hE a; intro a hE
                            refine d_skip p8_27_35 ns8_27 (by kernel_rfl) (by kernel_rfl) (fun _ _ _ h => h) hE (wn_undef g8_27_27 rfl) rfl ⟨(C_to hCa K_s15), (C_to hCb K_s15), (fun j u h => cell_to K_s15 (hca j u h)), (fun j u h => cell_to K_s15 (hcb j u h)), trivial⟩ rfl ?_
                            clear hE a; intro a hE
                            refine d_skip p8_27_36 ns8_27 (by kernel_rfl) (by kernel_rfl) (fun _ _ _ h => h) hE (wn_undef g8_27_27 rfl) rfl ⟨(C_to hCa K_s15), (C_to hCb K_s15), (fun j u h => cell_to K_s15 (hca j u h)), (fun j u h => cell_to K_s15 (hcb j u h)), trivial⟩ rfl ?_
                            clear hE a; intro a hE
                            refine d_skip p8_27_37 ns8_27 (by kernel_rfl) (by kernel_rfl) (fun _ _ _ h => h) hE (wn_undef g8_27_27 rfl) rfl ⟨(C_to hCa K_s15), (C_to hCb K_s15), (fun j u h => cell_to K_s15 (hca j u h)), (fun j u h => cell_to K_s15 (hcb j u h)), trivial⟩ rfl ?_
                            clear hE a; intro a hE
                            refine d_skip p8_27_38 ns8_27 (by kernel_rfl) (by kernel_rfl) (fun _ _ _ h => h) hE (wn_undef g8_27_27 rfl) rfl ⟨(C_to hCa K_s15), (C_to hCb K_s15), (fun j u h => cell_to K_s15 (hca j u h)), (fun j u h => cell_to K_s15 (hcb j u h)), trivial⟩ rfl ?_
                            clear hE a; intro a hE
                            refine d_skip p8_27_39 ns8_27 (by kernel_rfl) (by kernel_rfl) (fun _ _ _ h => h) hE (wn_undef g8_27_27 rfl) rfl ⟨(C_to hCa K_s15), (C_to hCb K_s15), (fun j u h => cell_to K_s15 (hca j u h)), (fun j u h => cell_to K_s15 (hcb j u h)), trivial⟩ rfl ?_
                            clear hE a; intro a hE
                            refine d_skip p8_27_40 ns8_27 (by kernel_rfl) (by kernel_rfl) (fun _ _ _ h => h) hE (wn_undef g8_27_27 rfl) rfl ⟨(C_to hCa K_s15), (C_to hCb K_s15), (fun j u h => cell_to K_s15 (hca j u h)), (fun j u h => cell_to K_s15 (hcb j u h)), trivial⟩ rfl ?_
                            clear hE a; intro a hE
                            refine d_skip p8_27_41 ns8_27 (by kernel_rfl) (by kernel_rfl) (fun _ _ _ h => h) hE (wn_undef g8_27_27 rfl) rfl ⟨(C_to hCa K_s15), (C_to hCb K_s15), (fun j u h => cell_to K_s15 (hca j u h)), (fun j u h => cell_to K_s15 (hcb j u h)), trivial⟩ rfl ?_
                            clear hE a; intro a hE
                            refine d_skip p8_27_42 ns8_27 (by kernel_rfl) (by kernel_rfl) (fun _ _ _ h => h) hE (wn_undef g8_27_27 rfl) rfl ⟨(C_to hCa K_s15), (C_to hCb K_s15), (fun j u h => cell_to K_s15 (hca j u h)), (fun j u h => cell_to K_s15 (hcb j u h)), trivial⟩ rfl ?_
                            clear hE a; intro a hE
                            refine d_skip p8_27_43 ns8_27 (by kernel_rfl) (by kernel_rfl) (fun _ _ _ h => h) hE (wn_undef g8_27_27 rfl) rfl ⟨(C_to hCa K_s15), (C_to hCb K_s15), (fun j u h => cell_to K_s15 (hca j u h)), (fun j u h => cell_to K_s15 (hcb j u h)), trivial⟩ rfl ?_
                            clear hE a; intro a hE
                            refine d_skip p8_27_44 ns8_27 (by kernel_rfl) (by kernel_rfl) (fun _ _ _ h => h) hE (wn_undef g8_27_27 rfl) rfl ⟨(C_to hCa K_s15), (C_to hCb K_s15), (fun j u h => cell_to K_s15 (hca j u h)), (fun j u h => cell_to K_s15 (hcb j u h)), trivial⟩ rfl ?_
                            clear hE a; intro a hE
                            refine d_skip p8_27_45 ns8_27 (by kernel_rfl) (by kernel_rfl) (fun _ _ _ h => h) hE (wn_undef g8_27_27 rfl) rfl ⟨(C_to hCa K_s15), (C_to hCb K_s15), (fun j u h => cell_to K_s15 (hca j u h)), (fun j u h => cell_to K_s15 (hcb j u h)), trivial⟩ rfl ?_
                            clear hE a; intro a hE
                            refine d_skip p8_27_46 ns8_27 (by kernel_rfl) (by kernel_rfl) (fun _ _ _ h => h) hE (wn_undef g8_27_27 rfl) rfl ⟨(C_to hCa K_s15), (C_to hCb K_s15), (fun j u h => cell_to K_s15 (hca j u h)), (fun j u h => cell_to K_s15 (hcb j u h)), trivial⟩ rfl ?_
                            clear hE a; intro a hE
                            refine d_skip p8_27_47 ns8_27 (by kernel_rfl) (by kernel_rfl) (fun _ _ _ h => h) hE (wn_undef g8_27_27 rfl) rfl ⟨(C_to hCa K_s15), (C_to hCb K_s15), (fun j u h => cell_to K_s15 (hca j u h)), (fun j u h => cell_to K_s15 (hcb j u h)), trivial⟩ rfl ?_
                            clear hE a; intro a hE
                            refine d_skip p8_27_48 ns8_27 (by kernel_rfl) (by kernel_rfl) (fun _ _ _ h => h) hE (wn_undef g8_27_27 rfl) rfl ⟨(C_to hCa K_s15), (C_to hCb K_s15), (fun j u h => cell_to K_s15 (hca j u h)), (fun j u h => cell_to K_s15 (hcb j u h)), trivial⟩ rfl ?_
                            clear hE a; intro a hE
                            refine d_skip p8_27_49 ns8_27 (by kernel_rfl) (by kernel_rfl) (fun _ _ _ h => h) hE (wn_undef g8_27_27 rfl) rfl ⟨(C_to hCa K_s15), (C_to hCb K_s15), (fun j u h => cell_to K_s15 (hca j u h)), (fun j u h => cell_to K_s15 (hcb j u h)), trivial⟩ rfl ?_
                            clear hE a; intro a hE
                            refine d_skip p8_27_50 ns8_27 (by kernel_rfl) (by kernel_rfl) (fun _ _ _ h => h) hE (wn_undef g8_27_27 rfl) rfl ⟨(C_to hCa K_s15), (C_to hCb K_s15), (fun j u h => cell_to K_s15 (hca j u h)), (fun j u h => cell_to K_s15 (hcb j u h)), trivial⟩ rfl ?_
                            clear hE a; intro a hE
                            refine d_skip p8_27_51 ns8_27 (by kernel_rfl) (by kernel_rfl) (fun _ _ _ h => h) hE (wn_some g8_27_18 rfl rfl) rfl ⟨(C_to hCa K_s15), (C_to hCb K_s15), (fun j u h => cell_to K_s15 (hca j u h)), (fun j u h => cell_to K_s15 (hcb j u h)), trivial⟩ rfl ?_
                            clear hE a; intro a hE
                            refine d_take (v := Value.bool false) p8_27_52 ns8_27 (by kernel_rfl) (by kernel_rfl) (fun _ _ _ h => h) hE wn_none rfl ⟨(C_to hCa K_s15), (C_to hCb K_s15), (fun j u h => cell_to K_s15 (hca j u h)), (fun j u h => cell_to K_s15 (hcb j u h)), trivial⟩ (fun W hS => (st_pick rfl rfl)) rfl ?_
                            clear hE a; intro a hE
                            refine d_end (by kernel_rfl) ?_
                            refine x_norm ?_
                            refine c_cond (t := false) hE rfl ?_
                            refine wp_skip ?_
                            refine x_normB ?_
                            refine x_norm ?_
                            refine c_regL R8_26_l ?_
                            refine q0 p8_26_0 hE (st_move rfl) ?_
                            clear hE a; intro a hE
                            refine q0 p8_26_1 hE (st_add (z := (pc : Int) + 1) rfl rfl (wr_i64 _ (by omega) (by omega))) ?_
                            clear hE a; intro a hE
                            refine q0 p8_26_2 hE (st_assign rfl) ?_
                            clear hE a; intro a hE
                            refine p_nil ?_
                            refine x_norm ?_
                            exact ⟨pc + 1, by omega, En.sub hE ⟨rfl, rfl, rfl, rfl, rfl, rfl, rfl, rfl, rfl, rfl, rfl, rfl, rfl, rfl, rfl, rfl, trivial⟩, by omega, B_gL, B_gN, K_0, K_s15⟩
                        ·
                          refine c_drawS (S := fun W => Kd.C (Kd.int .i64) W Aa nn ha ∧ Kd.C (Kd.int .i64) W Ab nn hb ∧ (∀ j u, ([Value.slice Aa nn ca])[j]? = some u → W.cell? (ea A_all (pa * 1 + j)) = some u) ∧ (∀ j u, ([Value.slice Ab nn cb])[j]? = some u → W.cell? (ea A_all (pb * 1 + j)) = some u) ∧ True) rfl rfl (listed := #[false, false, false, false, false, false, false, false, false, false, false, false, false, false, false, false, false, false, false, false, false, false, false, false, false, false, false, false, false, false, false, false, false, false, false, false, false, false, false, false, false, false, false, false, false, false, false, false, false, false, false, false, false]) rfl ?_
                          intro w22 hh hk
                          replace B_gL := kp_blk B_gL hk (fun h => h)
                          replace B_gN := kp_blk B_gN hk (fun h => h)
                          replace K_0 := K_0.then_ hk (fun _ h => h.elim)
                          replace K_s15 := K_s15.then_ hk (fun _ h => h.elim)
                          clear hh hk
                          refine d_take (v := Value.slice A_all n_all c_all) p8_27_0 ns8_27 (by kernel_rfl) (by kernel_rfl) (fun _ _ _ h => h) hE wn_none rfl ⟨(C_to hCa K_s15), (C_to hCb K_s15), (fun j u h => cell_to K_s15 (hca j u h)), (fun j u h => cell_to K_s15 (hcb j u h)), trivial⟩ (fun W hS => (st_move rfl)) rfl ?_
                          clear hE a; intro a hE
                          refine d_take (v := Value.int .i64 (pa : Int)) p8_27_1 ns8_27 (by kernel_rfl) (by kernel_rfl) (fun _ _ _ h => h) hE wn_none rfl ⟨(C_to hCa K_s15), (C_to hCb K_s15), (fun j u h => cell_to K_s15 (hca j u h)), (fun j u h => cell_to K_s15 (hcb j u h)), trivial⟩ (fun W hS => (st_move rfl)) rfl ?_
                          clear hE a; intro a hE
                          refine d_take (v := Value.pointer (some (ea A_all (pa * 1)))) p8_27_2 ns8_27 (by kernel_rfl) (by kernel_rfl) (fun _ _ _ h => h) hE wn_none rfl ⟨(C_to hCa K_s15), (C_to hCb K_s15), (fun j u h => cell_to K_s15 (hca j u h)), (fun j u h => cell_to K_s15 (hcb j u h)), trivial⟩ (fun W hS => (st_indexAddrR (i := pa) (s := 1) Try.underlying65 tS52 hAa rfl rfl (by omega))) rfl ?_
                          clear hE a; intro a hE
                          refine d_take (v := Value.slice Aa nn ca) p8_27_3 ns8_27 (by kernel_rfl) (by kernel_rfl) (fun _ _ _ h => h) hE wn_none rfl ⟨(C_to hCa K_s15), (C_to hCb K_s15), (fun j u h => cell_to K_s15 (hca j u h)), (fun j u h => cell_to K_s15 (hcb j u h)), trivial⟩ (fun W hS => (st_loadR1 (off := pa * 1) (j := 0) tA52 (hS.2.2.1) rfl (by omega) rfl)) rfl ?_
                          clear hE a; intro a hE
                          refine d_take (v := Value.int .i64 (pb : Int)) p8_27_4 ns8_27 (by kernel_rfl) (by kernel_rfl) (fun _ _ _ h => h) hE wn_none rfl ⟨(C_to hCa K_s15), (C_to hCb K_s15), (fun j u h => cell_to K_s15 (hca j u h)), (fun j u h => cell_to K_s15 (hcb j u h)), trivial⟩ (fun W hS => (st_move rfl)) rfl ?_
                          clear hE a; intro a hE
                          refine d_take (v := Value.pointer (some (ea Aa pb))) p8_27_5 ns8_27 (by kernel_rfl) (by kernel_rfl) (fun _ _ _ h => h) hE wn_none rfl ⟨(C_to hCa K_s15), (C_to hCb K_s15), (fun j u h => cell_to K_s15 (hca j u h)), (fun j u h => cell_to K_s15 (hcb j u h)), trivial⟩ (fun W hS => (st_indexAddrS (i := pb) Try.underlying52 tS3 (C_at (C_to hCa K_s15) (show pb < _ by omega)).1 rfl rfl (by omega))) rfl ?_
                          clear hE a; intro a hE
                          refine d_take (v := Value.int .i64 (rd ha (pb : Int))) p8_27_6 ns8_27 (by kernel_rfl) (by kernel_rfl) (fun _ _ _ h => h) hE wn_none rfl ⟨(C_to hCa K_s15), (C_to hCb K_s15), (fun j u h => cell_to K_s15 (hca j u h)), (fun j u h => cell_to K_s15 (hcb j u h)), trivial⟩ (fun W hS => (st_loadC (i := pb) tA3 (hS.1) (by omega) rfl)) rfl ?_
                          clear hE a; intro a hE
                          refine d_take (v := Value.bool false) p8_27_7 ns8_27 (by kernel_rfl) (by kernel_rfl) (fun _ _ _ h => h) hE wn_none rfl ⟨(C_to hCa K_s15), (C_to hCb K_s15), (fun j u h => cell_to K_s15 (hca j u h)), (fun j u h => cell_to K_s15 (hcb j u h)), trivial⟩ (fun W hS => (st_geq (b := false) rfl rfl (decide_eq_false hV1))) rfl ?_
                          clear hE a; intro a hE
                          refine d_take (v := Value.bool false) p8_27_8 ns8_27 (by kernel_rfl) (by kernel_rfl) (fun _ _ _ h => h) hE wn_none rfl ⟨(C_to hCa K_s15), (C_to hCb K_s15), (fun j u h => cell_to K_s15 (hca j u h)), (fun j u h => cell_to K_s15 (hcb j u h)), trivial⟩ (fun W hS => (st_move rfl)) rfl ?_
                          clear hE a; intro a hE
                          refine d_skip p8_27_9 ns8_27 (by kernel_rfl) (by kernel_rfl) (fun _ _ _ h => h) hE (wn_some g8_27_8 rfl rfl) rfl ⟨(C_to hCa K_s15), (C_to hCb K_s15), (fun j u h => cell_to K_s15 (hca j u h)), (fun j u h => cell_to K_s15 (hcb j u h)), trivial⟩ rfl ?_
                          clear hE a; intro a hE
                          refine d_skip p8_27_10 ns8_27 (by kernel_rfl) (by kernel_rfl) (fun _ _ _ h => h) hE (wn_some g8_27_8 rfl rfl) rfl ⟨(C_to hCa K_s15), (C_to hCb K_s15), (fun j u h => cell_to K_s15 (hca j u h)), (fun j u h => cell_to K_s15 (hcb j u h)), trivial⟩ rfl ?_
                          clear hE a; intro a hE
                          refine d_skip p8_27_11 ns8_27 (by kernel_rfl) (by kernel_rfl) (fun _ _ _ h => h) hE (wn_some g8_27_8 rfl rfl) rfl ⟨(C_to hCa K_s15), (C_to hCb K_s15), (fun j u h => cell_to K_s15 (hca j u h)), (fun j u h => cell_to K_s15 (hcb j u h)), trivial⟩ rfl ?_
                          clear hE a; intro a hE
                          refine d_skip p8_27_12 ns8_27 (by kernel_rfl) (by kernel_rfl) (fun _ _ _ h => h) hE (wn_some g8_27_8 rfl rfl) rfl ⟨(C_to hCa K_s15), (C_to hCb K_s15), (fun j u h => cell_to K_s15 (hca j u h)), (fun j u h => cell_to K_s15 (hcb j u h)), trivial⟩ rfl ?_
                          clear hE a; intro a hE
                          refine d_skip p8_27_13 ns8_27 (by kernel_rfl) (by kernel_rfl) (fun _ _ _ h => h) hE (wn_some g8_27_8 rfl rfl) rfl ⟨(C_to hCa K_s15), (C_to hCb K_s15), (fun j u h => cell_to K_s15 (hca j u h)), (fun j u h => cell_to K_s15 (hcb j u h)), trivial⟩ rfl ?_
                          clear hE a; intro a hE
                          refine d_skip p8_27_14 ns8_27 (by kernel_rfl) (by kernel_rfl) (fun _ _ _ h => h) hE (wn_some g8_27_8 rfl rfl) rfl ⟨(C_to hCa K_s15), (C_to hCb K_s15), (fun j u h => cell_to K_s15 (hca j u h)), (fun j u h => cell_to K_s15 (hcb j u h)), trivial⟩ rfl ?_
                          clear hE a; intro a hE
                          refine d_skip p8_27_15 ns8_27 (by kernel_rfl) (by kernel_rfl) (fun _ _ _ h => h) hE (wn_some g8_27_8 rfl rfl) rfl ⟨(C_to hCa K_s15), (C_to hCb K_s15), (fun j u h => cell_to K_s15 (hca j u h)), (fun j u h => cell_to K_s15 (hcb j u h)), trivial⟩ rfl ?_
                          clear hE a; intro a hE
                          refine d_skip p8_27_16 ns8_27 (by kernel_rfl) (by kernel_rfl) (fun _ _ _ h => h) hE (wn_some g8_27_8 rfl rfl) rfl ⟨(C_to hCa K_s15), (C_to hCb K_s15), (fun j u h => cell_to K_s15 (hca j u h)), (fun j u h => cell_to K_s15 (hcb j u h)), trivial⟩ rfl ?_
                          clear hE a; intro a hE
                          refine d_take (v := Value.bool false) p8_27_17 ns8_27 (by kernel_rfl) (by kernel_rfl) (fun _ _ _ h => h) hE wn_none rfl ⟨(C_to hCa K_s15), (C_to hCb K_s15), (fun j u h => cell_to K_s15 (hca j u h)), (fun j u h => cell_to K_s15 (hcb j u h)), trivial⟩ (fun W hS => (st_pick rfl rfl)) rfl ?_
                          clear hE a; intro a hE
                          refine d_take (v := Value.bool false) p8_27_18 ns8_27 (by kernel_rfl) (by kernel_rfl) (fun _ _ _ h => h) hE wn_none rfl ⟨(C_to hCa K_s15), (C_to hCb K_s15), (fun j u h => cell_to K_s15 (hca j u h)), (fun j u h => cell_to K_s15 (hcb j u h)), trivial⟩ (fun W hS => (st_move rfl)) rfl ?_
                          clear hE a; intro a hE
                          refine d_skip p8_27_19 ns8_27 (by kernel_rfl) (by kernel_rfl) (fun _ _ _ h => h) hE (wn_some g8_27_18 rfl rfl) rfl ⟨(C_to hCa K_s15), (C_to hCb K_s15), (fun j u h => cell_to K_s15 (hca j u h)), (fun j u h => cell_to K_s15 (hcb j u h)), trivial⟩ rfl ?_
                          clear hE a; intro a hE
                          refine d_skip p8_27_20 ns8_27 (by kernel_rfl) (by kernel_rfl) (fun _ _ _ h => h) hE (wn_some g8_27_18 rfl rfl) rfl ⟨(C_to hCa K_s15), (C_to hCb K_s15), (fun j u h => cell_to K_s15 (hca j u h)), (fun j u h => cell_to K_s15 (hcb j u h)), trivial⟩ rfl ?_
                          clear hE a; intro a hE
                          refine d_skip p8_27_21 ns8_27 (by kernel_rfl) (by kernel_rfl) (fun _ _ _ h => h) hE (wn_some g8_27_18 rfl rfl) rfl ⟨(C_to hCa K_s15), (C_to hCb K_s15), (fun j u h => cell_to K_s15 (hca j u h)), (fun j u h => cell_to K_s15 (hcb j u h)), trivial⟩ rfl ?_
                          clear hE a; intro a hE
                          refine d_skip p8_27_22 ns8_27 (by kernel_rfl) (by kernel_rfl) (fun _ _ _ h => h) hE (wn_some g8_27_18 rfl rfl) rfl ⟨(C_to hCa K_s15), (C_to hCb K_s15), (fun j u h => cell_to K_s15 (hca j u h)), (fun j u h => cell_to K_s15 (hcb j u h)), trivial⟩ rfl ?_
                          clear hE a; intro a hE
                          refine d_skip p8_27_23 ns8_27 (by kernel_rfl) (by kernel_rfl) (fun _ _ _ h => h) hE (wn_some g8_27_18 rfl rfl) rfl ⟨(C_to hCa K_s15), (C_to hCb K_s15), (fun j u h => cell_to K_s15 (hca j u h)), (fun j u h => cell_to K_s15 (hcb j u h)), trivial⟩ rfl ?_
                          clear hE a; intro a hE
                          refine d_skip p8_27_24 ns8_27 (by kernel_rfl) (by kernel_rfl) (fun _ _ _ h => h) hE (wn_some g8_27_18 rfl rfl) rfl ⟨(C_to hCa K_s15), (C_to hCb K_s15), (fun j u h => cell_to K_s15 (hca j u h)), (fun j u h => cell_to K_s15 (hcb j u h)), trivial⟩ rfl ?_
                          clear hE a; intro a hE
                          refine d_skip p8_27_25 ns8_27 (by kernel_rfl) (by kernel_rfl) (fun _ _ _ h => h) hE (wn_some g8_27_18 rfl rfl) rfl ⟨(C_to hCa K_s15), (C_to hCb K_s15), (fun j u h => cell_to K_s15 (hca j u h)), (fun j u h => cell_to K_s15 (hcb j u h)), trivial⟩ rfl ?_
                          clear hE a; intro a hE
                          refine d_skip p8_27_26 ns8_27 (by kernel_rfl) (by kernel_rfl) (fun _ _ _ h => h) hE (wn_some g8_27_18 rfl rfl) rfl ⟨(C_to hCa K_s15), (C_to hCb K_s15), (fun j u h => cell_to K_s15 (hca j u h)), (fun j u h => cell_to K_s15 (hcb j u h)), trivial⟩ rfl ?_
                          clear hE a; intro a hE
                          refine d_skip p8_27_27 ns8_27 (by kernel_rfl) (by kernel_rfl) (fun _ _ _ h => h) hE (wn_some g8_27_18 rfl rfl) rfl ⟨(C_to hCa K_s15), (C_to hCb K_s15), (fun j u h => cell_to K_s15 (hca j u h)), (fun j u h => cell_to K_s15 (hcb j u h)), trivial⟩ rfl ?_
                          clear hE a; intro a hE
                          refine d_skip p8_27_28 ns8_27 (by kernel_rfl) (by kernel_rfl) (fun _ _ _ h => h) hE (wn_undef g8_27_27 rfl) rfl ⟨(C_to hCa K_s15), (C_to hCb K_s15), (fun j u h => cell_to K_s15 (hca j u h)), (fun j u h => cell_to K_s15 (hcb j u h)), trivial⟩ rfl ?_
                          clear hE a; intro a hE
                          refine d_skip p8_27_29 ns8_27 (by kernel_rfl) (by kernel_rfl) (fun _ _ _ h => h) hE (wn_undef g8_27_27 rfl) rfl ⟨(C_to hCa K_s15), (C_to hCb K_s15), (fun j u h => cell_to K_s15 (hca j u h)), (fun j u h => cell_to K_s15 (hcb j u h)), trivial⟩ rfl ?_
                          clear hE a; intro a hE
                          refine d_skip p8_27_30 ns8_27 (by kernel_rfl) (by kernel_rfl) (fun _ _ _ h => h) hE (wn_undef g8_27_27 rfl) rfl ⟨(C_to hCa K_s15), (C_to hCb K_s15), (fun j u h => cell_to K_s15 (hca j u h)), (fun j u h => cell_to K_s15 (hcb j u h)), trivial⟩ rfl ?_
                          clear hE a; intro a hE
                          refine d_skip p8_27_31 ns8_27 (by kernel_rfl) (by kernel_rfl) (fun _ _ _ h => h) hE (wn_undef g8_27_27 rfl) rfl ⟨(C_to hCa K_s15), (C_to hCb K_s15), (fun j u h => cell_to K_s15 (hca j u h)), (fun j u h => cell_to K_s15 (hcb j u h)), trivial⟩ rfl ?_
                          clear hE a; intro a hE
                          refine d_skip p8_27_32 ns8_27 (by kernel_rfl) (by kernel_rfl) (fun _ _ _ h => h) hE (wn_undef g8_27_27 rfl) rfl ⟨(C_to hCa K_s15), (C_to hCb K_s15), (fun j u h => cell_to K_s15 (hca j u h)), (fun j u h => cell_to K_s15 (hcb j u h)), trivial⟩ rfl ?_
                          clear hE a; intro a hE
                          refine d_skip p8_27_33 ns8_27 (by kernel_rfl) (by kernel_rfl) (fun _ _ _ h => h) hE (wn_undef g8_27_27 rfl) rfl ⟨(C_to hCa K_s15), (C_to hCb K_s15), (fun j u h => cell_to K_s15 (hca j u h)), (fun j u h => cell_to K_s15 (hcb j u h)), trivial⟩ rfl ?_
                          clear hE a; intro a hE
                          refine d_skip p8_27_34 ns8_27 (by kernel_rfl) (by kernel_rfl) (fun _ _ _ h => h) hE (wn_undef g8_27_27 rfl) rfl ⟨(C_to hCa K_s15), (C_to hCb K_s15), (fun j u h => cell_to K_s15 (hca j u h)), (fun j u h => cell_to K_s15 (hcb j u h)), trivial⟩ rfl ?_
                          clear hE a; intro a hE
                          refine d_skip p8_27_35 ns8_27 (by kernel_rfl) (by kernel_rfl) (fun _ _ _ h => h) hE (wn_undef g8_27_27 rfl) rfl ⟨(C_to hCa K_s15), (C_to hCb K_s15), (fun j u h => cell_to K_s15 (hca j u h)), (fun j u h => cell_to K_s15 (hcb j u h)), trivial⟩ rfl ?_
                          clear hE a; intro a hE
                          refine d_skip p8_27_36 ns8_27 (by kernel_rfl) (by kernel_rfl) (fun _ _ _ h => h) hE (wn_undef g8_27_27 rfl) rfl ⟨(C_to hCa K_s15), (C_to hCb K_s15), (fun j u h => cell_to K_s15 (hca j u h)), (fun j u h => cell_to K_s15 (hcb j u h)), trivial⟩ rfl ?_
                          clear hE a; intro a hE
                          refine d_skip p8_27_37 ns8_27 (by kernel_rfl) (by kernel_rfl) (fun _ _ _ h => h) hE (wn_undef g8_27_27 rfl) rfl ⟨(C_to hCa K_s15), (C_to hCb K_s15), (fun j u h => cell_to K_s15 (hca j u h)), (fun j u h => cell_to K_s15 (hcb j u h)), trivial⟩ rfl ?_
                          clear hE a; intro a hE
                          refine d_skip p8_27_38 ns8_27 (by kernel_rfl) (by kernel_rfl) (fun _ _ _ h => h) hE (wn_undef g8_27_27 rfl) rfl ⟨(C_to hCa K_s15), (C_to hCb K_s15), (fun j u h => cell_to K_s15 (hca j u h)), (fun j u h => cell_to K_s15 (hcb j u h)), trivial⟩ rfl ?_
                          clear hE a; intro a hE
                          refine d_skip p8_27_39 ns8_27 (by kernel_rfl) (by kernel_rfl) (fun _ _ _ h => h) hE (wn_undef g8_27_27 rfl) rfl ⟨(C_to hCa K_s15), (C_to hCb K_s15), (fun j u h => cell_to K_s15 (hca j u h)), (fun j u h => cell_to K_s15 (hcb j u h)), trivial⟩ rfl ?_
                          clear hE a; intro a hE
                          refine d_skip p8_27_40 ns8_27 (by kernel_rfl) (by kernel_rfl) (fun _ _ _ h => h) hE (wn_undef g8_27_27 rfl) rfl ⟨(C_to hCa K_s15), (C_to hCb K_s15), (fun j u h => cell_to K_s15 (hca j u h)), (fun j u h => cell_to K_s15 (hcb j u h)), trivial⟩ rfl ?_
                          clear hE a; intro a hE
                          refine d_skip p8_27_41 ns8_27 (by kernel_rfl) (by kernel_rfl) (fun _ _ _ h => h) hE (wn_undef g8_27_27 rfl) rfl ⟨(C_to hCa K_s15), (C_to hCb K_s15), (fun j u h => cell_to K_s15 (hca j u h)), (fun j u h => cell_to K_s15 (hcb j u h)), trivial⟩ rfl ?_
                          clear hE a; intro a hE
                          refine d_skip p8_27_42 ns8_27 (by kernel_rfl) (by kernel_rfl) (fun _ _ _ h => h) hE (wn_undef g8_27_27 rfl) rfl ⟨(C_to hCa K_s15), (C_to hCb K_s15), (fun j u h => cell_to K_s15 (hca j u h)), (fun j u h => cell_to K_s15 (hcb j u h)), trivial⟩ rfl ?_
                          clear hE a; intro a hE
                          refine d_skip p8_27_43 ns8_27 (by kernel_rfl) (by kernel_rfl) (fun _ _ _ h => h) hE (wn_undef g8_27_27 rfl) rfl ⟨(C_to hCa K_s15), (C_to hCb K_s15), (fun j u h => cell_to K_s15 (hca j u h)), (fun j u h => cell_to K_s15 (hcb j u h)), trivial⟩ rfl ?_
                          clear hE a; intro a hE
                          refine d_skip p8_27_44 ns8_27 (by kernel_rfl) (by kernel_rfl) (fun _ _ _ h => h) hE (wn_undef g8_27_27 rfl) rfl ⟨(C_to hCa K_s15), (C_to hCb K_s15), (fun j u h => cell_to K_s15 (hca j u h)), (fun j u h => cell_to K_s15 (hcb j u h)), trivial⟩ rfl ?_
                          clear hE a; intro a hE
                          refine d_skip p8_27_45 ns8_27 (by kernel_rfl) (by kernel_rfl) (fun _ _ _ h => h) hE (wn_undef g8_27_27 rfl) rfl ⟨(C_to hCa K_s15), (C_to hCb K_s15), (fun j u h => cell_to K_s15 (hca j u h)), (fun j u h => cell_to K_s15 (hcb j u h)), trivial⟩ rfl ?_
                          clear hE a; intro a hE
                          refine d_skip p8_27_46 ns8_27 (by kernel_rfl) (by kernel_rfl) (fun _ _ _ h => h) hE (wn_undef g8_27_27 rfl) rfl ⟨(C_to hCa K_s15), (C_to hCb K_s15), (fun j u h => cell_to K_s15 (hca j u h)), (fun j u h => cell_to K_s15 (hcb j u h)), trivial⟩ rfl ?_
                          clear hE a; intro a hE
                          refine d_skip p8_27_47 ns8_27 (by kernel_rfl) (by kernel_rfl) (fun _ _ _ h => h) hE (wn_undef g8_27_27 rfl) rfl ⟨(C_to hCa K_s15), (C_to hCb K_s15), (fun j u h => cell_to K_s15 (hca j u h)), (fun j u h => cell_to K_s15 (hcb j u h)), trivial⟩ rfl ?_
                          clear hE a; intro a hE
                          refine d_skip p8_27_48 ns8_27 (by kernel_rfl) (by kernel_rfl) (fun _ _ _ h => h) hE (wn_undef g8_27_27 rfl) rfl ⟨(C_to hCa K_s15), (C_to hCb K_s15), (fun j u h => cell_to K_s15 (hca j u h)), (fun j u h => cell_to K_s15 (hcb j u h)), trivial⟩ rfl ?_
                          clear hE a; intro a hE
                          refine d_skip p8_27_49 ns8_27 (by kernel_rfl) (by kernel_rfl) (fun _ _ _ h => h) hE (wn_undef g8_27_27 rfl) rfl ⟨(C_to hCa K_s15), (C_to hCb K_s15), (fun j u h => cell_to K_s15 (hca j u h)), (fun j u h => cell_to K_s15 (hcb j u h)), trivial⟩ rfl ?_
                          clear hE a; intro a hE
                          refine d_skip p8_27_50 ns8_27 (by kernel_rfl) (by kernel_rfl) (fun _ _ _ h => h) hE (wn_undef g8_27_27 rfl) rfl ⟨(C_to hCa K_s15), (C_to hCb K_s15), (fun j u h => cell_to K_s15 (hca j u h)), (fun j u h => cell_to K_s15 (hcb j u h)), trivial⟩ rfl ?_
                          clear hE a; intro a hE
                          refine d_skip p8_27_51 ns8_27 (by kernel_rfl) (by kernel_rfl) (fun _ _ _ h => h) hE (wn_some g8_27_18 rfl rfl) rfl ⟨(C_to hCa K_s15), (C_to hCb K_s15), (fun j u h => cell_to K_s15 (hca j u h)), (fun j u h => cell_to K_s15 (hcb j u h)), trivial⟩ rfl ?_
                          clear hE a; intro a hE
                          refine d_take (v := Value.bool false) p8_27_52 ns8_27 (by kernel_rfl) (by kernel_rfl) (fun _ _ _ h => h) hE wn_none rfl ⟨(C_to hCa K_s15), (C_to hCb K_s15), (fun j u h => cell_to K_s15 (hca j u h)), (fun j u h => cell_to K_s15 (hcb j u h)), trivial⟩ (fun W hS => (st_pick rfl rfl)) rfl ?_
                          clear hE a; intro a hE
                          refine d_end (by kernel_rfl) ?_
                          refine x_norm ?_
                          refine c_cond (t := false) hE rfl ?_
                          refine wp_skip ?_
                          refine x_normB ?_
                          refine x_norm ?_
                          refine c_regL R8_26_l ?_
                          refine q0 p8_26_0 hE (st_move rfl) ?_
                          clear hE a; intro a hE
                          refine q0 p8_26_1 hE (st_add (z := (pc : Int) + 1) rfl rfl (wr_i64 _ (by omega) (by omega))) ?_
                          clear hE a; intro a hE
                          refine q0 p8_26_2 hE (st_assign rfl) ?_
                          clear hE a; intro a hE
                          refine p_nil ?_
                          refine x_norm ?_
                          exact ⟨pc + 1, by omega, En.sub hE ⟨rfl, rfl, rfl, rfl, rfl, rfl, rfl, rfl, rfl, rfl, rfl, rfl, rfl, rfl, rfl, rfl, trivial⟩, by omega, B_gL, B_gN, K_0, K_s15⟩
                      ·
                        refine c_reg R8_25_l ?_
                        refine q0 p8_25_0 hE (st_move rfl) ?_
                        clear hE a; intro a hE
                        refine q0 p8_25_1 hE (st_move rfl) ?_
                        clear hE a; intro a hE
                        refine q0 p8_25_2 hE (st_lss (b := false) rfl rfl (decide_eq_false hPC)) ?_
                        clear hE a; intro a hE
                        refine p_nil ?_
                        refine x_norm ?_
                        refine c_cond (t := false) hE rfl ?_
                        refine wp_exit ?_
                        refine x_exit ?_
                        refine x_exit ?_
                        refine x_in ?_
                        refine x_normB ?_
                        refine x_norm ?_
                        refine c_regL R8_21_l ?_
                        refine q0 p8_21_0 hE (st_move rfl) ?_
                        clear hE a; intro a hE
                        refine q0 p8_21_1 hE (st_add (z := (pb : Int) + 1) rfl rfl (wr_i64 _ (by omega) (by omega))) ?_
                        clear hE a; intro a hE
                        refine q0 p8_21_2 hE (st_assign rfl) ?_
                        clear hE a; intro a hE
                        refine p_nil ?_
                        refine x_norm ?_
                        exact ⟨pb + 1, by omega, En.sub hE ⟨rfl, rfl, rfl, rfl, rfl, rfl, rfl, rfl, rfl, rfl, rfl, rfl, rfl, trivial⟩, by omega, B_gL, B_gN, K_0, K_s15⟩
                  ·
                    refine c_reg R8_20_l ?_
                    refine q0 p8_20_0 hE (st_move rfl) ?_
                    clear hE a; intro a hE
                    refine q0 p8_20_1 hE (st_move rfl) ?_
                    clear hE a; intro a hE
                    refine q0 p8_20_2 hE (st_lss (b := false) rfl rfl (decide_eq_false hPB)) ?_
                    clear hE a; intro a hE
                    refine p_nil ?_
                    refine x_norm ?_
                    refine c_cond (t := false) hE rfl ?_
                    refine wp_exit ?_
                    refine x_exit ?_
                    refine x_exit ?_
                    refine x_in ?_
                    refine x_normB ?_
                    refine x_norm ?_
                    refine c_regL R8_18_l ?_
                    refine q0 p8_18_0 hE (st_move rfl) ?_
                    clear hE a; intro a hE
                    refine q0 p8_18_1 hE (st_add (z := (pa : Int) + 1) rfl rfl (wr_i64 _ (by omega) (by omega))) ?_
                    clear hE a; intro a hE
                    refine q0 p8_18_2 hE (st_assign rfl) ?_
                    clear hE a; intro a hE
                    refine p_nil ?_
                    refine x_norm ?_
                    exact ⟨pa + 1, by omega, En.sub hE ⟨rfl, rfl, rfl, rfl, rfl, rfl, rfl, rfl, rfl, rfl, rfl, trivial⟩, by omega, B_gL, B_gN, K_0, K_s15⟩
              ·
                refine c_reg R8_17_l ?_
                refine q0 p8_17_0 hE (st_move rfl) ?_
                clear hE a; intro a hE
                refine q0 p8_17_1 hE (st_move rfl) ?_
                clear hE a; intro a hE
                refine q0 p8_17_2 hE (st_lss (b := false) rfl rfl (decide_eq_false hPA)) ?_
                clear hE a; intro a hE
                refine p_nil ?_
                refine x_norm ?_
                refine c_cond (t := false) hE rfl ?_
                refine wp_exit ?_
                refine x_exit ?_
                refine x_exit ?_
                refine x_in ?_
                refine x_norm ?_
                refine c_reg R8_29_l ?_
                refine p_cons (s_call (xs := []) (args := []) p8_29_0 hE wn_none rfl rfl Try.func33 cl33 (kn26  _) ?_)
                rintro e w23 ⟨rfl, hk⟩
                replace B_gL := kp_blk B_gL hk (fun h => h)
                replace B_gN := kp_blk B_gN hk (fun h => h)
                replace K_0 := K_0.then_ hk (fun _ h => h.elim)
                replace K_s15 := K_s15.then_ hk (fun _ h => h.elim)
                refine ⟨_, rfl, ?_⟩
                clear hE a; intro a hE
                refine q0 p8_29_1 hE (st_assign rfl) ?_
                clear hE a; intro a hE
                refine p_nil ?_
                refine x_norm ?_
                refine wp_ret ?_
                refine ret_one (v := Value.bool true) rfl hE (.tmp rfl .nil) ?_
                exact ⟨rfl, K_0.to (Nat.le_refl _) (fun _ h => h.elim)⟩
    ·
      refine c_reg R8_6_l ?_
      refine q0 p8_6_0 hE (st_move rfl) ?_
      clear hE a; intro a hE
      refine q0 p8_6_1 hE (st_move rfl) ?_
      clear hE a; intro a hE
      refine q0 p8_6_2 hE (st_len Try.underlying55 rfl) ?_
      clear hE a; intro a hE
      refine q0 p8_6_3 hE (st_lss (b := false) rfl rfl (decide_eq_false hI1)) ?_
      clear hE a; intro a hE
      refine q0 p8_6_4 hE (st_move rfl) ?_
      clear hE a; intro a hE
      refine p_cons (s_skip p8_6_5 hE (wn_some g8_6_4 rfl rfl) rfl ?_)
      clear hE a; intro a hE
      refine p_cons (s_skip p8_6_6 hE (wn_some g8_6_4 rfl rfl) rfl ?_)
      clear hE a; intro a hE
      refine q0 p8_6_7 hE (st_pick rfl rfl) ?_
      clear hE a; intro a hE
      refine p_nil ?_
      refine x_norm ?_
      refine c_cond (t := false) hE rfl ?_
      refine wp_exit ?_
      refine x_exit ?_
      refine x_exit ?_
      refine x_in ?_
      refine x_norm ?_
      refine c_reg R8_9_l ?_
      refine q0 p8_9_0 hE (st_assign rfl) ?_
      clear hE a; intro a hE
      refine p_nil ?_
      refine x_norm ?_
      refine wp_seq ?_
      refine c_reg R8_10_l ?_
      have O_all := own_none w2 w.heap.size 52 1
      have Nb_all_gL : ¬ OB none gL := ob_nil
      have Nb_all_gN : ¬ OB none gN := ob_nil
      have Z_0_all : ∀ k, OB none k → (fun _ => False) k ∨ w.heap.size ≤ k := fun k h => absurd h ob_nil
      refine q0 p8_10_0 hE (st_assign rfl) ?_
      clear hE a; intro a hE
      refine p_nil ?_
      refine x_norm ?_
      refine wp_block ?_
      refine c_loop (α := Nat) (fun p a W => ∃ (A_all : Option Addr) (c_all : Nat) (n_all : Nat), ∃ (rs : List (Option Addr × Nat × List Int)), En 158 a [(0, Value.int .i64 (nn : Int)), (1, Value.slice a1 z1.length cap1), (5, Value.pointer (some ⟨gL, 0, none⟩)), (6, Value.int .i64 0), (28, Value.bool false), (7, Value.int .i64 (i : Int)), (36, Value.bool false), (9, Value.int .i64 (p : Int)), (8, Value.slice A_all n_all c_all)] ∧ p ≤ nn ∧ rs.length = p ∧ n_all = p ∧ (∀ i r, rs[i]? = some r → RowOk nn f9 W A_all i r) ∧ W.heap[gL]? = some (.cells #[Value.int .i64 (nn : Int), Value.map (some gN)] 83 (0, 0)) ∧ W.heap[gN]? = some (.map es9 ck9) ∧ n_all = (rs.map (encR nn)).length ∧ W.ownsRow w.heap.size 52 1 (.slice A_all n_all c_all) n_all (rs.map (encR nn)) ∧ ¬ OB A_all gL ∧ ¬ OB A_all gN ∧ (∀ k, OB A_all k → (fun _ => False) k ∨ w.heap.size ≤ k) ∧ Kp w W (fun _ => False)) (fun p => nn - p) (0) ?_ ?_
      ·
        exact ⟨none, 0, 0, [], En.sub hE ⟨rfl, rfl, rfl, rfl, rfl, rfl, rfl, rfl, rfl, trivial⟩, Nat.zero_le _, rfl, rfl, (fun i r h => by simp at h), B_gL, B_gN, by simp, O_all, Nb_all_gL, Nb_all_gN, Z_0_all, K_0⟩
      ·
        clear hE a
        rintro p a w24 ⟨A_all, c_all, n_all, rs, hE, hp9, hrl, hnp, FR, B_gL, B_gN, hn_all, O_all, Nb_all_gL, Nb_all_gN, Z_0_all, K_0⟩
        refine wp_seq ?_
        rcases Decidable.em ((p : Int) < (nn : Int)) with hP1 | hP1
        ·
          refine c_reg R8_11_l ?_
          refine q0 p8_11_0 hE (st_move rfl) ?_
          clear hE a; intro a hE
          refine q0 p8_11_1 hE (st_move rfl) ?_
          clear hE a; intro a hE
          refine q0 p8_11_2 hE (st_lss (b := true) rfl rfl (decide_eq_true hP1)) ?_
          clear hE a; intro a hE
          refine p_nil ?_
          refine x_norm ?_
          refine c_cond (t := true) hE rfl ?_
          refine wp_skip ?_
          refine x_norm ?_
          refine wp_seq ?_
          refine wp_block ?_
          refine c_reg R8_13_l ?_
          refine q0 p8_13_0 hE (st_move rfl) ?_
          clear hE a; intro a hE
          refine q0 p8_13_1 hE (st_move rfl) ?_
          clear hE a; intro a hE
          refine q0 p8_13_2 hE (st_move rfl) ?_
          clear hE a; intro a hE
          have hlo9 := fun k (h : OB A_all k) => (own_ob O_all h).2
          refine p_cons (s_call (xs := [Operand.tmp 62, Operand.tmp 63]) (args := [Value.pointer (some ⟨gL, 0, none⟩), Value.int .i64 (p : Int)]) p8_13_3 hE wn_none rfl rfl Try.func30 cl30 (hops_gen gL gN _ nn _ _ p (by omega) (by omega) _ B_gL B_gN MF9 n_gL_gN) ?_)
          rintro e w25 ⟨Ah, ch, hh, rfl, hch, hfn, hbn, hgn, FAh, hk⟩
          replace B_gL := kp_blk B_gL hk (fun h => h)
          replace B_gN := kp_blk B_gN hk (fun h => h)
          replace O_all := own_keep O_all hk (fun _ _ h => h)
          replace K_0 := K_0.then_ hk (fun _ h => h.elim)
          have hFR2 := rows_snoc hrl hk FR (x := (Ah, ch, hh)) ⟨FAh _ (Kp.refl _ _), fun x hx => ⟨fun q => by have h1 := hlo9 _ q; have h2 := (hgn _ ⟨x, hx, rfl⟩).1; omega, (hgn _ ⟨x, hx, rfl⟩).2⟩, hfn, hbn⟩
          have K_s26 := Kp.refl w25 (fun k => OB A_all k)
          have Z_s26_all : ∀ k, OB A_all k → (fun k => OB A_all k) k ∨ w25.heap.size ≤ k := fun k h => .inl h
          refine ⟨_, rfl, ?_⟩
          clear hE a; intro a hE
          refine p_cons (s_row (xs := [(0, Operand.tmp 64)]) (vs := [(0, Value.slice Ah nn ch)]) (cs := #[Value.slice Ah nn ch]) p8_13_4 hE wn_none rfl Try.underlying65 rfl (by kernel_rfl) ?_)
          clear hE a; intro g27 w28 z29 B_g27 hk a hE
          have n_gL_g27 : gL ≠ g27 := ne_new B_gL z29
          have n_gN_g27 : gN ≠ g27 := ne_new B_gN z29
          have z_0_g27 := Nat.le_trans K_0.kept.1 z29
          have z_s26_g27 := Nat.le_trans K_s26.kept.1 z29
          have Nb_all_g27 : ¬ OB A_all g27 := fun h => by have := (own_ob O_all h).2; omega
          replace B_gL := kp_blk B_gL hk (fun h => h)
          replace B_gN := kp_blk B_gN hk (fun h => h)
          replace O_all := own_keep O_all hk (fun _ _ h => h)
          replace K_0 := K_0.then_ hk (fun _ h => h.elim)
          replace K_s26 := K_s26.then_ hk (fun _ h => h.elim)
          clear hk
          refine p_cons (s_append (xs := (rs.map (encR nn))) (news := [Value.slice Ah nn ch]) p8_13_5 hE wn_none rfl Try.underlying65 eD52 (by decide) rfl O_all rfl rfl (news1 B_g27) (by intro u hu; rw [List.mem_singleton.1 hu]; rfl) (by omega) (by omega) K_0.kept.1 ?_)
          clear hE a; intro Aall30 call31 w32 O_all' hk hat a hE
          have Nb_all_gL' := grow_n Nb_all_gL (blk_lt B_gL) hat
          have Nb_all_gN' := grow_n Nb_all_gN (blk_lt B_gN) hat
          have Nb_all_g27' := grow_n Nb_all_g27 (blk_lt B_g27) hat
          have Z_0_all' := grow_z Z_0_all K_0.kept.1 hat
          have Z_s26_all' := grow_z Z_s26_all K_s26.kept.1 hat
          replace B_gL := kp_blk B_gL hk Nb_all_gL
          replace B_gN := kp_blk B_gN hk Nb_all_gN
          replace B_g27 := kp_blk B_g27 hk Nb_all_g27
          replace K_0 := K_0.then_ hk Z_0_all
          replace K_s26 := K_s26.then_ hk Z_s26_all
          replace Nb_all_gL := Nb_all_gL'
          replace Nb_all_gN := Nb_all_gN'
          replace Nb_all_g27 := Nb_all_g27'
          replace Z_0_all := Z_0_all'
          replace Z_s26_all := Z_s26_all'
          replace O_all := O_all'
          try clear O_all'
          clear hk hat
          refine q0 p8_13_6 hE (st_assign rfl) ?_
          clear hE a; intro a hE
          refine p_nil ?_
          refine x_norm ?_
          refine c_reg R8_14_l ?_
          obtain ⟨hAx, hcx⟩ := own_one (j := p) (v := Value.slice Ah nn ch) O_all (by rw [List.getElem?_append_right (by rw [List.length_map]; omega), List.length_map, show p - rs.length = 0 by omega]; rfl)
          refine q0 p8_14_0 hE (st_move rfl) ?_
          clear hE a; intro a hE
          refine q0 p8_14_1 hE (st_move rfl) ?_
          clear hE a; intro a hE
          refine q0 p8_14_2 hE (st_indexAddrR (i := p) (s := 1) Try.underlying65 tS52 hAx rfl rfl (by omega)) ?_
          clear hE a; intro a hE
          refine q0 p8_14_3 hE (st_loadR1 (off := p * 1) (j := 0) tA52 hcx rfl (by omega) rfl) ?_
          clear hE a; intro a hE
          refine q0 p8_14_4 hE (st_len Try.underlying52 rfl) ?_
          clear hE a; intro a hE
          refine q0 p8_14_5 hE (st_move rfl) ?_
          clear hE a; intro a hE
          refine q0 p8_14_6 hE (st_neq (b := false) rfl rfl (by simp)) ?_
          clear hE a; intro a hE
          refine p_nil ?_
          refine x_norm ?_
          refine c_cond (t := false) hE rfl ?_
          refine wp_skip ?_
          refine x_normB ?_
          refine x_norm ?_
          refine c_regL R8_12_l ?_
          refine q0 p8_12_0 hE (st_move rfl) ?_
          clear hE a; intro a hE
          refine q0 p8_12_1 hE (st_add (z := (p : Int) + 1) rfl rfl (wr_i64 _ (by omega) (by omega))) ?_
          clear hE a; intro a hE
          refine q0 p8_12_2 hE (st_assign rfl) ?_
          clear hE a; intro a hE
          refine p_nil ?_
          refine x_norm ?_
          have exs : (rs.map (encR nn) ++ [Value.slice Ah nn ch]) = (rs ++ [(Ah, ch, hh)]).map (encR nn) := by rw [List.map_append]; rfl
          rw [exs] at O_all
          exact ⟨p + 1, by omega, Aall30, call31, (n_all + 1), (rs ++ [(Ah, ch, hh)]), En.sub hE ⟨rfl, rfl, rfl, rfl, rfl, rfl, rfl, rfl, rfl, trivial⟩, by omega, (by rw [List.length_append, hrl]; rfl), (by omega), (rows_keep K_s26 Z_s26_all hFR2), B_gL, B_gN, (by rw [List.length_map, List.length_append]; show _ = rs.length + 1; omega), O_all, Nb_all_gL, Nb_all_gN, Z_0_all, K_0⟩
        ·
          refine c_reg R8_11_l ?_
          refine q0 p8_11_0 hE (st_move rfl) ?_
          clear hE a; intro a hE
          refine q0 p8_11_1 hE (st_move rfl) ?_
          clear hE a; intro a hE
          refine q0 p8_11_2 hE (st_lss (b := false) rfl rfl (decide_eq_false hP1)) ?_
          clear hE a; intro a hE
          refine p_nil ?_
          refine x_norm ?_
          refine c_cond (t := false) hE rfl ?_
          refine wp_exit ?_
          refine x_exit ?_
          refine x_exit ?_
          have hAll : ∀ i, i < nn → ∃ A c h, (A_all = some (A_all.getD default) ∧ ∀ j' u, [Value.slice A nn c][j']? = some u → w24.cell? (ea A_all (i * 1 + j')) = some u) ∧ Kd.C (Kd.int .i64) w24 A nn h ∧ Bf.Fine (Ed nn f9) nn i h ∧ ∀ c, c < nn → Bf.at_ h c + 1 ≤ nn := fun i hi => by
            obtain ⟨r, hr⟩ : ∃ r, rs[i]? = some r := ⟨_, List.getElem?_eq_getElem (by omega)⟩
            have ho := FR i r hr
            exact ⟨r.1, r.2.1, r.2.2, own_one O_all (by rw [List.getElem?_map, hr]; rfl), ho.read, ho.fine, ho.bnd⟩
          have K_s33 := Kp.refl w24 (fun _ => False)
          refine x_in ?_
          refine x_norm ?_
          refine wp_seq ?_
          refine c_reg R8_16_l ?_
          refine q0 p8_16_0 hE (st_assign rfl) ?_
          clear hE a; intro a hE
          refine p_nil ?_
          refine x_norm ?_
          refine wp_block ?_
          refine c_loop (α := Nat) (fun pa a W => En 158 a [(0, Value.int .i64 (nn : Int)), (1, Value.slice a1 z1.length cap1), (5, Value.pointer (some ⟨gL, 0, none⟩)), (6, Value.int .i64 0), (28, Value.bool false), (7, Value.int .i64 (i : Int)), (36, Value.bool false), (9, Value.int .i64 (p : Int)), (8, Value.slice A_all n_all c_all), (58, Value.bool false), (10, Value.int .i64 (pa : Int))] ∧ pa ≤ nn ∧ W.heap[gL]? = some (.cells #[Value.int .i64 (nn : Int), Value.map (some gN)] 83 (0, 0)) ∧ W.heap[gN]? = some (.map es9 ck9) ∧ Kp w W (fun _ => False) ∧ Kp w24 W (fun _ => False)) (fun pa => nn - pa) (0) ?_ ?_
          ·
            exact ⟨En.sub hE ⟨rfl, rfl, rfl, rfl, rfl, rfl, rfl, rfl, rfl, rfl, rfl, trivial⟩, Nat.zero_le _, B_gL, B_gN, K_0, K_s33⟩
          ·
            clear hE a
            rintro pa a w34 ⟨hE, hpa9, B_gL, B_gN, K_0, K_s33⟩
            refine wp_seq ?_
            rcases Decidable.em ((pa : Int) < (nn : Int)) with hPA | hPA
            ·
              refine c_reg R8_17_l ?_
              refine q0 p8_17_0 hE (st_move rfl) ?_
              clear hE a; intro a hE
              refine q0 p8_17_1 hE (st_move rfl) ?_
              clear hE a; intro a hE
              refine q0 p8_17_2 hE (st_lss (b := true) rfl rfl (decide_eq_true hPA)) ?_
              clear hE a; intro a hE
              refine p_nil ?_
              refine x_norm ?_
              refine c_cond (t := true) hE rfl ?_
              refine wp_skip ?_
              refine x_norm ?_
              refine wp_seq ?_
              refine wp_block ?_
              refine c_reg R8_19_l ?_
              obtain ⟨Aa, ca, ha, ⟨hAa, hca⟩, hCa, hFa, hBa⟩ := hAll pa (by omega)
              refine q0 p8_19_0 hE (st_assign rfl) ?_
              clear hE a; intro a hE
              refine p_nil ?_
              refine x_norm ?_
              refine wp_block ?_
              refine c_loop (α := Nat) (fun pb a W => En 158 a [(0, Value.int .i64 (nn : Int)), (1, Value.slice a1 z1.length cap1), (5, Value.pointer (some ⟨gL, 0, none⟩)), (6, Value.int .i64 0), (28, Value.bool false), (7, Value.int .i64 (i : Int)), (36, Value.bool false), (9, Value.int .i64 (p : Int)), (8, Value.slice A_all n_all c_all), (58, Value.bool false), (10, Value.int .i64 (pa : Int)), (76, Value.bool true), (11, Value.int .i64 (pb : Int))] ∧ pb ≤ nn ∧ W.heap[gL]? = some (.cells #[Value.int .i64 (nn : Int), Value.map (some gN)] 83 (0, 0)) ∧ W.heap[gN]? = some (.map es9 ck9) ∧ Kp w W (fun _ => False) ∧ Kp w24 W (fun _ => False)) (fun pb => nn - pb) (0) ?_ ?_
              ·
                exact ⟨En.sub hE ⟨rfl, rfl, rfl, rfl, rfl, rfl, rfl, rfl, rfl, rfl, rfl, rfl, rfl, trivial⟩, Nat.zero_le _, B_gL, B_gN, K_0, K_s33⟩
              ·
                clear hE a
                rintro pb a w35 ⟨hE, hpb9, B_gL, B_gN, K_0, K_s33⟩
                refine wp_seq ?_
                rcases Decidable.em ((pb : Int) < (nn : Int)) with hPB | hPB
                ·
                  refine c_reg R8_20_l ?_
                  refine q0 p8_20_0 hE (st_move rfl) ?_
                  clear hE a; intro a hE
                  refine q0 p8_20_1 hE (st_move rfl) ?_
                  clear hE a; intro a hE
                  refine q0 p8_20_2 hE (st_lss (b := true) rfl rfl (decide_eq_true hPB)) ?_
                  clear hE a; intro a hE
                  refine p_nil ?_
                  refine x_norm ?_
                  refine c_cond (t := true) hE rfl ?_
                  refine wp_skip ?_
                  refine x_norm ?_
                  refine wp_seq ?_
                  refine wp_block ?_
                  refine wp_seq ?_
                  obtain ⟨Ab, cb, hb, ⟨hAb, hcb⟩, hCb, hFb, hBb⟩ := hAll pb (by omega)
                  have hbo : rd ha (pb : Int) = rd hb (pa : Int) := by rw [rd_at, rd_at]; exact Bf.both (fun x y h => ed_lt h) (fun x y h => ed_sym h) (by omega) (by omega) hFa hFb
                  refine c_drawS (S := fun W => Kd.C (Kd.int .i64) W Aa nn ha ∧ Kd.C (Kd.int .i64) W Ab nn hb ∧ (∀ j u, ([Value.slice Aa nn ca])[j]? = some u → W.cell? (ea A_all (pa * 1 + j)) = some u) ∧ (∀ j u, ([Value.slice Ab nn cb])[j]? = some u → W.cell? (ea A_all (pb * 1 + j)) = some u) ∧ True) rfl rfl (listed := #[false, false, false, false, false, false, false, false, false, false, false, false, false, false, false]) rfl ?_
                  intro w36 hh hk
                  replace B_gL := kp_blk B_gL hk (fun h => h)
                  replace B_gN := kp_blk B_gN hk (fun h => h)
                  replace K_0 := K_0.then_ hk (fun _ h => h.elim)
                  replace K_s33 := K_s33.then_ hk (fun _ h => h.elim)
                  clear hh hk
                  refine d_take (v := Value.slice A_all n_all c_all) p8_22_0 ns8_22 (by kernel_rfl) (by kernel_rfl) (fun _ _ _ h => h) hE wn_none rfl ⟨(C_to hCa K_s33), (C_to hCb K_s33), (fun j u h => cell_to K_s33 (hca j u h)), (fun j u h => cell_to K_s33 (hcb j u h)), trivial⟩ (fun W hS => (st_move rfl)) rfl ?_
                  clear hE a; intro a hE
                  refine d_take (v := Value.int .i64 (pa : Int)) p8_22_1 ns8_22 (by kernel_rfl) (by kernel_rfl) (fun _ _ _ h => h) hE wn_none rfl ⟨(C_to hCa K_s33), (C_to hCb K_s33), (fun j u h => cell_to K_s33 (hca j u h)), (fun j u h => cell_to K_s33 (hcb j u h)), trivial⟩ (fun W hS => (st_move rfl)) rfl ?_
                  clear hE a; intro a hE
                  refine d_take (v := Value.pointer (some (ea A_all (pa * 1)))) p8_22_2 ns8_22 (by kernel_rfl) (by kernel_rfl) (fun _ _ _ h => h) hE wn_none rfl ⟨(C_to hCa K_s33), (C_to hCb K_s33), (fun j u h => cell_to K_s33 (hca j u h)), (fun j u h => cell_to K_s33 (hcb j u h)), trivial⟩ (fun W hS => (st_indexAddrR (i := pa) (s := 1) Try.underlying65 tS52 hAa rfl rfl (by omega))) rfl ?_
                  clear hE a; intro a hE
                  refine d_take (v := Value.slice Aa nn ca) p8_22_3 ns8_22 (by kernel_rfl) (by kernel_rfl) (fun _ _ _ h => h) hE wn_none rfl ⟨(C_to hCa K_s33), (C_to hCb K_s33), (fun j u h => cell_to K_s33 (hca j u h)), (fun j u h => cell_to K_s33 (hcb j u h)), trivial⟩ (fun W hS => (st_loadR1 (off := pa * 1) (j := 0) tA52 (hS.2.2.1) rfl (by omega) rfl)) rfl ?_
                  clear hE a; intro a hE
                  refine d_take (v := Value.int .i64 (pb : Int)) p8_22_4 ns8_22 (by kernel_rfl) (by kernel_rfl) (fun _ _ _ h => h) hE wn_none rfl ⟨(C_to hCa K_s33), (C_to hCb K_s33), (fun j u h => cell_to K_s33 (hca j u h)), (fun j u h => cell_to K_s33 (hcb j u h)), trivial⟩ (fun W hS => (st_move rfl)) rfl ?_
                  clear hE a; intro a hE
                  refine d_take (v := Value.pointer (some (ea Aa pb))) p8_22_5 ns8_22 (by kernel_rfl) (by kernel_rfl) (fun _ _ _ h => h) hE wn_none rfl ⟨(C_to hCa K_s33), (C_to hCb K_s33), (fun j u h => cell_to K_s33 (hca j u h)), (fun j u h => cell_to K_s33 (hcb j u h)), trivial⟩ (fun W hS => (st_indexAddrS (i := pb) Try.underlying52 tS3 (C_at (C_to hCa K_s33) (show pb < _ by omega)).1 rfl rfl (by omega))) rfl ?_
                  clear hE a; intro a hE
                  refine d_take (v := Value.int .i64 (rd ha (pb : Int))) p8_22_6 ns8_22 (by kernel_rfl) (by kernel_rfl) (fun _ _ _ h => h) hE wn_none rfl ⟨(C_to hCa K_s33), (C_to hCb K_s33), (fun j u h => cell_to K_s33 (hca j u h)), (fun j u h => cell_to K_s33 (hcb j u h)), trivial⟩ (fun W hS => (st_loadC (i := pb) tA3 (hS.1) (by omega) rfl)) rfl ?_
                  clear hE a; intro a hE
                  refine d_take (v := Value.slice A_all n_all c_all) p8_22_7 ns8_22 (by kernel_rfl) (by kernel_rfl) (fun _ _ _ h => h) hE wn_none rfl ⟨(C_to hCa K_s33), (C_to hCb K_s33), (fun j u h => cell_to K_s33 (hca j u h)), (fun j u h => cell_to K_s33 (hcb j u h)), trivial⟩ (fun W hS => (st_move rfl)) rfl ?_
                  clear hE a; intro a hE
                  refine d_take (v := Value.int .i64 (pb : Int)) p8_22_8 ns8_22 (by kernel_rfl) (by kernel_rfl) (fun _ _ _ h => h) hE wn_none rfl ⟨(C_to hCa K_s33), (C_to hCb K_s33), (fun j u h => cell_to K_s33 (hca j u h)), (fun j u h => cell_to K_s33 (hcb j u h)), trivial⟩ (fun W hS => (st_move rfl)) rfl ?_
                  clear hE a; intro a hE
                  refine d_take (v := Value.pointer (some (ea A_all (pb * 1)))) p8_22_9 ns8_22 (by kernel_rfl) (by kernel_rfl) (fun _ _ _ h => h) hE wn_none rfl ⟨(C_to hCa K_s33), (C_to hCb K_s33), (fun j u h => cell_to K_s33 (hca j u h)), (fun j u h => cell_to K_s33 (hcb j u h)), trivial⟩ (fun W hS => (st_indexAddrR (i := pb) (s := 1) Try.underlying65 tS52 hAb rfl rfl (by omega))) rfl ?_
                  clear hE a; intro a hE
                  refine d_take (v := Value.slice Ab nn cb) p8_22_10 ns8_22 (by kernel_rfl) (by kernel_rfl) (fun _ _ _ h => h) hE wn_none rfl ⟨(C_to hCa K_s33), (C_to hCb K_s33), (fun j u h => cell_to K_s33 (hca j u h)), (fun j u h => cell_to K_s33 (hcb j u h)), trivial⟩ (fun W hS => (st_loadR1 (off := pb * 1) (j := 0) tA52 (hS.2.2.2.1) rfl (by omega) rfl)) rfl ?_
                  clear hE a; intro a hE
                  refine d_take (v := Value.int .i64 (pa : Int)) p8_22_11 ns8_22 (by kernel_rfl) (by kernel_rfl) (fun _ _ _ h => h) hE wn_none rfl ⟨(C_to hCa K_s33), (C_to hCb K_s33), (fun j u h => cell_to K_s33 (hca j u h)), (fun j u h => cell_to K_s33 (hcb j u h)), trivial⟩ (fun W hS => (st_move rfl)) rfl ?_
                  clear hE a; intro a hE
                  refine d_take (v := Value.pointer (some (ea Ab pa))) p8_22_12 ns8_22 (by kernel_rfl) (by kernel_rfl) (fun _ _ _ h => h) hE wn_none rfl ⟨(C_to hCa K_s33), (C_to hCb K_s33), (fun j u h => cell_to K_s33 (hca j u h)), (fun j u h => cell_to K_s33 (hcb j u h)), trivial⟩ (fun W hS => (st_indexAddrS (i := pa) Try.underlying52 tS3 (C_at (C_to hCb K_s33) (show pa < _ by omega)).1 rfl rfl (by omega))) rfl ?_
                  clear hE a; intro a hE
                  refine d_take (v := Value.int .i64 (rd hb (pa : Int))) p8_22_13 ns8_22 (by kernel_rfl) (by kernel_rfl) (fun _ _ _ h => h) hE wn_none rfl ⟨(C_to hCa K_s33), (C_to hCb K_s33), (fun j u h => cell_to K_s33 (hca j u h)), (fun j u h => cell_to K_s33 (hcb j u h)), trivial⟩ (fun W hS => (st_loadC (i := pa) tA3 (hS.2.1) (by omega) rfl)) rfl ?_
                  clear hE a; intro a hE
                  refine d_take (v := Value.bool false) p8_22_14 ns8_22 (by kernel_rfl) (by kernel_rfl) (fun _ _ _ h => h) hE wn_none rfl ⟨(C_to hCa K_s33), (C_to hCb K_s33), (fun j u h => cell_to K_s33 (hca j u h)), (fun j u h => cell_to K_s33 (hcb j u h)), trivial⟩ (fun W hS => (st_neq (b := false) rfl rfl (by rw [hbo]; simp))) rfl ?_
                  clear hE a; intro a hE
                  refine d_end (by kernel_rfl) ?_
                  refine x_norm ?_
                  refine c_cond (t := false) hE rfl ?_
                  refine wp_skip ?_
                  refine x_norm ?_
                  refine c_reg R8_24_l ?_
                  refine q0 p8_24_0 hE (st_assign rfl) ?_
                  clear hE a; intro a hE
                  refine p_nil ?_
                  refine x_norm ?_
                  refine wp_block ?_
                  refine c_loop (α := Nat) (fun pc a W => En 158 a [(0, Value.int .i64 (nn : Int)), (1, Value.slice a1 z1.length cap1), (5, Value.pointer (some ⟨gL, 0, none⟩)), (6, Value.int .i64 0), (28, Value.bool false), (7, Value.int .i64 (i : Int)), (36, Value.bool false), (9, Value.int .i64 (p : Int)), (8, Value.slice A_all n_all c_all), (58, Value.bool false), (10, Value.int .i64 (pa : Int)), (76, Value.bool true), (11, Value.int .i64 (pb : Int)), (81, Value.bool true), (98, Value.bool false), (12, Value.int .i64 (pc : Int))] ∧ pc ≤ nn ∧ W.heap[gL]? = some (.cells #[Value.int .i64 (nn : Int), Value.map (some gN)] 83 (0, 0)) ∧ W.heap[gN]? = some (.map es9 ck9) ∧ Kp w W (fun _ => False) ∧ Kp w24 W (fun _ => False)) (fun pc => nn - pc) (0) ?_ ?_
                  ·
                    exact ⟨En.sub hE ⟨rfl, rfl, rfl, rfl, rfl, rfl, rfl, rfl, rfl, rfl, rfl, rfl, rfl, rfl, rfl, rfl, trivial⟩, Nat.zero_le _, B_gL, B_gN, K_0, K_s33⟩
                  ·
                    clear hE a
                    rintro pc a w37 ⟨hE, hpc9, B_gL, B_gN, K_0, K_s33⟩
                    refine wp_seq ?_
                    rcases Decidable.em ((pc : Int) < (nn : Int)) with hPC | hPC
                    ·
                      refine c_reg R8_25_l ?_
                      refine q0 p8_25_0 hE (st_move rfl) ?_
                      clear hE a; intro a hE
                      refine q0 p8_25_1 hE (st_move rfl) ?_
                      clear hE a; intro a hE
                      refine q0 p8_25_2 hE (st_lss (b := true) rfl rfl (decide_eq_true hPC)) ?_
                      clear hE a; intro a hE
                      refine p_nil ?_
                      refine x_norm ?_
                      refine c_cond (t := true) hE rfl ?_
                      refine wp_skip ?_
                      refine x_norm ?_
                      refine wp_seq ?_
                      refine wp_block ?_
                      rcases Decidable.em (0 ≤ rd ha (pb : Int)) with hV1 | hV1
                      ·
                        rcases Decidable.em (0 ≤ rd hb (pc : Int)) with hV2 | hV2
                        ·
                          have hov := Bf.over3 (fun x y h => ed_lt h) (show pa < nn by omega) (show pb < nn by omega) (show pc < nn by omega) hFa hFb (by rw [← rd_at]; exact hV1) (by rw [← rd_at]; exact hV2)
                          rw [← rd_at, ← rd_at, ← rd_at] at hov
                          have hb1 := hBa pb (by omega)
                          have hb2 := hBb pc (by omega)
                          rw [← rd_at] at hb1 hb2
                          obtain ⟨hov1, hov2⟩ := hov
                          refine c_drawS (S := fun W => Kd.C (Kd.int .i64) W Aa nn ha ∧ Kd.C (Kd.int .i64) W Ab nn hb ∧ (∀ j u, ([Value.slice Aa nn ca])[j]? = some u → W.cell? (ea A_all (pa * 1 + j)) = some u) ∧ (∀ j u, ([Value.slice Ab nn cb])[j]? = some u → W.cell? (ea A_all (pb * 1 + j)) = some u) ∧ True) rfl rfl (listed := #[false, false, false, false, false, false, false, false, false, false, false, false, false, false, false, false, false, false, false, false, false, false, false, false, false, false, false, false, false, false, false, false, false, false, false, false, false, false, false, false, false, false, false, false, false, false, false, false, false, false, false, false, false]) rfl ?_
                          intro w38 hh hk
                          replace B_gL := kp_blk B_gL hk (fun h => h)
                          replace B_gN := kp_blk B_gN hk (fun h => h)
                          replace K_0 := K_0.then_ hk (fun _ h => h.elim)
                          replace K_s33 := K_s33.then_ hk (fun _ h => h.elim)
                          clear hh hk
                          refine d_take (v := Value.slice A_all n_all c_all) p8_27_0 ns8_27 (by kernel_rfl) (by kernel_rfl) (fun _ _ _ h => h) hE wn_none rfl ⟨(C_to hCa K_s33), (C_to hCb K_s33), (fun j u h => cell_to K_s33 (hca j u h)), (fun j u h => cell_to K_s33 (hcb j u h)), trivial⟩ (fun W hS => (st_move rfl)) rfl ?_
                          clear hE a; intro a hE
                          refine d_take (v := Value.int .i64 (pa : Int)) p8_27_1 ns8_27 (by kernel_rfl) (by kernel_rfl) (fun _ _ _ h => h) hE wn_none rfl ⟨(C_to hCa K_s33), (C_to hCb K_s33), (fun j u h => cell_to K_s33 (hca j u h)), (fun j u h => cell_to K_s33 (hcb j u h)), trivial⟩ (fun W hS => (st_move rfl)) rfl ?_
                          clear hE a; intro a hE
                          refine d_take (v := Value.pointer (some (ea A_all (pa * 1)))) p8_27_2 ns8_27 (by kernel_rfl) (by kernel_rfl) (fun _ _ _ h => h) hE wn_none rfl ⟨(C_to hCa K_s33), (C_to hCb K_s33), (fun j u h => cell_to K_s33 (hca j u h)), (fun j u h => cell_to K_s33 (hcb j u h)), trivial⟩ (fun W hS => (st_indexAddrR (i := pa) (s := 1) Try.underlying65 tS52 hAa rfl rfl (by omega))) rfl ?_
                          clear hE a; intro a hE
                          refine d_take (v := Value.slice Aa nn ca) p8_27_3 ns8_27 (by kernel_rfl) (by kernel_rfl) (fun _ _ _ h => h) hE wn_none rfl ⟨(C_to hCa K_s33), (C_to hCb K_s33), (fun j u h => cell_to K_s33 (hca j u h)), (fun j u h => cell_to K_s33 (hcb j u h)), trivial⟩ (fun W hS => (st_loadR1 (off := pa * 1) (j := 0) tA52 (hS.2.2.1) rfl (by omega) rfl)) rfl ?_
                          clear hE a; intro a hE
                          refine d_take (v := Value.int .i64 (pb : Int)) p8_27_4 ns8_27 (by kernel_rfl) (by kernel_rfl) (fun _ _ _ h => h) hE wn_none rfl ⟨(C_to hCa K_s33), (C_to hCb K_s33), (fun j u h => cell_to K_s33 (hca j u h)), (fun j u h => cell_to K_s33 (hcb j u h)), trivial⟩ (fun W hS => (st_move rfl)) rfl ?_
                          clear hE a; intro a hE
                          refine d_take (v := Value.pointer (some (ea Aa pb))) p8_27_5 ns8_27 (by kernel_rfl) (by kernel_rfl) (fun _ _ _ h => h) hE wn_none rfl ⟨(C_to hCa K_s33), (C_to hCb K_s33), (fun j u h => cell_to K_s33 (hca j u h)), (fun j u h => cell_to K_s33 (hcb j u h)), trivial⟩ (fun W hS => (st_indexAddrS (i := pb) Try.underlying52 tS3 (C_at (C_to hCa K_s33) (show pb < _ by omega)).1 rfl rfl (by omega))) rfl ?_
                          clear hE a; intro a hE
                          refine d_take (v := Value.int .i64 (rd ha (pb : Int))) p8_27_6 ns8_27 (by kernel_rfl) (by kernel_rfl) (fun _ _ _ h => h) hE wn_none rfl ⟨(C_to hCa K_s33), (C_to hCb K_s33), (fun j u h => cell_to K_s33 (hca j u h)), (fun j u h => cell_to K_s33 (hcb j u h)), trivial⟩ (fun W hS => (st_loadC (i := pb) tA3 (hS.1) (by omega) rfl)) rfl ?_
                          clear hE a; intro a hE
                          refine d_take (v := Value.bool true) p8_27_7 ns8_27 (by kernel_rfl) (by kernel_rfl) (fun _ _ _ h => h) hE wn_none rfl ⟨(C_to hCa K_s33), (C_to hCb K_s33), (fun j u h => cell_to K_s33 (hca j u h)), (fun j u h => cell_to K_s33 (hcb j u h)), trivial⟩ (fun W hS => (st_geq (b := true) rfl rfl (decide_eq_true hV1))) rfl ?_
                          clear hE a; intro a hE
                          refine d_take (v := Value.bool true) p8_27_8 ns8_27 (by kernel_rfl) (by kernel_rfl) (fun _ _ _ h => h) hE wn_none rfl ⟨(C_to hCa K_s33), (C_to hCb K_s33), (fun j u h => cell_to K_s33 (hca j u h)), (fun j u h => cell_to K_s33 (hcb j u h)), trivial⟩ (fun W hS => (st_move rfl)) rfl ?_
                          clear hE a; intro a hE
                          refine d_take (v := Value.slice A_all n_all c_all) p8_27_9 ns8_27 (by kernel_rfl) (by kernel_rfl) (fun _ _ _ h => h) hE (wn_some g8_27_8 rfl rfl) rfl ⟨(C_to hCa K_s33), (C_to hCb K_s33), (fun j u h => cell_to K_s33 (hca j u h)), (fun j u h => cell_to K_s33 (hcb j u h)), trivial⟩ (fun W hS => (st_move rfl)) rfl ?_
                          clear hE a; intro a hE
                          refine d_take (v := Value.int .i64 (pb : Int)) p8_27_10 ns8_27 (by kernel_rfl) (by kernel_rfl) (fun _ _ _ h => h) hE (wn_some g8_27_8 rfl rfl) rfl ⟨(C_to hCa K_s33), (C_to hCb K_s33), (fun j u h => cell_to K_s33 (hca j u h)), (fun j u h => cell_to K_s33 (hcb j u h)), trivial⟩ (fun W hS => (st_move rfl)) rfl ?_
                          clear hE a; intro a hE
                          refine d_take (v := Value.pointer (some (ea A_all (pb * 1)))) p8_27_11 ns8_27 (by kernel_rfl) (by kernel_rfl) (fun _ _ _ h => h) hE (wn_some g8_27_8 rfl rfl) rfl ⟨(C_to hCa K_s33), (C_to hCb K_s33), (fun j u h => cell_to K_s33 (hca j u h)), (fun j u h => cell_to K_s33 (hcb j u h)), trivial⟩ (fun W hS => (st_indexAddrR (i := pb) (s := 1) Try.underlying65 tS52 hAb rfl rfl (by omega))) rfl ?_
                          clear hE a; intro a hE
                          refine d_take (v := Value.slice Ab nn cb) p8_27_12 ns8_27 (by kernel_rfl) (by kernel_rfl) (fun _ _ _ h => h) hE (wn_some g8_27_8 rfl rfl) rfl ⟨(C_to hCa K_s33), (C_to hCb K_s33), (fun j u h => cell_to K_s33 (hca j u h)), (fun j u h => cell_to K_s33 (hcb j u h)), trivial⟩ (fun W hS => (st_loadR1 (off := pb * 1) (j := 0) tA52 (hS.2.2.2.1) rfl (by omega) rfl)) rfl ?_
                          clear hE a; intro a hE
                          refine d_take (v := Value.int .i64 (pc : Int)) p8_27_13 ns8_27 (by kernel_rfl) (by kernel_rfl) (fun _ _ _ h => h) hE (wn_some g8_27_8 rfl rfl) rfl ⟨(C_to hCa K_s33), (C_to hCb K_s33), (fun j u h => cell_to K_s33 (hca j u h)), (fun j u h => cell_to K_s33 (hcb j u h)), trivial⟩ (fun W hS => (st_move rfl)) rfl ?_
                          clear hE a; intro a hE
                          refine d_take (v := Value.pointer (some (ea Ab pc))) p8_27_14 ns8_27 (by kernel_rfl) (by kernel_rfl) (fun _ _ _ h => h) hE (wn_some g8_27_8 rfl rfl) rfl ⟨(C_to hCa K_s33), (C_to hCb K_s33), (fun j u h => cell_to K_s33 (hca j u h)), (fun j u h => cell_to K_s33 (hcb j u h)), trivial⟩ (fun W hS => (st_indexAddrS (i := pc) Try.underlying52 tS3 (C_at (C_to hCb K_s33) (show pc < _ by omega)).1 rfl rfl (by omega))) rfl ?_
                          clear hE a; intro a hE
                          refine d_take (v := Value.int .i64 (rd hb (pc : Int))) p8_27_15 ns8_27 (by kernel_rfl) (by kernel_rfl) (fun _ _ _ h => h) hE (wn_some g8_27_8 rfl rfl) rfl ⟨(C_to hCa K_s33), (C_to hCb K_s33), (fun j u h => cell_to K_s33 (hca j u h)), (fun j u h => cell_to K_s33 (hcb j u h)), trivial⟩ (fun W hS => (st_loadC (i := pc) tA3 (hS.2.1) (by omega) rfl)) rfl ?_
                          clear hE a; intro a hE
                          refine d_take (v := Value.bool true) p8_27_16 ns8_27 (by kernel_rfl) (by kernel_rfl) (fun _ _ _ h => h) hE (wn_some g8_27_8 rfl rfl) rfl ⟨(C_to hCa K_s33), (C_to hCb K_s33), (fun j u h => cell_to K_s33 (hca j u h)), (fun j u h => cell_to K_s33 (hcb j u h)), trivial⟩ (fun W hS => (st_geq (b := true) rfl rfl (decide_eq_true hV2))) rfl ?_
                          clear hE a; intro a hE
                          refine d_take (v := Value.bool true) p8_27_17 ns8_27 (by kernel_rfl) (by kernel_rfl) (fun _ _ _ h => h) hE wn_none rfl ⟨(C_to hCa K_s33), (C_to hCb K_s33), (fun j u h => cell_to K_s33 (hca j u h)), (fun j u h => cell_to K_s33 (hcb j u h)), trivial⟩ (fun W hS => (st_pick rfl rfl)) rfl ?_
                          clear hE a; intro a hE
                          refine d_take (v := Value.bool true) p8_27_18 ns8_27 (by kernel_rfl) (by kernel_rfl) (fun _ _ _ h => h) hE wn_none rfl ⟨(C_to hCa K_s33), (C_to hCb K_s33), (fun j u h => cell_to K_s33 (hca j u h)), (fun j u h => cell_to K_s33 (hcb j u h)), trivial⟩ (fun W hS => (st_move rfl)) rfl ?_
                          clear hE a; intro a hE
                          refine d_take (v := Value.slice A_all n_all c_all) p8_27_19 ns8_27 (by kernel_rfl) (by kernel_rfl) (fun _ _ _ h => h) hE (wn_some g8_27_18 rfl rfl) rfl ⟨(C_to hCa K_s33), (C_to hCb K_s33), (fun j u h => cell_to K_s33 (hca j u h)), (fun j u h => cell_to K_s33 (hcb j u h)), trivial⟩ (fun W hS => (st_move rfl)) rfl ?_
                          clear hE a; intro a hE
                          refine d_take (v := Value.int .i64 (pa : Int)) p8_27_20 ns8_27 (by kernel_rfl) (by kernel_rfl) (fun _ _ _ h => h) hE (wn_some g8_27_18 rfl rfl) rfl ⟨(C_to hCa K_s33), (C_to hCb K_s33), (fun j u h => cell_to K_s33 (hca j u h)), (fun j u h => cell_to K_s33 (hcb j u h)), trivial⟩ (fun W hS => (st_move rfl)) rfl ?_
                          clear hE a; intro a hE
                          refine d_take (v := Value.pointer (some (ea A_all (pa * 1)))) p8_27_21 ns8_27 (by kernel_rfl) (by kernel_rfl) (fun _ _ _ h => h) hE (wn_some g8_27_18 rfl rfl) rfl ⟨(C_to hCa K_s33), (C_to hCb K_s33), (fun j u h => cell_to K_s33 (hca j u h)), (fun j u h => cell_to K_s33 (hcb j u h)), trivial⟩ (fun W hS => (st_indexAddrR (i := pa) (s := 1) Try.underlying65 tS52 hAa rfl rfl (by omega))) rfl ?_
                          clear hE a; intro a hE
                          refine d_take (v := Value.slice Aa nn ca) p8_27_22 ns8_27 (by kernel_rfl) (by kernel_rfl) (fun _ _ _ h => h) hE (wn_some g8_27_18 rfl rfl) rfl ⟨(C_to hCa K_s33), (C_to hCb K_s33), (fun j u h => cell_to K_s33 (hca j u h)), (fun j u h => cell_to K_s33 (hcb j u h)), trivial⟩ (fun W hS => (st_loadR1 (off := pa * 1) (j := 0) tA52 (hS.2.2.1) rfl (by omega) rfl)) rfl ?_
                          clear hE a; intro a hE
                          refine d_take (v := Value.int .i64 (pc : Int)) p8_27_23 ns8_27 (by kernel_rfl) (by kernel_rfl) (fun _ _ _ h => h) hE (wn_some g8_27_18 rfl rfl) rfl ⟨(C_to hCa K_s33), (C_to hCb K_s33), (fun j u h => cell_to K_s33 (hca j u h)), (fun j u h => cell_to K_s33 (hcb j u h)), trivial⟩ (fun W hS => (st_move rfl)) rfl ?_
                          clear hE a; intro a hE
                          refine d_take (v := Value.pointer (some (ea Aa pc))) p8_27_24 ns8_27 (by kernel_rfl) (by kernel_rfl) (fun _ _ _ h => h) hE (wn_some g8_27_18 rfl rfl) rfl ⟨(C_to hCa K_s33), (C_to hCb K_s33), (fun j u h => cell_to K_s33 (hca j u h)), (fun j u h => cell_to K_s33 (hcb j u h)), trivial⟩ (fun W hS => (st_indexAddrS (i := pc) Try.underlying52 tS3 (C_at (C_to hCa K_s33) (show pc < _ by omega)).1 rfl rfl (by omega))) rfl ?_
                          clear hE a; intro a hE
                          refine d_take (v := Value.int .i64 (rd ha (pc : Int))) p8_27_25 ns8_27 (by kernel_rfl) (by kernel_rfl) (fun _ _ _ h => h) hE (wn_some g8_27_18 rfl rfl) rfl ⟨(C_to hCa K_s33), (C_to hCb K_s33), (fun j u h => cell_to K_s33 (hca j u h)), (fun j u h => cell_to K_s33 (hcb j u h)), trivial⟩ (fun W hS => (st_loadC (i := pc) tA3 (hS.1) (by omega) rfl)) rfl ?_
                          clear hE a; intro a hE
                          refine d_take (v := Value.bool false) p8_27_26 ns8_27 (by kernel_rfl) (by kernel_rfl) (fun _ _ _ h => h) hE (wn_some g8_27_18 rfl rfl) rfl ⟨(C_to hCa K_s33), (C_to hCb K_s33), (fun j u h => cell_to K_s33 (hca j u h)), (fun j u h => cell_to K_s33 (hcb j u h)), trivial⟩ (fun W hS => (st_lss (b := false) rfl rfl (decide_eq_false (by omega)))) rfl ?_
                          clear hE a; intro a hE
                          refine d_take (v := Value.bool false) p8_27_27 ns8_27 (by kernel_rfl) (by kernel_rfl) (fun _ _ _ h => h) hE (wn_some g8_27_18 rfl rfl) rfl ⟨(C_to hCa K_s33), (C_to hCb K_s33), (fun j u h => cell_to K_s33 (hca j u h)), (fun j u h => cell_to K_s33 (hcb j u h)), trivial⟩ (fun W hS => (st_move rfl)) rfl ?_
                          clear hE a; intro a hE
                          refine d_take (v := Value.slice A_all n_all c_all) p8_27_28 ns8_27 (by kernel_rfl) (by kernel_rfl) (fun _ _ _ h => h) hE (wn_some g8_27_27 rfl rfl) rfl ⟨(C_to hCa K_s33), (C_to hCb K_s33), (fun j u h => cell_to K_s33 (hca j u h)), (fun j u h => cell_to K_s33 (hcb j u h)), trivial⟩ (fun W hS => (st_move rfl)) rfl ?_
                          clear hE a; intro a hE
                          refine d_take (v := Value.int .i64 (pa : Int)) p8_27_29 ns8_27 (by kernel_rfl) (by kernel_rfl) (fun _ _ _ h => h) hE (wn_some g8_27_27 rfl rfl) rfl ⟨(C_to hCa K_s33), (C_to hCb K_s33), (fun j u h => cell_to K_s33 (hca j u h)), (fun j u h => cell_to K_s33 (hcb j u h)), trivial⟩ (fun W hS => (st_move rfl)) rfl ?_
                          clear hE a; intro a hE
                          refine d_take (v := Value.pointer (some (ea A_all (pa * 1)))) p8_27_30 ns8_27 (by kernel_rfl) (by kernel_rfl) (fun _ _ _ h => h) hE (wn_some g8_27_27 rfl rfl) rfl ⟨(C_to hCa K_s33), (C_to hCb K_s33), (fun j u h => cell_to K_s33 (hca j u h)), (fun j u h => cell_to K_s33 (hcb j u h)), trivial⟩ (fun W hS => (st_indexAddrR (i := pa) (s := 1) Try.underlying65 tS52 hAa rfl rfl (by omega))) rfl ?_
                          clear hE a; intro a hE
                          refine d_take (v := Value.slice Aa nn ca) p8_27_31 ns8_27 (by kernel_rfl) (by kernel_rfl) (fun _ _ _ h => h) hE (wn_some g8_27_27 rfl rfl) rfl ⟨(C_to hCa K_s33), (C_to hCb K_s33), (fun j u h => cell_to K_s33 (hca j u h)), (fun j u h => cell_to K_s33 (hcb j u h)), trivial⟩ (fun W hS => (st_loadR1 (off := pa * 1) (j := 0) tA52 (hS.2.2.1) rfl (by omega) rfl)) rfl ?_
                          clear hE a; intro a hE
                          refine d_take (v := Value.int .i64 (pc : Int)) p8_27_32 ns8_27 (by kernel_rfl) (by kernel_rfl) (fun _ _ _ h => h) hE (wn_some g8_27_27 rfl rfl) rfl ⟨(C_to hCa K_s33), (C_to hCb K_s33), (fun j u h => cell_to K_s33 (hca j u h)), (fun j u h => cell_to K_s33 (hcb j u h)), trivial⟩ (fun W hS => (st_move rfl)) rfl ?_
                          clear hE a; intro a hE
                          refine d_take (v := Value.pointer (some (ea Aa pc))) p8_27_33 ns8_27 (by kernel_rfl) (by kernel_rfl) (fun _ _ _ h => h) hE (wn_some g8_27_27 rfl rfl) rfl ⟨(C_to hCa K_s33), (C_to hCb K_s33), (fun j u h => cell_to K_s33 (hca j u h)), (fun j u h => cell_to K_s33 (hcb j u h)), trivial⟩ (fun W hS => (st_indexAddrS (i := pc) Try.underlying52 tS3 (C_at (C_to hCa K_s33) (show pc < _ by omega)).1 rfl rfl (by omega))) rfl ?_
                          clear hE a; intro a hE
                          refine d_take (v := Value.int .i64 (rd ha (pc : Int))) p8_27_34 ns8_27 (by kernel_rfl) (by kernel_rfl) (fun _ _ _ h => h) hE (wn_some g8_27_27 rfl rfl) rfl ⟨(C_to hCa K_s33), (C_to hCb K_s33), (fun j u h => cell_to K_s33 (hca j u h)), (fun j u h => cell_to K_s33 (hcb j u h)), trivial⟩ (fun W hS => (st_loadC (i := pc) tA3 (hS.1) (by omega) rfl)) rfl ?_
                          clear hE a; intro a hE
                          refine d_take (v := Value.slice A_all n_all c_all) p8_27_35 ns8_27 (by kernel_rfl) (by kernel_rfl) (fun _ _ _ h => h) hE (wn_some g8_27_27 rfl rfl) rfl ⟨(C_to hCa K_s33), (C_to hCb K_s33), (fun j u h => cell_to K_s33 (hca j u h)), (fun j u h => cell_to K_s33 (hcb j u h)), trivial⟩ (fun W hS => (st_move rfl)) rfl ?_
                          clear hE a; intro a hE
                          refine d_take (v := Value.int .i64 (pa : Int)) p8_27_36 ns8_27 (by kernel_rfl) (by kernel_rfl) (fun _ _ _ h => h) hE (wn_some g8_27_27 rfl rfl) rfl ⟨(C_to hCa K_s33), (C_to hCb K_s33), (fun j u h => cell_to K_s33 (hca j u h)), (fun j u h => cell_to K_s33 (hcb j u h)), trivial⟩ (fun W hS => (st_move rfl)) rfl ?_
                          clear hE a; intro a hE
                          refine d_take (v := Value.pointer (some (ea A_all (pa * 1)))) p8_27_37 ns8_27 (by kernel_rfl) (by kernel_rfl) (fun _ _ _ h => h) hE (wn_some g8_27_27 rfl rfl) rfl ⟨(C_to hCa K_s33), (C_to hCb K_s33), (fun j u h => cell_to K_s33 (hca j u h)), (fun j u h => cell_to K_s33 (hcb j u h)), trivial⟩ (fun W hS => (st_indexAddrR (i := pa) (s := 1) Try.underlying65 tS52 hAa rfl rfl (by omega))) rfl ?_
                          clear hE a; intro a hE
                          refine d_take (v := Value.slice Aa nn ca) p8_27_38 ns8_27 (by kernel_rfl) (by kernel_rfl) (fun _ _ _ h => h) hE (wn_some g8_27_27 rfl rfl) rfl ⟨(C_to hCa K_s33), (C_to hCb K_s33), (fun j u h => cell_to K_s33 (hca j u h)), (fun j u h => cell_to K_s33 (hcb j u h)), trivial⟩ (fun W hS => (st_loadR1 (off := pa * 1) (j := 0) tA52 (hS.2.2.1) rfl (by omega) rfl)) rfl ?_
                          clear hE a; intro a hE
                          refine d_take (v := Value.int .i64 (pb : Int)) p8_27_39 ns8_27 (by kernel_rfl) (by kernel_rfl) (fun _ _ _ h => h) hE (wn_some g8_27_27 rfl rfl) rfl ⟨(C_to hCa K_s33), (C_to hCb K_s33), (fun j u h => cell_to K_s33 (hca j u h)), (fun j u h => cell_to K_s33 (hcb j u h)), trivial⟩ (fun W hS => (st_move rfl)) rfl ?_
                          clear hE a; intro a hE
                          refine d_take (v := Value.pointer (some (ea Aa pb))) p8_27_40 ns8_27 (by kernel_rfl) (by kernel_rfl) (fun _ _ _ h => h) hE (wn_some g8_27_27 rfl rfl) rfl ⟨(C_to hCa K_s33), (C_to hCb K_s33), (fun j u h => cell_to K_s33 (hca j u h)), (fun j u h => cell_to K_s33 (hcb j u h)), trivial⟩ (fun W hS => (st_indexAddrS (i := pb) Try.underlying52 tS3 (C_at (C_to hCa K_s33) (show pb < _ by omega)).1 rfl rfl (by omega))) rfl ?_
                          clear hE a; intro a hE
                          refine d_take (v := Value.int .i64 (rd ha (pb : Int))) p8_27_41 ns8_27 (by kernel_rfl) (by kernel_rfl) (fun _ _ _ h => h) hE (wn_some g8_27_27 rfl rfl) rfl ⟨(C_to hCa K_s33), (C_to hCb K_s33), (fun j u h => cell_to K_s33 (hca j u h)), (fun j u h => cell_to K_s33 (hcb j u h)), trivial⟩ (fun W hS => (st_loadC (i := pb) tA3 (hS.1) (by omega) rfl)) rfl ?_
                          clear hE a; intro a hE
                          refine d_take (v := Value.slice A_all n_all c_all) p8_27_42 ns8_27 (by kernel_rfl) (by kernel_rfl) (fun _ _ _ h => h) hE (wn_some g8_27_27 rfl rfl) rfl ⟨(C_to hCa K_s33), (C_to hCb K_s33), (fun j u h => cell_to K_s33 (hca j u h)), (fun j u h => cell_to K_s33 (hcb j u h)), trivial⟩ (fun W hS => (st_move rfl)) rfl ?_
                          clear hE a; intro a hE
                          refine d_take (v := Value.int .i64 (pb : Int)) p8_27_43 ns8_27 (by kernel_rfl) (by kernel_rfl) (fun _ _ _ h => h) hE (wn_some g8_27_27 rfl rfl) rfl ⟨(C_to hCa K_s33), (C_to hCb K_s33), (fun j u h => cell_to K_s33 (hca j u h)), (fun j u h => cell_to K_s33 (hcb j u h)), trivial⟩ (fun W hS => (st_move rfl)) rfl ?_
                          clear hE a; intro a hE
                          refine d_take (v := Value.pointer (some (ea A_all (pb * 1)))) p8_27_44 ns8_27 (by kernel_rfl) (by kernel_rfl) (fun _ _ _ h => h) hE (wn_some g8_27_27 rfl rfl) rfl ⟨(C_to hCa K_s33), (C_to hCb K_s33), (fun j u h => cell_to K_s33 (hca j u h)), (fun j u h => cell_to K_s33 (hcb j u h)), trivial⟩ (fun W hS => (st_indexAddrR (i := pb) (s := 1) Try.underlying65 tS52 hAb rfl rfl (by omega))) rfl ?_
                          clear hE a; intro a hE
                          refine d_take (v := Value.slice Ab nn cb) p8_27_45 ns8_27 (by kernel_rfl) (by kernel_rfl) (fun _ _ _ h => h) hE (wn_some g8_27_27 rfl rfl) rfl ⟨(C_to hCa K_s33), (C_to hCb K_s33), (fun j u h => cell_to K_s33 (hca j u h)), (fun j u h => cell_to K_s33 (hcb j u h)), trivial⟩ (fun W hS => (st_loadR1 (off := pb * 1) (j := 0) tA52 (hS.2.2.2.1) rfl (by omega) rfl)) rfl ?_
                          clear hE a; intro a hE
                          refine d_take (v := Value.int .i64 (pc : Int)) p8_27_46 ns8_27 (by kernel_rfl) (by kernel_rfl) (fun _ _ _ h => h) hE (wn_some g8_27_27 rfl rfl) rfl ⟨(C_to hCa K_s33), (C_to hCb K_s33), (fun j u h => cell_to K_s33 (hca j u h)), (fun j u h => cell_to K_s33 (hcb j u h)), trivial⟩ (fun W hS => (st_move rfl)) rfl ?_
                          clear hE a; intro a hE
                          refine d_take (v := Value.pointer (some (ea Ab pc))) p8_27_47 ns8_27 (by kernel_rfl) (by kernel_rfl) (fun _ _ _ h => h) hE (wn_some g8_27_27 rfl rfl) rfl ⟨(C_to hCa K_s33), (C_to hCb K_s33), (fun j u h => cell_to K_s33 (hca j u h)), (fun j u h => cell_to K_s33 (hcb j u h)), trivial⟩ (fun W hS => (st_indexAddrS (i := pc) Try.underlying52 tS3 (C_at (C_to hCb K_s33) (show pc < _ by omega)).1 rfl rfl (by omega))) rfl ?_
                          clear hE a; intro a hE
                          refine d_take (v := Value.int .i64 (rd hb (pc : Int))) p8_27_48 ns8_27 (by kernel_rfl) (by kernel_rfl) (fun _ _ _ h => h) hE (wn_some g8_27_27 rfl rfl) rfl ⟨(C_to hCa K_s33), (C_to hCb K_s33), (fun j u h => cell_to K_s33 (hca j u h)), (fun j u h => cell_to K_s33 (hcb j u h)), trivial⟩ (fun W hS => (st_loadC (i := pc) tA3 (hS.2.1) (by omega) rfl)) rfl ?_
                          clear hE a; intro a hE
                          refine d_take (v := Value.int .i64 ((rd ha (pb : Int)) + (rd hb (pc : Int)))) p8_27_49 ns8_27 (by kernel_rfl) (by kernel_rfl) (fun _ _ _ h => h) hE (wn_some g8_27_27 rfl rfl) rfl ⟨(C_to hCa K_s33), (C_to hCb K_s33), (fun j u h => cell_to K_s33 (hca j u h)), (fun j u h => cell_to K_s33 (hcb j u h)), trivial⟩ (fun W hS => (st_add (z := (rd ha (pb : Int)) + (rd hb (pc : Int))) rfl rfl (wr_i64 _ (by omega) (by omega)))) rfl ?_
                          clear hE a; intro a hE
                          refine d_take (v := Value.bool false) p8_27_50 ns8_27 (by kernel_rfl) (by kernel_rfl) (fun _ _ _ h => h) hE (wn_some g8_27_27 rfl rfl) rfl ⟨(C_to hCa K_s33), (C_to hCb K_s33), (fun j u h => cell_to K_s33 (hca j u h)), (fun j u h => cell_to K_s33 (hcb j u h)), trivial⟩ (fun W hS => (st_gtr (b := false) rfl rfl (decide_eq_false (by omega)))) rfl ?_
                          clear hE a; intro a hE
                          refine d_take (v := Value.bool false) p8_27_51 ns8_27 (by kernel_rfl) (by kernel_rfl) (fun _ _ _ h => h) hE (wn_some g8_27_18 rfl rfl) rfl ⟨(C_to hCa K_s33), (C_to hCb K_s33), (fun j u h => cell_to K_s33 (hca j u h)), (fun j u h => cell_to K_s33 (hcb j u h)), trivial⟩ (fun W hS => (st_pick rfl rfl)) rfl ?_
                          clear hE a; intro a hE
                          refine d_take (v := Value.bool false) p8_27_52 ns8_27 (by kernel_rfl) (by kernel_rfl) (fun _ _ _ h => h) hE wn_none rfl ⟨(C_to hCa K_s33), (C_to hCb K_s33), (fun j u h => cell_to K_s33 (hca j u h)), (fun j u h => cell_to K_s33 (hcb j u h)), trivial⟩ (fun W hS => (st_pick rfl rfl)) rfl ?_
                          clear hE a; intro a hE
                          refine d_end (by kernel_rfl) ?_
                          refine x_norm ?_
                          refine c_cond (t := false) hE rfl ?_
                          refine wp_skip ?_
                          refine x_normB ?_
                          refine x_norm ?_
                          refine c_regL R8_26_l ?_
                          refine q0 p8_26_0 hE (st_move rfl) ?_
                          clear hE a; intro a hE
                          refine q0 p8_26_1 hE (st_add (z := (pc : Int) + 1) rfl rfl (wr_i64 _ (by omega) (by omega))) ?_
                          clear hE a; intro a hE
                          refine q0 p8_26_2 hE (st_assign rfl) ?_
                          clear hE a; intro a hE
                          refine p_nil ?_
                          refine x_norm ?_
                          exact ⟨pc + 1, by omega, En.sub hE ⟨rfl, rfl, rfl, rfl, rfl, rfl, rfl, rfl, rfl, rfl, rfl, rfl, rfl, rfl, rfl, rfl, trivial⟩, by omega, B_gL, B_gN, K_0, K_s33⟩
                        ·
                          refine c_drawS (S := fun W => Kd.C (Kd.int .i64) W Aa nn ha ∧ Kd.C (Kd.int .i64) W Ab nn hb ∧ (∀ j u, ([Value.slice Aa nn ca])[j]? = some u → W.cell? (ea A_all (pa * 1 + j)) = some u) ∧ (∀ j u, ([Value.slice Ab nn cb])[j]? = some u → W.cell? (ea A_all (pb * 1 + j)) = some u) ∧ True) rfl rfl (listed := #[false, false, false, false, false, false, false, false, false, false, false, false, false, false, false, false, false, false, false, false, false, false, false, false, false, false, false, false, false, false, false, false, false, false, false, false, false, false, false, false, false, false, false, false, false, false, false, false, false, false, false, false, false]) rfl ?_
                          intro w39 hh hk
                          replace B_gL := kp_blk B_gL hk (fun h => h)
                          replace B_gN := kp_blk B_gN hk (fun h => h)
                          replace K_0 := K_0.then_ hk (fun _ h => h.elim)
                          replace K_s33 := K_s33.then_ hk (fun _ h => h.elim)
                          clear hh hk
                          refine d_take (v := Value.slice A_all n_all c_all) p8_27_0 ns8_27 (by kernel_rfl) (by kernel_rfl) (fun _ _ _ h => h) hE wn_none rfl ⟨(C_to hCa K_s33), (C_to hCb K_s33), (fun j u h => cell_to K_s33 (hca j u h)), (fun j u h => cell_to K_s33 (hcb j u h)), trivial⟩ (fun W hS => (st_move rfl)) rfl ?_
                          clear hE a; intro a hE
                          refine d_take (v := Value.int .i64 (pa : Int)) p8_27_1 ns8_27 (by kernel_rfl) (by kernel_rfl) (fun _ _ _ h => h) hE wn_none rfl ⟨(C_to hCa K_s33), (C_to hCb K_s33), (fun j u h => cell_to K_s33 (hca j u h)), (fun j u h => cell_to K_s33 (hcb j u h)), trivial⟩ (fun W hS => (st_move rfl)) rfl ?_
                          clear hE a; intro a hE
                          refine d_take (v := Value.pointer (some (ea A_all (pa * 1)))) p8_27_2 ns8_27 (by kernel_rfl) (by kernel_rfl) (fun _ _ _ h => h) hE wn_none rfl ⟨(C_to hCa K_s33), (C_to hCb K_s33), (fun j u h => cell_to K_s33 (hca j u h)), (fun j u h => cell_to K_s33 (hcb j u h)), trivial⟩ (fun W hS => (st_indexAddrR (i := pa) (s := 1) Try.underlying65 tS52 hAa rfl rfl (by omega))) rfl ?_
                          clear hE a; intro a hE
                          refine d_take (v := Value.slice Aa nn ca) p8_27_3 ns8_27 (by kernel_rfl) (by kernel_rfl) (fun _ _ _ h => h) hE wn_none rfl ⟨(C_to hCa K_s33), (C_to hCb K_s33), (fun j u h => cell_to K_s33 (hca j u h)), (fun j u h => cell_to K_s33 (hcb j u h)), trivial⟩ (fun W hS => (st_loadR1 (off := pa * 1) (j := 0) tA52 (hS.2.2.1) rfl (by omega) rfl)) rfl ?_
                          clear hE a; intro a hE
                          refine d_take (v := Value.int .i64 (pb : Int)) p8_27_4 ns8_27 (by kernel_rfl) (by kernel_rfl) (fun _ _ _ h => h) hE wn_none rfl ⟨(C_to hCa K_s33), (C_to hCb K_s33), (fun j u h => cell_to K_s33 (hca j u h)), (fun j u h => cell_to K_s33 (hcb j u h)), trivial⟩ (fun W hS => (st_move rfl)) rfl ?_
                          clear hE a; intro a hE
                          refine d_take (v := Value.pointer (some (ea Aa pb))) p8_27_5 ns8_27 (by kernel_rfl) (by kernel_rfl) (fun _ _ _ h => h) hE wn_none rfl ⟨(C_to hCa K_s33), (C_to hCb K_s33), (fun j u h => cell_to K_s33 (hca j u h)), (fun j u h => cell_to K_s33 (hcb j u h)), trivial⟩ (fun W hS => (st_indexAddrS (i := pb) Try.underlying52 tS3 (C_at (C_to hCa K_s33) (show pb < _ by omega)).1 rfl rfl (by omega))) rfl ?_
                          clear hE a; intro a hE
                          refine d_take (v := Value.int .i64 (rd ha (pb : Int))) p8_27_6 ns8_27 (by kernel_rfl) (by kernel_rfl) (fun _ _ _ h => h) hE wn_none rfl ⟨(C_to hCa K_s33), (C_to hCb K_s33), (fun j u h => cell_to K_s33 (hca j u h)), (fun j u h => cell_to K_s33 (hcb j u h)), trivial⟩ (fun W hS => (st_loadC (i := pb) tA3 (hS.1) (by omega) rfl)) rfl ?_
                          clear hE a; intro a hE
                          refine d_take (v := Value.bool true) p8_27_7 ns8_27 (by kernel_rfl) (by kernel_rfl) (fun _ _ _ h => h) hE wn_none rfl ⟨(C_to hCa K_s33), (C_to hCb K_s33), (fun j u h => cell_to K_s33 (hca j u h)), (fun j u h => cell_to K_s33 (hcb j u h)), trivial⟩ (fun W hS => (st_geq (b := true) rfl rfl (decide_eq_true hV1))) rfl ?_
                          clear hE a; intro a hE
                          refine d_take (v := Value.bool true) p8_27_8 ns8_27 (by kernel_rfl) (by kernel_rfl) (fun _ _ _ h => h) hE wn_none rfl ⟨(C_to hCa K_s33), (C_to hCb K_s33), (fun j u h => cell_to K_s33 (hca j u h)), (fun j u h => cell_to K_s33 (hcb j u h)), trivial⟩ (fun W hS => (st_move rfl)) rfl ?_
                          clear hE a; intro a hE
                          refine d_take (v := Value.slice A_all n_all c_all) p8_27_9 ns8_27 (by kernel_rfl) (by kernel_rfl) (fun _ _ _ h => h) hE (wn_some g8_27_8 rfl rfl) rfl ⟨(C_to hCa K_s33), (C_to hCb K_s33), (fun j u h => cell_to K_s33 (hca j u h)), (fun j u h => cell_to K_s33 (hcb j u h)), trivial⟩ (fun W hS => (st_move rfl)) rfl ?_
                          clear hE a; intro a hE
                          refine d_take (v := Value.int .i64 (pb : Int)) p8_27_10 ns8_27 (by kernel_rfl) (by kernel_rfl) (fun _ _ _ h => h) hE (wn_some g8_27_8 rfl rfl) rfl ⟨(C_to hCa K_s33), (C_to hCb K_s33), (fun j u h => cell_to K_s33 (hca j u h)), (fun j u h => cell_to K_s33 (hcb j u h)), trivial⟩ (fun W hS => (st_move rfl)) rfl ?_
                          clear hE a; intro a hE
                          refine d_take (v := Value.pointer (some (ea A_all (pb * 1)))) p8_27_11 ns8_27 (by kernel_rfl) (by kernel_rfl) (fun _ _ _ h => h) hE (wn_some g8_27_8 rfl rfl) rfl ⟨(C_to hCa K_s33), (C_to hCb K_s33), (fun j u h => cell_to K_s33 (hca j u h)), (fun j u h => cell_to K_s33 (hcb j u h)), trivial⟩ (fun W hS => (st_indexAddrR (i := pb) (s := 1) Try.underlying65 tS52 hAb rfl rfl (by omega))) rfl ?_
                          clear hE a; intro a hE
                          refine d_take (v := Value.slice Ab nn cb) p8_27_12 ns8_27 (by kernel_rfl) (by kernel_rfl) (fun _ _ _ h => h) hE (wn_some g8_27_8 rfl rfl) rfl ⟨(C_to hCa K_s33), (C_to hCb K_s33), (fun j u h => cell_to K_s33 (hca j u h)), (fun j u h => cell_to K_s33 (hcb j u h)), trivial⟩ (fun W hS => (st_loadR1 (off := pb * 1) (j := 0) tA52 (hS.2.2.2.1) rfl (by omega) rfl)) rfl ?_
                          clear hE a; intro a hE
                          refine d_take (v := Value.int .i64 (pc : Int)) p8_27_13 ns8_27 (by kernel_rfl) (by kernel_rfl) (fun _ _ _ h => h) hE (wn_some g8_27_8 rfl rfl) rfl ⟨(C_to hCa K_s33), (C_to hCb K_s33), (fun j u h => cell_to K_s33 (hca j u h)), (fun j u h => cell_to K_s33 (hcb j u h)), trivial⟩ (fun W hS => (st_move rfl)) rfl ?_
                          clear hE a; intro a hE
                          refine d_take (v := Value.pointer (some (ea Ab pc))) p8_27_14 ns8_27 (by kernel_rfl) (by kernel_rfl) (fun _ _ _ h => h) hE (wn_some g8_27_8 rfl rfl) rfl ⟨(C_to hCa K_s33), (C_to hCb K_s33), (fun j u h => cell_to K_s33 (hca j u h)), (fun j u h => cell_to K_s33 (hcb j u h)), trivial⟩ (fun W hS => (st_indexAddrS (i := pc) Try.underlying52 tS3 (C_at (C_to hCb K_s33) (show pc < _ by omega)).1 rfl rfl (by omega))) rfl ?_
                          clear hE a; intro a hE
                          refine d_take (v := Value.int .i64 (rd hb (pc : Int))) p8_27_15 ns8_27 (by kernel_rfl) (by kernel_rfl) (fun _ _ _ h => h) hE (wn_some g8_27_8 rfl rfl) rfl ⟨(C_to hCa K_s33), (C_to hCb K_s33), (fun j u h => cell_to K_s33 (hca j u h)), (fun j u h => cell_to K_s33 (hcb j u h)), trivial⟩ (fun W hS => (st_loadC (i := pc) tA3 (hS.2.1) (by omega) rfl)) rfl ?_
                          clear hE a; intro a hE
                          refine d_take (v := Value.bool false) p8_27_16 ns8_27 (by kernel_rfl) (by kernel_rfl) (fun _ _ _ h => h) hE (wn_some g8_27_8 rfl rfl) rfl ⟨(C_to hCa K_s33), (C_to hCb K_s33), (fun j u h => cell_to K_s33 (hca j u h)), (fun j u h => cell_to K_s33 (hcb j u h)), trivial⟩ (fun W hS => (st_geq (b := false) rfl rfl (decide_eq_false hV2))) rfl ?_
                          clear hE a; intro a hE
                          refine d_take (v := Value.bool false) p8_27_17 ns8_27 (by kernel_rfl) (by kernel_rfl) (fun _ _ _ h => h) hE wn_none rfl ⟨(C_to hCa K_s33), (C_to hCb K_s33), (fun j u h => cell_to K_s33 (hca j u h)), (fun j u h => cell_to K_s33 (hcb j u h)), trivial⟩ (fun W hS => (st_pick rfl rfl)) rfl ?_
                          clear hE a; intro a hE
                          refine d_take (v := Value.bool false) p8_27_18 ns8_27 (by kernel_rfl) (by kernel_rfl) (fun _ _ _ h => h) hE wn_none rfl ⟨(C_to hCa K_s33), (C_to hCb K_s33), (fun j u h => cell_to K_s33 (hca j u h)), (fun j u h => cell_to K_s33 (hcb j u h)), trivial⟩ (fun W hS => (st_move rfl)) rfl ?_
                          clear hE a; intro a hE
                          refine d_skip p8_27_19 ns8_27 (by kernel_rfl) (by kernel_rfl) (fun _ _ _ h => h) hE (wn_some g8_27_18 rfl rfl) rfl ⟨(C_to hCa K_s33), (C_to hCb K_s33), (fun j u h => cell_to K_s33 (hca j u h)), (fun j u h => cell_to K_s33 (hcb j u h)), trivial⟩ rfl ?_
                          clear hE a; intro a hE
                          refine d_skip p8_27_20 ns8_27 (by kernel_rfl) (by kernel_rfl) (fun _ _ _ h => h) hE (wn_some g8_27_18 rfl rfl) rfl ⟨(C_to hCa K_s33), (C_to hCb K_s33), (fun j u h => cell_to K_s33 (hca j u h)), (fun j u h => cell_to K_s33 (hcb j u h)), trivial⟩ rfl ?_
                          clear hE a; intro a hE
                          refine d_skip p8_27_21 ns8_27 (by kernel_rfl) (by kernel_rfl) (fun _ _ _ h => h) hE (wn_some g8_27_18 rfl rfl) rfl ⟨(C_to hCa K_s33), (C_to hCb K_s33), (fun j u h => cell_to K_s33 (hca j u h)), (fun j u h => cell_to K_s33 (hcb j u h)), trivial⟩ rfl ?_
                          clear hE a; intro a hE
                          refine d_skip p8_27_22 ns8_27 (by kernel_rfl) (by kernel_rfl) (fun _ _ _ h => h) hE (wn_some g8_27_18 rfl rfl) rfl ⟨(C_to hCa K_s33), (C_to hCb K_s33), (fun j u h => cell_to K_s33 (hca j u h)), (fun j u h => cell_to K_s33 (hcb j u h)), trivial⟩ rfl ?_
                          clear hE a; intro a hE
                          refine d_skip p8_27_23 ns8_27 (by kernel_rfl) (by kernel_rfl) (fun _ _ _ h => h) hE (wn_some g8_27_18 rfl rfl) rfl ⟨(C_to hCa K_s33), (C_to hCb K_s33), (fun j u h => cell_to K_s33 (hca j u h)), (fun j u h => cell_to K_s33 (hcb j u h)), trivial⟩ rfl ?_
                          clear hE a; intro a hE
                          refine d_skip p8_27_24 ns8_27 (by kernel_rfl) (by kernel_rfl) (fun _ _ _ h => h) hE (wn_some g8_27_18 rfl rfl) rfl ⟨(C_to hCa K_s33), (C_to hCb K_s33), (fun j u h => cell_to K_s33 (hca j u h)), (fun j u h => cell_to K_s33 (hcb j u h)), trivial⟩ rfl ?_
                          clear hE a; intro a hE
                          refine d_skip p8_27_25 ns8_27 (by kernel_rfl) (by kernel_rfl) (fun _ _ _ h => h) hE (wn_some g8_27_18 rfl rfl) rfl ⟨(C_to hCa K_s33), (C_to hCb K_s33), (fun j u h => cell_to K_s33 (hca j u h)), (fun j u h => cell_to K_s33 (hcb j u h)), trivial⟩ rfl ?_
                          clear hE a; intro a hE
                          refine d_skip p8_27_26 ns8_27 (by kernel_rfl) (by kernel_rfl) (fun _ _ _ h => h) hE (wn_some g8_27_18 rfl rfl) rfl ⟨(C_to hCa K_s33), (C_to hCb K_s33), (fun j u h => cell_to K_s33 (hca j u h)), (fun j u h => cell_to K_s33 (hcb j u h)), trivial⟩ rfl ?_
                          clear hE a; intro a hE
                          refine d_skip p8_27_27 ns8_27 (by kernel_rfl) (by kernel_rfl) (fun _ _ _ h => h) hE (wn_some g8_27_18 rfl rfl) rfl ⟨(C_to hCa K_s33), (C_to hCb K_s33), (fun j u h => cell_to K_s33 (hca j u h)), (fun j u h => cell_to K_s33 (hcb j u h)), trivial⟩ rfl ?_
                          clear hE a; intro a hE
                          refine d_skip p8_27_28 ns8_27 (by kernel_rfl) (by kernel_rfl) (fun _ _ _ h => h) hE (wn_undef g8_27_27 rfl) rfl ⟨(C_to hCa K_s33), (C_to hCb K_s33), (fun j u h => cell_to K_s33 (hca j u h)), (fun j u h => cell_to K_s33 (hcb j u h)), trivial⟩ rfl ?_
                          clear hE a; intro a hE
                          refine d_skip p8_27_29 ns8_27 (by kernel_rfl) (by kernel_rfl) (fun _ _ _ h => h) hE (wn_undef g8_27_27 rfl) rfl ⟨(C_to hCa K_s33), (C_to hCb K_s33), (fun j u h => cell_to K_s33 (hca j u h)), (fun j u h => cell_to K_s33 (hcb j u h)), trivial⟩ rfl ?_
                          clear hE a; intro a hE
                          refine d_skip p8_27_30 ns8_27 (by kernel_rfl) (by kernel_rfl) (fun _ _ _ h => h) hE (wn_undef g8_27_27 rfl) rfl ⟨(C_to hCa K_s33), (C_to hCb K_s33), (fun j u h => cell_to K_s33 (hca j u h)), (fun j u h => cell_to K_s33 (hcb j u h)), trivial⟩ rfl ?_
                          clear hE a; intro a hE
                          refine d_skip p8_27_31 ns8_27 (by kernel_rfl) (by kernel_rfl) (fun _ _ _ h => h) hE (wn_undef g8_27_27 rfl) rfl ⟨(C_to hCa K_s33), (C_to hCb K_s33), (fun j u h => cell_to K_s33 (hca j u h)), (fun j u h => cell_to K_s33 (hcb j u h)), trivial⟩ rfl ?_
                          clear hE a; intro a hE
                          refine d_skip p8_27_32 ns8_27 (by kernel_rfl) (by kernel_rfl) (fun _ _ _ h => h) hE (wn_undef g8_27_27 rfl) rfl ⟨(C_to hCa K_s33), (C_to hCb K_s33), (fun j u h => cell_to K_s33 (hca j u h)), (fun j u h => cell_to K_s33 (hcb j u h)), trivial⟩ rfl ?_
                          clear hE a; intro a hE
                          refine d_skip p8_27_33 ns8_27 (by kernel_rfl) (by kernel_rfl) (fun _ _ _ h => h) hE (wn_undef g8_27_27 rfl) rfl ⟨(C_to hCa K_s33), (C_to hCb K_s33), (fun j u h => cell_to K_s33 (hca j u h)), (fun j u h => cell_to K_s33 (hcb j u h)), trivial⟩ rfl ?_
                          clear hE a; intro a hE
                          refine d_skip p8_27_34 ns8_27 (by kernel_rfl) (by kernel_rfl) (fun _ _ _ h => h) hE (wn_undef g8_27_27 rfl) rfl ⟨(C_to hCa K_s33), (C_to hCb K_s33), (fun j u h => cell_to K_s33 (hca j u h)), (fun j u h => cell_to K_s33 (hcb j u h)), trivial⟩ rfl ?_
                          clear hE a; intro a hE
                          refine d_skip p8_27_35 ns8_27 (by kernel_rfl) (by kernel_rfl) (fun _ _ _ h => h) hE (wn_undef g8_27_27 rfl) rfl ⟨(C_to hCa K_s33), (C_to hCb K_s33), (fun j u h => cell_to K_s33 (hca j u h)), (fun j u h => cell_to K_s33 (hcb j u h)), trivial⟩ rfl ?_
                          clear hE a; intro a hE
                          refine d_skip p8_27_36 ns8_27 (by kernel_rfl) (by kernel_rfl) (fun _ _ _ h => h) hE (wn_undef g8_27_27 rfl) rfl ⟨(C_to hCa K_s33), (C_to hCb K_s33), (fun j u h => cell_to K_s33 (hca j u h)), (fun j u h => cell_to K_s33 (hcb j u h)), trivial⟩ rfl ?_
                          clear hE a; intro a hE
                          refine d_skip p8_27_37 ns8_27 (by kernel_rfl) (by kernel_rfl) (fun _ _ _ h => h) hE (wn_undef g8_27_27 rfl) rfl ⟨(C_to hCa K_s33), (C_to hCb K_s33), (fun j u h => cell_to K_s33 (hca j u h)), (fun j u h => cell_to K_s33 (hcb j u h)), trivial⟩ rfl ?_
                          clear hE a; intro a hE
                          refine d_skip p8_27_38 ns8_27 (by kernel_rfl) (by kernel_rfl) (fun _ _ _ h => h) hE (wn_undef g8_27_27 rfl) rfl ⟨(C_to hCa K_s33), (C_to hCb K_s33), (fun j u h => cell_to K_s33 (hca j u h)), (fun j u h => cell_to K_s33 (hcb j u h)), trivial⟩ rfl ?_
                          clear hE a; intro a hE
                          refine d_skip p8_27_39 ns8_27 (by kernel_rfl) (by kernel_rfl) (fun _ _ _ h => h) hE (wn_undef g8_27_27 rfl) rfl ⟨(C_to hCa K_s33), (C_to hCb K_s33), (fun j u h => cell_to K_s33 (hca j u h)), (fun j u h => cell_to K_s33 (hcb j u h)), trivial⟩ rfl ?_
                          clear hE a; intro a hE
                          refine d_skip p8_27_40 ns8_27 (by kernel_rfl) (by kernel_rfl) (fun _ _ _ h => h) hE (wn_undef g8_27_27 rfl) rfl ⟨(C_to hCa K_s33), (C_to hCb K_s33), (fun j u h => cell_to K_s33 (hca j u h)), (fun j u h => cell_to K_s33 (hcb j u h)), trivial⟩ rfl ?_
                          clear hE a; intro a hE
                          refine d_skip p8_27_41 ns8_27 (by kernel_rfl) (by kernel_rfl) (fun _ _ _ h => h) hE (wn_undef g8_27_27 rfl) rfl ⟨(C_to hCa K_s33), (C_to hCb K_s33), (fun j u h => cell_to K_s33 (hca j u h)), (fun j u h => cell_to K_s33 (hcb j u h)), trivial⟩ rfl ?_
                          clear hE a; intro a hE
                          refine d_skip p8_27_42 ns8_27 (by kernel_rfl) (by kernel_rfl) (fun _ _ _ h => h) hE (wn_undef g8_27_27 rfl) rfl ⟨(C_to hCa K_s33), (C_to hCb K_s33), (fun j u h => cell_to K_s33 (hca j u h)), (fun j u h => cell_to K_s33 (hcb j u h)), trivial⟩ rfl ?_
                          clear hE a; intro a hE
                          refine d_skip p8_27_43 ns8_27 (by kernel_rfl) (by kernel_rfl) (fun _ _ _ h => h) hE (wn_undef g8_27_27 rfl) rfl ⟨(C_to hCa K_s33), (C_to hCb K_s33), (fun j u h => cell_to K_s33 (hca j u h)), (fun j u h => cell_to K_s33 (hcb j u h)), trivial⟩ rfl ?_
                          clear hE a; intro a hE
                          refine d_skip p8_27_44 ns8_27 (by kernel_rfl) (by kernel_rfl) (fun _ _ _ h => h) hE (wn_undef g8_27_27 rfl) rfl ⟨(C_to hCa K_s33), (C_to hCb K_s33), (fun j u h => cell_to K_s33 (hca j u h)), (fun j u h => cell_to K_s33 (hcb j u h)), trivial⟩ rfl ?_
                          clear hE a; intro a hE
                          refine d_skip p8_27_45 ns8_27 (by kernel_rfl) (by kernel_rfl) (fun _ _ _ h => h) hE (wn_undef g8_27_27 rfl) rfl ⟨(C_to hCa K_s33), (C_to hCb K_s33), (fun j u h => cell_to K_s33 (hca j u h)), (fun j u h => cell_to K_s33 (hcb j u h)), trivial⟩ rfl ?_
                          clear hE a; intro a hE
                          refine d_skip p8_27_46 ns8_27 (by kernel_rfl) (by kernel_rfl) (fun _ _ _ h => h) hE (wn_undef g8_27_27 rfl) rfl ⟨(C_to hCa K_s33), (C_to hCb K_s33), (fun j u h => cell_to K_s33 (hca j u h)), (fun j u h => cell_to K_s33 (hcb j u h)), trivial⟩ rfl ?_
                          clear hE a; intro a hE
                          refine d_skip p8_27_47 ns8_27 (by kernel_rfl) (by kernel_rfl) (fun _ _ _ h => h) hE (wn_undef g8_27_27 rfl) rfl ⟨(C_to hCa K_s33), (C_to hCb K_s33), (fun j u h => cell_to K_s33 (hca j u h)), (fun j u h => cell_to K_s33 (hcb j u h)), trivial⟩ rfl ?_
                          clear hE a; intro a hE
                          refine d_skip p8_27_48 ns8_27 (by kernel_rfl) (by kernel_rfl) (fun _ _ _ h => h) hE (wn_undef g8_27_27 rfl) rfl ⟨(C_to hCa K_s33), (C_to hCb K_s33), (fun j u h => cell_to K_s33 (hca j u h)), (fun j u h => cell_to K_s33 (hcb j u h)), trivial⟩ rfl ?_
                          clear hE a; intro a hE
                          refine d_skip p8_27_49 ns8_27 (by kernel_rfl) (by kernel_rfl) (fun _ _ _ h => h) hE (wn_undef g8_27_27 rfl) rfl ⟨(C_to hCa K_s33), (C_to hCb K_s33), (fun j u h => cell_to K_s33 (hca j u h)), (fun j u h => cell_to K_s33 (hcb j u h)), trivial⟩ rfl ?_
                          clear hE a; intro a hE
                          refine d_skip p8_27_50 ns8_27 (by kernel_rfl) (by kernel_rfl) (fun _ _ _ h => h) hE (wn_undef g8_27_27 rfl) rfl ⟨(C_to hCa K_s33), (C_to hCb K_s33), (fun j u h => cell_to K_s33 (hca j u h)), (fun j u h => cell_to K_s33 (hcb j u h)), trivial⟩ rfl ?_
                          clear hE a; intro a hE
                          refine d_skip p8_27_51 ns8_27 (by kernel_rfl) (by kernel_rfl) (fun _ _ _ h => h) hE (wn_some g8_27_18 rfl rfl) rfl ⟨(C_to hCa K_s33), (C_to hCb K_s33), (fun j u h => cell_to K_s33 (hca j u h)), (fun j u h => cell_to K_s33 (hcb j u h)), trivial⟩ rfl ?_
                          clear hE a; intro a hE
                          refine d_take (v := Value.bool false) p8_27_52 ns8_27 (by kernel_rfl) (by kernel_rfl) (fun _ _ _ h => h) hE wn_none rfl ⟨(C_to hCa K_s33), (C_to hCb K_s33), (fun j u h => cell_to K_s33 (hca j u h)), (fun j u h => cell_to K_s33 (hcb j u h)), trivial⟩ (fun W hS => (st_pick rfl rfl)) rfl ?_
                          clear hE a; intro a hE
                          refine d_end (by kernel_rfl) ?_
                          refine x_norm ?_
                          refine c_cond (t := false) hE rfl ?_
                          refine wp_skip ?_
                          refine x_normB ?_
                          refine x_norm ?_
                          refine c_regL R8_26_l ?_
                          refine q0 p8_26_0 hE (st_move rfl) ?_
                          clear hE a; intro a hE
                          refine q0 p8_26_1 hE (st_add (z := (pc : Int) + 1) rfl rfl (wr_i64 _ (by omega) (by omega))) ?_
                          clear hE a; intro a hE
                          refine q0 p8_26_2 hE (st_assign rfl) ?_
                          clear hE a; intro a hE
                          refine p_nil ?_
                          refine x_norm ?_
                          exact ⟨pc + 1, by omega, En.sub hE ⟨rfl, rfl, rfl, rfl, rfl, rfl, rfl, rfl, rfl, rfl, rfl, rfl, rfl, rfl, rfl, rfl, trivial⟩, by omega, B_gL, B_gN, K_0, K_s33⟩
                      ·
                        refine c_drawS (S := fun W => Kd.C (Kd.int .i64) W Aa nn ha ∧ Kd.C (Kd.int .i64) W Ab nn hb ∧ (∀ j u, ([Value.slice Aa nn ca])[j]? = some u → W.cell? (ea A_all (pa * 1 + j)) = some u) ∧ (∀ j u, ([Value.slice Ab nn cb])[j]? = some u → W.cell? (ea A_all (pb * 1 + j)) = some u) ∧ True) rfl rfl (listed := #[false, false, false, false, false, false, false, false, false, false, false, false, false, false, false, false, false, false, false, false, false, false, false, false, false, false, false, false, false, false, false, false, false, false, false, false, false, false, false, false, false, false, false, false, false, false, false, false, false, false, false, false, false]) rfl ?_
                        intro w40 hh hk
                        replace B_gL := kp_blk B_gL hk (fun h => h)
                        replace B_gN := kp_blk B_gN hk (fun h => h)
                        replace K_0 := K_0.then_ hk (fun _ h => h.elim)
                        replace K_s33 := K_s33.then_ hk (fun _ h => h.elim)
                        clear hh hk
                        refine d_take (v := Value.slice A_all n_all c_all) p8_27_0 ns8_27 (by kernel_rfl) (by kernel_rfl) (fun _ _ _ h => h) hE wn_none rfl ⟨(C_to hCa K_s33), (C_to hCb K_s33), (fun j u h => cell_to K_s33 (hca j u h)), (fun j u h => cell_to K_s33 (hcb j u h)), trivial⟩ (fun W hS => (st_move rfl)) rfl ?_
                        clear hE a; intro a hE
                        refine d_take (v := Value.int .i64 (pa : Int)) p8_27_1 ns8_27 (by kernel_rfl) (by kernel_rfl) (fun _ _ _ h => h) hE wn_none rfl ⟨(C_to hCa K_s33), (C_to hCb K_s33), (fun j u h => cell_to K_s33 (hca j u h)), (fun j u h => cell_to K_s33 (hcb j u h)), trivial⟩ (fun W hS => (st_move rfl)) rfl ?_
                        clear hE a; intro a hE
                        refine d_take (v := Value.pointer (some (ea A_all (pa * 1)))) p8_27_2 ns8_27 (by kernel_rfl) (by kernel_rfl) (fun _ _ _ h => h) hE wn_none rfl ⟨(C_to hCa K_s33), (C_to hCb K_s33), (fun j u h => cell_to K_s33 (hca j u h)), (fun j u h => cell_to K_s33 (hcb j u h)), trivial⟩ (fun W hS => (st_indexAddrR (i := pa) (s := 1) Try.underlying65 tS52 hAa rfl rfl (by omega))) rfl ?_
                        clear hE a; intro a hE
                        refine d_take (v := Value.slice Aa nn ca) p8_27_3 ns8_27 (by kernel_rfl) (by kernel_rfl) (fun _ _ _ h => h) hE wn_none rfl ⟨(C_to hCa K_s33), (C_to hCb K_s33), (fun j u h => cell_to K_s33 (hca j u h)), (fun j u h => cell_to K_s33 (hcb j u h)), trivial⟩ (fun W hS => (st_loadR1 (off := pa * 1) (j := 0) tA52 (hS.2.2.1) rfl (by omega) rfl)) rfl ?_
                        clear hE a; intro a hE
                        refine d_take (v := Value.int .i64 (pb : Int)) p8_27_4 ns8_27 (by kernel_rfl) (by kernel_rfl) (fun _ _ _ h => h) hE wn_none rfl ⟨(C_to hCa K_s33), (C_to hCb K_s33), (fun j u h => cell_to K_s33 (hca j u h)), (fun j u h => cell_to K_s33 (hcb j u h)), trivial⟩ (fun W hS => (st_move rfl)) rfl ?_
                        clear hE a; intro a hE
                        refine d_take (v := Value.pointer (some (ea Aa pb))) p8_27_5 ns8_27 (by kernel_rfl) (by kernel_rfl) (fun _ _ _ h => h) hE wn_none rfl ⟨(C_to hCa K_s33), (C_to hCb K_s33), (fun j u h => cell_to K_s33 (hca j u h)), (fun j u h => cell_to K_s33 (hcb j u h)), trivial⟩ (fun W hS => (st_indexAddrS (i := pb) Try.underlying52 tS3 (C_at (C_to hCa K_s33) (show pb < _ by omega)).1 rfl rfl (by omega))) rfl ?_
                        clear hE a; intro a hE
                        refine d_take (v := Value.int .i64 (rd ha (pb : Int))) p8_27_6 ns8_27 (by kernel_rfl) (by kernel_rfl) (fun _ _ _ h => h) hE wn_none rfl ⟨(C_to hCa K_s33), (C_to hCb K_s33), (fun j u h => cell_to K_s33 (hca j u h)), (fun j u h => cell_to K_s33 (hcb j u h)), trivial⟩ (fun W hS => (st_loadC (i := pb) tA3 (hS.1) (by omega) rfl)) rfl ?_
                        clear hE a; intro a hE
                        refine d_take (v := Value.bool false) p8_27_7 ns8_27 (by kernel_rfl) (by kernel_rfl) (fun _ _ _ h => h) hE wn_none rfl ⟨(C_to hCa K_s33), (C_to hCb K_s33), (fun j u h => cell_to K_s33 (hca j u h)), (fun j u h => cell_to K_s33 (hcb j u h)), trivial⟩ (fun W hS => (st_geq (b := false) rfl rfl (decide_eq_false hV1))) rfl ?_
                        clear hE a; intro a hE
                        refine d_take (v := Value.bool false) p8_27_8 ns8_27 (by kernel_rfl) (by kernel_rfl) (fun _ _ _ h => h) hE wn_none rfl ⟨(C_to hCa K_s33), (C_to hCb K_s33), (fun j u h => cell_to K_s33 (hca j u h)), (fun j u h => cell_to K_s33 (hcb j u h)), trivial⟩ (fun W hS => (st_move rfl)) rfl ?_
                        clear hE a; intro a hE
                        refine d_skip p8_27_9 ns8_27 (by kernel_rfl) (by kernel_rfl) (fun _ _ _ h => h) hE (wn_some g8_27_8 rfl rfl) rfl ⟨(C_to hCa K_s33), (C_to hCb K_s33), (fun j u h => cell_to K_s33 (hca j u h)), (fun j u h => cell_to K_s33 (hcb j u h)), trivial⟩ rfl ?_
                        clear hE a; intro a hE
                        refine d_skip p8_27_10 ns8_27 (by kernel_rfl) (by kernel_rfl) (fun _ _ _ h => h) hE (wn_some g8_27_8 rfl rfl) rfl ⟨(C_to hCa K_s33), (C_to hCb K_s33), (fun j u h => cell_to K_s33 (hca j u h)), (fun j u h => cell_to K_s33 (hcb j u h)), trivial⟩ rfl ?_
                        clear hE a; intro a hE
                        refine d_skip p8_27_11 ns8_27 (by kernel_rfl) (by kernel_rfl) (fun _ _ _ h => h) hE (wn_some g8_27_8 rfl rfl) rfl ⟨(C_to hCa K_s33), (C_to hCb K_s33), (fun j u h => cell_to K_s33 (hca j u h)), (fun j u h => cell_to K_s33 (hcb j u h)), trivial⟩ rfl ?_
                        clear hE a; intro a hE
                        refine d_skip p8_27_12 ns8_27 (by kernel_rfl) (by kernel_rfl) (fun _ _ _ h => h) hE (wn_some g8_27_8 rfl rfl) rfl ⟨(C_to hCa K_s33), (C_to hCb K_s33), (fun j u h => cell_to K_s33 (hca j u h)), (fun j u h => cell_to K_s33 (hcb j u h)), trivial⟩ rfl ?_
                        clear hE a; intro a hE
                        refine d_skip p8_27_13 ns8_27 (by kernel_rfl) (by kernel_rfl) (fun _ _ _ h => h) hE (wn_some g8_27_8 rfl rfl) rfl ⟨(C_to hCa K_s33), (C_to hCb K_s33), (fun j u h => cell_to K_s33 (hca j u h)), (fun j u h => cell_to K_s33 (hcb j u h)), trivial⟩ rfl ?_
                        clear hE a; intro a hE
                        refine d_skip p8_27_14 ns8_27 (by kernel_rfl) (by kernel_rfl) (fun _ _ _ h => h) hE (wn_some g8_27_8 rfl rfl) rfl ⟨(C_to hCa K_s33), (C_to hCb K_s33), (fun j u h => cell_to K_s33 (hca j u h)), (fun j u h => cell_to K_s33 (hcb j u h)), trivial⟩ rfl ?_
                        clear hE a; intro a hE
                        refine d_skip p8_27_15 ns8_27 (by kernel_rfl) (by kernel_rfl) (fun _ _ _ h => h) hE (wn_some g8_27_8 rfl rfl) rfl ⟨(C_to hCa K_s33), (C_to hCb K_s33), (fun j u h => cell_to K_s33 (hca j u h)), (fun j u h => cell_to K_s33 (hcb j u h)), trivial⟩ rfl ?_
                        clear hE a; intro a hE
                        refine d_skip p8_27_16 ns8_27 (by kernel_rfl) (by kernel_rfl) (fun _ _ _ h => h) hE (wn_some g8_27_8 rfl rfl) rfl ⟨(C_to hCa K_s33), (C_to hCb K_s33), (fun j u h => cell_to K_s33 (hca j u h)), (fun j u h => cell_to K_s33 (hcb j u h)), trivial⟩ rfl ?_
                        clear hE a; intro a hE
                        refine d_take (v := Value.bool false) p8_27_17 ns8_27 (by kernel_rfl) (by kernel_rfl) (fun _ _ _ h => h) hE wn_none rfl ⟨(C_to hCa K_s33), (C_to hCb K_s33), (fun j u h => cell_to K_s33 (hca j u h)), (fun j u h => cell_to K_s33 (hcb j u h)), trivial⟩ (fun W hS => (st_pick rfl rfl)) rfl ?_
                        clear hE a; intro a hE
                        refine d_take (v := Value.bool false) p8_27_18 ns8_27 (by kernel_rfl) (by kernel_rfl) (fun _ _ _ h => h) hE wn_none rfl ⟨(C_to hCa K_s33), (C_to hCb K_s33), (fun j u h => cell_to K_s33 (hca j u h)), (fun j u h => cell_to K_s33 (hcb j u h)), trivial⟩ (fun W hS => (st_move rfl)) rfl ?_
                        clear hE a; intro a hE
                        refine d_skip p8_27_19 ns8_27 (by kernel_rfl) (by kernel_rfl) (fun _ _ _ h => h) hE (wn_some g8_27_18 rfl rfl) rfl ⟨(C_to hCa K_s33), (C_to hCb K_s33), (fun j u h => cell_to K_s33 (hca j u h)), (fun j u h => cell_to K_s33 (hcb j u h)), trivial⟩ rfl ?_
                        clear hE a; intro a hE
                        refine d_skip p8_27_20 ns8_27 (by kernel_rfl) (by kernel_rfl) (fun _ _ _ h => h) hE (wn_some g8_27_18 rfl rfl) rfl ⟨(C_to hCa K_s33), (C_to hCb K_s33), (fun j u h => cell_to K_s33 (hca j u h)), (fun j u h => cell_to K_s33 (hcb j u h)), trivial⟩ rfl ?_
                        clear hE a; intro a hE
                        refine d_skip p8_27_21 ns8_27 (by kernel_rfl) (by kernel_rfl) (fun _ _ _ h => h) hE (wn_some g8_27_18 rfl rfl) rfl ⟨(C_to hCa K_s33), (C_to hCb K_s33), (fun j u h => cell_to K_s33 (hca j u h)), (fun j u h => cell_to K_s33 (hcb j u h)), trivial⟩ rfl ?_
                        clear hE a; intro a hE
                        refine d_skip p8_27_22 ns8_27 (by kernel_rfl) (by kernel_rfl) (fun _ _ _ h => h) hE (wn_some g8_27_18 rfl rfl) rfl ⟨(C_to hCa K_s33), (C_to hCb K_s33), (fun j u h => cell_to K_s33 (hca j u h)), (fun j u h => cell_to K_s33 (hcb j u h)), trivial⟩ rfl ?_
                        clear hE a; intro a hE
                        refine d_skip p8_27_23 ns8_27 (by kernel_rfl) (by kernel_rfl) (fun _ _ _ h => h) hE (wn_some g8_27_18 rfl rfl) rfl ⟨(C_to hCa K_s33), (C_to hCb K_s33), (fun j u h => cell_to K_s33 (hca j u h)), (fun j u h => cell_to K_s33 (hcb j u h)), trivial⟩ rfl ?_
                        clear hE a; intro a hE
                        refine d_skip p8_27_24 ns8_27 (by kernel_rfl) (by kernel_rfl) (fun _ _ _ h => h) hE (wn_some g8_27_18 rfl rfl) rfl ⟨(C_to hCa K_s33), (C_to hCb K_s33), (fun j u h => cell_to K_s33 (hca j u h)), (fun j u h => cell_to K_s33 (hcb j u h)), trivial⟩ rfl ?_
                        clear hE a; intro a hE
                        refine d_skip p8_27_25 ns8_27 (by kernel_rfl) (by kernel_rfl) (fun _ _ _ h => h) hE (wn_some g8_27_18 rfl rfl) rfl ⟨(C_to hCa K_s33), (C_to hCb K_s33), (fun j u h => cell_to K_s33 (hca j u h)), (fun j u h => cell_to K_s33 (hcb j u h)), trivial⟩ rfl ?_
                        clear hE a; intro a hE
                        refine d_skip p8_27_26 ns8_27 (by kernel_rfl) (by kernel_rfl) (fun _ _ _ h => h) hE (wn_some g8_27_18 rfl rfl) rfl ⟨(C_to hCa K_s33), (C_to hCb K_s33), (fun j u h => cell_to K_s33 (hca j u h)), (fun j u h => cell_to K_s33 (hcb j u h)), trivial⟩ rfl ?_
                        clear hE a; intro a hE
                        refine d_skip p8_27_27 ns8_27 (by kernel_rfl) (by kernel_rfl) (fun _ _ _ h => h) hE (wn_some g8_27_18 rfl rfl) rfl ⟨(C_to hCa K_s33), (C_to hCb K_s33), (fun j u h => cell_to K_s33 (hca j u h)), (fun j u h => cell_to K_s33 (hcb j u h)), trivial⟩ rfl ?_
                        clear hE a; intro a hE
                        refine d_skip p8_27_28 ns8_27 (by kernel_rfl) (by kernel_rfl) (fun _ _ _ h => h) hE (wn_undef g8_27_27 rfl) rfl ⟨(C_to hCa K_s33), (C_to hCb K_s33), (fun j u h => cell_to K_s33 (hca j u h)), (fun j u h => cell_to K_s33 (hcb j u h)), trivial⟩ rfl ?_
                        clear hE a; intro a hE
                        refine d_skip p8_27_29 ns8_27 (by kernel_rfl) (by kernel_rfl) (fun _ _ _ h => h) hE (wn_undef g8_27_27 rfl) rfl ⟨(C_to hCa K_s33), (C_to hCb K_s33), (fun j u h => cell_to K_s33 (hca j u h)), (fun j u h => cell_to K_s33 (hcb j u h)), trivial⟩ rfl ?_
                        clear hE a; intro a hE
                        refine d_skip p8_27_30 ns8_27 (by kernel_rfl) (by kernel_rfl) (fun _ _ _ h => h) hE (wn_undef g8_27_27 rfl) rfl ⟨(C_to hCa K_s33), (C_to hCb K_s33), (fun j u h => cell_to K_s33 (hca j u h)), (fun j u h => cell_to K_s33 (hcb j u h)), trivial⟩ rfl ?_
                        clear hE a; intro a hE
                        refine d_skip p8_27_31 ns8_27 (by kernel_rfl) (by kernel_rfl) (fun _ _ _ h => h) hE (wn_undef g8_27_27 rfl) rfl ⟨(C_to hCa K_s33), (C_to hCb K_s33), (fun j u h => cell_to K_s33 (hca j u h)), (fun j u h => cell_to K_s33 (hcb j u h)), trivial⟩ rfl ?_
                        clear hE a; intro a hE
                        refine d_skip p8_27_32 ns8_27 (by kernel_rfl) (by kernel_rfl) (fun _ _ _ h => h) hE (wn_undef g8_27_27 rfl) rfl ⟨(C_to hCa K_s33), (C_to hCb K_s33), (fun j u h => cell_to K_s33 (hca j u h)), (fun j u h => cell_to K_s33 (hcb j u h)), trivial⟩ rfl ?_
                        clear hE a; intro a hE
                        refine d_skip p8_27_33 ns8_27 (by kernel_rfl) (by kernel_rfl) (fun _ _ _ h => h) hE (wn_undef g8_27_27 rfl) rfl ⟨(C_to hCa K_s33), (C_to hCb K_s33), (fun j u h => cell_to K_s33 (hca j u h)), (fun j u h => cell_to K_s33 (hcb j u h)), trivial⟩ rfl ?_
                        clear hE a; intro a hE
                        refine d_skip p8_27_34 ns8_27 (by kernel_rfl) (by kernel_rfl) (fun _ _ _ h => h) hE (wn_undef g8_27_27 rfl) rfl ⟨(C_to hCa K_s33), (C_to hCb K_s33), (fun j u h => cell_to K_s33 (hca j u h)), (fun j u h => cell_to K_s33 (hcb j u h)), trivial⟩ rfl ?_
                        clear hE a; intro a hE
                        refine d_skip p8_27_35 ns8_27 (by kernel_rfl) (by kernel_rfl) (fun _ _ _ h => h) hE (wn_undef g8_27_27 rfl) rfl ⟨(C_to hCa K_s33), (C_to hCb K_s33), (fun j u h => cell_to K_s33 (hca j u h)), (fun j u h => cell_to K_s33 (hcb j u h)), trivial⟩ rfl ?_
                        clear hE a; intro a hE
                        refine d_skip p8_27_36 ns8_27 (by kernel_rfl) (by kernel_rfl) (fun _ _ _ h => h) hE (wn_undef g8_27_27 rfl) rfl ⟨(C_to hCa K_s33), (C_to hCb K_s33), (fun j u h => cell_to K_s33 (hca j u h)), (fun j u h => cell_to K_s33 (hcb j u h)), trivial⟩ rfl ?_
                        clear hE a; intro a hE
                        refine d_skip p8_27_37 ns8_27 (by kernel_rfl) (by kernel_rfl) (fun _ _ _ h => h) hE (wn_undef g8_27_27 rfl) rfl ⟨(C_to hCa K_s33), (C_to hCb K_s33), (fun j u h => cell_to K_s33 (hca j u h)), (fun j u h => cell_to K_s33 (hcb j u h)), trivial⟩ rfl ?_
                        clear hE a; intro a hE
                        refine d_skip p8_27_38 ns8_27 (by kernel_rfl) (by kernel_rfl) (fun _ _ _ h => h) hE (wn_undef g8_27_27 rfl) rfl ⟨(C_to hCa K_s33), (C_to hCb K_s33), (fun j u h => cell_to K_s33 (hca j u h)), (fun j u h => cell_to K_s33 (hcb j u h)), trivial⟩ rfl ?_
                        clear hE a; intro a hE
                        refine d_skip p8_27_39 ns8_27 (by kernel_rfl) (by kernel_rfl) (fun _ _ _ h => h) hE (wn_undef g8_27_27 rfl) rfl ⟨(C_to hCa K_s33), (C_to hCb K_s33), (fun j u h => cell_to K_s33 (hca j u h)), (fun j u h => cell_to K_s33 (hcb j u h)), trivial⟩ rfl ?_
                        clear hE a; intro a hE
                        refine d_skip p8_27_40 ns8_27 (by kernel_rfl) (by kernel_rfl) (fun _ _ _ h => h) hE (wn_undef g8_27_27 rfl) rfl ⟨(C_to hCa K_s33), (C_to hCb K_s33), (fun j u h => cell_to K_s33 (hca j u h)), (fun j u h => cell_to K_s33 (hcb j u h)), trivial⟩ rfl ?_
                        clear hE a; intro a hE
                        refine d_skip p8_27_41 ns8_27 (by kernel_rfl) (by kernel_rfl) (fun _ _ _ h => h) hE (wn_undef g8_27_27 rfl) rfl ⟨(C_to hCa K_s33), (C_to hCb K_s33), (fun j u h => cell_to K_s33 (hca j u h)), (fun j u h => cell_to K_s33 (hcb j u h)), trivial⟩ rfl ?_
                        clear hE a; intro a hE
                        refine d_skip p8_27_42 ns8_27 (by kernel_rfl) (by kernel_rfl) (fun _ _ _ h => h) hE (wn_undef g8_27_27 rfl) rfl ⟨(C_to hCa K_s33), (C_to hCb K_s33), (fun j u h => cell_to K_s33 (hca j u h)), (fun j u h => cell_to K_s33 (hcb j u h)), trivial⟩ rfl ?_
                        clear hE a; intro a hE
                        refine d_skip p8_27_43 ns8_27 (by kernel_rfl) (by kernel_rfl) (fun _ _ _ h => h) hE (wn_undef g8_27_27 rfl) rfl ⟨(C_to hCa K_s33), (C_to hCb K_s33), (fun j u h => cell_to K_s33 (hca j u h)), (fun j u h => cell_to K_s33 (hcb j u h)), trivial⟩ rfl ?_
                        clear hE a; intro a hE
                        refine d_skip p8_27_44 ns8_27 (by kernel_rfl) (by kernel_rfl) (fun _ _ _ h => h) hE (wn_undef g8_27_27 rfl) rfl ⟨(C_to hCa K_s33), (C_to hCb K_s33), (fun j u h => cell_to K_s33 (hca j u h)), (fun j u h => cell_to K_s33 (hcb j u h)), trivial⟩ rfl ?_
                        clear hE a; intro a hE
                        refine d_skip p8_27_45 ns8_27 (by kernel_rfl) (by kernel_rfl) (fun _ _ _ h => h) hE (wn_undef g8_27_27 rfl) rfl ⟨(C_to hCa K_s33), (C_to hCb K_s33), (fun j u h => cell_to K_s33 (hca j u h)), (fun j u h => cell_to K_s33 (hcb j u h)), trivial⟩ rfl ?_
                        clear hE a; intro a hE
                        refine d_skip p8_27_46 ns8_27 (by kernel_rfl) (by kernel_rfl) (fun _ _ _ h => h) hE (wn_undef g8_27_27 rfl) rfl ⟨(C_to hCa K_s33), (C_to hCb K_s33), (fun j u h => cell_to K_s33 (hca j u h)), (fun j u h => cell_to K_s33 (hcb j u h)), trivial⟩ rfl ?_
                        clear hE a; intro a hE
                        refine d_skip p8_27_47 ns8_27 (by kernel_rfl) (by kernel_rfl) (fun _ _ _ h => h) hE (wn_undef g8_27_27 rfl) rfl ⟨(C_to hCa K_s33), (C_to hCb K_s33), (fun j u h => cell_to K_s33 (hca j u h)), (fun j u h => cell_to K_s33 (hcb j u h)), trivial⟩ rfl ?_
                        clear hE a; intro a hE
                        refine d_skip p8_27_48 ns8_27 (by kernel_rfl) (by kernel_rfl) (fun _ _ _ h => h) hE (wn_undef g8_27_27 rfl) rfl ⟨(C_to hCa K_s33), (C_to hCb K_s33), (fun j u h => cell_to K_s33 (hca j u h)), (fun j u h => cell_to K_s33 (hcb j u h)), trivial⟩ rfl ?_
                        clear hE a; intro a hE
                        refine d_skip p8_27_49 ns8_27 (by kernel_rfl) (by kernel_rfl) (fun _ _ _ h => h) hE (wn_undef g8_27_27 rfl) rfl ⟨(C_to hCa K_s33), (C_to hCb K_s33), (fun j u h => cell_to K_s33 (hca j u h)), (fun j u h => cell_to K_s33 (hcb j u h)), trivial⟩ rfl ?_
                        clear hE a; intro a hE
                        refine d_skip p8_27_50 ns8_27 (by kernel_rfl) (by kernel_rfl) (fun _ _ _ h => h) hE (wn_undef g8_27_27 rfl) rfl ⟨(C_to hCa K_s33), (C_to hCb K_s33), (fun j u h => cell_to K_s33 (hca j u h)), (fun j u h => cell_to K_s33 (hcb j u h)), trivial⟩ rfl ?_
                        clear hE a; intro a hE
                        refine d_skip p8_27_51 ns8_27 (by kernel_rfl) (by kernel_rfl) (fun _ _ _ h => h) hE (wn_some g8_27_18 rfl rfl) rfl ⟨(C_to hCa K_s33), (C_to hCb K_s33), (fun j u h => cell_to K_s33 (hca j u h)), (fun j u h => cell_to K_s33 (hcb j u h)), trivial⟩ rfl ?_
                        clear hE a; intro a hE
                        refine d_take (v := Value.bool false) p8_27_52 ns8_27 (by kernel_rfl) (by kernel_rfl) (fun _ _ _ h => h) hE wn_none rfl ⟨(C_to hCa K_s33), (C_to hCb K_s33), (fun j u h => cell_to K_s33 (hca j u h)), (fun j u h => cell_to K_s33 (hcb j u h)), trivial⟩ (fun W hS => (st_pick rfl rfl)) rfl ?_
                        clear hE a; intro a hE
                        refine d_end (by kernel_rfl) ?_
                        refine x_norm ?_
                        refine c_cond (t := false) hE rfl ?_
                        refine wp_skip ?_
                        refine x_normB ?_
                        refine x_norm ?_
                        refine c_regL R8_26_l ?_
                        refine q0 p8_26_0 hE (st_move rfl) ?_
                        clear hE a; intro a hE
                        refine q0 p8_26_1 hE (st_add (z := (pc : Int) + 1) rfl rfl (wr_i64 _ (by omega) (by omega))) ?_
                        clear hE a; intro a hE
                        refine q0 p8_26_2 hE (st_assign rfl) ?_
                        clear hE a; intro a hE
                        refine p_nil ?_
                        refine x_norm ?_
                        exact ⟨pc + 1, by omega, En.sub hE ⟨rfl, rfl, rfl, rfl, rfl, rfl, rfl, rfl, rfl, rfl, rfl, rfl, rfl, rfl, rfl, rfl, trivial⟩, by omega, B_gL, B_gN, K_0, K_s33⟩
                    ·
                      refine c_reg R8_25_l ?_
                      refine q0 p8_25_0 hE (st_move rfl) ?_
                      clear hE a; intro a hE
                      refine q0 p8_25_1 hE (st_move rfl) ?_
                      clear hE a; intro a hE
                      refine q0 p8_25_2 hE (st_lss (b := false) rfl rfl (decide_eq_false hPC)) ?_
                      clear hE a; intro a hE
                      refine p_nil ?_
                      refine x_norm ?_
                      refine c_cond (t := false) hE rfl ?_
                      refine wp_exit ?_
                      refine x_exit ?_
                      refine x_exit ?_
                      refine x_in ?_
                      refine x_normB ?_
                      refine x_norm ?_
                      refine c_regL R8_21_l ?_
                      refine q0 p8_21_0 hE (st_move rfl) ?_
                      clear hE a; intro a hE
                      refine q0 p8_21_1 hE (st_add (z := (pb : Int) + 1) rfl rfl (wr_i64 _ (by omega) (by omega))) ?_
                      clear hE a; intro a hE
                      refine q0 p8_21_2 hE (st_assign rfl) ?_
                      clear hE a; intro a hE
                      refine p_nil ?_
                      refine x_norm ?_
                      exact ⟨pb + 1, by omega, En.sub hE ⟨rfl, rfl, rfl, rfl, rfl, rfl, rfl, rfl, rfl, rfl, rfl, rfl, rfl, trivial⟩, by omega, B_gL, B_gN, K_0, K_s33⟩
                ·
                  refine c_reg R8_20_l ?_
                  refine q0 p8_20_0 hE (st_move rfl) ?_
                  clear hE a; intro a hE
                  refine q0 p8_20_1 hE (st_move rfl) ?_
                  clear hE a; intro a hE
                  refine q0 p8_20_2 hE (st_lss (b := false) rfl rfl (decide_eq_false hPB)) ?_
                  clear hE a; intro a hE
                  refine p_nil ?_
                  refine x_norm ?_
                  refine c_cond (t := false) hE rfl ?_
                  refine wp_exit ?_
                  refine x_exit ?_
                  refine x_exit ?_
                  refine x_in ?_
                  refine x_normB ?_
                  refine x_norm ?_
                  refine c_regL R8_18_l ?_
                  refine q0 p8_18_0 hE (st_move rfl) ?_
                  clear hE a; intro a hE
                  refine q0 p8_18_1 hE (st_add (z := (pa : Int) + 1) rfl rfl (wr_i64 _ (by omega) (by omega))) ?_
                  clear hE a; intro a hE
                  refine q0 p8_18_2 hE (st_assign rfl) ?_
                  clear hE a; intro a hE
                  refine p_nil ?_
                  refine x_norm ?_
                  exact ⟨pa + 1, by omega, En.sub hE ⟨rfl, rfl, rfl, rfl, rfl, rfl, rfl, rfl, rfl, rfl, rfl, trivial⟩, by omega, B_gL, B_gN, K_0, K_s33⟩
            ·
              refine c_reg R8_17_l ?_
              refine q0 p8_17_0 hE (st_move rfl) ?_
              clear hE a; intro a hE
              refine q0 p8_17_1 hE (st_move rfl) ?_
              clear hE a; intro a hE
              refine q0 p8_17_2 hE (st_lss (b := false) rfl rfl (decide_eq_false hPA)) ?_
              clear hE a; intro a hE
              refine p_nil ?_
              refine x_norm ?_
              refine c_cond (t := false) hE rfl ?_
              refine wp_exit ?_
              refine x_exit ?_
              refine x_exit ?_
              refine x_in ?_
              refine x_norm ?_
              refine c_reg R8_29_l ?_
              refine p_cons (s_call (xs := []) (args := []) p8_29_0 hE wn_none rfl rfl Try.func33 cl33 (kn26  _) ?_)
              rintro e w41 ⟨rfl, hk⟩
              replace B_gL := kp_blk B_gL hk (fun h => h)
              replace B_gN := kp_blk B_gN hk (fun h => h)
              replace K_0 := K_0.then_ hk (fun _ h => h.elim)
              replace K_s33 := K_s33.then_ hk (fun _ h => h.elim)
              refine ⟨_, rfl, ?_⟩
              clear hE a; intro a hE
              refine q0 p8_29_1 hE (st_assign rfl) ?_
              clear hE a; intro a hE
              refine p_nil ?_
              refine x_norm ?_
              refine wp_ret ?_
              refine ret_one (v := Value.bool true) rfl hE (.tmp rfl .nil) ?_
              exact ⟨rfl, K_0.to (Nat.le_refl _) (fun _ h => h.elim)⟩
end Go.Proofs.Ytpnpfapdjdcnbaa.Lb
