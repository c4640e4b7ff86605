/- The checksum of texts, the chapter's example, and a nil sum. -/
import Derived.Test.YtndiddfleidnaaaSumCore
set_option maxRecDepth 100000
set_option linter.unusedVariables false
set_option linter.unusedSimpArgs false
namespace Go.Proofs.Ytndiddfleidnaaa.Sum
open Go.RowKit Go.Proofs.YtndiddfleidnaaaW.PrintWords Go.Proofs.Ytndiddfleidnaaa.PSumHeaders
theorem blk_new (w : World) (cs : Array Value) (T : TypeId) : (w.alloc (.cells cs T)).heap[w.heap.size]? = some (.cells cs T (0, 0)) := by
  show (w.heap.push _)[w.heap.size]? = _
  simp
theorem below_new (w : World) (o : Obj) : Below w.heap.size w (w.alloc o) := (Below.refl _ _).alloc (Nat.le_refl _) _
theorem size_new (w : World) (o : Obj) : w.heap.size ≤ (w.alloc o).heap.size := by show w.heap.size ≤ (w.heap.push _).size; simp
theorem bel {W w w' : World} (h : Below W.heap.size W w) (h' : Below w.heap.size w w') : Below W.heap.size W w' := h.trans (h'.mono h.size)
theorem blk_bel {w w' : World} {g : Nat} {o : Obj} (h : w.heap[g]? = some o) (hb : Below w.heap.size w w') : w'.heap[g]? = some o := (hb.block g (blk_lt h)).trans h
abbrev dB := Kd.slice 5 (Kd.int .u8)
theorem heapB : Kd.Heap dB := Kd.heap_slice 5 (Kd.heap_int .u8)
theorem C_one {w : World} {g : Nat} {A : Option Addr} {c : Nat} {b : List Int} (hb : w.heap[g]? = some (.cells #[.slice A b.length c] 36 (0, 0))) (hc : b.length ≤ c) (hr : (Kd.int .u8).C w A b.length b) : dB.C w (some ⟨g, 0, none⟩) 1 [b] := by
  refine ⟨rfl, by omega, fun _ => ⟨_, rfl, fun j p hj => ?_⟩⟩
  obtain rfl : j = 0 := by
    cases j with
    | zero => rfl
    | succ j => simp at hj
  obtain rfl : b = p := by simpa using hj
  refine ⟨[.slice A b.length c], rfl, ⟨A, c, rfl, hc, hr⟩, fun i u hi => ?_⟩
  obtain rfl : i = 0 := by
    cases i with
    | zero => rfl
    | succ i => simp at hi
  obtain rfl : Value.slice A b.length c = u := by simpa using hi
  exact (blk_cell hb 0).trans rfl
/-- What came before the Sum's block is read whatever its calls turn. -/
theorem foot_old {w W : World} {A : Option Addr} {n : Nat} {ls : List (List Int)} (h : dB.C w A n ls) (hb : Below w.heap.size w W) {g : Nat} (hg : w.heap.size ≤ g) : ∀ W', Kept W W' (fun k => k = g) → dB.C W' A n ls :=
  Kd.C_kept_came heapB h hb (fun k hk => by rw [hk]; exact hg)
theorem of_any (A : Option Addr) (cap : Nat) (ls : List (List Int)) (r : Int) (hres : 65535 - (addF (0, 0) ls.flatten).1 = r) (w : World) (hr : dB.C w A ls.length ls) (hbd : ∀ b ∈ ls, ∀ x ∈ b, 0 ≤ x ∧ x ≤ 255) (ht : total ls ≤ 1000000000) (hl : ls.length ≤ 1000000000) (hn : 0 ≤ r ∧ r ≤ 65535) :
    Calls Try.prog 78 #[.slice A ls.length cap] w fun e w' => e = .returned (.int .i64 r) ∧ Below w.heap.size w w' := by
  have HA := Lib.hid (add_any w.heap.size 0 0 A cap ls (w.alloc (.cells #[.int .i64 0, .int .i64 0] 143)) (blk_new _ _ _) ⟨by omega, by omega⟩ (by omega) (by omega) (by omega) (foot_old hr (below_new _ _) (Nat.le_refl _)) hbd)
  obtain ⟨n, c, hnc⟩ : ∃ n c, addF (0, 0) ls.flatten = (n, c) := ⟨_, _, rfl⟩
  rw [hnc] at HA hres
  have hn1 : 0 ≤ n := by simp at hres; omega
  have hn2 : n ≤ 65535 := by simp at hres; omega
  have HE := Lib.hid hres
  clear hr hbd hres hnc
  go_enter Try.func78, Try.ntmps78
  go_wp2_with fail
  refine HA.out.mono ?_
  rintro e w1 ⟨rfl, hb1, hk1⟩
  have HB1 := Lib.hid hb1
  have HK1 := Lib.hid hk1
  clear hb1 hk1
  go_wp2_with fail
  refine (value_any _ n c _ HB1.out).mono ?_
  rintro e w2 ⟨rfl, rfl⟩
  go_wp2_with fail
  go_ret
  exact ⟨by have := HE.out; simp [← this], (below_new w _).trans (HK1.out.to (size_new _ _) (fun k hk => by rw [hk]; exact Nat.le_refl _))⟩
theorem bytes_C (w : World) (l : List Int) (hl : l.length ≤ 1000000) : (Kd.int .u8).C (w.alloc (.cells (l.map (Value.int .u8)).toArray 5)) (some ⟨w.heap.size, 0, none⟩) l.length l := by
  refine Kd.C_of_reads (d := (0 : Int)) (h1 := fun _ => rfl) ⟨rfl, by omega, fun _ => ⟨_, rfl, fun j hj => ?_⟩⟩
  have := blk_cell (blk_new w (l.map (Value.int .u8)).toArray 5) (0 + j)
  have e : (Addr.add ⟨w.heap.size, 0, none⟩ j) = ⟨w.heap.size, 0 + j, none⟩ := by unfold Addr.add; split <;> simp_all
  rw [e, this]
  simp [hj]
theorem foot_lit {w1 W : World} {g gl : Nat} {A : Option Addr} {c : Nat} {b : List Int} (hr : (Kd.int .u8).C w1 A b.length b) (hc : b.length ≤ c) (hb : Below w1.heap.size w1 W) (hg : w1.heap.size ≤ g) (hl : W.heap[gl]? = some (.cells #[.slice A b.length c] 36 (0, 0))) (hne : gl ≠ g) :
    ∀ W', Kept W W' (fun k => k = g) → dB.C W' (some ⟨gl, 0, none⟩) 1 [b] := fun W' hk =>
  C_one ((hk.2 gl (blk_lt hl) hne).trans hl) hc (Kd.C_kept_came (Kd.heap_int .u8) hr hb (fun k hk => by rw [hk]; exact hg) W' hk)
/-- A text, a Sum and the list of the one text, made one behind the other. -/
theorem prep (w : World) (l : List Int) (hl : l.length ≤ 1000000) :
    let w1 := w.alloc (.cells (l.map (Value.int .u8)).toArray 5)
    let w2 := w1.alloc (.cells #[.int .i64 0, .int .i64 0] 143)
    let w3 := w2.alloc (.cells #[.slice (some ⟨w.heap.size, 0, none⟩) l.length l.length] 36)
    w3.heap[w.heap.size + 1]? = some (.cells #[.int .i64 0, .int .i64 0] 143 (0, 0)) ∧ (∀ W', Kept w3 W' (fun k => k = w.heap.size + 1) → dB.C W' (some ⟨w.heap.size + 1 + 1, 0, none⟩) 1 [l]) ∧ Below w1.heap.size w1 w3 ∧ (Kd.int .u8).C w1 (some ⟨w.heap.size, 0, none⟩) l.length l ∧ w1.heap.size = w.heap.size + 1 ∧ Below w.heap.size w w1 := by
  intro w1 w2 w3
  have s1 : w1.heap.size = w.heap.size + 1 := by show (w.heap.push _).size = _; simp
  have s2 : w2.heap.size = w.heap.size + 1 + 1 := by show (w1.heap.push _).size = _; simp [s1]
  have b12 : Below w1.heap.size w1 w2 := below_new _ _
  have b23 : Below w2.heap.size w2 w3 := below_new _ _
  have b13 := bel b12 b23
  have hC := bytes_C w l hl
  have k2 : w2.heap[w.heap.size + 1]? = some (.cells #[.int .i64 0, .int .i64 0] 143 (0, 0)) := by rw [← s1]; exact blk_new _ _ _
  have k3 : w3.heap[w.heap.size + 1 + 1]? = some (.cells #[.slice (some ⟨w.heap.size, 0, none⟩) l.length l.length] 36 (0, 0)) := by rw [← s2]; exact blk_new _ _ _
  exact ⟨blk_bel k2 b23, foot_lit (w1 := w1) hC (Nat.le_refl _) b13 (by omega) k3 (by omega), b13, hC, s1, below_new _ _⟩
theorem known_any (w : World) : Calls Try.prog 31 #[] w fun e w' => e = .returned (.bool true) ∧ Below w.heap.size w w' := by
  obtain ⟨p1, p2, p3, p4, p5, p6⟩ := prep w [0, 1, 242, 3, 244, 245, 246, 247] (by decide)
  have hbd : ∀ b ∈ [[0, 1, 242, 3, 244, 245, 246, 247]], ∀ x ∈ b, (0 : Int) ≤ x ∧ x ≤ 255 := by decide
  have ha := add_any (w.heap.size + 1) 0 0 (some ⟨w.heap.size + 1 + 1, 0, none⟩) 1 [[0, 1, 242, 3, 244, 245, 246, 247]] _ p1 ⟨by omega, by omega⟩ (by omega) (by decide) (by decide) p2 hbd
  have e : addF (0, 0) [[0, 1, 242, 3, 244, 245, 246, 247]].flatten = (56818, 8) := by decide
  rw [e] at ha
  have HA := Lib.hid ha
  have P := Lib.hid (And.intro p3 (And.intro p4 (And.intro p5 p6)))
  have HD := Lib.hid hbd
  clear p1 p2 p3 p4 p5 p6 hbd ha e
  go_enter Try.func31, Try.ntmps31
  go_wp2_with fail
  refine HA.out.mono ?_
  rintro e w4 ⟨rfl, hb4, hk4⟩
  have HB4 := Lib.hid hb4
  obtain ⟨p3, p4, p5, p6⟩ := P.out
  have hb14 := p3.trans (hk4.to (B := (w.alloc (.cells ([0, 1, 242, 3, 244, 245, 246, 247].map (Value.int .u8)).toArray 5)).heap.size) p3.size (fun k hk => by rw [hk, p5]; exact Nat.le_refl _))
  have H04 := Lib.hid (bel p6 hb14)
  have HC4 := Lib.hid (Kd.C_below p4 hb14)
  clear hb4 hk4 p3 p4 p5 p6 hb14 P HA
  go_wp2_with fail
  refine (value_any _ 56818 8 _ HB4.out).mono ?_
  rintro e w5 ⟨rfl, rfl⟩
  go_wp2_with fail
  refine (of_any _ 1 [[0, 1, 242, 3, 244, 245, 246, 247]] 8717 (by decide) _ (C_one (blk_new _ _ _) (by decide) (Kd.C_below HC4.out (below_new _ _))) HD.out (by decide) (by decide) (by omega)).mono ?_
  rintro e w6 ⟨rfl, hb6⟩
  have HB6 := Lib.hid (blk_bel (blk_bel HB4.out (below_new _ _)) hb6)
  have H6 := Lib.hid (bel (bel H04.out (below_new _ _)) hb6)
  clear hb6
  go_wp2_with fail
  refine (len_any _ 56818 8 _ HB6.out).mono ?_
  rintro e w7 ⟨rfl, rfl⟩
  go_wp2_with fail
  go_ret
  exact ⟨rfl, H6.out⟩
end Go.Proofs.Ytndiddfleidnaaa.Sum
