/- Contracts of package lolli and of its document's answers, and of the examples that the laws ask first: what each call returns; it only makes memory. No condition but that two counters are given where that is said. -/
import Derived.Test.YthdacjnghnnmnaaLolWalks
import Derived.Test.YthdacjnghnnmnaaPLolliComparesx1
import Derived.Test.YthdacjnghnnmnaaPLolliStepsx1
set_option linter.unusedVariables false
set_option linter.unusedSimpArgs false
namespace Go.Proofs.Ythdacjnghnnmnaa.Lol
open Go.RowKit Go.Proofs.YthdacjnghnnmnaaW.PrintWords
theorem blk_new (w : World) (cs : Array Value) (T : TypeId) : (w.alloc (.cells cs T)).heap[w.heap.size]? = some (.cells cs T (0, 0)) := by
  show (w.heap.push _)[w.heap.size]? = _
  simp
theorem reads_new (w : World) (l : List Int) (T : TypeId) (hl : l.length ≤ 1000000) : ReadsInt (w.alloc (.cells (l.map (Value.int .i64)).toArray T)) .i64 (some ⟨w.heap.size, 0, none⟩) l.length l := by
  refine ⟨rfl, by omega, fun _ => ⟨_, rfl, fun j hj => ?_⟩⟩
  have := blk_cell (blk_new w (l.map (Value.int .i64)).toArray T) (0 + j)
  have e : (Addr.add ⟨w.heap.size, 0, none⟩ j) = ⟨w.heap.size, 0 + j, none⟩ := by unfold Addr.add; split <;> simp_all
  rw [e, this]
  simp [hj]
theorem below_new (w : World) (o : Obj) : Below w.heap.size w (w.alloc o) := (Below.refl _ _).alloc (Nat.le_refl _) _
theorem size_new (w : World) (o : Obj) : w.heap.size ≤ (w.alloc o).heap.size := by show w.heap.size ≤ (w.heap.push _).size; simp
theorem bel {W w w' : World} (h : Below W.heap.size W w) (h' : Below w.heap.size w w') : Below W.heap.size W w' := h.trans (h'.mono h.size)
theorem Valid_lit (l : List Int) (w : World) (hl : l.length ≤ 1000000) (r : Bool) (h : PLolliCompares.lolli_Valid.f 4 l = some r) :
    Calls Try.prog 29 #[.slice (some ⟨w.heap.size, 0, none⟩) l.length l.length] (w.alloc (.cells (l.map (Value.int .i64)).toArray 3)) fun e w' => e = .returned (.bool r) ∧ Below w.heap.size w w' := by
  refine (PLolliCompares.lolli_Valid.calls 4 _ _ l r _ (Kd.C_of_reads (d := (0 : Int)) (h1 := fun _ => rfl) (reads_new w l 3 hl)) (Nat.le_refl _) h).mono ?_
  rintro e w' ⟨rfl, hd⟩
  exact ⟨rfl, (below_new _ _).trans (hd.below.mono (size_new _ _))⟩
def vB (a : Int) : Bool := decide (0 ≤ a ∧ a ≤ 255)
theorem Valid1 (a : Int) (r : Bool) (hr : vB a = r) (w : World) : Calls Try.prog 29 #[.slice (some ⟨w.heap.size, 0, none⟩) 1 1] (w.alloc (.cells #[.int .i64 a] 3)) fun e w' => e = .returned (.bool r) ∧ Below w.heap.size w w' := by
  subst hr
  refine Valid_lit [a] w (by simp) _ ?_
  simp only [PLolliCompares.lolli_Valid.f, PLolliCompares.lolli_Valid.l0, rd, wrap64, vB]
  by_cases h1 : a < 0 <;> by_cases h2 : a ≥ 256 <;> simp [h1, h2] <;> omega
theorem Valid2 (a b : Int) (r : Bool) (hr : (vB a && vB b) = r) (w : World) : Calls Try.prog 29 #[.slice (some ⟨w.heap.size, 0, none⟩) 2 2] (w.alloc (.cells #[.int .i64 a, .int .i64 b] 3)) fun e w' => e = .returned (.bool r) ∧ Below w.heap.size w w' := by
  subst hr
  refine Valid_lit [a, b] w (by simp) _ ?_
  simp only [PLolliCompares.lolli_Valid.f, PLolliCompares.lolli_Valid.l0, rd, wrap64, vB]
  by_cases h1 : a < 0 <;> by_cases h2 : a ≥ 256 <;> by_cases h3 : b < 0 <;> by_cases h4 : b ≥ 256 <;> simp [h1, h2, h3, h4] <;> omega
theorem Compare_ok (a b c : Int) (hc : cmpF a b = c) (w : World) (ha : vB a = true) (hb : vB b = true) :
    Calls Try.prog 21 #[.int .i64 a, .int .i64 b] w fun e w' => e = .returned (.tuple #[.int .i64 c, .int .i64 0]) ∧ Below w.heap.size w w' := by
  subst hc
  have ga := ha; have gb := hb
  unfold vB at ga gb
  rw [decide_eq_true_eq] at ga gb
  have V := Lib.hid (Valid2 a b true (by rw [ha, hb]; rfl) w)
  clear ha hb
  go_enter Try.func21, Try.ntmps21
  go_wp2_with fail
  refine V.out.mono ?_
  rintro e w1 ⟨rfl, hb1⟩
  go_wp2_with fail
  refine (compare_any a b _ ga.1 ga.2 gb.1 gb.2).mono ?_
  rintro e w2 ⟨rfl, rfl⟩
  go_wp2_with fail
  go_ret2
  exact ⟨rfl, hb1⟩
theorem Compare_no (a b : Int) (w : World) (h : (vB a && vB b) = false) :
    Calls Try.prog 21 #[.int .i64 a, .int .i64 b] w fun e w' => e = .returned (.tuple #[.int .i64 0, .int .i64 1]) ∧ Below w.heap.size w w' := by
  have V := Lib.hid (Valid2 a b false h w)
  clear h
  go_enter Try.func21, Try.ntmps21
  go_wp2_with fail
  refine V.out.mono ?_
  rintro e w1 ⟨rfl, hb1⟩
  go_wp2_with fail
  go_ret2
  exact ⟨rfl, hb1⟩
theorem Newer_any (a b : Int) (r : Bool) (hr : (vB a && vB b && (cmpF a b == 2)) = r) (w : World) :
    Calls Try.prog 24 #[.int .i64 a, .int .i64 b] w fun e w' => e = .returned (.bool r) ∧ Below w.heap.size w w' := by
  subst hr
  by_cases h : (vB a && vB b) = true
  · rw [h]
    have V := Lib.hid (Valid2 a b true h w)
    simp only [Bool.and_eq_true, vB, decide_eq_true_eq] at h
    obtain ⟨⟨h1, h2⟩, h3, h4⟩ := h
    go_enter Try.func24, Try.ntmps24
    go_wp2_with fail
    refine V.out.mono ?_
    rintro e w1 ⟨rfl, hb1⟩
    go_wp2_with fail
    refine (compare_any a b _ h1 h2 h3 h4).mono ?_
    rintro e w2 ⟨rfl, rfl⟩
    go_wp2_with fail
    go_ret
    exact ⟨rfl, hb1⟩
  · simp only [Bool.not_eq_true] at h
    rw [h]
    have V := Lib.hid (Valid2 a b false h w)
    clear h
    go_enter Try.func24, Try.ntmps24
    go_wp2_with fail
    refine V.out.mono ?_
    rintro e w1 ⟨rfl, hb1⟩
    go_wp2_with fail
    go_ret
    exact ⟨rfl, hb1⟩
theorem known_any (w : World) : Calls Try.prog 23 #[] w fun e w' => e = .returned (.bool true) ∧ Below w.heap.size w w' := by
  go_enter Try.func23, Try.ntmps23
  go_wp2_with fail
  refine (Compare_ok 240 5 2 (by decide) _ (by decide) (by decide)).mono ?_
  rintro e w1 ⟨rfl, hb1⟩
  go_wp2_with fail
  refine (Compare_ok 250 5 1 (by decide) _ (by decide) (by decide)).mono ?_
  rintro e w2 ⟨rfl, hb2⟩
  go_wp2_with fail
  refine (Compare_ok 127 2 1 (by decide) _ (by decide) (by decide)).mono ?_
  rintro e w3 ⟨rfl, hb3⟩
  go_wp2_with fail
  refine (Compare_ok 10 60 3 (by decide) _ (by decide) (by decide)).mono ?_
  rintro e w4 ⟨rfl, hb4⟩
  go_wp2_with fail
  go_ret
  exact ⟨rfl, bel (bel (bel hb1 hb2) hb3) hb4⟩
theorem rValid_any (a : Int) (r : Bool) (hr : vB a = r) (w : World) : Calls Try.prog 22 #[.int .i64 a] w fun e w' => e = .returned (.bool r) ∧ Below w.heap.size w w' := by
  subst hr
  refine (PLolliCompares.rivuletref01_Valid.calls a (vB a) w ?_).mono ?_
  · unfold PLolliCompares.rivuletref01_Valid.f vB
    by_cases h : a ≥ 0 <;> simp [h] <;> omega
  · rintro e w' ⟨rfl, hd⟩
    first | exact ⟨rfl, hd.below⟩ | exact ⟨rfl, hd⟩
/-- Where a counter stands so many steps on, up to sixteen. -/
def nx (a : Int) (i : Int) : Int := if a ≥ 128 then (if a + i < 256 then a + i else a + i - 256) else (a + i) % 128
theorem nx_next (a i : Int) (ha : 0 ≤ a ∧ a ≤ 255) (hi : 0 ≤ i ∧ i ≤ 15) : PLolliCompares.rivuletref01_Next.f (nx a i) = some (nx a (i + 1)) := by
  have h0 : 0 ≤ nx a i ∧ nx a i ≤ 255 := by unfold nx; split <;> (try split) <;> omega
  have hw : wrap64 (nx a i + 1) = nx a i + 1 := by unfold wrap64; omega
  unfold PLolliCompares.rivuletref01_Next.f
  rw [hw]
  unfold nx
  by_cases h1 : a ≥ 128
  · rw [if_pos h1, if_pos h1]
    split <;> split <;> (try split) <;> (try split) <;> (first | omega | (congr 1; omega))
  · rw [if_neg h1, if_neg h1]
    split <;> (try split) <;> (first | omega | (congr 1; omega))
theorem reach_from (a b : Int) (ha : 0 ≤ a ∧ a ≤ 255) : ∀ (d k : Nat) (i : Int), 0 ≤ i → i ≤ 16 → 16 - i = d → d < k →
    ∃ r, PLolliCompares.rivuletref01_reach.l0 k (nx a i) b i = some r ∧ (r = true ↔ ∃ j, i < j ∧ j ≤ 16 ∧ nx a j = b) := by
  intro d
  induction d with
  | zero =>
    intro k i h0 h1 hd hk
    obtain ⟨k, rfl⟩ : ∃ m, k = m + 1 := ⟨k - 1, by omega⟩
    refine ⟨false, ?_, by simp; intro j h2 h3; omega⟩
    simp only [PLolliCompares.rivuletref01_reach.l0]; rw [if_neg (by omega)]
  | succ d ih =>
    intro k i h0 h1 hd hk
    obtain ⟨k, rfl⟩ : ∃ m, k = m + 1 := ⟨k - 1, by omega⟩
    have hw : wrap64 (i + 1) = i + 1 := by unfold wrap64; omega
    by_cases hb : nx a (i + 1) = b
    · refine ⟨true, ?_, by simp; exact ⟨i + 1, by omega, by omega, hb⟩⟩
      simp only [PLolliCompares.rivuletref01_reach.l0]; rw [if_pos (by omega), nx_next a i ha (by omega)]; simp [hb]
    · obtain ⟨r, hr, hr2⟩ := ih k (i + 1) (by omega) (by omega) (by omega) (by omega)
      refine ⟨r, ?_, ?_⟩
      · simp only [PLolliCompares.rivuletref01_reach.l0]; rw [if_pos (by omega), nx_next a i ha (by omega)]; simp [hb, hw, hr]
      · rw [hr2]
        constructor
        · rintro ⟨j, h2, h3, h4⟩; exact ⟨j, by omega, h3, h4⟩
        · rintro ⟨j, h2, h3, h4⟩
          refine ⟨j, ?_, h3, h4⟩
          by_cases he : j = i + 1
          · subst he; exact absurd h4 hb
          · omega
def reachB (a b : Int) : Bool := if a ≥ 128 then decide ((1 ≤ b - a ∧ b - a ≤ 16) ∨ (b < 128 ∧ 256 - a + b ≤ 16)) else decide (b < 128 ∧ 1 ≤ (b - a + 128) % 128 ∧ (b - a + 128) % 128 ≤ 16)
theorem reach_f (k : Nat) (hk : 17 ≤ k) (a b : Int) (ha : 0 ≤ a ∧ a ≤ 255) (hb : 0 ≤ b ∧ b ≤ 255) : PLolliCompares.rivuletref01_reach.f k a b = some (reachB a b) := by
  obtain ⟨r, hr, hr2⟩ := reach_from a b ha 16 k 0 (by omega) (by omega) (by omega) (by omega)
  have h0 : nx a 0 = a := by unfold nx; split <;> (try split) <;> omega
  rw [h0] at hr
  have : r = reachB a b := by
    rw [Bool.eq_iff_iff, hr2]
    unfold reachB
    constructor
    · rintro ⟨j, h2, h3, h4⟩
      unfold nx at h4
      split <;> rw [decide_eq_true_eq]
      · rename_i h5; rw [if_pos h5] at h4; split at h4 <;> omega
      · rename_i h5; rw [if_neg h5] at h4; omega
    · intro h
      by_cases h5 : a ≥ 128
      · rw [if_pos h5, decide_eq_true_eq] at h
        by_cases h6 : 1 ≤ b - a ∧ b - a ≤ 16
        · exact ⟨b - a, by omega, by omega, by unfold nx; rw [if_pos h5, if_pos (by omega)]; omega⟩
        · exact ⟨256 - a + b, by omega, by omega, by unfold nx; rw [if_pos h5, if_neg (by omega)]; omega⟩
      · rw [if_neg h5, decide_eq_true_eq] at h
        exact ⟨(b - a + 128) % 128, by omega, by omega, by unfold nx; rw [if_neg h5]; omega⟩
  unfold PLolliCompares.rivuletref01_reach.f
  rw [hr, this]
theorem refcmp_f (a b : Int) (ha : 0 ≤ a ∧ a ≤ 255) (hb : 0 ≤ b ∧ b ≤ 255) : PLolliCompares.rivuletref01_Compare.f 40 a b = some (cmpF a b) := by
  unfold PLolliCompares.rivuletref01_Compare.f cmpF
  by_cases h0 : a = b
  · rw [if_pos h0, if_pos h0]
  · rw [if_neg h0, if_neg h0, reach_f 40 (by omega) a b ha hb, reach_f 40 (by omega) b a hb ha]
    simp only [Option.bind_some, PLolliCompares.rivuletref01_Compare.j0, reachB, decide_eq_true_eq]
    by_cases h1 : 128 ≤ a <;> by_cases h2 : 128 ≤ b
    · have h3 : ¬ b < 128 := by omega
      simp only [h1, h2, h3, ge_iff_le, if_true, if_false, false_and, or_false, decide_eq_true_eq, decide_false, Bool.false_eq_true]
      by_cases h4 : 1 ≤ b - a ∧ b - a ≤ 16
      · simp [h4]
      · by_cases h5 : 1 ≤ a - b ∧ a - b ≤ 16
        · simp [h4, h5]
        · have h6 : ¬ a < 128 := by omega
          simp [h4, h5, h6]
    · have h3 : b < 128 := by omega
      have h4 : ¬ (1 ≤ b - a ∧ b - a ≤ 16) := by omega
      have h5 : ¬ a < 128 := by omega
      by_cases h6 : 256 - a + b ≤ 16
      · simp [h1, h2, h3, h4, h5, h6]
      · simp [h1, h2, h3, h4, h5, h6]
    · have h3 : ¬ b < 128 := by omega
      have h4 : ¬ (1 ≤ a - b ∧ a - b ≤ 16) := by omega
      have h5 : a < 128 := by omega
      by_cases h6 : 256 - b + a ≤ 16
      · simp [h1, h2, h3, h4, h5, h6]
      · simp [h1, h2, h3, h4, h5, h6]
    · have h3 : b < 128 := by omega
      have h5 : a < 128 := by omega
      simp only [h1, h2, h3, h5, ge_iff_le, if_false, true_and, decide_eq_true_eq, Bool.false_eq_true]
      by_cases h6 : 1 ≤ (b - a + 128) % 128 ∧ (b - a + 128) % 128 ≤ 16
      · simp only [if_pos h6]
      · by_cases h7 : 1 ≤ (a - b + 128) % 128 ∧ (a - b + 128) % 128 ≤ 16
        · simp only [if_neg h6, if_pos h7]
        · simp only [if_neg h6, if_neg h7]
theorem rCompare_any (a b c : Int) (hc : cmpF a b = c) (ha : 0 ≤ a ∧ a ≤ 255) (hb : 0 ≤ b ∧ b ≤ 255) (w : World) : Calls Try.prog 25 #[.int .i64 a, .int .i64 b] w fun e w' => e = .returned (.int .i64 c) ∧ Below w.heap.size w w' := by
  subst hc
  refine (PLolliCompares.rivuletref01_Compare.calls 40 a b _ w (refcmp_f a b ha hb)).mono ?_
  rintro e w' ⟨rfl, hd⟩
  exact ⟨rfl, hd.below⟩
theorem cmp_vals (a b : Int) : (cmpF a b = 0 ∧ cmpF b a = 0) ∨ (cmpF a b = 1 ∧ cmpF b a = 2) ∨ (cmpF a b = 2 ∧ cmpF b a = 1) ∨ (cmpF a b = 3 ∧ cmpF b a = 3) := by
  unfold cmpF
  by_cases h0 : a = b
  · simp [h0]
  · have h0' : ¬ b = a := fun h => h0 h.symm
    rw [if_neg h0, if_neg h0']
    by_cases h1 : 128 ≤ a <;> by_cases h2 : 128 ≤ b
    · have h3 : ¬ b < 128 := by omega
      have h4 : ¬ a < 128 := by omega
      simp only [h1, h2, h3, h4, if_true, if_false]
      by_cases h5 : 1 ≤ b - a ∧ b - a ≤ 16 <;> by_cases h6 : 1 ≤ a - b ∧ a - b ≤ 16
      · omega
      · simp [h5, h6]
      · simp [h5, h6]
      · simp [h5, h6]
    · have h3 : b < 128 := by omega
      simp only [h1, h2, h3, if_true, if_false]
      by_cases h5 : 256 - a + b ≤ 16 <;> simp [h5]
    · have h3 : a < 128 := by omega
      simp only [h1, h2, h3, if_true, if_false]
      by_cases h5 : 256 - b + a ≤ 16 <;> simp [h5]
    · simp only [h1, h2, if_false]
      by_cases h5 : 1 ≤ (b - a + 128) % 128 ∧ (b - a + 128) % 128 ≤ 16 <;> by_cases h6 : 1 ≤ (a - b + 128) % 128 ∧ (a - b + 128) % 128 ≤ 16
      · omega
      · simp only [if_pos h5, if_neg h6]; decide
      · simp only [if_neg h5, if_pos h6]; decide
      · simp only [if_neg h5, if_neg h6]; decide
end Go.Proofs.Ythdacjnghnnmnaa.Lol
