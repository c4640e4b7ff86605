/- Contracts of package hopopt and of the law HopoptBytes, as a program laid them out, the chapter's examples walked by hand. No condition. -/
import Derived.Test.YtpmbibpphomfkaaPHopoptBytesx0
namespace Go.Proofs.Ytpmbibpphomfkaa.PHopoptBytes
open Go.RowKit Go.Proofs.YtpmbibpphomfkaaW.PrintWords Go.Proofs.YtpmbibpphomfkaaW.PrintLast Go.Proofs.YtpmbibpphomfkaaW.PrintMore
attribute [local go_sem] max2_int min2_int max_two min_two max_three min_three max_four min_four   -- for this text's walks alone
set_option linter.unusedVariables false
set_option linter.unusedSimpArgs false

/-! ### rivuletref06_Encode: function 13 -/
def rivuletref06_Encode.j0 : Nat → Int → Int → Bool → Bool → Bool → Int → Int → Option (List Int)
  | 0, _, _, _, _, _, _, _ => none
  | k + 1, x0, x5, x181000, x181001, x181002, x181003, x181004 => if x181001 = true then (if x181002 = true then (some (([(x0) % 256, 0, 99, 4, (wrap64 ((wrap64 (x5 + 64)) + 32)) % 256, (x181003) % 256, (wrap64 (Int.tdiv x181004 256)) % 256, (Int.tmod x181004 256) % 256] : List Int))) else (some (([(x0) % 256, 0, 99, 4, (wrap64 (x5 + 64)) % 256, (x181003) % 256, (wrap64 (Int.tdiv x181004 256)) % 256, (Int.tmod x181004 256) % 256] : List Int)))) else (if x181002 = true then (some (([(x0) % 256, 0, 99, 4, (wrap64 (x5 + 32)) % 256, (x181003) % 256, (wrap64 (Int.tdiv x181004 256)) % 256, (Int.tmod x181004 256) % 256] : List Int))) else (some (([(x0) % 256, 0, 99, 4, (x5) % 256, (x181003) % 256, (wrap64 (Int.tdiv x181004 256)) % 256, (Int.tmod x181004 256) % 256] : List Int))))
def rivuletref06_Encode.f (k : Nat) (a0 : Int) (a1_0 : Bool) (a1_1 : Bool) (a1_2 : Bool) (a1_3 : Int) (a1_4 : Int) : Option (List Int) := if a1_0 = true then (rivuletref06_Encode.j0 k a0 (0 + 128) a1_0 a1_1 a1_2 a1_3 a1_4) else (rivuletref06_Encode.j0 k a0 0 a1_0 a1_1 a1_2 a1_3 a1_4)
theorem rivuletref06_Encode.mono_l : ∀ k, (∀ y0 y1 y2 y3 y4 y5 y6, LeO (rivuletref06_Encode.j0 k y0 y1 y2 y3 y4 y5 y6) (rivuletref06_Encode.j0 (k + 1) y0 y1 y2 y3 y4 y5 y6))
  | 0 => fun _ _ _ _ _ _ _ r h => by simp [rivuletref06_Encode.j0] at h
  | k + 1 => by
    have ih0 := rivuletref06_Encode.mono_l k
    · intro y0 y1 y2 y3 y4 y5 y6
      unfold rivuletref06_Encode.j0
      repeat' first
      | (with_reducible exact ih0 _ _ _ _ _ _ _)
      | (with_reducible exact LeO.refl _)
      | (with_reducible exact LeO.none _)
      | (with_reducible refine LeO.ite ?_ ?_)
      | (with_reducible refine LeO.bind ?_ (fun _ => ?_))
      | exact ih0 _ _ _ _ _ _ _
      | exact LeO.none _
      | refine LeO.ite ?_ ?_
      | refine LeO.bind ?_ (fun _ => ?_)
theorem rivuletref06_Encode.mono : ∀ a0 a1 a2 a3 a4 a5 k, LeO (rivuletref06_Encode.f k a0 a1 a2 a3 a4 a5) (rivuletref06_Encode.f (k + 1) a0 a1 a2 a3 a4 a5) := by
  intro a0 a1 a2 a3 a4 a5 k
  have ih0 := rivuletref06_Encode.mono_l k
  unfold rivuletref06_Encode.f
  repeat' first
      | (with_reducible exact ih0 _ _ _ _ _ _ _)
      | (with_reducible exact LeO.refl _)
      | (with_reducible exact LeO.none _)
      | (with_reducible refine LeO.ite ?_ ?_)
      | (with_reducible refine LeO.bind ?_ (fun _ => ?_))
      | exact ih0 _ _ _ _ _ _ _
      | exact LeO.none _
      | refine LeO.ite ?_ ?_
      | refine LeO.bind ?_ (fun _ => ?_)
set_option maxHeartbeats 8000000 in
set_option maxRecDepth 100000 in
theorem rivuletref06_Encode.calls (k : Nat) (a0 : Int) (a1_0 : Bool) (a1_1 : Bool) (a1_2 : Bool) (a1_3 : Int) (a1_4 : Int) (r : List Int) (w : World) (h : rivuletref06_Encode.f k a0 a1_0 a1_1 a1_2 a1_3 a1_4 = some r) :
    Calls Try.prog 13 #[.int .i64 a0, .agg #[.bool a1_0, .bool a1_1, .bool a1_2, .int .i64 a1_3, .int .i64 a1_4]] w fun e w' => ∃ v0_ : Value, e = .returned (v0_) ∧ Kd.R (Kd.int .u8) 5 w' w.heap.size (fun _ => True) v0_ r ∧ Below w.heap.size w w' := by
  have hu23 := Try.underlying23
  have HB := Aside0.mk (Below.refl w.heap.size w)
  have H : (if a1_0 = true then (rivuletref06_Encode.j0 k a0 (0 + 128) a1_0 a1_1 a1_2 a1_3 a1_4) else (rivuletref06_Encode.j0 k a0 0 a1_0 a1_1 a1_2 a1_3 a1_4)) = some r := h
  clear h
  have HC3 := Aside0.mk H
  clear H
  go_enter Try.func13, Try.ntmps13
  go_upto_if 7 with (first | ((with_reducible refine gate_dst (N := 3) rfl ?_); refine box_event ?hg (N := 3) ?hd (cs := #[.bool a1_0, .bool a1_1, .bool a1_2, .int .i64 a1_3, .int .i64 a1_4]) (t := 23) ?hr ?_; (case hd => rfl); (case hg => rfl); (case hr => first | (go_simp; done) | (go_simp; rfl)); intro gb180 hg w4 hbox hb; have n0_ := Aside0.mk (below_step (by repeat (first | (with_reducible first | exact HB.out | apply below_alloc | apply pw_below_drewN | apply below_drew1) | exact HB.out)) hb); have n1_ := Aside0.mk (hbox); have n2_ := Aside0.mk ((by rw [hg]; exact (below_size (by repeat (first | (with_reducible first | exact HB.out | apply below_alloc | apply pw_below_drewN | apply below_drew1) | exact HB.out))) : w.heap.size ≤ gb180)); have n3_ := Aside0.mk ((by rw [hg]; exact (below_size (by repeat (first | (with_reducible first | exact HB.out | apply below_alloc | apply pw_below_drewN | apply below_drew1) | exact HB.out))) : w.heap.size ≤ gb180)); clear HB; have HB := n0_; have BK180 := n1_; have GW180 := n2_; have GE180 := n3_; clear n0_ n1_ n2_ n3_; clear hb hbox hg; have hcz5_0 : w4.cell? ⟨gb180, 0, none⟩ = some (.bool a1_0) := (blk_cell BK180.out 0).trans rfl; have hcz5_1 : w4.cell? ⟨gb180, 1, none⟩ = some (.bool a1_1) := (blk_cell BK180.out 1).trans rfl; have hcz5_2 : w4.cell? ⟨gb180, 2, none⟩ = some (.bool a1_2) := (blk_cell BK180.out 2).trans rfl; have hcz5_3 : w4.cell? ⟨gb180, 3, none⟩ = some (.int .i64 a1_3) := (blk_cell BK180.out 3).trans rfl; have hcz5_4 : w4.cell? ⟨gb180, 4, none⟩ = some (.int .i64 a1_4) := (blk_cell BK180.out 4).trans rfl; have hfz5_0 := blk_frozen BK180.out 0; have hfz5_1 := blk_frozen BK180.out 1; have hfz5_2 := blk_frozen BK180.out 2; have hfz5_3 := blk_frozen BK180.out 3; have hfz5_4 := blk_frozen BK180.out 4))
  (try simp only [Act.put, List.setIfInBounds_toArray, List.set_cons_zero, List.set_cons_succ])
  go_cut [5] (fun v5 wc => ∃ (kq : Nat) (x5_2 : Int), v5 = .int .i64 x5_2 ∧ Aside0 (rivuletref06_Encode.j0 kq a0 x5_2 a1_0 a1_1 a1_2 a1_3 a1_4 = some r) ∧ Aside0 (kq ≤ k) ∧ Aside0 (wc.heap[gb180]? = some (.cells #[.bool a1_0, .bool a1_1, .bool a1_2, .int .i64 a1_3, .int .i64 a1_4] 23 (0, 0))) ∧ Aside0 (Below w.heap.size w wc))
  case first =>
    have H := HC3.out
    clear HC3
    by_cases c6 : a1_0 = true
    · subst c6
      have H1 : (rivuletref06_Encode.j0 k a0 (0 + 128) true a1_1 a1_2 a1_3 a1_4) = some r := by rw [if_pos rfl] at H; exact H
      clear H
      have H := H1
      clear H1
      have H' := Aside0.mk H
      clear H
      go_wp2
      go_meet
      case rel => exact ⟨_, (0 + 128), (by first | rfl | (simp; done) | (simp [*]; done)), H', ⟨by first | omega | exact Nat.le_refl _⟩, ⟨by (with_reducible repeat (first | refine blk_drewN ?_ _ | refine blk_drew ?_ | refine blk_alloc ?_ _)); exact BK180.out⟩, ⟨by repeat (first | (with_reducible first | exact HB.out | apply below_alloc | apply pw_below_drewN | apply below_drew1 | refine below_set ?_ GE180.out) | exact HB.out)⟩⟩
    · replace c6 := Bool.eq_false_iff.mpr c6
      subst c6
      have H1 : (rivuletref06_Encode.j0 k a0 0 false a1_1 a1_2 a1_3 a1_4) = some r := by rw [if_neg (show ¬ (false = true) by decide)] at H; exact H
      clear H
      have H := H1
      clear H1
      have H' := Aside0.mk H
      clear H
      go_wp2
      go_meet
      case rel => exact ⟨_, (0), (by first | rfl | (simp; done) | (simp [*]; done)), H', ⟨by first | omega | exact Nat.le_refl _⟩, ⟨by (with_reducible repeat (first | refine blk_drewN ?_ _ | refine blk_drew ?_ | refine blk_alloc ?_ _)); exact BK180.out⟩, ⟨by repeat (first | (with_reducible first | exact HB.out | apply below_alloc | apply pw_below_drewN | apply below_drew1 | refine below_set ?_ GE180.out) | exact HB.out)⟩⟩
  case rest =>
    clear HC3
    try clear c1
    try clear p2
    try clear c6
    try clear hcz5_0
    try clear hcz5_1
    try clear hcz5_2
    try clear hcz5_3
    try clear hcz5_4
    try clear hfz5_0
    try clear hfz5_1
    try clear hfz5_2
    try clear hfz5_3
    try clear hfz5_4
    obtain ⟨kq, x5_2, rfl, HA, HJ2, BK180, HB⟩ := hcut
    cases kq with
    | zero => exact absurd HA.out (by simp [rivuletref06_Encode.j0])
    | succ kj2 =>
      have H := HA.out
      clear HA
      simp only [rivuletref06_Encode.j0] at H
      by_cases c7 : a1_1 = true
      · subst c7
        have H1 : (if a1_2 = true then (some (([(a0) % 256, 0, 99, 4, (wrap64 ((wrap64 (x5_2 + 64)) + 32)) % 256, (a1_3) % 256, (wrap64 (Int.tdiv a1_4 256)) % 256, (Int.tmod a1_4 256) % 256] : List Int))) else (some (([(a0) % 256, 0, 99, 4, (wrap64 (x5_2 + 64)) % 256, (a1_3) % 256, (wrap64 (Int.tdiv a1_4 256)) % 256, (Int.tmod a1_4 256) % 256] : List Int)))) = some r := by rw [if_pos rfl] at H; exact H
        clear H
        have H := H1
        clear H1
        by_cases c8 : a1_2 = true
        · subst c8
          have H1 : (some (([(a0) % 256, 0, 99, 4, (wrap64 ((wrap64 (x5_2 + 64)) + 32)) % 256, (a1_3) % 256, (wrap64 (Int.tdiv a1_4 256)) % 256, (Int.tmod a1_4 256) % 256] : List Int))) = some r := by rw [if_pos rfl] at H; exact H
          clear H
          have H := H1
          clear H1
          obtain ⟨y181, hy181⟩ : ∃ y_ : List Int, y_ = (([(a0) % 256, 0, 99, 4, (wrap64 ((wrap64 (x5_2 + 64)) + 32)) % 256, (a1_3) % 256, (wrap64 (Int.tdiv a1_4 256)) % 256, (Int.tmod a1_4 256) % 256] : List Int)) := ⟨_, rfl⟩
          replace H : (some y181) = some r := by first | (rw [hy181]; with_reducible exact H) | (have H2_ := (Option.bind_some _ _).symm.trans H; rw [hy181]; with_reducible exact H2_) | (have H2_ := (Option.bind_some _ _).symm.trans H; with_reducible exact H2_) | with_reducible exact H | (rw [hy181]; exact H) | exact H
          have Ny181 := Aside0.mk hy181
          clear hy181
          obtain rfl := Option.some.inj H
          have hcz9_0 : wc.cell? ⟨gb180, 0, none⟩ = some (.bool a1_0) := (blk_cell BK180.out 0).trans rfl
          have hcz9_1 : wc.cell? ⟨gb180, 1, none⟩ = some (.bool true) := (blk_cell BK180.out 1).trans rfl
          have hcz9_2 : wc.cell? ⟨gb180, 2, none⟩ = some (.bool true) := (blk_cell BK180.out 2).trans rfl
          have hcz9_3 : wc.cell? ⟨gb180, 3, none⟩ = some (.int .i64 a1_3) := (blk_cell BK180.out 3).trans rfl
          have hcz9_4 : wc.cell? ⟨gb180, 4, none⟩ = some (.int .i64 a1_4) := (blk_cell BK180.out 4).trans rfl
          have hfz9_0 := blk_frozen BK180.out 0
          have hfz9_1 := blk_frozen BK180.out 1
          have hfz9_2 := blk_frozen BK180.out 2
          have hfz9_3 := blk_frozen BK180.out 3
          have hfz9_4 := blk_frozen BK180.out 4
          go_wp2_with (first | ((with_reducible refine gate_dst (N := 33) rfl ?_); refine Kd.R_lit (Kd.int .u8) _ 5 ?hg (N := 33) ?hd (xs := ([(a0) % 256, 0, 99, 4, (wrap64 ((wrap64 (x5_2 + 64)) + 32)) % 256, (a1_3) % 256, (wrap64 (Int.tdiv a1_4 256)) % 256, (Int.tmod a1_4 256) % 256] : List Int)) (inner := [.int .u8 ((a0) % 256), .int .u8 0, .int .u8 99, .int .u8 4, .int .u8 ((wrap64 ((wrap64 (x5_2 + 64)) + 32)) % 256), .int .u8 ((a1_3) % 256), .int .u8 ((wrap64 (Int.tdiv a1_4 256)) % 256), .int .u8 ((Int.tmod a1_4 256) % 256)]) (ok := fun _ => True) (okp := fun _ => True) ?hr ?hp (fun _ hk => hk) trivial (Below.refl _ _) (Nat.le_refl _) (by simp) ?_; (case hd => rfl); (case hg => rfl); (case hr => first | (go_simp; done) | (go_simp; rfl)); (case hp => exact (Reps.one (show Kd.M (Kd.int .u8) _ _ _ ((a0) % 256) [.int .u8 ((a0) % 256)] from rfl) (Reps.one (show Kd.M (Kd.int .u8) _ _ _ 0 [.int .u8 0] from rfl) (Reps.one (show Kd.M (Kd.int .u8) _ _ _ 99 [.int .u8 99] from rfl) (Reps.one (show Kd.M (Kd.int .u8) _ _ _ 4 [.int .u8 4] from rfl) (Reps.one (show Kd.M (Kd.int .u8) _ _ _ ((wrap64 ((wrap64 (x5_2 + 64)) + 32)) % 256) [.int .u8 ((wrap64 ((wrap64 (x5_2 + 64)) + 32)) % 256)] from rfl) (Reps.one (show Kd.M (Kd.int .u8) _ _ _ ((a1_3) % 256) [.int .u8 ((a1_3) % 256)] from rfl) (Reps.one (show Kd.M (Kd.int .u8) _ _ _ ((wrap64 (Int.tdiv a1_4 256)) % 256) [.int .u8 ((wrap64 (Int.tdiv a1_4 256)) % 256)] from rfl) (Reps.one (show Kd.M (Kd.int .u8) _ _ _ ((Int.tmod a1_4 256) % 256) [.int .u8 ((Int.tmod a1_4 256) % 256)] from rfl) (Reps.none _ _)))))))))); intro v182 w10 ho11 hb hg_ hnew_; clear hg_ hnew_; (first | rw [← Ny181.out] at ho11 | (simp only [Int.reduceToNat] at ho11; rw [← Ny181.out] at ho11)); have n0_ := Aside0.mk (Kd.R_lower ho11 (below_size (by repeat (first | (with_reducible first | exact HB.out | apply below_alloc | apply pw_below_drewN | apply below_drew1 | refine below_set ?_ GE180.out) | exact HB.out)))); have n1_ := Aside0.mk (blk_below (g := gb180) (o := .cells #[.bool a1_0, .bool true, .bool true, .int .i64 a1_3, .int .i64 a1_4] 23 (0, 0)) (by (with_reducible repeat (first | refine blk_drewN ?_ _ | refine blk_drew ?_ | refine blk_alloc ?_ _)); exact BK180.out) hb); have n2_ := Aside0.mk (below_step (by repeat (first | (with_reducible first | exact HB.out | apply below_alloc | apply pw_below_drewN | apply below_drew1 | refine below_set ?_ GE180.out) | exact HB.out)) hb); clear BK180; clear HB; have HO183 := n0_; have BK180 := n1_; have HB := n2_; clear n0_ n1_ n2_; clear hb ho11))
          go_ret
          exact ⟨_, by first | rfl | (simp [errW_none, errW_some] <;> rfl) | (simp [*, errW_none, errW_some] <;> rfl), by (with_reducible repeat (first | apply Kd.R_alloc | apply Kd.R_drewN | apply Kd.R_drew)); exact HO183.out, by repeat (first | (with_reducible first | exact HB.out | apply below_alloc | apply pw_below_drewN | apply below_drew1 | refine below_set ?_ GE180.out) | exact HB.out)⟩
        · replace c8 := Bool.eq_false_iff.mpr c8
          subst c8
          have H1 : (some (([(a0) % 256, 0, 99, 4, (wrap64 (x5_2 + 64)) % 256, (a1_3) % 256, (wrap64 (Int.tdiv a1_4 256)) % 256, (Int.tmod a1_4 256) % 256] : List Int))) = some r := by rw [if_neg (show ¬ (false = true) by decide)] at H; exact H
          clear H
          have H := H1
          clear H1
          obtain ⟨y184, hy184⟩ : ∃ y_ : List Int, y_ = (([(a0) % 256, 0, 99, 4, (wrap64 (x5_2 + 64)) % 256, (a1_3) % 256, (wrap64 (Int.tdiv a1_4 256)) % 256, (Int.tmod a1_4 256) % 256] : List Int)) := ⟨_, rfl⟩
          replace H : (some y184) = some r := by first | (rw [hy184]; with_reducible exact H) | (have H2_ := (Option.bind_some _ _).symm.trans H; rw [hy184]; with_reducible exact H2_) | (have H2_ := (Option.bind_some _ _).symm.trans H; with_reducible exact H2_) | with_reducible exact H | (rw [hy184]; exact H) | exact H
          have Ny184 := Aside0.mk hy184
          clear hy184
          obtain rfl := Option.some.inj H
          have hcz12_0 : wc.cell? ⟨gb180, 0, none⟩ = some (.bool a1_0) := (blk_cell BK180.out 0).trans rfl
          have hcz12_1 : wc.cell? ⟨gb180, 1, none⟩ = some (.bool true) := (blk_cell BK180.out 1).trans rfl
          have hcz12_2 : wc.cell? ⟨gb180, 2, none⟩ = some (.bool false) := (blk_cell BK180.out 2).trans rfl
          have hcz12_3 : wc.cell? ⟨gb180, 3, none⟩ = some (.int .i64 a1_3) := (blk_cell BK180.out 3).trans rfl
          have hcz12_4 : wc.cell? ⟨gb180, 4, none⟩ = some (.int .i64 a1_4) := (blk_cell BK180.out 4).trans rfl
          have hfz12_0 := blk_frozen BK180.out 0
          have hfz12_1 := blk_frozen BK180.out 1
          have hfz12_2 := blk_frozen BK180.out 2
          have hfz12_3 := blk_frozen BK180.out 3
          have hfz12_4 := blk_frozen BK180.out 4
          go_wp2_with (first | ((with_reducible refine gate_dst (N := 33) rfl ?_); refine Kd.R_lit (Kd.int .u8) _ 5 ?hg (N := 33) ?hd (xs := ([(a0) % 256, 0, 99, 4, (wrap64 (x5_2 + 64)) % 256, (a1_3) % 256, (wrap64 (Int.tdiv a1_4 256)) % 256, (Int.tmod a1_4 256) % 256] : List Int)) (inner := [.int .u8 ((a0) % 256), .int .u8 0, .int .u8 99, .int .u8 4, .int .u8 ((wrap64 (x5_2 + 64)) % 256), .int .u8 ((a1_3) % 256), .int .u8 ((wrap64 (Int.tdiv a1_4 256)) % 256), .int .u8 ((Int.tmod a1_4 256) % 256)]) (ok := fun _ => True) (okp := fun _ => True) ?hr ?hp (fun _ hk => hk) trivial (Below.refl _ _) (Nat.le_refl _) (by simp) ?_; (case hd => rfl); (case hg => rfl); (case hr => first | (go_simp; done) | (go_simp; rfl)); (case hp => exact (Reps.one (show Kd.M (Kd.int .u8) _ _ _ ((a0) % 256) [.int .u8 ((a0) % 256)] from rfl) (Reps.one (show Kd.M (Kd.int .u8) _ _ _ 0 [.int .u8 0] from rfl) (Reps.one (show Kd.M (Kd.int .u8) _ _ _ 99 [.int .u8 99] from rfl) (Reps.one (show Kd.M (Kd.int .u8) _ _ _ 4 [.int .u8 4] from rfl) (Reps.one (show Kd.M (Kd.int .u8) _ _ _ ((wrap64 (x5_2 + 64)) % 256) [.int .u8 ((wrap64 (x5_2 + 64)) % 256)] from rfl) (Reps.one (show Kd.M (Kd.int .u8) _ _ _ ((a1_3) % 256) [.int .u8 ((a1_3) % 256)] from rfl) (Reps.one (show Kd.M (Kd.int .u8) _ _ _ ((wrap64 (Int.tdiv a1_4 256)) % 256) [.int .u8 ((wrap64 (Int.tdiv a1_4 256)) % 256)] from rfl) (Reps.one (show Kd.M (Kd.int .u8) _ _ _ ((Int.tmod a1_4 256) % 256) [.int .u8 ((Int.tmod a1_4 256) % 256)] from rfl) (Reps.none _ _)))))))))); intro v185 w13 ho14 hb hg_ hnew_; clear hg_ hnew_; (first | rw [← Ny184.out] at ho14 | (simp only [Int.reduceToNat] at ho14; rw [← Ny184.out] at ho14)); have n0_ := Aside0.mk (Kd.R_lower ho14 (below_size (by repeat (first | (with_reducible first | exact HB.out | apply below_alloc | apply pw_below_drewN | apply below_drew1 | refine below_set ?_ GE180.out) | exact HB.out)))); have n1_ := Aside0.mk (blk_below (g := gb180) (o := .cells #[.bool a1_0, .bool true, .bool false, .int .i64 a1_3, .int .i64 a1_4] 23 (0, 0)) (by (with_reducible repeat (first | refine blk_drewN ?_ _ | refine blk_drew ?_ | refine blk_alloc ?_ _)); exact BK180.out) hb); have n2_ := Aside0.mk (below_step (by repeat (first | (with_reducible first | exact HB.out | apply below_alloc | apply pw_below_drewN | apply below_drew1 | refine below_set ?_ GE180.out) | exact HB.out)) hb); clear BK180; clear HB; have HO186 := n0_; have BK180 := n1_; have HB := n2_; clear n0_ n1_ n2_; clear hb ho14))
          go_ret
          exact ⟨_, by first | rfl | (simp [errW_none, errW_some] <;> rfl) | (simp [*, errW_none, errW_some] <;> rfl), by (with_reducible repeat (first | apply Kd.R_alloc | apply Kd.R_drewN | apply Kd.R_drew)); exact HO186.out, by repeat (first | (with_reducible first | exact HB.out | apply below_alloc | apply pw_below_drewN | apply below_drew1 | refine below_set ?_ GE180.out) | exact HB.out)⟩
      · replace c7 := Bool.eq_false_iff.mpr c7
        subst c7
        have H1 : (if a1_2 = true then (some (([(a0) % 256, 0, 99, 4, (wrap64 (x5_2 + 32)) % 256, (a1_3) % 256, (wrap64 (Int.tdiv a1_4 256)) % 256, (Int.tmod a1_4 256) % 256] : List Int))) else (some (([(a0) % 256, 0, 99, 4, (x5_2) % 256, (a1_3) % 256, (wrap64 (Int.tdiv a1_4 256)) % 256, (Int.tmod a1_4 256) % 256] : List Int)))) = some r := by rw [if_neg (show ¬ (false = true) by decide)] at H; exact H
        clear H
        have H := H1
        clear H1
        by_cases c15 : a1_2 = true
        · subst c15
          have H1 : (some (([(a0) % 256, 0, 99, 4, (wrap64 (x5_2 + 32)) % 256, (a1_3) % 256, (wrap64 (Int.tdiv a1_4 256)) % 256, (Int.tmod a1_4 256) % 256] : List Int))) = some r := by rw [if_pos rfl] at H; exact H
          clear H
          have H := H1
          clear H1
          obtain ⟨y187, hy187⟩ : ∃ y_ : List Int, y_ = (([(a0) % 256, 0, 99, 4, (wrap64 (x5_2 + 32)) % 256, (a1_3) % 256, (wrap64 (Int.tdiv a1_4 256)) % 256, (Int.tmod a1_4 256) % 256] : List Int)) := ⟨_, rfl⟩
          replace H : (some y187) = some r := by first | (rw [hy187]; with_reducible exact H) | (have H2_ := (Option.bind_some _ _).symm.trans H; rw [hy187]; with_reducible exact H2_) | (have H2_ := (Option.bind_some _ _).symm.trans H; with_reducible exact H2_) | with_reducible exact H | (rw [hy187]; exact H) | exact H
          have Ny187 := Aside0.mk hy187
          clear hy187
          obtain rfl := Option.some.inj H
          have hcz16_0 : wc.cell? ⟨gb180, 0, none⟩ = some (.bool a1_0) := (blk_cell BK180.out 0).trans rfl
          have hcz16_1 : wc.cell? ⟨gb180, 1, none⟩ = some (.bool false) := (blk_cell BK180.out 1).trans rfl
          have hcz16_2 : wc.cell? ⟨gb180, 2, none⟩ = some (.bool true) := (blk_cell BK180.out 2).trans rfl
          have hcz16_3 : wc.cell? ⟨gb180, 3, none⟩ = some (.int .i64 a1_3) := (blk_cell BK180.out 3).trans rfl
          have hcz16_4 : wc.cell? ⟨gb180, 4, none⟩ = some (.int .i64 a1_4) := (blk_cell BK180.out 4).trans rfl
          have hfz16_0 := blk_frozen BK180.out 0
          have hfz16_1 := blk_frozen BK180.out 1
          have hfz16_2 := blk_frozen BK180.out 2
          have hfz16_3 := blk_frozen BK180.out 3
          have hfz16_4 := blk_frozen BK180.out 4
          go_wp2_with (first | ((with_reducible refine gate_dst (N := 33) rfl ?_); refine Kd.R_lit (Kd.int .u8) _ 5 ?hg (N := 33) ?hd (xs := ([(a0) % 256, 0, 99, 4, (wrap64 (x5_2 + 32)) % 256, (a1_3) % 256, (wrap64 (Int.tdiv a1_4 256)) % 256, (Int.tmod a1_4 256) % 256] : List Int)) (inner := [.int .u8 ((a0) % 256), .int .u8 0, .int .u8 99, .int .u8 4, .int .u8 ((wrap64 (x5_2 + 32)) % 256), .int .u8 ((a1_3) % 256), .int .u8 ((wrap64 (Int.tdiv a1_4 256)) % 256), .int .u8 ((Int.tmod a1_4 256) % 256)]) (ok := fun _ => True) (okp := fun _ => True) ?hr ?hp (fun _ hk => hk) trivial (Below.refl _ _) (Nat.le_refl _) (by simp) ?_; (case hd => rfl); (case hg => rfl); (case hr => first | (go_simp; done) | (go_simp; rfl)); (case hp => exact (Reps.one (show Kd.M (Kd.int .u8) _ _ _ ((a0) % 256) [.int .u8 ((a0) % 256)] from rfl) (Reps.one (show Kd.M (Kd.int .u8) _ _ _ 0 [.int .u8 0] from rfl) (Reps.one (show Kd.M (Kd.int .u8) _ _ _ 99 [.int .u8 99] from rfl) (Reps.one (show Kd.M (Kd.int .u8) _ _ _ 4 [.int .u8 4] from rfl) (Reps.one (show Kd.M (Kd.int .u8) _ _ _ ((wrap64 (x5_2 + 32)) % 256) [.int .u8 ((wrap64 (x5_2 + 32)) % 256)] from rfl) (Reps.one (show Kd.M (Kd.int .u8) _ _ _ ((a1_3) % 256) [.int .u8 ((a1_3) % 256)] from rfl) (Reps.one (show Kd.M (Kd.int .u8) _ _ _ ((wrap64 (Int.tdiv a1_4 256)) % 256) [.int .u8 ((wrap64 (Int.tdiv a1_4 256)) % 256)] from rfl) (Reps.one (show Kd.M (Kd.int .u8) _ _ _ ((Int.tmod a1_4 256) % 256) [.int .u8 ((Int.tmod a1_4 256) % 256)] from rfl) (Reps.none _ _)))))))))); intro v188 w17 ho18 hb hg_ hnew_; clear hg_ hnew_; (first | rw [← Ny187.out] at ho18 | (simp only [Int.reduceToNat] at ho18; rw [← Ny187.out] at ho18)); have n0_ := Aside0.mk (Kd.R_lower ho18 (below_size (by repeat (first | (with_reducible first | exact HB.out | apply below_alloc | apply pw_below_drewN | apply below_drew1 | refine below_set ?_ GE180.out) | exact HB.out)))); have n1_ := Aside0.mk (blk_below (g := gb180) (o := .cells #[.bool a1_0, .bool false, .bool true, .int .i64 a1_3, .int .i64 a1_4] 23 (0, 0)) (by (with_reducible repeat (first | refine blk_drewN ?_ _ | refine blk_drew ?_ | refine blk_alloc ?_ _)); exact BK180.out) hb); have n2_ := Aside0.mk (below_step (by repeat (first | (with_reducible first | exact HB.out | apply below_alloc | apply pw_below_drewN | apply below_drew1 | refine below_set ?_ GE180.out) | exact HB.out)) hb); clear BK180; clear HB; have HO189 := n0_; have BK180 := n1_; have HB := n2_; clear n0_ n1_ n2_; clear hb ho18))
          go_ret
          exact ⟨_, by first | rfl | (simp [errW_none, errW_some] <;> rfl) | (simp [*, errW_none, errW_some] <;> rfl), by (with_reducible repeat (first | apply Kd.R_alloc | apply Kd.R_drewN | apply Kd.R_drew)); exact HO189.out, by repeat (first | (with_reducible first | exact HB.out | apply below_alloc | apply pw_below_drewN | apply below_drew1 | refine below_set ?_ GE180.out) | exact HB.out)⟩
        · replace c15 := Bool.eq_false_iff.mpr c15
          subst c15
          have H1 : (some (([(a0) % 256, 0, 99, 4, (x5_2) % 256, (a1_3) % 256, (wrap64 (Int.tdiv a1_4 256)) % 256, (Int.tmod a1_4 256) % 256] : List Int))) = some r := by rw [if_neg (show ¬ (false = true) by decide)] at H; exact H
          clear H
          have H := H1
          clear H1
          obtain ⟨y190, hy190⟩ : ∃ y_ : List Int, y_ = (([(a0) % 256, 0, 99, 4, (x5_2) % 256, (a1_3) % 256, (wrap64 (Int.tdiv a1_4 256)) % 256, (Int.tmod a1_4 256) % 256] : List Int)) := ⟨_, rfl⟩
          replace H : (some y190) = some r := by first | (rw [hy190]; with_reducible exact H) | (have H2_ := (Option.bind_some _ _).symm.trans H; rw [hy190]; with_reducible exact H2_) | (have H2_ := (Option.bind_some _ _).symm.trans H; with_reducible exact H2_) | with_reducible exact H | (rw [hy190]; exact H) | exact H
          have Ny190 := Aside0.mk hy190
          clear hy190
          obtain rfl := Option.some.inj H
          have hcz19_0 : wc.cell? ⟨gb180, 0, none⟩ = some (.bool a1_0) := (blk_cell BK180.out 0).trans rfl
          have hcz19_1 : wc.cell? ⟨gb180, 1, none⟩ = some (.bool false) := (blk_cell BK180.out 1).trans rfl
          have hcz19_2 : wc.cell? ⟨gb180, 2, none⟩ = some (.bool false) := (blk_cell BK180.out 2).trans rfl
          have hcz19_3 : wc.cell? ⟨gb180, 3, none⟩ = some (.int .i64 a1_3) := (blk_cell BK180.out 3).trans rfl
          have hcz19_4 : wc.cell? ⟨gb180, 4, none⟩ = some (.int .i64 a1_4) := (blk_cell BK180.out 4).trans rfl
          have hfz19_0 := blk_frozen BK180.out 0
          have hfz19_1 := blk_frozen BK180.out 1
          have hfz19_2 := blk_frozen BK180.out 2
          have hfz19_3 := blk_frozen BK180.out 3
          have hfz19_4 := blk_frozen BK180.out 4
          go_wp2_with (first | ((with_reducible refine gate_dst (N := 33) rfl ?_); refine Kd.R_lit (Kd.int .u8) _ 5 ?hg (N := 33) ?hd (xs := ([(a0) % 256, 0, 99, 4, (x5_2) % 256, (a1_3) % 256, (wrap64 (Int.tdiv a1_4 256)) % 256, (Int.tmod a1_4 256) % 256] : List Int)) (inner := [.int .u8 ((a0) % 256), .int .u8 0, .int .u8 99, .int .u8 4, .int .u8 ((x5_2) % 256), .int .u8 ((a1_3) % 256), .int .u8 ((wrap64 (Int.tdiv a1_4 256)) % 256), .int .u8 ((Int.tmod a1_4 256) % 256)]) (ok := fun _ => True) (okp := fun _ => True) ?hr ?hp (fun _ hk => hk) trivial (Below.refl _ _) (Nat.le_refl _) (by simp) ?_; (case hd => rfl); (case hg => rfl); (case hr => first | (go_simp; done) | (go_simp; rfl)); (case hp => exact (Reps.one (show Kd.M (Kd.int .u8) _ _ _ ((a0) % 256) [.int .u8 ((a0) % 256)] from rfl) (Reps.one (show Kd.M (Kd.int .u8) _ _ _ 0 [.int .u8 0] from rfl) (Reps.one (show Kd.M (Kd.int .u8) _ _ _ 99 [.int .u8 99] from rfl) (Reps.one (show Kd.M (Kd.int .u8) _ _ _ 4 [.int .u8 4] from rfl) (Reps.one (show Kd.M (Kd.int .u8) _ _ _ ((x5_2) % 256) [.int .u8 ((x5_2) % 256)] from rfl) (Reps.one (show Kd.M (Kd.int .u8) _ _ _ ((a1_3) % 256) [.int .u8 ((a1_3) % 256)] from rfl) (Reps.one (show Kd.M (Kd.int .u8) _ _ _ ((wrap64 (Int.tdiv a1_4 256)) % 256) [.int .u8 ((wrap64 (Int.tdiv a1_4 256)) % 256)] from rfl) (Reps.one (show Kd.M (Kd.int .u8) _ _ _ ((Int.tmod a1_4 256) % 256) [.int .u8 ((Int.tmod a1_4 256) % 256)] from rfl) (Reps.none _ _)))))))))); intro v191 w20 ho21 hb hg_ hnew_; clear hg_ hnew_; (first | rw [← Ny190.out] at ho21 | (simp only [Int.reduceToNat] at ho21; rw [← Ny190.out] at ho21)); have n0_ := Aside0.mk (Kd.R_lower ho21 (below_size (by repeat (first | (with_reducible first | exact HB.out | apply below_alloc | apply pw_below_drewN | apply below_drew1 | refine below_set ?_ GE180.out) | exact HB.out)))); have n1_ := Aside0.mk (blk_below (g := gb180) (o := .cells #[.bool a1_0, .bool false, .bool false, .int .i64 a1_3, .int .i64 a1_4] 23 (0, 0)) (by (with_reducible repeat (first | refine blk_drewN ?_ _ | refine blk_drew ?_ | refine blk_alloc ?_ _)); exact BK180.out) hb); have n2_ := Aside0.mk (below_step (by repeat (first | (with_reducible first | exact HB.out | apply below_alloc | apply pw_below_drewN | apply below_drew1 | refine below_set ?_ GE180.out) | exact HB.out)) hb); clear BK180; clear HB; have HO192 := n0_; have BK180 := n1_; have HB := n2_; clear n0_ n1_ n2_; clear hb ho21))
          go_ret
          exact ⟨_, by first | rfl | (simp [errW_none, errW_some] <;> rfl) | (simp [*, errW_none, errW_some] <;> rfl), by (with_reducible repeat (first | apply Kd.R_alloc | apply Kd.R_drewN | apply Kd.R_drew)); exact HO192.out, by repeat (first | (with_reducible first | exact HB.out | apply below_alloc | apply pw_below_drewN | apply below_drew1 | refine below_set ?_ GE180.out) | exact HB.out)⟩

-- NOT PRINTED: function 3 (rivuletlaw06_HopoptBytes)

end Go.Proofs.Ytpmbibpphomfkaa.PHopoptBytes
