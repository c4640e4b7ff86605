/- Contracts of package hopopt and of the law HopoptOnce, as a program laid them out, the chapter's examples walked by hand. No condition. -/
import Derived.Test.YtanpnhponefbbaaPHopoptOncex0
import Derived.Test.YtanpnhponefbbaaHHopoptOnce1
namespace Go.Proofs.Ytanpnhponefbbaa.PHopoptOnce
open Go.RowKit Go.Proofs.YtanpnhponefbbaaW.PrintWords Go.Proofs.YtanpnhponefbbaaW.PrintLast Go.Proofs.YtanpnhponefbbaaW.PrintMore
attribute [local go_sem] max2_int min2_int max_two min_two max_three min_three max_four min_four   -- for this text's walks alone
set_option linter.unusedVariables false
set_option linter.unusedSimpArgs false

/-! ### rivuletlaw06_HopoptOnce: function 3 -/
mutual
def rivuletlaw06_HopoptOnce.l0 : Nat → List Int → Int → Int → Int → Bool → Bool → Bool → Int → Int → Option (Bool)
  | 0, _, _, _, _, _, _, _, _, _ => none
  | k + 1, x1, x2, x8, x9, x150000, x150001, x150002, x150003, x150004 => if x9 < (x1.length : Int) then (rivuletlaw06_HopoptOnce.j1 k x1 x2 x8 x9 (decide (x9 < 30)) x150000 x150001 x150002 x150003 x150004) else (rivuletlaw06_HopoptOnce.j1 k x1 x2 x8 x9 false x150000 x150001 x150002 x150003 x150004)
def rivuletlaw06_HopoptOnce.j1 : Nat → List Int → Int → Int → Int → Bool → Bool → Bool → Bool → Int → Int → Option (Bool)
  | 0, _, _, _, _, _, _, _, _, _, _ => none
  | k + 1, x1, x2, x8, x9, x35, x150000, x150001, x150002, x150003, x150004 => if x35 = true then (if 0 ≤ x9 then (if x9 < (x1.length : Int) then ((hopopt_Consistent.f k x150000 x150001 x150002 x150003 x150004 (wrap64 (Int.tmod (IntKind.u64.wrap (rd x1 x9)) 65536)) x2).bind fun bt154 => ((hopopt_Hop.f k x150000 x150001 x150002 x150003 x150004 (wrap64 (Int.tmod (IntKind.u64.wrap (rd x1 x9)) 65536)) x2).bind fun bt156 => (if bt154.2 = 0 then (if bt154.1 = true then (rivuletlaw06_HopoptOnce.j2 k x1 x2 x8 x9 (wrap64 (Int.tmod (IntKind.u64.wrap (rd x1 x9)) 65536)) bt154.1 bt156.2.2.2.2.2.1 bt156.2.2.2.2.2.2 x150000 x150001 x150002 x150003 x150004 bt156.1 bt156.2.1 bt156.2.2.1 bt156.2.2.2.1 bt156.2.2.2.2.1) else (rivuletlaw06_HopoptOnce.j2 k x1 x2 (wrap64 (x8 + 1)) x9 (wrap64 (Int.tmod (IntKind.u64.wrap (rd x1 x9)) 65536)) bt154.1 bt156.2.2.2.2.2.1 bt156.2.2.2.2.2.2 x150000 x150001 x150002 x150003 x150004 bt156.1 bt156.2.1 bt156.2.2.1 bt156.2.2.2.1 bt156.2.2.2.2.1)) else (some false)))) else (none)) else (none)) else ((rivuletlaw06_known.f k).bind fun t152 => (some t152))
def rivuletlaw06_HopoptOnce.j2 : Nat → List Int → Int → Int → Int → Int → Bool → Bool → Int → Bool → Bool → Bool → Int → Int → Bool → Bool → Bool → Int → Int → Option (Bool)
  | 0, _, _, _, _, _, _, _, _, _, _, _, _, _, _, _, _, _, _ => none
  | k + 1, x1, x2, x8, x9, x10, x11, x14, x15, x150000, x150001, x150002, x150003, x150004, x164000, x164001, x164002, x164003, x164004 => if x8 > 1 then ((rivuletlaw06_known.f k).bind fun t164 => (if t164 = true then (some (x15 == 11)) else (some false))) else (if x15 = 0 then (if (x14 != x11) = true then (some false) else (if x164004 = x10 then (if (x164001 != (x8 == 1)) = true then (some false) else (if (x164000 != x150000) = true then (some false) else (rivuletlaw06_HopoptOnce.l0 k x1 x2 x8 (wrap64 (x9 + 1)) x164000 x164001 x164002 x164003 x164004))) else (some false))) else (some false))
end
def rivuletlaw06_HopoptOnce.f (k : Nat) (a0_0 : Bool) (a0_1 : Bool) (a0_2 : Bool) (a0_3 : Int) (a0_4 : Int) (l1 : List Int) (a2 : Int) : Option (Bool) := (rivuletlaw06_To.f a0_0 a0_1 a0_2 a0_3 a0_4).bind fun bt144 => ((rivuletref06_Right.f a0_0 a0_1 a0_2 a0_3 a0_4).bind fun t150 => (if t150 = true then (rivuletlaw06_HopoptOnce.l0 k l1 (wrap64 (1 + (wrap64 (Int.tmod (IntKind.u64.wrap (a2)) 65535)))) 0 0 bt144.1 false bt144.2.2.1 bt144.2.2.2.1 bt144.2.2.2.2) else ((rivuletlaw06_known.f k).bind fun t151 => (some t151))))
theorem rivuletlaw06_HopoptOnce.mono_l : ∀ k, (∀ y0 y1 y2 y3 y4 y5 y6 y7 y8, LeO (rivuletlaw06_HopoptOnce.l0 k y0 y1 y2 y3 y4 y5 y6 y7 y8) (rivuletlaw06_HopoptOnce.l0 (k + 1) y0 y1 y2 y3 y4 y5 y6 y7 y8)) ∧ (∀ y0 y1 y2 y3 y4 y5 y6 y7 y8 y9, LeO (rivuletlaw06_HopoptOnce.j1 k y0 y1 y2 y3 y4 y5 y6 y7 y8 y9) (rivuletlaw06_HopoptOnce.j1 (k + 1) y0 y1 y2 y3 y4 y5 y6 y7 y8 y9)) ∧ (∀ y0 y1 y2 y3 y4 y5 y6 y7 y8 y9 y10 y11 y12 y13 y14 y15 y16 y17, LeO (rivuletlaw06_HopoptOnce.j2 k y0 y1 y2 y3 y4 y5 y6 y7 y8 y9 y10 y11 y12 y13 y14 y15 y16 y17) (rivuletlaw06_HopoptOnce.j2 (k + 1) y0 y1 y2 y3 y4 y5 y6 y7 y8 y9 y10 y11 y12 y13 y14 y15 y16 y17))
  | 0 => ⟨fun _ _ _ _ _ _ _ _ _ r h => by simp [rivuletlaw06_HopoptOnce.l0] at h, fun _ _ _ _ _ _ _ _ _ _ r h => by simp [rivuletlaw06_HopoptOnce.j1] at h, fun _ _ _ _ _ _ _ _ _ _ _ _ _ _ _ _ _ _ r h => by simp [rivuletlaw06_HopoptOnce.j2] at h⟩
  | k + 1 => by
    obtain ⟨ih0, ih1, ih2⟩ := rivuletlaw06_HopoptOnce.mono_l k
    refine ⟨?_, ?_, ?_⟩
    · intro y0 y1 y2 y3 y4 y5 y6 y7 y8
      unfold rivuletlaw06_HopoptOnce.l0
      repeat' first
      | (with_reducible exact ih0 _ _ _ _ _ _ _ _ _)
      | (with_reducible exact ih1 _ _ _ _ _ _ _ _ _ _)
      | (with_reducible exact ih2 _ _ _ _ _ _ _ _ _ _ _ _ _ _ _ _ _ _)
      | (with_reducible exact hopopt_Consistent.mono _ _ _ _ _ _ _ _)
      | (with_reducible exact hopopt_Hop.mono _ _ _ _ _ _ _ _)
      | (with_reducible exact rivuletlaw06_known.mono _)
      | (with_reducible exact LeO.refl _)
      | (with_reducible exact LeO.none _)
      | (with_reducible refine LeO.ite ?_ ?_)
      | (with_reducible refine LeO.bind ?_ (fun _ => ?_))
      | exact ih0 _ _ _ _ _ _ _ _ _
      | exact ih1 _ _ _ _ _ _ _ _ _ _
      | exact ih2 _ _ _ _ _ _ _ _ _ _ _ _ _ _ _ _ _ _
      | exact hopopt_Consistent.mono _ _ _ _ _ _ _ _
      | exact hopopt_Hop.mono _ _ _ _ _ _ _ _
      | exact rivuletlaw06_known.mono _
      | exact LeO.none _
      | refine LeO.ite ?_ ?_
      | refine LeO.bind ?_ (fun _ => ?_)
    · intro y0 y1 y2 y3 y4 y5 y6 y7 y8 y9
      unfold rivuletlaw06_HopoptOnce.j1
      repeat' first
      | (with_reducible exact ih0 _ _ _ _ _ _ _ _ _)
      | (with_reducible exact ih1 _ _ _ _ _ _ _ _ _ _)
      | (with_reducible exact ih2 _ _ _ _ _ _ _ _ _ _ _ _ _ _ _ _ _ _)
      | (with_reducible exact hopopt_Consistent.mono _ _ _ _ _ _ _ _)
      | (with_reducible exact hopopt_Hop.mono _ _ _ _ _ _ _ _)
      | (with_reducible exact rivuletlaw06_known.mono _)
      | (with_reducible exact LeO.refl _)
      | (with_reducible exact LeO.none _)
      | (with_reducible refine LeO.ite ?_ ?_)
      | (with_reducible refine LeO.bind ?_ (fun _ => ?_))
      | exact ih0 _ _ _ _ _ _ _ _ _
      | exact ih1 _ _ _ _ _ _ _ _ _ _
      | exact ih2 _ _ _ _ _ _ _ _ _ _ _ _ _ _ _ _ _ _
      | exact hopopt_Consistent.mono _ _ _ _ _ _ _ _
      | exact hopopt_Hop.mono _ _ _ _ _ _ _ _
      | exact rivuletlaw06_known.mono _
      | exact LeO.none _
      | refine LeO.ite ?_ ?_
      | refine LeO.bind ?_ (fun _ => ?_)
    · intro y0 y1 y2 y3 y4 y5 y6 y7 y8 y9 y10 y11 y12 y13 y14 y15 y16 y17
      unfold rivuletlaw06_HopoptOnce.j2
      repeat' first
      | (with_reducible exact ih0 _ _ _ _ _ _ _ _ _)
      | (with_reducible exact ih1 _ _ _ _ _ _ _ _ _ _)
      | (with_reducible exact ih2 _ _ _ _ _ _ _ _ _ _ _ _ _ _ _ _ _ _)
      | (with_reducible exact hopopt_Consistent.mono _ _ _ _ _ _ _ _)
      | (with_reducible exact hopopt_Hop.mono _ _ _ _ _ _ _ _)
      | (with_reducible exact rivuletlaw06_known.mono _)
      | (with_reducible exact LeO.refl _)
      | (with_reducible exact LeO.none _)
      | (with_reducible refine LeO.ite ?_ ?_)
      | (with_reducible refine LeO.bind ?_ (fun _ => ?_))
      | exact ih0 _ _ _ _ _ _ _ _ _
      | exact ih1 _ _ _ _ _ _ _ _ _ _
      | exact ih2 _ _ _ _ _ _ _ _ _ _ _ _ _ _ _ _ _ _
      | exact hopopt_Consistent.mono _ _ _ _ _ _ _ _
      | exact hopopt_Hop.mono _ _ _ _ _ _ _ _
      | exact rivuletlaw06_known.mono _
      | exact LeO.none _
      | refine LeO.ite ?_ ?_
      | refine LeO.bind ?_ (fun _ => ?_)
theorem rivuletlaw06_HopoptOnce.mono : ∀ a0 a1 a2 a3 a4 a5 a6 k, LeO (rivuletlaw06_HopoptOnce.f k a0 a1 a2 a3 a4 a5 a6) (rivuletlaw06_HopoptOnce.f (k + 1) a0 a1 a2 a3 a4 a5 a6) := by
  intro a0 a1 a2 a3 a4 a5 a6 k
  obtain ⟨ih0, ih1, ih2⟩ := rivuletlaw06_HopoptOnce.mono_l k
  unfold rivuletlaw06_HopoptOnce.f
  repeat' first
      | (with_reducible exact ih0 _ _ _ _ _ _ _ _ _)
      | (with_reducible exact ih1 _ _ _ _ _ _ _ _ _ _)
      | (with_reducible exact ih2 _ _ _ _ _ _ _ _ _ _ _ _ _ _ _ _ _ _)
      | (with_reducible exact hopopt_Consistent.mono _ _ _ _ _ _ _ _)
      | (with_reducible exact hopopt_Hop.mono _ _ _ _ _ _ _ _)
      | (with_reducible exact rivuletlaw06_known.mono _)
      | (with_reducible exact LeO.refl _)
      | (with_reducible exact LeO.none _)
      | (with_reducible refine LeO.ite ?_ ?_)
      | (with_reducible refine LeO.bind ?_ (fun _ => ?_))
      | exact ih0 _ _ _ _ _ _ _ _ _
      | exact ih1 _ _ _ _ _ _ _ _ _ _
      | exact ih2 _ _ _ _ _ _ _ _ _ _ _ _ _ _ _ _ _ _
      | exact hopopt_Consistent.mono _ _ _ _ _ _ _ _
      | exact hopopt_Hop.mono _ _ _ _ _ _ _ _
      | exact rivuletlaw06_known.mono _
      | exact LeO.none _
      | refine LeO.ite ?_ ?_
      | refine LeO.bind ?_ (fun _ => ?_)
set_option maxHeartbeats 8000000 in
set_option maxRecDepth 100000 in
theorem rivuletlaw06_HopoptOnce.calls (k : Nat) (a0_0 : Bool) (a0_1 : Bool) (a0_2 : Bool) (a0_3 : Int) (a0_4 : Int) (A1 : Option Addr) (c1 : Nat) (l1 : List Int) (a2 : Int) (r : Bool) (w : World) (hr1 : Kd.C (Kd.int .i64) w A1 l1.length l1) (hc1 : l1.length ≤ c1) (h : rivuletlaw06_HopoptOnce.f k a0_0 a0_1 a0_2 a0_3 a0_4 l1 a2 = some r) :
    Calls Try.prog 3 #[.agg #[.bool a0_0, .bool a0_1, .bool a0_2, .int .i64 a0_3, .int .i64 a0_4], .slice A1 l1.length c1, .int .i64 a2] w fun e w' => e = .returned (.bool r) ∧ Below w.heap.size w w' := by
  have hu23 := Try.underlying23
  have hu25 := Try.underlying25
  have HR1 := Aside0.mk hr1
  have HC1 := Aside0.mk hc1
  clear hr1 hc1
  have HB := Aside0.mk (Below.refl w.heap.size w)
  have H : ((rivuletlaw06_To.f a0_0 a0_1 a0_2 a0_3 a0_4).bind fun bt144 => ((rivuletref06_Right.f a0_0 a0_1 a0_2 a0_3 a0_4).bind fun t150 => (if t150 = true then (rivuletlaw06_HopoptOnce.l0 k l1 (wrap64 (1 + (wrap64 (Int.tmod (IntKind.u64.wrap (a2)) 65535)))) 0 0 bt144.1 false bt144.2.2.1 bt144.2.2.2.1 bt144.2.2.2.2) else ((rivuletlaw06_known.f k).bind fun t151 => (some t151))))) = some r := h
  clear h
  replace H := Option.bind_eq_some_iff.mp H
  obtain ⟨⟨t144, t145, t146, t147, t148⟩, A40, H⟩ := H
  replace H : ((rivuletref06_Right.f a0_0 a0_1 a0_2 a0_3 a0_4).bind fun t150 => (if t150 = true then (rivuletlaw06_HopoptOnce.l0 k l1 (wrap64 (1 + (wrap64 (Int.tmod (IntKind.u64.wrap (a2)) 65535)))) 0 0 t144 false t146 t147 t148) else ((rivuletlaw06_known.f k).bind fun t151 => (some t151)))) = some r := H
  have A4 := Aside0.mk A40
  clear A40
  replace H := Option.bind_eq_some_iff.mp H
  obtain ⟨t150, A50, H⟩ := H
  replace H : (if t150 = true then (rivuletlaw06_HopoptOnce.l0 k l1 (wrap64 (1 + (wrap64 (Int.tmod (IntKind.u64.wrap (a2)) 65535)))) 0 0 t144 false t146 t147 t148) else ((rivuletlaw06_known.f k).bind fun t151 => (some t151))) = some r := H
  have A5 := Aside0.mk A50
  clear A50
  by_cases c6 : t150 = true
  · subst c6
    have H1 : (rivuletlaw06_HopoptOnce.l0 k l1 (wrap64 (1 + (wrap64 (Int.tmod (IntKind.u64.wrap (a2)) 65535)))) 0 0 t144 false t146 t147 t148) = some r := by rw [if_pos rfl] at H; exact H
    clear H
    have H := H1
    clear H1
    have H' := Aside0.mk H
    clear H
    go_enter Try.func3, Try.ntmps3
    go_wp2_with (first | ((with_reducible refine gate_dst (N := 3) rfl ?_); refine box_event ?hg (N := 3) ?hd (cs := #[.bool a0_0, .bool a0_1, .bool a0_2, .int .i64 a0_3, .int .i64 a0_4]) (t := 23) ?hr ?_; (case hd => rfl); (case hg => rfl); (case hr => first | (go_simp; done) | (go_simp; rfl)); intro gb143 hg w7 hbox hb; have n0_ := Aside0.mk (below_step (by repeat (first | (with_reducible first | exact HB.out | apply below_alloc | apply pw_below_drewN | apply below_drew1) | exact HB.out)) hb); have n1_ := Aside0.mk (hbox); have n2_ := Aside0.mk ((by rw [hg]; exact (below_size (by repeat (first | (with_reducible first | exact HB.out | apply below_alloc | apply pw_below_drewN | apply below_drew1) | exact HB.out))) : w.heap.size ≤ gb143)); have n3_ := Aside0.mk ((by rw [hg]; exact (below_size (by repeat (first | (with_reducible first | exact HB.out | apply below_alloc | apply pw_below_drewN | apply below_drew1) | exact HB.out))) : w.heap.size ≤ gb143)); clear HB; have HB := n0_; have BK143 := n1_; have GW143 := n2_; have GE143 := n3_; clear n0_ n1_ n2_ n3_; clear hb hbox hg; have hcz8_0 : w7.cell? ⟨gb143, 0, none⟩ = some (.bool a0_0) := (blk_cell BK143.out 0).trans rfl; have hcz8_1 : w7.cell? ⟨gb143, 1, none⟩ = some (.bool a0_1) := (blk_cell BK143.out 1).trans rfl; have hcz8_2 : w7.cell? ⟨gb143, 2, none⟩ = some (.bool a0_2) := (blk_cell BK143.out 2).trans rfl; have hcz8_3 : w7.cell? ⟨gb143, 3, none⟩ = some (.int .i64 a0_3) := (blk_cell BK143.out 3).trans rfl; have hcz8_4 : w7.cell? ⟨gb143, 4, none⟩ = some (.int .i64 a0_4) := (blk_cell BK143.out 4).trans rfl; have hfz8_0 := blk_frozen BK143.out 0; have hfz8_1 := blk_frozen BK143.out 1; have hfz8_2 := blk_frozen BK143.out 2; have hfz8_3 := blk_frozen BK143.out 3; have hfz8_4 := blk_frozen BK143.out 4) | ((with_reducible refine gate_callee (f := 15) rfl ?_); refine goesL_ (some 17) rfl rfl Try.func15 (by kernel_rfl) rfl #[.agg #[.bool a0_0, .bool a0_1, .bool a0_2, .int .i64 a0_3, .int .i64 a0_4]] rfl (by (try simp only [List.map_toArray, List.map_cons, List.map_nil]); first | done | rfl | (simp only [List.length_drop, List.length_take]; rfl)) ?_; (with_reducible refine (rivuletlaw06_To.calls a0_0 a0_1 a0_2 a0_3 a0_4 t144 t145 t146 t147 t148 _ A4.out).mono ?_); rintro e w9 ⟨rfl, hb⟩; refine ⟨_, rfl, ?_⟩; have n0_ := Aside0.mk (blk_below (g := gb143) (o := .cells #[.bool a0_0, .bool a0_1, .bool a0_2, .int .i64 a0_3, .int .i64 a0_4] 23 (0, 0)) (by (with_reducible repeat (first | refine blk_drewN ?_ _ | refine blk_drew ?_ | refine blk_alloc ?_ _)); exact BK143.out) hb); have n1_ := Aside0.mk (below_step (by repeat (first | (with_reducible first | exact HB.out | apply below_alloc | apply pw_below_drewN | apply below_drew1 | refine below_set ?_ GE143.out) | exact HB.out)) hb); clear BK143; clear HB; have BK143 := n0_; have HB := n1_; clear n0_ n1_; (try clear hb); (try clear hb2); (try clear hk); (try clear hi)) | ((with_reducible refine gate_dst (N := 7) rfl ?_); refine box_event ?hg (N := 7) ?hd (cs := #[.bool false, .bool false, .bool false, .int .i64 0, .int .i64 0]) (t := 25) ?hr ?_; (case hd => rfl); (case hg => rfl); (case hr => first | (go_simp; done) | (go_simp; rfl)); intro gb149 hg w10 hbox hb; have n0_ := Aside0.mk (blk_below (g := gb143) (o := .cells #[.bool a0_0, .bool a0_1, .bool a0_2, .int .i64 a0_3, .int .i64 a0_4] 23 (0, 0)) (by (with_reducible repeat (first | refine blk_drewN ?_ _ | refine blk_drew ?_ | refine blk_alloc ?_ _)); exact BK143.out) hb); have n1_ := Aside0.mk (below_step (by repeat (first | (with_reducible first | exact HB.out | apply below_alloc | apply pw_below_drewN | apply below_drew1 | refine below_set ?_ GE143.out) | exact HB.out)) hb); have n2_ := Aside0.mk (hbox); have n3_ := Aside0.mk ((by rw [hg]; exact (below_size (by repeat (first | (with_reducible first | exact HB.out | apply below_alloc | apply pw_below_drewN | apply below_drew1 | refine below_set ?_ GE143.out) | exact HB.out))) : w.heap.size ≤ gb149)); have n4_ := Aside0.mk ((by rw [hg]; exact (below_size (by repeat (first | (with_reducible first | exact HB.out | apply below_alloc | apply pw_below_drewN | apply below_drew1 | refine below_set ?_ GE143.out) | exact HB.out))) : w.heap.size ≤ gb149)); have n5_ := Aside0.mk ((by rw [hg]; exact Nat.ne_of_lt (blk_lt (g := gb143) (o := .cells #[.bool a0_0, .bool a0_1, .bool a0_2, .int .i64 a0_3, .int .i64 a0_4] 23 (0, 0)) (by (with_reducible repeat (first | refine blk_drewN ?_ _ | refine blk_drew ?_ | refine blk_alloc ?_ _)); exact BK143.out)) : gb143 ≠ gb149)); have n6_ := Aside0.mk ((by rw [hg]; exact Nat.ne_of_gt (blk_lt (g := gb143) (o := .cells #[.bool a0_0, .bool a0_1, .bool a0_2, .int .i64 a0_3, .int .i64 a0_4] 23 (0, 0)) (by (with_reducible repeat (first | refine blk_drewN ?_ _ | refine blk_drew ?_ | refine blk_alloc ?_ _)); exact BK143.out)) : gb149 ≠ gb143)); clear BK143; clear HB; have BK143 := n0_; have HB := n1_; have BK149 := n2_; have GW149 := n3_; have GE149 := n4_; have NB143_149 := n5_; have NB149_143 := n6_; clear n0_ n1_ n2_ n3_ n4_ n5_ n6_; clear hb hbox hg; have hnb11 := NB149_143.out; have hnc11 := NB143_149.out; have hcz12_0 : w10.cell? ⟨gb149, 0, none⟩ = some (.bool false) := (blk_cell BK149.out 0).trans rfl; have hcz12_1 : w10.cell? ⟨gb149, 1, none⟩ = some (.bool false) := (blk_cell BK149.out 1).trans rfl; have hcz12_2 : w10.cell? ⟨gb149, 2, none⟩ = some (.bool false) := (blk_cell BK149.out 2).trans rfl; have hcz12_3 : w10.cell? ⟨gb149, 3, none⟩ = some (.int .i64 0) := (blk_cell BK149.out 3).trans rfl; have hcz12_4 : w10.cell? ⟨gb149, 4, none⟩ = some (.int .i64 0) := (blk_cell BK149.out 4).trans rfl; have hfz12_0 := blk_frozen BK149.out 0; have hfz12_1 := blk_frozen BK149.out 1; have hfz12_2 := blk_frozen BK149.out 2; have hfz12_3 := blk_frozen BK149.out 3; have hfz12_4 := blk_frozen BK149.out 4; have hcz13_0 : w10.cell? ⟨gb143, 0, none⟩ = some (.bool a0_0) := (blk_cell BK143.out 0).trans rfl; have hcz13_1 : w10.cell? ⟨gb143, 1, none⟩ = some (.bool a0_1) := (blk_cell BK143.out 1).trans rfl; have hcz13_2 : w10.cell? ⟨gb143, 2, none⟩ = some (.bool a0_2) := (blk_cell BK143.out 2).trans rfl; have hcz13_3 : w10.cell? ⟨gb143, 3, none⟩ = some (.int .i64 a0_3) := (blk_cell BK143.out 3).trans rfl; have hcz13_4 : w10.cell? ⟨gb143, 4, none⟩ = some (.int .i64 a0_4) := (blk_cell BK143.out 4).trans rfl; have hfz13_0 := blk_frozen BK143.out 0; have hfz13_1 := blk_frozen BK143.out 1; have hfz13_2 := blk_frozen BK143.out 2; have hfz13_3 := blk_frozen BK143.out 3; have hfz13_4 := blk_frozen BK143.out 4) | ((with_reducible refine gate_callee (f := 16) rfl ?_); refine goesL_ (some 24) rfl rfl Try.func16 (by kernel_rfl) rfl #[.agg #[.bool a0_0, .bool a0_1, .bool a0_2, .int .i64 a0_3, .int .i64 a0_4]] rfl (by (try simp only [List.map_toArray, List.map_cons, List.map_nil]); first | done | rfl | (simp only [List.length_drop, List.length_take]; rfl)) ?_; (with_reducible refine (rivuletref06_Right.calls a0_0 a0_1 a0_2 a0_3 a0_4 true _ A5.out).mono ?_); rintro e w14 ⟨rfl, hb⟩; refine ⟨_, rfl, ?_⟩; have n0_ := Aside0.mk (blk_below (g := gb143) (o := .cells #[.bool a0_0, .bool a0_1, .bool a0_2, .int .i64 a0_3, .int .i64 a0_4] 23 (0, 0)) (by (with_reducible repeat (first | refine blk_drewN ?_ _ | refine blk_drew ?_ | refine blk_alloc ?_ _)); refine blk_far ?_ NB143_149.out _; (with_reducible repeat (first | refine blk_drewN ?_ _ | refine blk_drew ?_ | refine blk_alloc ?_ _)); refine blk_far ?_ NB143_149.out _; (with_reducible repeat (first | refine blk_drewN ?_ _ | refine blk_drew ?_ | refine blk_alloc ?_ _)); refine blk_far ?_ NB143_149.out _; (with_reducible repeat (first | refine blk_drewN ?_ _ | refine blk_drew ?_ | refine blk_alloc ?_ _)); refine blk_far ?_ NB143_149.out _; (with_reducible repeat (first | refine blk_drewN ?_ _ | refine blk_drew ?_ | refine blk_alloc ?_ _)); refine blk_far ?_ NB143_149.out _; (with_reducible repeat (first | refine blk_drewN ?_ _ | refine blk_drew ?_ | refine blk_alloc ?_ _)); exact BK143.out) hb); have n1_ := Aside0.mk (blk_below (g := gb149) (o := .cells #[.bool t144, .bool t145, .bool t146, .int .i64 t147, .int .i64 t148] 25 (0, 0)) (by (with_reducible repeat (first | refine blk_drewN ?_ _ | refine blk_drew ?_ | refine blk_alloc ?_ _)); refine blk_put (cs := #[.bool t144, .bool t145, .bool t146, .int .i64 t147, .int .i64 0]) ?_ 4 _ rfl; (with_reducible repeat (first | refine blk_drewN ?_ _ | refine blk_drew ?_ | refine blk_alloc ?_ _)); refine blk_put (cs := #[.bool t144, .bool t145, .bool t146, .int .i64 0, .int .i64 0]) ?_ 3 _ rfl; (with_reducible repeat (first | refine blk_drewN ?_ _ | refine blk_drew ?_ | refine blk_alloc ?_ _)); refine blk_put (cs := #[.bool t144, .bool t145, .bool false, .int .i64 0, .int .i64 0]) ?_ 2 _ rfl; (with_reducible repeat (first | refine blk_drewN ?_ _ | refine blk_drew ?_ | refine blk_alloc ?_ _)); refine blk_put (cs := #[.bool t144, .bool false, .bool false, .int .i64 0, .int .i64 0]) ?_ 1 _ rfl; (with_reducible repeat (first | refine blk_drewN ?_ _ | refine blk_drew ?_ | refine blk_alloc ?_ _)); refine blk_put (cs := #[.bool false, .bool false, .bool false, .int .i64 0, .int .i64 0]) ?_ 0 _ rfl; (with_reducible repeat (first | refine blk_drewN ?_ _ | refine blk_drew ?_ | refine blk_alloc ?_ _)); exact BK149.out) hb); have n2_ := Aside0.mk (below_step (by repeat (first | (with_reducible first | exact HB.out | apply below_alloc | apply pw_below_drewN | apply below_drew1 | refine below_set ?_ GE143.out | refine below_set ?_ GE149.out) | exact HB.out)) hb); clear BK143; clear BK149; clear HB; have BK143 := n0_; have BK149 := n1_; have HB := n2_; clear n0_ n1_ n2_; (try clear hb); (try clear hb2); (try clear hk); (try clear hi); have hcz15_0 : w14.cell? ⟨gb149, 0, none⟩ = some (.bool t144) := (blk_cell BK149.out 0).trans rfl; have hcz15_1 : w14.cell? ⟨gb149, 1, none⟩ = some (.bool t145) := (blk_cell BK149.out 1).trans rfl; have hcz15_2 : w14.cell? ⟨gb149, 2, none⟩ = some (.bool t146) := (blk_cell BK149.out 2).trans rfl; have hcz15_3 : w14.cell? ⟨gb149, 3, none⟩ = some (.int .i64 t147) := (blk_cell BK149.out 3).trans rfl; have hcz15_4 : w14.cell? ⟨gb149, 4, none⟩ = some (.int .i64 t148) := (blk_cell BK149.out 4).trans rfl; have hfz15_0 := blk_frozen BK149.out 0; have hfz15_1 := blk_frozen BK149.out 1; have hfz15_2 := blk_frozen BK149.out 2; have hfz15_3 := blk_frozen BK149.out 3; have hfz15_4 := blk_frozen BK149.out 4))
    go_loopg [8, 9] k (fun kq v8 v9 w' => ∃ (x8_1 : Int) (x9_1 : Int) (x150000_1 : Bool) (x150001_1 : Bool) (x150002_1 : Bool) (x150003_1 : Int) (x150004_1 : Int), v8 = .int .i64 x8_1 ∧ v9 = .int .i64 x9_1 ∧ Aside0 (rivuletlaw06_HopoptOnce.l0 kq l1 (wrap64 (1 + (wrap64 (Int.tmod (IntKind.u64.wrap (a2)) 65535)))) x8_1 x9_1 x150000_1 x150001_1 x150002_1 x150003_1 x150004_1 = some r) ∧ Aside0 (kq ≤ k) ∧ Aside0 (w'.heap[gb143]? = some (.cells #[.bool a0_0, .bool a0_1, .bool a0_2, .int .i64 a0_3, .int .i64 a0_4] 23 (0, 0))) ∧ Aside0 (w'.heap[gb149]? = some (.cells #[.bool x150000_1, .bool x150001_1, .bool x150002_1, .int .i64 x150003_1, .int .i64 x150004_1] 25 (0, 0))) ∧ Aside0 (Below w.heap.size w w'))
    case atStart => exact ⟨(0), (0), (t144), (false), (t146), (t147), (t148), (by first | rfl | (simp; done) | (simp [*]; done)), (by first | rfl | (simp; done) | (simp [*]; done)), H', ⟨Nat.le_refl _⟩, ⟨by (with_reducible repeat (first | refine blk_drewN ?_ _ | refine blk_drew ?_ | refine blk_alloc ?_ _)); refine blk_far ?_ NB143_149.out _; (with_reducible repeat (first | refine blk_drewN ?_ _ | refine blk_drew ?_ | refine blk_alloc ?_ _)); exact BK143.out⟩, ⟨by (with_reducible repeat (first | refine blk_drewN ?_ _ | refine blk_drew ?_ | refine blk_alloc ?_ _)); refine blk_put (cs := #[.bool t144, .bool t145, .bool t146, .int .i64 t147, .int .i64 t148]) ?_ 1 _ rfl; (with_reducible repeat (first | refine blk_drewN ?_ _ | refine blk_drew ?_ | refine blk_alloc ?_ _)); exact BK149.out⟩, ⟨by repeat (first | (with_reducible first | exact HB.out | apply below_alloc | apply pw_below_drewN | apply below_drew1 | refine below_set ?_ GE143.out | refine below_set ?_ GE149.out) | exact HB.out)⟩⟩
    case round =>
      clear H'
      try clear c1
      try clear p2
      try clear c3
      try clear c6
      try clear p6
      try clear c11
      try clear c15
      try clear hcz12_0
      try clear hcz12_1
      try clear hcz12_2
      try clear hcz12_3
      try clear hcz12_4
      try clear hcz13_0
      try clear hcz13_1
      try clear hcz13_2
      try clear hcz13_3
      try clear hcz13_4
      try clear hcz15_0
      try clear hcz15_1
      try clear hcz15_2
      try clear hcz15_3
      try clear hcz15_4
      try clear hcz8_0
      try clear hcz8_1
      try clear hcz8_2
      try clear hcz8_3
      try clear hcz8_4
      try clear hfz12_0
      try clear hfz12_1
      try clear hfz12_2
      try clear hfz12_3
      try clear hfz12_4
      try clear hfz13_0
      try clear hfz13_1
      try clear hfz13_2
      try clear hfz13_3
      try clear hfz13_4
      try clear hfz15_0
      try clear hfz15_1
      try clear hfz15_2
      try clear hfz15_3
      try clear hfz15_4
      try clear hfz8_0
      try clear hfz8_1
      try clear hfz8_2
      try clear hfz8_3
      try clear hfz8_4
      obtain ⟨x8_1, x9_1, x150000_1, x150001_1, x150002_1, x150003_1, x150004_1, rfl, rfl, HA, HK1, BK143, BK149, HB⟩ := hrel
      cases gk with
      | zero => exact absurd HA.out (by simp [rivuletlaw06_HopoptOnce.l0])
      | succ k1 =>
        have H := HA.out
        clear HA
        simp only [rivuletlaw06_HopoptOnce.l0] at H
        have HC16 := Aside0.mk H
        clear H
        go_upto_region 8 with (fail)
        go_cut [35] (fun v35 wc => ∃ (kq : Nat) (x35_15 : Bool), v35 = .bool x35_15 ∧ Aside0 (rivuletlaw06_HopoptOnce.j1 kq l1 (wrap64 (1 + (wrap64 (Int.tmod (IntKind.u64.wrap (a2)) 65535)))) x8_1 x9_1 x35_15 x150000_1 x150001_1 x150002_1 x150003_1 x150004_1 = some r) ∧ Aside0 (kq ≤ k1) ∧ Aside0 (wc.heap[gb143]? = some (.cells #[.bool a0_0, .bool a0_1, .bool a0_2, .int .i64 a0_3, .int .i64 a0_4] 23 (0, 0))) ∧ Aside0 (wc.heap[gb149]? = some (.cells #[.bool x150000_1, .bool x150001_1, .bool x150002_1, .int .i64 x150003_1, .int .i64 x150004_1] 25 (0, 0))) ∧ Aside0 (Below w.heap.size w wc))
        case first =>
          have H := HC16.out
          clear HC16
          by_cases c17 : x9_1 < (l1.length : Int)
          · rw [if_pos c17] at H
            have c17b0 : decide (x9_1 < (l1.length : Int)) = true := decide_eq_true c17
            clear c17
            (first | rw [c17b0] | (simp only [i64_w, i32_w]; rw [c17b0]) | skip)
            have H' := Aside0.mk H
            clear H
            go_wp2
            go_meet
            case rel => exact ⟨_, (decide (x9_1 < 30)), (by first | rfl | (simp; done) | (simp [*]; done)), H', ⟨by have := HK1.out; first | omega | exact Nat.le_refl _⟩, ⟨by (with_reducible repeat (first | refine blk_drewN ?_ _ | refine blk_drew ?_ | refine blk_alloc ?_ _)); exact BK143.out⟩, ⟨by (with_reducible repeat (first | refine blk_drewN ?_ _ | refine blk_drew ?_ | refine blk_alloc ?_ _)); exact BK149.out⟩, ⟨by repeat (first | (with_reducible first | exact HB.out | apply below_alloc | apply pw_below_drewN | apply below_drew1 | refine below_set ?_ GE143.out | refine below_set ?_ GE149.out) | exact HB.out)⟩⟩
          · rw [if_neg c17] at H
            have c17b0 : decide (x9_1 < (l1.length : Int)) = false := decide_eq_false c17
            clear c17
            (first | rw [c17b0] | (simp only [i64_w, i32_w]; rw [c17b0]) | skip)
            have H' := Aside0.mk H
            clear H
            go_wp2
            go_meet
            case rel => exact ⟨_, (false), (by first | rfl | (simp; done) | (simp [*]; done)), H', ⟨by have := HK1.out; first | omega | exact Nat.le_refl _⟩, ⟨by (with_reducible repeat (first | refine blk_drewN ?_ _ | refine blk_drew ?_ | refine blk_alloc ?_ _)); exact BK143.out⟩, ⟨by (with_reducible repeat (first | refine blk_drewN ?_ _ | refine blk_drew ?_ | refine blk_alloc ?_ _)); exact BK149.out⟩, ⟨by repeat (first | (with_reducible first | exact HB.out | apply below_alloc | apply pw_below_drewN | apply below_drew1 | refine below_set ?_ GE143.out | refine below_set ?_ GE149.out) | exact HB.out)⟩⟩
        case rest =>
          clear HC16
          try clear c1
          try clear p2
          try clear c3
          try clear c6
          try clear p6
          try clear c11
          try clear c15
          try clear c16
          try clear c17
          try clear c17b0
          try clear hcz12_0
          try clear hcz12_1
          try clear hcz12_2
          try clear hcz12_3
          try clear hcz12_4
          try clear hcz13_0
          try clear hcz13_1
          try clear hcz13_2
          try clear hcz13_3
          try clear hcz13_4
          try clear hcz15_0
          try clear hcz15_1
          try clear hcz15_2
          try clear hcz15_3
          try clear hcz15_4
          try clear hcz8_0
          try clear hcz8_1
          try clear hcz8_2
          try clear hcz8_3
          try clear hcz8_4
          try clear hfz12_0
          try clear hfz12_1
          try clear hfz12_2
          try clear hfz12_3
          try clear hfz12_4
          try clear hfz13_0
          try clear hfz13_1
          try clear hfz13_2
          try clear hfz13_3
          try clear hfz13_4
          try clear hfz15_0
          try clear hfz15_1
          try clear hfz15_2
          try clear hfz15_3
          try clear hfz15_4
          try clear hfz8_0
          try clear hfz8_1
          try clear hfz8_2
          try clear hfz8_3
          try clear hfz8_4
          try clear p2
          try clear p6
          obtain ⟨kq, x35_15, rfl, HA, HJ15, BK143, BK149, HB⟩ := hcut
          cases kq with
          | zero => exact absurd HA.out (by simp [rivuletlaw06_HopoptOnce.j1])
          | succ kj15 =>
            have H := HA.out
            clear HA
            simp only [rivuletlaw06_HopoptOnce.j1] at H
            by_cases c18 : x35_15 = true
            · subst c18
              have H1 : (if 0 ≤ x9_1 then (if x9_1 < (l1.length : Int) then ((hopopt_Consistent.f kj15 x150000_1 x150001_1 x150002_1 x150003_1 x150004_1 (wrap64 (Int.tmod (IntKind.u64.wrap (rd l1 x9_1)) 65536)) (wrap64 (1 + (wrap64 (Int.tmod (IntKind.u64.wrap (a2)) 65535))))).bind fun bt154 => ((hopopt_Hop.f kj15 x150000_1 x150001_1 x150002_1 x150003_1 x150004_1 (wrap64 (Int.tmod (IntKind.u64.wrap (rd l1 x9_1)) 65536)) (wrap64 (1 + (wrap64 (Int.tmod (IntKind.u64.wrap (a2)) 65535))))).bind fun bt156 => (if bt154.2 = 0 then (if bt154.1 = true then (rivuletlaw06_HopoptOnce.j2 kj15 l1 (wrap64 (1 + (wrap64 (Int.tmod (IntKind.u64.wrap (a2)) 65535)))) x8_1 x9_1 (wrap64 (Int.tmod (IntKind.u64.wrap (rd l1 x9_1)) 65536)) bt154.1 bt156.2.2.2.2.2.1 bt156.2.2.2.2.2.2 x150000_1 x150001_1 x150002_1 x150003_1 x150004_1 bt156.1 bt156.2.1 bt156.2.2.1 bt156.2.2.2.1 bt156.2.2.2.2.1) else (rivuletlaw06_HopoptOnce.j2 kj15 l1 (wrap64 (1 + (wrap64 (Int.tmod (IntKind.u64.wrap (a2)) 65535)))) (wrap64 (x8_1 + 1)) x9_1 (wrap64 (Int.tmod (IntKind.u64.wrap (rd l1 x9_1)) 65536)) bt154.1 bt156.2.2.2.2.2.1 bt156.2.2.2.2.2.2 x150000_1 x150001_1 x150002_1 x150003_1 x150004_1 bt156.1 bt156.2.1 bt156.2.2.1 bt156.2.2.2.1 bt156.2.2.2.2.1)) else (some false)))) else (none)) else (none)) = some r := by rw [if_pos rfl] at H; exact H
              clear H
              have H := H1
              clear H1
              by_cases c19 : 0 ≤ x9_1
              · rw [if_pos c19] at H
                have c19b0 : decide (0 ≤ x9_1) = true := decide_eq_true c19
                clear c19
                by_cases c20 : x9_1 < (l1.length : Int)
                · rw [if_pos c20] at H
                  have c20b0 : decide (x9_1 < (l1.length : Int)) = true := decide_eq_true c20
                  clear c20
                  replace H := Option.bind_eq_some_iff.mp H
                  obtain ⟨⟨t154, t155⟩, A210, H⟩ := H
                  replace H : ((hopopt_Hop.f kj15 x150000_1 x150001_1 x150002_1 x150003_1 x150004_1 (wrap64 (Int.tmod (IntKind.u64.wrap (rd l1 x9_1)) 65536)) (wrap64 (1 + (wrap64 (Int.tmod (IntKind.u64.wrap (a2)) 65535))))).bind fun bt156 => (if t155 = 0 then (if t154 = true then (rivuletlaw06_HopoptOnce.j2 kj15 l1 (wrap64 (1 + (wrap64 (Int.tmod (IntKind.u64.wrap (a2)) 65535)))) x8_1 x9_1 (wrap64 (Int.tmod (IntKind.u64.wrap (rd l1 x9_1)) 65536)) t154 bt156.2.2.2.2.2.1 bt156.2.2.2.2.2.2 x150000_1 x150001_1 x150002_1 x150003_1 x150004_1 bt156.1 bt156.2.1 bt156.2.2.1 bt156.2.2.2.1 bt156.2.2.2.2.1) else (rivuletlaw06_HopoptOnce.j2 kj15 l1 (wrap64 (1 + (wrap64 (Int.tmod (IntKind.u64.wrap (a2)) 65535)))) (wrap64 (x8_1 + 1)) x9_1 (wrap64 (Int.tmod (IntKind.u64.wrap (rd l1 x9_1)) 65536)) t154 bt156.2.2.2.2.2.1 bt156.2.2.2.2.2.2 x150000_1 x150001_1 x150002_1 x150003_1 x150004_1 bt156.1 bt156.2.1 bt156.2.2.1 bt156.2.2.2.1 bt156.2.2.2.2.1)) else (some false))) = some r := H
                  have A21 := Aside0.mk A210
                  clear A210
                  replace H := Option.bind_eq_some_iff.mp H
                  obtain ⟨⟨t156, t157, t158, t159, t160, t161, t162⟩, A220, H⟩ := H
                  replace H : (if t155 = 0 then (if t154 = true then (rivuletlaw06_HopoptOnce.j2 kj15 l1 (wrap64 (1 + (wrap64 (Int.tmod (IntKind.u64.wrap (a2)) 65535)))) x8_1 x9_1 (wrap64 (Int.tmod (IntKind.u64.wrap (rd l1 x9_1)) 65536)) t154 t161 t162 x150000_1 x150001_1 x150002_1 x150003_1 x150004_1 t156 t157 t158 t159 t160) else (rivuletlaw06_HopoptOnce.j2 kj15 l1 (wrap64 (1 + (wrap64 (Int.tmod (IntKind.u64.wrap (a2)) 65535)))) (wrap64 (x8_1 + 1)) x9_1 (wrap64 (Int.tmod (IntKind.u64.wrap (rd l1 x9_1)) 65536)) t154 t161 t162 x150000_1 x150001_1 x150002_1 x150003_1 x150004_1 t156 t157 t158 t159 t160)) else (some false)) = some r := H
                  have A22 := Aside0.mk A220
                  clear A220
                  by_cases c23 : t155 = 0
                  · rw [if_pos c23] at H
                    have c23b0 : (t155 == 0) = true := beq_iff_eq.mpr c23
                    have c23b1 : (t155 != 0) = false := bne_eq_false_iff_eq.mpr c23
                    clear c23
                    have HC24 := Aside0.mk H
                    clear H
                    have p153 : 0 ≤ (x9_1 : Int) := of_decide_eq_true (by first | (with_reducible assumption) | assumption)
                    have q153 : x9_1 < (l1.length : Int) := of_decide_eq_true (by first | (with_reducible assumption) | assumption)
                    obtain ⟨ad153, e153, hx153_0⟩ := Kd.at_int HR1.out x9_1 p153 q153
                    cases e153
                    replace hx153_0 := (HB.out.cell (World.block_lt_of_cell? w _ hx153_0)).trans hx153_0
                    replace p153 := eq_true p153
                    replace q153 := eq_true q153
                    have hnb25 := NB149_143.out
                    have hnc25 := NB143_149.out
                    have hcz26_0 : wc.cell? ⟨gb149, 0, none⟩ = some (.bool x150000_1) := (blk_cell BK149.out 0).trans rfl
                    have hcz26_1 : wc.cell? ⟨gb149, 1, none⟩ = some (.bool x150001_1) := (blk_cell BK149.out 1).trans rfl
                    have hcz26_2 : wc.cell? ⟨gb149, 2, none⟩ = some (.bool x150002_1) := (blk_cell BK149.out 2).trans rfl
                    have hcz26_3 : wc.cell? ⟨gb149, 3, none⟩ = some (.int .i64 x150003_1) := (blk_cell BK149.out 3).trans rfl
                    have hcz26_4 : wc.cell? ⟨gb149, 4, none⟩ = some (.int .i64 x150004_1) := (blk_cell BK149.out 4).trans rfl
                    have hfz26_0 := blk_frozen BK149.out 0
                    have hfz26_1 := blk_frozen BK149.out 1
                    have hfz26_2 := blk_frozen BK149.out 2
                    have hfz26_3 := blk_frozen BK149.out 3
                    have hfz26_4 := blk_frozen BK149.out 4
                    go_upto_if 63 with (first | ((with_reducible refine gate_callee (f := 18) rfl ?_); refine goesL_ (some 49) rfl rfl Try.func18 (by kernel_rfl) rfl #[.agg #[.bool x150000_1, .bool x150001_1, .bool x150002_1, .int .i64 x150003_1, .int .i64 x150004_1], .int .i64 (wrap64 (Int.tmod (IntKind.u64.wrap (rd l1 x9_1)) 65536)), .int .i64 (wrap64 (1 + (wrap64 (Int.tmod (IntKind.u64.wrap (a2)) 65535))))] rfl (by (try simp only [List.map_toArray, List.map_cons, List.map_nil]); first | done | rfl | (simp only [List.length_drop, List.length_take]; rfl)) ?_; (with_reducible refine (hopopt_Consistent.calls kj15 x150000_1 x150001_1 x150002_1 x150003_1 x150004_1 (wrap64 (Int.tmod (IntKind.u64.wrap (rd l1 x9_1)) 65536)) (wrap64 (1 + (wrap64 (Int.tmod (IntKind.u64.wrap (a2)) 65535)))) t154 t155 _ A21.out).mono ?_); rintro e w27 ⟨rfl, hb⟩; refine ⟨_, rfl, ?_⟩; have n0_ := Aside0.mk (blk_below (g := gb143) (o := .cells #[.bool a0_0, .bool a0_1, .bool a0_2, .int .i64 a0_3, .int .i64 a0_4] 23 (0, 0)) (by (with_reducible repeat (first | refine blk_drewN ?_ _ | refine blk_drew ?_ | refine blk_alloc ?_ _)); exact BK143.out) hb); have n1_ := Aside0.mk (blk_below (g := gb149) (o := .cells #[.bool x150000_1, .bool x150001_1, .bool x150002_1, .int .i64 x150003_1, .int .i64 x150004_1] 25 (0, 0)) (by (with_reducible repeat (first | refine blk_drewN ?_ _ | refine blk_drew ?_ | refine blk_alloc ?_ _)); exact BK149.out) hb); have n2_ := Aside0.mk (below_step (by repeat (first | (with_reducible first | exact HB.out | apply below_alloc | apply pw_below_drewN | apply below_drew1 | refine below_set ?_ GE143.out | refine below_set ?_ GE149.out) | exact HB.out)) hb); clear BK143; clear BK149; clear HB; have BK143 := n0_; have BK149 := n1_; have HB := n2_; clear n0_ n1_ n2_; (try clear hb); (try clear hb2); (try clear hk); (try clear hi); have hcz28_0 : w27.cell? ⟨gb149, 0, none⟩ = some (.bool x150000_1) := (blk_cell BK149.out 0).trans rfl; have hcz28_1 : w27.cell? ⟨gb149, 1, none⟩ = some (.bool x150001_1) := (blk_cell BK149.out 1).trans rfl; have hcz28_2 : w27.cell? ⟨gb149, 2, none⟩ = some (.bool x150002_1) := (blk_cell BK149.out 2).trans rfl; have hcz28_3 : w27.cell? ⟨gb149, 3, none⟩ = some (.int .i64 x150003_1) := (blk_cell BK149.out 3).trans rfl; have hcz28_4 : w27.cell? ⟨gb149, 4, none⟩ = some (.int .i64 x150004_1) := (blk_cell BK149.out 4).trans rfl; have hfz28_0 := blk_frozen BK149.out 0; have hfz28_1 := blk_frozen BK149.out 1; have hfz28_2 := blk_frozen BK149.out 2; have hfz28_3 := blk_frozen BK149.out 3; have hfz28_4 := blk_frozen BK149.out 4) | ((with_reducible refine gate_callee (f := 19) rfl ?_); refine goesL_ (some 56) rfl rfl Try.func19 (by kernel_rfl) rfl #[.agg #[.bool x150000_1, .bool x150001_1, .bool x150002_1, .int .i64 x150003_1, .int .i64 x150004_1], .int .i64 (wrap64 (Int.tmod (IntKind.u64.wrap (rd l1 x9_1)) 65536)), .int .i64 (wrap64 (1 + (wrap64 (Int.tmod (IntKind.u64.wrap (a2)) 65535))))] rfl (by (try simp only [List.map_toArray, List.map_cons, List.map_nil]); first | done | rfl | (simp only [List.length_drop, List.length_take]; rfl)) ?_; (with_reducible refine (hopopt_Hop.calls kj15 x150000_1 x150001_1 x150002_1 x150003_1 x150004_1 (wrap64 (Int.tmod (IntKind.u64.wrap (rd l1 x9_1)) 65536)) (wrap64 (1 + (wrap64 (Int.tmod (IntKind.u64.wrap (a2)) 65535)))) t156 t157 t158 t159 t160 t161 t162 _ A22.out).mono ?_); rintro e w29 ⟨rfl, hb⟩; refine ⟨_, rfl, ?_⟩; have n0_ := Aside0.mk (blk_below (g := gb143) (o := .cells #[.bool a0_0, .bool a0_1, .bool a0_2, .int .i64 a0_3, .int .i64 a0_4] 23 (0, 0)) (by (with_reducible repeat (first | refine blk_drewN ?_ _ | refine blk_drew ?_ | refine blk_alloc ?_ _)); exact BK143.out) hb); have n1_ := Aside0.mk (blk_below (g := gb149) (o := .cells #[.bool x150000_1, .bool x150001_1, .bool x150002_1, .int .i64 x150003_1, .int .i64 x150004_1] 25 (0, 0)) (by (with_reducible repeat (first | refine blk_drewN ?_ _ | refine blk_drew ?_ | refine blk_alloc ?_ _)); exact BK149.out) hb); have n2_ := Aside0.mk (below_step (by repeat (first | (with_reducible first | exact HB.out | apply below_alloc | apply pw_below_drewN | apply below_drew1 | refine below_set ?_ GE143.out | refine below_set ?_ GE149.out) | exact HB.out)) hb); clear BK143; clear BK149; clear HB; have BK143 := n0_; have BK149 := n1_; have HB := n2_; clear n0_ n1_ n2_; (try clear hb); (try clear hb2); (try clear hk); (try clear hi)) | ((with_reducible refine gate_dst (N := 13) rfl ?_); refine box_event ?hg (N := 13) ?hd (cs := #[.bool false, .bool false, .bool false, .int .i64 0, .int .i64 0]) (t := 25) ?hr ?_; (case hd => rfl); (case hg => rfl); (case hr => first | (go_simp; done) | (go_simp; rfl)); intro gb163 hg w30 hbox hb; have n0_ := Aside0.mk (blk_below (g := gb143) (o := .cells #[.bool a0_0, .bool a0_1, .bool a0_2, .int .i64 a0_3, .int .i64 a0_4] 23 (0, 0)) (by (with_reducible repeat (first | refine blk_drewN ?_ _ | refine blk_drew ?_ | refine blk_alloc ?_ _)); exact BK143.out) hb); have n1_ := Aside0.mk (blk_below (g := gb149) (o := .cells #[.bool x150000_1, .bool x150001_1, .bool x150002_1, .int .i64 x150003_1, .int .i64 x150004_1] 25 (0, 0)) (by (with_reducible repeat (first | refine blk_drewN ?_ _ | refine blk_drew ?_ | refine blk_alloc ?_ _)); exact BK149.out) hb); have n2_ := Aside0.mk (below_step (by repeat (first | (with_reducible first | exact HB.out | apply below_alloc | apply pw_below_drewN | apply below_drew1 | refine below_set ?_ GE143.out | refine below_set ?_ GE149.out) | exact HB.out)) hb); have n3_ := Aside0.mk (hbox); have n4_ := Aside0.mk ((by rw [hg]; exact (below_size (by repeat (first | (with_reducible first | exact HB.out | apply below_alloc | apply pw_below_drewN | apply below_drew1 | refine below_set ?_ GE143.out | refine below_set ?_ GE149.out) | exact HB.out))) : w.heap.size ≤ gb163)); have n5_ := Aside0.mk ((by rw [hg]; exact (below_size (by repeat (first | (with_reducible first | exact HB.out | apply below_alloc | apply pw_below_drewN | apply below_drew1 | refine below_set ?_ GE143.out | refine below_set ?_ GE149.out) | exact HB.out))) : w.heap.size ≤ gb163)); have n6_ := Aside0.mk ((by rw [hg]; exact Nat.ne_of_lt (blk_lt (g := gb143) (o := .cells #[.bool a0_0, .bool a0_1, .bool a0_2, .int .i64 a0_3, .int .i64 a0_4] 23 (0, 0)) (by (with_reducible repeat (first | refine blk_drewN ?_ _ | refine blk_drew ?_ | refine blk_alloc ?_ _)); exact BK143.out)) : gb143 ≠ gb163)); have n7_ := Aside0.mk ((by rw [hg]; exact Nat.ne_of_gt (blk_lt (g := gb143) (o := .cells #[.bool a0_0, .bool a0_1, .bool a0_2, .int .i64 a0_3, .int .i64 a0_4] 23 (0, 0)) (by (with_reducible repeat (first | refine blk_drewN ?_ _ | refine blk_drew ?_ | refine blk_alloc ?_ _)); exact BK143.out)) : gb163 ≠ gb143)); have n8_ := Aside0.mk ((by rw [hg]; exact Nat.ne_of_lt (blk_lt (g := gb149) (o := .cells #[.bool x150000_1, .bool x150001_1, .bool x150002_1, .int .i64 x150003_1, .int .i64 x150004_1] 25 (0, 0)) (by (with_reducible repeat (first | refine blk_drewN ?_ _ | refine blk_drew ?_ | refine blk_alloc ?_ _)); exact BK149.out)) : gb149 ≠ gb163)); have n9_ := Aside0.mk ((by rw [hg]; exact Nat.ne_of_gt (blk_lt (g := gb149) (o := .cells #[.bool x150000_1, .bool x150001_1, .bool x150002_1, .int .i64 x150003_1, .int .i64 x150004_1] 25 (0, 0)) (by (with_reducible repeat (first | refine blk_drewN ?_ _ | refine blk_drew ?_ | refine blk_alloc ?_ _)); exact BK149.out)) : gb163 ≠ gb149)); clear BK143; clear BK149; clear HB; have BK143 := n0_; have BK149 := n1_; have HB := n2_; have BK163 := n3_; have GW163 := n4_; have GE163 := n5_; have NB143_163 := n6_; have NB163_143 := n7_; have NB149_163 := n8_; have NB163_149 := n9_; clear n0_ n1_ n2_ n3_ n4_ n5_ n6_ n7_ n8_ n9_; clear hb hbox hg; have hnb31 := NB163_143.out; have hnc31 := NB143_163.out; have hnb32 := NB163_149.out; have hnc32 := NB149_163.out; have hcz33_0 : w30.cell? ⟨gb163, 0, none⟩ = some (.bool false) := (blk_cell BK163.out 0).trans rfl; have hcz33_1 : w30.cell? ⟨gb163, 1, none⟩ = some (.bool false) := (blk_cell BK163.out 1).trans rfl; have hcz33_2 : w30.cell? ⟨gb163, 2, none⟩ = some (.bool false) := (blk_cell BK163.out 2).trans rfl; have hcz33_3 : w30.cell? ⟨gb163, 3, none⟩ = some (.int .i64 0) := (blk_cell BK163.out 3).trans rfl; have hcz33_4 : w30.cell? ⟨gb163, 4, none⟩ = some (.int .i64 0) := (blk_cell BK163.out 4).trans rfl; have hfz33_0 := blk_frozen BK163.out 0; have hfz33_1 := blk_frozen BK163.out 1; have hfz33_2 := blk_frozen BK163.out 2; have hfz33_3 := blk_frozen BK163.out 3; have hfz33_4 := blk_frozen BK163.out 4))
                    (try simp only [Act.put, List.setIfInBounds_toArray, List.set_cons_zero, List.set_cons_succ])
                    go_cut [8] (fun v8 wc => ∃ (kq : Nat) (x8_23 : Int), v8 = .int .i64 x8_23 ∧ Aside0 (rivuletlaw06_HopoptOnce.j2 kq l1 (wrap64 (1 + (wrap64 (Int.tmod (IntKind.u64.wrap (a2)) 65535)))) x8_23 x9_1 (wrap64 (Int.tmod (IntKind.u64.wrap (rd l1 x9_1)) 65536)) t154 t161 t162 x150000_1 x150001_1 x150002_1 x150003_1 x150004_1 t156 t157 t158 t159 t160 = some r) ∧ Aside0 (kq ≤ kj15) ∧ Aside0 (wc.heap[gb143]? = some (.cells #[.bool a0_0, .bool a0_1, .bool a0_2, .int .i64 a0_3, .int .i64 a0_4] 23 (0, 0))) ∧ Aside0 (wc.heap[gb149]? = some (.cells #[.bool x150000_1, .bool x150001_1, .bool x150002_1, .int .i64 x150003_1, .int .i64 x150004_1] 25 (0, 0))) ∧ Aside0 (wc.heap[gb163]? = some (.cells #[.bool t156, .bool t157, .bool t158, .int .i64 t159, .int .i64 t160] 25 (0, 0))) ∧ Aside0 (Below w.heap.size w wc))
                    case first =>
                      have H := HC24.out
                      clear HC24
                      by_cases c34 : t154 = true
                      · subst c34
                        have H1 : (rivuletlaw06_HopoptOnce.j2 kj15 l1 (wrap64 (1 + (wrap64 (Int.tmod (IntKind.u64.wrap (a2)) 65535)))) x8_1 x9_1 (wrap64 (Int.tmod (IntKind.u64.wrap (rd l1 x9_1)) 65536)) true t161 t162 x150000_1 x150001_1 x150002_1 x150003_1 x150004_1 t156 t157 t158 t159 t160) = some r := by rw [if_pos rfl] at H; exact H
                        clear H
                        have H := H1
                        clear H1
                        have H' := Aside0.mk H
                        clear H
                        go_wp2
                        go_meet
                        case rel => exact ⟨_, (x8_1), (by first | rfl | (simp; done) | (simp [*]; done)), H', ⟨by have := HK1.out; have := HJ15.out; first | omega | exact Nat.le_refl _⟩, ⟨by (with_reducible repeat (first | refine blk_drewN ?_ _ | refine blk_drew ?_ | refine blk_alloc ?_ _)); refine blk_far ?_ NB143_163.out _; (with_reducible repeat (first | refine blk_drewN ?_ _ | refine blk_drew ?_ | refine blk_alloc ?_ _)); refine blk_far ?_ NB143_163.out _; (with_reducible repeat (first | refine blk_drewN ?_ _ | refine blk_drew ?_ | refine blk_alloc ?_ _)); refine blk_far ?_ NB143_163.out _; (with_reducible repeat (first | refine blk_drewN ?_ _ | refine blk_drew ?_ | refine blk_alloc ?_ _)); refine blk_far ?_ NB143_163.out _; (with_reducible repeat (first | refine blk_drewN ?_ _ | refine blk_drew ?_ | refine blk_alloc ?_ _)); refine blk_far ?_ NB143_163.out _; (with_reducible repeat (first | refine blk_drewN ?_ _ | refine blk_drew ?_ | refine blk_alloc ?_ _)); exact BK143.out⟩, ⟨by (with_reducible repeat (first | refine blk_drewN ?_ _ | refine blk_drew ?_ | refine blk_alloc ?_ _)); refine blk_far ?_ NB149_163.out _; (with_reducible repeat (first | refine blk_drewN ?_ _ | refine blk_drew ?_ | refine blk_alloc ?_ _)); refine blk_far ?_ NB149_163.out _; (with_reducible repeat (first | refine blk_drewN ?_ _ | refine blk_drew ?_ | refine blk_alloc ?_ _)); refine blk_far ?_ NB149_163.out _; (with_reducible repeat (first | refine blk_drewN ?_ _ | refine blk_drew ?_ | refine blk_alloc ?_ _)); refine blk_far ?_ NB149_163.out _; (with_reducible repeat (first | refine blk_drewN ?_ _ | refine blk_drew ?_ | refine blk_alloc ?_ _)); refine blk_far ?_ NB149_163.out _; (with_reducible repeat (first | refine blk_drewN ?_ _ | refine blk_drew ?_ | refine blk_alloc ?_ _)); exact BK149.out⟩, ⟨by (with_reducible repeat (first | refine blk_drewN ?_ _ | refine blk_drew ?_ | refine blk_alloc ?_ _)); refine blk_put (cs := #[.bool t156, .bool t157, .bool t158, .int .i64 t159, .int .i64 0]) ?_ 4 _ rfl; (with_reducible repeat (first | refine blk_drewN ?_ _ | refine blk_drew ?_ | refine blk_alloc ?_ _)); refine blk_put (cs := #[.bool t156, .bool t157, .bool t158, .int .i64 0, .int .i64 0]) ?_ 3 _ rfl; (with_reducible repeat (first | refine blk_drewN ?_ _ | refine blk_drew ?_ | refine blk_alloc ?_ _)); refine blk_put (cs := #[.bool t156, .bool t157, .bool false, .int .i64 0, .int .i64 0]) ?_ 2 _ rfl; (with_reducible repeat (first | refine blk_drewN ?_ _ | refine blk_drew ?_ | refine blk_alloc ?_ _)); refine blk_put (cs := #[.bool t156, .bool false, .bool false, .int .i64 0, .int .i64 0]) ?_ 1 _ rfl; (with_reducible repeat (first | refine blk_drewN ?_ _ | refine blk_drew ?_ | refine blk_alloc ?_ _)); refine blk_put (cs := #[.bool false, .bool false, .bool false, .int .i64 0, .int .i64 0]) ?_ 0 _ rfl; (with_reducible repeat (first | refine blk_drewN ?_ _ | refine blk_drew ?_ | refine blk_alloc ?_ _)); exact BK163.out⟩, ⟨by repeat (first | (with_reducible first | exact HB.out | apply below_alloc | apply pw_below_drewN | apply below_drew1 | refine below_set ?_ GE143.out | refine below_set ?_ GE149.out | refine below_set ?_ GE163.out) | exact HB.out)⟩⟩
                      · replace c34 := Bool.eq_false_iff.mpr c34
                        subst c34
                        have H1 : (rivuletlaw06_HopoptOnce.j2 kj15 l1 (wrap64 (1 + (wrap64 (Int.tmod (IntKind.u64.wrap (a2)) 65535)))) (wrap64 (x8_1 + 1)) x9_1 (wrap64 (Int.tmod (IntKind.u64.wrap (rd l1 x9_1)) 65536)) false t161 t162 x150000_1 x150001_1 x150002_1 x150003_1 x150004_1 t156 t157 t158 t159 t160) = some r := by rw [if_neg (show ¬ (false = true) by decide)] at H; exact H
                        clear H
                        have H := H1
                        clear H1
                        have H' := Aside0.mk H
                        clear H
                        go_wp2
                        go_meet
                        case rel => exact ⟨_, (wrap64 (x8_1 + 1)), (by first | rfl | (simp; done) | (simp [*]; done)), H', ⟨by have := HK1.out; have := HJ15.out; first | omega | exact Nat.le_refl _⟩, ⟨by (with_reducible repeat (first | refine blk_drewN ?_ _ | refine blk_drew ?_ | refine blk_alloc ?_ _)); refine blk_far ?_ NB143_163.out _; (with_reducible repeat (first | refine blk_drewN ?_ _ | refine blk_drew ?_ | refine blk_alloc ?_ _)); refine blk_far ?_ NB143_163.out _; (with_reducible repeat (first | refine blk_drewN ?_ _ | refine blk_drew ?_ | refine blk_alloc ?_ _)); refine blk_far ?_ NB143_163.out _; (with_reducible repeat (first | refine blk_drewN ?_ _ | refine blk_drew ?_ | refine blk_alloc ?_ _)); refine blk_far ?_ NB143_163.out _; (with_reducible repeat (first | refine blk_drewN ?_ _ | refine blk_drew ?_ | refine blk_alloc ?_ _)); refine blk_far ?_ NB143_163.out _; (with_reducible repeat (first | refine blk_drewN ?_ _ | refine blk_drew ?_ | refine blk_alloc ?_ _)); exact BK143.out⟩, ⟨by (with_reducible repeat (first | refine blk_drewN ?_ _ | refine blk_drew ?_ | refine blk_alloc ?_ _)); refine blk_far ?_ NB149_163.out _; (with_reducible repeat (first | refine blk_drewN ?_ _ | refine blk_drew ?_ | refine blk_alloc ?_ _)); refine blk_far ?_ NB149_163.out _; (with_reducible repeat (first | refine blk_drewN ?_ _ | refine blk_drew ?_ | refine blk_alloc ?_ _)); refine blk_far ?_ NB149_163.out _; (with_reducible repeat (first | refine blk_drewN ?_ _ | refine blk_drew ?_ | refine blk_alloc ?_ _)); refine blk_far ?_ NB149_163.out _; (with_reducible repeat (first | refine blk_drewN ?_ _ | refine blk_drew ?_ | refine blk_alloc ?_ _)); refine blk_far ?_ NB149_163.out _; (with_reducible repeat (first | refine blk_drewN ?_ _ | refine blk_drew ?_ | refine blk_alloc ?_ _)); exact BK149.out⟩, ⟨by (with_reducible repeat (first | refine blk_drewN ?_ _ | refine blk_drew ?_ | refine blk_alloc ?_ _)); refine blk_put (cs := #[.bool t156, .bool t157, .bool t158, .int .i64 t159, .int .i64 0]) ?_ 4 _ rfl; (with_reducible repeat (first | refine blk_drewN ?_ _ | refine blk_drew ?_ | refine blk_alloc ?_ _)); refine blk_put (cs := #[.bool t156, .bool t157, .bool t158, .int .i64 0, .int .i64 0]) ?_ 3 _ rfl; (with_reducible repeat (first | refine blk_drewN ?_ _ | refine blk_drew ?_ | refine blk_alloc ?_ _)); refine blk_put (cs := #[.bool t156, .bool t157, .bool false, .int .i64 0, .int .i64 0]) ?_ 2 _ rfl; (with_reducible repeat (first | refine blk_drewN ?_ _ | refine blk_drew ?_ | refine blk_alloc ?_ _)); refine blk_put (cs := #[.bool t156, .bool false, .bool false, .int .i64 0, .int .i64 0]) ?_ 1 _ rfl; (with_reducible repeat (first | refine blk_drewN ?_ _ | refine blk_drew ?_ | refine blk_alloc ?_ _)); refine blk_put (cs := #[.bool false, .bool false, .bool false, .int .i64 0, .int .i64 0]) ?_ 0 _ rfl; (with_reducible repeat (first | refine blk_drewN ?_ _ | refine blk_drew ?_ | refine blk_alloc ?_ _)); exact BK163.out⟩, ⟨by repeat (first | (with_reducible first | exact HB.out | apply below_alloc | apply pw_below_drewN | apply below_drew1 | refine below_set ?_ GE143.out | refine below_set ?_ GE149.out | refine below_set ?_ GE163.out) | exact HB.out)⟩⟩
                    case rest =>
                      clear HC24
                      try clear c1
                      try clear p1
                      try clear q1
                      try clear hx1
                      try clear c2
                      try clear p2
                      try clear c3
                      try clear c6
                      try clear p6
                      try clear c11
                      try clear c15
                      try clear p15
                      try clear q15
                      try clear hx15
                      try clear c16
                      try clear c17
                      try clear c17b0
                      try clear c18
                      try clear c19
                      try clear c19b0
                      try clear c20
                      try clear c20b0
                      try clear c23
                      try clear c23b0
                      try clear c23b1
                      try clear c25
                      try clear c31
                      try clear c32
                      try clear c34
                      try clear hcz12_0
                      try clear hcz12_1
                      try clear hcz12_2
                      try clear hcz12_3
                      try clear hcz12_4
                      try clear hcz13_0
                      try clear hcz13_1
                      try clear hcz13_2
                      try clear hcz13_3
                      try clear hcz13_4
                      try clear hcz15_0
                      try clear hcz15_1
                      try clear hcz15_2
                      try clear hcz15_3
                      try clear hcz15_4
                      try clear hcz26_0
                      try clear hcz26_1
                      try clear hcz26_2
                      try clear hcz26_3
                      try clear hcz26_4
                      try clear hcz28_0
                      try clear hcz28_1
                      try clear hcz28_2
                      try clear hcz28_3
                      try clear hcz28_4
                      try clear hcz33_0
                      try clear hcz33_1
                      try clear hcz33_2
                      try clear hcz33_3
                      try clear hcz33_4
                      try clear hcz8_0
                      try clear hcz8_1
                      try clear hcz8_2
                      try clear hcz8_3
                      try clear hcz8_4
                      try clear hfz12_0
                      try clear hfz12_1
                      try clear hfz12_2
                      try clear hfz12_3
                      try clear hfz12_4
                      try clear hfz13_0
                      try clear hfz13_1
                      try clear hfz13_2
                      try clear hfz13_3
                      try clear hfz13_4
                      try clear hfz15_0
                      try clear hfz15_1
                      try clear hfz15_2
                      try clear hfz15_3
                      try clear hfz15_4
                      try clear hfz26_0
                      try clear hfz26_1
                      try clear hfz26_2
                      try clear hfz26_3
                      try clear hfz26_4
                      try clear hfz28_0
                      try clear hfz28_1
                      try clear hfz28_2
                      try clear hfz28_3
                      try clear hfz28_4
                      try clear hfz33_0
                      try clear hfz33_1
                      try clear hfz33_2
                      try clear hfz33_3
                      try clear hfz33_4
                      try clear hfz8_0
                      try clear hfz8_1
                      try clear hfz8_2
                      try clear hfz8_3
                      try clear hfz8_4
                      try clear hx153_0
                      try clear p153
                      try clear p2
                      try clear p6
                      try clear q153
                      obtain ⟨kq, x8_23, rfl, HA, HJ23, BK143, BK149, BK163, HB⟩ := hcut
                      cases kq with
                      | zero => exact absurd HA.out (by simp [rivuletlaw06_HopoptOnce.j2])
                      | succ kj23 =>
                        have H := HA.out
                        clear HA
                        simp only [rivuletlaw06_HopoptOnce.j2] at H
                        by_cases c35 : x8_23 > 1
                        · rw [if_pos c35] at H
                          have c35b0 : decide (1 < x8_23) = true := decide_eq_true c35
                          clear c35
                          replace H := Option.bind_eq_some_iff.mp H
                          obtain ⟨t164, A360, H⟩ := H
                          replace H : (if t164 = true then (some (t162 == 11)) else (some false)) = some r := H
                          have A36 := Aside0.mk A360
                          clear A360
                          by_cases c37 : t164 = true
                          · subst c37
                            have H1 : (some (t162 == 11)) = some r := by rw [if_pos rfl] at H; exact H
                            clear H
                            have H := H1
                            clear H1
                            obtain rfl := Option.some.inj H
                            go_wp2_with (first | ((with_reducible refine gate_callee (f := 17) rfl ?_); refine goesL_ (some 68) rfl rfl Try.func17 (by kernel_rfl) rfl #[] rfl (by (try simp only [List.map_toArray, List.map_cons, List.map_nil]); first | done | rfl | (simp only [List.length_drop, List.length_take]; rfl)) ?_; (with_reducible refine (rivuletlaw06_known.calls kj23  true _ A36.out).mono ?_); rintro e w38 ⟨rfl, hb⟩; refine ⟨_, rfl, ?_⟩; have n0_ := Aside0.mk (blk_below (g := gb143) (o := .cells #[.bool a0_0, .bool a0_1, .bool a0_2, .int .i64 a0_3, .int .i64 a0_4] 23 (0, 0)) (by (with_reducible repeat (first | refine blk_drewN ?_ _ | refine blk_drew ?_ | refine blk_alloc ?_ _)); exact BK143.out) hb); have n1_ := Aside0.mk (blk_below (g := gb149) (o := .cells #[.bool x150000_1, .bool x150001_1, .bool x150002_1, .int .i64 x150003_1, .int .i64 x150004_1] 25 (0, 0)) (by (with_reducible repeat (first | refine blk_drewN ?_ _ | refine blk_drew ?_ | refine blk_alloc ?_ _)); exact BK149.out) hb); have n2_ := Aside0.mk (blk_below (g := gb163) (o := .cells #[.bool t156, .bool t157, .bool t158, .int .i64 t159, .int .i64 t160] 25 (0, 0)) (by (with_reducible repeat (first | refine blk_drewN ?_ _ | refine blk_drew ?_ | refine blk_alloc ?_ _)); exact BK163.out) hb); have n3_ := Aside0.mk (below_step (by repeat (first | (with_reducible first | exact HB.out | apply below_alloc | apply pw_below_drewN | apply below_drew1 | refine below_set ?_ GE143.out | refine below_set ?_ GE149.out | refine below_set ?_ GE163.out) | exact HB.out)) hb); clear BK143; clear BK149; clear BK163; clear HB; have BK143 := n0_; have BK149 := n1_; have BK163 := n2_; have HB := n3_; clear n0_ n1_ n2_ n3_; (try clear hb); (try clear hb2); (try clear hk); (try clear hi)))
                            go_ret
                            exact ⟨by first | rfl | (simp [errW_none, errW_some] <;> rfl) | (simp [*, errW_none, errW_some] <;> rfl), by repeat (first | (with_reducible first | exact HB.out | apply below_alloc | apply pw_below_drewN | apply below_drew1 | refine below_set ?_ GE143.out | refine below_set ?_ GE149.out | refine below_set ?_ GE163.out) | exact HB.out)⟩
                          · replace c37 := Bool.eq_false_iff.mpr c37
                            subst c37
                            have H1 : (some false) = some r := by rw [if_neg (show ¬ (false = true) by decide)] at H; exact H
                            clear H
                            have H := H1
                            clear H1
                            obtain rfl := Option.some.inj H
                            go_wp2_with (first | ((with_reducible refine gate_callee (f := 17) rfl ?_); refine goesL_ (some 68) rfl rfl Try.func17 (by kernel_rfl) rfl #[] rfl (by (try simp only [List.map_toArray, List.map_cons, List.map_nil]); first | done | rfl | (simp only [List.length_drop, List.length_take]; rfl)) ?_; (with_reducible refine (rivuletlaw06_known.calls kj23  false _ A36.out).mono ?_); rintro e w39 ⟨rfl, hb⟩; refine ⟨_, rfl, ?_⟩; have n0_ := Aside0.mk (blk_below (g := gb143) (o := .cells #[.bool a0_0, .bool a0_1, .bool a0_2, .int .i64 a0_3, .int .i64 a0_4] 23 (0, 0)) (by (with_reducible repeat (first | refine blk_drewN ?_ _ | refine blk_drew ?_ | refine blk_alloc ?_ _)); exact BK143.out) hb); have n1_ := Aside0.mk (blk_below (g := gb149) (o := .cells #[.bool x150000_1, .bool x150001_1, .bool x150002_1, .int .i64 x150003_1, .int .i64 x150004_1] 25 (0, 0)) (by (with_reducible repeat (first | refine blk_drewN ?_ _ | refine blk_drew ?_ | refine blk_alloc ?_ _)); exact BK149.out) hb); have n2_ := Aside0.mk (blk_below (g := gb163) (o := .cells #[.bool t156, .bool t157, .bool t158, .int .i64 t159, .int .i64 t160] 25 (0, 0)) (by (with_reducible repeat (first | refine blk_drewN ?_ _ | refine blk_drew ?_ | refine blk_alloc ?_ _)); exact BK163.out) hb); have n3_ := Aside0.mk (below_step (by repeat (first | (with_reducible first | exact HB.out | apply below_alloc | apply pw_below_drewN | apply below_drew1 | refine below_set ?_ GE143.out | refine below_set ?_ GE149.out | refine below_set ?_ GE163.out) | exact HB.out)) hb); clear BK143; clear BK149; clear BK163; clear HB; have BK143 := n0_; have BK149 := n1_; have BK163 := n2_; have HB := n3_; clear n0_ n1_ n2_ n3_; (try clear hb); (try clear hb2); (try clear hk); (try clear hi)))
                            go_ret
                            exact ⟨by first | rfl | (simp [errW_none, errW_some] <;> rfl) | (simp [*, errW_none, errW_some] <;> rfl), by repeat (first | (with_reducible first | exact HB.out | apply below_alloc | apply pw_below_drewN | apply below_drew1 | refine below_set ?_ GE143.out | refine below_set ?_ GE149.out | refine below_set ?_ GE163.out) | exact HB.out)⟩
                        · rw [if_neg c35] at H
                          have c35b0 : decide (1 < x8_23) = false := decide_eq_false c35
                          clear c35
                          by_cases c40 : t162 = 0
                          · rw [if_pos c40] at H
                            have c40b0 : (t162 == 0) = true := beq_iff_eq.mpr c40
                            have c40b1 : (t162 != 0) = false := bne_eq_false_iff_eq.mpr c40
                            clear c40
                            by_cases c41 : (t161 != t154) = true
                            · rw [if_pos c41] at H
                              have c41b0 : (t161 != t154) = true := c41
                              (try (have c41b1 : decide (t161 = t154) = false := by simpa using c41))
                              (try (have c41b2 : (t161 == t154) = false := by simpa using c41))
                              (try (have c41b3 : ¬ (t161 = t154) := by simpa using c41))
                              clear c41
                              obtain rfl := Option.some.inj H
                              go_wp2
                              go_ret
                              exact ⟨by first | rfl | (simp [errW_none, errW_some] <;> rfl) | (simp [*, errW_none, errW_some] <;> rfl), by repeat (first | (with_reducible first | exact HB.out | apply below_alloc | apply pw_below_drewN | apply below_drew1 | refine below_set ?_ GE143.out | refine below_set ?_ GE149.out | refine below_set ?_ GE163.out) | exact HB.out)⟩
                            · rw [if_neg c41] at H
                              have c41b0 : (t161 != t154) = false := by simpa using c41
                              (try (have c41b1 : decide (t161 = t154) = true := by simpa using c41))
                              (try (have c41b2 : (t161 == t154) = true := by simpa using c41))
                              clear c41
                              by_cases c42 : t160 = (wrap64 (Int.tmod (IntKind.u64.wrap (rd l1 x9_1)) 65536))
                              · rw [if_pos c42] at H
                                have c42b0 : (t160 == (wrap64 (Int.tmod (IntKind.u64.wrap (rd l1 x9_1)) 65536))) = true := beq_iff_eq.mpr c42
                                have c42b1 : (t160 != (wrap64 (Int.tmod (IntKind.u64.wrap (rd l1 x9_1)) 65536))) = false := bne_eq_false_iff_eq.mpr c42
                                clear c42
                                by_cases c43 : (t157 != (x8_23 == 1)) = true
                                · rw [if_pos c43] at H
                                  have c43b0 : (t157 != (x8_23 == 1)) = true := c43
                                  (try (have c43b1 : decide (t157 = (x8_23 == 1)) = false := by simpa using c43))
                                  (try (have c43b2 : (t157 == (x8_23 == 1)) = false := by simpa using c43))
                                  (try (have c43b3 : ¬ (t157 = (x8_23 == 1)) := by simpa using c43))
                                  clear c43
                                  obtain rfl := Option.some.inj H
                                  have hnb44 := NB163_143.out
                                  have hnc44 := NB143_163.out
                                  have hnb45 := NB163_149.out
                                  have hnc45 := NB149_163.out
                                  have hcz46_0 : wc.cell? ⟨gb163, 0, none⟩ = some (.bool t156) := (blk_cell BK163.out 0).trans rfl
                                  have hcz46_1 : wc.cell? ⟨gb163, 1, none⟩ = some (.bool t157) := (blk_cell BK163.out 1).trans rfl
                                  have hcz46_2 : wc.cell? ⟨gb163, 2, none⟩ = some (.bool t158) := (blk_cell BK163.out 2).trans rfl
                                  have hcz46_3 : wc.cell? ⟨gb163, 3, none⟩ = some (.int .i64 t159) := (blk_cell BK163.out 3).trans rfl
                                  have hcz46_4 : wc.cell? ⟨gb163, 4, none⟩ = some (.int .i64 t160) := (blk_cell BK163.out 4).trans rfl
                                  have hfz46_0 := blk_frozen BK163.out 0
                                  have hfz46_1 := blk_frozen BK163.out 1
                                  have hfz46_2 := blk_frozen BK163.out 2
                                  have hfz46_3 := blk_frozen BK163.out 3
                                  have hfz46_4 := blk_frozen BK163.out 4
                                  go_wp2
                                  go_ret
                                  exact ⟨by first | rfl | (simp [errW_none, errW_some] <;> rfl) | (simp [*, errW_none, errW_some] <;> rfl), by repeat (first | (with_reducible first | exact HB.out | apply below_alloc | apply pw_below_drewN | apply below_drew1 | refine below_set ?_ GE143.out | refine below_set ?_ GE149.out | refine below_set ?_ GE163.out) | exact HB.out)⟩
                                · rw [if_neg c43] at H
                                  have c43b0 : (t157 != (x8_23 == 1)) = false := by simpa using c43
                                  (try (have c43b1 : decide (t157 = (x8_23 == 1)) = true := by simpa using c43))
                                  (try (have c43b2 : (t157 == (x8_23 == 1)) = true := by simpa using c43))
                                  clear c43
                                  by_cases c47 : (t156 != x150000_1) = true
                                  · rw [if_pos c47] at H
                                    have c47b0 : (t156 != x150000_1) = true := c47
                                    (try (have c47b1 : decide (t156 = x150000_1) = false := by simpa using c47))
                                    (try (have c47b2 : (t156 == x150000_1) = false := by simpa using c47))
                                    (try (have c47b3 : ¬ (t156 = x150000_1) := by simpa using c47))
                                    clear c47
                                    obtain rfl := Option.some.inj H
                                    have hnb48 := NB163_143.out
                                    have hnc48 := NB143_163.out
                                    have hnb49 := NB163_149.out
                                    have hnc49 := NB149_163.out
                                    have hcz50_0 : wc.cell? ⟨gb163, 0, none⟩ = some (.bool t156) := (blk_cell BK163.out 0).trans rfl
                                    have hcz50_1 : wc.cell? ⟨gb163, 1, none⟩ = some (.bool t157) := (blk_cell BK163.out 1).trans rfl
                                    have hcz50_2 : wc.cell? ⟨gb163, 2, none⟩ = some (.bool t158) := (blk_cell BK163.out 2).trans rfl
                                    have hcz50_3 : wc.cell? ⟨gb163, 3, none⟩ = some (.int .i64 t159) := (blk_cell BK163.out 3).trans rfl
                                    have hcz50_4 : wc.cell? ⟨gb163, 4, none⟩ = some (.int .i64 t160) := (blk_cell BK163.out 4).trans rfl
                                    have hfz50_0 := blk_frozen BK163.out 0
                                    have hfz50_1 := blk_frozen BK163.out 1
                                    have hfz50_2 := blk_frozen BK163.out 2
                                    have hfz50_3 := blk_frozen BK163.out 3
                                    have hfz50_4 := blk_frozen BK163.out 4
                                    have hnb51 := NB149_143.out
                                    have hnc51 := NB143_149.out
                                    have hcz52_0 : wc.cell? ⟨gb149, 0, none⟩ = some (.bool x150000_1) := (blk_cell BK149.out 0).trans rfl
                                    have hcz52_1 : wc.cell? ⟨gb149, 1, none⟩ = some (.bool x150001_1) := (blk_cell BK149.out 1).trans rfl
                                    have hcz52_2 : wc.cell? ⟨gb149, 2, none⟩ = some (.bool x150002_1) := (blk_cell BK149.out 2).trans rfl
                                    have hcz52_3 : wc.cell? ⟨gb149, 3, none⟩ = some (.int .i64 x150003_1) := (blk_cell BK149.out 3).trans rfl
                                    have hcz52_4 : wc.cell? ⟨gb149, 4, none⟩ = some (.int .i64 x150004_1) := (blk_cell BK149.out 4).trans rfl
                                    have hfz52_0 := blk_frozen BK149.out 0
                                    have hfz52_1 := blk_frozen BK149.out 1
                                    have hfz52_2 := blk_frozen BK149.out 2
                                    have hfz52_3 := blk_frozen BK149.out 3
                                    have hfz52_4 := blk_frozen BK149.out 4
                                    go_wp2
                                    go_ret
                                    exact ⟨by first | rfl | (simp [errW_none, errW_some] <;> rfl) | (simp [*, errW_none, errW_some] <;> rfl), by repeat (first | (with_reducible first | exact HB.out | apply below_alloc | apply pw_below_drewN | apply below_drew1 | refine below_set ?_ GE143.out | refine below_set ?_ GE149.out | refine below_set ?_ GE163.out) | exact HB.out)⟩
                                  · rw [if_neg c47] at H
                                    have c47b0 : (t156 != x150000_1) = false := by simpa using c47
                                    (try (have c47b1 : decide (t156 = x150000_1) = true := by simpa using c47))
                                    (try (have c47b2 : (t156 == x150000_1) = true := by simpa using c47))
                                    clear c47
                                    have H' := Aside0.mk H
                                    clear H
                                    have hnb53 := NB163_143.out
                                    have hnc53 := NB143_163.out
                                    have hnb54 := NB163_149.out
                                    have hnc54 := NB149_163.out
                                    have hcz55_0 : wc.cell? ⟨gb163, 0, none⟩ = some (.bool t156) := (blk_cell BK163.out 0).trans rfl
                                    have hcz55_1 : wc.cell? ⟨gb163, 1, none⟩ = some (.bool t157) := (blk_cell BK163.out 1).trans rfl
                                    have hcz55_2 : wc.cell? ⟨gb163, 2, none⟩ = some (.bool t158) := (blk_cell BK163.out 2).trans rfl
                                    have hcz55_3 : wc.cell? ⟨gb163, 3, none⟩ = some (.int .i64 t159) := (blk_cell BK163.out 3).trans rfl
                                    have hcz55_4 : wc.cell? ⟨gb163, 4, none⟩ = some (.int .i64 t160) := (blk_cell BK163.out 4).trans rfl
                                    have hfz55_0 := blk_frozen BK163.out 0
                                    have hfz55_1 := blk_frozen BK163.out 1
                                    have hfz55_2 := blk_frozen BK163.out 2
                                    have hfz55_3 := blk_frozen BK163.out 3
                                    have hfz55_4 := blk_frozen BK163.out 4
                                    have hnb56 := NB149_143.out
                                    have hnc56 := NB143_149.out
                                    have hcz57_0 : wc.cell? ⟨gb149, 0, none⟩ = some (.bool x150000_1) := (blk_cell BK149.out 0).trans rfl
                                    have hcz57_1 : wc.cell? ⟨gb149, 1, none⟩ = some (.bool x150001_1) := (blk_cell BK149.out 1).trans rfl
                                    have hcz57_2 : wc.cell? ⟨gb149, 2, none⟩ = some (.bool x150002_1) := (blk_cell BK149.out 2).trans rfl
                                    have hcz57_3 : wc.cell? ⟨gb149, 3, none⟩ = some (.int .i64 x150003_1) := (blk_cell BK149.out 3).trans rfl
                                    have hcz57_4 : wc.cell? ⟨gb149, 4, none⟩ = some (.int .i64 x150004_1) := (blk_cell BK149.out 4).trans rfl
                                    have hfz57_0 := blk_frozen BK149.out 0
                                    have hfz57_1 := blk_frozen BK149.out 1
                                    have hfz57_2 := blk_frozen BK149.out 2
                                    have hfz57_3 := blk_frozen BK149.out 3
                                    have hfz57_4 := blk_frozen BK149.out 4
                                    go_wp2
                                    go_roundg kj23
                                    case measure => have := HK1.out; have := HJ15.out; have := HJ23.out; omega
                                    case rel => exact ⟨(x8_23), (wrap64 (x9_1 + 1)), (t156), (t157), (t158), (t159), (t160), (by first | rfl | (simp; done) | (simp [*]; done)), (by first | rfl | (simp; done) | (simp [*]; done)), H', ⟨by have := HK1.out; have := HJ15.out; have := HJ23.out; omega⟩, ⟨by (with_reducible repeat (first | refine blk_drewN ?_ _ | refine blk_drew ?_ | refine blk_alloc ?_ _)); refine blk_far ?_ NB143_149.out _; (with_reducible repeat (first | refine blk_drewN ?_ _ | refine blk_drew ?_ | refine blk_alloc ?_ _)); refine blk_far ?_ NB143_149.out _; (with_reducible repeat (first | refine blk_drewN ?_ _ | refine blk_drew ?_ | refine blk_alloc ?_ _)); refine blk_far ?_ NB143_149.out _; (with_reducible repeat (first | refine blk_drewN ?_ _ | refine blk_drew ?_ | refine blk_alloc ?_ _)); refine blk_far ?_ NB143_149.out _; (with_reducible repeat (first | refine blk_drewN ?_ _ | refine blk_drew ?_ | refine blk_alloc ?_ _)); refine blk_far ?_ NB143_149.out _; (with_reducible repeat (first | refine blk_drewN ?_ _ | refine blk_drew ?_ | refine blk_alloc ?_ _)); exact BK143.out⟩, ⟨by (with_reducible repeat (first | refine blk_drewN ?_ _ | refine blk_drew ?_ | refine blk_alloc ?_ _)); refine blk_put (cs := #[.bool t156, .bool t157, .bool t158, .int .i64 t159, .int .i64 x150004_1]) ?_ 4 _ rfl; (with_reducible repeat (first | refine blk_drewN ?_ _ | refine blk_drew ?_ | refine blk_alloc ?_ _)); refine blk_put (cs := #[.bool t156, .bool t157, .bool t158, .int .i64 x150003_1, .int .i64 x150004_1]) ?_ 3 _ rfl; (with_reducible repeat (first | refine blk_drewN ?_ _ | refine blk_drew ?_ | refine blk_alloc ?_ _)); refine blk_put (cs := #[.bool t156, .bool t157, .bool x150002_1, .int .i64 x150003_1, .int .i64 x150004_1]) ?_ 2 _ rfl; (with_reducible repeat (first | refine blk_drewN ?_ _ | refine blk_drew ?_ | refine blk_alloc ?_ _)); refine blk_put (cs := #[.bool t156, .bool x150001_1, .bool x150002_1, .int .i64 x150003_1, .int .i64 x150004_1]) ?_ 1 _ rfl; (with_reducible repeat (first | refine blk_drewN ?_ _ | refine blk_drew ?_ | refine blk_alloc ?_ _)); refine blk_put (cs := #[.bool x150000_1, .bool x150001_1, .bool x150002_1, .int .i64 x150003_1, .int .i64 x150004_1]) ?_ 0 _ rfl; (with_reducible repeat (first | refine blk_drewN ?_ _ | refine blk_drew ?_ | refine blk_alloc ?_ _)); exact BK149.out⟩, ⟨by repeat (first | (with_reducible first | exact HB.out | apply below_alloc | apply pw_below_drewN | apply below_drew1 | refine below_set ?_ GE143.out | refine below_set ?_ GE149.out | refine below_set ?_ GE163.out) | exact HB.out)⟩⟩
                              · rw [if_neg c42] at H
                                have c42b0 : (t160 == (wrap64 (Int.tmod (IntKind.u64.wrap (rd l1 x9_1)) 65536))) = false := beq_eq_false_iff_ne.mpr c42
                                have c42b1 : (t160 != (wrap64 (Int.tmod (IntKind.u64.wrap (rd l1 x9_1)) 65536))) = true := bne_iff_ne.mpr c42
                                obtain rfl := Option.some.inj H
                                have hnb58 := NB163_143.out
                                have hnc58 := NB143_163.out
                                have hnb59 := NB163_149.out
                                have hnc59 := NB149_163.out
                                have hcz60_0 : wc.cell? ⟨gb163, 0, none⟩ = some (.bool t156) := (blk_cell BK163.out 0).trans rfl
                                have hcz60_1 : wc.cell? ⟨gb163, 1, none⟩ = some (.bool t157) := (blk_cell BK163.out 1).trans rfl
                                have hcz60_2 : wc.cell? ⟨gb163, 2, none⟩ = some (.bool t158) := (blk_cell BK163.out 2).trans rfl
                                have hcz60_3 : wc.cell? ⟨gb163, 3, none⟩ = some (.int .i64 t159) := (blk_cell BK163.out 3).trans rfl
                                have hcz60_4 : wc.cell? ⟨gb163, 4, none⟩ = some (.int .i64 t160) := (blk_cell BK163.out 4).trans rfl
                                have hfz60_0 := blk_frozen BK163.out 0
                                have hfz60_1 := blk_frozen BK163.out 1
                                have hfz60_2 := blk_frozen BK163.out 2
                                have hfz60_3 := blk_frozen BK163.out 3
                                have hfz60_4 := blk_frozen BK163.out 4
                                go_wp2
                                go_ret
                                exact ⟨by first | rfl | (simp [errW_none, errW_some] <;> rfl) | (simp [*, errW_none, errW_some] <;> rfl), by repeat (first | (with_reducible first | exact HB.out | apply below_alloc | apply pw_below_drewN | apply below_drew1 | refine below_set ?_ GE143.out | refine below_set ?_ GE149.out | refine below_set ?_ GE163.out) | exact HB.out)⟩
                          · rw [if_neg c40] at H
                            have c40b0 : (t162 == 0) = false := beq_eq_false_iff_ne.mpr c40
                            have c40b1 : (t162 != 0) = true := bne_iff_ne.mpr c40
                            obtain rfl := Option.some.inj H
                            go_wp2
                            go_ret
                            exact ⟨by first | rfl | (simp [errW_none, errW_some] <;> rfl) | (simp [*, errW_none, errW_some] <;> rfl), by repeat (first | (with_reducible first | exact HB.out | apply below_alloc | apply pw_below_drewN | apply below_drew1 | refine below_set ?_ GE143.out | refine below_set ?_ GE149.out | refine below_set ?_ GE163.out) | exact HB.out)⟩
                  · rw [if_neg c23] at H
                    have c23b0 : (t155 == 0) = false := beq_eq_false_iff_ne.mpr c23
                    have c23b1 : (t155 != 0) = true := bne_iff_ne.mpr c23
                    obtain rfl := Option.some.inj H
                    have p153 : 0 ≤ (x9_1 : Int) := of_decide_eq_true (by first | (with_reducible assumption) | assumption)
                    have q153 : x9_1 < (l1.length : Int) := of_decide_eq_true (by first | (with_reducible assumption) | assumption)
                    obtain ⟨ad153, e153, hx153_0⟩ := Kd.at_int HR1.out x9_1 p153 q153
                    cases e153
                    replace hx153_0 := (HB.out.cell (World.block_lt_of_cell? w _ hx153_0)).trans hx153_0
                    replace p153 := eq_true p153
                    replace q153 := eq_true q153
                    have hnb61 := NB149_143.out
                    have hnc61 := NB143_149.out
                    have hcz62_0 : wc.cell? ⟨gb149, 0, none⟩ = some (.bool x150000_1) := (blk_cell BK149.out 0).trans rfl
                    have hcz62_1 : wc.cell? ⟨gb149, 1, none⟩ = some (.bool x150001_1) := (blk_cell BK149.out 1).trans rfl
                    have hcz62_2 : wc.cell? ⟨gb149, 2, none⟩ = some (.bool x150002_1) := (blk_cell BK149.out 2).trans rfl
                    have hcz62_3 : wc.cell? ⟨gb149, 3, none⟩ = some (.int .i64 x150003_1) := (blk_cell BK149.out 3).trans rfl
                    have hcz62_4 : wc.cell? ⟨gb149, 4, none⟩ = some (.int .i64 x150004_1) := (blk_cell BK149.out 4).trans rfl
                    have hfz62_0 := blk_frozen BK149.out 0
                    have hfz62_1 := blk_frozen BK149.out 1
                    have hfz62_2 := blk_frozen BK149.out 2
                    have hfz62_3 := blk_frozen BK149.out 3
                    have hfz62_4 := blk_frozen BK149.out 4
                    go_wp2_with (first | ((with_reducible refine gate_callee (f := 18) rfl ?_); refine goesL_ (some 49) rfl rfl Try.func18 (by kernel_rfl) rfl #[.agg #[.bool x150000_1, .bool x150001_1, .bool x150002_1, .int .i64 x150003_1, .int .i64 x150004_1], .int .i64 (wrap64 (Int.tmod (IntKind.u64.wrap (rd l1 x9_1)) 65536)), .int .i64 (wrap64 (1 + (wrap64 (Int.tmod (IntKind.u64.wrap (a2)) 65535))))] rfl (by (try simp only [List.map_toArray, List.map_cons, List.map_nil]); first | done | rfl | (simp only [List.length_drop, List.length_take]; rfl)) ?_; (with_reducible refine (hopopt_Consistent.calls kj15 x150000_1 x150001_1 x150002_1 x150003_1 x150004_1 (wrap64 (Int.tmod (IntKind.u64.wrap (rd l1 x9_1)) 65536)) (wrap64 (1 + (wrap64 (Int.tmod (IntKind.u64.wrap (a2)) 65535)))) t154 t155 _ A21.out).mono ?_); rintro e w63 ⟨rfl, hb⟩; refine ⟨_, rfl, ?_⟩; have n0_ := Aside0.mk (blk_below (g := gb143) (o := .cells #[.bool a0_0, .bool a0_1, .bool a0_2, .int .i64 a0_3, .int .i64 a0_4] 23 (0, 0)) (by (with_reducible repeat (first | refine blk_drewN ?_ _ | refine blk_drew ?_ | refine blk_alloc ?_ _)); exact BK143.out) hb); have n1_ := Aside0.mk (blk_below (g := gb149) (o := .cells #[.bool x150000_1, .bool x150001_1, .bool x150002_1, .int .i64 x150003_1, .int .i64 x150004_1] 25 (0, 0)) (by (with_reducible repeat (first | refine blk_drewN ?_ _ | refine blk_drew ?_ | refine blk_alloc ?_ _)); exact BK149.out) hb); have n2_ := Aside0.mk (below_step (by repeat (first | (with_reducible first | exact HB.out | apply below_alloc | apply pw_below_drewN | apply below_drew1 | refine below_set ?_ GE143.out | refine below_set ?_ GE149.out) | exact HB.out)) hb); clear BK143; clear BK149; clear HB; have BK143 := n0_; have BK149 := n1_; have HB := n2_; clear n0_ n1_ n2_; (try clear hb); (try clear hb2); (try clear hk); (try clear hi); have hcz64_0 : w63.cell? ⟨gb149, 0, none⟩ = some (.bool x150000_1) := (blk_cell BK149.out 0).trans rfl; have hcz64_1 : w63.cell? ⟨gb149, 1, none⟩ = some (.bool x150001_1) := (blk_cell BK149.out 1).trans rfl; have hcz64_2 : w63.cell? ⟨gb149, 2, none⟩ = some (.bool x150002_1) := (blk_cell BK149.out 2).trans rfl; have hcz64_3 : w63.cell? ⟨gb149, 3, none⟩ = some (.int .i64 x150003_1) := (blk_cell BK149.out 3).trans rfl; have hcz64_4 : w63.cell? ⟨gb149, 4, none⟩ = some (.int .i64 x150004_1) := (blk_cell BK149.out 4).trans rfl; have hfz64_0 := blk_frozen BK149.out 0; have hfz64_1 := blk_frozen BK149.out 1; have hfz64_2 := blk_frozen BK149.out 2; have hfz64_3 := blk_frozen BK149.out 3; have hfz64_4 := blk_frozen BK149.out 4) | ((with_reducible refine gate_callee (f := 19) rfl ?_); refine goesL_ (some 56) rfl rfl Try.func19 (by kernel_rfl) rfl #[.agg #[.bool x150000_1, .bool x150001_1, .bool x150002_1, .int .i64 x150003_1, .int .i64 x150004_1], .int .i64 (wrap64 (Int.tmod (IntKind.u64.wrap (rd l1 x9_1)) 65536)), .int .i64 (wrap64 (1 + (wrap64 (Int.tmod (IntKind.u64.wrap (a2)) 65535))))] rfl (by (try simp only [List.map_toArray, List.map_cons, List.map_nil]); first | done | rfl | (simp only [List.length_drop, List.length_take]; rfl)) ?_; (with_reducible refine (hopopt_Hop.calls kj15 x150000_1 x150001_1 x150002_1 x150003_1 x150004_1 (wrap64 (Int.tmod (IntKind.u64.wrap (rd l1 x9_1)) 65536)) (wrap64 (1 + (wrap64 (Int.tmod (IntKind.u64.wrap (a2)) 65535)))) t156 t157 t158 t159 t160 t161 t162 _ A22.out).mono ?_); rintro e w65 ⟨rfl, hb⟩; refine ⟨_, rfl, ?_⟩; have n0_ := Aside0.mk (blk_below (g := gb143) (o := .cells #[.bool a0_0, .bool a0_1, .bool a0_2, .int .i64 a0_3, .int .i64 a0_4] 23 (0, 0)) (by (with_reducible repeat (first | refine blk_drewN ?_ _ | refine blk_drew ?_ | refine blk_alloc ?_ _)); exact BK143.out) hb); have n1_ := Aside0.mk (blk_below (g := gb149) (o := .cells #[.bool x150000_1, .bool x150001_1, .bool x150002_1, .int .i64 x150003_1, .int .i64 x150004_1] 25 (0, 0)) (by (with_reducible repeat (first | refine blk_drewN ?_ _ | refine blk_drew ?_ | refine blk_alloc ?_ _)); exact BK149.out) hb); have n2_ := Aside0.mk (below_step (by repeat (first | (with_reducible first | exact HB.out | apply below_alloc | apply pw_below_drewN | apply below_drew1 | refine below_set ?_ GE143.out | refine below_set ?_ GE149.out) | exact HB.out)) hb); clear BK143; clear BK149; clear HB; have BK143 := n0_; have BK149 := n1_; have HB := n2_; clear n0_ n1_ n2_; (try clear hb); (try clear hb2); (try clear hk); (try clear hi)) | ((with_reducible refine gate_dst (N := 13) rfl ?_); refine box_event ?hg (N := 13) ?hd (cs := #[.bool false, .bool false, .bool false, .int .i64 0, .int .i64 0]) (t := 25) ?hr ?_; (case hd => rfl); (case hg => rfl); (case hr => first | (go_simp; done) | (go_simp; rfl)); intro gb163 hg w66 hbox hb; have n0_ := Aside0.mk (blk_below (g := gb143) (o := .cells #[.bool a0_0, .bool a0_1, .bool a0_2, .int .i64 a0_3, .int .i64 a0_4] 23 (0, 0)) (by (with_reducible repeat (first | refine blk_drewN ?_ _ | refine blk_drew ?_ | refine blk_alloc ?_ _)); exact BK143.out) hb); have n1_ := Aside0.mk (blk_below (g := gb149) (o := .cells #[.bool x150000_1, .bool x150001_1, .bool x150002_1, .int .i64 x150003_1, .int .i64 x150004_1] 25 (0, 0)) (by (with_reducible repeat (first | refine blk_drewN ?_ _ | refine blk_drew ?_ | refine blk_alloc ?_ _)); exact BK149.out) hb); have n2_ := Aside0.mk (below_step (by repeat (first | (with_reducible first | exact HB.out | apply below_alloc | apply pw_below_drewN | apply below_drew1 | refine below_set ?_ GE143.out | refine below_set ?_ GE149.out) | exact HB.out)) hb); have n3_ := Aside0.mk (hbox); have n4_ := Aside0.mk ((by rw [hg]; exact (below_size (by repeat (first | (with_reducible first | exact HB.out | apply below_alloc | apply pw_below_drewN | apply below_drew1 | refine below_set ?_ GE143.out | refine below_set ?_ GE149.out) | exact HB.out))) : w.heap.size ≤ gb163)); have n5_ := Aside0.mk ((by rw [hg]; exact (below_size (by repeat (first | (with_reducible first | exact HB.out | apply below_alloc | apply pw_below_drewN | apply below_drew1 | refine below_set ?_ GE143.out | refine below_set ?_ GE149.out) | exact HB.out))) : w.heap.size ≤ gb163)); have n6_ := Aside0.mk ((by rw [hg]; exact Nat.ne_of_lt (blk_lt (g := gb143) (o := .cells #[.bool a0_0, .bool a0_1, .bool a0_2, .int .i64 a0_3, .int .i64 a0_4] 23 (0, 0)) (by (with_reducible repeat (first | refine blk_drewN ?_ _ | refine blk_drew ?_ | refine blk_alloc ?_ _)); exact BK143.out)) : gb143 ≠ gb163)); have n7_ := Aside0.mk ((by rw [hg]; exact Nat.ne_of_gt (blk_lt (g := gb143) (o := .cells #[.bool a0_0, .bool a0_1, .bool a0_2, .int .i64 a0_3, .int .i64 a0_4] 23 (0, 0)) (by (with_reducible repeat (first | refine blk_drewN ?_ _ | refine blk_drew ?_ | refine blk_alloc ?_ _)); exact BK143.out)) : gb163 ≠ gb143)); have n8_ := Aside0.mk ((by rw [hg]; exact Nat.ne_of_lt (blk_lt (g := gb149) (o := .cells #[.bool x150000_1, .bool x150001_1, .bool x150002_1, .int .i64 x150003_1, .int .i64 x150004_1] 25 (0, 0)) (by (with_reducible repeat (first | refine blk_drewN ?_ _ | refine blk_drew ?_ | refine blk_alloc ?_ _)); exact BK149.out)) : gb149 ≠ gb163)); have n9_ := Aside0.mk ((by rw [hg]; exact Nat.ne_of_gt (blk_lt (g := gb149) (o := .cells #[.bool x150000_1, .bool x150001_1, .bool x150002_1, .int .i64 x150003_1, .int .i64 x150004_1] 25 (0, 0)) (by (with_reducible repeat (first | refine blk_drewN ?_ _ | refine blk_drew ?_ | refine blk_alloc ?_ _)); exact BK149.out)) : gb163 ≠ gb149)); clear BK143; clear BK149; clear HB; have BK143 := n0_; have BK149 := n1_; have HB := n2_; have BK163 := n3_; have GW163 := n4_; have GE163 := n5_; have NB143_163 := n6_; have NB163_143 := n7_; have NB149_163 := n8_; have NB163_149 := n9_; clear n0_ n1_ n2_ n3_ n4_ n5_ n6_ n7_ n8_ n9_; clear hb hbox hg; have hnb67 := NB163_143.out; have hnc67 := NB143_163.out; have hnb68 := NB163_149.out; have hnc68 := NB149_163.out; have hcz69_0 : w66.cell? ⟨gb163, 0, none⟩ = some (.bool false) := (blk_cell BK163.out 0).trans rfl; have hcz69_1 : w66.cell? ⟨gb163, 1, none⟩ = some (.bool false) := (blk_cell BK163.out 1).trans rfl; have hcz69_2 : w66.cell? ⟨gb163, 2, none⟩ = some (.bool false) := (blk_cell BK163.out 2).trans rfl; have hcz69_3 : w66.cell? ⟨gb163, 3, none⟩ = some (.int .i64 0) := (blk_cell BK163.out 3).trans rfl; have hcz69_4 : w66.cell? ⟨gb163, 4, none⟩ = some (.int .i64 0) := (blk_cell BK163.out 4).trans rfl; have hfz69_0 := blk_frozen BK163.out 0; have hfz69_1 := blk_frozen BK163.out 1; have hfz69_2 := blk_frozen BK163.out 2; have hfz69_3 := blk_frozen BK163.out 3; have hfz69_4 := blk_frozen BK163.out 4))
                    go_ret
                    exact ⟨by first | rfl | (simp [errW_none, errW_some] <;> rfl) | (simp [*, errW_none, errW_some] <;> rfl), by repeat (first | (with_reducible first | exact HB.out | apply below_alloc | apply pw_below_drewN | apply below_drew1 | refine below_set ?_ GE143.out | refine below_set ?_ GE149.out | refine below_set ?_ GE163.out) | exact HB.out)⟩
                · rw [if_neg c20] at H
                  exact absurd H (by simp)
              · rw [if_neg c19] at H
                exact absurd H (by simp)
            · replace c18 := Bool.eq_false_iff.mpr c18
              subst c18
              have H1 : ((rivuletlaw06_known.f kj15).bind fun t152 => (some t152)) = some r := by rw [if_neg (show ¬ (false = true) by decide)] at H; exact H
              clear H
              have H := H1
              clear H1
              replace H := Option.bind_eq_some_iff.mp H
              obtain ⟨t152, A700, H⟩ := H
              replace H : (some t152) = some r := H
              have A70 := Aside0.mk A700
              clear A700
              obtain rfl := Option.some.inj H
              go_wp2_with (first | ((with_reducible refine gate_callee (f := 17) rfl ?_); refine goesL_ (some 101) rfl rfl Try.func17 (by kernel_rfl) rfl #[] rfl (by (try simp only [List.map_toArray, List.map_cons, List.map_nil]); first | done | rfl | (simp only [List.length_drop, List.length_take]; rfl)) ?_; (with_reducible refine (rivuletlaw06_known.calls kj15  t152 _ A70.out).mono ?_); rintro e w71 ⟨rfl, hb⟩; refine ⟨_, rfl, ?_⟩; have n0_ := Aside0.mk (blk_below (g := gb143) (o := .cells #[.bool a0_0, .bool a0_1, .bool a0_2, .int .i64 a0_3, .int .i64 a0_4] 23 (0, 0)) (by (with_reducible repeat (first | refine blk_drewN ?_ _ | refine blk_drew ?_ | refine blk_alloc ?_ _)); exact BK143.out) hb); have n1_ := Aside0.mk (blk_below (g := gb149) (o := .cells #[.bool x150000_1, .bool x150001_1, .bool x150002_1, .int .i64 x150003_1, .int .i64 x150004_1] 25 (0, 0)) (by (with_reducible repeat (first | refine blk_drewN ?_ _ | refine blk_drew ?_ | refine blk_alloc ?_ _)); exact BK149.out) hb); have n2_ := Aside0.mk (below_step (by repeat (first | (with_reducible first | exact HB.out | apply below_alloc | apply pw_below_drewN | apply below_drew1 | refine below_set ?_ GE143.out | refine below_set ?_ GE149.out) | exact HB.out)) hb); clear BK143; clear BK149; clear HB; have BK143 := n0_; have BK149 := n1_; have HB := n2_; clear n0_ n1_ n2_; (try clear hb); (try clear hb2); (try clear hk); (try clear hi)))
              go_ret
              exact ⟨by first | rfl | (simp [errW_none, errW_some] <;> rfl) | (simp [*, errW_none, errW_some] <;> rfl), by repeat (first | (with_reducible first | exact HB.out | apply below_alloc | apply pw_below_drewN | apply below_drew1 | refine below_set ?_ GE143.out | refine below_set ?_ GE149.out) | exact HB.out)⟩
  · replace c6 := Bool.eq_false_iff.mpr c6
    subst c6
    have H1 : ((rivuletlaw06_known.f k).bind fun t151 => (some t151)) = some r := by rw [if_neg (show ¬ (false = true) by decide)] at H; exact H
    clear H
    have H := H1
    clear H1
    replace H := Option.bind_eq_some_iff.mp H
    obtain ⟨t151, A720, H⟩ := H
    replace H : (some t151) = some r := H
    have A72 := Aside0.mk A720
    clear A720
    obtain rfl := Option.some.inj H
    go_enter Try.func3, Try.ntmps3
    go_wp2_with (first | ((with_reducible refine gate_dst (N := 3) rfl ?_); refine box_event ?hg (N := 3) ?hd (cs := #[.bool a0_0, .bool a0_1, .bool a0_2, .int .i64 a0_3, .int .i64 a0_4]) (t := 23) ?hr ?_; (case hd => rfl); (case hg => rfl); (case hr => first | (go_simp; done) | (go_simp; rfl)); intro gb143 hg w73 hbox hb; have n0_ := Aside0.mk (below_step (by repeat (first | (with_reducible first | exact HB.out | apply below_alloc | apply pw_below_drewN | apply below_drew1) | exact HB.out)) hb); have n1_ := Aside0.mk (hbox); have n2_ := Aside0.mk ((by rw [hg]; exact (below_size (by repeat (first | (with_reducible first | exact HB.out | apply below_alloc | apply pw_below_drewN | apply below_drew1) | exact HB.out))) : w.heap.size ≤ gb143)); have n3_ := Aside0.mk ((by rw [hg]; exact (below_size (by repeat (first | (with_reducible first | exact HB.out | apply below_alloc | apply pw_below_drewN | apply below_drew1) | exact HB.out))) : w.heap.size ≤ gb143)); clear HB; have HB := n0_; have BK143 := n1_; have GW143 := n2_; have GE143 := n3_; clear n0_ n1_ n2_ n3_; clear hb hbox hg; have hcz74_0 : w73.cell? ⟨gb143, 0, none⟩ = some (.bool a0_0) := (blk_cell BK143.out 0).trans rfl; have hcz74_1 : w73.cell? ⟨gb143, 1, none⟩ = some (.bool a0_1) := (blk_cell BK143.out 1).trans rfl; have hcz74_2 : w73.cell? ⟨gb143, 2, none⟩ = some (.bool a0_2) := (blk_cell BK143.out 2).trans rfl; have hcz74_3 : w73.cell? ⟨gb143, 3, none⟩ = some (.int .i64 a0_3) := (blk_cell BK143.out 3).trans rfl; have hcz74_4 : w73.cell? ⟨gb143, 4, none⟩ = some (.int .i64 a0_4) := (blk_cell BK143.out 4).trans rfl; have hfz74_0 := blk_frozen BK143.out 0; have hfz74_1 := blk_frozen BK143.out 1; have hfz74_2 := blk_frozen BK143.out 2; have hfz74_3 := blk_frozen BK143.out 3; have hfz74_4 := blk_frozen BK143.out 4) | ((with_reducible refine gate_callee (f := 15) rfl ?_); refine goesL_ (some 17) rfl rfl Try.func15 (by kernel_rfl) rfl #[.agg #[.bool a0_0, .bool a0_1, .bool a0_2, .int .i64 a0_3, .int .i64 a0_4]] rfl (by (try simp only [List.map_toArray, List.map_cons, List.map_nil]); first | done | rfl | (simp only [List.length_drop, List.length_take]; rfl)) ?_; (with_reducible refine (rivuletlaw06_To.calls a0_0 a0_1 a0_2 a0_3 a0_4 t144 t145 t146 t147 t148 _ A4.out).mono ?_); rintro e w75 ⟨rfl, hb⟩; refine ⟨_, rfl, ?_⟩; have n0_ := Aside0.mk (blk_below (g := gb143) (o := .cells #[.bool a0_0, .bool a0_1, .bool a0_2, .int .i64 a0_3, .int .i64 a0_4] 23 (0, 0)) (by (with_reducible repeat (first | refine blk_drewN ?_ _ | refine blk_drew ?_ | refine blk_alloc ?_ _)); exact BK143.out) hb); have n1_ := Aside0.mk (below_step (by repeat (first | (with_reducible first | exact HB.out | apply below_alloc | apply pw_below_drewN | apply below_drew1 | refine below_set ?_ GE143.out) | exact HB.out)) hb); clear BK143; clear HB; have BK143 := n0_; have HB := n1_; clear n0_ n1_; (try clear hb); (try clear hb2); (try clear hk); (try clear hi)) | ((with_reducible refine gate_dst (N := 7) rfl ?_); refine box_event ?hg (N := 7) ?hd (cs := #[.bool false, .bool false, .bool false, .int .i64 0, .int .i64 0]) (t := 25) ?hr ?_; (case hd => rfl); (case hg => rfl); (case hr => first | (go_simp; done) | (go_simp; rfl)); intro gb149 hg w76 hbox hb; have n0_ := Aside0.mk (blk_below (g := gb143) (o := .cells #[.bool a0_0, .bool a0_1, .bool a0_2, .int .i64 a0_3, .int .i64 a0_4] 23 (0, 0)) (by (with_reducible repeat (first | refine blk_drewN ?_ _ | refine blk_drew ?_ | refine blk_alloc ?_ _)); exact BK143.out) hb); have n1_ := Aside0.mk (below_step (by repeat (first | (with_reducible first | exact HB.out | apply below_alloc | apply pw_below_drewN | apply below_drew1 | refine below_set ?_ GE143.out) | exact HB.out)) hb); have n2_ := Aside0.mk (hbox); have n3_ := Aside0.mk ((by rw [hg]; exact (below_size (by repeat (first | (with_reducible first | exact HB.out | apply below_alloc | apply pw_below_drewN | apply below_drew1 | refine below_set ?_ GE143.out) | exact HB.out))) : w.heap.size ≤ gb149)); have n4_ := Aside0.mk ((by rw [hg]; exact (below_size (by repeat (first | (with_reducible first | exact HB.out | apply below_alloc | apply pw_below_drewN | apply below_drew1 | refine below_set ?_ GE143.out) | exact HB.out))) : w.heap.size ≤ gb149)); have n5_ := Aside0.mk ((by rw [hg]; exact Nat.ne_of_lt (blk_lt (g := gb143) (o := .cells #[.bool a0_0, .bool a0_1, .bool a0_2, .int .i64 a0_3, .int .i64 a0_4] 23 (0, 0)) (by (with_reducible repeat (first | refine blk_drewN ?_ _ | refine blk_drew ?_ | refine blk_alloc ?_ _)); exact BK143.out)) : gb143 ≠ gb149)); have n6_ := Aside0.mk ((by rw [hg]; exact Nat.ne_of_gt (blk_lt (g := gb143) (o := .cells #[.bool a0_0, .bool a0_1, .bool a0_2, .int .i64 a0_3, .int .i64 a0_4] 23 (0, 0)) (by (with_reducible repeat (first | refine blk_drewN ?_ _ | refine blk_drew ?_ | refine blk_alloc ?_ _)); exact BK143.out)) : gb149 ≠ gb143)); clear BK143; clear HB; have BK143 := n0_; have HB := n1_; have BK149 := n2_; have GW149 := n3_; have GE149 := n4_; have NB143_149 := n5_; have NB149_143 := n6_; clear n0_ n1_ n2_ n3_ n4_ n5_ n6_; clear hb hbox hg; have hnb77 := NB149_143.out; have hnc77 := NB143_149.out; have hcz78_0 : w76.cell? ⟨gb149, 0, none⟩ = some (.bool false) := (blk_cell BK149.out 0).trans rfl; have hcz78_1 : w76.cell? ⟨gb149, 1, none⟩ = some (.bool false) := (blk_cell BK149.out 1).trans rfl; have hcz78_2 : w76.cell? ⟨gb149, 2, none⟩ = some (.bool false) := (blk_cell BK149.out 2).trans rfl; have hcz78_3 : w76.cell? ⟨gb149, 3, none⟩ = some (.int .i64 0) := (blk_cell BK149.out 3).trans rfl; have hcz78_4 : w76.cell? ⟨gb149, 4, none⟩ = some (.int .i64 0) := (blk_cell BK149.out 4).trans rfl; have hfz78_0 := blk_frozen BK149.out 0; have hfz78_1 := blk_frozen BK149.out 1; have hfz78_2 := blk_frozen BK149.out 2; have hfz78_3 := blk_frozen BK149.out 3; have hfz78_4 := blk_frozen BK149.out 4; have hcz79_0 : w76.cell? ⟨gb143, 0, none⟩ = some (.bool a0_0) := (blk_cell BK143.out 0).trans rfl; have hcz79_1 : w76.cell? ⟨gb143, 1, none⟩ = some (.bool a0_1) := (blk_cell BK143.out 1).trans rfl; have hcz79_2 : w76.cell? ⟨gb143, 2, none⟩ = some (.bool a0_2) := (blk_cell BK143.out 2).trans rfl; have hcz79_3 : w76.cell? ⟨gb143, 3, none⟩ = some (.int .i64 a0_3) := (blk_cell BK143.out 3).trans rfl; have hcz79_4 : w76.cell? ⟨gb143, 4, none⟩ = some (.int .i64 a0_4) := (blk_cell BK143.out 4).trans rfl; have hfz79_0 := blk_frozen BK143.out 0; have hfz79_1 := blk_frozen BK143.out 1; have hfz79_2 := blk_frozen BK143.out 2; have hfz79_3 := blk_frozen BK143.out 3; have hfz79_4 := blk_frozen BK143.out 4) | ((with_reducible refine gate_callee (f := 16) rfl ?_); refine goesL_ (some 24) rfl rfl Try.func16 (by kernel_rfl) rfl #[.agg #[.bool a0_0, .bool a0_1, .bool a0_2, .int .i64 a0_3, .int .i64 a0_4]] rfl (by (try simp only [List.map_toArray, List.map_cons, List.map_nil]); first | done | rfl | (simp only [List.length_drop, List.length_take]; rfl)) ?_; (with_reducible refine (rivuletref06_Right.calls a0_0 a0_1 a0_2 a0_3 a0_4 false _ A5.out).mono ?_); rintro e w80 ⟨rfl, hb⟩; refine ⟨_, rfl, ?_⟩; have n0_ := Aside0.mk (blk_below (g := gb143) (o := .cells #[.bool a0_0, .bool a0_1, .bool a0_2, .int .i64 a0_3, .int .i64 a0_4] 23 (0, 0)) (by (with_reducible repeat (first | refine blk_drewN ?_ _ | refine blk_drew ?_ | refine blk_alloc ?_ _)); refine blk_far ?_ NB143_149.out _; (with_reducible repeat (first | refine blk_drewN ?_ _ | refine blk_drew ?_ | refine blk_alloc ?_ _)); refine blk_far ?_ NB143_149.out _; (with_reducible repeat (first | refine blk_drewN ?_ _ | refine blk_drew ?_ | refine blk_alloc ?_ _)); refine blk_far ?_ NB143_149.out _; (with_reducible repeat (first | refine blk_drewN ?_ _ | refine blk_drew ?_ | refine blk_alloc ?_ _)); refine blk_far ?_ NB143_149.out _; (with_reducible repeat (first | refine blk_drewN ?_ _ | refine blk_drew ?_ | refine blk_alloc ?_ _)); refine blk_far ?_ NB143_149.out _; (with_reducible repeat (first | refine blk_drewN ?_ _ | refine blk_drew ?_ | refine blk_alloc ?_ _)); exact BK143.out) hb); have n1_ := Aside0.mk (blk_below (g := gb149) (o := .cells #[.bool t144, .bool t145, .bool t146, .int .i64 t147, .int .i64 t148] 25 (0, 0)) (by (with_reducible repeat (first | refine blk_drewN ?_ _ | refine blk_drew ?_ | refine blk_alloc ?_ _)); refine blk_put (cs := #[.bool t144, .bool t145, .bool t146, .int .i64 t147, .int .i64 0]) ?_ 4 _ rfl; (with_reducible repeat (first | refine blk_drewN ?_ _ | refine blk_drew ?_ | refine blk_alloc ?_ _)); refine blk_put (cs := #[.bool t144, .bool t145, .bool t146, .int .i64 0, .int .i64 0]) ?_ 3 _ rfl; (with_reducible repeat (first | refine blk_drewN ?_ _ | refine blk_drew ?_ | refine blk_alloc ?_ _)); refine blk_put (cs := #[.bool t144, .bool t145, .bool false, .int .i64 0, .int .i64 0]) ?_ 2 _ rfl; (with_reducible repeat (first | refine blk_drewN ?_ _ | refine blk_drew ?_ | refine blk_alloc ?_ _)); refine blk_put (cs := #[.bool t144, .bool false, .bool false, .int .i64 0, .int .i64 0]) ?_ 1 _ rfl; (with_reducible repeat (first | refine blk_drewN ?_ _ | refine blk_drew ?_ | refine blk_alloc ?_ _)); refine blk_put (cs := #[.bool false, .bool false, .bool false, .int .i64 0, .int .i64 0]) ?_ 0 _ rfl; (with_reducible repeat (first | refine blk_drewN ?_ _ | refine blk_drew ?_ | refine blk_alloc ?_ _)); exact BK149.out) hb); have n2_ := Aside0.mk (below_step (by repeat (first | (with_reducible first | exact HB.out | apply below_alloc | apply pw_below_drewN | apply below_drew1 | refine below_set ?_ GE143.out | refine below_set ?_ GE149.out) | exact HB.out)) hb); clear BK143; clear BK149; clear HB; have BK143 := n0_; have BK149 := n1_; have HB := n2_; clear n0_ n1_ n2_; (try clear hb); (try clear hb2); (try clear hk); (try clear hi)) | ((with_reducible refine gate_callee (f := 17) rfl ?_); refine goesL_ (some 26) rfl rfl Try.func17 (by kernel_rfl) rfl #[] rfl (by (try simp only [List.map_toArray, List.map_cons, List.map_nil]); first | done | rfl | (simp only [List.length_drop, List.length_take]; rfl)) ?_; (with_reducible refine (rivuletlaw06_known.calls k  t151 _ A72.out).mono ?_); rintro e w81 ⟨rfl, hb⟩; refine ⟨_, rfl, ?_⟩; have n0_ := Aside0.mk (blk_below (g := gb143) (o := .cells #[.bool a0_0, .bool a0_1, .bool a0_2, .int .i64 a0_3, .int .i64 a0_4] 23 (0, 0)) (by (with_reducible repeat (first | refine blk_drewN ?_ _ | refine blk_drew ?_ | refine blk_alloc ?_ _)); exact BK143.out) hb); have n1_ := Aside0.mk (blk_below (g := gb149) (o := .cells #[.bool t144, .bool t145, .bool t146, .int .i64 t147, .int .i64 t148] 25 (0, 0)) (by (with_reducible repeat (first | refine blk_drewN ?_ _ | refine blk_drew ?_ | refine blk_alloc ?_ _)); exact BK149.out) hb); have n2_ := Aside0.mk (below_step (by repeat (first | (with_reducible first | exact HB.out | apply below_alloc | apply pw_below_drewN | apply below_drew1 | refine below_set ?_ GE143.out | refine below_set ?_ GE149.out) | exact HB.out)) hb); clear BK143; clear BK149; clear HB; have BK143 := n0_; have BK149 := n1_; have HB := n2_; clear n0_ n1_ n2_; (try clear hb); (try clear hb2); (try clear hk); (try clear hi)))
    go_ret
    exact ⟨by first | rfl | (simp [errW_none, errW_some] <;> rfl) | (simp [*, errW_none, errW_some] <;> rfl), by repeat (first | (with_reducible first | exact HB.out | apply below_alloc | apply pw_below_drewN | apply below_drew1 | refine below_set ?_ GE143.out | refine below_set ?_ GE149.out) | exact HB.out)⟩

end Go.Proofs.Ytanpnhponefbbaa.PHopoptOnce
