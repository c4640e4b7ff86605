/- Contracts of package hopopt and of the law HopoptHops, as a program laid them out, the chapter's examples walked by hand. No condition. -/
import Derived.Test.YtanpnhponefbbaaPHopoptHopsx0
import Derived.Test.YtanpnhponefbbaaPHopoptHopsx1
import Derived.Test.YtanpnhponefbbaaHHopoptHops2
import Derived.Test.YtanpnhponefbbaaHHopoptHops3
namespace Go.Proofs.Ytanpnhponefbbaa.PHopoptHops
open Go.RowKit Go.Proofs.YtanpnhponefbbaaW.PrintWords Go.Proofs.YtanpnhponefbbaaW.PrintLast Go.Proofs.YtanpnhponefbbaaW.PrintMore
attribute [local go_sem] max2_int min2_int max_two min_two max_three min_three max_four min_four   -- for this text's walks alone
set_option linter.unusedVariables false
set_option linter.unusedSimpArgs false

attribute [local go_sem high] eqA23
/-! ### rivuletlaw06_HopoptHops: function 4 -/
mutual
def rivuletlaw06_HopoptHops.j0 : Nat → Int → Int → Bool → Bool → Int → Int → Bool → Bool → Bool → Bool → Int → Int → Bool → Bool → Bool → Int → Int → Option (Bool)
  | 0, _, _, _, _, _, _, _, _, _, _, _, _, _, _, _, _, _ => none
  | k + 1, x1, x2, x3, x15, x16, x18, x66, x160000, x160001, x160002, x160003, x160004, x200000, x200001, x200002, x200003, x200004 => if x66 = true then (some false) else ((rivuletref06_Right.f x160000 x160001 x160002 x160003 x160004).bind fun t205 => (if t205 = true then (if x1 < 0 then (rivuletlaw06_HopoptHops.j1 k x1 x2 x3 x15 x16 x18 true x160000 x160001 x160002 x160003 x160004 x200000 x200001 x200002 x200003 x200004) else (rivuletlaw06_HopoptHops.j1 k x1 x2 x3 x15 x16 x18 (decide (x1 > 65535)) x160000 x160001 x160002 x160003 x160004 x200000 x200001 x200002 x200003 x200004)) else (rivuletlaw06_HopoptHops.j1 k x1 x2 x3 x15 x16 x18 true x160000 x160001 x160002 x160003 x160004 x200000 x200001 x200002 x200003 x200004)))
def rivuletlaw06_HopoptHops.j1 : Nat → Int → Int → Bool → Bool → Int → Int → Bool → Bool → Bool → Bool → Int → Int → Bool → Bool → Bool → Int → Int → Option (Bool)
  | 0, _, _, _, _, _, _, _, _, _, _, _, _, _, _, _, _, _ => none
  | k + 1, x1, x2, x3, x15, x16, x18, x77, x160000, x160001, x160002, x160003, x160004, x200000, x200001, x200002, x200003, x200004 => if x77 = true then ((rivuletlaw06_known.f k).bind fun t206 => (if t206 = true then (if x16 = 1 then (if x18 = 1 then (some (!x15)) else (some false)) else (some false)) else (some false))) else (if x18 = 0 then ((rivuletlaw06_Of.f x200000 x200001 x200002 x200003 x200004).bind fun bt208 => (rivuletlaw06_HopoptHops.j2 k x1 x2 x15 x16 (!(bt208.1 == x3) || (!(bt208.2.1 == x160001) || (!(bt208.2.2.1 == x160002) || (!(bt208.2.2.2.1 == x160003) || (!(bt208.2.2.2.2 == x1)))))) x160000 x160001 x160002 x160003 x160004)) else (rivuletlaw06_HopoptHops.j2 k x1 x2 x15 x16 true x160000 x160001 x160002 x160003 x160004))
def rivuletlaw06_HopoptHops.j2 : Nat → Int → Int → Bool → Int → Bool → Bool → Bool → Bool → Int → Int → Option (Bool)
  | 0, _, _, _, _, _, _, _, _, _, _ => none
  | k + 1, x1, x2, x15, x16, x103, x160000, x160001, x160002, x160003, x160004 => if x103 = true then (some false) else (if x2 < 1 then (rivuletlaw06_HopoptHops.j3 k x1 x2 x15 x16 true x160000 x160001 x160002 x160003 x160004) else (rivuletlaw06_HopoptHops.j3 k x1 x2 x15 x16 (decide (x2 > 65535)) x160000 x160001 x160002 x160003 x160004))
def rivuletlaw06_HopoptHops.j3 : Nat → Int → Int → Bool → Int → Bool → Bool → Bool → Bool → Int → Int → Option (Bool)
  | 0, _, _, _, _, _, _, _, _, _, _ => none
  | k + 1, x1, x2, x15, x16, x109, x160000, x160001, x160002, x160003, x160004 => if x109 = true then ((rivuletlaw06_known.f k).bind fun t213 => (if t213 = true then (some (x16 == 1)) else (some false))) else ((rivuletlaw06_known.f k).bind fun t214 => (if t214 = true then (if x16 = 0 then ((rivuletref06_Consistent.f x160000 x160001 x160002 x160003 x160004 x1 x2).bind fun t215 => (some (x15 == t215))) else (some false)) else (some false)))
end
def rivuletlaw06_HopoptHops.f (k : Nat) (a0_0 : Bool) (a0_1 : Bool) (a0_2 : Bool) (a0_3 : Int) (a0_4 : Int) (a1 : Int) (a2 : Int) (a3 : Bool) : Option (Bool) := (rivuletlaw06_To.f a0_0 a0_1 a0_2 a0_3 a0_4).bind fun bt160 => ((hopopt_Hop.f k bt160.1 bt160.2.1 bt160.2.2.1 bt160.2.2.2.1 bt160.2.2.2.2 a1 a2).bind fun bt165 => ((rivuletref06_Hop.f k a0_0 a0_1 a0_2 a0_3 a0_4 a1 a2).bind fun bt173 => ((rivuletlaw06_To.f a0_0 a0_1 a0_2 a0_3 a0_4).bind fun bt181 => ((hopopt_Consistent.f k bt181.1 bt181.2.1 bt181.2.2.1 bt181.2.2.2.1 bt181.2.2.2.2 a1 a2).bind fun bt186 => ((rivuletlaw06_To.f a0_0 a0_1 a0_2 a0_3 a0_4).bind fun bt188 => ((hopopt_Mark.f k bt188.1 bt188.2.1 bt188.2.2.1 bt188.2.2.2.1 bt188.2.2.2.2 a1 a3).bind fun bt193 => (if bt165.2.2.2.2.2.2 = bt173.2.2.2.2.2.2 then (if (bt165.2.2.2.2.2.1 != bt173.2.2.2.2.2.1) = true then (rivuletlaw06_HopoptHops.j0 k a1 a2 a3 bt186.1 bt186.2 bt193.2.2.2.2.2 true a0_0 a0_1 a0_2 a0_3 a0_4 bt193.1 bt193.2.1 bt193.2.2.1 bt193.2.2.2.1 bt193.2.2.2.2.1) else ((rivuletlaw06_Of.f bt165.1 bt165.2.1 bt165.2.2.1 bt165.2.2.2.1 bt165.2.2.2.2.1).bind fun bt200 => (rivuletlaw06_HopoptHops.j0 k a1 a2 a3 bt186.1 bt186.2 bt193.2.2.2.2.2 (!(bt200.1 == bt173.1) || (!(bt200.2.1 == bt173.2.1) || (!(bt200.2.2.1 == bt173.2.2.1) || (!(bt200.2.2.2.1 == bt173.2.2.2.1) || (!(bt200.2.2.2.2 == bt173.2.2.2.2.1)))))) a0_0 a0_1 a0_2 a0_3 a0_4 bt193.1 bt193.2.1 bt193.2.2.1 bt193.2.2.2.1 bt193.2.2.2.2.1))) else (rivuletlaw06_HopoptHops.j0 k a1 a2 a3 bt186.1 bt186.2 bt193.2.2.2.2.2 true a0_0 a0_1 a0_2 a0_3 a0_4 bt193.1 bt193.2.1 bt193.2.2.1 bt193.2.2.2.1 bt193.2.2.2.2.1))))))))
theorem rivuletlaw06_HopoptHops.mono_l : ∀ k, (∀ y0 y1 y2 y3 y4 y5 y6 y7 y8 y9 y10 y11 y12 y13 y14 y15 y16, LeO (rivuletlaw06_HopoptHops.j0 k y0 y1 y2 y3 y4 y5 y6 y7 y8 y9 y10 y11 y12 y13 y14 y15 y16) (rivuletlaw06_HopoptHops.j0 (k + 1) y0 y1 y2 y3 y4 y5 y6 y7 y8 y9 y10 y11 y12 y13 y14 y15 y16)) ∧ (∀ y0 y1 y2 y3 y4 y5 y6 y7 y8 y9 y10 y11 y12 y13 y14 y15 y16, LeO (rivuletlaw06_HopoptHops.j1 k y0 y1 y2 y3 y4 y5 y6 y7 y8 y9 y10 y11 y12 y13 y14 y15 y16) (rivuletlaw06_HopoptHops.j1 (k + 1) y0 y1 y2 y3 y4 y5 y6 y7 y8 y9 y10 y11 y12 y13 y14 y15 y16)) ∧ (∀ y0 y1 y2 y3 y4 y5 y6 y7 y8 y9, LeO (rivuletlaw06_HopoptHops.j2 k y0 y1 y2 y3 y4 y5 y6 y7 y8 y9) (rivuletlaw06_HopoptHops.j2 (k + 1) y0 y1 y2 y3 y4 y5 y6 y7 y8 y9)) ∧ (∀ y0 y1 y2 y3 y4 y5 y6 y7 y8 y9, LeO (rivuletlaw06_HopoptHops.j3 k y0 y1 y2 y3 y4 y5 y6 y7 y8 y9) (rivuletlaw06_HopoptHops.j3 (k + 1) y0 y1 y2 y3 y4 y5 y6 y7 y8 y9))
  | 0 => ⟨fun _ _ _ _ _ _ _ _ _ _ _ _ _ _ _ _ _ r h => by simp [rivuletlaw06_HopoptHops.j0] at h, fun _ _ _ _ _ _ _ _ _ _ _ _ _ _ _ _ _ r h => by simp [rivuletlaw06_HopoptHops.j1] at h, fun _ _ _ _ _ _ _ _ _ _ r h => by simp [rivuletlaw06_HopoptHops.j2] at h, fun _ _ _ _ _ _ _ _ _ _ r h => by simp [rivuletlaw06_HopoptHops.j3] at h⟩
  | k + 1 => by
    obtain ⟨ih0, ih1, ih2, ih3⟩ := rivuletlaw06_HopoptHops.mono_l k
    refine ⟨?_, ?_, ?_, ?_⟩
    · intro y0 y1 y2 y3 y4 y5 y6 y7 y8 y9 y10 y11 y12 y13 y14 y15 y16
      unfold rivuletlaw06_HopoptHops.j0
      repeat' first
      | (with_reducible exact ih0 _ _ _ _ _ _ _ _ _ _ _ _ _ _ _ _ _)
      | (with_reducible exact ih1 _ _ _ _ _ _ _ _ _ _ _ _ _ _ _ _ _)
      | (with_reducible exact ih2 _ _ _ _ _ _ _ _ _ _)
      | (with_reducible exact ih3 _ _ _ _ _ _ _ _ _ _)
      | (with_reducible exact hopopt_Consistent.mono _ _ _ _ _ _ _ _)
      | (with_reducible exact hopopt_Hop.mono _ _ _ _ _ _ _ _)
      | (with_reducible exact hopopt_Mark.mono _ _ _ _ _ _ _ _)
      | (with_reducible exact rivuletlaw06_known.mono _)
      | (with_reducible exact rivuletref06_Hop.mono _ _ _ _ _ _ _ _)
      | (with_reducible exact LeO.refl _)
      | (with_reducible exact LeO.none _)
      | (with_reducible refine LeO.ite ?_ ?_)
      | (with_reducible refine LeO.bind ?_ (fun _ => ?_))
      | exact ih0 _ _ _ _ _ _ _ _ _ _ _ _ _ _ _ _ _
      | exact ih1 _ _ _ _ _ _ _ _ _ _ _ _ _ _ _ _ _
      | exact ih2 _ _ _ _ _ _ _ _ _ _
      | exact ih3 _ _ _ _ _ _ _ _ _ _
      | exact hopopt_Consistent.mono _ _ _ _ _ _ _ _
      | exact hopopt_Hop.mono _ _ _ _ _ _ _ _
      | exact hopopt_Mark.mono _ _ _ _ _ _ _ _
      | exact rivuletlaw06_known.mono _
      | exact rivuletref06_Hop.mono _ _ _ _ _ _ _ _
      | exact LeO.none _
      | refine LeO.ite ?_ ?_
      | refine LeO.bind ?_ (fun _ => ?_)
    · intro y0 y1 y2 y3 y4 y5 y6 y7 y8 y9 y10 y11 y12 y13 y14 y15 y16
      unfold rivuletlaw06_HopoptHops.j1
      repeat' first
      | (with_reducible exact ih0 _ _ _ _ _ _ _ _ _ _ _ _ _ _ _ _ _)
      | (with_reducible exact ih1 _ _ _ _ _ _ _ _ _ _ _ _ _ _ _ _ _)
      | (with_reducible exact ih2 _ _ _ _ _ _ _ _ _ _)
      | (with_reducible exact ih3 _ _ _ _ _ _ _ _ _ _)
      | (with_reducible exact hopopt_Consistent.mono _ _ _ _ _ _ _ _)
      | (with_reducible exact hopopt_Hop.mono _ _ _ _ _ _ _ _)
      | (with_reducible exact hopopt_Mark.mono _ _ _ _ _ _ _ _)
      | (with_reducible exact rivuletlaw06_known.mono _)
      | (with_reducible exact rivuletref06_Hop.mono _ _ _ _ _ _ _ _)
      | (with_reducible exact LeO.refl _)
      | (with_reducible exact LeO.none _)
      | (with_reducible refine LeO.ite ?_ ?_)
      | (with_reducible refine LeO.bind ?_ (fun _ => ?_))
      | exact ih0 _ _ _ _ _ _ _ _ _ _ _ _ _ _ _ _ _
      | exact ih1 _ _ _ _ _ _ _ _ _ _ _ _ _ _ _ _ _
      | exact ih2 _ _ _ _ _ _ _ _ _ _
      | exact ih3 _ _ _ _ _ _ _ _ _ _
      | exact hopopt_Consistent.mono _ _ _ _ _ _ _ _
      | exact hopopt_Hop.mono _ _ _ _ _ _ _ _
      | exact hopopt_Mark.mono _ _ _ _ _ _ _ _
      | exact rivuletlaw06_known.mono _
      | exact rivuletref06_Hop.mono _ _ _ _ _ _ _ _
      | exact LeO.none _
      | refine LeO.ite ?_ ?_
      | refine LeO.bind ?_ (fun _ => ?_)
    · intro y0 y1 y2 y3 y4 y5 y6 y7 y8 y9
      unfold rivuletlaw06_HopoptHops.j2
      repeat' first
      | (with_reducible exact ih0 _ _ _ _ _ _ _ _ _ _ _ _ _ _ _ _ _)
      | (with_reducible exact ih1 _ _ _ _ _ _ _ _ _ _ _ _ _ _ _ _ _)
      | (with_reducible exact ih2 _ _ _ _ _ _ _ _ _ _)
      | (with_reducible exact ih3 _ _ _ _ _ _ _ _ _ _)
      | (with_reducible exact hopopt_Consistent.mono _ _ _ _ _ _ _ _)
      | (with_reducible exact hopopt_Hop.mono _ _ _ _ _ _ _ _)
      | (with_reducible exact hopopt_Mark.mono _ _ _ _ _ _ _ _)
      | (with_reducible exact rivuletlaw06_known.mono _)
      | (with_reducible exact rivuletref06_Hop.mono _ _ _ _ _ _ _ _)
      | (with_reducible exact LeO.refl _)
      | (with_reducible exact LeO.none _)
      | (with_reducible refine LeO.ite ?_ ?_)
      | (with_reducible refine LeO.bind ?_ (fun _ => ?_))
      | exact ih0 _ _ _ _ _ _ _ _ _ _ _ _ _ _ _ _ _
      | exact ih1 _ _ _ _ _ _ _ _ _ _ _ _ _ _ _ _ _
      | exact ih2 _ _ _ _ _ _ _ _ _ _
      | exact ih3 _ _ _ _ _ _ _ _ _ _
      | exact hopopt_Consistent.mono _ _ _ _ _ _ _ _
      | exact hopopt_Hop.mono _ _ _ _ _ _ _ _
      | exact hopopt_Mark.mono _ _ _ _ _ _ _ _
      | exact rivuletlaw06_known.mono _
      | exact rivuletref06_Hop.mono _ _ _ _ _ _ _ _
      | exact LeO.none _
      | refine LeO.ite ?_ ?_
      | refine LeO.bind ?_ (fun _ => ?_)
    · intro y0 y1 y2 y3 y4 y5 y6 y7 y8 y9
      unfold rivuletlaw06_HopoptHops.j3
      repeat' first
      | (with_reducible exact ih0 _ _ _ _ _ _ _ _ _ _ _ _ _ _ _ _ _)
      | (with_reducible exact ih1 _ _ _ _ _ _ _ _ _ _ _ _ _ _ _ _ _)
      | (with_reducible exact ih2 _ _ _ _ _ _ _ _ _ _)
      | (with_reducible exact ih3 _ _ _ _ _ _ _ _ _ _)
      | (with_reducible exact hopopt_Consistent.mono _ _ _ _ _ _ _ _)
      | (with_reducible exact hopopt_Hop.mono _ _ _ _ _ _ _ _)
      | (with_reducible exact hopopt_Mark.mono _ _ _ _ _ _ _ _)
      | (with_reducible exact rivuletlaw06_known.mono _)
      | (with_reducible exact rivuletref06_Hop.mono _ _ _ _ _ _ _ _)
      | (with_reducible exact LeO.refl _)
      | (with_reducible exact LeO.none _)
      | (with_reducible refine LeO.ite ?_ ?_)
      | (with_reducible refine LeO.bind ?_ (fun _ => ?_))
      | exact ih0 _ _ _ _ _ _ _ _ _ _ _ _ _ _ _ _ _
      | exact ih1 _ _ _ _ _ _ _ _ _ _ _ _ _ _ _ _ _
      | exact ih2 _ _ _ _ _ _ _ _ _ _
      | exact ih3 _ _ _ _ _ _ _ _ _ _
      | exact hopopt_Consistent.mono _ _ _ _ _ _ _ _
      | exact hopopt_Hop.mono _ _ _ _ _ _ _ _
      | exact hopopt_Mark.mono _ _ _ _ _ _ _ _
      | exact rivuletlaw06_known.mono _
      | exact rivuletref06_Hop.mono _ _ _ _ _ _ _ _
      | exact LeO.none _
      | refine LeO.ite ?_ ?_
      | refine LeO.bind ?_ (fun _ => ?_)
theorem rivuletlaw06_HopoptHops.mono : ∀ a0 a1 a2 a3 a4 a5 a6 a7 k, LeO (rivuletlaw06_HopoptHops.f k a0 a1 a2 a3 a4 a5 a6 a7) (rivuletlaw06_HopoptHops.f (k + 1) a0 a1 a2 a3 a4 a5 a6 a7) := by
  intro a0 a1 a2 a3 a4 a5 a6 a7 k
  obtain ⟨ih0, ih1, ih2, ih3⟩ := rivuletlaw06_HopoptHops.mono_l k
  unfold rivuletlaw06_HopoptHops.f
  repeat' first
      | (with_reducible exact ih0 _ _ _ _ _ _ _ _ _ _ _ _ _ _ _ _ _)
      | (with_reducible exact ih1 _ _ _ _ _ _ _ _ _ _ _ _ _ _ _ _ _)
      | (with_reducible exact ih2 _ _ _ _ _ _ _ _ _ _)
      | (with_reducible exact ih3 _ _ _ _ _ _ _ _ _ _)
      | (with_reducible exact hopopt_Consistent.mono _ _ _ _ _ _ _ _)
      | (with_reducible exact hopopt_Hop.mono _ _ _ _ _ _ _ _)
      | (with_reducible exact hopopt_Mark.mono _ _ _ _ _ _ _ _)
      | (with_reducible exact rivuletlaw06_known.mono _)
      | (with_reducible exact rivuletref06_Hop.mono _ _ _ _ _ _ _ _)
      | (with_reducible exact LeO.refl _)
      | (with_reducible exact LeO.none _)
      | (with_reducible refine LeO.ite ?_ ?_)
      | (with_reducible refine LeO.bind ?_ (fun _ => ?_))
      | exact ih0 _ _ _ _ _ _ _ _ _ _ _ _ _ _ _ _ _
      | exact ih1 _ _ _ _ _ _ _ _ _ _ _ _ _ _ _ _ _
      | exact ih2 _ _ _ _ _ _ _ _ _ _
      | exact ih3 _ _ _ _ _ _ _ _ _ _
      | exact hopopt_Consistent.mono _ _ _ _ _ _ _ _
      | exact hopopt_Hop.mono _ _ _ _ _ _ _ _
      | exact hopopt_Mark.mono _ _ _ _ _ _ _ _
      | exact rivuletlaw06_known.mono _
      | exact rivuletref06_Hop.mono _ _ _ _ _ _ _ _
      | exact LeO.none _
      | refine LeO.ite ?_ ?_
      | refine LeO.bind ?_ (fun _ => ?_)
def rivuletlaw06_HopoptHops.T5 : Bool × List (List Nat × List Nat) := (true, [([], []), ([], []), ([0, 1], [0, 1]), ([2], [2]), ([3], [3]), ([3], [3]), ([4, 5, 3], [3, 4, 5]), ([3, 6], [3, 6]), ([7, 3], [7]), ([8], [8]), ([9, 8, 8], [8, 9]), ([8], [8]), ([10, 11, 8], [8, 10, 11]), ([8, 12], [8, 12])])
def rivuletlaw06_HopoptHops.B5 : List Nat := [0, 0, 3, 7, 15, 15, 63, 127, 255, 511, 1023, 511, 4095, 8191]
theorem rivuletlaw06_HopoptHops.tab5 : rtab .any (opsOf Try.f4 5) = rivuletlaw06_HopoptHops.T5 := by kernel_rfl
theorem rivuletlaw06_HopoptHops.bits5 : waitsOk rivuletlaw06_HopoptHops.T5.2 rivuletlaw06_HopoptHops.B5 = true := by kernel_rfl
def rivuletlaw06_HopoptHops.T11 : Bool × List (List Nat × List Nat) := (true, [([], []), ([0], [0]), ([1], [1]), ([2], [2]), ([3, 2, 2], [2, 3]), ([2], [2]), ([4, 5, 2], [2, 4, 5]), ([2, 6], [2, 6])])
def rivuletlaw06_HopoptHops.B11 : List Nat := [0, 1, 3, 7, 15, 7, 63, 127]
theorem rivuletlaw06_HopoptHops.tab11 : rtab .any (opsOf Try.f4 11) = rivuletlaw06_HopoptHops.T11 := by kernel_rfl
theorem rivuletlaw06_HopoptHops.bits11 : waitsOk rivuletlaw06_HopoptHops.T11.2 rivuletlaw06_HopoptHops.B11 = true := by kernel_rfl
set_option maxHeartbeats 8000000 in
set_option maxRecDepth 100000 in
theorem rivuletlaw06_HopoptHops.calls (k : Nat) (a0_0 : Bool) (a0_1 : Bool) (a0_2 : Bool) (a0_3 : Int) (a0_4 : Int) (a1 : Int) (a2 : Int) (a3 : Bool) (r : Bool) (w : World) (h : rivuletlaw06_HopoptHops.f k a0_0 a0_1 a0_2 a0_3 a0_4 a1 a2 a3 = some r) :
    Calls Try.prog 4 #[.agg #[.bool a0_0, .bool a0_1, .bool a0_2, .int .i64 a0_3, .int .i64 a0_4], .int .i64 a1, .int .i64 a2, .bool a3] w fun e w' => e = .returned (.bool r) ∧ Below w.heap.size w w' := by
  have hu23 := Try.underlying23
  have hu25 := Try.underlying25
  have HB := Aside0.mk (Below.refl w.heap.size w)
  have H : ((rivuletlaw06_To.f a0_0 a0_1 a0_2 a0_3 a0_4).bind fun bt160 => ((hopopt_Hop.f k bt160.1 bt160.2.1 bt160.2.2.1 bt160.2.2.2.1 bt160.2.2.2.2 a1 a2).bind fun bt165 => ((rivuletref06_Hop.f k a0_0 a0_1 a0_2 a0_3 a0_4 a1 a2).bind fun bt173 => ((rivuletlaw06_To.f a0_0 a0_1 a0_2 a0_3 a0_4).bind fun bt181 => ((hopopt_Consistent.f k bt181.1 bt181.2.1 bt181.2.2.1 bt181.2.2.2.1 bt181.2.2.2.2 a1 a2).bind fun bt186 => ((rivuletlaw06_To.f a0_0 a0_1 a0_2 a0_3 a0_4).bind fun bt188 => ((hopopt_Mark.f k bt188.1 bt188.2.1 bt188.2.2.1 bt188.2.2.2.1 bt188.2.2.2.2 a1 a3).bind fun bt193 => (if bt165.2.2.2.2.2.2 = bt173.2.2.2.2.2.2 then (if (bt165.2.2.2.2.2.1 != bt173.2.2.2.2.2.1) = true then (rivuletlaw06_HopoptHops.j0 k a1 a2 a3 bt186.1 bt186.2 bt193.2.2.2.2.2 true a0_0 a0_1 a0_2 a0_3 a0_4 bt193.1 bt193.2.1 bt193.2.2.1 bt193.2.2.2.1 bt193.2.2.2.2.1) else ((rivuletlaw06_Of.f bt165.1 bt165.2.1 bt165.2.2.1 bt165.2.2.2.1 bt165.2.2.2.2.1).bind fun bt200 => (rivuletlaw06_HopoptHops.j0 k a1 a2 a3 bt186.1 bt186.2 bt193.2.2.2.2.2 (!(bt200.1 == bt173.1) || (!(bt200.2.1 == bt173.2.1) || (!(bt200.2.2.1 == bt173.2.2.1) || (!(bt200.2.2.2.1 == bt173.2.2.2.1) || (!(bt200.2.2.2.2 == bt173.2.2.2.2.1)))))) a0_0 a0_1 a0_2 a0_3 a0_4 bt193.1 bt193.2.1 bt193.2.2.1 bt193.2.2.2.1 bt193.2.2.2.2.1))) else (rivuletlaw06_HopoptHops.j0 k a1 a2 a3 bt186.1 bt186.2 bt193.2.2.2.2.2 true a0_0 a0_1 a0_2 a0_3 a0_4 bt193.1 bt193.2.1 bt193.2.2.1 bt193.2.2.2.1 bt193.2.2.2.2.1))))))))) = some r := h
  clear h
  replace H := Option.bind_eq_some_iff.mp H
  obtain ⟨⟨t160, t161, t162, t163, t164⟩, A50, H⟩ := H
  replace H : ((hopopt_Hop.f k t160 t161 t162 t163 t164 a1 a2).bind fun bt165 => ((rivuletref06_Hop.f k a0_0 a0_1 a0_2 a0_3 a0_4 a1 a2).bind fun bt173 => ((rivuletlaw06_To.f a0_0 a0_1 a0_2 a0_3 a0_4).bind fun bt181 => ((hopopt_Consistent.f k bt181.1 bt181.2.1 bt181.2.2.1 bt181.2.2.2.1 bt181.2.2.2.2 a1 a2).bind fun bt186 => ((rivuletlaw06_To.f a0_0 a0_1 a0_2 a0_3 a0_4).bind fun bt188 => ((hopopt_Mark.f k bt188.1 bt188.2.1 bt188.2.2.1 bt188.2.2.2.1 bt188.2.2.2.2 a1 a3).bind fun bt193 => (if bt165.2.2.2.2.2.2 = bt173.2.2.2.2.2.2 then (if (bt165.2.2.2.2.2.1 != bt173.2.2.2.2.2.1) = true then (rivuletlaw06_HopoptHops.j0 k a1 a2 a3 bt186.1 bt186.2 bt193.2.2.2.2.2 true a0_0 a0_1 a0_2 a0_3 a0_4 bt193.1 bt193.2.1 bt193.2.2.1 bt193.2.2.2.1 bt193.2.2.2.2.1) else ((rivuletlaw06_Of.f bt165.1 bt165.2.1 bt165.2.2.1 bt165.2.2.2.1 bt165.2.2.2.2.1).bind fun bt200 => (rivuletlaw06_HopoptHops.j0 k a1 a2 a3 bt186.1 bt186.2 bt193.2.2.2.2.2 (!(bt200.1 == bt173.1) || (!(bt200.2.1 == bt173.2.1) || (!(bt200.2.2.1 == bt173.2.2.1) || (!(bt200.2.2.2.1 == bt173.2.2.2.1) || (!(bt200.2.2.2.2 == bt173.2.2.2.2.1)))))) a0_0 a0_1 a0_2 a0_3 a0_4 bt193.1 bt193.2.1 bt193.2.2.1 bt193.2.2.2.1 bt193.2.2.2.2.1))) else (rivuletlaw06_HopoptHops.j0 k a1 a2 a3 bt186.1 bt186.2 bt193.2.2.2.2.2 true a0_0 a0_1 a0_2 a0_3 a0_4 bt193.1 bt193.2.1 bt193.2.2.1 bt193.2.2.2.1 bt193.2.2.2.2.1)))))))) = some r := H
  have A5 := Aside0.mk A50
  clear A50
  replace H := Option.bind_eq_some_iff.mp H
  obtain ⟨⟨t165, t166, t167, t168, t169, t170, t171⟩, A60, H⟩ := H
  replace H : ((rivuletref06_Hop.f k a0_0 a0_1 a0_2 a0_3 a0_4 a1 a2).bind fun bt173 => ((rivuletlaw06_To.f a0_0 a0_1 a0_2 a0_3 a0_4).bind fun bt181 => ((hopopt_Consistent.f k bt181.1 bt181.2.1 bt181.2.2.1 bt181.2.2.2.1 bt181.2.2.2.2 a1 a2).bind fun bt186 => ((rivuletlaw06_To.f a0_0 a0_1 a0_2 a0_3 a0_4).bind fun bt188 => ((hopopt_Mark.f k bt188.1 bt188.2.1 bt188.2.2.1 bt188.2.2.2.1 bt188.2.2.2.2 a1 a3).bind fun bt193 => (if t171 = bt173.2.2.2.2.2.2 then (if (t170 != bt173.2.2.2.2.2.1) = true then (rivuletlaw06_HopoptHops.j0 k a1 a2 a3 bt186.1 bt186.2 bt193.2.2.2.2.2 true a0_0 a0_1 a0_2 a0_3 a0_4 bt193.1 bt193.2.1 bt193.2.2.1 bt193.2.2.2.1 bt193.2.2.2.2.1) else ((rivuletlaw06_Of.f t165 t166 t167 t168 t169).bind fun bt200 => (rivuletlaw06_HopoptHops.j0 k a1 a2 a3 bt186.1 bt186.2 bt193.2.2.2.2.2 (!(bt200.1 == bt173.1) || (!(bt200.2.1 == bt173.2.1) || (!(bt200.2.2.1 == bt173.2.2.1) || (!(bt200.2.2.2.1 == bt173.2.2.2.1) || (!(bt200.2.2.2.2 == bt173.2.2.2.2.1)))))) a0_0 a0_1 a0_2 a0_3 a0_4 bt193.1 bt193.2.1 bt193.2.2.1 bt193.2.2.2.1 bt193.2.2.2.2.1))) else (rivuletlaw06_HopoptHops.j0 k a1 a2 a3 bt186.1 bt186.2 bt193.2.2.2.2.2 true a0_0 a0_1 a0_2 a0_3 a0_4 bt193.1 bt193.2.1 bt193.2.2.1 bt193.2.2.2.1 bt193.2.2.2.2.1))))))) = some r := H
  have A6 := Aside0.mk A60
  clear A60
  replace H := Option.bind_eq_some_iff.mp H
  obtain ⟨⟨t173, t174, t175, t176, t177, t178, t179⟩, A70, H⟩ := H
  replace H : ((rivuletlaw06_To.f a0_0 a0_1 a0_2 a0_3 a0_4).bind fun bt181 => ((hopopt_Consistent.f k bt181.1 bt181.2.1 bt181.2.2.1 bt181.2.2.2.1 bt181.2.2.2.2 a1 a2).bind fun bt186 => ((rivuletlaw06_To.f a0_0 a0_1 a0_2 a0_3 a0_4).bind fun bt188 => ((hopopt_Mark.f k bt188.1 bt188.2.1 bt188.2.2.1 bt188.2.2.2.1 bt188.2.2.2.2 a1 a3).bind fun bt193 => (if t171 = t179 then (if (t170 != t178) = true then (rivuletlaw06_HopoptHops.j0 k a1 a2 a3 bt186.1 bt186.2 bt193.2.2.2.2.2 true a0_0 a0_1 a0_2 a0_3 a0_4 bt193.1 bt193.2.1 bt193.2.2.1 bt193.2.2.2.1 bt193.2.2.2.2.1) else ((rivuletlaw06_Of.f t165 t166 t167 t168 t169).bind fun bt200 => (rivuletlaw06_HopoptHops.j0 k a1 a2 a3 bt186.1 bt186.2 bt193.2.2.2.2.2 (!(bt200.1 == t173) || (!(bt200.2.1 == t174) || (!(bt200.2.2.1 == t175) || (!(bt200.2.2.2.1 == t176) || (!(bt200.2.2.2.2 == t177)))))) a0_0 a0_1 a0_2 a0_3 a0_4 bt193.1 bt193.2.1 bt193.2.2.1 bt193.2.2.2.1 bt193.2.2.2.2.1))) else (rivuletlaw06_HopoptHops.j0 k a1 a2 a3 bt186.1 bt186.2 bt193.2.2.2.2.2 true a0_0 a0_1 a0_2 a0_3 a0_4 bt193.1 bt193.2.1 bt193.2.2.1 bt193.2.2.2.1 bt193.2.2.2.2.1)))))) = some r := H
  have A7 := Aside0.mk A70
  clear A70
  replace H := Option.bind_eq_some_iff.mp H
  obtain ⟨⟨t181, t182, t183, t184, t185⟩, A80, H⟩ := H
  replace H : ((hopopt_Consistent.f k t181 t182 t183 t184 t185 a1 a2).bind fun bt186 => ((rivuletlaw06_To.f a0_0 a0_1 a0_2 a0_3 a0_4).bind fun bt188 => ((hopopt_Mark.f k bt188.1 bt188.2.1 bt188.2.2.1 bt188.2.2.2.1 bt188.2.2.2.2 a1 a3).bind fun bt193 => (if t171 = t179 then (if (t170 != t178) = true then (rivuletlaw06_HopoptHops.j0 k a1 a2 a3 bt186.1 bt186.2 bt193.2.2.2.2.2 true a0_0 a0_1 a0_2 a0_3 a0_4 bt193.1 bt193.2.1 bt193.2.2.1 bt193.2.2.2.1 bt193.2.2.2.2.1) else ((rivuletlaw06_Of.f t165 t166 t167 t168 t169).bind fun bt200 => (rivuletlaw06_HopoptHops.j0 k a1 a2 a3 bt186.1 bt186.2 bt193.2.2.2.2.2 (!(bt200.1 == t173) || (!(bt200.2.1 == t174) || (!(bt200.2.2.1 == t175) || (!(bt200.2.2.2.1 == t176) || (!(bt200.2.2.2.2 == t177)))))) a0_0 a0_1 a0_2 a0_3 a0_4 bt193.1 bt193.2.1 bt193.2.2.1 bt193.2.2.2.1 bt193.2.2.2.2.1))) else (rivuletlaw06_HopoptHops.j0 k a1 a2 a3 bt186.1 bt186.2 bt193.2.2.2.2.2 true a0_0 a0_1 a0_2 a0_3 a0_4 bt193.1 bt193.2.1 bt193.2.2.1 bt193.2.2.2.1 bt193.2.2.2.2.1))))) = some r := H
  have A8 := Aside0.mk A80
  clear A80
  replace H := Option.bind_eq_some_iff.mp H
  obtain ⟨⟨t186, t187⟩, A90, H⟩ := H
  replace H : ((rivuletlaw06_To.f a0_0 a0_1 a0_2 a0_3 a0_4).bind fun bt188 => ((hopopt_Mark.f k bt188.1 bt188.2.1 bt188.2.2.1 bt188.2.2.2.1 bt188.2.2.2.2 a1 a3).bind fun bt193 => (if t171 = t179 then (if (t170 != t178) = true then (rivuletlaw06_HopoptHops.j0 k a1 a2 a3 t186 t187 bt193.2.2.2.2.2 true a0_0 a0_1 a0_2 a0_3 a0_4 bt193.1 bt193.2.1 bt193.2.2.1 bt193.2.2.2.1 bt193.2.2.2.2.1) else ((rivuletlaw06_Of.f t165 t166 t167 t168 t169).bind fun bt200 => (rivuletlaw06_HopoptHops.j0 k a1 a2 a3 t186 t187 bt193.2.2.2.2.2 (!(bt200.1 == t173) || (!(bt200.2.1 == t174) || (!(bt200.2.2.1 == t175) || (!(bt200.2.2.2.1 == t176) || (!(bt200.2.2.2.2 == t177)))))) a0_0 a0_1 a0_2 a0_3 a0_4 bt193.1 bt193.2.1 bt193.2.2.1 bt193.2.2.2.1 bt193.2.2.2.2.1))) else (rivuletlaw06_HopoptHops.j0 k a1 a2 a3 t186 t187 bt193.2.2.2.2.2 true a0_0 a0_1 a0_2 a0_3 a0_4 bt193.1 bt193.2.1 bt193.2.2.1 bt193.2.2.2.1 bt193.2.2.2.2.1)))) = some r := H
  have A9 := Aside0.mk A90
  clear A90
  replace H := Option.bind_eq_some_iff.mp H
  obtain ⟨⟨t188, t189, t190, t191, t192⟩, A100, H⟩ := H
  replace H : ((hopopt_Mark.f k t188 t189 t190 t191 t192 a1 a3).bind fun bt193 => (if t171 = t179 then (if (t170 != t178) = true then (rivuletlaw06_HopoptHops.j0 k a1 a2 a3 t186 t187 bt193.2.2.2.2.2 true a0_0 a0_1 a0_2 a0_3 a0_4 bt193.1 bt193.2.1 bt193.2.2.1 bt193.2.2.2.1 bt193.2.2.2.2.1) else ((rivuletlaw06_Of.f t165 t166 t167 t168 t169).bind fun bt200 => (rivuletlaw06_HopoptHops.j0 k a1 a2 a3 t186 t187 bt193.2.2.2.2.2 (!(bt200.1 == t173) || (!(bt200.2.1 == t174) || (!(bt200.2.2.1 == t175) || (!(bt200.2.2.2.1 == t176) || (!(bt200.2.2.2.2 == t177)))))) a0_0 a0_1 a0_2 a0_3 a0_4 bt193.1 bt193.2.1 bt193.2.2.1 bt193.2.2.2.1 bt193.2.2.2.2.1))) else (rivuletlaw06_HopoptHops.j0 k a1 a2 a3 t186 t187 bt193.2.2.2.2.2 true a0_0 a0_1 a0_2 a0_3 a0_4 bt193.1 bt193.2.1 bt193.2.2.1 bt193.2.2.2.1 bt193.2.2.2.2.1))) = some r := H
  have A10 := Aside0.mk A100
  clear A100
  replace H := Option.bind_eq_some_iff.mp H
  obtain ⟨⟨t193, t194, t195, t196, t197, t198⟩, A110, H⟩ := H
  replace H : (if t171 = t179 then (if (t170 != t178) = true then (rivuletlaw06_HopoptHops.j0 k a1 a2 a3 t186 t187 t198 true a0_0 a0_1 a0_2 a0_3 a0_4 t193 t194 t195 t196 t197) else ((rivuletlaw06_Of.f t165 t166 t167 t168 t169).bind fun bt200 => (rivuletlaw06_HopoptHops.j0 k a1 a2 a3 t186 t187 t198 (!(bt200.1 == t173) || (!(bt200.2.1 == t174) || (!(bt200.2.2.1 == t175) || (!(bt200.2.2.2.1 == t176) || (!(bt200.2.2.2.2 == t177)))))) a0_0 a0_1 a0_2 a0_3 a0_4 t193 t194 t195 t196 t197))) else (rivuletlaw06_HopoptHops.j0 k a1 a2 a3 t186 t187 t198 true a0_0 a0_1 a0_2 a0_3 a0_4 t193 t194 t195 t196 t197)) = some r := H
  have A11 := Aside0.mk A110
  clear A110
  have HC12 := Aside0.mk H
  clear H
  go_enter Try.func4, Try.ntmps4
  go_upto_region 5 with (first | ((with_reducible refine gate_dst (N := 4) rfl ?_); refine box_event ?hg (N := 4) ?hd (cs := #[.bool a0_0, .bool a0_1, .bool a0_2, .int .i64 a0_3, .int .i64 a0_4]) (t := 23) ?hr ?_; (case hd => rfl); (case hg => rfl); (case hr => first | (go_simp; done) | (go_simp; rfl)); intro gb159 hg w13 hbox hb; have n0_ := Aside0.mk (below_step (by repeat (first | (with_reducible first | exact HB.out | apply below_alloc | apply pw_below_drewN | apply below_drew1) | exact HB.out)) hb); have n1_ := Aside0.mk (hbox); have n2_ := Aside0.mk ((by rw [hg]; exact (below_size (by repeat (first | (with_reducible first | exact HB.out | apply below_alloc | apply pw_below_drewN | apply below_drew1) | exact HB.out))) : w.heap.size ≤ gb159)); have n3_ := Aside0.mk ((by rw [hg]; exact (below_size (by repeat (first | (with_reducible first | exact HB.out | apply below_alloc | apply pw_below_drewN | apply below_drew1) | exact HB.out))) : w.heap.size ≤ gb159)); clear HB; have HB := n0_; have BK159 := n1_; have GW159 := n2_; have GE159 := n3_; clear n0_ n1_ n2_ n3_; clear hb hbox hg; have hcz14_0 : w13.cell? ⟨gb159, 0, none⟩ = some (.bool a0_0) := (blk_cell BK159.out 0).trans rfl; have hcz14_1 : w13.cell? ⟨gb159, 1, none⟩ = some (.bool a0_1) := (blk_cell BK159.out 1).trans rfl; have hcz14_2 : w13.cell? ⟨gb159, 2, none⟩ = some (.bool a0_2) := (blk_cell BK159.out 2).trans rfl; have hcz14_3 : w13.cell? ⟨gb159, 3, none⟩ = some (.int .i64 a0_3) := (blk_cell BK159.out 3).trans rfl; have hcz14_4 : w13.cell? ⟨gb159, 4, none⟩ = some (.int .i64 a0_4) := (blk_cell BK159.out 4).trans rfl; have hfz14_0 := blk_frozen BK159.out 0; have hfz14_1 := blk_frozen BK159.out 1; have hfz14_2 := blk_frozen BK159.out 2; have hfz14_3 := blk_frozen BK159.out 3; have hfz14_4 := blk_frozen BK159.out 4) | ((with_reducible refine gate_callee (f := 15) rfl ?_); refine goesL_ (some 22) rfl rfl Try.func15 (by kernel_rfl) rfl #[.agg #[.bool a0_0, .bool a0_1, .bool a0_2, .int .i64 a0_3, .int .i64 a0_4]] rfl (by (try simp only [List.map_toArray, List.map_cons, List.map_nil]); first | done | rfl | (simp only [List.length_drop, List.length_take]; rfl)) ?_; (with_reducible refine (rivuletlaw06_To.calls a0_0 a0_1 a0_2 a0_3 a0_4 t160 t161 t162 t163 t164 _ A5.out).mono ?_); rintro e w15 ⟨rfl, hb⟩; refine ⟨_, rfl, ?_⟩; have n0_ := Aside0.mk (blk_below (g := gb159) (o := .cells #[.bool a0_0, .bool a0_1, .bool a0_2, .int .i64 a0_3, .int .i64 a0_4] 23 (0, 0)) (by (with_reducible repeat (first | refine blk_drewN ?_ _ | refine blk_drew ?_ | refine blk_alloc ?_ _)); exact BK159.out) hb); have n1_ := Aside0.mk (below_step (by repeat (first | (with_reducible first | exact HB.out | apply below_alloc | apply pw_below_drewN | apply below_drew1 | refine below_set ?_ GE159.out) | exact HB.out)) hb); clear BK159; clear HB; have BK159 := n0_; have HB := n1_; clear n0_ n1_; (try clear hb); (try clear hb2); (try clear hk); (try clear hi)) | ((with_reducible refine gate_callee (f := 19) rfl ?_); refine goesL_ (some 25) rfl rfl Try.func19 (by kernel_rfl) rfl #[.agg #[.bool t160, .bool t161, .bool t162, .int .i64 t163, .int .i64 t164], .int .i64 a1, .int .i64 a2] rfl (by (try simp only [List.map_toArray, List.map_cons, List.map_nil]); first | done | rfl | (simp only [List.length_drop, List.length_take]; rfl)) ?_; (with_reducible refine (hopopt_Hop.calls k t160 t161 t162 t163 t164 a1 a2 t165 t166 t167 t168 t169 t170 t171 _ A6.out).mono ?_); rintro e w16 ⟨rfl, hb⟩; refine ⟨_, rfl, ?_⟩; have n0_ := Aside0.mk (blk_below (g := gb159) (o := .cells #[.bool a0_0, .bool a0_1, .bool a0_2, .int .i64 a0_3, .int .i64 a0_4] 23 (0, 0)) (by (with_reducible repeat (first | refine blk_drewN ?_ _ | refine blk_drew ?_ | refine blk_alloc ?_ _)); exact BK159.out) hb); have n1_ := Aside0.mk (below_step (by repeat (first | (with_reducible first | exact HB.out | apply below_alloc | apply pw_below_drewN | apply below_drew1 | refine below_set ?_ GE159.out) | exact HB.out)) hb); clear BK159; clear HB; have BK159 := n0_; have HB := n1_; clear n0_ n1_; (try clear hb); (try clear hb2); (try clear hk); (try clear hi)) | ((with_reducible refine gate_dst (N := 9) rfl ?_); refine box_event ?hg (N := 9) ?hd (cs := #[.bool false, .bool false, .bool false, .int .i64 0, .int .i64 0]) (t := 25) ?hr ?_; (case hd => rfl); (case hg => rfl); (case hr => first | (go_simp; done) | (go_simp; rfl)); intro gb172 hg w17 hbox hb; have n0_ := Aside0.mk (blk_below (g := gb159) (o := .cells #[.bool a0_0, .bool a0_1, .bool a0_2, .int .i64 a0_3, .int .i64 a0_4] 23 (0, 0)) (by (with_reducible repeat (first | refine blk_drewN ?_ _ | refine blk_drew ?_ | refine blk_alloc ?_ _)); exact BK159.out) hb); have n1_ := Aside0.mk (below_step (by repeat (first | (with_reducible first | exact HB.out | apply below_alloc | apply pw_below_drewN | apply below_drew1 | refine below_set ?_ GE159.out) | exact HB.out)) hb); have n2_ := Aside0.mk (hbox); have n3_ := Aside0.mk ((by rw [hg]; exact (below_size (by repeat (first | (with_reducible first | exact HB.out | apply below_alloc | apply pw_below_drewN | apply below_drew1 | refine below_set ?_ GE159.out) | exact HB.out))) : w.heap.size ≤ gb172)); have n4_ := Aside0.mk ((by rw [hg]; exact (below_size (by repeat (first | (with_reducible first | exact HB.out | apply below_alloc | apply pw_below_drewN | apply below_drew1 | refine below_set ?_ GE159.out) | exact HB.out))) : w.heap.size ≤ gb172)); have n5_ := Aside0.mk ((by rw [hg]; exact Nat.ne_of_lt (blk_lt (g := gb159) (o := .cells #[.bool a0_0, .bool a0_1, .bool a0_2, .int .i64 a0_3, .int .i64 a0_4] 23 (0, 0)) (by (with_reducible repeat (first | refine blk_drewN ?_ _ | refine blk_drew ?_ | refine blk_alloc ?_ _)); exact BK159.out)) : gb159 ≠ gb172)); have n6_ := Aside0.mk ((by rw [hg]; exact Nat.ne_of_gt (blk_lt (g := gb159) (o := .cells #[.bool a0_0, .bool a0_1, .bool a0_2, .int .i64 a0_3, .int .i64 a0_4] 23 (0, 0)) (by (with_reducible repeat (first | refine blk_drewN ?_ _ | refine blk_drew ?_ | refine blk_alloc ?_ _)); exact BK159.out)) : gb172 ≠ gb159)); clear BK159; clear HB; have BK159 := n0_; have HB := n1_; have BK172 := n2_; have GW172 := n3_; have GE172 := n4_; have NB159_172 := n5_; have NB172_159 := n6_; clear n0_ n1_ n2_ n3_ n4_ n5_ n6_; clear hb hbox hg; have hnb18 := NB172_159.out; have hnc18 := NB159_172.out; have hcz19_0 : w17.cell? ⟨gb172, 0, none⟩ = some (.bool false) := (blk_cell BK172.out 0).trans rfl; have hcz19_1 : w17.cell? ⟨gb172, 1, none⟩ = some (.bool false) := (blk_cell BK172.out 1).trans rfl; have hcz19_2 : w17.cell? ⟨gb172, 2, none⟩ = some (.bool false) := (blk_cell BK172.out 2).trans rfl; have hcz19_3 : w17.cell? ⟨gb172, 3, none⟩ = some (.int .i64 0) := (blk_cell BK172.out 3).trans rfl; have hcz19_4 : w17.cell? ⟨gb172, 4, none⟩ = some (.int .i64 0) := (blk_cell BK172.out 4).trans rfl; have hfz19_0 := blk_frozen BK172.out 0; have hfz19_1 := blk_frozen BK172.out 1; have hfz19_2 := blk_frozen BK172.out 2; have hfz19_3 := blk_frozen BK172.out 3; have hfz19_4 := blk_frozen BK172.out 4; have hcz20_0 : w17.cell? ⟨gb159, 0, none⟩ = some (.bool a0_0) := (blk_cell BK159.out 0).trans rfl; have hcz20_1 : w17.cell? ⟨gb159, 1, none⟩ = some (.bool a0_1) := (blk_cell BK159.out 1).trans rfl; have hcz20_2 : w17.cell? ⟨gb159, 2, none⟩ = some (.bool a0_2) := (blk_cell BK159.out 2).trans rfl; have hcz20_3 : w17.cell? ⟨gb159, 3, none⟩ = some (.int .i64 a0_3) := (blk_cell BK159.out 3).trans rfl; have hcz20_4 : w17.cell? ⟨gb159, 4, none⟩ = some (.int .i64 a0_4) := (blk_cell BK159.out 4).trans rfl; have hfz20_0 := blk_frozen BK159.out 0; have hfz20_1 := blk_frozen BK159.out 1; have hfz20_2 := blk_frozen BK159.out 2; have hfz20_3 := blk_frozen BK159.out 3; have hfz20_4 := blk_frozen BK159.out 4) | ((with_reducible refine gate_callee (f := 20) rfl ?_); refine goesL_ (some 33) rfl rfl Try.func20 (by kernel_rfl) rfl #[.agg #[.bool a0_0, .bool a0_1, .bool a0_2, .int .i64 a0_3, .int .i64 a0_4], .int .i64 a1, .int .i64 a2] rfl (by (try simp only [List.map_toArray, List.map_cons, List.map_nil]); first | done | rfl | (simp only [List.length_drop, List.length_take]; rfl)) ?_; (with_reducible refine (rivuletref06_Hop.calls k a0_0 a0_1 a0_2 a0_3 a0_4 a1 a2 t173 t174 t175 t176 t177 t178 t179 _ A7.out).mono ?_); rintro e w21 ⟨rfl, hb⟩; refine ⟨_, rfl, ?_⟩; have n0_ := Aside0.mk (blk_below (g := gb159) (o := .cells #[.bool a0_0, .bool a0_1, .bool a0_2, .int .i64 a0_3, .int .i64 a0_4] 23 (0, 0)) (by (with_reducible repeat (first | refine blk_drewN ?_ _ | refine blk_drew ?_ | refine blk_alloc ?_ _)); refine blk_far ?_ NB159_172.out _; (with_reducible repeat (first | refine blk_drewN ?_ _ | refine blk_drew ?_ | refine blk_alloc ?_ _)); refine blk_far ?_ NB159_172.out _; (with_reducible repeat (first | refine blk_drewN ?_ _ | refine blk_drew ?_ | refine blk_alloc ?_ _)); refine blk_far ?_ NB159_172.out _; (with_reducible repeat (first | refine blk_drewN ?_ _ | refine blk_drew ?_ | refine blk_alloc ?_ _)); refine blk_far ?_ NB159_172.out _; (with_reducible repeat (first | refine blk_drewN ?_ _ | refine blk_drew ?_ | refine blk_alloc ?_ _)); refine blk_far ?_ NB159_172.out _; (with_reducible repeat (first | refine blk_drewN ?_ _ | refine blk_drew ?_ | refine blk_alloc ?_ _)); exact BK159.out) hb); have n1_ := Aside0.mk (blk_below (g := gb172) (o := .cells #[.bool t165, .bool t166, .bool t167, .int .i64 t168, .int .i64 t169] 25 (0, 0)) (by (with_reducible repeat (first | refine blk_drewN ?_ _ | refine blk_drew ?_ | refine blk_alloc ?_ _)); refine blk_put (cs := #[.bool t165, .bool t166, .bool t167, .int .i64 t168, .int .i64 0]) ?_ 4 _ rfl; (with_reducible repeat (first | refine blk_drewN ?_ _ | refine blk_drew ?_ | refine blk_alloc ?_ _)); refine blk_put (cs := #[.bool t165, .bool t166, .bool t167, .int .i64 0, .int .i64 0]) ?_ 3 _ rfl; (with_reducible repeat (first | refine blk_drewN ?_ _ | refine blk_drew ?_ | refine blk_alloc ?_ _)); refine blk_put (cs := #[.bool t165, .bool t166, .bool false, .int .i64 0, .int .i64 0]) ?_ 2 _ rfl; (with_reducible repeat (first | refine blk_drewN ?_ _ | refine blk_drew ?_ | refine blk_alloc ?_ _)); refine blk_put (cs := #[.bool t165, .bool false, .bool false, .int .i64 0, .int .i64 0]) ?_ 1 _ rfl; (with_reducible repeat (first | refine blk_drewN ?_ _ | refine blk_drew ?_ | refine blk_alloc ?_ _)); refine blk_put (cs := #[.bool false, .bool false, .bool false, .int .i64 0, .int .i64 0]) ?_ 0 _ rfl; (with_reducible repeat (first | refine blk_drewN ?_ _ | refine blk_drew ?_ | refine blk_alloc ?_ _)); exact BK172.out) hb); have n2_ := Aside0.mk (below_step (by repeat (first | (with_reducible first | exact HB.out | apply below_alloc | apply pw_below_drewN | apply below_drew1 | refine below_set ?_ GE159.out | refine below_set ?_ GE172.out) | exact HB.out)) hb); clear BK159; clear BK172; clear HB; have BK159 := n0_; have BK172 := n1_; have HB := n2_; clear n0_ n1_ n2_; (try clear hb); (try clear hb2); (try clear hk); (try clear hi)) | ((with_reducible refine gate_dst (N := 12) rfl ?_); refine box_event ?hg (N := 12) ?hd (cs := #[.bool false, .bool false, .bool false, .int .i64 0, .int .i64 0]) (t := 23) ?hr ?_; (case hd => rfl); (case hg => rfl); (case hr => first | (go_simp; done) | (go_simp; rfl)); intro gb180 hg w22 hbox hb; have n0_ := Aside0.mk (blk_below (g := gb159) (o := .cells #[.bool a0_0, .bool a0_1, .bool a0_2, .int .i64 a0_3, .int .i64 a0_4] 23 (0, 0)) (by (with_reducible repeat (first | refine blk_drewN ?_ _ | refine blk_drew ?_ | refine blk_alloc ?_ _)); exact BK159.out) hb); have n1_ := Aside0.mk (blk_below (g := gb172) (o := .cells #[.bool t165, .bool t166, .bool t167, .int .i64 t168, .int .i64 t169] 25 (0, 0)) (by (with_reducible repeat (first | refine blk_drewN ?_ _ | refine blk_drew ?_ | refine blk_alloc ?_ _)); exact BK172.out) hb); have n2_ := Aside0.mk (below_step (by repeat (first | (with_reducible first | exact HB.out | apply below_alloc | apply pw_below_drewN | apply below_drew1 | refine below_set ?_ GE159.out | refine below_set ?_ GE172.out) | exact HB.out)) hb); have n3_ := Aside0.mk (hbox); have n4_ := Aside0.mk ((by rw [hg]; exact (below_size (by repeat (first | (with_reducible first | exact HB.out | apply below_alloc | apply pw_below_drewN | apply below_drew1 | refine below_set ?_ GE159.out | refine below_set ?_ GE172.out) | exact HB.out))) : w.heap.size ≤ gb180)); have n5_ := Aside0.mk ((by rw [hg]; exact (below_size (by repeat (first | (with_reducible first | exact HB.out | apply below_alloc | apply pw_below_drewN | apply below_drew1 | refine below_set ?_ GE159.out | refine below_set ?_ GE172.out) | exact HB.out))) : w.heap.size ≤ gb180)); have n6_ := Aside0.mk ((by rw [hg]; exact Nat.ne_of_lt (blk_lt (g := gb159) (o := .cells #[.bool a0_0, .bool a0_1, .bool a0_2, .int .i64 a0_3, .int .i64 a0_4] 23 (0, 0)) (by (with_reducible repeat (first | refine blk_drewN ?_ _ | refine blk_drew ?_ | refine blk_alloc ?_ _)); exact BK159.out)) : gb159 ≠ gb180)); have n7_ := Aside0.mk ((by rw [hg]; exact Nat.ne_of_gt (blk_lt (g := gb159) (o := .cells #[.bool a0_0, .bool a0_1, .bool a0_2, .int .i64 a0_3, .int .i64 a0_4] 23 (0, 0)) (by (with_reducible repeat (first | refine blk_drewN ?_ _ | refine blk_drew ?_ | refine blk_alloc ?_ _)); exact BK159.out)) : gb180 ≠ gb159)); have n8_ := Aside0.mk ((by rw [hg]; exact Nat.ne_of_lt (blk_lt (g := gb172) (o := .cells #[.bool t165, .bool t166, .bool t167, .int .i64 t168, .int .i64 t169] 25 (0, 0)) (by (with_reducible repeat (first | refine blk_drewN ?_ _ | refine blk_drew ?_ | refine blk_alloc ?_ _)); exact BK172.out)) : gb172 ≠ gb180)); have n9_ := Aside0.mk ((by rw [hg]; exact Nat.ne_of_gt (blk_lt (g := gb172) (o := .cells #[.bool t165, .bool t166, .bool t167, .int .i64 t168, .int .i64 t169] 25 (0, 0)) (by (with_reducible repeat (first | refine blk_drewN ?_ _ | refine blk_drew ?_ | refine blk_alloc ?_ _)); exact BK172.out)) : gb180 ≠ gb172)); clear BK159; clear BK172; clear HB; have BK159 := n0_; have BK172 := n1_; have HB := n2_; have BK180 := n3_; have GW180 := n4_; have GE180 := n5_; have NB159_180 := n6_; have NB180_159 := n7_; have NB172_180 := n8_; have NB180_172 := n9_; clear n0_ n1_ n2_ n3_ n4_ n5_ n6_ n7_ n8_ n9_; clear hb hbox hg; have hnb23 := NB180_159.out; have hnc23 := NB159_180.out; have hnb24 := NB180_172.out; have hnc24 := NB172_180.out; have hcz25_0 : w22.cell? ⟨gb180, 0, none⟩ = some (.bool false) := (blk_cell BK180.out 0).trans rfl; have hcz25_1 : w22.cell? ⟨gb180, 1, none⟩ = some (.bool false) := (blk_cell BK180.out 1).trans rfl; have hcz25_2 : w22.cell? ⟨gb180, 2, none⟩ = some (.bool false) := (blk_cell BK180.out 2).trans rfl; have hcz25_3 : w22.cell? ⟨gb180, 3, none⟩ = some (.int .i64 0) := (blk_cell BK180.out 3).trans rfl; have hcz25_4 : w22.cell? ⟨gb180, 4, none⟩ = some (.int .i64 0) := (blk_cell BK180.out 4).trans rfl; have hfz25_0 := blk_frozen BK180.out 0; have hfz25_1 := blk_frozen BK180.out 1; have hfz25_2 := blk_frozen BK180.out 2; have hfz25_3 := blk_frozen BK180.out 3; have hfz25_4 := blk_frozen BK180.out 4; have hcz26_0 : w22.cell? ⟨gb159, 0, none⟩ = some (.bool a0_0) := (blk_cell BK159.out 0).trans rfl; have hcz26_1 : w22.cell? ⟨gb159, 1, none⟩ = some (.bool a0_1) := (blk_cell BK159.out 1).trans rfl; have hcz26_2 : w22.cell? ⟨gb159, 2, none⟩ = some (.bool a0_2) := (blk_cell BK159.out 2).trans rfl; have hcz26_3 : w22.cell? ⟨gb159, 3, none⟩ = some (.int .i64 a0_3) := (blk_cell BK159.out 3).trans rfl; have hcz26_4 : w22.cell? ⟨gb159, 4, none⟩ = some (.int .i64 a0_4) := (blk_cell BK159.out 4).trans rfl; have hfz26_0 := blk_frozen BK159.out 0; have hfz26_1 := blk_frozen BK159.out 1; have hfz26_2 := blk_frozen BK159.out 2; have hfz26_3 := blk_frozen BK159.out 3; have hfz26_4 := blk_frozen BK159.out 4) | ((with_reducible refine gate_callee (f := 15) rfl ?_); refine goesL_ (some 39) rfl rfl Try.func15 (by kernel_rfl) rfl #[.agg #[.bool a0_0, .bool a0_1, .bool a0_2, .int .i64 a0_3, .int .i64 a0_4]] rfl (by (try simp only [List.map_toArray, List.map_cons, List.map_nil]); first | done | rfl | (simp only [List.length_drop, List.length_take]; rfl)) ?_; (with_reducible refine (rivuletlaw06_To.calls a0_0 a0_1 a0_2 a0_3 a0_4 t181 t182 t183 t184 t185 _ A8.out).mono ?_); rintro e w27 ⟨rfl, hb⟩; refine ⟨_, rfl, ?_⟩; have n0_ := Aside0.mk (blk_below (g := gb159) (o := .cells #[.bool a0_0, .bool a0_1, .bool a0_2, .int .i64 a0_3, .int .i64 a0_4] 23 (0, 0)) (by (with_reducible repeat (first | refine blk_drewN ?_ _ | refine blk_drew ?_ | refine blk_alloc ?_ _)); refine blk_far ?_ NB159_180.out _; (with_reducible repeat (first | refine blk_drewN ?_ _ | refine blk_drew ?_ | refine blk_alloc ?_ _)); refine blk_far ?_ NB159_180.out _; (with_reducible repeat (first | refine blk_drewN ?_ _ | refine blk_drew ?_ | refine blk_alloc ?_ _)); refine blk_far ?_ NB159_180.out _; (with_reducible repeat (first | refine blk_drewN ?_ _ | refine blk_drew ?_ | refine blk_alloc ?_ _)); refine blk_far ?_ NB159_180.out _; (with_reducible repeat (first | refine blk_drewN ?_ _ | refine blk_drew ?_ | refine blk_alloc ?_ _)); refine blk_far ?_ NB159_180.out _; (with_reducible repeat (first | refine blk_drewN ?_ _ | refine blk_drew ?_ | refine blk_alloc ?_ _)); exact BK159.out) hb); have n1_ := Aside0.mk (blk_below (g := gb172) (o := .cells #[.bool t165, .bool t166, .bool t167, .int .i64 t168, .int .i64 t169] 25 (0, 0)) (by (with_reducible repeat (first | refine blk_drewN ?_ _ | refine blk_drew ?_ | refine blk_alloc ?_ _)); refine blk_far ?_ NB172_180.out _; (with_reducible repeat (first | refine blk_drewN ?_ _ | refine blk_drew ?_ | refine blk_alloc ?_ _)); refine blk_far ?_ NB172_180.out _; (with_reducible repeat (first | refine blk_drewN ?_ _ | refine blk_drew ?_ | refine blk_alloc ?_ _)); refine blk_far ?_ NB172_180.out _; (with_reducible repeat (first | refine blk_drewN ?_ _ | refine blk_drew ?_ | refine blk_alloc ?_ _)); refine blk_far ?_ NB172_180.out _; (with_reducible repeat (first | refine blk_drewN ?_ _ | refine blk_drew ?_ | refine blk_alloc ?_ _)); refine blk_far ?_ NB172_180.out _; (with_reducible repeat (first | refine blk_drewN ?_ _ | refine blk_drew ?_ | refine blk_alloc ?_ _)); exact BK172.out) hb); have n2_ := Aside0.mk (blk_below (g := gb180) (o := .cells #[.bool t173, .bool t174, .bool t175, .int .i64 t176, .int .i64 t177] 23 (0, 0)) (by (with_reducible repeat (first | refine blk_drewN ?_ _ | refine blk_drew ?_ | refine blk_alloc ?_ _)); refine blk_put (cs := #[.bool t173, .bool t174, .bool t175, .int .i64 t176, .int .i64 0]) ?_ 4 _ rfl; (with_reducible repeat (first | refine blk_drewN ?_ _ | refine blk_drew ?_ | refine blk_alloc ?_ _)); refine blk_put (cs := #[.bool t173, .bool t174, .bool t175, .int .i64 0, .int .i64 0]) ?_ 3 _ rfl; (with_reducible repeat (first | refine blk_drewN ?_ _ | refine blk_drew ?_ | refine blk_alloc ?_ _)); refine blk_put (cs := #[.bool t173, .bool t174, .bool false, .int .i64 0, .int .i64 0]) ?_ 2 _ rfl; (with_reducible repeat (first | refine blk_drewN ?_ _ | refine blk_drew ?_ | refine blk_alloc ?_ _)); refine blk_put (cs := #[.bool t173, .bool false, .bool false, .int .i64 0, .int .i64 0]) ?_ 1 _ rfl; (with_reducible repeat (first | refine blk_drewN ?_ _ | refine blk_drew ?_ | refine blk_alloc ?_ _)); refine blk_put (cs := #[.bool false, .bool false, .bool false, .int .i64 0, .int .i64 0]) ?_ 0 _ rfl; (with_reducible repeat (first | refine blk_drewN ?_ _ | refine blk_drew ?_ | refine blk_alloc ?_ _)); exact BK180.out) hb); have n3_ := Aside0.mk (below_step (by repeat (first | (with_reducible first | exact HB.out | apply below_alloc | apply pw_below_drewN | apply below_drew1 | refine below_set ?_ GE159.out | refine below_set ?_ GE172.out | refine below_set ?_ GE180.out) | exact HB.out)) hb); clear BK159; clear BK172; clear BK180; clear HB; have BK159 := n0_; have BK172 := n1_; have BK180 := n2_; have HB := n3_; clear n0_ n1_ n2_ n3_; (try clear hb); (try clear hb2); (try clear hk); (try clear hi)) | ((with_reducible refine gate_callee (f := 18) rfl ?_); refine goesL_ (some 42) rfl rfl Try.func18 (by kernel_rfl) rfl #[.agg #[.bool t181, .bool t182, .bool t183, .int .i64 t184, .int .i64 t185], .int .i64 a1, .int .i64 a2] rfl (by (try simp only [List.map_toArray, List.map_cons, List.map_nil]); first | done | rfl | (simp only [List.length_drop, List.length_take]; rfl)) ?_; (with_reducible refine (hopopt_Consistent.calls k t181 t182 t183 t184 t185 a1 a2 t186 t187 _ A9.out).mono ?_); rintro e w28 ⟨rfl, hb⟩; refine ⟨_, rfl, ?_⟩; have n0_ := Aside0.mk (blk_below (g := gb159) (o := .cells #[.bool a0_0, .bool a0_1, .bool a0_2, .int .i64 a0_3, .int .i64 a0_4] 23 (0, 0)) (by (with_reducible repeat (first | refine blk_drewN ?_ _ | refine blk_drew ?_ | refine blk_alloc ?_ _)); exact BK159.out) hb); have n1_ := Aside0.mk (blk_below (g := gb172) (o := .cells #[.bool t165, .bool t166, .bool t167, .int .i64 t168, .int .i64 t169] 25 (0, 0)) (by (with_reducible repeat (first | refine blk_drewN ?_ _ | refine blk_drew ?_ | refine blk_alloc ?_ _)); exact BK172.out) hb); have n2_ := Aside0.mk (blk_below (g := gb180) (o := .cells #[.bool t173, .bool t174, .bool t175, .int .i64 t176, .int .i64 t177] 23 (0, 0)) (by (with_reducible repeat (first | refine blk_drewN ?_ _ | refine blk_drew ?_ | refine blk_alloc ?_ _)); exact BK180.out) hb); have n3_ := Aside0.mk (below_step (by repeat (first | (with_reducible first | exact HB.out | apply below_alloc | apply pw_below_drewN | apply below_drew1 | refine below_set ?_ GE159.out | refine below_set ?_ GE172.out | refine below_set ?_ GE180.out) | exact HB.out)) hb); clear BK159; clear BK172; clear BK180; clear HB; have BK159 := n0_; have BK172 := n1_; have BK180 := n2_; have HB := n3_; clear n0_ n1_ n2_ n3_; (try clear hb); (try clear hb2); (try clear hk); (try clear hi); have hcz29_0 : w28.cell? ⟨gb159, 0, none⟩ = some (.bool a0_0) := (blk_cell BK159.out 0).trans rfl; have hcz29_1 : w28.cell? ⟨gb159, 1, none⟩ = some (.bool a0_1) := (blk_cell BK159.out 1).trans rfl; have hcz29_2 : w28.cell? ⟨gb159, 2, none⟩ = some (.bool a0_2) := (blk_cell BK159.out 2).trans rfl; have hcz29_3 : w28.cell? ⟨gb159, 3, none⟩ = some (.int .i64 a0_3) := (blk_cell BK159.out 3).trans rfl; have hcz29_4 : w28.cell? ⟨gb159, 4, none⟩ = some (.int .i64 a0_4) := (blk_cell BK159.out 4).trans rfl; have hfz29_0 := blk_frozen BK159.out 0; have hfz29_1 := blk_frozen BK159.out 1; have hfz29_2 := blk_frozen BK159.out 2; have hfz29_3 := blk_frozen BK159.out 3; have hfz29_4 := blk_frozen BK159.out 4) | ((with_reducible refine gate_callee (f := 15) rfl ?_); refine goesL_ (some 47) rfl rfl Try.func15 (by kernel_rfl) rfl #[.agg #[.bool a0_0, .bool a0_1, .bool a0_2, .int .i64 a0_3, .int .i64 a0_4]] rfl (by (try simp only [List.map_toArray, List.map_cons, List.map_nil]); first | done | rfl | (simp only [List.length_drop, List.length_take]; rfl)) ?_; (with_reducible refine (rivuletlaw06_To.calls a0_0 a0_1 a0_2 a0_3 a0_4 t188 t189 t190 t191 t192 _ A10.out).mono ?_); rintro e w30 ⟨rfl, hb⟩; refine ⟨_, rfl, ?_⟩; have n0_ := Aside0.mk (blk_below (g := gb159) (o := .cells #[.bool a0_0, .bool a0_1, .bool a0_2, .int .i64 a0_3, .int .i64 a0_4] 23 (0, 0)) (by (with_reducible repeat (first | refine blk_drewN ?_ _ | refine blk_drew ?_ | refine blk_alloc ?_ _)); exact BK159.out) hb); have n1_ := Aside0.mk (blk_below (g := gb172) (o := .cells #[.bool t165, .bool t166, .bool t167, .int .i64 t168, .int .i64 t169] 25 (0, 0)) (by (with_reducible repeat (first | refine blk_drewN ?_ _ | refine blk_drew ?_ | refine blk_alloc ?_ _)); exact BK172.out) hb); have n2_ := Aside0.mk (blk_below (g := gb180) (o := .cells #[.bool t173, .bool t174, .bool t175, .int .i64 t176, .int .i64 t177] 23 (0, 0)) (by (with_reducible repeat (first | refine blk_drewN ?_ _ | refine blk_drew ?_ | refine blk_alloc ?_ _)); exact BK180.out) hb); have n3_ := Aside0.mk (below_step (by repeat (first | (with_reducible first | exact HB.out | apply below_alloc | apply pw_below_drewN | apply below_drew1 | refine below_set ?_ GE159.out | refine below_set ?_ GE172.out | refine below_set ?_ GE180.out) | exact HB.out)) hb); clear BK159; clear BK172; clear BK180; clear HB; have BK159 := n0_; have BK172 := n1_; have BK180 := n2_; have HB := n3_; clear n0_ n1_ n2_ n3_; (try clear hb); (try clear hb2); (try clear hk); (try clear hi)) | ((with_reducible refine gate_callee (f := 21) rfl ?_); refine goesL_ (some 50) rfl rfl Try.func21 (by kernel_rfl) rfl #[.agg #[.bool t188, .bool t189, .bool t190, .int .i64 t191, .int .i64 t192], .int .i64 a1, .bool a3] rfl (by (try simp only [List.map_toArray, List.map_cons, List.map_nil]); first | done | rfl | (simp only [List.length_drop, List.length_take]; rfl)) ?_; (with_reducible refine (hopopt_Mark.calls k t188 t189 t190 t191 t192 a1 a3 t193 t194 t195 t196 t197 t198 _ A11.out).mono ?_); rintro e w31 ⟨rfl, hb⟩; refine ⟨_, rfl, ?_⟩; have n0_ := Aside0.mk (blk_below (g := gb159) (o := .cells #[.bool a0_0, .bool a0_1, .bool a0_2, .int .i64 a0_3, .int .i64 a0_4] 23 (0, 0)) (by (with_reducible repeat (first | refine blk_drewN ?_ _ | refine blk_drew ?_ | refine blk_alloc ?_ _)); exact BK159.out) hb); have n1_ := Aside0.mk (blk_below (g := gb172) (o := .cells #[.bool t165, .bool t166, .bool t167, .int .i64 t168, .int .i64 t169] 25 (0, 0)) (by (with_reducible repeat (first | refine blk_drewN ?_ _ | refine blk_drew ?_ | refine blk_alloc ?_ _)); exact BK172.out) hb); have n2_ := Aside0.mk (blk_below (g := gb180) (o := .cells #[.bool t173, .bool t174, .bool t175, .int .i64 t176, .int .i64 t177] 23 (0, 0)) (by (with_reducible repeat (first | refine blk_drewN ?_ _ | refine blk_drew ?_ | refine blk_alloc ?_ _)); exact BK180.out) hb); have n3_ := Aside0.mk (below_step (by repeat (first | (with_reducible first | exact HB.out | apply below_alloc | apply pw_below_drewN | apply below_drew1 | refine below_set ?_ GE159.out | refine below_set ?_ GE172.out | refine below_set ?_ GE180.out) | exact HB.out)) hb); clear BK159; clear BK172; clear BK180; clear HB; have BK159 := n0_; have BK172 := n1_; have BK180 := n2_; have HB := n3_; clear n0_ n1_ n2_ n3_; (try clear hb); (try clear hb2); (try clear hk); (try clear hi)) | ((with_reducible refine gate_dst (N := 17) rfl ?_); refine box_event ?hg (N := 17) ?hd (cs := #[.bool false, .bool false, .bool false, .int .i64 0, .int .i64 0]) (t := 25) ?hr ?_; (case hd => rfl); (case hg => rfl); (case hr => first | (go_simp; done) | (go_simp; rfl)); intro gb199 hg w32 hbox hb; have n0_ := Aside0.mk (blk_below (g := gb159) (o := .cells #[.bool a0_0, .bool a0_1, .bool a0_2, .int .i64 a0_3, .int .i64 a0_4] 23 (0, 0)) (by (with_reducible repeat (first | refine blk_drewN ?_ _ | refine blk_drew ?_ | refine blk_alloc ?_ _)); exact BK159.out) hb); have n1_ := Aside0.mk (blk_below (g := gb172) (o := .cells #[.bool t165, .bool t166, .bool t167, .int .i64 t168, .int .i64 t169] 25 (0, 0)) (by (with_reducible repeat (first | refine blk_drewN ?_ _ | refine blk_drew ?_ | refine blk_alloc ?_ _)); exact BK172.out) hb); have n2_ := Aside0.mk (blk_below (g := gb180) (o := .cells #[.bool t173, .bool t174, .bool t175, .int .i64 t176, .int .i64 t177] 23 (0, 0)) (by (with_reducible repeat (first | refine blk_drewN ?_ _ | refine blk_drew ?_ | refine blk_alloc ?_ _)); exact BK180.out) hb); have n3_ := Aside0.mk (below_step (by repeat (first | (with_reducible first | exact HB.out | apply below_alloc | apply pw_below_drewN | apply below_drew1 | refine below_set ?_ GE159.out | refine below_set ?_ GE172.out | refine below_set ?_ GE180.out) | exact HB.out)) hb); have n4_ := Aside0.mk (hbox); have n5_ := Aside0.mk ((by rw [hg]; exact (below_size (by repeat (first | (with_reducible first | exact HB.out | apply below_alloc | apply pw_below_drewN | apply below_drew1 | refine below_set ?_ GE159.out | refine below_set ?_ GE172.out | refine below_set ?_ GE180.out) | exact HB.out))) : w.heap.size ≤ gb199)); have n6_ := Aside0.mk ((by rw [hg]; exact (below_size (by repeat (first | (with_reducible first | exact HB.out | apply below_alloc | apply pw_below_drewN | apply below_drew1 | refine below_set ?_ GE159.out | refine below_set ?_ GE172.out | refine below_set ?_ GE180.out) | exact HB.out))) : w.heap.size ≤ gb199)); have n7_ := Aside0.mk ((by rw [hg]; exact Nat.ne_of_lt (blk_lt (g := gb159) (o := .cells #[.bool a0_0, .bool a0_1, .bool a0_2, .int .i64 a0_3, .int .i64 a0_4] 23 (0, 0)) (by (with_reducible repeat (first | refine blk_drewN ?_ _ | refine blk_drew ?_ | refine blk_alloc ?_ _)); exact BK159.out)) : gb159 ≠ gb199)); have n8_ := Aside0.mk ((by rw [hg]; exact Nat.ne_of_gt (blk_lt (g := gb159) (o := .cells #[.bool a0_0, .bool a0_1, .bool a0_2, .int .i64 a0_3, .int .i64 a0_4] 23 (0, 0)) (by (with_reducible repeat (first | refine blk_drewN ?_ _ | refine blk_drew ?_ | refine blk_alloc ?_ _)); exact BK159.out)) : gb199 ≠ gb159)); have n9_ := Aside0.mk ((by rw [hg]; exact Nat.ne_of_lt (blk_lt (g := gb172) (o := .cells #[.bool t165, .bool t166, .bool t167, .int .i64 t168, .int .i64 t169] 25 (0, 0)) (by (with_reducible repeat (first | refine blk_drewN ?_ _ | refine blk_drew ?_ | refine blk_alloc ?_ _)); exact BK172.out)) : gb172 ≠ gb199)); have n10_ := Aside0.mk ((by rw [hg]; exact Nat.ne_of_gt (blk_lt (g := gb172) (o := .cells #[.bool t165, .bool t166, .bool t167, .int .i64 t168, .int .i64 t169] 25 (0, 0)) (by (with_reducible repeat (first | refine blk_drewN ?_ _ | refine blk_drew ?_ | refine blk_alloc ?_ _)); exact BK172.out)) : gb199 ≠ gb172)); have n11_ := Aside0.mk ((by rw [hg]; exact Nat.ne_of_lt (blk_lt (g := gb180) (o := .cells #[.bool t173, .bool t174, .bool t175, .int .i64 t176, .int .i64 t177] 23 (0, 0)) (by (with_reducible repeat (first | refine blk_drewN ?_ _ | refine blk_drew ?_ | refine blk_alloc ?_ _)); exact BK180.out)) : gb180 ≠ gb199)); have n12_ := Aside0.mk ((by rw [hg]; exact Nat.ne_of_gt (blk_lt (g := gb180) (o := .cells #[.bool t173, .bool t174, .bool t175, .int .i64 t176, .int .i64 t177] 23 (0, 0)) (by (with_reducible repeat (first | refine blk_drewN ?_ _ | refine blk_drew ?_ | refine blk_alloc ?_ _)); exact BK180.out)) : gb199 ≠ gb180)); clear BK159; clear BK172; clear BK180; clear HB; have BK159 := n0_; have BK172 := n1_; have BK180 := n2_; have HB := n3_; have BK199 := n4_; have GW199 := n5_; have GE199 := n6_; have NB159_199 := n7_; have NB199_159 := n8_; have NB172_199 := n9_; have NB199_172 := n10_; have NB180_199 := n11_; have NB199_180 := n12_; clear n0_ n1_ n2_ n3_ n4_ n5_ n6_ n7_ n8_ n9_ n10_ n11_ n12_; clear hb hbox hg; have hnb33 := NB199_159.out; have hnc33 := NB159_199.out; have hnb34 := NB199_172.out; have hnc34 := NB172_199.out; have hnb35 := NB199_180.out; have hnc35 := NB180_199.out; have hcz36_0 : w32.cell? ⟨gb199, 0, none⟩ = some (.bool false) := (blk_cell BK199.out 0).trans rfl; have hcz36_1 : w32.cell? ⟨gb199, 1, none⟩ = some (.bool false) := (blk_cell BK199.out 1).trans rfl; have hcz36_2 : w32.cell? ⟨gb199, 2, none⟩ = some (.bool false) := (blk_cell BK199.out 2).trans rfl; have hcz36_3 : w32.cell? ⟨gb199, 3, none⟩ = some (.int .i64 0) := (blk_cell BK199.out 3).trans rfl; have hcz36_4 : w32.cell? ⟨gb199, 4, none⟩ = some (.int .i64 0) := (blk_cell BK199.out 4).trans rfl; have hfz36_0 := blk_frozen BK199.out 0; have hfz36_1 := blk_frozen BK199.out 1; have hfz36_2 := blk_frozen BK199.out 2; have hfz36_3 := blk_frozen BK199.out 3; have hfz36_4 := blk_frozen BK199.out 4))
  (try simp only [Act.put, List.setIfInBounds_toArray, List.set_cons_zero, List.set_cons_succ])
  go_cut [66] (fun v66 wc => ∃ (kq : Nat) (x66_11 : Bool), v66 = .bool x66_11 ∧ Aside0 (rivuletlaw06_HopoptHops.j0 kq a1 a2 a3 t186 t187 t198 x66_11 a0_0 a0_1 a0_2 a0_3 a0_4 t193 t194 t195 t196 t197 = some r) ∧ Aside0 (kq ≤ k) ∧ Aside0 (wc.heap[gb159]? = some (.cells #[.bool a0_0, .bool a0_1, .bool a0_2, .int .i64 a0_3, .int .i64 a0_4] 23 (0, 0))) ∧ Aside0 (wc.heap[gb172]? = some (.cells #[.bool t165, .bool t166, .bool t167, .int .i64 t168, .int .i64 t169] 25 (0, 0))) ∧ Aside0 (wc.heap[gb180]? = some (.cells #[.bool t173, .bool t174, .bool t175, .int .i64 t176, .int .i64 t177] 23 (0, 0))) ∧ Aside0 (wc.heap[gb199]? = some (.cells #[.bool t193, .bool t194, .bool t195, .int .i64 t196, .int .i64 t197] 25 (0, 0))) ∧ Aside0 (Below w.heap.size w wc))
  case first =>
    have H := HC12.out
    clear HC12
    by_cases c37 : t171 = t179
    · rw [if_pos c37] at H
      have c37b0 : (t171 == t179) = true := beq_iff_eq.mpr c37
      have c37b1 : (t171 != t179) = false := bne_eq_false_iff_eq.mpr c37
      clear c37
      (first | rw [c37b0] | (simp only [i64_w, i32_w]; rw [c37b0]) | skip)
      by_cases c38 : (t170 != t178) = true
      · rw [if_pos c38] at H
        have c38b0 : (t170 != t178) = true := c38
        (try (have c38b1 : decide (t170 = t178) = false := by simpa using c38))
        (try (have c38b2 : (t170 == t178) = false := by simpa using c38))
        (try (have c38b3 : ¬ (t170 = t178) := by simpa using c38))
        clear c38
        have H' := Aside0.mk H
        clear H
        try go_wp2
        have n0_ : Aside0 ((((((w32.setCell ⟨gb199, 0, none⟩ (.bool t193)).setCell ⟨gb199, 1, none⟩ (.bool t194)).setCell ⟨gb199, 2, none⟩ (.bool t195)).setCell ⟨gb199, 3, none⟩ (.int .i64 t196)).setCell ⟨gb199, 4, none⟩ (.int .i64 t197)).heap[gb159]? = some (.cells #[.bool a0_0, .bool a0_1, .bool a0_2, .int .i64 a0_3, .int .i64 a0_4] 23 (0, 0))) := ⟨by (with_reducible repeat (first | refine blk_drewN ?_ _ | refine blk_drew ?_ | refine blk_alloc ?_ _)); refine blk_far ?_ NB159_199.out _; (with_reducible repeat (first | refine blk_drewN ?_ _ | refine blk_drew ?_ | refine blk_alloc ?_ _)); refine blk_far ?_ NB159_199.out _; (with_reducible repeat (first | refine blk_drewN ?_ _ | refine blk_drew ?_ | refine blk_alloc ?_ _)); refine blk_far ?_ NB159_199.out _; (with_reducible repeat (first | refine blk_drewN ?_ _ | refine blk_drew ?_ | refine blk_alloc ?_ _)); refine blk_far ?_ NB159_199.out _; (with_reducible repeat (first | refine blk_drewN ?_ _ | refine blk_drew ?_ | refine blk_alloc ?_ _)); refine blk_far ?_ NB159_199.out _; (with_reducible repeat (first | refine blk_drewN ?_ _ | refine blk_drew ?_ | refine blk_alloc ?_ _)); exact BK159.out⟩
        have n1_ : Aside0 ((((((w32.setCell ⟨gb199, 0, none⟩ (.bool t193)).setCell ⟨gb199, 1, none⟩ (.bool t194)).setCell ⟨gb199, 2, none⟩ (.bool t195)).setCell ⟨gb199, 3, none⟩ (.int .i64 t196)).setCell ⟨gb199, 4, none⟩ (.int .i64 t197)).heap[gb172]? = some (.cells #[.bool t165, .bool t166, .bool t167, .int .i64 t168, .int .i64 t169] 25 (0, 0))) := ⟨by (with_reducible repeat (first | refine blk_drewN ?_ _ | refine blk_drew ?_ | refine blk_alloc ?_ _)); refine blk_far ?_ NB172_199.out _; (with_reducible repeat (first | refine blk_drewN ?_ _ | refine blk_drew ?_ | refine blk_alloc ?_ _)); refine blk_far ?_ NB172_199.out _; (with_reducible repeat (first | refine blk_drewN ?_ _ | refine blk_drew ?_ | refine blk_alloc ?_ _)); refine blk_far ?_ NB172_199.out _; (with_reducible repeat (first | refine blk_drewN ?_ _ | refine blk_drew ?_ | refine blk_alloc ?_ _)); refine blk_far ?_ NB172_199.out _; (with_reducible repeat (first | refine blk_drewN ?_ _ | refine blk_drew ?_ | refine blk_alloc ?_ _)); refine blk_far ?_ NB172_199.out _; (with_reducible repeat (first | refine blk_drewN ?_ _ | refine blk_drew ?_ | refine blk_alloc ?_ _)); exact BK172.out⟩
        have n2_ : Aside0 ((((((w32.setCell ⟨gb199, 0, none⟩ (.bool t193)).setCell ⟨gb199, 1, none⟩ (.bool t194)).setCell ⟨gb199, 2, none⟩ (.bool t195)).setCell ⟨gb199, 3, none⟩ (.int .i64 t196)).setCell ⟨gb199, 4, none⟩ (.int .i64 t197)).heap[gb180]? = some (.cells #[.bool t173, .bool t174, .bool t175, .int .i64 t176, .int .i64 t177] 23 (0, 0))) := ⟨by (with_reducible repeat (first | refine blk_drewN ?_ _ | refine blk_drew ?_ | refine blk_alloc ?_ _)); refine blk_far ?_ NB180_199.out _; (with_reducible repeat (first | refine blk_drewN ?_ _ | refine blk_drew ?_ | refine blk_alloc ?_ _)); refine blk_far ?_ NB180_199.out _; (with_reducible repeat (first | refine blk_drewN ?_ _ | refine blk_drew ?_ | refine blk_alloc ?_ _)); refine blk_far ?_ NB180_199.out _; (with_reducible repeat (first | refine blk_drewN ?_ _ | refine blk_drew ?_ | refine blk_alloc ?_ _)); refine blk_far ?_ NB180_199.out _; (with_reducible repeat (first | refine blk_drewN ?_ _ | refine blk_drew ?_ | refine blk_alloc ?_ _)); refine blk_far ?_ NB180_199.out _; (with_reducible repeat (first | refine blk_drewN ?_ _ | refine blk_drew ?_ | refine blk_alloc ?_ _)); exact BK180.out⟩
        have n3_ : Aside0 ((((((w32.setCell ⟨gb199, 0, none⟩ (.bool t193)).setCell ⟨gb199, 1, none⟩ (.bool t194)).setCell ⟨gb199, 2, none⟩ (.bool t195)).setCell ⟨gb199, 3, none⟩ (.int .i64 t196)).setCell ⟨gb199, 4, none⟩ (.int .i64 t197)).heap[gb199]? = some (.cells #[.bool t193, .bool t194, .bool t195, .int .i64 t196, .int .i64 t197] 25 (0, 0))) := ⟨by (with_reducible repeat (first | refine blk_drewN ?_ _ | refine blk_drew ?_ | refine blk_alloc ?_ _)); refine blk_put (cs := #[.bool t193, .bool t194, .bool t195, .int .i64 t196, .int .i64 0]) ?_ 4 _ rfl; (with_reducible repeat (first | refine blk_drewN ?_ _ | refine blk_drew ?_ | refine blk_alloc ?_ _)); refine blk_put (cs := #[.bool t193, .bool t194, .bool t195, .int .i64 0, .int .i64 0]) ?_ 3 _ rfl; (with_reducible repeat (first | refine blk_drewN ?_ _ | refine blk_drew ?_ | refine blk_alloc ?_ _)); refine blk_put (cs := #[.bool t193, .bool t194, .bool false, .int .i64 0, .int .i64 0]) ?_ 2 _ rfl; (with_reducible repeat (first | refine blk_drewN ?_ _ | refine blk_drew ?_ | refine blk_alloc ?_ _)); refine blk_put (cs := #[.bool t193, .bool false, .bool false, .int .i64 0, .int .i64 0]) ?_ 1 _ rfl; (with_reducible repeat (first | refine blk_drewN ?_ _ | refine blk_drew ?_ | refine blk_alloc ?_ _)); refine blk_put (cs := #[.bool false, .bool false, .bool false, .int .i64 0, .int .i64 0]) ?_ 0 _ rfl; (with_reducible repeat (first | refine blk_drewN ?_ _ | refine blk_drew ?_ | refine blk_alloc ?_ _)); exact BK199.out⟩
        have n4_ : Aside0 (Below w.heap.size w (((((w32.setCell ⟨gb199, 0, none⟩ (.bool t193)).setCell ⟨gb199, 1, none⟩ (.bool t194)).setCell ⟨gb199, 2, none⟩ (.bool t195)).setCell ⟨gb199, 3, none⟩ (.int .i64 t196)).setCell ⟨gb199, 4, none⟩ (.int .i64 t197))) := ⟨by repeat (first | (with_reducible first | exact HB.out | apply below_alloc | apply pw_below_drewN | apply below_drew1 | refine below_set ?_ GE159.out | refine below_set ?_ GE172.out | refine below_set ?_ GE180.out | refine below_set ?_ GE199.out) | exact HB.out)⟩
        (try clear BK159)
        (try clear BK172)
        (try clear BK180)
        (try clear BK199)
        (try clear HB)
        generalize (((((w32.setCell ⟨gb199, 0, none⟩ (.bool t193)).setCell ⟨gb199, 1, none⟩ (.bool t194)).setCell ⟨gb199, 2, none⟩ (.bool t195)).setCell ⟨gb199, 3, none⟩ (.int .i64 t196)).setCell ⟨gb199, 4, none⟩ (.int .i64 t197)) = w39 at n0_ n1_ n2_ n3_ n4_ ⊢
        have BK159 := n0_
        have BK172 := n1_
        have BK180 := n2_
        have BK199 := n3_
        have HB := n4_
        clear n0_ n1_ n2_ n3_ n4_
        have n0_ := Aside0.mk (blk_drew BK159.out)
        have n1_ := Aside0.mk (blk_drew BK172.out)
        have n2_ := Aside0.mk (blk_drew BK180.out)
        have n3_ := Aside0.mk (blk_drew BK199.out)
        have n4_ := Aside0.mk (below_drew1 HB.out)
        clear BK159
        clear BK172
        clear BK180
        clear BK199
        clear HB
        have BK159 := n0_
        have BK172 := n1_
        have BK180 := n2_
        have BK199 := n3_
        have HB := n4_
        clear n0_ n1_ n2_ n3_ n4_
        refine start_ (n := 14) (S := fun w' => True) (ds := []) #[false, false, false, false, false, false, false, false, false, false, false, false, false, false] (by kernel_rfl) rfl rfl trivial (fun hHeld => ?_); refine with_tabW rivuletlaw06_HopoptHops.tab5 rivuletlaw06_HopoptHops.bits5 (fun HT_ HW_ => ?_)
        generalize w39.drew = w40 at BK159 BK172 BK180 BK199 HB hHeld ⊢
        refine pure_ (i := 0) (N := some 53) (v := ?_) (a' := ?_) #[true, false, false, false, false, false, false, false, false, false, false, false, false, false] rfl rfl (any_of HT_.out (by kernel_rfl)) (fun _ _ _ h => h) (Or.inl ⟨by rfl, ?_⟩) ?_ ?_
        rotate_left
        · intro w'
          go_simp
          with_reducible rfl
        rotate_left
        · simp only [Act.put, List.setIfInBounds_toArray, List.set_cons_zero, List.set_cons_succ, i64_w, i32_w]
          rfl
        refine pure_ (i := 1) (N := some 54) (v := ?_) (a' := ?_) #[true, true, false, false, false, false, false, false, false, false, false, false, false, false] rfl rfl (any_of HT_.out (by kernel_rfl)) (fun _ _ _ h => h) (Or.inl ⟨by rfl, ?_⟩) ?_ ?_
        rotate_left
        · intro w'
          go_simp
          with_reducible rfl
        rotate_left
        · simp only [Act.put, List.setIfInBounds_toArray, List.set_cons_zero, List.set_cons_succ, i64_w, i32_w]
          rfl
        refine pure_ (i := 2) (N := some 55) (v := ?_) (a' := ?_) #[true, true, true, false, false, false, false, false, false, false, false, false, false, false] rfl rfl (any_of HT_.out (by kernel_rfl)) (fun _ _ _ h => h) (Or.inl ⟨by rfl, ?_⟩) ?_ ?_
        rotate_left
        · intro w'
          go_simp
          with_reducible rfl
        rotate_left
        · simp only [Act.put, List.setIfInBounds_toArray, List.set_cons_zero, List.set_cons_succ, i64_w, i32_w]
          rfl
        refine pure_ (i := 3) (N := some 56) (v := ?_) (a' := ?_) #[true, true, true, true, false, false, false, false, false, false, false, false, false, false] rfl rfl (any_of HT_.out (by kernel_rfl)) (fun _ _ _ h => h) (Or.inl ⟨by rfl, ?_⟩) ?_ ?_
        rotate_left
        · intro w'
          go_simp
          with_reducible rfl
        rotate_left
        · simp only [Act.put, List.setIfInBounds_toArray, List.set_cons_zero, List.set_cons_succ, i64_w, i32_w]
          rfl
        refine pure_ (i := 4) (N := some 57) (v := ?_) (a' := ?_) #[true, true, true, true, true, false, false, false, false, false, false, false, false, false] rfl rfl (any_of HT_.out (by kernel_rfl)) (fun _ _ _ h => h) (Or.inl ⟨by rfl, ?_⟩) ?_ ?_
        rotate_left
        · intro w'
          go_simp
          with_reducible rfl
        rotate_left
        · simp only [Act.put, List.setIfInBounds_toArray, List.set_cons_zero, List.set_cons_succ, i64_w, i32_w]
          rfl
        refine pure_ (i := 5) (N := some 58) (v := ?_) (a' := ?_) #[true, true, true, true, true, true, false, false, false, false, false, false, false, false] rfl rfl (any_of HT_.out (by kernel_rfl)) (fun _ _ _ h => h) (Or.inl ⟨by rfl, ?_⟩) ?_ ?_
        rotate_left
        · intro w'
          go_simp
          with_reducible rfl
        rotate_left
        · simp only [Act.put, List.setIfInBounds_toArray, List.set_cons_zero, List.set_cons_succ, i64_w, i32_w]
          rfl
        refine pure_ (i := 6) (N := some 59) (v := ?_) (a' := ?_) #[true, true, true, true, true, true, true, false, false, false, false, false, false, false] rfl rfl (any_of HT_.out (by kernel_rfl)) (fun _ _ _ h => h) (Or.inl ⟨by rfl, ?_⟩) ?_ ?_
        rotate_left
        · intro w'
          go_simp
          with_reducible rfl
        rotate_left
        · simp only [Act.put, List.setIfInBounds_toArray, List.set_cons_zero, List.set_cons_succ, i64_w, i32_w]
          rfl
        refine pure_ (i := 7) (N := some 60) (v := ?_) (a' := ?_) #[true, true, true, true, true, true, true, true, false, false, false, false, false, false] rfl rfl (any_of HT_.out (by kernel_rfl)) (fun _ _ _ h => h) (Or.inl ⟨by rfl, ?_⟩) ?_ ?_
        rotate_left
        · intro w'
          go_simp
          with_reducible rfl
        rotate_left
        · simp only [Act.put, List.setIfInBounds_toArray, List.set_cons_zero, List.set_cons_succ, i64_w, i32_w]
          rfl
        refine pure_ (i := 8) (N := some 61) (v := ?_) (a' := ?_) #[true, true, true, true, true, true, true, true, true, false, false, false, false, false] rfl rfl (any_of HT_.out (by kernel_rfl)) (fun _ _ _ h => h) (Or.inl ⟨by rfl, ?_⟩) ?_ ?_
        rotate_left
        · intro w'
          go_simp
          with_reducible rfl
        rotate_left
        · simp only [Act.put, List.setIfInBounds_toArray, List.set_cons_zero, List.set_cons_succ, i64_w, i32_w]
          rfl
        refine pure_ (i := 9) (N := some 62) (v := undef) (a' := ?_) #[true, true, true, true, true, true, true, true, true, true, false, false, false, false] rfl rfl (any_of HT_.out (by kernel_rfl)) (fun _ _ _ h => h) (Or.inr ⟨by rfl, rfl⟩) ?_ ?_
        rotate_left
        · simp only [Act.put, List.setIfInBounds_toArray, List.set_cons_zero, List.set_cons_succ, i64_w, i32_w]
          rfl
        refine pure_ (i := 10) (N := some 63) (v := undef) (a' := ?_) #[true, true, true, true, true, true, true, true, true, true, true, false, false, false] rfl rfl (any_of HT_.out (by kernel_rfl)) (fun _ _ _ h => h) (Or.inr ⟨by rfl, rfl⟩) ?_ ?_
        rotate_left
        · simp only [Act.put, List.setIfInBounds_toArray, List.set_cons_zero, List.set_cons_succ, i64_w, i32_w]
          rfl
        refine pure_ (i := 11) (N := some 64) (v := undef) (a' := ?_) #[true, true, true, true, true, true, true, true, true, true, true, true, false, false] rfl rfl (any_of HT_.out (by kernel_rfl)) (fun _ _ _ h => h) (Or.inr ⟨by rfl, rfl⟩) ?_ ?_
        rotate_left
        · simp only [Act.put, List.setIfInBounds_toArray, List.set_cons_zero, List.set_cons_succ, i64_w, i32_w]
          rfl
        refine pure_ (i := 12) (N := some 65) (v := undef) (a' := ?_) #[true, true, true, true, true, true, true, true, true, true, true, true, true, false] rfl rfl (any_of HT_.out (by kernel_rfl)) (fun _ _ _ h => h) (Or.inr ⟨by rfl, rfl⟩) ?_ ?_
        rotate_left
        · simp only [Act.put, List.setIfInBounds_toArray, List.set_cons_zero, List.set_cons_succ, i64_w, i32_w]
          rfl
        refine pure_ (i := 13) (N := some 66) (v := ?_) (a' := ?_) #[true, true, true, true, true, true, true, true, true, true, true, true, true, true] rfl rfl (any_of HT_.out (by kernel_rfl)) (fun _ _ _ h => h) (Or.inl ⟨by rfl, ?_⟩) ?_ ?_
        rotate_left
        · intro w'
          go_simp
          with_reducible rfl
        rotate_left
        · simp only [Act.put, List.setIfInBounds_toArray, List.set_cons_zero, List.set_cons_succ, i64_w, i32_w]
          rfl
        refine done_ (done_of HT_.out (by kernel_rfl)) ?_
        try go_wp2
        go_meet
        case rel => exact ⟨_, (true), (by first | rfl | (simp; done) | (simp [*]; done)), H', ⟨by first | omega | exact Nat.le_refl _⟩, ⟨by (with_reducible repeat (first | refine blk_drewN ?_ _ | refine blk_drew ?_ | refine blk_alloc ?_ _)); exact BK159.out⟩, ⟨by (with_reducible repeat (first | refine blk_drewN ?_ _ | refine blk_drew ?_ | refine blk_alloc ?_ _)); exact BK172.out⟩, ⟨by (with_reducible repeat (first | refine blk_drewN ?_ _ | refine blk_drew ?_ | refine blk_alloc ?_ _)); exact BK180.out⟩, ⟨by (with_reducible repeat (first | refine blk_drewN ?_ _ | refine blk_drew ?_ | refine blk_alloc ?_ _)); exact BK199.out⟩, ⟨by repeat (first | (with_reducible first | exact HB.out | apply below_alloc | apply pw_below_drewN | apply below_drew1 | refine below_set ?_ GE159.out | refine below_set ?_ GE172.out | refine below_set ?_ GE180.out | refine below_set ?_ GE199.out) | exact HB.out)⟩⟩
      · rw [if_neg c38] at H
        have c38b0 : (t170 != t178) = false := by simpa using c38
        (try (have c38b1 : decide (t170 = t178) = true := by simpa using c38))
        (try (have c38b2 : (t170 == t178) = true := by simpa using c38))
        clear c38
        replace H := Option.bind_eq_some_iff.mp H
        obtain ⟨⟨t200, t201, t202, t203, t204⟩, A410, H⟩ := H
        replace H : (rivuletlaw06_HopoptHops.j0 k a1 a2 a3 t186 t187 t198 (!(t200 == t173) || (!(t201 == t174) || (!(t202 == t175) || (!(t203 == t176) || (!(t204 == t177)))))) a0_0 a0_1 a0_2 a0_3 a0_4 t193 t194 t195 t196 t197) = some r := H
        have A41 := Aside0.mk A410
        clear A410
        have H' := Aside0.mk H
        clear H
        try go_wp2
        have n0_ : Aside0 ((((((w32.setCell ⟨gb199, 0, none⟩ (.bool t193)).setCell ⟨gb199, 1, none⟩ (.bool t194)).setCell ⟨gb199, 2, none⟩ (.bool t195)).setCell ⟨gb199, 3, none⟩ (.int .i64 t196)).setCell ⟨gb199, 4, none⟩ (.int .i64 t197)).heap[gb159]? = some (.cells #[.bool a0_0, .bool a0_1, .bool a0_2, .int .i64 a0_3, .int .i64 a0_4] 23 (0, 0))) := ⟨by (with_reducible repeat (first | refine blk_drewN ?_ _ | refine blk_drew ?_ | refine blk_alloc ?_ _)); refine blk_far ?_ NB159_199.out _; (with_reducible repeat (first | refine blk_drewN ?_ _ | refine blk_drew ?_ | refine blk_alloc ?_ _)); refine blk_far ?_ NB159_199.out _; (with_reducible repeat (first | refine blk_drewN ?_ _ | refine blk_drew ?_ | refine blk_alloc ?_ _)); refine blk_far ?_ NB159_199.out _; (with_reducible repeat (first | refine blk_drewN ?_ _ | refine blk_drew ?_ | refine blk_alloc ?_ _)); refine blk_far ?_ NB159_199.out _; (with_reducible repeat (first | refine blk_drewN ?_ _ | refine blk_drew ?_ | refine blk_alloc ?_ _)); refine blk_far ?_ NB159_199.out _; (with_reducible repeat (first | refine blk_drewN ?_ _ | refine blk_drew ?_ | refine blk_alloc ?_ _)); exact BK159.out⟩
        have n1_ : Aside0 ((((((w32.setCell ⟨gb199, 0, none⟩ (.bool t193)).setCell ⟨gb199, 1, none⟩ (.bool t194)).setCell ⟨gb199, 2, none⟩ (.bool t195)).setCell ⟨gb199, 3, none⟩ (.int .i64 t196)).setCell ⟨gb199, 4, none⟩ (.int .i64 t197)).heap[gb172]? = some (.cells #[.bool t165, .bool t166, .bool t167, .int .i64 t168, .int .i64 t169] 25 (0, 0))) := ⟨by (with_reducible repeat (first | refine blk_drewN ?_ _ | refine blk_drew ?_ | refine blk_alloc ?_ _)); refine blk_far ?_ NB172_199.out _; (with_reducible repeat (first | refine blk_drewN ?_ _ | refine blk_drew ?_ | refine blk_alloc ?_ _)); refine blk_far ?_ NB172_199.out _; (with_reducible repeat (first | refine blk_drewN ?_ _ | refine blk_drew ?_ | refine blk_alloc ?_ _)); refine blk_far ?_ NB172_199.out _; (with_reducible repeat (first | refine blk_drewN ?_ _ | refine blk_drew ?_ | refine blk_alloc ?_ _)); refine blk_far ?_ NB172_199.out _; (with_reducible repeat (first | refine blk_drewN ?_ _ | refine blk_drew ?_ | refine blk_alloc ?_ _)); refine blk_far ?_ NB172_199.out _; (with_reducible repeat (first | refine blk_drewN ?_ _ | refine blk_drew ?_ | refine blk_alloc ?_ _)); exact BK172.out⟩
        have n2_ : Aside0 ((((((w32.setCell ⟨gb199, 0, none⟩ (.bool t193)).setCell ⟨gb199, 1, none⟩ (.bool t194)).setCell ⟨gb199, 2, none⟩ (.bool t195)).setCell ⟨gb199, 3, none⟩ (.int .i64 t196)).setCell ⟨gb199, 4, none⟩ (.int .i64 t197)).heap[gb180]? = some (.cells #[.bool t173, .bool t174, .bool t175, .int .i64 t176, .int .i64 t177] 23 (0, 0))) := ⟨by (with_reducible repeat (first | refine blk_drewN ?_ _ | refine blk_drew ?_ | refine blk_alloc ?_ _)); refine blk_far ?_ NB180_199.out _; (with_reducible repeat (first | refine blk_drewN ?_ _ | refine blk_drew ?_ | refine blk_alloc ?_ _)); refine blk_far ?_ NB180_199.out _; (with_reducible repeat (first | refine blk_drewN ?_ _ | refine blk_drew ?_ | refine blk_alloc ?_ _)); refine blk_far ?_ NB180_199.out _; (with_reducible repeat (first | refine blk_drewN ?_ _ | refine blk_drew ?_ | refine blk_alloc ?_ _)); refine blk_far ?_ NB180_199.out _; (with_reducible repeat (first | refine blk_drewN ?_ _ | refine blk_drew ?_ | refine blk_alloc ?_ _)); refine blk_far ?_ NB180_199.out _; (with_reducible repeat (first | refine blk_drewN ?_ _ | refine blk_drew ?_ | refine blk_alloc ?_ _)); exact BK180.out⟩
        have n3_ : Aside0 ((((((w32.setCell ⟨gb199, 0, none⟩ (.bool t193)).setCell ⟨gb199, 1, none⟩ (.bool t194)).setCell ⟨gb199, 2, none⟩ (.bool t195)).setCell ⟨gb199, 3, none⟩ (.int .i64 t196)).setCell ⟨gb199, 4, none⟩ (.int .i64 t197)).heap[gb199]? = some (.cells #[.bool t193, .bool t194, .bool t195, .int .i64 t196, .int .i64 t197] 25 (0, 0))) := ⟨by (with_reducible repeat (first | refine blk_drewN ?_ _ | refine blk_drew ?_ | refine blk_alloc ?_ _)); refine blk_put (cs := #[.bool t193, .bool t194, .bool t195, .int .i64 t196, .int .i64 0]) ?_ 4 _ rfl; (with_reducible repeat (first | refine blk_drewN ?_ _ | refine blk_drew ?_ | refine blk_alloc ?_ _)); refine blk_put (cs := #[.bool t193, .bool t194, .bool t195, .int .i64 0, .int .i64 0]) ?_ 3 _ rfl; (with_reducible repeat (first | refine blk_drewN ?_ _ | refine blk_drew ?_ | refine blk_alloc ?_ _)); refine blk_put (cs := #[.bool t193, .bool t194, .bool false, .int .i64 0, .int .i64 0]) ?_ 2 _ rfl; (with_reducible repeat (first | refine blk_drewN ?_ _ | refine blk_drew ?_ | refine blk_alloc ?_ _)); refine blk_put (cs := #[.bool t193, .bool false, .bool false, .int .i64 0, .int .i64 0]) ?_ 1 _ rfl; (with_reducible repeat (first | refine blk_drewN ?_ _ | refine blk_drew ?_ | refine blk_alloc ?_ _)); refine blk_put (cs := #[.bool false, .bool false, .bool false, .int .i64 0, .int .i64 0]) ?_ 0 _ rfl; (with_reducible repeat (first | refine blk_drewN ?_ _ | refine blk_drew ?_ | refine blk_alloc ?_ _)); exact BK199.out⟩
        have n4_ : Aside0 (Below w.heap.size w (((((w32.setCell ⟨gb199, 0, none⟩ (.bool t193)).setCell ⟨gb199, 1, none⟩ (.bool t194)).setCell ⟨gb199, 2, none⟩ (.bool t195)).setCell ⟨gb199, 3, none⟩ (.int .i64 t196)).setCell ⟨gb199, 4, none⟩ (.int .i64 t197))) := ⟨by repeat (first | (with_reducible first | exact HB.out | apply below_alloc | apply pw_below_drewN | apply below_drew1 | refine below_set ?_ GE159.out | refine below_set ?_ GE172.out | refine below_set ?_ GE180.out | refine below_set ?_ GE199.out) | exact HB.out)⟩
        (try clear BK159)
        (try clear BK172)
        (try clear BK180)
        (try clear BK199)
        (try clear HB)
        generalize (((((w32.setCell ⟨gb199, 0, none⟩ (.bool t193)).setCell ⟨gb199, 1, none⟩ (.bool t194)).setCell ⟨gb199, 2, none⟩ (.bool t195)).setCell ⟨gb199, 3, none⟩ (.int .i64 t196)).setCell ⟨gb199, 4, none⟩ (.int .i64 t197)) = w42 at n0_ n1_ n2_ n3_ n4_ ⊢
        have BK159 := n0_
        have BK172 := n1_
        have BK180 := n2_
        have BK199 := n3_
        have HB := n4_
        clear n0_ n1_ n2_ n3_ n4_
        have n0_ := Aside0.mk (blk_drew BK159.out)
        have n1_ := Aside0.mk (blk_drew BK172.out)
        have n2_ := Aside0.mk (blk_drew BK180.out)
        have n3_ := Aside0.mk (blk_drew BK199.out)
        have n4_ := Aside0.mk (below_drew1 HB.out)
        clear BK159
        clear BK172
        clear BK180
        clear BK199
        clear HB
        have BK159 := n0_
        have BK172 := n1_
        have BK180 := n2_
        have BK199 := n3_
        have HB := n4_
        clear n0_ n1_ n2_ n3_ n4_
        refine start_ (n := 14) (S := fun w' => w'.cell? ⟨gb172, 0, none⟩ = some (.bool t165) ∧ w'.cell? ⟨gb172, 1, none⟩ = some (.bool t166) ∧ w'.cell? ⟨gb172, 2, none⟩ = some (.bool t167) ∧ w'.cell? ⟨gb172, 3, none⟩ = some (.int .i64 t168) ∧ w'.cell? ⟨gb172, 4, none⟩ = some (.int .i64 t169) ∧ w'.cell? ⟨gb180, 0, none⟩ = some (.bool t173) ∧ w'.cell? ⟨gb180, 1, none⟩ = some (.bool t174) ∧ w'.cell? ⟨gb180, 2, none⟩ = some (.bool t175) ∧ w'.cell? ⟨gb180, 3, none⟩ = some (.int .i64 t176) ∧ w'.cell? ⟨gb180, 4, none⟩ = some (.int .i64 t177)) (ds := []) #[false, false, false, false, false, false, false, false, false, false, false, false, false, false] (by kernel_rfl) rfl rfl ⟨(blk_cell BK172.out 0).trans rfl, (blk_cell BK172.out 1).trans rfl, (blk_cell BK172.out 2).trans rfl, (blk_cell BK172.out 3).trans rfl, (blk_cell BK172.out 4).trans rfl, (blk_cell BK180.out 0).trans rfl, (blk_cell BK180.out 1).trans rfl, (blk_cell BK180.out 2).trans rfl, (blk_cell BK180.out 3).trans rfl, (blk_cell BK180.out 4).trans rfl⟩ (fun hHeld => ?_); refine with_tabW rivuletlaw06_HopoptHops.tab5 rivuletlaw06_HopoptHops.bits5 (fun HT_ HW_ => ?_)
        generalize w42.drew = w43 at BK159 BK172 BK180 BK199 HB hHeld ⊢
        refine pure_ (i := 0) (N := some 53) (v := ?_) (a' := ?_) #[true, false, false, false, false, false, false, false, false, false, false, false, false, false] rfl rfl (any_of HT_.out (by kernel_rfl)) (fun _ _ _ h => h) (Or.inl ⟨by rfl, ?_⟩) ?_ ?_
        rotate_left
        · intro w'
          go_simp
          with_reducible rfl
        rotate_left
        · simp only [Act.put, List.setIfInBounds_toArray, List.set_cons_zero, List.set_cons_succ, i64_w, i32_w]
          rfl
        refine pure_ (i := 1) (N := some 54) (v := ?_) (a' := ?_) #[true, true, false, false, false, false, false, false, false, false, false, false, false, false] rfl rfl (any_of HT_.out (by kernel_rfl)) (fun _ _ _ h => h) (Or.inl ⟨by rfl, ?_⟩) ?_ ?_
        rotate_left
        · intro w'
          go_simp
          with_reducible rfl
        rotate_left
        · simp only [Act.put, List.setIfInBounds_toArray, List.set_cons_zero, List.set_cons_succ, i64_w, i32_w]
          rfl
        refine pure_ (i := 2) (N := some 55) (v := ?_) (a' := ?_) #[true, true, true, false, false, false, false, false, false, false, false, false, false, false] rfl rfl (any_of HT_.out (by kernel_rfl)) (fun _ _ _ h => h) (Or.inl ⟨by rfl, ?_⟩) ?_ ?_
        rotate_left
        · intro w'
          go_simp
          with_reducible rfl
        rotate_left
        · simp only [Act.put, List.setIfInBounds_toArray, List.set_cons_zero, List.set_cons_succ, i64_w, i32_w]
          rfl
        refine pure_ (i := 3) (N := some 56) (v := ?_) (a' := ?_) #[true, true, true, true, false, false, false, false, false, false, false, false, false, false] rfl rfl (any_of HT_.out (by kernel_rfl)) (fun _ _ _ h => h) (Or.inl ⟨by rfl, ?_⟩) ?_ ?_
        rotate_left
        · intro w'
          go_simp
          with_reducible rfl
        rotate_left
        · simp only [Act.put, List.setIfInBounds_toArray, List.set_cons_zero, List.set_cons_succ, i64_w, i32_w]
          rfl
        refine pure_ (i := 4) (N := some 57) (v := ?_) (a' := ?_) #[true, true, true, true, true, false, false, false, false, false, false, false, false, false] rfl rfl (any_of HT_.out (by kernel_rfl)) (fun _ _ _ h => h) (Or.inl ⟨by rfl, ?_⟩) ?_ ?_
        rotate_left
        · intro w'
          go_simp
          with_reducible rfl
        rotate_left
        · simp only [Act.put, List.setIfInBounds_toArray, List.set_cons_zero, List.set_cons_succ, i64_w, i32_w]
          rfl
        refine pure_ (i := 5) (N := some 58) (v := ?_) (a' := ?_) #[true, true, true, true, true, true, false, false, false, false, false, false, false, false] rfl rfl (any_of HT_.out (by kernel_rfl)) (fun _ _ _ h => h) (Or.inl ⟨by rfl, ?_⟩) ?_ ?_
        rotate_left
        · intro w'
          go_simp
          with_reducible rfl
        rotate_left
        · simp only [Act.put, List.setIfInBounds_toArray, List.set_cons_zero, List.set_cons_succ, i64_w, i32_w]
          rfl
        refine pure_ (i := 6) (N := some 59) (v := ?_) (a' := ?_) #[true, true, true, true, true, true, true, false, false, false, false, false, false, false] rfl rfl (any_of HT_.out (by kernel_rfl)) (fun _ _ _ h => h) (Or.inl ⟨by rfl, ?_⟩) ?_ ?_
        rotate_left
        · intro w'
          go_simp
          with_reducible rfl
        rotate_left
        · simp only [Act.put, List.setIfInBounds_toArray, List.set_cons_zero, List.set_cons_succ, i64_w, i32_w]
          rfl
        refine pure_ (i := 7) (N := some 60) (v := ?_) (a' := ?_) #[true, true, true, true, true, true, true, true, false, false, false, false, false, false] rfl rfl (any_of HT_.out (by kernel_rfl)) (fun _ _ _ h => h) (Or.inl ⟨by rfl, ?_⟩) ?_ ?_
        rotate_left
        · intro w'
          go_simp
          with_reducible rfl
        rotate_left
        · simp only [Act.put, List.setIfInBounds_toArray, List.set_cons_zero, List.set_cons_succ, i64_w, i32_w]
          rfl
        refine pure_ (i := 8) (N := some 61) (v := ?_) (a' := ?_) #[true, true, true, true, true, true, true, true, true, false, false, false, false, false] rfl rfl (any_of HT_.out (by kernel_rfl)) (fun _ _ _ h => h) (Or.inl ⟨by rfl, ?_⟩) ?_ ?_
        rotate_left
        · intro w'
          go_simp
          with_reducible rfl
        rotate_left
        · simp only [Act.put, List.setIfInBounds_toArray, List.set_cons_zero, List.set_cons_succ, i64_w, i32_w]
          rfl
        refine take_ (i := 9) (N := some 62) (v := ?_) (a' := ?_) #[true, true, true, true, true, true, true, true, true, true, false, false, false, false] rfl rfl (take_ofW HT_.out HW_.out (by kernel_rfl)) (fun _ _ _ h => h) (Or.inl ⟨by rfl, ?_⟩) hHeld ?_ ?_
        rotate_left
        · rintro w' ⟨s0, s1, s2, s3, s4, s5, s6, s7, s8, s9⟩
          go_simp
          with_reducible rfl
        rotate_left
        · simp only [Act.put, List.setIfInBounds_toArray, List.set_cons_zero, List.set_cons_succ, i64_w, i32_w]
          rfl
        refine take_ (i := 11) (N := some 64) (v := ?_) (a' := ?_) #[true, true, true, true, true, true, true, true, true, true, false, true, false, false] rfl rfl (take_ofW HT_.out HW_.out (by kernel_rfl)) (fun _ _ _ h => h) (Or.inl ⟨by rfl, ?_⟩) hHeld ?_ ?_
        rotate_left
        · rintro w' ⟨s0, s1, s2, s3, s4, s5, s6, s7, s8, s9⟩
          go_simp
          with_reducible rfl
        rotate_left
        · simp only [Act.put, List.setIfInBounds_toArray, List.set_cons_zero, List.set_cons_succ, i64_w, i32_w]
          rfl
        refine one_ (i := 10) (N := some 63) #[true, true, true, true, true, true, true, true, true, true, true, true, false, false] rfl rfl (one_of HT_.out (by kernel_rfl)) (by decide) (fun K hK => ?_)
        refine goes_ Try.func22 (by kernel_rfl) rfl #[.agg #[.bool t165, .bool t166, .bool t167, .int .i64 t168, .int .i64 t169]] (by rfl) rfl rfl (by (try simp only [List.map_toArray, List.map_cons, List.map_nil]); first | done | rfl | (simp only [List.length_drop, List.length_take]; rfl)) ?_
        with_reducible refine (rivuletlaw06_Of.calls t165 t166 t167 t168 t169 t200 t201 t202 t203 t204 _ A41.out).mono ?_
        rintro e w44 ⟨rfl, hb⟩
        refine ⟨_, rfl, ?_⟩
        have n0_ := Aside0.mk (blk_below (g := gb159) (o := .cells #[.bool a0_0, .bool a0_1, .bool a0_2, .int .i64 a0_3, .int .i64 a0_4] 23 (0, 0)) (by (with_reducible repeat (first | refine blk_drewN ?_ _ | refine blk_drew ?_ | refine blk_alloc ?_ _)); exact BK159.out) hb)
        have n1_ := Aside0.mk (blk_below (g := gb172) (o := .cells #[.bool t165, .bool t166, .bool t167, .int .i64 t168, .int .i64 t169] 25 (0, 0)) (by (with_reducible repeat (first | refine blk_drewN ?_ _ | refine blk_drew ?_ | refine blk_alloc ?_ _)); exact BK172.out) hb)
        have n2_ := Aside0.mk (blk_below (g := gb180) (o := .cells #[.bool t173, .bool t174, .bool t175, .int .i64 t176, .int .i64 t177] 23 (0, 0)) (by (with_reducible repeat (first | refine blk_drewN ?_ _ | refine blk_drew ?_ | refine blk_alloc ?_ _)); exact BK180.out) hb)
        have n3_ := Aside0.mk (blk_below (g := gb199) (o := .cells #[.bool t193, .bool t194, .bool t195, .int .i64 t196, .int .i64 t197] 25 (0, 0)) (by (with_reducible repeat (first | refine blk_drewN ?_ _ | refine blk_drew ?_ | refine blk_alloc ?_ _)); exact BK199.out) hb)
        have n4_ := Aside0.mk (below_step (by repeat (first | (with_reducible first | exact HB.out | apply below_alloc | apply pw_below_drewN | apply below_drew1 | refine below_set ?_ GE159.out | refine below_set ?_ GE172.out | refine below_set ?_ GE180.out | refine below_set ?_ GE199.out) | exact HB.out)) hb)
        clear BK159
        clear BK172
        clear BK180
        clear BK199
        clear HB
        have BK159 := n0_
        have BK172 := n1_
        have BK180 := n2_
        have BK199 := n3_
        have HB := n4_
        clear n0_ n1_ n2_ n3_ n4_
        (try clear hb)
        (try clear hb2)
        (try clear hk)
        (try clear hi)
        refine hK.out _ _ ⟨(blk_cell BK172.out 0).trans rfl, (blk_cell BK172.out 1).trans rfl, (blk_cell BK172.out 2).trans rfl, (blk_cell BK172.out 3).trans rfl, (blk_cell BK172.out 4).trans rfl, (blk_cell BK180.out 0).trans rfl, (blk_cell BK180.out 1).trans rfl, (blk_cell BK180.out 2).trans rfl, (blk_cell BK180.out 3).trans rfl, (blk_cell BK180.out 4).trans rfl⟩ (fun hHeld => ?_)
        clear hK K
        refine norm_ (a' := ?_) ?_ ?_
        rotate_left
        · show Act.put _ (some 63) _ = _
          simp only [Act.put, List.setIfInBounds_toArray, List.set_cons_zero, List.set_cons_succ, i64_w, i32_w]
          rfl
        refine pure_ (i := 12) (N := some 65) (v := ?_) (a' := ?_) #[true, true, true, true, true, true, true, true, true, true, true, true, true, false] rfl rfl (any_of HT_.out (by kernel_rfl)) (fun _ _ _ h => h) (Or.inl ⟨by rfl, ?_⟩) ?_ ?_
        rotate_left
        · intro w'
          go_simp
          with_reducible rfl
        rotate_left
        · simp only [Act.put, List.setIfInBounds_toArray, List.set_cons_zero, List.set_cons_succ, i64_w, i32_w]
          rfl
        refine pure_ (i := 13) (N := some 66) (v := ?_) (a' := ?_) #[true, true, true, true, true, true, true, true, true, true, true, true, true, true] rfl rfl (any_of HT_.out (by kernel_rfl)) (fun _ _ _ h => h) (Or.inl ⟨by rfl, ?_⟩) ?_ ?_
        rotate_left
        · intro w'
          go_simp
          with_reducible rfl
        rotate_left
        · simp only [Act.put, List.setIfInBounds_toArray, List.set_cons_zero, List.set_cons_succ, i64_w, i32_w]
          rfl
        refine done_ (done_of HT_.out (by kernel_rfl)) ?_
        try go_wp2
        go_meet
        case rel => exact ⟨_, ((!(t200 == t173) || (!(t201 == t174) || (!(t202 == t175) || (!(t203 == t176) || (!(t204 == t177))))))), (by first | rfl | (simp; done) | (simp [*]; done)), H', ⟨by first | omega | exact Nat.le_refl _⟩, ⟨by (with_reducible repeat (first | refine blk_drewN ?_ _ | refine blk_drew ?_ | refine blk_alloc ?_ _)); exact BK159.out⟩, ⟨by (with_reducible repeat (first | refine blk_drewN ?_ _ | refine blk_drew ?_ | refine blk_alloc ?_ _)); exact BK172.out⟩, ⟨by (with_reducible repeat (first | refine blk_drewN ?_ _ | refine blk_drew ?_ | refine blk_alloc ?_ _)); exact BK180.out⟩, ⟨by (with_reducible repeat (first | refine blk_drewN ?_ _ | refine blk_drew ?_ | refine blk_alloc ?_ _)); exact BK199.out⟩, ⟨by repeat (first | (with_reducible first | exact HB.out | apply below_alloc | apply pw_below_drewN | apply below_drew1 | refine below_set ?_ GE159.out | refine below_set ?_ GE172.out | refine below_set ?_ GE180.out | refine below_set ?_ GE199.out) | exact HB.out)⟩⟩
    · rw [if_neg c37] at H
      have c37b0 : (t171 == t179) = false := beq_eq_false_iff_ne.mpr c37
      have c37b1 : (t171 != t179) = true := bne_iff_ne.mpr c37
      (first | rw [c37b0] | (simp only [i64_w, i32_w]; rw [c37b0]) | skip)
      have H' := Aside0.mk H
      clear H
      try go_wp2
      have n0_ : Aside0 ((((((w32.setCell ⟨gb199, 0, none⟩ (.bool t193)).setCell ⟨gb199, 1, none⟩ (.bool t194)).setCell ⟨gb199, 2, none⟩ (.bool t195)).setCell ⟨gb199, 3, none⟩ (.int .i64 t196)).setCell ⟨gb199, 4, none⟩ (.int .i64 t197)).heap[gb159]? = some (.cells #[.bool a0_0, .bool a0_1, .bool a0_2, .int .i64 a0_3, .int .i64 a0_4] 23 (0, 0))) := ⟨by (with_reducible repeat (first | refine blk_drewN ?_ _ | refine blk_drew ?_ | refine blk_alloc ?_ _)); refine blk_far ?_ NB159_199.out _; (with_reducible repeat (first | refine blk_drewN ?_ _ | refine blk_drew ?_ | refine blk_alloc ?_ _)); refine blk_far ?_ NB159_199.out _; (with_reducible repeat (first | refine blk_drewN ?_ _ | refine blk_drew ?_ | refine blk_alloc ?_ _)); refine blk_far ?_ NB159_199.out _; (with_reducible repeat (first | refine blk_drewN ?_ _ | refine blk_drew ?_ | refine blk_alloc ?_ _)); refine blk_far ?_ NB159_199.out _; (with_reducible repeat (first | refine blk_drewN ?_ _ | refine blk_drew ?_ | refine blk_alloc ?_ _)); refine blk_far ?_ NB159_199.out _; (with_reducible repeat (first | refine blk_drewN ?_ _ | refine blk_drew ?_ | refine blk_alloc ?_ _)); exact BK159.out⟩
      have n1_ : Aside0 ((((((w32.setCell ⟨gb199, 0, none⟩ (.bool t193)).setCell ⟨gb199, 1, none⟩ (.bool t194)).setCell ⟨gb199, 2, none⟩ (.bool t195)).setCell ⟨gb199, 3, none⟩ (.int .i64 t196)).setCell ⟨gb199, 4, none⟩ (.int .i64 t197)).heap[gb172]? = some (.cells #[.bool t165, .bool t166, .bool t167, .int .i64 t168, .int .i64 t169] 25 (0, 0))) := ⟨by (with_reducible repeat (first | refine blk_drewN ?_ _ | refine blk_drew ?_ | refine blk_alloc ?_ _)); refine blk_far ?_ NB172_199.out _; (with_reducible repeat (first | refine blk_drewN ?_ _ | refine blk_drew ?_ | refine blk_alloc ?_ _)); refine blk_far ?_ NB172_199.out _; (with_reducible repeat (first | refine blk_drewN ?_ _ | refine blk_drew ?_ | refine blk_alloc ?_ _)); refine blk_far ?_ NB172_199.out _; (with_reducible repeat (first | refine blk_drewN ?_ _ | refine blk_drew ?_ | refine blk_alloc ?_ _)); refine blk_far ?_ NB172_199.out _; (with_reducible repeat (first | refine blk_drewN ?_ _ | refine blk_drew ?_ | refine blk_alloc ?_ _)); refine blk_far ?_ NB172_199.out _; (with_reducible repeat (first | refine blk_drewN ?_ _ | refine blk_drew ?_ | refine blk_alloc ?_ _)); exact BK172.out⟩
      have n2_ : Aside0 ((((((w32.setCell ⟨gb199, 0, none⟩ (.bool t193)).setCell ⟨gb199, 1, none⟩ (.bool t194)).setCell ⟨gb199, 2, none⟩ (.bool t195)).setCell ⟨gb199, 3, none⟩ (.int .i64 t196)).setCell ⟨gb199, 4, none⟩ (.int .i64 t197)).heap[gb180]? = some (.cells #[.bool t173, .bool t174, .bool t175, .int .i64 t176, .int .i64 t177] 23 (0, 0))) := ⟨by (with_reducible repeat (first | refine blk_drewN ?_ _ | refine blk_drew ?_ | refine blk_alloc ?_ _)); refine blk_far ?_ NB180_199.out _; (with_reducible repeat (first | refine blk_drewN ?_ _ | refine blk_drew ?_ | refine blk_alloc ?_ _)); refine blk_far ?_ NB180_199.out _; (with_reducible repeat (first | refine blk_drewN ?_ _ | refine blk_drew ?_ | refine blk_alloc ?_ _)); refine blk_far ?_ NB180_199.out _; (with_reducible repeat (first | refine blk_drewN ?_ _ | refine blk_drew ?_ | refine blk_alloc ?_ _)); refine blk_far ?_ NB180_199.out _; (with_reducible repeat (first | refine blk_drewN ?_ _ | refine blk_drew ?_ | refine blk_alloc ?_ _)); refine blk_far ?_ NB180_199.out _; (with_reducible repeat (first | refine blk_drewN ?_ _ | refine blk_drew ?_ | refine blk_alloc ?_ _)); exact BK180.out⟩
      have n3_ : Aside0 ((((((w32.setCell ⟨gb199, 0, none⟩ (.bool t193)).setCell ⟨gb199, 1, none⟩ (.bool t194)).setCell ⟨gb199, 2, none⟩ (.bool t195)).setCell ⟨gb199, 3, none⟩ (.int .i64 t196)).setCell ⟨gb199, 4, none⟩ (.int .i64 t197)).heap[gb199]? = some (.cells #[.bool t193, .bool t194, .bool t195, .int .i64 t196, .int .i64 t197] 25 (0, 0))) := ⟨by (with_reducible repeat (first | refine blk_drewN ?_ _ | refine blk_drew ?_ | refine blk_alloc ?_ _)); refine blk_put (cs := #[.bool t193, .bool t194, .bool t195, .int .i64 t196, .int .i64 0]) ?_ 4 _ rfl; (with_reducible repeat (first | refine blk_drewN ?_ _ | refine blk_drew ?_ | refine blk_alloc ?_ _)); refine blk_put (cs := #[.bool t193, .bool t194, .bool t195, .int .i64 0, .int .i64 0]) ?_ 3 _ rfl; (with_reducible repeat (first | refine blk_drewN ?_ _ | refine blk_drew ?_ | refine blk_alloc ?_ _)); refine blk_put (cs := #[.bool t193, .bool t194, .bool false, .int .i64 0, .int .i64 0]) ?_ 2 _ rfl; (with_reducible repeat (first | refine blk_drewN ?_ _ | refine blk_drew ?_ | refine blk_alloc ?_ _)); refine blk_put (cs := #[.bool t193, .bool false, .bool false, .int .i64 0, .int .i64 0]) ?_ 1 _ rfl; (with_reducible repeat (first | refine blk_drewN ?_ _ | refine blk_drew ?_ | refine blk_alloc ?_ _)); refine blk_put (cs := #[.bool false, .bool false, .bool false, .int .i64 0, .int .i64 0]) ?_ 0 _ rfl; (with_reducible repeat (first | refine blk_drewN ?_ _ | refine blk_drew ?_ | refine blk_alloc ?_ _)); exact BK199.out⟩
      have n4_ : Aside0 (Below w.heap.size w (((((w32.setCell ⟨gb199, 0, none⟩ (.bool t193)).setCell ⟨gb199, 1, none⟩ (.bool t194)).setCell ⟨gb199, 2, none⟩ (.bool t195)).setCell ⟨gb199, 3, none⟩ (.int .i64 t196)).setCell ⟨gb199, 4, none⟩ (.int .i64 t197))) := ⟨by repeat (first | (with_reducible first | exact HB.out | apply below_alloc | apply pw_below_drewN | apply below_drew1 | refine below_set ?_ GE159.out | refine below_set ?_ GE172.out | refine below_set ?_ GE180.out | refine below_set ?_ GE199.out) | exact HB.out)⟩
      (try clear BK159)
      (try clear BK172)
      (try clear BK180)
      (try clear BK199)
      (try clear HB)
      generalize (((((w32.setCell ⟨gb199, 0, none⟩ (.bool t193)).setCell ⟨gb199, 1, none⟩ (.bool t194)).setCell ⟨gb199, 2, none⟩ (.bool t195)).setCell ⟨gb199, 3, none⟩ (.int .i64 t196)).setCell ⟨gb199, 4, none⟩ (.int .i64 t197)) = w45 at n0_ n1_ n2_ n3_ n4_ ⊢
      have BK159 := n0_
      have BK172 := n1_
      have BK180 := n2_
      have BK199 := n3_
      have HB := n4_
      clear n0_ n1_ n2_ n3_ n4_
      have n0_ := Aside0.mk (blk_drew BK159.out)
      have n1_ := Aside0.mk (blk_drew BK172.out)
      have n2_ := Aside0.mk (blk_drew BK180.out)
      have n3_ := Aside0.mk (blk_drew BK199.out)
      have n4_ := Aside0.mk (below_drew1 HB.out)
      clear BK159
      clear BK172
      clear BK180
      clear BK199
      clear HB
      have BK159 := n0_
      have BK172 := n1_
      have BK180 := n2_
      have BK199 := n3_
      have HB := n4_
      clear n0_ n1_ n2_ n3_ n4_
      refine start_ (n := 14) (S := fun w' => True) (ds := []) #[false, false, false, false, false, false, false, false, false, false, false, false, false, false] (by kernel_rfl) rfl rfl trivial (fun hHeld => ?_); refine with_tabW rivuletlaw06_HopoptHops.tab5 rivuletlaw06_HopoptHops.bits5 (fun HT_ HW_ => ?_)
      generalize w45.drew = w46 at BK159 BK172 BK180 BK199 HB hHeld ⊢
      refine pure_ (i := 0) (N := some 53) (v := ?_) (a' := ?_) #[true, false, false, false, false, false, false, false, false, false, false, false, false, false] rfl rfl (any_of HT_.out (by kernel_rfl)) (fun _ _ _ h => h) (Or.inl ⟨by rfl, ?_⟩) ?_ ?_
      rotate_left
      · intro w'
        go_simp
        with_reducible rfl
      rotate_left
      · simp only [Act.put, List.setIfInBounds_toArray, List.set_cons_zero, List.set_cons_succ, i64_w, i32_w]
        rfl
      refine pure_ (i := 1) (N := some 54) (v := ?_) (a' := ?_) #[true, true, false, false, false, false, false, false, false, false, false, false, false, false] rfl rfl (any_of HT_.out (by kernel_rfl)) (fun _ _ _ h => h) (Or.inl ⟨by rfl, ?_⟩) ?_ ?_
      rotate_left
      · intro w'
        go_simp
        with_reducible rfl
      rotate_left
      · simp only [Act.put, List.setIfInBounds_toArray, List.set_cons_zero, List.set_cons_succ, i64_w, i32_w]
        rfl
      refine pure_ (i := 2) (N := some 55) (v := ?_) (a' := ?_) #[true, true, true, false, false, false, false, false, false, false, false, false, false, false] rfl rfl (any_of HT_.out (by kernel_rfl)) (fun _ _ _ h => h) (Or.inl ⟨by rfl, ?_⟩) ?_ ?_
      rotate_left
      · intro w'
        go_simp
        with_reducible rfl
      rotate_left
      · simp only [Act.put, List.setIfInBounds_toArray, List.set_cons_zero, List.set_cons_succ, i64_w, i32_w]
        rfl
      refine pure_ (i := 3) (N := some 56) (v := ?_) (a' := ?_) #[true, true, true, true, false, false, false, false, false, false, false, false, false, false] rfl rfl (any_of HT_.out (by kernel_rfl)) (fun _ _ _ h => h) (Or.inl ⟨by rfl, ?_⟩) ?_ ?_
      rotate_left
      · intro w'
        go_simp
        with_reducible rfl
      rotate_left
      · simp only [Act.put, List.setIfInBounds_toArray, List.set_cons_zero, List.set_cons_succ, i64_w, i32_w]
        rfl
      refine pure_ (i := 4) (N := some 57) (v := undef) (a' := ?_) #[true, true, true, true, true, false, false, false, false, false, false, false, false, false] rfl rfl (any_of HT_.out (by kernel_rfl)) (fun _ _ _ h => h) (Or.inr ⟨by rfl, rfl⟩) ?_ ?_
      rotate_left
      · simp only [Act.put, List.setIfInBounds_toArray, List.set_cons_zero, List.set_cons_succ, i64_w, i32_w]
        rfl
      refine pure_ (i := 5) (N := some 58) (v := undef) (a' := ?_) #[true, true, true, true, true, true, false, false, false, false, false, false, false, false] rfl rfl (any_of HT_.out (by kernel_rfl)) (fun _ _ _ h => h) (Or.inr ⟨by rfl, rfl⟩) ?_ ?_
      rotate_left
      · simp only [Act.put, List.setIfInBounds_toArray, List.set_cons_zero, List.set_cons_succ, i64_w, i32_w]
        rfl
      refine pure_ (i := 6) (N := some 59) (v := undef) (a' := ?_) #[true, true, true, true, true, true, true, false, false, false, false, false, false, false] rfl rfl (any_of HT_.out (by kernel_rfl)) (fun _ _ _ h => h) (Or.inr ⟨by rfl, rfl⟩) ?_ ?_
      rotate_left
      · simp only [Act.put, List.setIfInBounds_toArray, List.set_cons_zero, List.set_cons_succ, i64_w, i32_w]
        rfl
      refine pure_ (i := 7) (N := some 60) (v := ?_) (a' := ?_) #[true, true, true, true, true, true, true, true, false, false, false, false, false, false] rfl rfl (any_of HT_.out (by kernel_rfl)) (fun _ _ _ h => h) (Or.inl ⟨by rfl, ?_⟩) ?_ ?_
      rotate_left
      · intro w'
        go_simp
        with_reducible rfl
      rotate_left
      · simp only [Act.put, List.setIfInBounds_toArray, List.set_cons_zero, List.set_cons_succ, i64_w, i32_w]
        rfl
      refine pure_ (i := 8) (N := some 61) (v := ?_) (a' := ?_) #[true, true, true, true, true, true, true, true, true, false, false, false, false, false] rfl rfl (any_of HT_.out (by kernel_rfl)) (fun _ _ _ h => h) (Or.inl ⟨by rfl, ?_⟩) ?_ ?_
      rotate_left
      · intro w'
        go_simp
        with_reducible rfl
      rotate_left
      · simp only [Act.put, List.setIfInBounds_toArray, List.set_cons_zero, List.set_cons_succ, i64_w, i32_w]
        rfl
      refine pure_ (i := 9) (N := some 62) (v := undef) (a' := ?_) #[true, true, true, true, true, true, true, true, true, true, false, false, false, false] rfl rfl (any_of HT_.out (by kernel_rfl)) (fun _ _ _ h => h) (Or.inr ⟨by rfl, rfl⟩) ?_ ?_
      rotate_left
      · simp only [Act.put, List.setIfInBounds_toArray, List.set_cons_zero, List.set_cons_succ, i64_w, i32_w]
        rfl
      refine pure_ (i := 10) (N := some 63) (v := undef) (a' := ?_) #[true, true, true, true, true, true, true, true, true, true, true, false, false, false] rfl rfl (any_of HT_.out (by kernel_rfl)) (fun _ _ _ h => h) (Or.inr ⟨by rfl, rfl⟩) ?_ ?_
      rotate_left
      · simp only [Act.put, List.setIfInBounds_toArray, List.set_cons_zero, List.set_cons_succ, i64_w, i32_w]
        rfl
      refine pure_ (i := 11) (N := some 64) (v := undef) (a' := ?_) #[true, true, true, true, true, true, true, true, true, true, true, true, false, false] rfl rfl (any_of HT_.out (by kernel_rfl)) (fun _ _ _ h => h) (Or.inr ⟨by rfl, rfl⟩) ?_ ?_
      rotate_left
      · simp only [Act.put, List.setIfInBounds_toArray, List.set_cons_zero, List.set_cons_succ, i64_w, i32_w]
        rfl
      refine pure_ (i := 12) (N := some 65) (v := undef) (a' := ?_) #[true, true, true, true, true, true, true, true, true, true, true, true, true, false] rfl rfl (any_of HT_.out (by kernel_rfl)) (fun _ _ _ h => h) (Or.inr ⟨by rfl, rfl⟩) ?_ ?_
      rotate_left
      · simp only [Act.put, List.setIfInBounds_toArray, List.set_cons_zero, List.set_cons_succ, i64_w, i32_w]
        rfl
      refine pure_ (i := 13) (N := some 66) (v := ?_) (a' := ?_) #[true, true, true, true, true, true, true, true, true, true, true, true, true, true] rfl rfl (any_of HT_.out (by kernel_rfl)) (fun _ _ _ h => h) (Or.inl ⟨by rfl, ?_⟩) ?_ ?_
      rotate_left
      · intro w'
        go_simp
        with_reducible rfl
      rotate_left
      · simp only [Act.put, List.setIfInBounds_toArray, List.set_cons_zero, List.set_cons_succ, i64_w, i32_w]
        rfl
      refine done_ (done_of HT_.out (by kernel_rfl)) ?_
      try go_wp2
      go_meet
      case rel => exact ⟨_, (true), (by first | rfl | (simp; done) | (simp [*]; done)), H', ⟨by first | omega | exact Nat.le_refl _⟩, ⟨by (with_reducible repeat (first | refine blk_drewN ?_ _ | refine blk_drew ?_ | refine blk_alloc ?_ _)); exact BK159.out⟩, ⟨by (with_reducible repeat (first | refine blk_drewN ?_ _ | refine blk_drew ?_ | refine blk_alloc ?_ _)); exact BK172.out⟩, ⟨by (with_reducible repeat (first | refine blk_drewN ?_ _ | refine blk_drew ?_ | refine blk_alloc ?_ _)); exact BK180.out⟩, ⟨by (with_reducible repeat (first | refine blk_drewN ?_ _ | refine blk_drew ?_ | refine blk_alloc ?_ _)); exact BK199.out⟩, ⟨by repeat (first | (with_reducible first | exact HB.out | apply below_alloc | apply pw_below_drewN | apply below_drew1 | refine below_set ?_ GE159.out | refine below_set ?_ GE172.out | refine below_set ?_ GE180.out | refine below_set ?_ GE199.out) | exact HB.out)⟩⟩
  case rest =>
    clear HC12
    try clear c1
    try clear c2
    try clear p2
    try clear c3
    try clear c4
    try clear c15
    try clear c18
    try clear c19
    try clear c20
    try clear c21
    try clear c22
    try clear c23
    try clear c24
    try clear c33
    try clear c34
    try clear c35
    try clear c37
    try clear c37b0
    try clear c37b1
    try clear c38
    try clear c38b0
    try clear c38b1
    try clear c38b2
    try clear hcz14_0
    try clear hcz14_1
    try clear hcz14_2
    try clear hcz14_3
    try clear hcz14_4
    try clear hcz19_0
    try clear hcz19_1
    try clear hcz19_2
    try clear hcz19_3
    try clear hcz19_4
    try clear hcz20_0
    try clear hcz20_1
    try clear hcz20_2
    try clear hcz20_3
    try clear hcz20_4
    try clear hcz25_0
    try clear hcz25_1
    try clear hcz25_2
    try clear hcz25_3
    try clear hcz25_4
    try clear hcz26_0
    try clear hcz26_1
    try clear hcz26_2
    try clear hcz26_3
    try clear hcz26_4
    try clear hcz29_0
    try clear hcz29_1
    try clear hcz29_2
    try clear hcz29_3
    try clear hcz29_4
    try clear hcz36_0
    try clear hcz36_1
    try clear hcz36_2
    try clear hcz36_3
    try clear hcz36_4
    try clear hfz14_0
    try clear hfz14_1
    try clear hfz14_2
    try clear hfz14_3
    try clear hfz14_4
    try clear hfz19_0
    try clear hfz19_1
    try clear hfz19_2
    try clear hfz19_3
    try clear hfz19_4
    try clear hfz20_0
    try clear hfz20_1
    try clear hfz20_2
    try clear hfz20_3
    try clear hfz20_4
    try clear hfz25_0
    try clear hfz25_1
    try clear hfz25_2
    try clear hfz25_3
    try clear hfz25_4
    try clear hfz26_0
    try clear hfz26_1
    try clear hfz26_2
    try clear hfz26_3
    try clear hfz26_4
    try clear hfz29_0
    try clear hfz29_1
    try clear hfz29_2
    try clear hfz29_3
    try clear hfz29_4
    try clear hfz36_0
    try clear hfz36_1
    try clear hfz36_2
    try clear hfz36_3
    try clear hfz36_4
    obtain ⟨kq, x66_11, rfl, HA, HJ11, BK159, BK172, BK180, BK199, HB⟩ := hcut
    cases kq with
    | zero => exact absurd HA.out (by simp [rivuletlaw06_HopoptHops.j0])
    | succ kj11 =>
      have H := HA.out
      clear HA
      simp only [rivuletlaw06_HopoptHops.j0] at H
      by_cases c47 : x66_11 = true
      · subst c47
        have H1 : (some false) = some r := by rw [if_pos rfl] at H; exact H
        clear H
        have H := H1
        clear H1
        obtain rfl := Option.some.inj H
        go_wp2
        go_ret
        exact ⟨by first | rfl | (simp [errW_none, errW_some] <;> rfl) | (simp [*, errW_none, errW_some] <;> rfl), by repeat (first | (with_reducible first | exact HB.out | apply below_alloc | apply pw_below_drewN | apply below_drew1 | refine below_set ?_ GE159.out | refine below_set ?_ GE172.out | refine below_set ?_ GE180.out | refine below_set ?_ GE199.out) | exact HB.out)⟩
      · replace c47 := Bool.eq_false_iff.mpr c47
        subst c47
        have H1 : ((rivuletref06_Right.f a0_0 a0_1 a0_2 a0_3 a0_4).bind fun t205 => (if t205 = true then (if a1 < 0 then (rivuletlaw06_HopoptHops.j1 kj11 a1 a2 a3 t186 t187 t198 true a0_0 a0_1 a0_2 a0_3 a0_4 t193 t194 t195 t196 t197) else (rivuletlaw06_HopoptHops.j1 kj11 a1 a2 a3 t186 t187 t198 (decide (a1 > 65535)) a0_0 a0_1 a0_2 a0_3 a0_4 t193 t194 t195 t196 t197)) else (rivuletlaw06_HopoptHops.j1 kj11 a1 a2 a3 t186 t187 t198 true a0_0 a0_1 a0_2 a0_3 a0_4 t193 t194 t195 t196 t197))) = some r := by rw [if_neg (show ¬ (false = true) by decide)] at H; exact H
        clear H
        have H := H1
        clear H1
        have HC48 := Aside0.mk H
        clear H
        go_upto_region 7 with (fail)
        go_cut [77] (fun v77 wc => ∃ (kq : Nat) (x77_47 : Bool), v77 = .bool x77_47 ∧ Aside0 (rivuletlaw06_HopoptHops.j1 kq a1 a2 a3 t186 t187 t198 x77_47 a0_0 a0_1 a0_2 a0_3 a0_4 t193 t194 t195 t196 t197 = some r) ∧ Aside0 (kq ≤ kj11) ∧ Aside0 (wc.heap[gb159]? = some (.cells #[.bool a0_0, .bool a0_1, .bool a0_2, .int .i64 a0_3, .int .i64 a0_4] 23 (0, 0))) ∧ Aside0 (wc.heap[gb172]? = some (.cells #[.bool t165, .bool t166, .bool t167, .int .i64 t168, .int .i64 t169] 25 (0, 0))) ∧ Aside0 (wc.heap[gb180]? = some (.cells #[.bool t173, .bool t174, .bool t175, .int .i64 t176, .int .i64 t177] 23 (0, 0))) ∧ Aside0 (wc.heap[gb199]? = some (.cells #[.bool t193, .bool t194, .bool t195, .int .i64 t196, .int .i64 t197] 25 (0, 0))) ∧ Aside0 (Below w.heap.size w wc))
        case first =>
          have H := HC48.out
          clear HC48
          replace H := Option.bind_eq_some_iff.mp H
          obtain ⟨t205, A490, H⟩ := H
          replace H : (if t205 = true then (if a1 < 0 then (rivuletlaw06_HopoptHops.j1 kj11 a1 a2 a3 t186 t187 t198 true a0_0 a0_1 a0_2 a0_3 a0_4 t193 t194 t195 t196 t197) else (rivuletlaw06_HopoptHops.j1 kj11 a1 a2 a3 t186 t187 t198 (decide (a1 > 65535)) a0_0 a0_1 a0_2 a0_3 a0_4 t193 t194 t195 t196 t197)) else (rivuletlaw06_HopoptHops.j1 kj11 a1 a2 a3 t186 t187 t198 true a0_0 a0_1 a0_2 a0_3 a0_4 t193 t194 t195 t196 t197)) = some r := H
          have A49 := Aside0.mk A490
          clear A490
          by_cases c50 : t205 = true
          · subst c50
            have H1 : (if a1 < 0 then (rivuletlaw06_HopoptHops.j1 kj11 a1 a2 a3 t186 t187 t198 true a0_0 a0_1 a0_2 a0_3 a0_4 t193 t194 t195 t196 t197) else (rivuletlaw06_HopoptHops.j1 kj11 a1 a2 a3 t186 t187 t198 (decide (a1 > 65535)) a0_0 a0_1 a0_2 a0_3 a0_4 t193 t194 t195 t196 t197)) = some r := by rw [if_pos rfl] at H; exact H
            clear H
            have H := H1
            clear H1
            by_cases c51 : a1 < 0
            · rw [if_pos c51] at H
              have c51b0 : decide (a1 < 0) = true := decide_eq_true c51
              clear c51
              (first | rw [c51b0] | (simp only [i64_w, i32_w]; rw [c51b0]) | skip)
              have H' := Aside0.mk H
              clear H
              have hnb52 := NB159_172.out
              have hnc52 := NB172_159.out
              have hnb53 := NB159_180.out
              have hnc53 := NB180_159.out
              have hnb54 := NB159_199.out
              have hnc54 := NB199_159.out
              have hcz55_0 : wc.cell? ⟨gb159, 0, none⟩ = some (.bool a0_0) := (blk_cell BK159.out 0).trans rfl
              have hcz55_1 : wc.cell? ⟨gb159, 1, none⟩ = some (.bool a0_1) := (blk_cell BK159.out 1).trans rfl
              have hcz55_2 : wc.cell? ⟨gb159, 2, none⟩ = some (.bool a0_2) := (blk_cell BK159.out 2).trans rfl
              have hcz55_3 : wc.cell? ⟨gb159, 3, none⟩ = some (.int .i64 a0_3) := (blk_cell BK159.out 3).trans rfl
              have hcz55_4 : wc.cell? ⟨gb159, 4, none⟩ = some (.int .i64 a0_4) := (blk_cell BK159.out 4).trans rfl
              have hfz55_0 := blk_frozen BK159.out 0
              have hfz55_1 := blk_frozen BK159.out 1
              have hfz55_2 := blk_frozen BK159.out 2
              have hfz55_3 := blk_frozen BK159.out 3
              have hfz55_4 := blk_frozen BK159.out 4
              go_wp2_with (first | ((with_reducible refine gate_callee (f := 16) rfl ?_); refine goesL_ (some 68) rfl rfl Try.func16 (by kernel_rfl) rfl #[.agg #[.bool a0_0, .bool a0_1, .bool a0_2, .int .i64 a0_3, .int .i64 a0_4]] rfl (by (try simp only [List.map_toArray, List.map_cons, List.map_nil]); first | done | rfl | (simp only [List.length_drop, List.length_take]; rfl)) ?_; (with_reducible refine (rivuletref06_Right.calls a0_0 a0_1 a0_2 a0_3 a0_4 true _ A49.out).mono ?_); rintro e w56 ⟨rfl, hb⟩; refine ⟨_, rfl, ?_⟩; have n0_ := Aside0.mk (blk_below (g := gb159) (o := .cells #[.bool a0_0, .bool a0_1, .bool a0_2, .int .i64 a0_3, .int .i64 a0_4] 23 (0, 0)) (by (with_reducible repeat (first | refine blk_drewN ?_ _ | refine blk_drew ?_ | refine blk_alloc ?_ _)); exact BK159.out) hb); have n1_ := Aside0.mk (blk_below (g := gb172) (o := .cells #[.bool t165, .bool t166, .bool t167, .int .i64 t168, .int .i64 t169] 25 (0, 0)) (by (with_reducible repeat (first | refine blk_drewN ?_ _ | refine blk_drew ?_ | refine blk_alloc ?_ _)); exact BK172.out) hb); have n2_ := Aside0.mk (blk_below (g := gb180) (o := .cells #[.bool t173, .bool t174, .bool t175, .int .i64 t176, .int .i64 t177] 23 (0, 0)) (by (with_reducible repeat (first | refine blk_drewN ?_ _ | refine blk_drew ?_ | refine blk_alloc ?_ _)); exact BK180.out) hb); have n3_ := Aside0.mk (blk_below (g := gb199) (o := .cells #[.bool t193, .bool t194, .bool t195, .int .i64 t196, .int .i64 t197] 25 (0, 0)) (by (with_reducible repeat (first | refine blk_drewN ?_ _ | refine blk_drew ?_ | refine blk_alloc ?_ _)); exact BK199.out) hb); have n4_ := Aside0.mk (below_step (by repeat (first | (with_reducible first | exact HB.out | apply below_alloc | apply pw_below_drewN | apply below_drew1 | refine below_set ?_ GE159.out | refine below_set ?_ GE172.out | refine below_set ?_ GE180.out | refine below_set ?_ GE199.out) | exact HB.out)) hb); clear BK159; clear BK172; clear BK180; clear BK199; clear HB; have BK159 := n0_; have BK172 := n1_; have BK180 := n2_; have BK199 := n3_; have HB := n4_; clear n0_ n1_ n2_ n3_ n4_; (try clear hb); (try clear hb2); (try clear hk); (try clear hi)))
              go_meet
              case rel => exact ⟨_, (true), (by first | rfl | (simp; done) | (simp [*]; done)), H', ⟨by have := HJ11.out; first | omega | exact Nat.le_refl _⟩, ⟨by (with_reducible repeat (first | refine blk_drewN ?_ _ | refine blk_drew ?_ | refine blk_alloc ?_ _)); exact BK159.out⟩, ⟨by (with_reducible repeat (first | refine blk_drewN ?_ _ | refine blk_drew ?_ | refine blk_alloc ?_ _)); exact BK172.out⟩, ⟨by (with_reducible repeat (first | refine blk_drewN ?_ _ | refine blk_drew ?_ | refine blk_alloc ?_ _)); exact BK180.out⟩, ⟨by (with_reducible repeat (first | refine blk_drewN ?_ _ | refine blk_drew ?_ | refine blk_alloc ?_ _)); exact BK199.out⟩, ⟨by repeat (first | (with_reducible first | exact HB.out | apply below_alloc | apply pw_below_drewN | apply below_drew1 | refine below_set ?_ GE159.out | refine below_set ?_ GE172.out | refine below_set ?_ GE180.out | refine below_set ?_ GE199.out) | exact HB.out)⟩⟩
            · rw [if_neg c51] at H
              have c51b0 : decide (a1 < 0) = false := decide_eq_false c51
              clear c51
              (first | rw [c51b0] | (simp only [i64_w, i32_w]; rw [c51b0]) | skip)
              have H' := Aside0.mk H
              clear H
              have hnb57 := NB159_172.out
              have hnc57 := NB172_159.out
              have hnb58 := NB159_180.out
              have hnc58 := NB180_159.out
              have hnb59 := NB159_199.out
              have hnc59 := NB199_159.out
              have hcz60_0 : wc.cell? ⟨gb159, 0, none⟩ = some (.bool a0_0) := (blk_cell BK159.out 0).trans rfl
              have hcz60_1 : wc.cell? ⟨gb159, 1, none⟩ = some (.bool a0_1) := (blk_cell BK159.out 1).trans rfl
              have hcz60_2 : wc.cell? ⟨gb159, 2, none⟩ = some (.bool a0_2) := (blk_cell BK159.out 2).trans rfl
              have hcz60_3 : wc.cell? ⟨gb159, 3, none⟩ = some (.int .i64 a0_3) := (blk_cell BK159.out 3).trans rfl
              have hcz60_4 : wc.cell? ⟨gb159, 4, none⟩ = some (.int .i64 a0_4) := (blk_cell BK159.out 4).trans rfl
              have hfz60_0 := blk_frozen BK159.out 0
              have hfz60_1 := blk_frozen BK159.out 1
              have hfz60_2 := blk_frozen BK159.out 2
              have hfz60_3 := blk_frozen BK159.out 3
              have hfz60_4 := blk_frozen BK159.out 4
              go_wp2_with (first | ((with_reducible refine gate_callee (f := 16) rfl ?_); refine goesL_ (some 68) rfl rfl Try.func16 (by kernel_rfl) rfl #[.agg #[.bool a0_0, .bool a0_1, .bool a0_2, .int .i64 a0_3, .int .i64 a0_4]] rfl (by (try simp only [List.map_toArray, List.map_cons, List.map_nil]); first | done | rfl | (simp only [List.length_drop, List.length_take]; rfl)) ?_; (with_reducible refine (rivuletref06_Right.calls a0_0 a0_1 a0_2 a0_3 a0_4 true _ A49.out).mono ?_); rintro e w61 ⟨rfl, hb⟩; refine ⟨_, rfl, ?_⟩; have n0_ := Aside0.mk (blk_below (g := gb159) (o := .cells #[.bool a0_0, .bool a0_1, .bool a0_2, .int .i64 a0_3, .int .i64 a0_4] 23 (0, 0)) (by (with_reducible repeat (first | refine blk_drewN ?_ _ | refine blk_drew ?_ | refine blk_alloc ?_ _)); exact BK159.out) hb); have n1_ := Aside0.mk (blk_below (g := gb172) (o := .cells #[.bool t165, .bool t166, .bool t167, .int .i64 t168, .int .i64 t169] 25 (0, 0)) (by (with_reducible repeat (first | refine blk_drewN ?_ _ | refine blk_drew ?_ | refine blk_alloc ?_ _)); exact BK172.out) hb); have n2_ := Aside0.mk (blk_below (g := gb180) (o := .cells #[.bool t173, .bool t174, .bool t175, .int .i64 t176, .int .i64 t177] 23 (0, 0)) (by (with_reducible repeat (first | refine blk_drewN ?_ _ | refine blk_drew ?_ | refine blk_alloc ?_ _)); exact BK180.out) hb); have n3_ := Aside0.mk (blk_below (g := gb199) (o := .cells #[.bool t193, .bool t194, .bool t195, .int .i64 t196, .int .i64 t197] 25 (0, 0)) (by (with_reducible repeat (first | refine blk_drewN ?_ _ | refine blk_drew ?_ | refine blk_alloc ?_ _)); exact BK199.out) hb); have n4_ := Aside0.mk (below_step (by repeat (first | (with_reducible first | exact HB.out | apply below_alloc | apply pw_below_drewN | apply below_drew1 | refine below_set ?_ GE159.out | refine below_set ?_ GE172.out | refine below_set ?_ GE180.out | refine below_set ?_ GE199.out) | exact HB.out)) hb); clear BK159; clear BK172; clear BK180; clear BK199; clear HB; have BK159 := n0_; have BK172 := n1_; have BK180 := n2_; have BK199 := n3_; have HB := n4_; clear n0_ n1_ n2_ n3_ n4_; (try clear hb); (try clear hb2); (try clear hk); (try clear hi)))
              go_meet
              case rel => exact ⟨_, (decide (a1 > 65535)), (by first | rfl | (simp; done) | (simp [*]; done)), H', ⟨by have := HJ11.out; first | omega | exact Nat.le_refl _⟩, ⟨by (with_reducible repeat (first | refine blk_drewN ?_ _ | refine blk_drew ?_ | refine blk_alloc ?_ _)); exact BK159.out⟩, ⟨by (with_reducible repeat (first | refine blk_drewN ?_ _ | refine blk_drew ?_ | refine blk_alloc ?_ _)); exact BK172.out⟩, ⟨by (with_reducible repeat (first | refine blk_drewN ?_ _ | refine blk_drew ?_ | refine blk_alloc ?_ _)); exact BK180.out⟩, ⟨by (with_reducible repeat (first | refine blk_drewN ?_ _ | refine blk_drew ?_ | refine blk_alloc ?_ _)); exact BK199.out⟩, ⟨by repeat (first | (with_reducible first | exact HB.out | apply below_alloc | apply pw_below_drewN | apply below_drew1 | refine below_set ?_ GE159.out | refine below_set ?_ GE172.out | refine below_set ?_ GE180.out | refine below_set ?_ GE199.out) | exact HB.out)⟩⟩
          · replace c50 := Bool.eq_false_iff.mpr c50
            subst c50
            have H1 : (rivuletlaw06_HopoptHops.j1 kj11 a1 a2 a3 t186 t187 t198 true a0_0 a0_1 a0_2 a0_3 a0_4 t193 t194 t195 t196 t197) = some r := by rw [if_neg (show ¬ (false = true) by decide)] at H; exact H
            clear H
            have H := H1
            clear H1
            have H' := Aside0.mk H
            clear H
            have hnb62 := NB159_172.out
            have hnc62 := NB172_159.out
            have hnb63 := NB159_180.out
            have hnc63 := NB180_159.out
            have hnb64 := NB159_199.out
            have hnc64 := NB199_159.out
            have hcz65_0 : wc.cell? ⟨gb159, 0, none⟩ = some (.bool a0_0) := (blk_cell BK159.out 0).trans rfl
            have hcz65_1 : wc.cell? ⟨gb159, 1, none⟩ = some (.bool a0_1) := (blk_cell BK159.out 1).trans rfl
            have hcz65_2 : wc.cell? ⟨gb159, 2, none⟩ = some (.bool a0_2) := (blk_cell BK159.out 2).trans rfl
            have hcz65_3 : wc.cell? ⟨gb159, 3, none⟩ = some (.int .i64 a0_3) := (blk_cell BK159.out 3).trans rfl
            have hcz65_4 : wc.cell? ⟨gb159, 4, none⟩ = some (.int .i64 a0_4) := (blk_cell BK159.out 4).trans rfl
            have hfz65_0 := blk_frozen BK159.out 0
            have hfz65_1 := blk_frozen BK159.out 1
            have hfz65_2 := blk_frozen BK159.out 2
            have hfz65_3 := blk_frozen BK159.out 3
            have hfz65_4 := blk_frozen BK159.out 4
            go_wp2_with (first | ((with_reducible refine gate_callee (f := 16) rfl ?_); refine goesL_ (some 68) rfl rfl Try.func16 (by kernel_rfl) rfl #[.agg #[.bool a0_0, .bool a0_1, .bool a0_2, .int .i64 a0_3, .int .i64 a0_4]] rfl (by (try simp only [List.map_toArray, List.map_cons, List.map_nil]); first | done | rfl | (simp only [List.length_drop, List.length_take]; rfl)) ?_; (with_reducible refine (rivuletref06_Right.calls a0_0 a0_1 a0_2 a0_3 a0_4 false _ A49.out).mono ?_); rintro e w66 ⟨rfl, hb⟩; refine ⟨_, rfl, ?_⟩; have n0_ := Aside0.mk (blk_below (g := gb159) (o := .cells #[.bool a0_0, .bool a0_1, .bool a0_2, .int .i64 a0_3, .int .i64 a0_4] 23 (0, 0)) (by (with_reducible repeat (first | refine blk_drewN ?_ _ | refine blk_drew ?_ | refine blk_alloc ?_ _)); exact BK159.out) hb); have n1_ := Aside0.mk (blk_below (g := gb172) (o := .cells #[.bool t165, .bool t166, .bool t167, .int .i64 t168, .int .i64 t169] 25 (0, 0)) (by (with_reducible repeat (first | refine blk_drewN ?_ _ | refine blk_drew ?_ | refine blk_alloc ?_ _)); exact BK172.out) hb); have n2_ := Aside0.mk (blk_below (g := gb180) (o := .cells #[.bool t173, .bool t174, .bool t175, .int .i64 t176, .int .i64 t177] 23 (0, 0)) (by (with_reducible repeat (first | refine blk_drewN ?_ _ | refine blk_drew ?_ | refine blk_alloc ?_ _)); exact BK180.out) hb); have n3_ := Aside0.mk (blk_below (g := gb199) (o := .cells #[.bool t193, .bool t194, .bool t195, .int .i64 t196, .int .i64 t197] 25 (0, 0)) (by (with_reducible repeat (first | refine blk_drewN ?_ _ | refine blk_drew ?_ | refine blk_alloc ?_ _)); exact BK199.out) hb); have n4_ := Aside0.mk (below_step (by repeat (first | (with_reducible first | exact HB.out | apply below_alloc | apply pw_below_drewN | apply below_drew1 | refine below_set ?_ GE159.out | refine below_set ?_ GE172.out | refine below_set ?_ GE180.out | refine below_set ?_ GE199.out) | exact HB.out)) hb); clear BK159; clear BK172; clear BK180; clear BK199; clear HB; have BK159 := n0_; have BK172 := n1_; have BK180 := n2_; have BK199 := n3_; have HB := n4_; clear n0_ n1_ n2_ n3_ n4_; (try clear hb); (try clear hb2); (try clear hk); (try clear hi)))
            go_meet
            case rel => exact ⟨_, (true), (by first | rfl | (simp; done) | (simp [*]; done)), H', ⟨by have := HJ11.out; first | omega | exact Nat.le_refl _⟩, ⟨by (with_reducible repeat (first | refine blk_drewN ?_ _ | refine blk_drew ?_ | refine blk_alloc ?_ _)); exact BK159.out⟩, ⟨by (with_reducible repeat (first | refine blk_drewN ?_ _ | refine blk_drew ?_ | refine blk_alloc ?_ _)); exact BK172.out⟩, ⟨by (with_reducible repeat (first | refine blk_drewN ?_ _ | refine blk_drew ?_ | refine blk_alloc ?_ _)); exact BK180.out⟩, ⟨by (with_reducible repeat (first | refine blk_drewN ?_ _ | refine blk_drew ?_ | refine blk_alloc ?_ _)); exact BK199.out⟩, ⟨by repeat (first | (with_reducible first | exact HB.out | apply below_alloc | apply pw_below_drewN | apply below_drew1 | refine below_set ?_ GE159.out | refine below_set ?_ GE172.out | refine below_set ?_ GE180.out | refine below_set ?_ GE199.out) | exact HB.out)⟩⟩
        case rest =>
          clear HC48
          try clear c1
          try clear c2
          try clear p2
          try clear c3
          try clear c4
          try clear c5
          try clear c6
          try clear c15
          try clear c16
          try clear c18
          try clear c19
          try clear c20
          try clear c21
          try clear c22
          try clear c23
          try clear c24
          try clear c33
          try clear c34
          try clear c35
          try clear c37
          try clear c37b0
          try clear c37b1
          try clear c38
          try clear c38b0
          try clear c38b1
          try clear c38b2
          try clear c47
          try clear c50
          try clear c51
          try clear c51b0
          try clear c52
          try clear c53
          try clear c54
          try clear c57
          try clear c58
          try clear c59
          try clear c62
          try clear c63
          try clear c64
          try clear hcz14_0
          try clear hcz14_1
          try clear hcz14_2
          try clear hcz14_3
          try clear hcz14_4
          try clear hcz19_0
          try clear hcz19_1
          try clear hcz19_2
          try clear hcz19_3
          try clear hcz19_4
          try clear hcz20_0
          try clear hcz20_1
          try clear hcz20_2
          try clear hcz20_3
          try clear hcz20_4
          try clear hcz25_0
          try clear hcz25_1
          try clear hcz25_2
          try clear hcz25_3
          try clear hcz25_4
          try clear hcz26_0
          try clear hcz26_1
          try clear hcz26_2
          try clear hcz26_3
          try clear hcz26_4
          try clear hcz29_0
          try clear hcz29_1
          try clear hcz29_2
          try clear hcz29_3
          try clear hcz29_4
          try clear hcz36_0
          try clear hcz36_1
          try clear hcz36_2
          try clear hcz36_3
          try clear hcz36_4
          try clear hcz55_0
          try clear hcz55_1
          try clear hcz55_2
          try clear hcz55_3
          try clear hcz55_4
          try clear hcz60_0
          try clear hcz60_1
          try clear hcz60_2
          try clear hcz60_3
          try clear hcz60_4
          try clear hcz65_0
          try clear hcz65_1
          try clear hcz65_2
          try clear hcz65_3
          try clear hcz65_4
          try clear hfz14_0
          try clear hfz14_1
          try clear hfz14_2
          try clear hfz14_3
          try clear hfz14_4
          try clear hfz19_0
          try clear hfz19_1
          try clear hfz19_2
          try clear hfz19_3
          try clear hfz19_4
          try clear hfz20_0
          try clear hfz20_1
          try clear hfz20_2
          try clear hfz20_3
          try clear hfz20_4
          try clear hfz25_0
          try clear hfz25_1
          try clear hfz25_2
          try clear hfz25_3
          try clear hfz25_4
          try clear hfz26_0
          try clear hfz26_1
          try clear hfz26_2
          try clear hfz26_3
          try clear hfz26_4
          try clear hfz29_0
          try clear hfz29_1
          try clear hfz29_2
          try clear hfz29_3
          try clear hfz29_4
          try clear hfz36_0
          try clear hfz36_1
          try clear hfz36_2
          try clear hfz36_3
          try clear hfz36_4
          try clear hfz55_0
          try clear hfz55_1
          try clear hfz55_2
          try clear hfz55_3
          try clear hfz55_4
          try clear hfz60_0
          try clear hfz60_1
          try clear hfz60_2
          try clear hfz60_3
          try clear hfz60_4
          try clear hfz65_0
          try clear hfz65_1
          try clear hfz65_2
          try clear hfz65_3
          try clear hfz65_4
          try clear p2
          obtain ⟨kq, x77_47, rfl, HA, HJ47, BK159, BK172, BK180, BK199, HB⟩ := hcut
          cases kq with
          | zero => exact absurd HA.out (by simp [rivuletlaw06_HopoptHops.j1])
          | succ kj47 =>
            have H := HA.out
            clear HA
            simp only [rivuletlaw06_HopoptHops.j1] at H
            by_cases c67 : x77_47 = true
            · subst c67
              have H1 : ((rivuletlaw06_known.f kj47).bind fun t206 => (if t206 = true then (if t187 = 1 then (if t198 = 1 then (some (!t186)) else (some false)) else (some false)) else (some false))) = some r := by rw [if_pos rfl] at H; exact H
              clear H
              have H := H1
              clear H1
              replace H := Option.bind_eq_some_iff.mp H
              obtain ⟨t206, A680, H⟩ := H
              replace H : (if t206 = true then (if t187 = 1 then (if t198 = 1 then (some (!t186)) else (some false)) else (some false)) else (some false)) = some r := H
              have A68 := Aside0.mk A680
              clear A680
              by_cases c69 : t206 = true
              · subst c69
                have H1 : (if t187 = 1 then (if t198 = 1 then (some (!t186)) else (some false)) else (some false)) = some r := by rw [if_pos rfl] at H; exact H
                clear H
                have H := H1
                clear H1
                by_cases c70 : t187 = 1
                · rw [if_pos c70] at H
                  have c70b0 : (t187 == 1) = true := beq_iff_eq.mpr c70
                  have c70b1 : (t187 != 1) = false := bne_eq_false_iff_eq.mpr c70
                  clear c70
                  by_cases c71 : t198 = 1
                  · rw [if_pos c71] at H
                    have c71b0 : (t198 == 1) = true := beq_iff_eq.mpr c71
                    have c71b1 : (t198 != 1) = false := bne_eq_false_iff_eq.mpr c71
                    clear c71
                    obtain rfl := Option.some.inj H
                    go_wp2_with (first | ((with_reducible refine gate_callee (f := 17) rfl ?_); refine goesL_ (some 78) rfl rfl Try.func17 (by kernel_rfl) rfl #[] rfl (by (try simp only [List.map_toArray, List.map_cons, List.map_nil]); first | done | rfl | (simp only [List.length_drop, List.length_take]; rfl)) ?_; (with_reducible refine (rivuletlaw06_known.calls kj47  true _ A68.out).mono ?_); rintro e w72 ⟨rfl, hb⟩; refine ⟨_, rfl, ?_⟩; have n0_ := Aside0.mk (blk_below (g := gb159) (o := .cells #[.bool a0_0, .bool a0_1, .bool a0_2, .int .i64 a0_3, .int .i64 a0_4] 23 (0, 0)) (by (with_reducible repeat (first | refine blk_drewN ?_ _ | refine blk_drew ?_ | refine blk_alloc ?_ _)); exact BK159.out) hb); have n1_ := Aside0.mk (blk_below (g := gb172) (o := .cells #[.bool t165, .bool t166, .bool t167, .int .i64 t168, .int .i64 t169] 25 (0, 0)) (by (with_reducible repeat (first | refine blk_drewN ?_ _ | refine blk_drew ?_ | refine blk_alloc ?_ _)); exact BK172.out) hb); have n2_ := Aside0.mk (blk_below (g := gb180) (o := .cells #[.bool t173, .bool t174, .bool t175, .int .i64 t176, .int .i64 t177] 23 (0, 0)) (by (with_reducible repeat (first | refine blk_drewN ?_ _ | refine blk_drew ?_ | refine blk_alloc ?_ _)); exact BK180.out) hb); have n3_ := Aside0.mk (blk_below (g := gb199) (o := .cells #[.bool t193, .bool t194, .bool t195, .int .i64 t196, .int .i64 t197] 25 (0, 0)) (by (with_reducible repeat (first | refine blk_drewN ?_ _ | refine blk_drew ?_ | refine blk_alloc ?_ _)); exact BK199.out) hb); have n4_ := Aside0.mk (below_step (by repeat (first | (with_reducible first | exact HB.out | apply below_alloc | apply pw_below_drewN | apply below_drew1 | refine below_set ?_ GE159.out | refine below_set ?_ GE172.out | refine below_set ?_ GE180.out | refine below_set ?_ GE199.out) | exact HB.out)) hb); clear BK159; clear BK172; clear BK180; clear BK199; clear HB; have BK159 := n0_; have BK172 := n1_; have BK180 := n2_; have BK199 := n3_; have HB := n4_; clear n0_ n1_ n2_ n3_ n4_; (try clear hb); (try clear hb2); (try clear hk); (try clear hi)))
                    go_ret
                    exact ⟨by first | rfl | (simp [errW_none, errW_some] <;> rfl) | (simp [*, errW_none, errW_some] <;> rfl), by repeat (first | (with_reducible first | exact HB.out | apply below_alloc | apply pw_below_drewN | apply below_drew1 | refine below_set ?_ GE159.out | refine below_set ?_ GE172.out | refine below_set ?_ GE180.out | refine below_set ?_ GE199.out) | exact HB.out)⟩
                  · rw [if_neg c71] at H
                    have c71b0 : (t198 == 1) = false := beq_eq_false_iff_ne.mpr c71
                    have c71b1 : (t198 != 1) = true := bne_iff_ne.mpr c71
                    obtain rfl := Option.some.inj H
                    go_wp2_with (first | ((with_reducible refine gate_callee (f := 17) rfl ?_); refine goesL_ (some 78) rfl rfl Try.func17 (by kernel_rfl) rfl #[] rfl (by (try simp only [List.map_toArray, List.map_cons, List.map_nil]); first | done | rfl | (simp only [List.length_drop, List.length_take]; rfl)) ?_; (with_reducible refine (rivuletlaw06_known.calls kj47  true _ A68.out).mono ?_); rintro e w73 ⟨rfl, hb⟩; refine ⟨_, rfl, ?_⟩; have n0_ := Aside0.mk (blk_below (g := gb159) (o := .cells #[.bool a0_0, .bool a0_1, .bool a0_2, .int .i64 a0_3, .int .i64 a0_4] 23 (0, 0)) (by (with_reducible repeat (first | refine blk_drewN ?_ _ | refine blk_drew ?_ | refine blk_alloc ?_ _)); exact BK159.out) hb); have n1_ := Aside0.mk (blk_below (g := gb172) (o := .cells #[.bool t165, .bool t166, .bool t167, .int .i64 t168, .int .i64 t169] 25 (0, 0)) (by (with_reducible repeat (first | refine blk_drewN ?_ _ | refine blk_drew ?_ | refine blk_alloc ?_ _)); exact BK172.out) hb); have n2_ := Aside0.mk (blk_below (g := gb180) (o := .cells #[.bool t173, .bool t174, .bool t175, .int .i64 t176, .int .i64 t177] 23 (0, 0)) (by (with_reducible repeat (first | refine blk_drewN ?_ _ | refine blk_drew ?_ | refine blk_alloc ?_ _)); exact BK180.out) hb); have n3_ := Aside0.mk (blk_below (g := gb199) (o := .cells #[.bool t193, .bool t194, .bool t195, .int .i64 t196, .int .i64 t197] 25 (0, 0)) (by (with_reducible repeat (first | refine blk_drewN ?_ _ | refine blk_drew ?_ | refine blk_alloc ?_ _)); exact BK199.out) hb); have n4_ := Aside0.mk (below_step (by repeat (first | (with_reducible first | exact HB.out | apply below_alloc | apply pw_below_drewN | apply below_drew1 | refine below_set ?_ GE159.out | refine below_set ?_ GE172.out | refine below_set ?_ GE180.out | refine below_set ?_ GE199.out) | exact HB.out)) hb); clear BK159; clear BK172; clear BK180; clear BK199; clear HB; have BK159 := n0_; have BK172 := n1_; have BK180 := n2_; have BK199 := n3_; have HB := n4_; clear n0_ n1_ n2_ n3_ n4_; (try clear hb); (try clear hb2); (try clear hk); (try clear hi)))
                    go_ret
                    exact ⟨by first | rfl | (simp [errW_none, errW_some] <;> rfl) | (simp [*, errW_none, errW_some] <;> rfl), by repeat (first | (with_reducible first | exact HB.out | apply below_alloc | apply pw_below_drewN | apply below_drew1 | refine below_set ?_ GE159.out | refine below_set ?_ GE172.out | refine below_set ?_ GE180.out | refine below_set ?_ GE199.out) | exact HB.out)⟩
                · rw [if_neg c70] at H
                  have c70b0 : (t187 == 1) = false := beq_eq_false_iff_ne.mpr c70
                  have c70b1 : (t187 != 1) = true := bne_iff_ne.mpr c70
                  obtain rfl := Option.some.inj H
                  go_wp2_with (first | ((with_reducible refine gate_callee (f := 17) rfl ?_); refine goesL_ (some 78) rfl rfl Try.func17 (by kernel_rfl) rfl #[] rfl (by (try simp only [List.map_toArray, List.map_cons, List.map_nil]); first | done | rfl | (simp only [List.length_drop, List.length_take]; rfl)) ?_; (with_reducible refine (rivuletlaw06_known.calls kj47  true _ A68.out).mono ?_); rintro e w74 ⟨rfl, hb⟩; refine ⟨_, rfl, ?_⟩; have n0_ := Aside0.mk (blk_below (g := gb159) (o := .cells #[.bool a0_0, .bool a0_1, .bool a0_2, .int .i64 a0_3, .int .i64 a0_4] 23 (0, 0)) (by (with_reducible repeat (first | refine blk_drewN ?_ _ | refine blk_drew ?_ | refine blk_alloc ?_ _)); exact BK159.out) hb); have n1_ := Aside0.mk (blk_below (g := gb172) (o := .cells #[.bool t165, .bool t166, .bool t167, .int .i64 t168, .int .i64 t169] 25 (0, 0)) (by (with_reducible repeat (first | refine blk_drewN ?_ _ | refine blk_drew ?_ | refine blk_alloc ?_ _)); exact BK172.out) hb); have n2_ := Aside0.mk (blk_below (g := gb180) (o := .cells #[.bool t173, .bool t174, .bool t175, .int .i64 t176, .int .i64 t177] 23 (0, 0)) (by (with_reducible repeat (first | refine blk_drewN ?_ _ | refine blk_drew ?_ | refine blk_alloc ?_ _)); exact BK180.out) hb); have n3_ := Aside0.mk (blk_below (g := gb199) (o := .cells #[.bool t193, .bool t194, .bool t195, .int .i64 t196, .int .i64 t197] 25 (0, 0)) (by (with_reducible repeat (first | refine blk_drewN ?_ _ | refine blk_drew ?_ | refine blk_alloc ?_ _)); exact BK199.out) hb); have n4_ := Aside0.mk (below_step (by repeat (first | (with_reducible first | exact HB.out | apply below_alloc | apply pw_below_drewN | apply below_drew1 | refine below_set ?_ GE159.out | refine below_set ?_ GE172.out | refine below_set ?_ GE180.out | refine below_set ?_ GE199.out) | exact HB.out)) hb); clear BK159; clear BK172; clear BK180; clear BK199; clear HB; have BK159 := n0_; have BK172 := n1_; have BK180 := n2_; have BK199 := n3_; have HB := n4_; clear n0_ n1_ n2_ n3_ n4_; (try clear hb); (try clear hb2); (try clear hk); (try clear hi)))
                  go_ret
                  exact ⟨by first | rfl | (simp [errW_none, errW_some] <;> rfl) | (simp [*, errW_none, errW_some] <;> rfl), by repeat (first | (with_reducible first | exact HB.out | apply below_alloc | apply pw_below_drewN | apply below_drew1 | refine below_set ?_ GE159.out | refine below_set ?_ GE172.out | refine below_set ?_ GE180.out | refine below_set ?_ GE199.out) | exact HB.out)⟩
              · replace c69 := Bool.eq_false_iff.mpr c69
                subst c69
                have H1 : (some false) = some r := by rw [if_neg (show ¬ (false = true) by decide)] at H; exact H
                clear H
                have H := H1
                clear H1
                obtain rfl := Option.some.inj H
                go_wp2_with (first | ((with_reducible refine gate_callee (f := 17) rfl ?_); refine goesL_ (some 78) rfl rfl Try.func17 (by kernel_rfl) rfl #[] rfl (by (try simp only [List.map_toArray, List.map_cons, List.map_nil]); first | done | rfl | (simp only [List.length_drop, List.length_take]; rfl)) ?_; (with_reducible refine (rivuletlaw06_known.calls kj47  false _ A68.out).mono ?_); rintro e w75 ⟨rfl, hb⟩; refine ⟨_, rfl, ?_⟩; have n0_ := Aside0.mk (blk_below (g := gb159) (o := .cells #[.bool a0_0, .bool a0_1, .bool a0_2, .int .i64 a0_3, .int .i64 a0_4] 23 (0, 0)) (by (with_reducible repeat (first | refine blk_drewN ?_ _ | refine blk_drew ?_ | refine blk_alloc ?_ _)); exact BK159.out) hb); have n1_ := Aside0.mk (blk_below (g := gb172) (o := .cells #[.bool t165, .bool t166, .bool t167, .int .i64 t168, .int .i64 t169] 25 (0, 0)) (by (with_reducible repeat (first | refine blk_drewN ?_ _ | refine blk_drew ?_ | refine blk_alloc ?_ _)); exact BK172.out) hb); have n2_ := Aside0.mk (blk_below (g := gb180) (o := .cells #[.bool t173, .bool t174, .bool t175, .int .i64 t176, .int .i64 t177] 23 (0, 0)) (by (with_reducible repeat (first | refine blk_drewN ?_ _ | refine blk_drew ?_ | refine blk_alloc ?_ _)); exact BK180.out) hb); have n3_ := Aside0.mk (blk_below (g := gb199) (o := .cells #[.bool t193, .bool t194, .bool t195, .int .i64 t196, .int .i64 t197] 25 (0, 0)) (by (with_reducible repeat (first | refine blk_drewN ?_ _ | refine blk_drew ?_ | refine blk_alloc ?_ _)); exact BK199.out) hb); have n4_ := Aside0.mk (below_step (by repeat (first | (with_reducible first | exact HB.out | apply below_alloc | apply pw_below_drewN | apply below_drew1 | refine below_set ?_ GE159.out | refine below_set ?_ GE172.out | refine below_set ?_ GE180.out | refine below_set ?_ GE199.out) | exact HB.out)) hb); clear BK159; clear BK172; clear BK180; clear BK199; clear HB; have BK159 := n0_; have BK172 := n1_; have BK180 := n2_; have BK199 := n3_; have HB := n4_; clear n0_ n1_ n2_ n3_ n4_; (try clear hb); (try clear hb2); (try clear hk); (try clear hi)))
                go_ret
                exact ⟨by first | rfl | (simp [errW_none, errW_some] <;> rfl) | (simp [*, errW_none, errW_some] <;> rfl), by repeat (first | (with_reducible first | exact HB.out | apply below_alloc | apply pw_below_drewN | apply below_drew1 | refine below_set ?_ GE159.out | refine below_set ?_ GE172.out | refine below_set ?_ GE180.out | refine below_set ?_ GE199.out) | exact HB.out)⟩
            · replace c67 := Bool.eq_false_iff.mpr c67
              subst c67
              have H1 : (if t198 = 0 then ((rivuletlaw06_Of.f t193 t194 t195 t196 t197).bind fun bt208 => (rivuletlaw06_HopoptHops.j2 kj47 a1 a2 t186 t187 (!(bt208.1 == a3) || (!(bt208.2.1 == a0_1) || (!(bt208.2.2.1 == a0_2) || (!(bt208.2.2.2.1 == a0_3) || (!(bt208.2.2.2.2 == a1)))))) a0_0 a0_1 a0_2 a0_3 a0_4)) else (rivuletlaw06_HopoptHops.j2 kj47 a1 a2 t186 t187 true a0_0 a0_1 a0_2 a0_3 a0_4)) = some r := by rw [if_neg (show ¬ (false = true) by decide)] at H; exact H
              clear H
              have H := H1
              clear H1
              have HC76 := Aside0.mk H
              clear H
              have hnb77 := NB159_172.out
              have hnc77 := NB172_159.out
              have hnb78 := NB159_180.out
              have hnc78 := NB180_159.out
              have hnb79 := NB159_199.out
              have hnc79 := NB199_159.out
              have hcz80_0 : wc.cell? ⟨gb159, 0, none⟩ = some (.bool a0_0) := (blk_cell BK159.out 0).trans rfl
              have hcz80_1 : wc.cell? ⟨gb159, 1, none⟩ = some (.bool a0_1) := (blk_cell BK159.out 1).trans rfl
              have hcz80_2 : wc.cell? ⟨gb159, 2, none⟩ = some (.bool a0_2) := (blk_cell BK159.out 2).trans rfl
              have hcz80_3 : wc.cell? ⟨gb159, 3, none⟩ = some (.int .i64 a0_3) := (blk_cell BK159.out 3).trans rfl
              have hcz80_4 : wc.cell? ⟨gb159, 4, none⟩ = some (.int .i64 a0_4) := (blk_cell BK159.out 4).trans rfl
              have hfz80_0 := blk_frozen BK159.out 0
              have hfz80_1 := blk_frozen BK159.out 1
              have hfz80_2 := blk_frozen BK159.out 2
              have hfz80_3 := blk_frozen BK159.out 3
              have hfz80_4 := blk_frozen BK159.out 4
              go_upto_region 11 with (first | ((with_reducible refine gate_dst (N := 19) rfl ?_); refine box_event ?hg (N := 19) ?hd (cs := #[.bool false, .bool false, .bool false, .int .i64 0, .int .i64 0]) (t := 23) ?hr ?_; (case hd => rfl); (case hg => rfl); (case hr => first | (go_simp; done) | (go_simp; rfl)); intro gb207 hg w81 hbox hb; have n0_ := Aside0.mk (blk_below (g := gb159) (o := .cells #[.bool a0_0, .bool a0_1, .bool a0_2, .int .i64 a0_3, .int .i64 a0_4] 23 (0, 0)) (by (with_reducible repeat (first | refine blk_drewN ?_ _ | refine blk_drew ?_ | refine blk_alloc ?_ _)); exact BK159.out) hb); have n1_ := Aside0.mk (blk_below (g := gb172) (o := .cells #[.bool t165, .bool t166, .bool t167, .int .i64 t168, .int .i64 t169] 25 (0, 0)) (by (with_reducible repeat (first | refine blk_drewN ?_ _ | refine blk_drew ?_ | refine blk_alloc ?_ _)); exact BK172.out) hb); have n2_ := Aside0.mk (blk_below (g := gb180) (o := .cells #[.bool t173, .bool t174, .bool t175, .int .i64 t176, .int .i64 t177] 23 (0, 0)) (by (with_reducible repeat (first | refine blk_drewN ?_ _ | refine blk_drew ?_ | refine blk_alloc ?_ _)); exact BK180.out) hb); have n3_ := Aside0.mk (blk_below (g := gb199) (o := .cells #[.bool t193, .bool t194, .bool t195, .int .i64 t196, .int .i64 t197] 25 (0, 0)) (by (with_reducible repeat (first | refine blk_drewN ?_ _ | refine blk_drew ?_ | refine blk_alloc ?_ _)); exact BK199.out) hb); have n4_ := Aside0.mk (below_step (by repeat (first | (with_reducible first | exact HB.out | apply below_alloc | apply pw_below_drewN | apply below_drew1 | refine below_set ?_ GE159.out | refine below_set ?_ GE172.out | refine below_set ?_ GE180.out | refine below_set ?_ GE199.out) | exact HB.out)) hb); have n5_ := Aside0.mk (hbox); have n6_ := Aside0.mk ((by rw [hg]; exact (below_size (by repeat (first | (with_reducible first | exact HB.out | apply below_alloc | apply pw_below_drewN | apply below_drew1 | refine below_set ?_ GE159.out | refine below_set ?_ GE172.out | refine below_set ?_ GE180.out | refine below_set ?_ GE199.out) | exact HB.out))) : w.heap.size ≤ gb207)); have n7_ := Aside0.mk ((by rw [hg]; exact (below_size (by repeat (first | (with_reducible first | exact HB.out | apply below_alloc | apply pw_below_drewN | apply below_drew1 | refine below_set ?_ GE159.out | refine below_set ?_ GE172.out | refine below_set ?_ GE180.out | refine below_set ?_ GE199.out) | exact HB.out))) : w.heap.size ≤ gb207)); have n8_ := Aside0.mk ((by rw [hg]; exact Nat.ne_of_lt (blk_lt (g := gb159) (o := .cells #[.bool a0_0, .bool a0_1, .bool a0_2, .int .i64 a0_3, .int .i64 a0_4] 23 (0, 0)) (by (with_reducible repeat (first | refine blk_drewN ?_ _ | refine blk_drew ?_ | refine blk_alloc ?_ _)); exact BK159.out)) : gb159 ≠ gb207)); have n9_ := Aside0.mk ((by rw [hg]; exact Nat.ne_of_gt (blk_lt (g := gb159) (o := .cells #[.bool a0_0, .bool a0_1, .bool a0_2, .int .i64 a0_3, .int .i64 a0_4] 23 (0, 0)) (by (with_reducible repeat (first | refine blk_drewN ?_ _ | refine blk_drew ?_ | refine blk_alloc ?_ _)); exact BK159.out)) : gb207 ≠ gb159)); have n10_ := Aside0.mk ((by rw [hg]; exact Nat.ne_of_lt (blk_lt (g := gb172) (o := .cells #[.bool t165, .bool t166, .bool t167, .int .i64 t168, .int .i64 t169] 25 (0, 0)) (by (with_reducible repeat (first | refine blk_drewN ?_ _ | refine blk_drew ?_ | refine blk_alloc ?_ _)); exact BK172.out)) : gb172 ≠ gb207)); have n11_ := Aside0.mk ((by rw [hg]; exact Nat.ne_of_gt (blk_lt (g := gb172) (o := .cells #[.bool t165, .bool t166, .bool t167, .int .i64 t168, .int .i64 t169] 25 (0, 0)) (by (with_reducible repeat (first | refine blk_drewN ?_ _ | refine blk_drew ?_ | refine blk_alloc ?_ _)); exact BK172.out)) : gb207 ≠ gb172)); have n12_ := Aside0.mk ((by rw [hg]; exact Nat.ne_of_lt (blk_lt (g := gb180) (o := .cells #[.bool t173, .bool t174, .bool t175, .int .i64 t176, .int .i64 t177] 23 (0, 0)) (by (with_reducible repeat (first | refine blk_drewN ?_ _ | refine blk_drew ?_ | refine blk_alloc ?_ _)); exact BK180.out)) : gb180 ≠ gb207)); have n13_ := Aside0.mk ((by rw [hg]; exact Nat.ne_of_gt (blk_lt (g := gb180) (o := .cells #[.bool t173, .bool t174, .bool t175, .int .i64 t176, .int .i64 t177] 23 (0, 0)) (by (with_reducible repeat (first | refine blk_drewN ?_ _ | refine blk_drew ?_ | refine blk_alloc ?_ _)); exact BK180.out)) : gb207 ≠ gb180)); have n14_ := Aside0.mk ((by rw [hg]; exact Nat.ne_of_lt (blk_lt (g := gb199) (o := .cells #[.bool t193, .bool t194, .bool t195, .int .i64 t196, .int .i64 t197] 25 (0, 0)) (by (with_reducible repeat (first | refine blk_drewN ?_ _ | refine blk_drew ?_ | refine blk_alloc ?_ _)); exact BK199.out)) : gb199 ≠ gb207)); have n15_ := Aside0.mk ((by rw [hg]; exact Nat.ne_of_gt (blk_lt (g := gb199) (o := .cells #[.bool t193, .bool t194, .bool t195, .int .i64 t196, .int .i64 t197] 25 (0, 0)) (by (with_reducible repeat (first | refine blk_drewN ?_ _ | refine blk_drew ?_ | refine blk_alloc ?_ _)); exact BK199.out)) : gb207 ≠ gb199)); clear BK159; clear BK172; clear BK180; clear BK199; clear HB; have BK159 := n0_; have BK172 := n1_; have BK180 := n2_; have BK199 := n3_; have HB := n4_; have BK207 := n5_; have GW207 := n6_; have GE207 := n7_; have NB159_207 := n8_; have NB207_159 := n9_; have NB172_207 := n10_; have NB207_172 := n11_; have NB180_207 := n12_; have NB207_180 := n13_; have NB199_207 := n14_; have NB207_199 := n15_; clear n0_ n1_ n2_ n3_ n4_ n5_ n6_ n7_ n8_ n9_ n10_ n11_ n12_ n13_ n14_ n15_; clear hb hbox hg; have hnb82 := NB207_159.out; have hnc82 := NB159_207.out; have hnb83 := NB207_172.out; have hnc83 := NB172_207.out; have hnb84 := NB207_180.out; have hnc84 := NB180_207.out; have hnb85 := NB207_199.out; have hnc85 := NB199_207.out; have hcz86_0 : w81.cell? ⟨gb207, 0, none⟩ = some (.bool false) := (blk_cell BK207.out 0).trans rfl; have hcz86_1 : w81.cell? ⟨gb207, 1, none⟩ = some (.bool false) := (blk_cell BK207.out 1).trans rfl; have hcz86_2 : w81.cell? ⟨gb207, 2, none⟩ = some (.bool false) := (blk_cell BK207.out 2).trans rfl; have hcz86_3 : w81.cell? ⟨gb207, 3, none⟩ = some (.int .i64 0) := (blk_cell BK207.out 3).trans rfl; have hcz86_4 : w81.cell? ⟨gb207, 4, none⟩ = some (.int .i64 0) := (blk_cell BK207.out 4).trans rfl; have hfz86_0 := blk_frozen BK207.out 0; have hfz86_1 := blk_frozen BK207.out 1; have hfz86_2 := blk_frozen BK207.out 2; have hfz86_3 := blk_frozen BK207.out 3; have hfz86_4 := blk_frozen BK207.out 4))
              (try simp only [Act.put, List.setIfInBounds_toArray, List.set_cons_zero, List.set_cons_succ])
              go_cut [103] (fun v103 wc => ∃ (kq : Nat) (x103_75 : Bool), v103 = .bool x103_75 ∧ Aside0 (rivuletlaw06_HopoptHops.j2 kq a1 a2 t186 t187 x103_75 a0_0 a0_1 a0_2 a0_3 a0_4 = some r) ∧ Aside0 (kq ≤ kj47) ∧ Aside0 (wc.heap[gb159]? = some (.cells #[.bool a0_0, .bool a0_1, .bool a0_2, .int .i64 a0_3, .int .i64 a0_4] 23 (0, 0))) ∧ Aside0 (wc.heap[gb172]? = some (.cells #[.bool t165, .bool t166, .bool t167, .int .i64 t168, .int .i64 t169] 25 (0, 0))) ∧ Aside0 (wc.heap[gb180]? = some (.cells #[.bool t173, .bool t174, .bool t175, .int .i64 t176, .int .i64 t177] 23 (0, 0))) ∧ Aside0 (wc.heap[gb199]? = some (.cells #[.bool t193, .bool t194, .bool t195, .int .i64 t196, .int .i64 t197] 25 (0, 0))) ∧ Aside0 (wc.heap[gb207]? = some (.cells #[.bool a3, .bool a0_1, .bool a0_2, .int .i64 a0_3, .int .i64 a1] 23 (0, 0))) ∧ Aside0 (Below w.heap.size w wc))
              case first =>
                have H := HC76.out
                clear HC76
                by_cases c87 : t198 = 0
                · rw [if_pos c87] at H
                  have c87b0 : (t198 == 0) = true := beq_iff_eq.mpr c87
                  have c87b1 : (t198 != 0) = false := bne_eq_false_iff_eq.mpr c87
                  clear c87
                  (first | rw [c87b0] | (simp only [i64_w, i32_w]; rw [c87b0]) | skip)
                  replace H := Option.bind_eq_some_iff.mp H
                  obtain ⟨⟨t208, t209, t210, t211, t212⟩, A880, H⟩ := H
                  replace H : (rivuletlaw06_HopoptHops.j2 kj47 a1 a2 t186 t187 (!(t208 == a3) || (!(t209 == a0_1) || (!(t210 == a0_2) || (!(t211 == a0_3) || (!(t212 == a1)))))) a0_0 a0_1 a0_2 a0_3 a0_4) = some r := H
                  have A88 := Aside0.mk A880
                  clear A880
                  have H' := Aside0.mk H
                  clear H
                  try go_wp2
                  have n0_ : Aside0 ((((((((w81.setCell ⟨gb207, 0, none⟩ (.bool a0_0)).setCell ⟨gb207, 1, none⟩ (.bool a0_1)).setCell ⟨gb207, 2, none⟩ (.bool a0_2)).setCell ⟨gb207, 3, none⟩ (.int .i64 a0_3)).setCell ⟨gb207, 4, none⟩ (.int .i64 a0_4)).setCell ⟨gb207, 4, none⟩ (.int .i64 a1)).setCell ⟨gb207, 0, none⟩ (.bool a3)).heap[gb159]? = some (.cells #[.bool a0_0, .bool a0_1, .bool a0_2, .int .i64 a0_3, .int .i64 a0_4] 23 (0, 0))) := ⟨by (with_reducible repeat (first | refine blk_drewN ?_ _ | refine blk_drew ?_ | refine blk_alloc ?_ _)); refine blk_far ?_ NB159_207.out _; (with_reducible repeat (first | refine blk_drewN ?_ _ | refine blk_drew ?_ | refine blk_alloc ?_ _)); refine blk_far ?_ NB159_207.out _; (with_reducible repeat (first | refine blk_drewN ?_ _ | refine blk_drew ?_ | refine blk_alloc ?_ _)); refine blk_far ?_ NB159_207.out _; (with_reducible repeat (first | refine blk_drewN ?_ _ | refine blk_drew ?_ | refine blk_alloc ?_ _)); refine blk_far ?_ NB159_207.out _; (with_reducible repeat (first | refine blk_drewN ?_ _ | refine blk_drew ?_ | refine blk_alloc ?_ _)); refine blk_far ?_ NB159_207.out _; (with_reducible repeat (first | refine blk_drewN ?_ _ | refine blk_drew ?_ | refine blk_alloc ?_ _)); refine blk_far ?_ NB159_207.out _; (with_reducible repeat (first | refine blk_drewN ?_ _ | refine blk_drew ?_ | refine blk_alloc ?_ _)); refine blk_far ?_ NB159_207.out _; (with_reducible repeat (first | refine blk_drewN ?_ _ | refine blk_drew ?_ | refine blk_alloc ?_ _)); exact BK159.out⟩
                  have n1_ : Aside0 ((((((((w81.setCell ⟨gb207, 0, none⟩ (.bool a0_0)).setCell ⟨gb207, 1, none⟩ (.bool a0_1)).setCell ⟨gb207, 2, none⟩ (.bool a0_2)).setCell ⟨gb207, 3, none⟩ (.int .i64 a0_3)).setCell ⟨gb207, 4, none⟩ (.int .i64 a0_4)).setCell ⟨gb207, 4, none⟩ (.int .i64 a1)).setCell ⟨gb207, 0, none⟩ (.bool a3)).heap[gb172]? = some (.cells #[.bool t165, .bool t166, .bool t167, .int .i64 t168, .int .i64 t169] 25 (0, 0))) := ⟨by (with_reducible repeat (first | refine blk_drewN ?_ _ | refine blk_drew ?_ | refine blk_alloc ?_ _)); refine blk_far ?_ NB172_207.out _; (with_reducible repeat (first | refine blk_drewN ?_ _ | refine blk_drew ?_ | refine blk_alloc ?_ _)); refine blk_far ?_ NB172_207.out _; (with_reducible repeat (first | refine blk_drewN ?_ _ | refine blk_drew ?_ | refine blk_alloc ?_ _)); refine blk_far ?_ NB172_207.out _; (with_reducible repeat (first | refine blk_drewN ?_ _ | refine blk_drew ?_ | refine blk_alloc ?_ _)); refine blk_far ?_ NB172_207.out _; (with_reducible repeat (first | refine blk_drewN ?_ _ | refine blk_drew ?_ | refine blk_alloc ?_ _)); refine blk_far ?_ NB172_207.out _; (with_reducible repeat (first | refine blk_drewN ?_ _ | refine blk_drew ?_ | refine blk_alloc ?_ _)); refine blk_far ?_ NB172_207.out _; (with_reducible repeat (first | refine blk_drewN ?_ _ | refine blk_drew ?_ | refine blk_alloc ?_ _)); refine blk_far ?_ NB172_207.out _; (with_reducible repeat (first | refine blk_drewN ?_ _ | refine blk_drew ?_ | refine blk_alloc ?_ _)); exact BK172.out⟩
                  have n2_ : Aside0 ((((((((w81.setCell ⟨gb207, 0, none⟩ (.bool a0_0)).setCell ⟨gb207, 1, none⟩ (.bool a0_1)).setCell ⟨gb207, 2, none⟩ (.bool a0_2)).setCell ⟨gb207, 3, none⟩ (.int .i64 a0_3)).setCell ⟨gb207, 4, none⟩ (.int .i64 a0_4)).setCell ⟨gb207, 4, none⟩ (.int .i64 a1)).setCell ⟨gb207, 0, none⟩ (.bool a3)).heap[gb180]? = some (.cells #[.bool t173, .bool t174, .bool t175, .int .i64 t176, .int .i64 t177] 23 (0, 0))) := ⟨by (with_reducible repeat (first | refine blk_drewN ?_ _ | refine blk_drew ?_ | refine blk_alloc ?_ _)); refine blk_far ?_ NB180_207.out _; (with_reducible repeat (first | refine blk_drewN ?_ _ | refine blk_drew ?_ | refine blk_alloc ?_ _)); refine blk_far ?_ NB180_207.out _; (with_reducible repeat (first | refine blk_drewN ?_ _ | refine blk_drew ?_ | refine blk_alloc ?_ _)); refine blk_far ?_ NB180_207.out _; (with_reducible repeat (first | refine blk_drewN ?_ _ | refine blk_drew ?_ | refine blk_alloc ?_ _)); refine blk_far ?_ NB180_207.out _; (with_reducible repeat (first | refine blk_drewN ?_ _ | refine blk_drew ?_ | refine blk_alloc ?_ _)); refine blk_far ?_ NB180_207.out _; (with_reducible repeat (first | refine blk_drewN ?_ _ | refine blk_drew ?_ | refine blk_alloc ?_ _)); refine blk_far ?_ NB180_207.out _; (with_reducible repeat (first | refine blk_drewN ?_ _ | refine blk_drew ?_ | refine blk_alloc ?_ _)); refine blk_far ?_ NB180_207.out _; (with_reducible repeat (first | refine blk_drewN ?_ _ | refine blk_drew ?_ | refine blk_alloc ?_ _)); exact BK180.out⟩
                  have n3_ : Aside0 ((((((((w81.setCell ⟨gb207, 0, none⟩ (.bool a0_0)).setCell ⟨gb207, 1, none⟩ (.bool a0_1)).setCell ⟨gb207, 2, none⟩ (.bool a0_2)).setCell ⟨gb207, 3, none⟩ (.int .i64 a0_3)).setCell ⟨gb207, 4, none⟩ (.int .i64 a0_4)).setCell ⟨gb207, 4, none⟩ (.int .i64 a1)).setCell ⟨gb207, 0, none⟩ (.bool a3)).heap[gb199]? = some (.cells #[.bool t193, .bool t194, .bool t195, .int .i64 t196, .int .i64 t197] 25 (0, 0))) := ⟨by (with_reducible repeat (first | refine blk_drewN ?_ _ | refine blk_drew ?_ | refine blk_alloc ?_ _)); refine blk_far ?_ NB199_207.out _; (with_reducible repeat (first | refine blk_drewN ?_ _ | refine blk_drew ?_ | refine blk_alloc ?_ _)); refine blk_far ?_ NB199_207.out _; (with_reducible repeat (first | refine blk_drewN ?_ _ | refine blk_drew ?_ | refine blk_alloc ?_ _)); refine blk_far ?_ NB199_207.out _; (with_reducible repeat (first | refine blk_drewN ?_ _ | refine blk_drew ?_ | refine blk_alloc ?_ _)); refine blk_far ?_ NB199_207.out _; (with_reducible repeat (first | refine blk_drewN ?_ _ | refine blk_drew ?_ | refine blk_alloc ?_ _)); refine blk_far ?_ NB199_207.out _; (with_reducible repeat (first | refine blk_drewN ?_ _ | refine blk_drew ?_ | refine blk_alloc ?_ _)); refine blk_far ?_ NB199_207.out _; (with_reducible repeat (first | refine blk_drewN ?_ _ | refine blk_drew ?_ | refine blk_alloc ?_ _)); refine blk_far ?_ NB199_207.out _; (with_reducible repeat (first | refine blk_drewN ?_ _ | refine blk_drew ?_ | refine blk_alloc ?_ _)); exact BK199.out⟩
                  have n4_ : Aside0 ((((((((w81.setCell ⟨gb207, 0, none⟩ (.bool a0_0)).setCell ⟨gb207, 1, none⟩ (.bool a0_1)).setCell ⟨gb207, 2, none⟩ (.bool a0_2)).setCell ⟨gb207, 3, none⟩ (.int .i64 a0_3)).setCell ⟨gb207, 4, none⟩ (.int .i64 a0_4)).setCell ⟨gb207, 4, none⟩ (.int .i64 a1)).setCell ⟨gb207, 0, none⟩ (.bool a3)).heap[gb207]? = some (.cells #[.bool a3, .bool a0_1, .bool a0_2, .int .i64 a0_3, .int .i64 a1] 23 (0, 0))) := ⟨by (with_reducible repeat (first | refine blk_drewN ?_ _ | refine blk_drew ?_ | refine blk_alloc ?_ _)); refine blk_put (cs := #[.bool a0_0, .bool a0_1, .bool a0_2, .int .i64 a0_3, .int .i64 a1]) ?_ 0 _ rfl; (with_reducible repeat (first | refine blk_drewN ?_ _ | refine blk_drew ?_ | refine blk_alloc ?_ _)); refine blk_put (cs := #[.bool a0_0, .bool a0_1, .bool a0_2, .int .i64 a0_3, .int .i64 a0_4]) ?_ 4 _ rfl; (with_reducible repeat (first | refine blk_drewN ?_ _ | refine blk_drew ?_ | refine blk_alloc ?_ _)); refine blk_put (cs := #[.bool a0_0, .bool a0_1, .bool a0_2, .int .i64 a0_3, .int .i64 0]) ?_ 4 _ rfl; (with_reducible repeat (first | refine blk_drewN ?_ _ | refine blk_drew ?_ | refine blk_alloc ?_ _)); refine blk_put (cs := #[.bool a0_0, .bool a0_1, .bool a0_2, .int .i64 0, .int .i64 0]) ?_ 3 _ rfl; (with_reducible repeat (first | refine blk_drewN ?_ _ | refine blk_drew ?_ | refine blk_alloc ?_ _)); refine blk_put (cs := #[.bool a0_0, .bool a0_1, .bool false, .int .i64 0, .int .i64 0]) ?_ 2 _ rfl; (with_reducible repeat (first | refine blk_drewN ?_ _ | refine blk_drew ?_ | refine blk_alloc ?_ _)); refine blk_put (cs := #[.bool a0_0, .bool false, .bool false, .int .i64 0, .int .i64 0]) ?_ 1 _ rfl; (with_reducible repeat (first | refine blk_drewN ?_ _ | refine blk_drew ?_ | refine blk_alloc ?_ _)); refine blk_put (cs := #[.bool false, .bool false, .bool false, .int .i64 0, .int .i64 0]) ?_ 0 _ rfl; (with_reducible repeat (first | refine blk_drewN ?_ _ | refine blk_drew ?_ | refine blk_alloc ?_ _)); exact BK207.out⟩
                  have n5_ : Aside0 (Below w.heap.size w (((((((w81.setCell ⟨gb207, 0, none⟩ (.bool a0_0)).setCell ⟨gb207, 1, none⟩ (.bool a0_1)).setCell ⟨gb207, 2, none⟩ (.bool a0_2)).setCell ⟨gb207, 3, none⟩ (.int .i64 a0_3)).setCell ⟨gb207, 4, none⟩ (.int .i64 a0_4)).setCell ⟨gb207, 4, none⟩ (.int .i64 a1)).setCell ⟨gb207, 0, none⟩ (.bool a3))) := ⟨by repeat (first | (with_reducible first | exact HB.out | apply below_alloc | apply pw_below_drewN | apply below_drew1 | refine below_set ?_ GE159.out | refine below_set ?_ GE172.out | refine below_set ?_ GE180.out | refine below_set ?_ GE199.out | refine below_set ?_ GE207.out) | exact HB.out)⟩
                  (try clear BK159)
                  (try clear BK172)
                  (try clear BK180)
                  (try clear BK199)
                  (try clear BK207)
                  (try clear HB)
                  generalize (((((((w81.setCell ⟨gb207, 0, none⟩ (.bool a0_0)).setCell ⟨gb207, 1, none⟩ (.bool a0_1)).setCell ⟨gb207, 2, none⟩ (.bool a0_2)).setCell ⟨gb207, 3, none⟩ (.int .i64 a0_3)).setCell ⟨gb207, 4, none⟩ (.int .i64 a0_4)).setCell ⟨gb207, 4, none⟩ (.int .i64 a1)).setCell ⟨gb207, 0, none⟩ (.bool a3)) = w89 at n0_ n1_ n2_ n3_ n4_ n5_ ⊢
                  have BK159 := n0_
                  have BK172 := n1_
                  have BK180 := n2_
                  have BK199 := n3_
                  have BK207 := n4_
                  have HB := n5_
                  clear n0_ n1_ n2_ n3_ n4_ n5_
                  have n0_ := Aside0.mk (blk_drew BK159.out)
                  have n1_ := Aside0.mk (blk_drew BK172.out)
                  have n2_ := Aside0.mk (blk_drew BK180.out)
                  have n3_ := Aside0.mk (blk_drew BK199.out)
                  have n4_ := Aside0.mk (blk_drew BK207.out)
                  have n5_ := Aside0.mk (below_drew1 HB.out)
                  clear BK159
                  clear BK172
                  clear BK180
                  clear BK199
                  clear BK207
                  clear HB
                  have BK159 := n0_
                  have BK172 := n1_
                  have BK180 := n2_
                  have BK199 := n3_
                  have BK207 := n4_
                  have HB := n5_
                  clear n0_ n1_ n2_ n3_ n4_ n5_
                  refine start_ (n := 8) (S := fun w' => w'.cell? ⟨gb199, 0, none⟩ = some (.bool t193) ∧ w'.cell? ⟨gb199, 1, none⟩ = some (.bool t194) ∧ w'.cell? ⟨gb199, 2, none⟩ = some (.bool t195) ∧ w'.cell? ⟨gb199, 3, none⟩ = some (.int .i64 t196) ∧ w'.cell? ⟨gb199, 4, none⟩ = some (.int .i64 t197) ∧ w'.cell? ⟨gb207, 0, none⟩ = some (.bool a3) ∧ w'.cell? ⟨gb207, 1, none⟩ = some (.bool a0_1) ∧ w'.cell? ⟨gb207, 2, none⟩ = some (.bool a0_2) ∧ w'.cell? ⟨gb207, 3, none⟩ = some (.int .i64 a0_3) ∧ w'.cell? ⟨gb207, 4, none⟩ = some (.int .i64 a1)) (ds := []) #[false, false, false, false, false, false, false, false] (by kernel_rfl) rfl rfl ⟨(blk_cell BK199.out 0).trans rfl, (blk_cell BK199.out 1).trans rfl, (blk_cell BK199.out 2).trans rfl, (blk_cell BK199.out 3).trans rfl, (blk_cell BK199.out 4).trans rfl, (blk_cell BK207.out 0).trans rfl, (blk_cell BK207.out 1).trans rfl, (blk_cell BK207.out 2).trans rfl, (blk_cell BK207.out 3).trans rfl, (blk_cell BK207.out 4).trans rfl⟩ (fun hHeld => ?_); refine with_tabW rivuletlaw06_HopoptHops.tab11 rivuletlaw06_HopoptHops.bits11 (fun HT_ HW_ => ?_)
                  generalize w89.drew = w90 at BK159 BK172 BK180 BK199 BK207 HB hHeld ⊢
                  refine pure_ (i := 0) (N := some 96) (v := ?_) (a' := ?_) #[true, false, false, false, false, false, false, false] rfl rfl (any_of HT_.out (by kernel_rfl)) (fun _ _ _ h => h) (Or.inl ⟨by rfl, ?_⟩) ?_ ?_
                  rotate_left
                  · intro w'
                    go_simp
                    with_reducible rfl
                  rotate_left
                  · simp only [Act.put, List.setIfInBounds_toArray, List.set_cons_zero, List.set_cons_succ, i64_w, i32_w]
                    rfl
                  refine pure_ (i := 1) (N := some 97) (v := ?_) (a' := ?_) #[true, true, false, false, false, false, false, false] rfl rfl (any_of HT_.out (by kernel_rfl)) (fun _ _ _ h => h) (Or.inl ⟨by rfl, ?_⟩) ?_ ?_
                  rotate_left
                  · intro w'
                    go_simp
                    with_reducible rfl
                  rotate_left
                  · simp only [Act.put, List.setIfInBounds_toArray, List.set_cons_zero, List.set_cons_succ, i64_w, i32_w]
                    rfl
                  refine pure_ (i := 2) (N := some 98) (v := ?_) (a' := ?_) #[true, true, true, false, false, false, false, false] rfl rfl (any_of HT_.out (by kernel_rfl)) (fun _ _ _ h => h) (Or.inl ⟨by rfl, ?_⟩) ?_ ?_
                  rotate_left
                  · intro w'
                    go_simp
                    with_reducible rfl
                  rotate_left
                  · simp only [Act.put, List.setIfInBounds_toArray, List.set_cons_zero, List.set_cons_succ, i64_w, i32_w]
                    rfl
                  refine take_ (i := 3) (N := some 99) (v := ?_) (a' := ?_) #[true, true, true, true, false, false, false, false] rfl rfl (take_ofW HT_.out HW_.out (by kernel_rfl)) (fun _ _ _ h => h) (Or.inl ⟨by rfl, ?_⟩) hHeld ?_ ?_
                  rotate_left
                  · rintro w' ⟨s0, s1, s2, s3, s4, s5, s6, s7, s8, s9⟩
                    go_simp
                    with_reducible rfl
                  rotate_left
                  · simp only [Act.put, List.setIfInBounds_toArray, List.set_cons_zero, List.set_cons_succ, i64_w, i32_w]
                    rfl
                  refine take_ (i := 5) (N := some 101) (v := ?_) (a' := ?_) #[true, true, true, true, false, true, false, false] rfl rfl (take_ofW HT_.out HW_.out (by kernel_rfl)) (fun _ _ _ h => h) (Or.inl ⟨by rfl, ?_⟩) hHeld ?_ ?_
                  rotate_left
                  · rintro w' ⟨s0, s1, s2, s3, s4, s5, s6, s7, s8, s9⟩
                    go_simp
                    with_reducible rfl
                  rotate_left
                  · simp only [Act.put, List.setIfInBounds_toArray, List.set_cons_zero, List.set_cons_succ, i64_w, i32_w]
                    rfl
                  refine one_ (i := 4) (N := some 100) #[true, true, true, true, true, true, false, false] rfl rfl (one_of HT_.out (by kernel_rfl)) (by decide) (fun K hK => ?_)
                  refine goes_ Try.func22 (by kernel_rfl) rfl #[.agg #[.bool t193, .bool t194, .bool t195, .int .i64 t196, .int .i64 t197]] (by rfl) rfl rfl (by (try simp only [List.map_toArray, List.map_cons, List.map_nil]); first | done | rfl | (simp only [List.length_drop, List.length_take]; rfl)) ?_
                  with_reducible refine (rivuletlaw06_Of.calls t193 t194 t195 t196 t197 t208 t209 t210 t211 t212 _ A88.out).mono ?_
                  rintro e w91 ⟨rfl, hb⟩
                  refine ⟨_, rfl, ?_⟩
                  have n0_ := Aside0.mk (blk_below (g := gb159) (o := .cells #[.bool a0_0, .bool a0_1, .bool a0_2, .int .i64 a0_3, .int .i64 a0_4] 23 (0, 0)) (by (with_reducible repeat (first | refine blk_drewN ?_ _ | refine blk_drew ?_ | refine blk_alloc ?_ _)); exact BK159.out) hb)
                  have n1_ := Aside0.mk (blk_below (g := gb172) (o := .cells #[.bool t165, .bool t166, .bool t167, .int .i64 t168, .int .i64 t169] 25 (0, 0)) (by (with_reducible repeat (first | refine blk_drewN ?_ _ | refine blk_drew ?_ | refine blk_alloc ?_ _)); exact BK172.out) hb)
                  have n2_ := Aside0.mk (blk_below (g := gb180) (o := .cells #[.bool t173, .bool t174, .bool t175, .int .i64 t176, .int .i64 t177] 23 (0, 0)) (by (with_reducible repeat (first | refine blk_drewN ?_ _ | refine blk_drew ?_ | refine blk_alloc ?_ _)); exact BK180.out) hb)
                  have n3_ := Aside0.mk (blk_below (g := gb199) (o := .cells #[.bool t193, .bool t194, .bool t195, .int .i64 t196, .int .i64 t197] 25 (0, 0)) (by (with_reducible repeat (first | refine blk_drewN ?_ _ | refine blk_drew ?_ | refine blk_alloc ?_ _)); exact BK199.out) hb)
                  have n4_ := Aside0.mk (blk_below (g := gb207) (o := .cells #[.bool a3, .bool a0_1, .bool a0_2, .int .i64 a0_3, .int .i64 a1] 23 (0, 0)) (by (with_reducible repeat (first | refine blk_drewN ?_ _ | refine blk_drew ?_ | refine blk_alloc ?_ _)); exact BK207.out) hb)
                  have n5_ := Aside0.mk (below_step (by repeat (first | (with_reducible first | exact HB.out | apply below_alloc | apply pw_below_drewN | apply below_drew1 | refine below_set ?_ GE159.out | refine below_set ?_ GE172.out | refine below_set ?_ GE180.out | refine below_set ?_ GE199.out | refine below_set ?_ GE207.out) | exact HB.out)) hb)
                  clear BK159
                  clear BK172
                  clear BK180
                  clear BK199
                  clear BK207
                  clear HB
                  have BK159 := n0_
                  have BK172 := n1_
                  have BK180 := n2_
                  have BK199 := n3_
                  have BK207 := n4_
                  have HB := n5_
                  clear n0_ n1_ n2_ n3_ n4_ n5_
                  (try clear hb)
                  (try clear hb2)
                  (try clear hk)
                  (try clear hi)
                  refine hK.out _ _ ⟨(blk_cell BK199.out 0).trans rfl, (blk_cell BK199.out 1).trans rfl, (blk_cell BK199.out 2).trans rfl, (blk_cell BK199.out 3).trans rfl, (blk_cell BK199.out 4).trans rfl, (blk_cell BK207.out 0).trans rfl, (blk_cell BK207.out 1).trans rfl, (blk_cell BK207.out 2).trans rfl, (blk_cell BK207.out 3).trans rfl, (blk_cell BK207.out 4).trans rfl⟩ (fun hHeld => ?_)
                  clear hK K
                  refine norm_ (a' := ?_) ?_ ?_
                  rotate_left
                  · show Act.put _ (some 100) _ = _
                    simp only [Act.put, List.setIfInBounds_toArray, List.set_cons_zero, List.set_cons_succ, i64_w, i32_w]
                    rfl
                  refine pure_ (i := 6) (N := some 102) (v := ?_) (a' := ?_) #[true, true, true, true, true, true, true, false] rfl rfl (any_of HT_.out (by kernel_rfl)) (fun _ _ _ h => h) (Or.inl ⟨by rfl, ?_⟩) ?_ ?_
                  rotate_left
                  · intro w'
                    go_simp
                    with_reducible rfl
                  rotate_left
                  · simp only [Act.put, List.setIfInBounds_toArray, List.set_cons_zero, List.set_cons_succ, i64_w, i32_w]
                    rfl
                  refine pure_ (i := 7) (N := some 103) (v := ?_) (a' := ?_) #[true, true, true, true, true, true, true, true] rfl rfl (any_of HT_.out (by kernel_rfl)) (fun _ _ _ h => h) (Or.inl ⟨by rfl, ?_⟩) ?_ ?_
                  rotate_left
                  · intro w'
                    go_simp
                    with_reducible rfl
                  rotate_left
                  · simp only [Act.put, List.setIfInBounds_toArray, List.set_cons_zero, List.set_cons_succ, i64_w, i32_w]
                    rfl
                  refine done_ (done_of HT_.out (by kernel_rfl)) ?_
                  try go_wp2
                  go_meet
                  case rel => exact ⟨_, ((!(t208 == a3) || (!(t209 == a0_1) || (!(t210 == a0_2) || (!(t211 == a0_3) || (!(t212 == a1))))))), (by first | rfl | (simp; done) | (simp [*]; done)), H', ⟨by have := HJ11.out; have := HJ47.out; first | omega | exact Nat.le_refl _⟩, ⟨by (with_reducible repeat (first | refine blk_drewN ?_ _ | refine blk_drew ?_ | refine blk_alloc ?_ _)); exact BK159.out⟩, ⟨by (with_reducible repeat (first | refine blk_drewN ?_ _ | refine blk_drew ?_ | refine blk_alloc ?_ _)); exact BK172.out⟩, ⟨by (with_reducible repeat (first | refine blk_drewN ?_ _ | refine blk_drew ?_ | refine blk_alloc ?_ _)); exact BK180.out⟩, ⟨by (with_reducible repeat (first | refine blk_drewN ?_ _ | refine blk_drew ?_ | refine blk_alloc ?_ _)); exact BK199.out⟩, ⟨by (with_reducible repeat (first | refine blk_drewN ?_ _ | refine blk_drew ?_ | refine blk_alloc ?_ _)); exact BK207.out⟩, ⟨by repeat (first | (with_reducible first | exact HB.out | apply below_alloc | apply pw_below_drewN | apply below_drew1 | refine below_set ?_ GE159.out | refine below_set ?_ GE172.out | refine below_set ?_ GE180.out | refine below_set ?_ GE199.out | refine below_set ?_ GE207.out) | exact HB.out)⟩⟩
                · rw [if_neg c87] at H
                  have c87b0 : (t198 == 0) = false := beq_eq_false_iff_ne.mpr c87
                  have c87b1 : (t198 != 0) = true := bne_iff_ne.mpr c87
                  (first | rw [c87b0] | (simp only [i64_w, i32_w]; rw [c87b0]) | skip)
                  have H' := Aside0.mk H
                  clear H
                  try go_wp2
                  have n0_ : Aside0 ((((((((w81.setCell ⟨gb207, 0, none⟩ (.bool a0_0)).setCell ⟨gb207, 1, none⟩ (.bool a0_1)).setCell ⟨gb207, 2, none⟩ (.bool a0_2)).setCell ⟨gb207, 3, none⟩ (.int .i64 a0_3)).setCell ⟨gb207, 4, none⟩ (.int .i64 a0_4)).setCell ⟨gb207, 4, none⟩ (.int .i64 a1)).setCell ⟨gb207, 0, none⟩ (.bool a3)).heap[gb159]? = some (.cells #[.bool a0_0, .bool a0_1, .bool a0_2, .int .i64 a0_3, .int .i64 a0_4] 23 (0, 0))) := ⟨by (with_reducible repeat (first | refine blk_drewN ?_ _ | refine blk_drew ?_ | refine blk_alloc ?_ _)); refine blk_far ?_ NB159_207.out _; (with_reducible repeat (first | refine blk_drewN ?_ _ | refine blk_drew ?_ | refine blk_alloc ?_ _)); refine blk_far ?_ NB159_207.out _; (with_reducible repeat (first | refine blk_drewN ?_ _ | refine blk_drew ?_ | refine blk_alloc ?_ _)); refine blk_far ?_ NB159_207.out _; (with_reducible repeat (first | refine blk_drewN ?_ _ | refine blk_drew ?_ | refine blk_alloc ?_ _)); refine blk_far ?_ NB159_207.out _; (with_reducible repeat (first | refine blk_drewN ?_ _ | refine blk_drew ?_ | refine blk_alloc ?_ _)); refine blk_far ?_ NB159_207.out _; (with_reducible repeat (first | refine blk_drewN ?_ _ | refine blk_drew ?_ | refine blk_alloc ?_ _)); refine blk_far ?_ NB159_207.out _; (with_reducible repeat (first | refine blk_drewN ?_ _ | refine blk_drew ?_ | refine blk_alloc ?_ _)); refine blk_far ?_ NB159_207.out _; (with_reducible repeat (first | refine blk_drewN ?_ _ | refine blk_drew ?_ | refine blk_alloc ?_ _)); exact BK159.out⟩
                  have n1_ : Aside0 ((((((((w81.setCell ⟨gb207, 0, none⟩ (.bool a0_0)).setCell ⟨gb207, 1, none⟩ (.bool a0_1)).setCell ⟨gb207, 2, none⟩ (.bool a0_2)).setCell ⟨gb207, 3, none⟩ (.int .i64 a0_3)).setCell ⟨gb207, 4, none⟩ (.int .i64 a0_4)).setCell ⟨gb207, 4, none⟩ (.int .i64 a1)).setCell ⟨gb207, 0, none⟩ (.bool a3)).heap[gb172]? = some (.cells #[.bool t165, .bool t166, .bool t167, .int .i64 t168, .int .i64 t169] 25 (0, 0))) := ⟨by (with_reducible repeat (first | refine blk_drewN ?_ _ | refine blk_drew ?_ | refine blk_alloc ?_ _)); refine blk_far ?_ NB172_207.out _; (with_reducible repeat (first | refine blk_drewN ?_ _ | refine blk_drew ?_ | refine blk_alloc ?_ _)); refine blk_far ?_ NB172_207.out _; (with_reducible repeat (first | refine blk_drewN ?_ _ | refine blk_drew ?_ | refine blk_alloc ?_ _)); refine blk_far ?_ NB172_207.out _; (with_reducible repeat (first | refine blk_drewN ?_ _ | refine blk_drew ?_ | refine blk_alloc ?_ _)); refine blk_far ?_ NB172_207.out _; (with_reducible repeat (first | refine blk_drewN ?_ _ | refine blk_drew ?_ | refine blk_alloc ?_ _)); refine blk_far ?_ NB172_207.out _; (with_reducible repeat (first | refine blk_drewN ?_ _ | refine blk_drew ?_ | refine blk_alloc ?_ _)); refine blk_far ?_ NB172_207.out _; (with_reducible repeat (first | refine blk_drewN ?_ _ | refine blk_drew ?_ | refine blk_alloc ?_ _)); refine blk_far ?_ NB172_207.out _; (with_reducible repeat (first | refine blk_drewN ?_ _ | refine blk_drew ?_ | refine blk_alloc ?_ _)); exact BK172.out⟩
                  have n2_ : Aside0 ((((((((w81.setCell ⟨gb207, 0, none⟩ (.bool a0_0)).setCell ⟨gb207, 1, none⟩ (.bool a0_1)).setCell ⟨gb207, 2, none⟩ (.bool a0_2)).setCell ⟨gb207, 3, none⟩ (.int .i64 a0_3)).setCell ⟨gb207, 4, none⟩ (.int .i64 a0_4)).setCell ⟨gb207, 4, none⟩ (.int .i64 a1)).setCell ⟨gb207, 0, none⟩ (.bool a3)).heap[gb180]? = some (.cells #[.bool t173, .bool t174, .bool t175, .int .i64 t176, .int .i64 t177] 23 (0, 0))) := ⟨by (with_reducible repeat (first | refine blk_drewN ?_ _ | refine blk_drew ?_ | refine blk_alloc ?_ _)); refine blk_far ?_ NB180_207.out _; (with_reducible repeat (first | refine blk_drewN ?_ _ | refine blk_drew ?_ | refine blk_alloc ?_ _)); refine blk_far ?_ NB180_207.out _; (with_reducible repeat (first | refine blk_drewN ?_ _ | refine blk_drew ?_ | refine blk_alloc ?_ _)); refine blk_far ?_ NB180_207.out _; (with_reducible repeat (first | refine blk_drewN ?_ _ | refine blk_drew ?_ | refine blk_alloc ?_ _)); refine blk_far ?_ NB180_207.out _; (with_reducible repeat (first | refine blk_drewN ?_ _ | refine blk_drew ?_ | refine blk_alloc ?_ _)); refine blk_far ?_ NB180_207.out _; (with_reducible repeat (first | refine blk_drewN ?_ _ | refine blk_drew ?_ | refine blk_alloc ?_ _)); refine blk_far ?_ NB180_207.out _; (with_reducible repeat (first | refine blk_drewN ?_ _ | refine blk_drew ?_ | refine blk_alloc ?_ _)); refine blk_far ?_ NB180_207.out _; (with_reducible repeat (first | refine blk_drewN ?_ _ | refine blk_drew ?_ | refine blk_alloc ?_ _)); exact BK180.out⟩
                  have n3_ : Aside0 ((((((((w81.setCell ⟨gb207, 0, none⟩ (.bool a0_0)).setCell ⟨gb207, 1, none⟩ (.bool a0_1)).setCell ⟨gb207, 2, none⟩ (.bool a0_2)).setCell ⟨gb207, 3, none⟩ (.int .i64 a0_3)).setCell ⟨gb207, 4, none⟩ (.int .i64 a0_4)).setCell ⟨gb207, 4, none⟩ (.int .i64 a1)).setCell ⟨gb207, 0, none⟩ (.bool a3)).heap[gb199]? = some (.cells #[.bool t193, .bool t194, .bool t195, .int .i64 t196, .int .i64 t197] 25 (0, 0))) := ⟨by (with_reducible repeat (first | refine blk_drewN ?_ _ | refine blk_drew ?_ | refine blk_alloc ?_ _)); refine blk_far ?_ NB199_207.out _; (with_reducible repeat (first | refine blk_drewN ?_ _ | refine blk_drew ?_ | refine blk_alloc ?_ _)); refine blk_far ?_ NB199_207.out _; (with_reducible repeat (first | refine blk_drewN ?_ _ | refine blk_drew ?_ | refine blk_alloc ?_ _)); refine blk_far ?_ NB199_207.out _; (with_reducible repeat (first | refine blk_drewN ?_ _ | refine blk_drew ?_ | refine blk_alloc ?_ _)); refine blk_far ?_ NB199_207.out _; (with_reducible repeat (first | refine blk_drewN ?_ _ | refine blk_drew ?_ | refine blk_alloc ?_ _)); refine blk_far ?_ NB199_207.out _; (with_reducible repeat (first | refine blk_drewN ?_ _ | refine blk_drew ?_ | refine blk_alloc ?_ _)); refine blk_far ?_ NB199_207.out _; (with_reducible repeat (first | refine blk_drewN ?_ _ | refine blk_drew ?_ | refine blk_alloc ?_ _)); refine blk_far ?_ NB199_207.out _; (with_reducible repeat (first | refine blk_drewN ?_ _ | refine blk_drew ?_ | refine blk_alloc ?_ _)); exact BK199.out⟩
                  have n4_ : Aside0 ((((((((w81.setCell ⟨gb207, 0, none⟩ (.bool a0_0)).setCell ⟨gb207, 1, none⟩ (.bool a0_1)).setCell ⟨gb207, 2, none⟩ (.bool a0_2)).setCell ⟨gb207, 3, none⟩ (.int .i64 a0_3)).setCell ⟨gb207, 4, none⟩ (.int .i64 a0_4)).setCell ⟨gb207, 4, none⟩ (.int .i64 a1)).setCell ⟨gb207, 0, none⟩ (.bool a3)).heap[gb207]? = some (.cells #[.bool a3, .bool a0_1, .bool a0_2, .int .i64 a0_3, .int .i64 a1] 23 (0, 0))) := ⟨by (with_reducible repeat (first | refine blk_drewN ?_ _ | refine blk_drew ?_ | refine blk_alloc ?_ _)); refine blk_put (cs := #[.bool a0_0, .bool a0_1, .bool a0_2, .int .i64 a0_3, .int .i64 a1]) ?_ 0 _ rfl; (with_reducible repeat (first | refine blk_drewN ?_ _ | refine blk_drew ?_ | refine blk_alloc ?_ _)); refine blk_put (cs := #[.bool a0_0, .bool a0_1, .bool a0_2, .int .i64 a0_3, .int .i64 a0_4]) ?_ 4 _ rfl; (with_reducible repeat (first | refine blk_drewN ?_ _ | refine blk_drew ?_ | refine blk_alloc ?_ _)); refine blk_put (cs := #[.bool a0_0, .bool a0_1, .bool a0_2, .int .i64 a0_3, .int .i64 0]) ?_ 4 _ rfl; (with_reducible repeat (first | refine blk_drewN ?_ _ | refine blk_drew ?_ | refine blk_alloc ?_ _)); refine blk_put (cs := #[.bool a0_0, .bool a0_1, .bool a0_2, .int .i64 0, .int .i64 0]) ?_ 3 _ rfl; (with_reducible repeat (first | refine blk_drewN ?_ _ | refine blk_drew ?_ | refine blk_alloc ?_ _)); refine blk_put (cs := #[.bool a0_0, .bool a0_1, .bool false, .int .i64 0, .int .i64 0]) ?_ 2 _ rfl; (with_reducible repeat (first | refine blk_drewN ?_ _ | refine blk_drew ?_ | refine blk_alloc ?_ _)); refine blk_put (cs := #[.bool a0_0, .bool false, .bool false, .int .i64 0, .int .i64 0]) ?_ 1 _ rfl; (with_reducible repeat (first | refine blk_drewN ?_ _ | refine blk_drew ?_ | refine blk_alloc ?_ _)); refine blk_put (cs := #[.bool false, .bool false, .bool false, .int .i64 0, .int .i64 0]) ?_ 0 _ rfl; (with_reducible repeat (first | refine blk_drewN ?_ _ | refine blk_drew ?_ | refine blk_alloc ?_ _)); exact BK207.out⟩
                  have n5_ : Aside0 (Below w.heap.size w (((((((w81.setCell ⟨gb207, 0, none⟩ (.bool a0_0)).setCell ⟨gb207, 1, none⟩ (.bool a0_1)).setCell ⟨gb207, 2, none⟩ (.bool a0_2)).setCell ⟨gb207, 3, none⟩ (.int .i64 a0_3)).setCell ⟨gb207, 4, none⟩ (.int .i64 a0_4)).setCell ⟨gb207, 4, none⟩ (.int .i64 a1)).setCell ⟨gb207, 0, none⟩ (.bool a3))) := ⟨by repeat (first | (with_reducible first | exact HB.out | apply below_alloc | apply pw_below_drewN | apply below_drew1 | refine below_set ?_ GE159.out | refine below_set ?_ GE172.out | refine below_set ?_ GE180.out | refine below_set ?_ GE199.out | refine below_set ?_ GE207.out) | exact HB.out)⟩
                  (try clear BK159)
                  (try clear BK172)
                  (try clear BK180)
                  (try clear BK199)
                  (try clear BK207)
                  (try clear HB)
                  generalize (((((((w81.setCell ⟨gb207, 0, none⟩ (.bool a0_0)).setCell ⟨gb207, 1, none⟩ (.bool a0_1)).setCell ⟨gb207, 2, none⟩ (.bool a0_2)).setCell ⟨gb207, 3, none⟩ (.int .i64 a0_3)).setCell ⟨gb207, 4, none⟩ (.int .i64 a0_4)).setCell ⟨gb207, 4, none⟩ (.int .i64 a1)).setCell ⟨gb207, 0, none⟩ (.bool a3)) = w92 at n0_ n1_ n2_ n3_ n4_ n5_ ⊢
                  have BK159 := n0_
                  have BK172 := n1_
                  have BK180 := n2_
                  have BK199 := n3_
                  have BK207 := n4_
                  have HB := n5_
                  clear n0_ n1_ n2_ n3_ n4_ n5_
                  have n0_ := Aside0.mk (blk_drew BK159.out)
                  have n1_ := Aside0.mk (blk_drew BK172.out)
                  have n2_ := Aside0.mk (blk_drew BK180.out)
                  have n3_ := Aside0.mk (blk_drew BK199.out)
                  have n4_ := Aside0.mk (blk_drew BK207.out)
                  have n5_ := Aside0.mk (below_drew1 HB.out)
                  clear BK159
                  clear BK172
                  clear BK180
                  clear BK199
                  clear BK207
                  clear HB
                  have BK159 := n0_
                  have BK172 := n1_
                  have BK180 := n2_
                  have BK199 := n3_
                  have BK207 := n4_
                  have HB := n5_
                  clear n0_ n1_ n2_ n3_ n4_ n5_
                  refine start_ (n := 8) (S := fun w' => True) (ds := []) #[false, false, false, false, false, false, false, false] (by kernel_rfl) rfl rfl trivial (fun hHeld => ?_); refine with_tabW rivuletlaw06_HopoptHops.tab11 rivuletlaw06_HopoptHops.bits11 (fun HT_ HW_ => ?_)
                  generalize w92.drew = w93 at BK159 BK172 BK180 BK199 BK207 HB hHeld ⊢
                  refine pure_ (i := 0) (N := some 96) (v := ?_) (a' := ?_) #[true, false, false, false, false, false, false, false] rfl rfl (any_of HT_.out (by kernel_rfl)) (fun _ _ _ h => h) (Or.inl ⟨by rfl, ?_⟩) ?_ ?_
                  rotate_left
                  · intro w'
                    go_simp
                    with_reducible rfl
                  rotate_left
                  · simp only [Act.put, List.setIfInBounds_toArray, List.set_cons_zero, List.set_cons_succ, i64_w, i32_w]
                    rfl
                  refine pure_ (i := 1) (N := some 97) (v := ?_) (a' := ?_) #[true, true, false, false, false, false, false, false] rfl rfl (any_of HT_.out (by kernel_rfl)) (fun _ _ _ h => h) (Or.inl ⟨by rfl, ?_⟩) ?_ ?_
                  rotate_left
                  · intro w'
                    go_simp
                    with_reducible rfl
                  rotate_left
                  · simp only [Act.put, List.setIfInBounds_toArray, List.set_cons_zero, List.set_cons_succ, i64_w, i32_w]
                    rfl
                  refine pure_ (i := 2) (N := some 98) (v := ?_) (a' := ?_) #[true, true, true, false, false, false, false, false] rfl rfl (any_of HT_.out (by kernel_rfl)) (fun _ _ _ h => h) (Or.inl ⟨by rfl, ?_⟩) ?_ ?_
                  rotate_left
                  · intro w'
                    go_simp
                    with_reducible rfl
                  rotate_left
                  · simp only [Act.put, List.setIfInBounds_toArray, List.set_cons_zero, List.set_cons_succ, i64_w, i32_w]
                    rfl
                  refine pure_ (i := 3) (N := some 99) (v := undef) (a' := ?_) #[true, true, true, true, false, false, false, false] rfl rfl (any_of HT_.out (by kernel_rfl)) (fun _ _ _ h => h) (Or.inr ⟨by rfl, rfl⟩) ?_ ?_
                  rotate_left
                  · simp only [Act.put, List.setIfInBounds_toArray, List.set_cons_zero, List.set_cons_succ, i64_w, i32_w]
                    rfl
                  refine pure_ (i := 4) (N := some 100) (v := undef) (a' := ?_) #[true, true, true, true, true, false, false, false] rfl rfl (any_of HT_.out (by kernel_rfl)) (fun _ _ _ h => h) (Or.inr ⟨by rfl, rfl⟩) ?_ ?_
                  rotate_left
                  · simp only [Act.put, List.setIfInBounds_toArray, List.set_cons_zero, List.set_cons_succ, i64_w, i32_w]
                    rfl
                  refine pure_ (i := 5) (N := some 101) (v := undef) (a' := ?_) #[true, true, true, true, true, true, false, false] rfl rfl (any_of HT_.out (by kernel_rfl)) (fun _ _ _ h => h) (Or.inr ⟨by rfl, rfl⟩) ?_ ?_
                  rotate_left
                  · simp only [Act.put, List.setIfInBounds_toArray, List.set_cons_zero, List.set_cons_succ, i64_w, i32_w]
                    rfl
                  refine pure_ (i := 6) (N := some 102) (v := undef) (a' := ?_) #[true, true, true, true, true, true, true, false] rfl rfl (any_of HT_.out (by kernel_rfl)) (fun _ _ _ h => h) (Or.inr ⟨by rfl, rfl⟩) ?_ ?_
                  rotate_left
                  · simp only [Act.put, List.setIfInBounds_toArray, List.set_cons_zero, List.set_cons_succ, i64_w, i32_w]
                    rfl
                  refine pure_ (i := 7) (N := some 103) (v := ?_) (a' := ?_) #[true, true, true, true, true, true, true, true] rfl rfl (any_of HT_.out (by kernel_rfl)) (fun _ _ _ h => h) (Or.inl ⟨by rfl, ?_⟩) ?_ ?_
                  rotate_left
                  · intro w'
                    go_simp
                    with_reducible rfl
                  rotate_left
                  · simp only [Act.put, List.setIfInBounds_toArray, List.set_cons_zero, List.set_cons_succ, i64_w, i32_w]
                    rfl
                  refine done_ (done_of HT_.out (by kernel_rfl)) ?_
                  try go_wp2
                  go_meet
                  case rel => exact ⟨_, (true), (by first | rfl | (simp; done) | (simp [*]; done)), H', ⟨by have := HJ11.out; have := HJ47.out; first | omega | exact Nat.le_refl _⟩, ⟨by (with_reducible repeat (first | refine blk_drewN ?_ _ | refine blk_drew ?_ | refine blk_alloc ?_ _)); exact BK159.out⟩, ⟨by (with_reducible repeat (first | refine blk_drewN ?_ _ | refine blk_drew ?_ | refine blk_alloc ?_ _)); exact BK172.out⟩, ⟨by (with_reducible repeat (first | refine blk_drewN ?_ _ | refine blk_drew ?_ | refine blk_alloc ?_ _)); exact BK180.out⟩, ⟨by (with_reducible repeat (first | refine blk_drewN ?_ _ | refine blk_drew ?_ | refine blk_alloc ?_ _)); exact BK199.out⟩, ⟨by (with_reducible repeat (first | refine blk_drewN ?_ _ | refine blk_drew ?_ | refine blk_alloc ?_ _)); exact BK207.out⟩, ⟨by repeat (first | (with_reducible first | exact HB.out | apply below_alloc | apply pw_below_drewN | apply below_drew1 | refine below_set ?_ GE159.out | refine below_set ?_ GE172.out | refine below_set ?_ GE180.out | refine below_set ?_ GE199.out | refine below_set ?_ GE207.out) | exact HB.out)⟩⟩
              case rest =>
                clear HC76
                try clear c1
                try clear c2
                try clear p2
                try clear c3
                try clear c4
                try clear c5
                try clear c6
                try clear c7
                try clear c8
                try clear c15
                try clear c16
                try clear c17
                try clear c18
                try clear c19
                try clear c20
                try clear c21
                try clear c22
                try clear c23
                try clear c24
                try clear c33
                try clear c34
                try clear c35
                try clear c37
                try clear c37b0
                try clear c37b1
                try clear c38
                try clear c38b0
                try clear c38b1
                try clear c38b2
                try clear c47
                try clear c50
                try clear c51
                try clear c51b0
                try clear c52
                try clear c53
                try clear c54
                try clear c57
                try clear c58
                try clear c59
                try clear c62
                try clear c63
                try clear c64
                try clear c67
                try clear c69
                try clear c70
                try clear c70b0
                try clear c70b1
                try clear c71
                try clear c71b0
                try clear c71b1
                try clear c77
                try clear c78
                try clear c79
                try clear c82
                try clear c83
                try clear c84
                try clear c85
                try clear c87
                try clear c87b0
                try clear c87b1
                try clear hcz14_0
                try clear hcz14_1
                try clear hcz14_2
                try clear hcz14_3
                try clear hcz14_4
                try clear hcz19_0
                try clear hcz19_1
                try clear hcz19_2
                try clear hcz19_3
                try clear hcz19_4
                try clear hcz20_0
                try clear hcz20_1
                try clear hcz20_2
                try clear hcz20_3
                try clear hcz20_4
                try clear hcz25_0
                try clear hcz25_1
                try clear hcz25_2
                try clear hcz25_3
                try clear hcz25_4
                try clear hcz26_0
                try clear hcz26_1
                try clear hcz26_2
                try clear hcz26_3
                try clear hcz26_4
                try clear hcz29_0
                try clear hcz29_1
                try clear hcz29_2
                try clear hcz29_3
                try clear hcz29_4
                try clear hcz36_0
                try clear hcz36_1
                try clear hcz36_2
                try clear hcz36_3
                try clear hcz36_4
                try clear hcz55_0
                try clear hcz55_1
                try clear hcz55_2
                try clear hcz55_3
                try clear hcz55_4
                try clear hcz60_0
                try clear hcz60_1
                try clear hcz60_2
                try clear hcz60_3
                try clear hcz60_4
                try clear hcz65_0
                try clear hcz65_1
                try clear hcz65_2
                try clear hcz65_3
                try clear hcz65_4
                try clear hcz80_0
                try clear hcz80_1
                try clear hcz80_2
                try clear hcz80_3
                try clear hcz80_4
                try clear hcz86_0
                try clear hcz86_1
                try clear hcz86_2
                try clear hcz86_3
                try clear hcz86_4
                try clear hfz14_0
                try clear hfz14_1
                try clear hfz14_2
                try clear hfz14_3
                try clear hfz14_4
                try clear hfz19_0
                try clear hfz19_1
                try clear hfz19_2
                try clear hfz19_3
                try clear hfz19_4
                try clear hfz20_0
                try clear hfz20_1
                try clear hfz20_2
                try clear hfz20_3
                try clear hfz20_4
                try clear hfz25_0
                try clear hfz25_1
                try clear hfz25_2
                try clear hfz25_3
                try clear hfz25_4
                try clear hfz26_0
                try clear hfz26_1
                try clear hfz26_2
                try clear hfz26_3
                try clear hfz26_4
                try clear hfz29_0
                try clear hfz29_1
                try clear hfz29_2
                try clear hfz29_3
                try clear hfz29_4
                try clear hfz36_0
                try clear hfz36_1
                try clear hfz36_2
                try clear hfz36_3
                try clear hfz36_4
                try clear hfz55_0
                try clear hfz55_1
                try clear hfz55_2
                try clear hfz55_3
                try clear hfz55_4
                try clear hfz60_0
                try clear hfz60_1
                try clear hfz60_2
                try clear hfz60_3
                try clear hfz60_4
                try clear hfz65_0
                try clear hfz65_1
                try clear hfz65_2
                try clear hfz65_3
                try clear hfz65_4
                try clear hfz80_0
                try clear hfz80_1
                try clear hfz80_2
                try clear hfz80_3
                try clear hfz80_4
                try clear hfz86_0
                try clear hfz86_1
                try clear hfz86_2
                try clear hfz86_3
                try clear hfz86_4
                try clear p2
                obtain ⟨kq, x103_75, rfl, HA, HJ75, BK159, BK172, BK180, BK199, BK207, HB⟩ := hcut
                cases kq with
                | zero => exact absurd HA.out (by simp [rivuletlaw06_HopoptHops.j2])
                | succ kj75 =>
                  have H := HA.out
                  clear HA
                  simp only [rivuletlaw06_HopoptHops.j2] at H
                  by_cases c94 : x103_75 = true
                  · subst c94
                    have H1 : (some false) = some r := by rw [if_pos rfl] at H; exact H
                    clear H
                    have H := H1
                    clear H1
                    obtain rfl := Option.some.inj H
                    go_wp2
                    go_ret
                    exact ⟨by first | rfl | (simp [errW_none, errW_some] <;> rfl) | (simp [*, errW_none, errW_some] <;> rfl), by repeat (first | (with_reducible first | exact HB.out | apply below_alloc | apply pw_below_drewN | apply below_drew1 | refine below_set ?_ GE159.out | refine below_set ?_ GE172.out | refine below_set ?_ GE180.out | refine below_set ?_ GE199.out | refine below_set ?_ GE207.out) | exact HB.out)⟩
                  · replace c94 := Bool.eq_false_iff.mpr c94
                    subst c94
                    have H1 : (if a2 < 1 then (rivuletlaw06_HopoptHops.j3 kj75 a1 a2 t186 t187 true a0_0 a0_1 a0_2 a0_3 a0_4) else (rivuletlaw06_HopoptHops.j3 kj75 a1 a2 t186 t187 (decide (a2 > 65535)) a0_0 a0_1 a0_2 a0_3 a0_4)) = some r := by rw [if_neg (show ¬ (false = true) by decide)] at H; exact H
                    clear H
                    have H := H1
                    clear H1
                    have HC95 := Aside0.mk H
                    clear H
                    go_upto_region 13 with (fail)
                    go_cut [109] (fun v109 wc => ∃ (kq : Nat) (x109_94 : Bool), v109 = .bool x109_94 ∧ Aside0 (rivuletlaw06_HopoptHops.j3 kq a1 a2 t186 t187 x109_94 a0_0 a0_1 a0_2 a0_3 a0_4 = some r) ∧ Aside0 (kq ≤ kj75) ∧ Aside0 (wc.heap[gb159]? = some (.cells #[.bool a0_0, .bool a0_1, .bool a0_2, .int .i64 a0_3, .int .i64 a0_4] 23 (0, 0))) ∧ Aside0 (wc.heap[gb172]? = some (.cells #[.bool t165, .bool t166, .bool t167, .int .i64 t168, .int .i64 t169] 25 (0, 0))) ∧ Aside0 (wc.heap[gb180]? = some (.cells #[.bool t173, .bool t174, .bool t175, .int .i64 t176, .int .i64 t177] 23 (0, 0))) ∧ Aside0 (wc.heap[gb199]? = some (.cells #[.bool t193, .bool t194, .bool t195, .int .i64 t196, .int .i64 t197] 25 (0, 0))) ∧ Aside0 (wc.heap[gb207]? = some (.cells #[.bool a3, .bool a0_1, .bool a0_2, .int .i64 a0_3, .int .i64 a1] 23 (0, 0))) ∧ Aside0 (Below w.heap.size w wc))
                    case first =>
                      have H := HC95.out
                      clear HC95
                      by_cases c96 : a2 < 1
                      · rw [if_pos c96] at H
                        have c96b0 : decide (a2 < 1) = true := decide_eq_true c96
                        clear c96
                        (first | rw [c96b0] | (simp only [i64_w, i32_w]; rw [c96b0]) | skip)
                        have H' := Aside0.mk H
                        clear H
                        go_wp2
                        go_meet
                        case rel => exact ⟨_, (true), (by first | rfl | (simp; done) | (simp [*]; done)), H', ⟨by have := HJ11.out; have := HJ47.out; have := HJ75.out; first | omega | exact Nat.le_refl _⟩, ⟨by (with_reducible repeat (first | refine blk_drewN ?_ _ | refine blk_drew ?_ | refine blk_alloc ?_ _)); exact BK159.out⟩, ⟨by (with_reducible repeat (first | refine blk_drewN ?_ _ | refine blk_drew ?_ | refine blk_alloc ?_ _)); exact BK172.out⟩, ⟨by (with_reducible repeat (first | refine blk_drewN ?_ _ | refine blk_drew ?_ | refine blk_alloc ?_ _)); exact BK180.out⟩, ⟨by (with_reducible repeat (first | refine blk_drewN ?_ _ | refine blk_drew ?_ | refine blk_alloc ?_ _)); exact BK199.out⟩, ⟨by (with_reducible repeat (first | refine blk_drewN ?_ _ | refine blk_drew ?_ | refine blk_alloc ?_ _)); exact BK207.out⟩, ⟨by repeat (first | (with_reducible first | exact HB.out | apply below_alloc | apply pw_below_drewN | apply below_drew1 | refine below_set ?_ GE159.out | refine below_set ?_ GE172.out | refine below_set ?_ GE180.out | refine below_set ?_ GE199.out | refine below_set ?_ GE207.out) | exact HB.out)⟩⟩
                      · rw [if_neg c96] at H
                        have c96b0 : decide (a2 < 1) = false := decide_eq_false c96
                        clear c96
                        (first | rw [c96b0] | (simp only [i64_w, i32_w]; rw [c96b0]) | skip)
                        have H' := Aside0.mk H
                        clear H
                        go_wp2
                        go_meet
                        case rel => exact ⟨_, (decide (a2 > 65535)), (by first | rfl | (simp; done) | (simp [*]; done)), H', ⟨by have := HJ11.out; have := HJ47.out; have := HJ75.out; first | omega | exact Nat.le_refl _⟩, ⟨by (with_reducible repeat (first | refine blk_drewN ?_ _ | refine blk_drew ?_ | refine blk_alloc ?_ _)); exact BK159.out⟩, ⟨by (with_reducible repeat (first | refine blk_drewN ?_ _ | refine blk_drew ?_ | refine blk_alloc ?_ _)); exact BK172.out⟩, ⟨by (with_reducible repeat (first | refine blk_drewN ?_ _ | refine blk_drew ?_ | refine blk_alloc ?_ _)); exact BK180.out⟩, ⟨by (with_reducible repeat (first | refine blk_drewN ?_ _ | refine blk_drew ?_ | refine blk_alloc ?_ _)); exact BK199.out⟩, ⟨by (with_reducible repeat (first | refine blk_drewN ?_ _ | refine blk_drew ?_ | refine blk_alloc ?_ _)); exact BK207.out⟩, ⟨by repeat (first | (with_reducible first | exact HB.out | apply below_alloc | apply pw_below_drewN | apply below_drew1 | refine below_set ?_ GE159.out | refine below_set ?_ GE172.out | refine below_set ?_ GE180.out | refine below_set ?_ GE199.out | refine below_set ?_ GE207.out) | exact HB.out)⟩⟩
                    case rest =>
                      clear HC95
                      try clear c1
                      try clear c2
                      try clear p2
                      try clear c3
                      try clear c4
                      try clear c5
                      try clear c6
                      try clear c7
                      try clear c8
                      try clear c9
                      try clear c15
                      try clear c16
                      try clear c17
                      try clear c18
                      try clear c19
                      try clear c20
                      try clear c21
                      try clear c22
                      try clear c23
                      try clear c24
                      try clear c33
                      try clear c34
                      try clear c35
                      try clear c37
                      try clear c37b0
                      try clear c37b1
                      try clear c38
                      try clear c38b0
                      try clear c38b1
                      try clear c38b2
                      try clear c47
                      try clear c50
                      try clear c51
                      try clear c51b0
                      try clear c52
                      try clear c53
                      try clear c54
                      try clear c57
                      try clear c58
                      try clear c59
                      try clear c62
                      try clear c63
                      try clear c64
                      try clear c67
                      try clear c69
                      try clear c70
                      try clear c70b0
                      try clear c70b1
                      try clear c71
                      try clear c71b0
                      try clear c71b1
                      try clear c77
                      try clear c78
                      try clear c79
                      try clear c82
                      try clear c83
                      try clear c84
                      try clear c85
                      try clear c87
                      try clear c87b0
                      try clear c87b1
                      try clear c94
                      try clear c96
                      try clear c96b0
                      try clear hcz14_0
                      try clear hcz14_1
                      try clear hcz14_2
                      try clear hcz14_3
                      try clear hcz14_4
                      try clear hcz19_0
                      try clear hcz19_1
                      try clear hcz19_2
                      try clear hcz19_3
                      try clear hcz19_4
                      try clear hcz20_0
                      try clear hcz20_1
                      try clear hcz20_2
                      try clear hcz20_3
                      try clear hcz20_4
                      try clear hcz25_0
                      try clear hcz25_1
                      try clear hcz25_2
                      try clear hcz25_3
                      try clear hcz25_4
                      try clear hcz26_0
                      try clear hcz26_1
                      try clear hcz26_2
                      try clear hcz26_3
                      try clear hcz26_4
                      try clear hcz29_0
                      try clear hcz29_1
                      try clear hcz29_2
                      try clear hcz29_3
                      try clear hcz29_4
                      try clear hcz36_0
                      try clear hcz36_1
                      try clear hcz36_2
                      try clear hcz36_3
                      try clear hcz36_4
                      try clear hcz55_0
                      try clear hcz55_1
                      try clear hcz55_2
                      try clear hcz55_3
                      try clear hcz55_4
                      try clear hcz60_0
                      try clear hcz60_1
                      try clear hcz60_2
                      try clear hcz60_3
                      try clear hcz60_4
                      try clear hcz65_0
                      try clear hcz65_1
                      try clear hcz65_2
                      try clear hcz65_3
                      try clear hcz65_4
                      try clear hcz80_0
                      try clear hcz80_1
                      try clear hcz80_2
                      try clear hcz80_3
                      try clear hcz80_4
                      try clear hcz86_0
                      try clear hcz86_1
                      try clear hcz86_2
                      try clear hcz86_3
                      try clear hcz86_4
                      try clear hfz14_0
                      try clear hfz14_1
                      try clear hfz14_2
                      try clear hfz14_3
                      try clear hfz14_4
                      try clear hfz19_0
                      try clear hfz19_1
                      try clear hfz19_2
                      try clear hfz19_3
                      try clear hfz19_4
                      try clear hfz20_0
                      try clear hfz20_1
                      try clear hfz20_2
                      try clear hfz20_3
                      try clear hfz20_4
                      try clear hfz25_0
                      try clear hfz25_1
                      try clear hfz25_2
                      try clear hfz25_3
                      try clear hfz25_4
                      try clear hfz26_0
                      try clear hfz26_1
                      try clear hfz26_2
                      try clear hfz26_3
                      try clear hfz26_4
                      try clear hfz29_0
                      try clear hfz29_1
                      try clear hfz29_2
                      try clear hfz29_3
                      try clear hfz29_4
                      try clear hfz36_0
                      try clear hfz36_1
                      try clear hfz36_2
                      try clear hfz36_3
                      try clear hfz36_4
                      try clear hfz55_0
                      try clear hfz55_1
                      try clear hfz55_2
                      try clear hfz55_3
                      try clear hfz55_4
                      try clear hfz60_0
                      try clear hfz60_1
                      try clear hfz60_2
                      try clear hfz60_3
                      try clear hfz60_4
                      try clear hfz65_0
                      try clear hfz65_1
                      try clear hfz65_2
                      try clear hfz65_3
                      try clear hfz65_4
                      try clear hfz80_0
                      try clear hfz80_1
                      try clear hfz80_2
                      try clear hfz80_3
                      try clear hfz80_4
                      try clear hfz86_0
                      try clear hfz86_1
                      try clear hfz86_2
                      try clear hfz86_3
                      try clear hfz86_4
                      try clear p2
                      obtain ⟨kq, x109_94, rfl, HA, HJ94, BK159, BK172, BK180, BK199, BK207, HB⟩ := hcut
                      cases kq with
                      | zero => exact absurd HA.out (by simp [rivuletlaw06_HopoptHops.j3])
                      | succ kj94 =>
                        have H := HA.out
                        clear HA
                        simp only [rivuletlaw06_HopoptHops.j3] at H
                        by_cases c97 : x109_94 = true
                        · subst c97
                          have H1 : ((rivuletlaw06_known.f kj94).bind fun t213 => (if t213 = true then (some (t187 == 1)) else (some false))) = some r := by rw [if_pos rfl] at H; exact H
                          clear H
                          have H := H1
                          clear H1
                          replace H := Option.bind_eq_some_iff.mp H
                          obtain ⟨t213, A980, H⟩ := H
                          replace H : (if t213 = true then (some (t187 == 1)) else (some false)) = some r := H
                          have A98 := Aside0.mk A980
                          clear A980
                          by_cases c99 : t213 = true
                          · subst c99
                            have H1 : (some (t187 == 1)) = some r := by rw [if_pos rfl] at H; exact H
                            clear H
                            have H := H1
                            clear H1
                            obtain rfl := Option.some.inj H
                            go_wp2_with (first | ((with_reducible refine gate_callee (f := 17) rfl ?_); refine goesL_ (some 110) rfl rfl Try.func17 (by kernel_rfl) rfl #[] rfl (by (try simp only [List.map_toArray, List.map_cons, List.map_nil]); first | done | rfl | (simp only [List.length_drop, List.length_take]; rfl)) ?_; (with_reducible refine (rivuletlaw06_known.calls kj94  true _ A98.out).mono ?_); rintro e w100 ⟨rfl, hb⟩; refine ⟨_, rfl, ?_⟩; have n0_ := Aside0.mk (blk_below (g := gb159) (o := .cells #[.bool a0_0, .bool a0_1, .bool a0_2, .int .i64 a0_3, .int .i64 a0_4] 23 (0, 0)) (by (with_reducible repeat (first | refine blk_drewN ?_ _ | refine blk_drew ?_ | refine blk_alloc ?_ _)); exact BK159.out) hb); have n1_ := Aside0.mk (blk_below (g := gb172) (o := .cells #[.bool t165, .bool t166, .bool t167, .int .i64 t168, .int .i64 t169] 25 (0, 0)) (by (with_reducible repeat (first | refine blk_drewN ?_ _ | refine blk_drew ?_ | refine blk_alloc ?_ _)); exact BK172.out) hb); have n2_ := Aside0.mk (blk_below (g := gb180) (o := .cells #[.bool t173, .bool t174, .bool t175, .int .i64 t176, .int .i64 t177] 23 (0, 0)) (by (with_reducible repeat (first | refine blk_drewN ?_ _ | refine blk_drew ?_ | refine blk_alloc ?_ _)); exact BK180.out) hb); have n3_ := Aside0.mk (blk_below (g := gb199) (o := .cells #[.bool t193, .bool t194, .bool t195, .int .i64 t196, .int .i64 t197] 25 (0, 0)) (by (with_reducible repeat (first | refine blk_drewN ?_ _ | refine blk_drew ?_ | refine blk_alloc ?_ _)); exact BK199.out) hb); have n4_ := Aside0.mk (blk_below (g := gb207) (o := .cells #[.bool a3, .bool a0_1, .bool a0_2, .int .i64 a0_3, .int .i64 a1] 23 (0, 0)) (by (with_reducible repeat (first | refine blk_drewN ?_ _ | refine blk_drew ?_ | refine blk_alloc ?_ _)); exact BK207.out) hb); have n5_ := Aside0.mk (below_step (by repeat (first | (with_reducible first | exact HB.out | apply below_alloc | apply pw_below_drewN | apply below_drew1 | refine below_set ?_ GE159.out | refine below_set ?_ GE172.out | refine below_set ?_ GE180.out | refine below_set ?_ GE199.out | refine below_set ?_ GE207.out) | exact HB.out)) hb); clear BK159; clear BK172; clear BK180; clear BK199; clear BK207; clear HB; have BK159 := n0_; have BK172 := n1_; have BK180 := n2_; have BK199 := n3_; have BK207 := n4_; have HB := n5_; clear n0_ n1_ n2_ n3_ n4_ n5_; (try clear hb); (try clear hb2); (try clear hk); (try clear hi)))
                            go_ret
                            exact ⟨by first | rfl | (simp [errW_none, errW_some] <;> rfl) | (simp [*, errW_none, errW_some] <;> rfl), by repeat (first | (with_reducible first | exact HB.out | apply below_alloc | apply pw_below_drewN | apply below_drew1 | refine below_set ?_ GE159.out | refine below_set ?_ GE172.out | refine below_set ?_ GE180.out | refine below_set ?_ GE199.out | refine below_set ?_ GE207.out) | exact HB.out)⟩
                          · replace c99 := Bool.eq_false_iff.mpr c99
                            subst c99
                            have H1 : (some false) = some r := by rw [if_neg (show ¬ (false = true) by decide)] at H; exact H
                            clear H
                            have H := H1
                            clear H1
                            obtain rfl := Option.some.inj H
                            go_wp2_with (first | ((with_reducible refine gate_callee (f := 17) rfl ?_); refine goesL_ (some 110) rfl rfl Try.func17 (by kernel_rfl) rfl #[] rfl (by (try simp only [List.map_toArray, List.map_cons, List.map_nil]); first | done | rfl | (simp only [List.length_drop, List.length_take]; rfl)) ?_; (with_reducible refine (rivuletlaw06_known.calls kj94  false _ A98.out).mono ?_); rintro e w101 ⟨rfl, hb⟩; refine ⟨_, rfl, ?_⟩; have n0_ := Aside0.mk (blk_below (g := gb159) (o := .cells #[.bool a0_0, .bool a0_1, .bool a0_2, .int .i64 a0_3, .int .i64 a0_4] 23 (0, 0)) (by (with_reducible repeat (first | refine blk_drewN ?_ _ | refine blk_drew ?_ | refine blk_alloc ?_ _)); exact BK159.out) hb); have n1_ := Aside0.mk (blk_below (g := gb172) (o := .cells #[.bool t165, .bool t166, .bool t167, .int .i64 t168, .int .i64 t169] 25 (0, 0)) (by (with_reducible repeat (first | refine blk_drewN ?_ _ | refine blk_drew ?_ | refine blk_alloc ?_ _)); exact BK172.out) hb); have n2_ := Aside0.mk (blk_below (g := gb180) (o := .cells #[.bool t173, .bool t174, .bool t175, .int .i64 t176, .int .i64 t177] 23 (0, 0)) (by (with_reducible repeat (first | refine blk_drewN ?_ _ | refine blk_drew ?_ | refine blk_alloc ?_ _)); exact BK180.out) hb); have n3_ := Aside0.mk (blk_below (g := gb199) (o := .cells #[.bool t193, .bool t194, .bool t195, .int .i64 t196, .int .i64 t197] 25 (0, 0)) (by (with_reducible repeat (first | refine blk_drewN ?_ _ | refine blk_drew ?_ | refine blk_alloc ?_ _)); exact BK199.out) hb); have n4_ := Aside0.mk (blk_below (g := gb207) (o := .cells #[.bool a3, .bool a0_1, .bool a0_2, .int .i64 a0_3, .int .i64 a1] 23 (0, 0)) (by (with_reducible repeat (first | refine blk_drewN ?_ _ | refine blk_drew ?_ | refine blk_alloc ?_ _)); exact BK207.out) hb); have n5_ := Aside0.mk (below_step (by repeat (first | (with_reducible first | exact HB.out | apply below_alloc | apply pw_below_drewN | apply below_drew1 | refine below_set ?_ GE159.out | refine below_set ?_ GE172.out | refine below_set ?_ GE180.out | refine below_set ?_ GE199.out | refine below_set ?_ GE207.out) | exact HB.out)) hb); clear BK159; clear BK172; clear BK180; clear BK199; clear BK207; clear HB; have BK159 := n0_; have BK172 := n1_; have BK180 := n2_; have BK199 := n3_; have BK207 := n4_; have HB := n5_; clear n0_ n1_ n2_ n3_ n4_ n5_; (try clear hb); (try clear hb2); (try clear hk); (try clear hi)))
                            go_ret
                            exact ⟨by first | rfl | (simp [errW_none, errW_some] <;> rfl) | (simp [*, errW_none, errW_some] <;> rfl), by repeat (first | (with_reducible first | exact HB.out | apply below_alloc | apply pw_below_drewN | apply below_drew1 | refine below_set ?_ GE159.out | refine below_set ?_ GE172.out | refine below_set ?_ GE180.out | refine below_set ?_ GE199.out | refine below_set ?_ GE207.out) | exact HB.out)⟩
                        · replace c97 := Bool.eq_false_iff.mpr c97
                          subst c97
                          have H1 : ((rivuletlaw06_known.f kj94).bind fun t214 => (if t214 = true then (if t187 = 0 then ((rivuletref06_Consistent.f a0_0 a0_1 a0_2 a0_3 a0_4 a1 a2).bind fun t215 => (some (t186 == t215))) else (some false)) else (some false))) = some r := by rw [if_neg (show ¬ (false = true) by decide)] at H; exact H
                          clear H
                          have H := H1
                          clear H1
                          replace H := Option.bind_eq_some_iff.mp H
                          obtain ⟨t214, A1020, H⟩ := H
                          replace H : (if t214 = true then (if t187 = 0 then ((rivuletref06_Consistent.f a0_0 a0_1 a0_2 a0_3 a0_4 a1 a2).bind fun t215 => (some (t186 == t215))) else (some false)) else (some false)) = some r := H
                          have A102 := Aside0.mk A1020
                          clear A1020
                          by_cases c103 : t214 = true
                          · subst c103
                            have H1 : (if t187 = 0 then ((rivuletref06_Consistent.f a0_0 a0_1 a0_2 a0_3 a0_4 a1 a2).bind fun t215 => (some (t186 == t215))) else (some false)) = some r := by rw [if_pos rfl] at H; exact H
                            clear H
                            have H := H1
                            clear H1
                            by_cases c104 : t187 = 0
                            · rw [if_pos c104] at H
                              have c104b0 : (t187 == 0) = true := beq_iff_eq.mpr c104
                              have c104b1 : (t187 != 0) = false := bne_eq_false_iff_eq.mpr c104
                              clear c104
                              replace H := Option.bind_eq_some_iff.mp H
                              obtain ⟨t215, A1050, H⟩ := H
                              replace H : (some (t186 == t215)) = some r := H
                              have A105 := Aside0.mk A1050
                              clear A1050
                              obtain rfl := Option.some.inj H
                              go_wp2_with (first | ((with_reducible refine gate_callee (f := 17) rfl ?_); refine goesL_ (some 115) rfl rfl Try.func17 (by kernel_rfl) rfl #[] rfl (by (try simp only [List.map_toArray, List.map_cons, List.map_nil]); first | done | rfl | (simp only [List.length_drop, List.length_take]; rfl)) ?_; (with_reducible refine (rivuletlaw06_known.calls kj94  true _ A102.out).mono ?_); rintro e w106 ⟨rfl, hb⟩; refine ⟨_, rfl, ?_⟩; have n0_ := Aside0.mk (blk_below (g := gb159) (o := .cells #[.bool a0_0, .bool a0_1, .bool a0_2, .int .i64 a0_3, .int .i64 a0_4] 23 (0, 0)) (by (with_reducible repeat (first | refine blk_drewN ?_ _ | refine blk_drew ?_ | refine blk_alloc ?_ _)); exact BK159.out) hb); have n1_ := Aside0.mk (blk_below (g := gb172) (o := .cells #[.bool t165, .bool t166, .bool t167, .int .i64 t168, .int .i64 t169] 25 (0, 0)) (by (with_reducible repeat (first | refine blk_drewN ?_ _ | refine blk_drew ?_ | refine blk_alloc ?_ _)); exact BK172.out) hb); have n2_ := Aside0.mk (blk_below (g := gb180) (o := .cells #[.bool t173, .bool t174, .bool t175, .int .i64 t176, .int .i64 t177] 23 (0, 0)) (by (with_reducible repeat (first | refine blk_drewN ?_ _ | refine blk_drew ?_ | refine blk_alloc ?_ _)); exact BK180.out) hb); have n3_ := Aside0.mk (blk_below (g := gb199) (o := .cells #[.bool t193, .bool t194, .bool t195, .int .i64 t196, .int .i64 t197] 25 (0, 0)) (by (with_reducible repeat (first | refine blk_drewN ?_ _ | refine blk_drew ?_ | refine blk_alloc ?_ _)); exact BK199.out) hb); have n4_ := Aside0.mk (blk_below (g := gb207) (o := .cells #[.bool a3, .bool a0_1, .bool a0_2, .int .i64 a0_3, .int .i64 a1] 23 (0, 0)) (by (with_reducible repeat (first | refine blk_drewN ?_ _ | refine blk_drew ?_ | refine blk_alloc ?_ _)); exact BK207.out) hb); have n5_ := Aside0.mk (below_step (by repeat (first | (with_reducible first | exact HB.out | apply below_alloc | apply pw_below_drewN | apply below_drew1 | refine below_set ?_ GE159.out | refine below_set ?_ GE172.out | refine below_set ?_ GE180.out | refine below_set ?_ GE199.out | refine below_set ?_ GE207.out) | exact HB.out)) hb); clear BK159; clear BK172; clear BK180; clear BK199; clear BK207; clear HB; have BK159 := n0_; have BK172 := n1_; have BK180 := n2_; have BK199 := n3_; have BK207 := n4_; have HB := n5_; clear n0_ n1_ n2_ n3_ n4_ n5_; (try clear hb); (try clear hb2); (try clear hk); (try clear hi); have hnb107 := NB159_172.out; have hnc107 := NB172_159.out; have hnb108 := NB159_180.out; have hnc108 := NB180_159.out; have hnb109 := NB159_199.out; have hnc109 := NB199_159.out; have hnb110 := NB159_207.out; have hnc110 := NB207_159.out; have hcz111_0 : w106.cell? ⟨gb159, 0, none⟩ = some (.bool a0_0) := (blk_cell BK159.out 0).trans rfl; have hcz111_1 : w106.cell? ⟨gb159, 1, none⟩ = some (.bool a0_1) := (blk_cell BK159.out 1).trans rfl; have hcz111_2 : w106.cell? ⟨gb159, 2, none⟩ = some (.bool a0_2) := (blk_cell BK159.out 2).trans rfl; have hcz111_3 : w106.cell? ⟨gb159, 3, none⟩ = some (.int .i64 a0_3) := (blk_cell BK159.out 3).trans rfl; have hcz111_4 : w106.cell? ⟨gb159, 4, none⟩ = some (.int .i64 a0_4) := (blk_cell BK159.out 4).trans rfl; have hfz111_0 := blk_frozen BK159.out 0; have hfz111_1 := blk_frozen BK159.out 1; have hfz111_2 := blk_frozen BK159.out 2; have hfz111_3 := blk_frozen BK159.out 3; have hfz111_4 := blk_frozen BK159.out 4) | (go_at_call 23; (with_reducible refine (rivuletref06_Consistent.calls a0_0 a0_1 a0_2 a0_3 a0_4 a1 a2 t215 _ A105.out).mono ?_); rintro e w112 ⟨rfl, hb⟩; have n0_ := Aside0.mk (blk_below (g := gb159) (o := .cells #[.bool a0_0, .bool a0_1, .bool a0_2, .int .i64 a0_3, .int .i64 a0_4] 23 (0, 0)) (by (with_reducible repeat (first | refine blk_drewN ?_ _ | refine blk_drew ?_ | refine blk_alloc ?_ _)); exact BK159.out) hb); have n1_ := Aside0.mk (blk_below (g := gb172) (o := .cells #[.bool t165, .bool t166, .bool t167, .int .i64 t168, .int .i64 t169] 25 (0, 0)) (by (with_reducible repeat (first | refine blk_drewN ?_ _ | refine blk_drew ?_ | refine blk_alloc ?_ _)); exact BK172.out) hb); have n2_ := Aside0.mk (blk_below (g := gb180) (o := .cells #[.bool t173, .bool t174, .bool t175, .int .i64 t176, .int .i64 t177] 23 (0, 0)) (by (with_reducible repeat (first | refine blk_drewN ?_ _ | refine blk_drew ?_ | refine blk_alloc ?_ _)); exact BK180.out) hb); have n3_ := Aside0.mk (blk_below (g := gb199) (o := .cells #[.bool t193, .bool t194, .bool t195, .int .i64 t196, .int .i64 t197] 25 (0, 0)) (by (with_reducible repeat (first | refine blk_drewN ?_ _ | refine blk_drew ?_ | refine blk_alloc ?_ _)); exact BK199.out) hb); have n4_ := Aside0.mk (blk_below (g := gb207) (o := .cells #[.bool a3, .bool a0_1, .bool a0_2, .int .i64 a0_3, .int .i64 a1] 23 (0, 0)) (by (with_reducible repeat (first | refine blk_drewN ?_ _ | refine blk_drew ?_ | refine blk_alloc ?_ _)); exact BK207.out) hb); have n5_ := Aside0.mk (below_step (by repeat (first | (with_reducible first | exact HB.out | apply below_alloc | apply pw_below_drewN | apply below_drew1 | refine below_set ?_ GE159.out | refine below_set ?_ GE172.out | refine below_set ?_ GE180.out | refine below_set ?_ GE199.out | refine below_set ?_ GE207.out) | exact HB.out)) hb); clear BK159; clear BK172; clear BK180; clear BK199; clear BK207; clear HB; have BK159 := n0_; have BK172 := n1_; have BK180 := n2_; have BK199 := n3_; have BK207 := n4_; have HB := n5_; clear n0_ n1_ n2_ n3_ n4_ n5_; (try clear hb); (try clear hb2); (try clear hk); (try clear hi)))
                              go_ret
                              exact ⟨by first | rfl | (simp [errW_none, errW_some] <;> rfl) | (simp [*, errW_none, errW_some] <;> rfl), by repeat (first | (with_reducible first | exact HB.out | apply below_alloc | apply pw_below_drewN | apply below_drew1 | refine below_set ?_ GE159.out | refine below_set ?_ GE172.out | refine below_set ?_ GE180.out | refine below_set ?_ GE199.out | refine below_set ?_ GE207.out) | exact HB.out)⟩
                            · rw [if_neg c104] at H
                              have c104b0 : (t187 == 0) = false := beq_eq_false_iff_ne.mpr c104
                              have c104b1 : (t187 != 0) = true := bne_iff_ne.mpr c104
                              obtain rfl := Option.some.inj H
                              go_wp2_with (first | ((with_reducible refine gate_callee (f := 17) rfl ?_); refine goesL_ (some 115) rfl rfl Try.func17 (by kernel_rfl) rfl #[] rfl (by (try simp only [List.map_toArray, List.map_cons, List.map_nil]); first | done | rfl | (simp only [List.length_drop, List.length_take]; rfl)) ?_; (with_reducible refine (rivuletlaw06_known.calls kj94  true _ A102.out).mono ?_); rintro e w113 ⟨rfl, hb⟩; refine ⟨_, rfl, ?_⟩; have n0_ := Aside0.mk (blk_below (g := gb159) (o := .cells #[.bool a0_0, .bool a0_1, .bool a0_2, .int .i64 a0_3, .int .i64 a0_4] 23 (0, 0)) (by (with_reducible repeat (first | refine blk_drewN ?_ _ | refine blk_drew ?_ | refine blk_alloc ?_ _)); exact BK159.out) hb); have n1_ := Aside0.mk (blk_below (g := gb172) (o := .cells #[.bool t165, .bool t166, .bool t167, .int .i64 t168, .int .i64 t169] 25 (0, 0)) (by (with_reducible repeat (first | refine blk_drewN ?_ _ | refine blk_drew ?_ | refine blk_alloc ?_ _)); exact BK172.out) hb); have n2_ := Aside0.mk (blk_below (g := gb180) (o := .cells #[.bool t173, .bool t174, .bool t175, .int .i64 t176, .int .i64 t177] 23 (0, 0)) (by (with_reducible repeat (first | refine blk_drewN ?_ _ | refine blk_drew ?_ | refine blk_alloc ?_ _)); exact BK180.out) hb); have n3_ := Aside0.mk (blk_below (g := gb199) (o := .cells #[.bool t193, .bool t194, .bool t195, .int .i64 t196, .int .i64 t197] 25 (0, 0)) (by (with_reducible repeat (first | refine blk_drewN ?_ _ | refine blk_drew ?_ | refine blk_alloc ?_ _)); exact BK199.out) hb); have n4_ := Aside0.mk (blk_below (g := gb207) (o := .cells #[.bool a3, .bool a0_1, .bool a0_2, .int .i64 a0_3, .int .i64 a1] 23 (0, 0)) (by (with_reducible repeat (first | refine blk_drewN ?_ _ | refine blk_drew ?_ | refine blk_alloc ?_ _)); exact BK207.out) hb); have n5_ := Aside0.mk (below_step (by repeat (first | (with_reducible first | exact HB.out | apply below_alloc | apply pw_below_drewN | apply below_drew1 | refine below_set ?_ GE159.out | refine below_set ?_ GE172.out | refine below_set ?_ GE180.out | refine below_set ?_ GE199.out | refine below_set ?_ GE207.out) | exact HB.out)) hb); clear BK159; clear BK172; clear BK180; clear BK199; clear BK207; clear HB; have BK159 := n0_; have BK172 := n1_; have BK180 := n2_; have BK199 := n3_; have BK207 := n4_; have HB := n5_; clear n0_ n1_ n2_ n3_ n4_ n5_; (try clear hb); (try clear hb2); (try clear hk); (try clear hi)))
                              go_ret
                              exact ⟨by first | rfl | (simp [errW_none, errW_some] <;> rfl) | (simp [*, errW_none, errW_some] <;> rfl), by repeat (first | (with_reducible first | exact HB.out | apply below_alloc | apply pw_below_drewN | apply below_drew1 | refine below_set ?_ GE159.out | refine below_set ?_ GE172.out | refine below_set ?_ GE180.out | refine below_set ?_ GE199.out | refine below_set ?_ GE207.out) | exact HB.out)⟩
                          · replace c103 := Bool.eq_false_iff.mpr c103
                            subst c103
                            have H1 : (some false) = some r := by rw [if_neg (show ¬ (false = true) by decide)] at H; exact H
                            clear H
                            have H := H1
                            clear H1
                            obtain rfl := Option.some.inj H
                            go_wp2_with (first | ((with_reducible refine gate_callee (f := 17) rfl ?_); refine goesL_ (some 115) rfl rfl Try.func17 (by kernel_rfl) rfl #[] rfl (by (try simp only [List.map_toArray, List.map_cons, List.map_nil]); first | done | rfl | (simp only [List.length_drop, List.length_take]; rfl)) ?_; (with_reducible refine (rivuletlaw06_known.calls kj94  false _ A102.out).mono ?_); rintro e w114 ⟨rfl, hb⟩; refine ⟨_, rfl, ?_⟩; have n0_ := Aside0.mk (blk_below (g := gb159) (o := .cells #[.bool a0_0, .bool a0_1, .bool a0_2, .int .i64 a0_3, .int .i64 a0_4] 23 (0, 0)) (by (with_reducible repeat (first | refine blk_drewN ?_ _ | refine blk_drew ?_ | refine blk_alloc ?_ _)); exact BK159.out) hb); have n1_ := Aside0.mk (blk_below (g := gb172) (o := .cells #[.bool t165, .bool t166, .bool t167, .int .i64 t168, .int .i64 t169] 25 (0, 0)) (by (with_reducible repeat (first | refine blk_drewN ?_ _ | refine blk_drew ?_ | refine blk_alloc ?_ _)); exact BK172.out) hb); have n2_ := Aside0.mk (blk_below (g := gb180) (o := .cells #[.bool t173, .bool t174, .bool t175, .int .i64 t176, .int .i64 t177] 23 (0, 0)) (by (with_reducible repeat (first | refine blk_drewN ?_ _ | refine blk_drew ?_ | refine blk_alloc ?_ _)); exact BK180.out) hb); have n3_ := Aside0.mk (blk_below (g := gb199) (o := .cells #[.bool t193, .bool t194, .bool t195, .int .i64 t196, .int .i64 t197] 25 (0, 0)) (by (with_reducible repeat (first | refine blk_drewN ?_ _ | refine blk_drew ?_ | refine blk_alloc ?_ _)); exact BK199.out) hb); have n4_ := Aside0.mk (blk_below (g := gb207) (o := .cells #[.bool a3, .bool a0_1, .bool a0_2, .int .i64 a0_3, .int .i64 a1] 23 (0, 0)) (by (with_reducible repeat (first | refine blk_drewN ?_ _ | refine blk_drew ?_ | refine blk_alloc ?_ _)); exact BK207.out) hb); have n5_ := Aside0.mk (below_step (by repeat (first | (with_reducible first | exact HB.out | apply below_alloc | apply pw_below_drewN | apply below_drew1 | refine below_set ?_ GE159.out | refine below_set ?_ GE172.out | refine below_set ?_ GE180.out | refine below_set ?_ GE199.out | refine below_set ?_ GE207.out) | exact HB.out)) hb); clear BK159; clear BK172; clear BK180; clear BK199; clear BK207; clear HB; have BK159 := n0_; have BK172 := n1_; have BK180 := n2_; have BK199 := n3_; have BK207 := n4_; have HB := n5_; clear n0_ n1_ n2_ n3_ n4_ n5_; (try clear hb); (try clear hb2); (try clear hk); (try clear hi)))
                            go_ret
                            exact ⟨by first | rfl | (simp [errW_none, errW_some] <;> rfl) | (simp [*, errW_none, errW_some] <;> rfl), by repeat (first | (with_reducible first | exact HB.out | apply below_alloc | apply pw_below_drewN | apply below_drew1 | refine below_set ?_ GE159.out | refine below_set ?_ GE172.out | refine below_set ?_ GE180.out | refine below_set ?_ GE199.out | refine below_set ?_ GE207.out) | exact HB.out)⟩

end Go.Proofs.Ytanpnhponefbbaa.PHopoptHops
