/- The law RouteFalls holds for every input: the row of the given statement, out of its walk. No condition. -/
import Derived.Test.YtnmlckaeheiodaaDoorRows
import Derived.Test.YtnmlckaeheiodaaDoorCards
import Derived.Test.YtnmlckaeheiodaaDoorTie
import Derived.Test.YtnmlckaeheiodaaDoorKdOpen
import Derived.Test.YtnmlckaeheiodaaDoorRfl
import Derived.Laws.Cover2
import Derived.WalkKit
import Derived.ProofKit
import Derived.OpenShut
import Derived.ShutString
import Derived.ChangeOld
import Derived.Below
import Derived.SizedLaws
import Derived.ChangeSlices
import Derived.Deep.Slices
import Derived.Deep.Fields
import Derived.ChangeSame
import Derived.LaidMore
import Derived.LaidLaws
import Derived.LaidHandle
import Derived.Stop.Joined
import Derived.Stop.LaidErr
import Derived.Lib.LaidTab
import Derived.MakeChecks
import Derived.SevenTiedAt
set_option linter.unusedVariables false
set_option linter.unusedSimpArgs false
namespace Go.Proofs.YtnmlckaeheiodaaDoor.routeFalls
open Go.ChangeShapes Go.WideShapes Go.ChangeAt Go.RowKit Go.Deep
open Go.ChangeMaps (open_string shut_string)
open Go.Proofs.YtnmlckaeheiodaaDoorW.PrintWords Go.Proofs.YtnmlckaeheiodaaDoor.KdOpen
theorem own : ownKnob Tryd.prog.godebug = none := by kernel_rfl
theorem laidOut : laidOutB Tryd.prog = true := by kernel_rfl
/-- A slice is no longer than its weight allows. -/
theorem slice_long {H : Type} {enc : TypeId × Value → H} {P : Program} {W : World} {base : Nat} {spare : Nat → Bool} {held : Bool} {t e : TypeId} {a : Option Addr} {len cap : Nat} {d : DataW H} {ps : List MemPlace} {ts : List TypeId} {ds : List (DataW H)} {j : Nat}
  (hsz : (DataW.weightsEach P ts ds).all (· ≤ reachBytes) = true) (ht : ts[j]? = some t) (hd : ds[j]? = some d) (hu : P.underlying t = some (.slice e)) {B : Nat} (hB : P.bytesOf e = B)
  (h : DataW.Trod enc P W base spare held t (.slice a len cap) d ps) : len * B ≤ 140737488351232 := by
 obtain ⟨fuel, hf⟩ := h
 rcases DataW.trod_slice hu hf with ⟨hcs, _⟩ | ⟨x, l, c, elems, rest, n, _, hcs, hx, _, _, _, hlen, _⟩
 ·
  simp [Value.cells] at hcs
  obtain ⟨rfl, rfl, rfl⟩ := hcs
  simp
 ·
  simp [Value.cells] at hcs
  obtain ⟨rfl, rfl, rfl⟩ := hcs
  obtain ⟨hx, _⟩ := Prod.mk.inj hx
  subst hx
  have z := sized_slice hsz ht hd hu
  rw [hB] at z
  simp only [List.length_map] at z
  subst hlen
  exact Nat.le_trans (Nat.mul_le_mul_right _ (by omega)) z
abbrev laid2 {H : Type} : List (String × DataW H) := [("unicode.White_Space", Rows.laid_unicode_White_Space), ("strings.asciiSpace", Rows.laid_strings_asciiSpace)]
/-- The door's own heap meets the condition. -/
theorem door_met (os : Os) (args : Array Value) : laidMetH Tryd.prog laid2 ((World.doorLaid Tryd.prog 33 os).forCall (fun _ _ => 0) ⟨#[], args, []⟩).memory :=
 laidMetH_of_parts3 (fuel := 8) (laidMet_of_run' 8 (by kernel_rfl) (by kernel_rfl)) (by kernel_rfl) (by kernel_rfl)
set_option maxRecDepth 100000 in
/-- What the condition tells of the table of spaces. -/
theorem tx_of {W : World} (h : laidMetH Tryd.prog laid2 W) : Rw.Tx W := by
 rw [MakeChecks.laidMetH_plain _ _ _ (by kernel_rfl)] at h
 exact Lib.tabIs_of_head (g := 0) (t := 86) (e := 5) (n := 256) (k := .u8) (zs := Lib.asciiSpaceTab) (by kernel_rfl) (by kernel_rfl) Tryd.underlying86 Tryd.underlying5 (by kernel_rfl) (by kernel_rfl) h.tail
set_option maxRecDepth 100000 in
theorem lifted (os : Os) (started : os.Started) (H : Type) (enc : TypeId × Value → H) :
  ReturnsInHanded {} Tryd.checked os 4 .any (fun w args => (Rows.routeFallsSpec.pre enc Tryd.prog Tryd.f4 [] false w args ∧ laidMetH Tryd.prog laid2 w) ∧ sizedMet enc Tryd.prog Tryd.f4 (OpenSpec.ofChange Rows.routeFallsSpec) false w args) (Rows.routeFallsSpec.post enc Tryd.prog Tryd.f4 false true false false) := by
 refine returnsInHanded_of_change_and (C := Tryd.checked) (X := fun w _ => laidMetH Tryd.prog laid2 w) (fun _ _ _ hh h => h.of_heap hh) own started (by kernel_rfl) Tryd.func4
  (ChangeSpec.witness_shaped (enc := enc) (C := Tryd.checked) (os := os) (X := fun w _ => laidMetH Tryd.prog laid2 w) false (World.doorLaid Tryd.prog 33 os) #[.slice none 0 0, .slice none 0 0] 8 rfl (World.shaped_of_RefB (by kernel_rfl) (by kernel_rfl)) (by kernel_rfl) (by kernel_rfl) (by kernel_rfl) (door_met os _)) ?_
 intro W base args ds gs before hval0 hW hcnd hsz0 hL _
 have hsz : (DataW.weightsEach Tryd.prog (Tryd.f4.params.toList ++ Rows.routeFallsSpec.plain.varTypes Tryd.prog) (ds ++ gs)).all (· ≤ reachBytes) = true := hsz0
 have hval : ∀ (j : Nat) t v, Tryd.f4.params[j]? = some t → args[j]? = some v → Value.okWide Tryd.prog W .any base t v := hval0
 have hW' := hW
 obtain ⟨p, q, hA0, hV, rfl, hfz, hnd⟩ := hW
 have hA : DataW.TrodAll enc Tryd.prog W 0 (fun _ => true) true Tryd.f4.params.toList args.toList ds p := hA0
 rw [Tryd.params4] at hA hval hsz
 obtain ⟨v0, vs0, d0, ds0, p0, q0, hargs, rfl, rfl, h0, r0⟩ := trodAll_cons hA
 obtain ⟨v1, vs1, d1, ds1, p1, q1, rfl, rfl, rfl, h1, r1⟩ := trodAll_cons r0
 obtain ⟨rfl, rfl, rfl⟩ := trodAll_nil r1
 obtain rfl : args = #[v0, v1] := by cases args; simp_all
 obtain ⟨rfl, rfl⟩ := trodVars_none hV
 obtain ⟨a0, len0, cap0, rfl⟩ := okWide_slice Tryd.underlying44 (hval 0 44 v0 rfl rfl)
 have k0 := h0
 have lt0 : ∀ x ∈ p0, x.block < W.heap.size := by obtain ⟨m, hm⟩ := k0; exact DataW.trod_lt m _ _ _ hm
 have y0 := slice_long hsz (j := 0) (t := 44) rfl rfl Tryd.underlying44 (B := Tryd.prog.bytesOf 24) rfl h0
 have c0 := arg_cap Tryd.underlying44 h0
 obtain ⟨z0, rfl, m0, w0, o0⟩ := arg_slice (opens_slice Tryd.underlying44 (by kernel_rfl) (opens_struct Tryd.underlying24 (fs_cons rfl (opens_int Tryd.underlying3 (by kernel_rfl)) (fs_cons rfl (opens_int Tryd.underlying3 (by kernel_rfl)) (fs_cons rfl (opens_bool Tryd.underlying4 (by kernel_rfl)) (fs_one rfl (opens_slice Tryd.underlying22 (by kernel_rfl) (opens_struct Tryd.underlying61 (fs_cons rfl (opens_int Tryd.underlying3 (by kernel_rfl)) (fs_cons rfl (opens_int Tryd.underlying3 (by kernel_rfl)) (fs_cons rfl (opens_int Tryd.underlying3 (by kernel_rfl)) (fs_one rfl (opens_int Tryd.underlying3 (by kernel_rfl)))))) (by kernel_rfl)) 61))))) (by kernel_rfl)) 24) h0
 obtain ⟨a1, len1, cap1, rfl⟩ := okWide_slice Tryd.underlying45 (hval 1 45 v1 rfl rfl)
 have k1 := h1
 have lt1 : ∀ x ∈ p1, x.block < W.heap.size := by obtain ⟨m, hm⟩ := k1; exact DataW.trod_lt m _ _ _ hm
 have y1 := slice_long hsz (j := 1) (t := 45) rfl rfl Tryd.underlying45 (B := Tryd.prog.bytesOf 3) rfl h1
 have c1 := arg_cap Tryd.underlying45 h1
 obtain ⟨z1, rfl, m1, w1, o1⟩ := arg_slice (opens_slice Tryd.underlying45 (by kernel_rfl) (opens_int Tryd.underlying3 (by kernel_rfl)) 3) h1
 clear hA0 hval0 hsz0 hsz
 refine (Rl.walk a0 cap0 z0 a1 cap1 z1 W (tx_of hL) w0 m0 o0 y0 c0 w1 m1 o1 y1 c1).mono fun e W' ⟨he, bel⟩ => ?_
 subst he
 exact ⟨_, rfl, _, _, _, [], _, [], hW', trodAll_mk1 (shut_bool Tryd.underlying4 _), (trodAll_cons_mk (Below.trod laidOut (by kernel_rfl) (of_decide_eq_true (by kernel_rfl)) k0 bel lt0) (trodAll_cons_mk (Below.trod laidOut (by kernel_rfl) (of_decide_eq_true (by kernel_rfl)) k1 bel lt1) trodAll_mk0)), rfl, bel.frame _, fun h => by cases h⟩
theorem over : Rows.routeFallsRow.holds Tryd.pinned (OpenSpec.ofChange Rows.routeFallsSpec) :=
 OpenClaim.holds_of_wide 4 Tryd.f4 rfl rfl rfl rfl rfl rfl rfl ⟨rfl, rfl, rfl, rfl, rfl⟩ rfl rfl rfl rfl rfl (by kernel_rfl) Tryd.func4 (by kernel_rfl)
  (of_decide_eq_true (by kernel_rfl)) (by unfold Func.isWrapper; first | (rw [if_pos (by decide +kernel)]; kernel_rfl) | (rw [if_neg (by decide +kernel)]; exact ⟨rfl, rfl⟩))
  (fun os started H enc _ => lifted os started H enc)
theorem proved : Rows.RouteFallsSaid := over
theorem card_holds : Rows.RouteFallsCardSaid :=
 Claim7.holds_tied_plain_at .later [] [.listed, .data] true (true, "f81c87f0e5ddf7e6c3b0ef626dfd58e45cb4eb3dc3ec3ae6ca1a0c5b08df16f6") false
  proved (fun _ h => by cases h) (by kernel_rfl) (fun _ h => by cases h) routeFalls_row_tie rfl ⟨rfl, rfl⟩ (by kernel_rfl) rfl
  (fun f fn hf hfn => by
   obtain rfl : f = 4 := Option.some.inj ((show Tryd.prog.funcNamed "rivulet/rivuletlaw21.RouteFalls" = some 4 by kernel_rfl).symm.trans hf) |>.symm
   obtain rfl : fn = Tryd.f4 := (Option.some.inj (Tryd.func4.symm.trans hfn)).symm
   exact ⟨by kernel_rfl, fun j t ht => by
    rw [Tryd.params4] at ht
    have hm : t ∈ [44, 45] := by simpa using Array.mem_of_getElem? ht
    have hall : ([44, 45].all fun u => !Tryd.prog.wantsStandIn u) = true := by kernel_rfl
    exact (show Tryd.prog.wantsStandIn t = false by simpa using List.all_eq_true.1 hall t hm)⟩)
  (by kernel_rfl)
end Go.Proofs.YtnmlckaeheiodaaDoor.routeFalls
namespace Go.Proofs.YtnmlckaeheiodaaDoor
/-- The tied card, under a short name, for the claim. -/
theorem routeFalls_holds : Rows.RouteFallsCardSaid := routeFalls.card_holds
end Go.Proofs.YtnmlckaeheiodaaDoor
