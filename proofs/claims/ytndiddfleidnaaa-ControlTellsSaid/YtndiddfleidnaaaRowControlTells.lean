/- The law ControlTells holds for every input: the row of the given statement, out of its walk. No condition. -/
import Derived.Test.YtndiddfleidnaaaRows
import Derived.Test.YtndiddfleidnaaaKdOpen
import Derived.Test.YtndiddfleidnaaaCtt
import Derived.Laws.Cover2
import Derived.WalkKit
import Derived.ProofKit
import Derived.OpenShut
import Derived.ShutString
import Derived.ChangeOld
import Derived.Below
import Derived.SizedLaws
import Derived.ChangeSlices
import Derived.Deep.Slices
import Derived.Deep.Fields
set_option linter.unusedVariables false
set_option linter.unusedSimpArgs false
namespace Go.Proofs.Ytndiddfleidnaaa.controlTells
open Go.ChangeShapes Go.WideShapes Go.ChangeAt Go.RowKit Go.Deep
open Go.ChangeMaps (open_string shut_string)
open Go.Proofs.YtndiddfleidnaaaW.PrintWords Go.Proofs.Ytndiddfleidnaaa.KdOpen
theorem own : ownKnob Try.prog.godebug = none := by kernel_rfl
theorem laidOut : laidOutB Try.prog = true := by kernel_rfl
set_option maxRecDepth 100000 in
theorem lifted (os : Os) (started : os.Started) (H : Type) (enc : TypeId × Value → H) :
    ReturnsInHanded {} Try.checked os 11 .any (Rows.controlTellsSpec.pre6 enc Try.prog Try.f11 Rows.controlTellsRow.domain false) (Rows.controlTellsSpec.post enc Try.prog Try.f11 false true false false) := by
  refine returnsInHanded_of_change_sized (C := Try.checked) own started (by kernel_rfl) Try.func11
    (ChangeSpec.witness6 (enc := enc) (C := Try.checked) false ⟨#[], #[.agg #[.int .i64 0, .int .i64 0, .int .i64 0, .int .i64 0, .int .i64 0, .int .i64 0, .int .i64 0, .int .i64 0, .int .i64 0, .bool false, .bool false, .int .u8 0, .int .u8 0, .int .u8 0, .int .u8 0, .int .u8 0, .int .u8 0, .int .u8 0, .int .u8 0, .int .u8 0, .int .u8 0, .int .u8 0, .int .u8 0, .int .u8 0, .int .u8 0, .int .u8 0, .int .u8 0, .slice none 0 0], .int .i64 0, .int .i64 0], []⟩ 8 (by kernel_rfl) (by kernel_rfl) (by kernel_rfl) (by kernel_rfl)) ?_
  intro W base args ds gs before hval0 hW hcnd hsz0 _
  have hsz : (DataW.weightsEach Try.prog (Try.f11.params.toList ++ Rows.controlTellsSpec.plain.varTypes Try.prog) (ds ++ gs)).all (· ≤ reachBytes) = true := hsz0
  have hval : ∀ (j : Nat) t v, Try.f11.params[j]? = some t → args[j]? = some v → Value.okWide Try.prog W .any base t v := hval0
  have hW' := hW
  obtain ⟨p, q, hA0, hV, rfl, hfz, hnd⟩ := hW
  have hA : DataW.TrodAll enc Try.prog W 0 (fun _ => true) true Try.f11.params.toList args.toList ds p := hA0
  rw [Try.params11] at hA hval hsz
  obtain ⟨v0, vs0, d0, ds0, p0, q0, hargs, rfl, rfl, h0, r0⟩ := trodAll_cons hA
  obtain ⟨v1, vs1, d1, ds1, p1, q1, rfl, rfl, rfl, h1, r1⟩ := trodAll_cons r0
  obtain ⟨v2, vs2, d2, ds2, p2, q2, rfl, rfl, rfl, h2, r2⟩ := trodAll_cons r1
  obtain ⟨rfl, rfl, rfl⟩ := trodAll_nil r2
  obtain rfl : args = #[v0, v1, v2] := by cases args; simp_all
  obtain ⟨rfl, rfl⟩ := trodVars_none hV
  have k0 := h0
  have lt0 : ∀ x ∈ p0, x.block < W.heap.size := by obtain ⟨m, hm⟩ := k0; exact DataW.trod_lt m _ _ _ hm
  obtain ⟨⟨l0⟩, rfl, _⟩ := okWide_struct Try.underlying86 (hval 0 86 v0 rfl rfl)
  obtain ⟨z0, w0, o0⟩ := arg_struct (opens_struct Try.underlying86 (fs_cons rfl (opens_int Try.underlying3 (by kernel_rfl)) (fs_cons rfl (opens_int Try.underlying3 (by kernel_rfl)) (fs_cons rfl (opens_int Try.underlying3 (by kernel_rfl)) (fs_cons rfl (opens_int Try.underlying3 (by kernel_rfl)) (fs_cons rfl (opens_int Try.underlying3 (by kernel_rfl)) (fs_cons rfl (opens_int Try.underlying3 (by kernel_rfl)) (fs_cons rfl (opens_int Try.underlying3 (by kernel_rfl)) (fs_cons rfl (opens_int Try.underlying3 (by kernel_rfl)) (fs_cons rfl (opens_int Try.underlying3 (by kernel_rfl)) (fs_cons rfl (opens_bool Try.underlying4 (by kernel_rfl)) (fs_cons rfl (opens_bool Try.underlying4 (by kernel_rfl)) (fs_cons rfl (opens_array (by decide) Try.underlying22 (by kernel_rfl) (opens_int Try.underlying5 (by kernel_rfl))) (fs_one rfl (opens_slice Try.underlying57 (by kernel_rfl) (opens_struct Try.underlying80 (fs_cons rfl (opens_int Try.underlying3 (by kernel_rfl)) (fs_cons rfl (opens_slice Try.underlying62 (by kernel_rfl) (opens_int Try.underlying3 (by kernel_rfl)) 3) (fs_cons rfl (opens_array (by decide) Try.underlying22 (by kernel_rfl) (opens_int Try.underlying5 (by kernel_rfl))) (fs_one rfl (opens_slice Try.underlying36 (by kernel_rfl) (opens_int Try.underlying5 (by kernel_rfl)) 5))))) (by kernel_rfl)) 80)))))))))))))) (by kernel_rfl)) h0
  obtain ⟨a1, rfl, rfl, rfl, w1⟩ := open_int Try.underlying3 (hval 1 3 v1 rfl rfl) h1
  obtain ⟨a2, rfl, rfl, rfl, w2⟩ := open_int Try.underlying3 (hval 2 3 v2 rfl rfl) h2
  clear hA0 hval0 hsz0 hsz
  refine (CT.walk l0 z0 a1 a2 W w0 o0 w1 w2).mono fun e W' ⟨he, bel⟩ => ?_
  subst he
  exact ⟨_, rfl, _, _, _, [], _, [], hW', trodAll_mk1 (shut_bool Try.underlying4 _), (trodAll_cons_mk (Below.trod laidOut (by kernel_rfl) (of_decide_eq_true (by kernel_rfl)) k0 bel lt0) (trodAll_cons_mk (shut_int Try.underlying3 w1) (trodAll_cons_mk (shut_int Try.underlying3 w2) trodAll_mk0))), rfl, bel.frame _, fun h => by cases h⟩
theorem over : Rows.controlTellsRow.holds Try.pinned (OpenSpec.ofChange Rows.controlTellsSpec) :=
  OpenClaim.holds_of_wide 11 Try.f11 rfl rfl rfl rfl rfl rfl rfl ⟨rfl, rfl, rfl, rfl, rfl⟩ rfl rfl rfl rfl rfl (by kernel_rfl) Try.func11 (by kernel_rfl)
    (of_decide_eq_true (by kernel_rfl)) (by unfold Func.isWrapper; first | (rw [if_pos (by decide +kernel)]; kernel_rfl) | (rw [if_neg (by decide +kernel)]; exact ⟨rfl, rfl⟩))
    (fun os started H enc _ => lifted os started H enc)
theorem proved : Rows.ControlTellsSaid := over
end Go.Proofs.Ytndiddfleidnaaa.controlTells
namespace Go.Proofs.Ytndiddfleidnaaa
/-- The row, under a short name, for the claim. -/
theorem controlTells_holds : Rows.ControlTellsSaid := controlTells.proved
end Go.Proofs.Ytndiddfleidnaaa
