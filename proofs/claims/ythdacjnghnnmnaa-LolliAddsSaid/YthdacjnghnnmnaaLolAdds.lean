/- So many steps on, and then so many more, are all of them on: the law's walk. No condition. -/
import Derived.Test.YthdacjnghnnmnaaLolStep
set_option linter.unusedVariables false
set_option linter.unusedSimpArgs false
namespace Go.Proofs.Ythdacjnghnnmnaa.LolliAdds
open Go.RowKit Go.Proofs.YthdacjnghnnmnaaW.PrintWords Go.Proofs.Ythdacjnghnnmnaa.Lol
theorem mod_bd (x M : Int) (h0 : 0 < M) (h1 : M ≤ 1000000) : 0 ≤ wrap64 ((IntKind.u64.wrap x).tmod M) ∧ wrap64 ((IntKind.u64.wrap x).tmod M) ≤ M - 1 := by
  have h2 : 0 ≤ IntKind.u64.wrap x := by rw [IntKind.wrap_u64]; omega
  rw [Int.tmod_eq_emod_of_nonneg h2]
  have h3 := Int.emod_nonneg (IntKind.u64.wrap x) (show M ≠ 0 by omega)
  have h4 := Int.emod_lt_of_pos (IntKind.u64.wrap x) h0
  unfold wrap64
  omega
theorem walk (a n m : Int) (w : World) (_ : (Lit.int .i64 a).wf = true) (_ : (Lit.int .i64 n).wf = true) (_ : (Lit.int .i64 m).wf = true) :
    Calls Try.prog 7 #[.int .i64 a, .int .i64 n, .int .i64 m] w fun e w' => e = .returned (.bool true) ∧ Below w.heap.size w w' := by
  go_enter Try.func7, Try.ntmps7
  go_wp2_with fail
  have bA := mod_bd a 256 (by omega) (by omega)
  generalize wrap64 ((IntKind.u64.wrap a).tmod 256) = A at bA ⊢
  obtain ⟨bA0, bA1⟩ := bA
  have bB := mod_bd n 100000 (by omega) (by omega)
  generalize wrap64 ((IntKind.u64.wrap n).tmod 100000) = B at bB ⊢
  obtain ⟨bB0, bB1⟩ := bB
  have bC := mod_bd m 100000 (by omega) (by omega)
  generalize wrap64 ((IntKind.u64.wrap m).tmod 100000) = C at bC ⊢
  obtain ⟨bC0, bC1⟩ := bC
  have hs := (next_stepsF A B ⟨bA0, by omega⟩ bB0).2
  have hadd := steps_adds A B C ⟨bA0, by omega⟩ bB0 bC0
  generalize hD : stepsF A B = D at hs hadd
  generalize hE : stepsF D C = E at hadd
  have S1 := Lib.hid (fun W => Steps_ok A B D ⟨bA0, by omega⟩ ⟨bB0, by omega⟩ hD W)
  have S2 := Lib.hid (fun W => Steps_ok D C E hs ⟨bC0, by omega⟩ hE W)
  have S3 := Lib.hid (fun W => Steps_ok A (B + C) E ⟨bA0, by omega⟩ ⟨by omega, by omega⟩ hadd.symm W)
  clear hadd hD hE
  go_wp2_with fail
  refine (S1.out _).mono ?_
  rintro e w1 ⟨rfl, hw1⟩
  go_wp2_with fail
  refine (S2.out _).mono ?_
  rintro e w2 ⟨rfl, hw2⟩
  go_wp2_with fail
  refine (S3.out _).mono ?_
  rintro e w3 ⟨rfl, hw3⟩
  go_wp2_with fail
  refine (known_any _).mono ?_
  rintro e w4 ⟨rfl, hw4⟩
  go_wp2_with fail
  go_ret
  exact ⟨rfl, by repeat (first | exact Below.refl _ _ | (refine bel ?_ (below_new _ _)) | (apply bel; rotate_left; assumption))⟩
end Go.Proofs.Ythdacjnghnnmnaa.LolliAdds
