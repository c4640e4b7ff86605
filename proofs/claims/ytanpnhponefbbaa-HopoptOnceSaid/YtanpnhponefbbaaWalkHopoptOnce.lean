/- Through hops of any ranks an option goes through one inconsistent hop at most: the law's walk, out of the printed contract. No condition. -/
import Derived.Test.YtanpnhponefbbaaPureHopoptOnce
set_option linter.unusedVariables false
namespace Go.Proofs.Ytanpnhponefbbaa.WalkHopoptOnce
open Go.RowKit Go.Proofs.Ytanpnhponefbbaa.PHopoptOnce Go.Proofs.YtanpnhponefbbaaW.PrintWords Go.Proofs.YtanpnhponefbbaaW.PrintLast
theorem walk (a0_0 a0_1 a0_2 : Bool) (a0_3 a0_4 : Int) (a1 : Option Addr) (len1 cap1 : Nat) (z1 : List Int) (a2 : Int) (w : World) (_ : (Lit.int .i64 a0_3).wf = true) (_ : (Lit.int .i64 a0_4).wf = true)
    (w1 : (a1 = none ∧ len1 = 0 ∧ cap1 = 0 ∧ z1 = []) ∨ ∃ x, a1 = some x ∧ len1 ≤ cap1 ∧ cap1 ≤ maxLen ∧ z1.length = cap1 ∧ (∀ i, i < z1.length → w.cell? (x.add i) = some (.int .i64 (z1.getD i 0))) ∧ ∀ n ∈ z1, (Lit.int .i64 n).wf = true)
    (y1 : len1 * 8 ≤ 140737488351232) (_ : (Lit.int .i64 a2).wf = true) :
    Calls Try.prog 3 #[.agg #[.bool a0_0, .bool a0_1, .bool a0_2, .int .i64 a0_3, .int .i64 a0_4], .slice a1 len1 cap1, .int .i64 a2] w fun e w' => e = .returned (.bool true) ∧ Below w.heap.size w w' := by
  obtain ⟨l1, rfl, hr1, hm1, hw1, hc1⟩ := ReadsInt.ofRowC w1
  exact rivuletlaw06_HopoptOnce.calls 200 a0_0 a0_1 a0_2 a0_3 a0_4 _ _ l1 a2 true w (Kd.C_of_reads (d := (0 : Int)) (h1 := fun _ => rfl) hr1) hc1 (PureHopoptOnce.pure a0_0 a0_1 a0_2 a0_3 a0_4 l1 a2 (by omega))
end Go.Proofs.Ytanpnhponefbbaa.WalkHopoptOnce
