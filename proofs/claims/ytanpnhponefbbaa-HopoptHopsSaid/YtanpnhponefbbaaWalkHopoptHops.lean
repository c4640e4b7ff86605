/- Whether any hop is consistent, and how any option goes on: the law's walk, out of the printed contract. No condition. -/
import Derived.Test.YtanpnhponefbbaaPureHopoptHops
set_option linter.unusedVariables false
namespace Go.Proofs.Ytanpnhponefbbaa.WalkHopoptHops
open Go.RowKit Go.Proofs.Ytanpnhponefbbaa.PHopoptHops Go.Proofs.YtanpnhponefbbaaW.PrintWords Go.Proofs.YtanpnhponefbbaaW.PrintLast
theorem walk (a0_0 a0_1 a0_2 : Bool) (a0_3 a0_4 a1 a2 : Int) (a3 : Bool) (w : World) (_ : (Lit.int .i64 a0_3).wf = true) (_ : (Lit.int .i64 a0_4).wf = true) (_ : (Lit.int .i64 a1).wf = true) (_ : (Lit.int .i64 a2).wf = true) :
    Calls Try.prog 4 #[.agg #[.bool a0_0, .bool a0_1, .bool a0_2, .int .i64 a0_3, .int .i64 a0_4], .int .i64 a1, .int .i64 a2, .bool a3] w fun e w' => e = .returned (.bool true) ∧ Below w.heap.size w w' :=
  rivuletlaw06_HopoptHops.calls 25 a0_0 a0_1 a0_2 a0_3 a0_4 a1 a2 a3 true w (PureHopoptHops.pure a0_0 a0_1 a0_2 a0_3 a0_4 a1 a2 a3)
end Go.Proofs.Ytanpnhponefbbaa.WalkHopoptHops
