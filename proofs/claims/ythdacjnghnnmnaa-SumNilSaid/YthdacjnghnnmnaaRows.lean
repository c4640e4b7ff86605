/-
  No cell of these rows narrows 'for every input' (looked for: loops, veiled, ifaces, maps, wideKeys, modest, calm, conditions, laid).
  DERIVED. THE GIVEN ROWS OF THIS SEAT. 12 by the template 'for every input the law returns true; each argument reads behind the call as it read before'; 0 by the template 'total and deterministic' (their statements: YthdacjnghnnmnaaTotals.lean).
  GIVEN WITH THE SEED: the statements are not yours to turn. If you find one false, say at which input.
  Laid BY PROGRAM, IN A SANDBOX (cutbox-rows.mjs): the forced cells as the released guide's own fill.sh prints them over the translation ff7fccf3b638e063… (all of the seat's roots in one cut). By AI agents, Wed Nov 11 2026. No macro, syntax, notation, axiom, sorry.
-/
import Derived.Test.YthdacjnghnnmnaaChecked
import GoSem.Claim
import GoSem.ClaimJoined
import GoSem.ClaimMapViews
import Derived.JoinedTies
import Derived.KernelRfl
namespace Go.Proofs.Ythdacjnghnnmnaa
/- THE CELL 'sum', in the pinned program and in every row, IS THE sha256 OF THE DUMP (.gsa) THAT YthdacjnghnnmnaaProg.lean LOADS. Nothing in Lean hashes anything: it is a label: what it is worth is what the hold of that sum in a sandbox is worth. -/
noncomputable def Try.pinned : Pinned := { name := "ythdacjnghnnmnaa", sum := "ff7fccf3b638e0635fc81d196ce0a248de8b4adda55618e61f9989b2a70cf8d1", checked := Try.checked }
namespace Rows
def none {H : Type} : Left H := { results := [], args := [] }

/-- 'rivuletlaw04.SumAdds': WHATEVER THE INPUT: true; the input reads as it did. -/
def sumAddsSpec : ChangeSpec := { name := "sumAdds", fn := fun _ => fun
  | [d] => { results := [.lit (.bool true)], args := [d] }
  | _ => none }
def sumAddsRow : OpenClaim := { program := "ythdacjnghnnmnaa", sum := "ff7fccf3b638e0635fc81d196ce0a248de8b4adda55618e61f9989b2a70cf8d1", func := "rivulet/rivuletlaw04.SumAdds", spec := "sumAdds", apart := false }
def SumAddsSaid : Prop := sumAddsRow.holds Try.pinned (OpenSpec.ofChange sumAddsSpec)

/-- ITS FALSE NEIGHBOUR: 'it returns false'. Refute it at one input. -/
def sumAddsWrong : ChangeSpec := { name := "sumAdds", fn := fun _ => fun
  | [d] => { results := [.lit (.bool false)], args := [d] }
  | _ => none }
def SumAddsWrongFalsely : Prop := sumAddsRow.holds Try.pinned (OpenSpec.ofChange sumAddsWrong)

/-- 'rivuletlaw04.SumTells': WHATEVER THE INPUT: true; the input reads as it did. -/
def sumTellsSpec : ChangeSpec := { name := "sumTells", fn := fun _ => fun
  | [d1, d2, d3, d4] => { results := [.lit (.bool true)], args := [d1, d2, d3, d4] }
  | _ => none }
def sumTellsRow : OpenClaim := { program := "ythdacjnghnnmnaa", sum := "ff7fccf3b638e0635fc81d196ce0a248de8b4adda55618e61f9989b2a70cf8d1", func := "rivulet/rivuletlaw04.SumTells", spec := "sumTells", apart := false }
def SumTellsSaid : Prop := sumTellsRow.holds Try.pinned (OpenSpec.ofChange sumTellsSpec)

/-- ITS FALSE NEIGHBOUR: 'it returns false'. Refute it at one input. -/
def sumTellsWrong : ChangeSpec := { name := "sumTells", fn := fun _ => fun
  | [d1, d2, d3, d4] => { results := [.lit (.bool false)], args := [d1, d2, d3, d4] }
  | _ => none }
def SumTellsWrongFalsely : Prop := sumTellsRow.holds Try.pinned (OpenSpec.ofChange sumTellsWrong)

/-- 'rivuletlaw04.SumNil': WHATEVER THE INPUT: true; the input reads as it did. -/
def sumNilSpec : ChangeSpec := { name := "sumNil", fn := fun _ => fun
  | [d] => { results := [.lit (.bool true)], args := [d] }
  | _ => none }
def sumNilRow : OpenClaim := { program := "ythdacjnghnnmnaa", sum := "ff7fccf3b638e0635fc81d196ce0a248de8b4adda55618e61f9989b2a70cf8d1", func := "rivulet/rivuletlaw04.SumNil", spec := "sumNil", apart := false }
def SumNilSaid : Prop := sumNilRow.holds Try.pinned (OpenSpec.ofChange sumNilSpec)

/-- ITS FALSE NEIGHBOUR: 'it returns false'. Refute it at one input. -/
def sumNilWrong : ChangeSpec := { name := "sumNil", fn := fun _ => fun
  | [d] => { results := [.lit (.bool false)], args := [d] }
  | _ => none }
def SumNilWrongFalsely : Prop := sumNilRow.holds Try.pinned (OpenSpec.ofChange sumNilWrong)

/-- 'rivuletlaw01.LolliCompares': WHATEVER THE INPUT: true; the input reads as it did. -/
def lolliComparesSpec : ChangeSpec := { name := "lolliCompares", fn := fun _ => fun
  | [d1, d2] => { results := [.lit (.bool true)], args := [d1, d2] }
  | _ => none }
def lolliComparesRow : OpenClaim := { program := "ythdacjnghnnmnaa", sum := "ff7fccf3b638e0635fc81d196ce0a248de8b4adda55618e61f9989b2a70cf8d1", func := "rivulet/rivuletlaw01.LolliCompares", spec := "lolliCompares", unfollowed := true, recurses := true, apart := false }
def LolliComparesSaid : Prop := lolliComparesRow.holds Try.pinned (OpenSpec.ofChange lolliComparesSpec)

/-- ITS FALSE NEIGHBOUR: 'it returns false'. Refute it at one input. -/
def lolliComparesWrong : ChangeSpec := { name := "lolliCompares", fn := fun _ => fun
  | [d1, d2] => { results := [.lit (.bool false)], args := [d1, d2] }
  | _ => none }
def LolliComparesWrongFalsely : Prop := lolliComparesRow.holds Try.pinned (OpenSpec.ofChange lolliComparesWrong)

/-- 'rivuletlaw01.LolliAdds': WHATEVER THE INPUT: true; the input reads as it did. -/
def lolliAddsSpec : ChangeSpec := { name := "lolliAdds", fn := fun _ => fun
  | [d1, d2, d3] => { results := [.lit (.bool true)], args := [d1, d2, d3] }
  | _ => none }
def lolliAddsRow : OpenClaim := { program := "ythdacjnghnnmnaa", sum := "ff7fccf3b638e0635fc81d196ce0a248de8b4adda55618e61f9989b2a70cf8d1", func := "rivulet/rivuletlaw01.LolliAdds", spec := "lolliAdds", unfollowed := true, recurses := true, apart := false }
def LolliAddsSaid : Prop := lolliAddsRow.holds Try.pinned (OpenSpec.ofChange lolliAddsSpec)

/-- ITS FALSE NEIGHBOUR: 'it returns false'. Refute it at one input. -/
def lolliAddsWrong : ChangeSpec := { name := "lolliAdds", fn := fun _ => fun
  | [d1, d2, d3] => { results := [.lit (.bool false)], args := [d1, d2, d3] }
  | _ => none }
def LolliAddsWrongFalsely : Prop := lolliAddsRow.holds Try.pinned (OpenSpec.ofChange lolliAddsWrong)

/-- 'rivuletlaw01.LolliWindow': WHATEVER THE INPUT: true; the input reads as it did. -/
def lolliWindowSpec : ChangeSpec := { name := "lolliWindow", fn := fun _ => fun
  | [d1, d2] => { results := [.lit (.bool true)], args := [d1, d2] }
  | _ => none }
def lolliWindowRow : OpenClaim := { program := "ythdacjnghnnmnaa", sum := "ff7fccf3b638e0635fc81d196ce0a248de8b4adda55618e61f9989b2a70cf8d1", func := "rivulet/rivuletlaw01.LolliWindow", spec := "lolliWindow", unfollowed := true, recurses := true, apart := false }
def LolliWindowSaid : Prop := lolliWindowRow.holds Try.pinned (OpenSpec.ofChange lolliWindowSpec)

/-- ITS FALSE NEIGHBOUR: 'it returns false'. Refute it at one input. -/
def lolliWindowWrong : ChangeSpec := { name := "lolliWindow", fn := fun _ => fun
  | [d1, d2] => { results := [.lit (.bool false)], args := [d1, d2] }
  | _ => none }
def LolliWindowWrongFalsely : Prop := lolliWindowRow.holds Try.pinned (OpenSpec.ofChange lolliWindowWrong)

/-- 'rivuletlaw01.LolliNewest': WHATEVER THE INPUT: true; the input reads as it did. -/
def lolliNewestSpec : ChangeSpec := { name := "lolliNewest", fn := fun _ => fun
  | [d] => { results := [.lit (.bool true)], args := [d] }
  | _ => none }
def lolliNewestRow : OpenClaim := { program := "ythdacjnghnnmnaa", sum := "ff7fccf3b638e0635fc81d196ce0a248de8b4adda55618e61f9989b2a70cf8d1", func := "rivulet/rivuletlaw01.LolliNewest", spec := "lolliNewest", unfollowed := true, recurses := true, apart := false }
def LolliNewestSaid : Prop := lolliNewestRow.holds Try.pinned (OpenSpec.ofChange lolliNewestSpec)

/-- ITS FALSE NEIGHBOUR: 'it returns false'. Refute it at one input. -/
def lolliNewestWrong : ChangeSpec := { name := "lolliNewest", fn := fun _ => fun
  | [d] => { results := [.lit (.bool false)], args := [d] }
  | _ => none }
def LolliNewestWrongFalsely : Prop := lolliNewestRow.holds Try.pinned (OpenSpec.ofChange lolliNewestWrong)

/-- 'rivuletlaw01.LolliSteps': WHATEVER THE INPUT: true; the input reads as it did. -/
def lolliStepsSpec : ChangeSpec := { name := "lolliSteps", fn := fun _ => fun
  | [d1, d2] => { results := [.lit (.bool true)], args := [d1, d2] }
  | _ => none }
def lolliStepsRow : OpenClaim := { program := "ythdacjnghnnmnaa", sum := "ff7fccf3b638e0635fc81d196ce0a248de8b4adda55618e61f9989b2a70cf8d1", func := "rivulet/rivuletlaw01.LolliSteps", spec := "lolliSteps", unfollowed := true, recurses := true, apart := false }
def LolliStepsSaid : Prop := lolliStepsRow.holds Try.pinned (OpenSpec.ofChange lolliStepsSpec)

/-- ITS FALSE NEIGHBOUR: 'it returns false'. Refute it at one input. -/
def lolliStepsWrong : ChangeSpec := { name := "lolliSteps", fn := fun _ => fun
  | [d1, d2] => { results := [.lit (.bool false)], args := [d1, d2] }
  | _ => none }
def LolliStepsWrongFalsely : Prop := lolliStepsRow.holds Try.pinned (OpenSpec.ofChange lolliStepsWrong)

/-- 'rivuletlaw12.RankAdds': WHATEVER THE INPUT: true; the input reads as it did. -/
def rankAddsSpec : ChangeSpec := { name := "rankAdds", fn := fun _ => fun
  | [d1, d2] => { results := [.lit (.bool true)], args := [d1, d2] }
  | _ => none }
def rankAddsRow : OpenClaim := { program := "ythdacjnghnnmnaa", sum := "ff7fccf3b638e0635fc81d196ce0a248de8b4adda55618e61f9989b2a70cf8d1", func := "rivulet/rivuletlaw12.RankAdds", spec := "rankAdds", apart := false }
def RankAddsSaid : Prop := rankAddsRow.holds Try.pinned (OpenSpec.ofChange rankAddsSpec)

/-- ITS FALSE NEIGHBOUR: 'it returns false'. Refute it at one input. -/
def rankAddsWrong : ChangeSpec := { name := "rankAdds", fn := fun _ => fun
  | [d1, d2] => { results := [.lit (.bool false)], args := [d1, d2] }
  | _ => none }
def RankAddsWrongFalsely : Prop := rankAddsRow.holds Try.pinned (OpenSpec.ofChange rankAddsWrong)

/-- 'rivuletlaw12.RankLimits': WHATEVER THE INPUT: true; the input reads as it did. -/
def rankLimitsSpec : ChangeSpec := { name := "rankLimits", fn := fun _ => fun
  | [d1, d2, d3] => { results := [.lit (.bool true)], args := [d1, d2, d3] }
  | _ => none }
def rankLimitsRow : OpenClaim := { program := "ythdacjnghnnmnaa", sum := "ff7fccf3b638e0635fc81d196ce0a248de8b4adda55618e61f9989b2a70cf8d1", func := "rivulet/rivuletlaw12.RankLimits", spec := "rankLimits", apart := false }
def RankLimitsSaid : Prop := rankLimitsRow.holds Try.pinned (OpenSpec.ofChange rankLimitsSpec)

/-- ITS FALSE NEIGHBOUR: 'it returns false'. Refute it at one input. -/
def rankLimitsWrong : ChangeSpec := { name := "rankLimits", fn := fun _ => fun
  | [d1, d2, d3] => { results := [.lit (.bool false)], args := [d1, d2, d3] }
  | _ => none }
def RankLimitsWrongFalsely : Prop := rankLimitsRow.holds Try.pinned (OpenSpec.ofChange rankLimitsWrong)

/-- 'rivuletlaw12.RankAssociates': WHATEVER THE INPUT: true; the input reads as it did. -/
def rankAssociatesSpec : ChangeSpec := { name := "rankAssociates", fn := fun _ => fun
  | [d1, d2, d3] => { results := [.lit (.bool true)], args := [d1, d2, d3] }
  | _ => none }
def rankAssociatesRow : OpenClaim := { program := "ythdacjnghnnmnaa", sum := "ff7fccf3b638e0635fc81d196ce0a248de8b4adda55618e61f9989b2a70cf8d1", func := "rivulet/rivuletlaw12.RankAssociates", spec := "rankAssociates", apart := false }
def RankAssociatesSaid : Prop := rankAssociatesRow.holds Try.pinned (OpenSpec.ofChange rankAssociatesSpec)

/-- ITS FALSE NEIGHBOUR: 'it returns false'. Refute it at one input. -/
def rankAssociatesWrong : ChangeSpec := { name := "rankAssociates", fn := fun _ => fun
  | [d1, d2, d3] => { results := [.lit (.bool false)], args := [d1, d2, d3] }
  | _ => none }
def RankAssociatesWrongFalsely : Prop := rankAssociatesRow.holds Try.pinned (OpenSpec.ofChange rankAssociatesWrong)

/-- 'rivuletlaw12.RankBest': WHATEVER THE INPUT: true; the input reads as it did. -/
def rankBestSpec : ChangeSpec := { name := "rankBest", fn := fun _ => fun
  | [d1, d2] => { results := [.lit (.bool true)], args := [d1, d2] }
  | _ => none }
def rankBestRow : OpenClaim := { program := "ythdacjnghnnmnaa", sum := "ff7fccf3b638e0635fc81d196ce0a248de8b4adda55618e61f9989b2a70cf8d1", func := "rivulet/rivuletlaw12.RankBest", spec := "rankBest", apart := false }
def RankBestSaid : Prop := rankBestRow.holds Try.pinned (OpenSpec.ofChange rankBestSpec)

/-- ITS FALSE NEIGHBOUR: 'it returns false'. Refute it at one input. -/
def rankBestWrong : ChangeSpec := { name := "rankBest", fn := fun _ => fun
  | [d1, d2] => { results := [.lit (.bool false)], args := [d1, d2] }
  | _ => none }
def RankBestWrongFalsely : Prop := rankBestRow.holds Try.pinned (OpenSpec.ofChange rankBestWrong)

/- THE SECOND FORM. 'bulk': how many values and letters a reading holds, each counted each time it is reached (what is shared counts as often as it is met; a slice's spare places count too). A statement '..UptoSaid' is the law's where the arguments, and the package variables that the reading takes, are together of bulk at most 1048576: NARROWER than '..Said'. Prove '..Said' where nothing that the law and all that it calls make is longer than what came in: it says more and counts as full. Else prove '..UptoSaid'. A law counts once. -/
mutual
def uptoBulk {H : Type} : DataW H → Nat
  | .lit (.string bytes) => bytes.length + 1
  | .lit _ => 1
  | .nil => 1
  | .ptr d => uptoBulk d + 1
  | .slice elems spare => uptoBulkAll elems + uptoBulkAll spare + 1
  | .agg parts => uptoBulkAll parts + 1
  | .iface _ d => uptoBulk d + 1
  | .map entries => uptoBulkEntries entries + 1
  | .held _ => 1
def uptoBulkAll {H : Type} : List (DataW H) → Nat
  | [] => 0
  | d :: r => uptoBulk d + uptoBulkAll r
def uptoBulkEntries {H : Type} : List (Lit × DataW H) → Nat
  | [] => 0
  | x :: r => uptoBulkEntry x + uptoBulkEntries r
def uptoBulkEntry {H : Type} : Lit × DataW H → Nat
  | (.string bytes, d) => bytes.length + uptoBulk d + 1
  | (_, d) => uptoBulk d + 1
 end
def uptoSmall : (H : Type) → List (DataW H) → Bool := fun _ ds => decide (uptoBulkAll ds ≤ 1048576)
def OpenSpec.upto (s : _root_.Go.ChangeSpec) : _root_.Go.OpenSpec := { _root_.Go.OpenSpec.ofChange s with cond := some uptoSmall }

/-- 'rivuletlaw04.SumAdds', WHERE WHAT IT READS IS OF BULK AT MOST 1048576: true; the input reads as it did. -/
def sumAddsUptoRow : OpenClaim := { program := "ythdacjnghnnmnaa", sum := "ff7fccf3b638e0635fc81d196ce0a248de8b4adda55618e61f9989b2a70cf8d1", func := "rivulet/rivuletlaw04.SumAdds", spec := "sumAdds", apart := false, narrowed := true }
def SumAddsUptoSaid : Prop := sumAddsUptoRow.holds Try.pinned (OpenSpec.upto sumAddsSpec)

/-- 'rivuletlaw04.SumTells', WHERE WHAT IT READS IS OF BULK AT MOST 1048576: true; the input reads as it did. -/
def sumTellsUptoRow : OpenClaim := { program := "ythdacjnghnnmnaa", sum := "ff7fccf3b638e0635fc81d196ce0a248de8b4adda55618e61f9989b2a70cf8d1", func := "rivulet/rivuletlaw04.SumTells", spec := "sumTells", apart := false, narrowed := true }
def SumTellsUptoSaid : Prop := sumTellsUptoRow.holds Try.pinned (OpenSpec.upto sumTellsSpec)

/-- 'rivuletlaw04.SumNil', WHERE WHAT IT READS IS OF BULK AT MOST 1048576: true; the input reads as it did. -/
def sumNilUptoRow : OpenClaim := { program := "ythdacjnghnnmnaa", sum := "ff7fccf3b638e0635fc81d196ce0a248de8b4adda55618e61f9989b2a70cf8d1", func := "rivulet/rivuletlaw04.SumNil", spec := "sumNil", apart := false, narrowed := true }
def SumNilUptoSaid : Prop := sumNilUptoRow.holds Try.pinned (OpenSpec.upto sumNilSpec)

/-- 'rivuletlaw01.LolliCompares', WHERE WHAT IT READS IS OF BULK AT MOST 1048576: true; the input reads as it did. -/
def lolliComparesUptoRow : OpenClaim := { program := "ythdacjnghnnmnaa", sum := "ff7fccf3b638e0635fc81d196ce0a248de8b4adda55618e61f9989b2a70cf8d1", func := "rivulet/rivuletlaw01.LolliCompares", spec := "lolliCompares", unfollowed := true, recurses := true, apart := false, narrowed := true }
def LolliComparesUptoSaid : Prop := lolliComparesUptoRow.holds Try.pinned (OpenSpec.upto lolliComparesSpec)

/-- 'rivuletlaw01.LolliAdds', WHERE WHAT IT READS IS OF BULK AT MOST 1048576: true; the input reads as it did. -/
def lolliAddsUptoRow : OpenClaim := { program := "ythdacjnghnnmnaa", sum := "ff7fccf3b638e0635fc81d196ce0a248de8b4adda55618e61f9989b2a70cf8d1", func := "rivulet/rivuletlaw01.LolliAdds", spec := "lolliAdds", unfollowed := true, recurses := true, apart := false, narrowed := true }
def LolliAddsUptoSaid : Prop := lolliAddsUptoRow.holds Try.pinned (OpenSpec.upto lolliAddsSpec)

/-- 'rivuletlaw01.LolliWindow', WHERE WHAT IT READS IS OF BULK AT MOST 1048576: true; the input reads as it did. -/
def lolliWindowUptoRow : OpenClaim := { program := "ythdacjnghnnmnaa", sum := "ff7fccf3b638e0635fc81d196ce0a248de8b4adda55618e61f9989b2a70cf8d1", func := "rivulet/rivuletlaw01.LolliWindow", spec := "lolliWindow", unfollowed := true, recurses := true, apart := false, narrowed := true }
def LolliWindowUptoSaid : Prop := lolliWindowUptoRow.holds Try.pinned (OpenSpec.upto lolliWindowSpec)

/-- 'rivuletlaw01.LolliNewest', WHERE WHAT IT READS IS OF BULK AT MOST 1048576: true; the input reads as it did. -/
def lolliNewestUptoRow : OpenClaim := { program := "ythdacjnghnnmnaa", sum := "ff7fccf3b638e0635fc81d196ce0a248de8b4adda55618e61f9989b2a70cf8d1", func := "rivulet/rivuletlaw01.LolliNewest", spec := "lolliNewest", unfollowed := true, recurses := true, apart := false, narrowed := true }
def LolliNewestUptoSaid : Prop := lolliNewestUptoRow.holds Try.pinned (OpenSpec.upto lolliNewestSpec)

/-- 'rivuletlaw01.LolliSteps', WHERE WHAT IT READS IS OF BULK AT MOST 1048576: true; the input reads as it did. -/
def lolliStepsUptoRow : OpenClaim := { program := "ythdacjnghnnmnaa", sum := "ff7fccf3b638e0635fc81d196ce0a248de8b4adda55618e61f9989b2a70cf8d1", func := "rivulet/rivuletlaw01.LolliSteps", spec := "lolliSteps", unfollowed := true, recurses := true, apart := false, narrowed := true }
def LolliStepsUptoSaid : Prop := lolliStepsUptoRow.holds Try.pinned (OpenSpec.upto lolliStepsSpec)

/-- 'rivuletlaw12.RankAdds', WHERE WHAT IT READS IS OF BULK AT MOST 1048576: true; the input reads as it did. -/
def rankAddsUptoRow : OpenClaim := { program := "ythdacjnghnnmnaa", sum := "ff7fccf3b638e0635fc81d196ce0a248de8b4adda55618e61f9989b2a70cf8d1", func := "rivulet/rivuletlaw12.RankAdds", spec := "rankAdds", apart := false, narrowed := true }
def RankAddsUptoSaid : Prop := rankAddsUptoRow.holds Try.pinned (OpenSpec.upto rankAddsSpec)

/-- 'rivuletlaw12.RankLimits', WHERE WHAT IT READS IS OF BULK AT MOST 1048576: true; the input reads as it did. -/
def rankLimitsUptoRow : OpenClaim := { program := "ythdacjnghnnmnaa", sum := "ff7fccf3b638e0635fc81d196ce0a248de8b4adda55618e61f9989b2a70cf8d1", func := "rivulet/rivuletlaw12.RankLimits", spec := "rankLimits", apart := false, narrowed := true }
def RankLimitsUptoSaid : Prop := rankLimitsUptoRow.holds Try.pinned (OpenSpec.upto rankLimitsSpec)

/-- 'rivuletlaw12.RankAssociates', WHERE WHAT IT READS IS OF BULK AT MOST 1048576: true; the input reads as it did. -/
def rankAssociatesUptoRow : OpenClaim := { program := "ythdacjnghnnmnaa", sum := "ff7fccf3b638e0635fc81d196ce0a248de8b4adda55618e61f9989b2a70cf8d1", func := "rivulet/rivuletlaw12.RankAssociates", spec := "rankAssociates", apart := false, narrowed := true }
def RankAssociatesUptoSaid : Prop := rankAssociatesUptoRow.holds Try.pinned (OpenSpec.upto rankAssociatesSpec)

/-- 'rivuletlaw12.RankBest', WHERE WHAT IT READS IS OF BULK AT MOST 1048576: true; the input reads as it did. -/
def rankBestUptoRow : OpenClaim := { program := "ythdacjnghnnmnaa", sum := "ff7fccf3b638e0635fc81d196ce0a248de8b4adda55618e61f9989b2a70cf8d1", func := "rivulet/rivuletlaw12.RankBest", spec := "rankBest", apart := false, narrowed := true }
def RankBestUptoSaid : Prop := rankBestUptoRow.holds Try.pinned (OpenSpec.upto rankBestSpec)

end Rows
end Go.Proofs.Ythdacjnghnnmnaa
