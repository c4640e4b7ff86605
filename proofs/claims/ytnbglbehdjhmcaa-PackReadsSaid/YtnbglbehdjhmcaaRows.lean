/-
  No cell of these rows narrows 'for every input' (looked for: loops, veiled, ifaces, maps, wideKeys, modest, calm, conditions, laid).
  DERIVED. THE GIVEN ROWS OF THIS SEAT. 12 by the template 'for every input the law returns true; each argument reads behind the call as it read before'; 0 by the template 'total and deterministic' (their statements: YtnbglbehdjhmcaaTotals.lean).
  GIVEN WITH THE SEED: the statements are not yours to turn. If you find one false, say at which input.
  Laid BY PROGRAM, IN A SANDBOX (cutbox-rows.mjs): the forced cells as the released guide's own fill.sh prints them over the translation 3c80754af067c3c6… (all of the seat's roots in one cut). By AI agents, Wed Nov 11 2026. No macro, syntax, notation, axiom, sorry.
-/
import Derived.Test.YtnbglbehdjhmcaaChecked
import GoSem.Claim
import GoSem.ClaimJoined
import GoSem.ClaimMapViews
import Derived.JoinedTies
import Derived.KernelRfl
namespace Go.Proofs.Ytnbglbehdjhmcaa
/- THE CELL 'sum', in the pinned program and in every row, IS THE sha256 OF THE DUMP (.gsa) THAT YtnbglbehdjhmcaaProg.lean LOADS. Nothing in Lean hashes anything: it is a label: what it is worth is what the hold of that sum in a sandbox is worth. -/
noncomputable def Try.pinned : Pinned := { name := "ytnbglbehdjhmcaa", sum := "3c80754af067c3c6d933748e9080eddd7b5c5dc6c4d38a1b8fcc2fd10ff7eb23", checked := Try.checked }
namespace Rows
def none {H : Type} : Left H := { results := [], args := [] }

/-- 'rivuletlaw02.PackNil': WHATEVER THE INPUT: true; the input reads as it did. -/
def packNilSpec : ChangeSpec := { name := "packNil", fn := fun _ => fun
  | [d1, d2] => { results := [.lit (.bool true)], args := [d1, d2] }
  | _ => none }
def packNilRow : OpenClaim := { program := "ytnbglbehdjhmcaa", sum := "3c80754af067c3c6d933748e9080eddd7b5c5dc6c4d38a1b8fcc2fd10ff7eb23", func := "rivulet/rivuletlaw02.PackNil", spec := "packNil", plainKeys := false, apart := false }
def PackNilSaid : Prop := packNilRow.holds Try.pinned (OpenSpec.ofChange packNilSpec)

/-- ITS FALSE NEIGHBOUR: 'it returns false'. Refute it at one input. -/
def packNilWrong : ChangeSpec := { name := "packNil", fn := fun _ => fun
  | [d1, d2] => { results := [.lit (.bool false)], args := [d1, d2] }
  | _ => none }
def PackNilWrongFalsely : Prop := packNilRow.holds Try.pinned (OpenSpec.ofChange packNilWrong)

/-- 'rivuletlaw02.PackJoins': WHATEVER THE INPUT: true; the input reads as it did. -/
def packJoinsSpec : ChangeSpec := { name := "packJoins", fn := fun _ => fun
  | [d1, d2, d3] => { results := [.lit (.bool true)], args := [d1, d2, d3] }
  | _ => none }
def packJoinsRow : OpenClaim := { program := "ytnbglbehdjhmcaa", sum := "3c80754af067c3c6d933748e9080eddd7b5c5dc6c4d38a1b8fcc2fd10ff7eb23", func := "rivulet/rivuletlaw02.PackJoins", spec := "packJoins", plainKeys := false, apart := false }
def PackJoinsSaid : Prop := packJoinsRow.holds Try.pinned (OpenSpec.ofChange packJoinsSpec)

/-- ITS FALSE NEIGHBOUR: 'it returns false'. Refute it at one input. -/
def packJoinsWrong : ChangeSpec := { name := "packJoins", fn := fun _ => fun
  | [d1, d2, d3] => { results := [.lit (.bool false)], args := [d1, d2, d3] }
  | _ => none }
def PackJoinsWrongFalsely : Prop := packJoinsRow.holds Try.pinned (OpenSpec.ofChange packJoinsWrong)

/-- 'rivuletlaw02.PackPuts': WHATEVER THE INPUT: true; the input reads as it did. -/
def packPutsSpec : ChangeSpec := { name := "packPuts", fn := fun _ => fun
  | [d1, d2, d3] => { results := [.lit (.bool true)], args := [d1, d2, d3] }
  | _ => none }
def packPutsRow : OpenClaim := { program := "ytnbglbehdjhmcaa", sum := "3c80754af067c3c6d933748e9080eddd7b5c5dc6c4d38a1b8fcc2fd10ff7eb23", func := "rivulet/rivuletlaw02.PackPuts", spec := "packPuts", plainKeys := false, apart := false }
def PackPutsSaid : Prop := packPutsRow.holds Try.pinned (OpenSpec.ofChange packPutsSpec)

/-- ITS FALSE NEIGHBOUR: 'it returns false'. Refute it at one input. -/
def packPutsWrong : ChangeSpec := { name := "packPuts", fn := fun _ => fun
  | [d1, d2, d3] => { results := [.lit (.bool false)], args := [d1, d2, d3] }
  | _ => none }
def PackPutsWrongFalsely : Prop := packPutsRow.holds Try.pinned (OpenSpec.ofChange packPutsWrong)

/-- 'rivuletlaw02.PackReads': WHATEVER THE INPUT: true; the input reads as it did. -/
def packReadsSpec : ChangeSpec := { name := "packReads", fn := fun _ => fun
  | [d1, d2] => { results := [.lit (.bool true)], args := [d1, d2] }
  | _ => none }
def packReadsRow : OpenClaim := { program := "ytnbglbehdjhmcaa", sum := "3c80754af067c3c6d933748e9080eddd7b5c5dc6c4d38a1b8fcc2fd10ff7eb23", func := "rivulet/rivuletlaw02.PackReads", spec := "packReads", plainKeys := false, apart := false }
def PackReadsSaid : Prop := packReadsRow.holds Try.pinned (OpenSpec.ofChange packReadsSpec)

/-- ITS FALSE NEIGHBOUR: 'it returns false'. Refute it at one input. -/
def packReadsWrong : ChangeSpec := { name := "packReads", fn := fun _ => fun
  | [d1, d2] => { results := [.lit (.bool false)], args := [d1, d2] }
  | _ => none }
def PackReadsWrongFalsely : Prop := packReadsRow.holds Try.pinned (OpenSpec.ofChange packReadsWrong)

/-- 'rivuletlaw04.SumAdds': WHATEVER THE INPUT: true; the input reads as it did. -/
def sumAddsSpec : ChangeSpec := { name := "sumAdds", fn := fun _ => fun
  | [d] => { results := [.lit (.bool true)], args := [d] }
  | _ => none }
def sumAddsRow : OpenClaim := { program := "ytnbglbehdjhmcaa", sum := "3c80754af067c3c6d933748e9080eddd7b5c5dc6c4d38a1b8fcc2fd10ff7eb23", func := "rivulet/rivuletlaw04.SumAdds", spec := "sumAdds", plainKeys := false, apart := false }
def SumAddsSaid : Prop := sumAddsRow.holds Try.pinned (OpenSpec.ofChange sumAddsSpec)

/-- ITS FALSE NEIGHBOUR: 'it returns false'. Refute it at one input. -/
def sumAddsWrong : ChangeSpec := { name := "sumAdds", fn := fun _ => fun
  | [d] => { results := [.lit (.bool false)], args := [d] }
  | _ => none }
def SumAddsWrongFalsely : Prop := sumAddsRow.holds Try.pinned (OpenSpec.ofChange sumAddsWrong)

/-- 'rivuletlaw04.SumTells': WHATEVER THE INPUT: true; the input reads as it did. -/
def sumTellsSpec : ChangeSpec := { name := "sumTells", fn := fun _ => fun
  | [d1, d2, d3, d4] => { results := [.lit (.bool true)], args := [d1, d2, d3, d4] }
  | _ => none }
def sumTellsRow : OpenClaim := { program := "ytnbglbehdjhmcaa", sum := "3c80754af067c3c6d933748e9080eddd7b5c5dc6c4d38a1b8fcc2fd10ff7eb23", func := "rivulet/rivuletlaw04.SumTells", spec := "sumTells", plainKeys := false, apart := false }
def SumTellsSaid : Prop := sumTellsRow.holds Try.pinned (OpenSpec.ofChange sumTellsSpec)

/-- ITS FALSE NEIGHBOUR: 'it returns false'. Refute it at one input. -/
def sumTellsWrong : ChangeSpec := { name := "sumTells", fn := fun _ => fun
  | [d1, d2, d3, d4] => { results := [.lit (.bool false)], args := [d1, d2, d3, d4] }
  | _ => none }
def SumTellsWrongFalsely : Prop := sumTellsRow.holds Try.pinned (OpenSpec.ofChange sumTellsWrong)

/-- 'rivuletlaw05.HeaderHops': WHATEVER THE INPUT: true; the input reads as it did. -/
def headerHopsSpec : ChangeSpec := { name := "headerHops", fn := fun _ => fun
  | [d] => { results := [.lit (.bool true)], args := [d] }
  | _ => none }
def headerHopsRow : OpenClaim := { program := "ytnbglbehdjhmcaa", sum := "3c80754af067c3c6d933748e9080eddd7b5c5dc6c4d38a1b8fcc2fd10ff7eb23", func := "rivulet/rivuletlaw05.HeaderHops", spec := "headerHops", plainKeys := false, apart := false }
def HeaderHopsSaid : Prop := headerHopsRow.holds Try.pinned (OpenSpec.ofChange headerHopsSpec)

/-- ITS FALSE NEIGHBOUR: 'it returns false'. Refute it at one input. -/
def headerHopsWrong : ChangeSpec := { name := "headerHops", fn := fun _ => fun
  | [d] => { results := [.lit (.bool false)], args := [d] }
  | _ => none }
def HeaderHopsWrongFalsely : Prop := headerHopsRow.holds Try.pinned (OpenSpec.ofChange headerHopsWrong)

/-- 'rivuletlaw05.HeaderDecodes': WHATEVER THE INPUT: true; the input reads as it did. -/
def headerDecodesSpec : ChangeSpec := { name := "headerDecodes", fn := fun _ => fun
  | [d] => { results := [.lit (.bool true)], args := [d] }
  | _ => none }
def headerDecodesRow : OpenClaim := { program := "ytnbglbehdjhmcaa", sum := "3c80754af067c3c6d933748e9080eddd7b5c5dc6c4d38a1b8fcc2fd10ff7eb23", func := "rivulet/rivuletlaw05.HeaderDecodes", spec := "headerDecodes", plainKeys := false, apart := false }
def HeaderDecodesSaid : Prop := headerDecodesRow.holds Try.pinned (OpenSpec.ofChange headerDecodesSpec)

/-- ITS FALSE NEIGHBOUR: 'it returns false'. Refute it at one input. -/
def headerDecodesWrong : ChangeSpec := { name := "headerDecodes", fn := fun _ => fun
  | [d] => { results := [.lit (.bool false)], args := [d] }
  | _ => none }
def HeaderDecodesWrongFalsely : Prop := headerDecodesRow.holds Try.pinned (OpenSpec.ofChange headerDecodesWrong)

/-- 'rivuletlaw04.SumHeaders': WHATEVER THE INPUT: true; the input reads as it did. -/
def sumHeadersSpec : ChangeSpec := { name := "sumHeaders", fn := fun _ => fun
  | [d1, d2, d3, d4, d5] => { results := [.lit (.bool true)], args := [d1, d2, d3, d4, d5] }
  | _ => none }
def sumHeadersRow : OpenClaim := { program := "ytnbglbehdjhmcaa", sum := "3c80754af067c3c6d933748e9080eddd7b5c5dc6c4d38a1b8fcc2fd10ff7eb23", func := "rivulet/rivuletlaw04.SumHeaders", spec := "sumHeaders", plainKeys := false, apart := false }
def SumHeadersSaid : Prop := sumHeadersRow.holds Try.pinned (OpenSpec.ofChange sumHeadersSpec)

/-- ITS FALSE NEIGHBOUR: 'it returns false'. Refute it at one input. -/
def sumHeadersWrong : ChangeSpec := { name := "sumHeaders", fn := fun _ => fun
  | [d1, d2, d3, d4, d5] => { results := [.lit (.bool false)], args := [d1, d2, d3, d4, d5] }
  | _ => none }
def SumHeadersWrongFalsely : Prop := sumHeadersRow.holds Try.pinned (OpenSpec.ofChange sumHeadersWrong)

/-- 'rivuletlaw07.OptionJoins': WHATEVER THE INPUT: true; the input reads as it did. -/
def optionJoinsSpec : ChangeSpec := { name := "optionJoins", fn := fun _ => fun
  | [d1, d2] => { results := [.lit (.bool true)], args := [d1, d2] }
  | _ => none }
def optionJoinsRow : OpenClaim := { program := "ytnbglbehdjhmcaa", sum := "3c80754af067c3c6d933748e9080eddd7b5c5dc6c4d38a1b8fcc2fd10ff7eb23", func := "rivulet/rivuletlaw07.OptionJoins", spec := "optionJoins", unfollowed := true, recurses := true, plainKeys := false, apart := false }
def OptionJoinsSaid : Prop := optionJoinsRow.holds Try.pinned (OpenSpec.ofChange optionJoinsSpec)

/-- ITS FALSE NEIGHBOUR: 'it returns false'. Refute it at one input. -/
def optionJoinsWrong : ChangeSpec := { name := "optionJoins", fn := fun _ => fun
  | [d1, d2] => { results := [.lit (.bool false)], args := [d1, d2] }
  | _ => none }
def OptionJoinsWrongFalsely : Prop := optionJoinsRow.holds Try.pinned (OpenSpec.ofChange optionJoinsWrong)

/-- 'rivuletlaw26.LinksNear': WHATEVER THE INPUT: true; the input reads as it did. -/
def linksNearSpec : ChangeSpec := { name := "linksNear", fn := fun _ => fun
  | [d1, d2, d3] => { results := [.lit (.bool true)], args := [d1, d2, d3] }
  | _ => none }
def linksNearRow : OpenClaim := { program := "ytnbglbehdjhmcaa", sum := "3c80754af067c3c6d933748e9080eddd7b5c5dc6c4d38a1b8fcc2fd10ff7eb23", func := "rivulet/rivuletlaw26.LinksNear", spec := "linksNear", plainKeys := false, apart := false }
def LinksNearSaid : Prop := linksNearRow.holds Try.pinned (OpenSpec.ofChange linksNearSpec)

/-- ITS FALSE NEIGHBOUR: 'it returns false'. Refute it at one input. -/
def linksNearWrong : ChangeSpec := { name := "linksNear", fn := fun _ => fun
  | [d1, d2, d3] => { results := [.lit (.bool false)], args := [d1, d2, d3] }
  | _ => none }
def LinksNearWrongFalsely : Prop := linksNearRow.holds Try.pinned (OpenSpec.ofChange linksNearWrong)

/-- 'rivuletlaw26.LinksBoth': WHATEVER THE INPUT: true; the input reads as it did. -/
def linksBothSpec : ChangeSpec := { name := "linksBoth", fn := fun _ => fun
  | [d1, d2] => { results := [.lit (.bool true)], args := [d1, d2] }
  | _ => none }
def linksBothRow : OpenClaim := { program := "ytnbglbehdjhmcaa", sum := "3c80754af067c3c6d933748e9080eddd7b5c5dc6c4d38a1b8fcc2fd10ff7eb23", func := "rivulet/rivuletlaw26.LinksBoth", spec := "linksBoth", plainKeys := false, apart := false }
def LinksBothSaid : Prop := linksBothRow.holds Try.pinned (OpenSpec.ofChange linksBothSpec)

/-- ITS FALSE NEIGHBOUR: 'it returns false'. Refute it at one input. -/
def linksBothWrong : ChangeSpec := { name := "linksBoth", fn := fun _ => fun
  | [d1, d2] => { results := [.lit (.bool false)], args := [d1, d2] }
  | _ => none }
def LinksBothWrongFalsely : Prop := linksBothRow.holds Try.pinned (OpenSpec.ofChange linksBothWrong)

/- THE SECOND FORM. 'bulk': how many values and letters a reading holds, each counted each time it is reached (what is shared counts as often as it is met; a slice's spare places count too). A statement '..UptoSaid' is the law's where the arguments, and the package variables that the reading takes, are together of bulk at most 1048576: NARROWER than '..Said'. Prove '..Said' where nothing that the law and all that it calls make is longer than what came in: it says more and counts as full. Else prove '..UptoSaid'. A law counts once. -/
mutual
def uptoBulk {H : Type} : DataW H → Nat
  | .lit (.string bytes) => bytes.length + 1
  | .lit _ => 1
  | .nil => 1
  | .ptr d => uptoBulk d + 1
  | .slice elems spare => uptoBulkAll elems + uptoBulkAll spare + 1
  | .agg parts => uptoBulkAll parts + 1
  | .iface _ d => uptoBulk d + 1
  | .map entries => uptoBulkEntries entries + 1
  | .held _ => 1
def uptoBulkAll {H : Type} : List (DataW H) → Nat
  | [] => 0
  | d :: r => uptoBulk d + uptoBulkAll r
def uptoBulkEntries {H : Type} : List (Lit × DataW H) → Nat
  | [] => 0
  | x :: r => uptoBulkEntry x + uptoBulkEntries r
def uptoBulkEntry {H : Type} : Lit × DataW H → Nat
  | (.string bytes, d) => bytes.length + uptoBulk d + 1
  | (_, d) => uptoBulk d + 1
 end
def uptoSmall : (H : Type) → List (DataW H) → Bool := fun _ ds => decide (uptoBulkAll ds ≤ 1048576)
def OpenSpec.upto (s : _root_.Go.ChangeSpec) : _root_.Go.OpenSpec := { _root_.Go.OpenSpec.ofChange s with cond := some uptoSmall }

/-- 'rivuletlaw02.PackNil', WHERE WHAT IT READS IS OF BULK AT MOST 1048576: true; the input reads as it did. -/
def packNilUptoRow : OpenClaim := { program := "ytnbglbehdjhmcaa", sum := "3c80754af067c3c6d933748e9080eddd7b5c5dc6c4d38a1b8fcc2fd10ff7eb23", func := "rivulet/rivuletlaw02.PackNil", spec := "packNil", plainKeys := false, apart := false, narrowed := true }
def PackNilUptoSaid : Prop := packNilUptoRow.holds Try.pinned (OpenSpec.upto packNilSpec)

/-- 'rivuletlaw02.PackJoins', WHERE WHAT IT READS IS OF BULK AT MOST 1048576: true; the input reads as it did. -/
def packJoinsUptoRow : OpenClaim := { program := "ytnbglbehdjhmcaa", sum := "3c80754af067c3c6d933748e9080eddd7b5c5dc6c4d38a1b8fcc2fd10ff7eb23", func := "rivulet/rivuletlaw02.PackJoins", spec := "packJoins", plainKeys := false, apart := false, narrowed := true }
def PackJoinsUptoSaid : Prop := packJoinsUptoRow.holds Try.pinned (OpenSpec.upto packJoinsSpec)

/-- 'rivuletlaw02.PackPuts', WHERE WHAT IT READS IS OF BULK AT MOST 1048576: true; the input reads as it did. -/
def packPutsUptoRow : OpenClaim := { program := "ytnbglbehdjhmcaa", sum := "3c80754af067c3c6d933748e9080eddd7b5c5dc6c4d38a1b8fcc2fd10ff7eb23", func := "rivulet/rivuletlaw02.PackPuts", spec := "packPuts", plainKeys := false, apart := false, narrowed := true }
def PackPutsUptoSaid : Prop := packPutsUptoRow.holds Try.pinned (OpenSpec.upto packPutsSpec)

/-- 'rivuletlaw02.PackReads', WHERE WHAT IT READS IS OF BULK AT MOST 1048576: true; the input reads as it did. -/
def packReadsUptoRow : OpenClaim := { program := "ytnbglbehdjhmcaa", sum := "3c80754af067c3c6d933748e9080eddd7b5c5dc6c4d38a1b8fcc2fd10ff7eb23", func := "rivulet/rivuletlaw02.PackReads", spec := "packReads", plainKeys := false, apart := false, narrowed := true }
def PackReadsUptoSaid : Prop := packReadsUptoRow.holds Try.pinned (OpenSpec.upto packReadsSpec)

/-- 'rivuletlaw04.SumAdds', WHERE WHAT IT READS IS OF BULK AT MOST 1048576: true; the input reads as it did. -/
def sumAddsUptoRow : OpenClaim := { program := "ytnbglbehdjhmcaa", sum := "3c80754af067c3c6d933748e9080eddd7b5c5dc6c4d38a1b8fcc2fd10ff7eb23", func := "rivulet/rivuletlaw04.SumAdds", spec := "sumAdds", plainKeys := false, apart := false, narrowed := true }
def SumAddsUptoSaid : Prop := sumAddsUptoRow.holds Try.pinned (OpenSpec.upto sumAddsSpec)

/-- 'rivuletlaw04.SumTells', WHERE WHAT IT READS IS OF BULK AT MOST 1048576: true; the input reads as it did. -/
def sumTellsUptoRow : OpenClaim := { program := "ytnbglbehdjhmcaa", sum := "3c80754af067c3c6d933748e9080eddd7b5c5dc6c4d38a1b8fcc2fd10ff7eb23", func := "rivulet/rivuletlaw04.SumTells", spec := "sumTells", plainKeys := false, apart := false, narrowed := true }
def SumTellsUptoSaid : Prop := sumTellsUptoRow.holds Try.pinned (OpenSpec.upto sumTellsSpec)

/-- 'rivuletlaw05.HeaderHops', WHERE WHAT IT READS IS OF BULK AT MOST 1048576: true; the input reads as it did. -/
def headerHopsUptoRow : OpenClaim := { program := "ytnbglbehdjhmcaa", sum := "3c80754af067c3c6d933748e9080eddd7b5c5dc6c4d38a1b8fcc2fd10ff7eb23", func := "rivulet/rivuletlaw05.HeaderHops", spec := "headerHops", plainKeys := false, apart := false, narrowed := true }
def HeaderHopsUptoSaid : Prop := headerHopsUptoRow.holds Try.pinned (OpenSpec.upto headerHopsSpec)

/-- 'rivuletlaw05.HeaderDecodes', WHERE WHAT IT READS IS OF BULK AT MOST 1048576: true; the input reads as it did. -/
def headerDecodesUptoRow : OpenClaim := { program := "ytnbglbehdjhmcaa", sum := "3c80754af067c3c6d933748e9080eddd7b5c5dc6c4d38a1b8fcc2fd10ff7eb23", func := "rivulet/rivuletlaw05.HeaderDecodes", spec := "headerDecodes", plainKeys := false, apart := false, narrowed := true }
def HeaderDecodesUptoSaid : Prop := headerDecodesUptoRow.holds Try.pinned (OpenSpec.upto headerDecodesSpec)

/-- 'rivuletlaw04.SumHeaders', WHERE WHAT IT READS IS OF BULK AT MOST 1048576: true; the input reads as it did. -/
def sumHeadersUptoRow : OpenClaim := { program := "ytnbglbehdjhmcaa", sum := "3c80754af067c3c6d933748e9080eddd7b5c5dc6c4d38a1b8fcc2fd10ff7eb23", func := "rivulet/rivuletlaw04.SumHeaders", spec := "sumHeaders", plainKeys := false, apart := false, narrowed := true }
def SumHeadersUptoSaid : Prop := sumHeadersUptoRow.holds Try.pinned (OpenSpec.upto sumHeadersSpec)

/-- 'rivuletlaw07.OptionJoins', WHERE WHAT IT READS IS OF BULK AT MOST 1048576: true; the input reads as it did. -/
def optionJoinsUptoRow : OpenClaim := { program := "ytnbglbehdjhmcaa", sum := "3c80754af067c3c6d933748e9080eddd7b5c5dc6c4d38a1b8fcc2fd10ff7eb23", func := "rivulet/rivuletlaw07.OptionJoins", spec := "optionJoins", unfollowed := true, recurses := true, plainKeys := false, apart := false, narrowed := true }
def OptionJoinsUptoSaid : Prop := optionJoinsUptoRow.holds Try.pinned (OpenSpec.upto optionJoinsSpec)

/-- 'rivuletlaw26.LinksNear', WHERE WHAT IT READS IS OF BULK AT MOST 1048576: true; the input reads as it did. -/
def linksNearUptoRow : OpenClaim := { program := "ytnbglbehdjhmcaa", sum := "3c80754af067c3c6d933748e9080eddd7b5c5dc6c4d38a1b8fcc2fd10ff7eb23", func := "rivulet/rivuletlaw26.LinksNear", spec := "linksNear", plainKeys := false, apart := false, narrowed := true }
def LinksNearUptoSaid : Prop := linksNearUptoRow.holds Try.pinned (OpenSpec.upto linksNearSpec)

/-- 'rivuletlaw26.LinksBoth', WHERE WHAT IT READS IS OF BULK AT MOST 1048576: true; the input reads as it did. -/
def linksBothUptoRow : OpenClaim := { program := "ytnbglbehdjhmcaa", sum := "3c80754af067c3c6d933748e9080eddd7b5c5dc6c4d38a1b8fcc2fd10ff7eb23", func := "rivulet/rivuletlaw26.LinksBoth", spec := "linksBoth", plainKeys := false, apart := false, narrowed := true }
def LinksBothUptoSaid : Prop := linksBothUptoRow.holds Try.pinned (OpenSpec.upto linksBothSpec)

end Rows
end Go.Proofs.Ytnbglbehdjhmcaa
