/-
  No cell of these rows narrows 'for every input' (looked for: loops, veiled, ifaces, maps, wideKeys, modest, calm, conditions, laid).
  DERIVED. THE GIVEN ROWS OF THIS SEAT. 12 by the template 'for every input the law returns true; each argument reads behind the call as it read before'; 0 by the template 'total and deterministic' (their statements: YtanpnhponefbbaaTotals.lean).
  GIVEN WITH THE SEED: the statements are not yours to turn. If you find one false, say at which input.
  Laid BY PROGRAM, IN A SANDBOX (cutbox-rows.mjs): the forced cells as the released guide's own fill.sh prints them over the translation 68fdb08268b152d4… (all of the seat's roots in one cut). By AI agents, Wed Nov 11 2026. No macro, syntax, notation, axiom, sorry.
-/
import Derived.Test.YtanpnhponefbbaaChecked
import GoSem.Claim
import GoSem.ClaimJoined
import GoSem.ClaimMapViews
import Derived.JoinedTies
import Derived.KernelRfl
namespace Go.Proofs.Ytanpnhponefbbaa
/- THE CELL 'sum', in the pinned program and in every row, IS THE sha256 OF THE DUMP (.gsa) THAT YtanpnhponefbbaaProg.lean LOADS. Nothing in Lean hashes anything: it is a label: what it is worth is what the hold of that sum in a sandbox is worth. -/
noncomputable def Try.pinned : Pinned := { name := "ytanpnhponefbbaa", sum := "68fdb08268b152d4d354d05a320112d742310b44bbeff310b142def2408241f7", checked := Try.checked }
namespace Rows
def none {H : Type} : Left H := { results := [], args := [] }

/-- 'rivuletlaw06.HopoptOnce': WHATEVER THE INPUT: true; the input reads as it did. -/
def hopoptOnceSpec : ChangeSpec := { name := "hopoptOnce", fn := fun _ => fun
  | [d1, d2, d3] => { results := [.lit (.bool true)], args := [d1, d2, d3] }
  | _ => none }
def hopoptOnceRow : OpenClaim := { program := "ytanpnhponefbbaa", sum := "68fdb08268b152d4d354d05a320112d742310b44bbeff310b142def2408241f7", func := "rivulet/rivuletlaw06.HopoptOnce", spec := "hopoptOnce", apart := false }
def HopoptOnceSaid : Prop := hopoptOnceRow.holds Try.pinned (OpenSpec.ofChange hopoptOnceSpec)

/-- ITS FALSE NEIGHBOUR: 'it returns false'. Refute it at one input. -/
def hopoptOnceWrong : ChangeSpec := { name := "hopoptOnce", fn := fun _ => fun
  | [d1, d2, d3] => { results := [.lit (.bool false)], args := [d1, d2, d3] }
  | _ => none }
def HopoptOnceWrongFalsely : Prop := hopoptOnceRow.holds Try.pinned (OpenSpec.ofChange hopoptOnceWrong)

/-- 'rivuletlaw06.HopoptHops': WHATEVER THE INPUT: true; the input reads as it did. -/
def hopoptHopsSpec : ChangeSpec := { name := "hopoptHops", fn := fun _ => fun
  | [d1, d2, d3, d4] => { results := [.lit (.bool true)], args := [d1, d2, d3, d4] }
  | _ => none }
def hopoptHopsRow : OpenClaim := { program := "ytanpnhponefbbaa", sum := "68fdb08268b152d4d354d05a320112d742310b44bbeff310b142def2408241f7", func := "rivulet/rivuletlaw06.HopoptHops", spec := "hopoptHops", apart := false }
def HopoptHopsSaid : Prop := hopoptHopsRow.holds Try.pinned (OpenSpec.ofChange hopoptHopsSpec)

/-- ITS FALSE NEIGHBOUR: 'it returns false'. Refute it at one input. -/
def hopoptHopsWrong : ChangeSpec := { name := "hopoptHops", fn := fun _ => fun
  | [d1, d2, d3, d4] => { results := [.lit (.bool false)], args := [d1, d2, d3, d4] }
  | _ => none }
def HopoptHopsWrongFalsely : Prop := hopoptHopsRow.holds Try.pinned (OpenSpec.ofChange hopoptHopsWrong)

/-- 'rivuletlaw06.HopoptBytes': WHATEVER THE INPUT: true; the input reads as it did. -/
def hopoptBytesSpec : ChangeSpec := { name := "hopoptBytes", fn := fun _ => fun
  | [d1, d2, d3] => { results := [.lit (.bool true)], args := [d1, d2, d3] }
  | _ => none }
def hopoptBytesRow : OpenClaim := { program := "ytanpnhponefbbaa", sum := "68fdb08268b152d4d354d05a320112d742310b44bbeff310b142def2408241f7", func := "rivulet/rivuletlaw06.HopoptBytes", spec := "hopoptBytes", unfollowed := true, recurses := true, apart := false }
def HopoptBytesSaid : Prop := hopoptBytesRow.holds Try.pinned (OpenSpec.ofChange hopoptBytesSpec)

/-- ITS FALSE NEIGHBOUR: 'it returns false'. Refute it at one input. -/
def hopoptBytesWrong : ChangeSpec := { name := "hopoptBytes", fn := fun _ => fun
  | [d1, d2, d3] => { results := [.lit (.bool false)], args := [d1, d2, d3] }
  | _ => none }
def HopoptBytesWrongFalsely : Prop := hopoptBytesRow.holds Try.pinned (OpenSpec.ofChange hopoptBytesWrong)

/-- 'rivuletlaw11.TricklePlaces': WHATEVER THE INPUT: true; the input reads as it did. -/
def tricklePlacesSpec : ChangeSpec := { name := "tricklePlaces", fn := fun _ => fun
  | [d1, d2] => { results := [.lit (.bool true)], args := [d1, d2] }
  | _ => none }
def tricklePlacesRow : OpenClaim := { program := "ytanpnhponefbbaa", sum := "68fdb08268b152d4d354d05a320112d742310b44bbeff310b142def2408241f7", func := "rivulet/rivuletlaw11.TricklePlaces", spec := "tricklePlaces", apart := false }
def TricklePlacesSaid : Prop := tricklePlacesRow.holds Try.pinned (OpenSpec.ofChange tricklePlacesSpec)

/-- ITS FALSE NEIGHBOUR: 'it returns false'. Refute it at one input. -/
def tricklePlacesWrong : ChangeSpec := { name := "tricklePlaces", fn := fun _ => fun
  | [d1, d2] => { results := [.lit (.bool false)], args := [d1, d2] }
  | _ => none }
def TricklePlacesWrongFalsely : Prop := tricklePlacesRow.holds Try.pinned (OpenSpec.ofChange tricklePlacesWrong)

/-- 'rivuletlaw11.TrickleSpeaks': WHATEVER THE INPUT: true; the input reads as it did. -/
def trickleSpeaksSpec : ChangeSpec := { name := "trickleSpeaks", fn := fun _ => fun
  | [d1, d2, d3, d4, d5] => { results := [.lit (.bool true)], args := [d1, d2, d3, d4, d5] }
  | _ => none }
def trickleSpeaksRow : OpenClaim := { program := "ytanpnhponefbbaa", sum := "68fdb08268b152d4d354d05a320112d742310b44bbeff310b142def2408241f7", func := "rivulet/rivuletlaw11.TrickleSpeaks", spec := "trickleSpeaks", apart := false }
def TrickleSpeaksSaid : Prop := trickleSpeaksRow.holds Try.pinned (OpenSpec.ofChange trickleSpeaksSpec)

/-- ITS FALSE NEIGHBOUR: 'it returns false'. Refute it at one input. -/
def trickleSpeaksWrong : ChangeSpec := { name := "trickleSpeaks", fn := fun _ => fun
  | [d1, d2, d3, d4, d5] => { results := [.lit (.bool false)], args := [d1, d2, d3, d4, d5] }
  | _ => none }
def TrickleSpeaksWrongFalsely : Prop := trickleSpeaksRow.holds Try.pinned (OpenSpec.ofChange trickleSpeaksWrong)

/-- 'rivuletlaw11.TricklePlays': WHATEVER THE INPUT: true; the input reads as it did. -/
def tricklePlaysSpec : ChangeSpec := { name := "tricklePlays", fn := fun _ => fun
  | [d1, d2, d3, d4, d5] => { results := [.lit (.bool true)], args := [d1, d2, d3, d4, d5] }
  | _ => none }
def tricklePlaysRow : OpenClaim := { program := "ytanpnhponefbbaa", sum := "68fdb08268b152d4d354d05a320112d742310b44bbeff310b142def2408241f7", func := "rivulet/rivuletlaw11.TricklePlays", spec := "tricklePlays", apart := false }
def TricklePlaysSaid : Prop := tricklePlaysRow.holds Try.pinned (OpenSpec.ofChange tricklePlaysSpec)

/-- ITS FALSE NEIGHBOUR: 'it returns false'. Refute it at one input. -/
def tricklePlaysWrong : ChangeSpec := { name := "tricklePlays", fn := fun _ => fun
  | [d1, d2, d3, d4, d5] => { results := [.lit (.bool false)], args := [d1, d2, d3, d4, d5] }
  | _ => none }
def TricklePlaysWrongFalsely : Prop := tricklePlaysRow.holds Try.pinned (OpenSpec.ofChange tricklePlaysWrong)

/-- 'rivuletlaw11.TrickleNil': WHATEVER THE INPUT: true; the input reads as it did. -/
def trickleNilSpec : ChangeSpec := { name := "trickleNil", fn := fun _ => fun
  | [d] => { results := [.lit (.bool true)], args := [d] }
  | _ => none }
def trickleNilRow : OpenClaim := { program := "ytanpnhponefbbaa", sum := "68fdb08268b152d4d354d05a320112d742310b44bbeff310b142def2408241f7", func := "rivulet/rivuletlaw11.TrickleNil", spec := "trickleNil", apart := false }
def TrickleNilSaid : Prop := trickleNilRow.holds Try.pinned (OpenSpec.ofChange trickleNilSpec)

/-- ITS FALSE NEIGHBOUR: 'it returns false'. Refute it at one input. -/
def trickleNilWrong : ChangeSpec := { name := "trickleNil", fn := fun _ => fun
  | [d] => { results := [.lit (.bool false)], args := [d] }
  | _ => none }
def TrickleNilWrongFalsely : Prop := trickleNilRow.holds Try.pinned (OpenSpec.ofChange trickleNilWrong)

/-- 'rivuletlaw12.RankSteps': WHATEVER THE INPUT: true; the input reads as it did. -/
def rankStepsSpec : ChangeSpec := { name := "rankSteps", fn := fun _ => fun
  | [d1, d2, d3] => { results := [.lit (.bool true)], args := [d1, d2, d3] }
  | _ => none }
def rankStepsRow : OpenClaim := { program := "ytanpnhponefbbaa", sum := "68fdb08268b152d4d354d05a320112d742310b44bbeff310b142def2408241f7", func := "rivulet/rivuletlaw12.RankSteps", spec := "rankSteps", apart := false }
def RankStepsSaid : Prop := rankStepsRow.holds Try.pinned (OpenSpec.ofChange rankStepsSpec)

/-- ITS FALSE NEIGHBOUR: 'it returns false'. Refute it at one input. -/
def rankStepsWrong : ChangeSpec := { name := "rankSteps", fn := fun _ => fun
  | [d1, d2, d3] => { results := [.lit (.bool false)], args := [d1, d2, d3] }
  | _ => none }
def RankStepsWrongFalsely : Prop := rankStepsRow.holds Try.pinned (OpenSpec.ofChange rankStepsWrong)

/-- 'rivuletlaw02.PackJoins': WHATEVER THE INPUT: true; the input reads as it did. -/
def packJoinsSpec : ChangeSpec := { name := "packJoins", fn := fun _ => fun
  | [d1, d2, d3] => { results := [.lit (.bool true)], args := [d1, d2, d3] }
  | _ => none }
def packJoinsRow : OpenClaim := { program := "ytanpnhponefbbaa", sum := "68fdb08268b152d4d354d05a320112d742310b44bbeff310b142def2408241f7", func := "rivulet/rivuletlaw02.PackJoins", spec := "packJoins", apart := false }
def PackJoinsSaid : Prop := packJoinsRow.holds Try.pinned (OpenSpec.ofChange packJoinsSpec)

/-- ITS FALSE NEIGHBOUR: 'it returns false'. Refute it at one input. -/
def packJoinsWrong : ChangeSpec := { name := "packJoins", fn := fun _ => fun
  | [d1, d2, d3] => { results := [.lit (.bool false)], args := [d1, d2, d3] }
  | _ => none }
def PackJoinsWrongFalsely : Prop := packJoinsRow.holds Try.pinned (OpenSpec.ofChange packJoinsWrong)

/-- 'rivuletlaw02.PackPuts': WHATEVER THE INPUT: true; the input reads as it did. -/
def packPutsSpec : ChangeSpec := { name := "packPuts", fn := fun _ => fun
  | [d1, d2, d3] => { results := [.lit (.bool true)], args := [d1, d2, d3] }
  | _ => none }
def packPutsRow : OpenClaim := { program := "ytanpnhponefbbaa", sum := "68fdb08268b152d4d354d05a320112d742310b44bbeff310b142def2408241f7", func := "rivulet/rivuletlaw02.PackPuts", spec := "packPuts", apart := false }
def PackPutsSaid : Prop := packPutsRow.holds Try.pinned (OpenSpec.ofChange packPutsSpec)

/-- ITS FALSE NEIGHBOUR: 'it returns false'. Refute it at one input. -/
def packPutsWrong : ChangeSpec := { name := "packPuts", fn := fun _ => fun
  | [d1, d2, d3] => { results := [.lit (.bool false)], args := [d1, d2, d3] }
  | _ => none }
def PackPutsWrongFalsely : Prop := packPutsRow.holds Try.pinned (OpenSpec.ofChange packPutsWrong)

/-- 'rivuletlaw02.PackReads': WHATEVER THE INPUT: true; the input reads as it did. -/
def packReadsSpec : ChangeSpec := { name := "packReads", fn := fun _ => fun
  | [d1, d2] => { results := [.lit (.bool true)], args := [d1, d2] }
  | _ => none }
def packReadsRow : OpenClaim := { program := "ytanpnhponefbbaa", sum := "68fdb08268b152d4d354d05a320112d742310b44bbeff310b142def2408241f7", func := "rivulet/rivuletlaw02.PackReads", spec := "packReads", apart := false }
def PackReadsSaid : Prop := packReadsRow.holds Try.pinned (OpenSpec.ofChange packReadsSpec)

/-- ITS FALSE NEIGHBOUR: 'it returns false'. Refute it at one input. -/
def packReadsWrong : ChangeSpec := { name := "packReads", fn := fun _ => fun
  | [d1, d2] => { results := [.lit (.bool false)], args := [d1, d2] }
  | _ => none }
def PackReadsWrongFalsely : Prop := packReadsRow.holds Try.pinned (OpenSpec.ofChange packReadsWrong)

/-- 'rivuletlaw02.PackNil': WHATEVER THE INPUT: true; the input reads as it did. -/
def packNilSpec : ChangeSpec := { name := "packNil", fn := fun _ => fun
  | [d1, d2] => { results := [.lit (.bool true)], args := [d1, d2] }
  | _ => none }
def packNilRow : OpenClaim := { program := "ytanpnhponefbbaa", sum := "68fdb08268b152d4d354d05a320112d742310b44bbeff310b142def2408241f7", func := "rivulet/rivuletlaw02.PackNil", spec := "packNil", apart := false }
def PackNilSaid : Prop := packNilRow.holds Try.pinned (OpenSpec.ofChange packNilSpec)

/-- ITS FALSE NEIGHBOUR: 'it returns false'. Refute it at one input. -/
def packNilWrong : ChangeSpec := { name := "packNil", fn := fun _ => fun
  | [d1, d2] => { results := [.lit (.bool false)], args := [d1, d2] }
  | _ => none }
def PackNilWrongFalsely : Prop := packNilRow.holds Try.pinned (OpenSpec.ofChange packNilWrong)

/- THE SECOND FORM. 'bulk': how many values and letters a reading holds, each counted each time it is reached (what is shared counts as often as it is met; a slice's spare places count too). A statement '..UptoSaid' is the law's where the arguments, and the package variables that the reading takes, are together of bulk at most 1048576: NARROWER than '..Said'. Prove '..Said' where nothing that the law and all that it calls make is longer than what came in: it says more and counts as full. Else prove '..UptoSaid'. A law counts once. -/
mutual
def uptoBulk {H : Type} : DataW H → Nat
  | .lit (.string bytes) => bytes.length + 1
  | .lit _ => 1
  | .nil => 1
  | .ptr d => uptoBulk d + 1
  | .slice elems spare => uptoBulkAll elems + uptoBulkAll spare + 1
  | .agg parts => uptoBulkAll parts + 1
  | .iface _ d => uptoBulk d + 1
  | .map entries => uptoBulkEntries entries + 1
  | .held _ => 1
def uptoBulkAll {H : Type} : List (DataW H) → Nat
  | [] => 0
  | d :: r => uptoBulk d + uptoBulkAll r
def uptoBulkEntries {H : Type} : List (Lit × DataW H) → Nat
  | [] => 0
  | x :: r => uptoBulkEntry x + uptoBulkEntries r
def uptoBulkEntry {H : Type} : Lit × DataW H → Nat
  | (.string bytes, d) => bytes.length + uptoBulk d + 1
  | (_, d) => uptoBulk d + 1
 end
def uptoSmall : (H : Type) → List (DataW H) → Bool := fun _ ds => decide (uptoBulkAll ds ≤ 1048576)
def OpenSpec.upto (s : _root_.Go.ChangeSpec) : _root_.Go.OpenSpec := { _root_.Go.OpenSpec.ofChange s with cond := some uptoSmall }

/-- 'rivuletlaw06.HopoptOnce', WHERE WHAT IT READS IS OF BULK AT MOST 1048576: true; the input reads as it did. -/
def hopoptOnceUptoRow : OpenClaim := { program := "ytanpnhponefbbaa", sum := "68fdb08268b152d4d354d05a320112d742310b44bbeff310b142def2408241f7", func := "rivulet/rivuletlaw06.HopoptOnce", spec := "hopoptOnce", apart := false, narrowed := true }
def HopoptOnceUptoSaid : Prop := hopoptOnceUptoRow.holds Try.pinned (OpenSpec.upto hopoptOnceSpec)

/-- 'rivuletlaw06.HopoptHops', WHERE WHAT IT READS IS OF BULK AT MOST 1048576: true; the input reads as it did. -/
def hopoptHopsUptoRow : OpenClaim := { program := "ytanpnhponefbbaa", sum := "68fdb08268b152d4d354d05a320112d742310b44bbeff310b142def2408241f7", func := "rivulet/rivuletlaw06.HopoptHops", spec := "hopoptHops", apart := false, narrowed := true }
def HopoptHopsUptoSaid : Prop := hopoptHopsUptoRow.holds Try.pinned (OpenSpec.upto hopoptHopsSpec)

/-- 'rivuletlaw06.HopoptBytes', WHERE WHAT IT READS IS OF BULK AT MOST 1048576: true; the input reads as it did. -/
def hopoptBytesUptoRow : OpenClaim := { program := "ytanpnhponefbbaa", sum := "68fdb08268b152d4d354d05a320112d742310b44bbeff310b142def2408241f7", func := "rivulet/rivuletlaw06.HopoptBytes", spec := "hopoptBytes", unfollowed := true, recurses := true, apart := false, narrowed := true }
def HopoptBytesUptoSaid : Prop := hopoptBytesUptoRow.holds Try.pinned (OpenSpec.upto hopoptBytesSpec)

/-- 'rivuletlaw11.TricklePlaces', WHERE WHAT IT READS IS OF BULK AT MOST 1048576: true; the input reads as it did. -/
def tricklePlacesUptoRow : OpenClaim := { program := "ytanpnhponefbbaa", sum := "68fdb08268b152d4d354d05a320112d742310b44bbeff310b142def2408241f7", func := "rivulet/rivuletlaw11.TricklePlaces", spec := "tricklePlaces", apart := false, narrowed := true }
def TricklePlacesUptoSaid : Prop := tricklePlacesUptoRow.holds Try.pinned (OpenSpec.upto tricklePlacesSpec)

/-- 'rivuletlaw11.TrickleSpeaks', WHERE WHAT IT READS IS OF BULK AT MOST 1048576: true; the input reads as it did. -/
def trickleSpeaksUptoRow : OpenClaim := { program := "ytanpnhponefbbaa", sum := "68fdb08268b152d4d354d05a320112d742310b44bbeff310b142def2408241f7", func := "rivulet/rivuletlaw11.TrickleSpeaks", spec := "trickleSpeaks", apart := false, narrowed := true }
def TrickleSpeaksUptoSaid : Prop := trickleSpeaksUptoRow.holds Try.pinned (OpenSpec.upto trickleSpeaksSpec)

/-- 'rivuletlaw11.TricklePlays', WHERE WHAT IT READS IS OF BULK AT MOST 1048576: true; the input reads as it did. -/
def tricklePlaysUptoRow : OpenClaim := { program := "ytanpnhponefbbaa", sum := "68fdb08268b152d4d354d05a320112d742310b44bbeff310b142def2408241f7", func := "rivulet/rivuletlaw11.TricklePlays", spec := "tricklePlays", apart := false, narrowed := true }
def TricklePlaysUptoSaid : Prop := tricklePlaysUptoRow.holds Try.pinned (OpenSpec.upto tricklePlaysSpec)

/-- 'rivuletlaw11.TrickleNil', WHERE WHAT IT READS IS OF BULK AT MOST 1048576: true; the input reads as it did. -/
def trickleNilUptoRow : OpenClaim := { program := "ytanpnhponefbbaa", sum := "68fdb08268b152d4d354d05a320112d742310b44bbeff310b142def2408241f7", func := "rivulet/rivuletlaw11.TrickleNil", spec := "trickleNil", apart := false, narrowed := true }
def TrickleNilUptoSaid : Prop := trickleNilUptoRow.holds Try.pinned (OpenSpec.upto trickleNilSpec)

/-- 'rivuletlaw12.RankSteps', WHERE WHAT IT READS IS OF BULK AT MOST 1048576: true; the input reads as it did. -/
def rankStepsUptoRow : OpenClaim := { program := "ytanpnhponefbbaa", sum := "68fdb08268b152d4d354d05a320112d742310b44bbeff310b142def2408241f7", func := "rivulet/rivuletlaw12.RankSteps", spec := "rankSteps", apart := false, narrowed := true }
def RankStepsUptoSaid : Prop := rankStepsUptoRow.holds Try.pinned (OpenSpec.upto rankStepsSpec)

/-- 'rivuletlaw02.PackJoins', WHERE WHAT IT READS IS OF BULK AT MOST 1048576: true; the input reads as it did. -/
def packJoinsUptoRow : OpenClaim := { program := "ytanpnhponefbbaa", sum := "68fdb08268b152d4d354d05a320112d742310b44bbeff310b142def2408241f7", func := "rivulet/rivuletlaw02.PackJoins", spec := "packJoins", apart := false, narrowed := true }
def PackJoinsUptoSaid : Prop := packJoinsUptoRow.holds Try.pinned (OpenSpec.upto packJoinsSpec)

/-- 'rivuletlaw02.PackPuts', WHERE WHAT IT READS IS OF BULK AT MOST 1048576: true; the input reads as it did. -/
def packPutsUptoRow : OpenClaim := { program := "ytanpnhponefbbaa", sum := "68fdb08268b152d4d354d05a320112d742310b44bbeff310b142def2408241f7", func := "rivulet/rivuletlaw02.PackPuts", spec := "packPuts", apart := false, narrowed := true }
def PackPutsUptoSaid : Prop := packPutsUptoRow.holds Try.pinned (OpenSpec.upto packPutsSpec)

/-- 'rivuletlaw02.PackReads', WHERE WHAT IT READS IS OF BULK AT MOST 1048576: true; the input reads as it did. -/
def packReadsUptoRow : OpenClaim := { program := "ytanpnhponefbbaa", sum := "68fdb08268b152d4d354d05a320112d742310b44bbeff310b142def2408241f7", func := "rivulet/rivuletlaw02.PackReads", spec := "packReads", apart := false, narrowed := true }
def PackReadsUptoSaid : Prop := packReadsUptoRow.holds Try.pinned (OpenSpec.upto packReadsSpec)

/-- 'rivuletlaw02.PackNil', WHERE WHAT IT READS IS OF BULK AT MOST 1048576: true; the input reads as it did. -/
def packNilUptoRow : OpenClaim := { program := "ytanpnhponefbbaa", sum := "68fdb08268b152d4d354d05a320112d742310b44bbeff310b142def2408241f7", func := "rivulet/rivuletlaw02.PackNil", spec := "packNil", apart := false, narrowed := true }
def PackNilUptoSaid : Prop := packNilUptoRow.holds Try.pinned (OpenSpec.upto packNilSpec)

end Rows
end Go.Proofs.Ytanpnhponefbbaa
