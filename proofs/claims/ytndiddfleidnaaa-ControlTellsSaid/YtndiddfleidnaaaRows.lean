/-
  No cell of these rows narrows 'for every input' (looked for: loops, veiled, ifaces, maps, wideKeys, modest, calm, conditions, laid).
  DERIVED. THE GIVEN ROWS OF THIS SEAT. 12 by the template 'for every input the law returns true; each argument reads behind the call as it read before'; 0 by the template 'total and deterministic' (their statements: YtndiddfleidnaaaTotals.lean).
  GIVEN WITH THE SEED: the statements are not yours to turn. If you find one false, say at which input.
  Laid BY PROGRAM, IN A SANDBOX (cutbox-rows.mjs): the forced cells as the released guide's own fill.sh prints them over the translation 35de75bacec98ab5… (all of the seat's roots in one cut). By AI agents, Wed Nov 11 2026. No macro, syntax, notation, axiom, sorry.
-/
import Derived.Test.YtndiddfleidnaaaChecked
import GoSem.Claim
import GoSem.ClaimJoined
import GoSem.ClaimMapViews
import Derived.JoinedTies
import Derived.KernelRfl
namespace Go.Proofs.Ytndiddfleidnaaa
/- THE CELL 'sum', in the pinned program and in every row, IS THE sha256 OF THE DUMP (.gsa) THAT YtndiddfleidnaaaProg.lean LOADS. Nothing in Lean hashes anything: it is a label: what it is worth is what the hold of that sum in a sandbox is worth. -/
noncomputable def Try.pinned : Pinned := { name := "ytndiddfleidnaaa", sum := "35de75bacec98ab59c5e82e4136186ef4d3eb3a867799a55e2da45beab39aa66", checked := Try.checked }
namespace Rows
def none {H : Type} : Left H := { results := [], args := [] }

/-- 'rivuletlaw05.HeaderHops': WHATEVER THE INPUT: true; the input reads as it did. -/
def headerHopsSpec : ChangeSpec := { name := "headerHops", fn := fun _ => fun
  | [d] => { results := [.lit (.bool true)], args := [d] }
  | _ => none }
def headerHopsRow : OpenClaim := { program := "ytndiddfleidnaaa", sum := "35de75bacec98ab59c5e82e4136186ef4d3eb3a867799a55e2da45beab39aa66", func := "rivulet/rivuletlaw05.HeaderHops", spec := "headerHops", apart := false }
def HeaderHopsSaid : Prop := headerHopsRow.holds Try.pinned (OpenSpec.ofChange headerHopsSpec)

/-- ITS FALSE NEIGHBOUR: 'it returns false'. Refute it at one input. -/
def headerHopsWrong : ChangeSpec := { name := "headerHops", fn := fun _ => fun
  | [d] => { results := [.lit (.bool false)], args := [d] }
  | _ => none }
def HeaderHopsWrongFalsely : Prop := headerHopsRow.holds Try.pinned (OpenSpec.ofChange headerHopsWrong)

/-- 'rivuletlaw05.HeaderBytes': WHATEVER THE INPUT: true; the input reads as it did. -/
def headerBytesSpec : ChangeSpec := { name := "headerBytes", fn := fun _ => fun
  | [d1, d2] => { results := [.lit (.bool true)], args := [d1, d2] }
  | _ => none }
def headerBytesRow : OpenClaim := { program := "ytndiddfleidnaaa", sum := "35de75bacec98ab59c5e82e4136186ef4d3eb3a867799a55e2da45beab39aa66", func := "rivulet/rivuletlaw05.HeaderBytes", spec := "headerBytes", apart := false }
def HeaderBytesSaid : Prop := headerBytesRow.holds Try.pinned (OpenSpec.ofChange headerBytesSpec)

/-- ITS FALSE NEIGHBOUR: 'it returns false'. Refute it at one input. -/
def headerBytesWrong : ChangeSpec := { name := "headerBytes", fn := fun _ => fun
  | [d1, d2] => { results := [.lit (.bool false)], args := [d1, d2] }
  | _ => none }
def HeaderBytesWrongFalsely : Prop := headerBytesRow.holds Try.pinned (OpenSpec.ofChange headerBytesWrong)

/-- 'rivuletlaw05.HeaderDecodes': WHATEVER THE INPUT: true; the input reads as it did. -/
def headerDecodesSpec : ChangeSpec := { name := "headerDecodes", fn := fun _ => fun
  | [d] => { results := [.lit (.bool true)], args := [d] }
  | _ => none }
def headerDecodesRow : OpenClaim := { program := "ytndiddfleidnaaa", sum := "35de75bacec98ab59c5e82e4136186ef4d3eb3a867799a55e2da45beab39aa66", func := "rivulet/rivuletlaw05.HeaderDecodes", spec := "headerDecodes", apart := false }
def HeaderDecodesSaid : Prop := headerDecodesRow.holds Try.pinned (OpenSpec.ofChange headerDecodesSpec)

/-- ITS FALSE NEIGHBOUR: 'it returns false'. Refute it at one input. -/
def headerDecodesWrong : ChangeSpec := { name := "headerDecodes", fn := fun _ => fun
  | [d] => { results := [.lit (.bool false)], args := [d] }
  | _ => none }
def HeaderDecodesWrongFalsely : Prop := headerDecodesRow.holds Try.pinned (OpenSpec.ofChange headerDecodesWrong)

/-- 'rivuletlaw04.SumHeaders': WHATEVER THE INPUT: true; the input reads as it did. -/
def sumHeadersSpec : ChangeSpec := { name := "sumHeaders", fn := fun _ => fun
  | [d1, d2, d3, d4, d5] => { results := [.lit (.bool true)], args := [d1, d2, d3, d4, d5] }
  | _ => none }
def sumHeadersRow : OpenClaim := { program := "ytndiddfleidnaaa", sum := "35de75bacec98ab59c5e82e4136186ef4d3eb3a867799a55e2da45beab39aa66", func := "rivulet/rivuletlaw04.SumHeaders", spec := "sumHeaders", apart := false }
def SumHeadersSaid : Prop := sumHeadersRow.holds Try.pinned (OpenSpec.ofChange sumHeadersSpec)

/-- ITS FALSE NEIGHBOUR: 'it returns false'. Refute it at one input. -/
def sumHeadersWrong : ChangeSpec := { name := "sumHeaders", fn := fun _ => fun
  | [d1, d2, d3, d4, d5] => { results := [.lit (.bool false)], args := [d1, d2, d3, d4, d5] }
  | _ => none }
def SumHeadersWrongFalsely : Prop := sumHeadersRow.holds Try.pinned (OpenSpec.ofChange sumHeadersWrong)

/-- 'rivuletlaw07.OptionJoins': WHATEVER THE INPUT: true; the input reads as it did. -/
def optionJoinsSpec : ChangeSpec := { name := "optionJoins", fn := fun _ => fun
  | [d1, d2] => { results := [.lit (.bool true)], args := [d1, d2] }
  | _ => none }
def optionJoinsRow : OpenClaim := { program := "ytndiddfleidnaaa", sum := "35de75bacec98ab59c5e82e4136186ef4d3eb3a867799a55e2da45beab39aa66", func := "rivulet/rivuletlaw07.OptionJoins", spec := "optionJoins", unfollowed := true, recurses := true, apart := false }
def OptionJoinsSaid : Prop := optionJoinsRow.holds Try.pinned (OpenSpec.ofChange optionJoinsSpec)

/-- ITS FALSE NEIGHBOUR: 'it returns false'. Refute it at one input. -/
def optionJoinsWrong : ChangeSpec := { name := "optionJoins", fn := fun _ => fun
  | [d1, d2] => { results := [.lit (.bool false)], args := [d1, d2] }
  | _ => none }
def OptionJoinsWrongFalsely : Prop := optionJoinsRow.holds Try.pinned (OpenSpec.ofChange optionJoinsWrong)

/-- 'rivuletlaw07.OptionFinds': WHATEVER THE INPUT: true; the input reads as it did. -/
def optionFindsSpec : ChangeSpec := { name := "optionFinds", fn := fun _ => fun
  | [d1, d2, d3] => { results := [.lit (.bool true)], args := [d1, d2, d3] }
  | _ => none }
def optionFindsRow : OpenClaim := { program := "ytndiddfleidnaaa", sum := "35de75bacec98ab59c5e82e4136186ef4d3eb3a867799a55e2da45beab39aa66", func := "rivulet/rivuletlaw07.OptionFinds", spec := "optionFinds", unfollowed := true, recurses := true, apart := false }
def OptionFindsSaid : Prop := optionFindsRow.holds Try.pinned (OpenSpec.ofChange optionFindsSpec)

/-- ITS FALSE NEIGHBOUR: 'it returns false'. Refute it at one input. -/
def optionFindsWrong : ChangeSpec := { name := "optionFinds", fn := fun _ => fun
  | [d1, d2, d3] => { results := [.lit (.bool false)], args := [d1, d2, d3] }
  | _ => none }
def OptionFindsWrongFalsely : Prop := optionFindsRow.holds Try.pinned (OpenSpec.ofChange optionFindsWrong)

/-- 'rivuletlaw07.OptionDecodes': WHATEVER THE INPUT: true; the input reads as it did. -/
def optionDecodesSpec : ChangeSpec := { name := "optionDecodes", fn := fun _ => fun
  | [d] => { results := [.lit (.bool true)], args := [d] }
  | _ => none }
def optionDecodesRow : OpenClaim := { program := "ytndiddfleidnaaa", sum := "35de75bacec98ab59c5e82e4136186ef4d3eb3a867799a55e2da45beab39aa66", func := "rivulet/rivuletlaw07.OptionDecodes", spec := "optionDecodes", unfollowed := true, recurses := true, apart := false }
def OptionDecodesSaid : Prop := optionDecodesRow.holds Try.pinned (OpenSpec.ofChange optionDecodesSpec)

/-- ITS FALSE NEIGHBOUR: 'it returns false'. Refute it at one input. -/
def optionDecodesWrong : ChangeSpec := { name := "optionDecodes", fn := fun _ => fun
  | [d] => { results := [.lit (.bool false)], args := [d] }
  | _ => none }
def OptionDecodesWrongFalsely : Prop := optionDecodesRow.holds Try.pinned (OpenSpec.ofChange optionDecodesWrong)

/-- 'rivuletlaw07.OptionBytes': WHATEVER THE INPUT: true; the input reads as it did. -/
def optionBytesSpec : ChangeSpec := { name := "optionBytes", fn := fun _ => fun
  | [d1, d2] => { results := [.lit (.bool true)], args := [d1, d2] }
  | _ => none }
def optionBytesRow : OpenClaim := { program := "ytndiddfleidnaaa", sum := "35de75bacec98ab59c5e82e4136186ef4d3eb3a867799a55e2da45beab39aa66", func := "rivulet/rivuletlaw07.OptionBytes", spec := "optionBytes", unfollowed := true, recurses := true, apart := false }
def OptionBytesSaid : Prop := optionBytesRow.holds Try.pinned (OpenSpec.ofChange optionBytesSpec)

/-- ITS FALSE NEIGHBOUR: 'it returns false'. Refute it at one input. -/
def optionBytesWrong : ChangeSpec := { name := "optionBytes", fn := fun _ => fun
  | [d1, d2] => { results := [.lit (.bool false)], args := [d1, d2] }
  | _ => none }
def OptionBytesWrongFalsely : Prop := optionBytesRow.holds Try.pinned (OpenSpec.ofChange optionBytesWrong)

/-- 'rivuletlaw08.ControlTells': WHATEVER THE INPUT: true; the input reads as it did. -/
def controlTellsSpec : ChangeSpec := { name := "controlTells", fn := fun _ => fun
  | [d1, d2, d3] => { results := [.lit (.bool true)], args := [d1, d2, d3] }
  | _ => none }
def controlTellsRow : OpenClaim := { program := "ytndiddfleidnaaa", sum := "35de75bacec98ab59c5e82e4136186ef4d3eb3a867799a55e2da45beab39aa66", func := "rivulet/rivuletlaw08.ControlTells", spec := "controlTells", unfollowed := true, recurses := true, apart := false }
def ControlTellsSaid : Prop := controlTellsRow.holds Try.pinned (OpenSpec.ofChange controlTellsSpec)

/-- ITS FALSE NEIGHBOUR: 'it returns false'. Refute it at one input. -/
def controlTellsWrong : ChangeSpec := { name := "controlTells", fn := fun _ => fun
  | [d1, d2, d3] => { results := [.lit (.bool false)], args := [d1, d2, d3] }
  | _ => none }
def ControlTellsWrongFalsely : Prop := controlTellsRow.holds Try.pinned (OpenSpec.ofChange controlTellsWrong)

/-- 'rivuletlaw08.ControlDecodes': WHATEVER THE INPUT: true; the input reads as it did. -/
def controlDecodesSpec : ChangeSpec := { name := "controlDecodes", fn := fun _ => fun
  | [d1, d2] => { results := [.lit (.bool true)], args := [d1, d2] }
  | _ => none }
def controlDecodesRow : OpenClaim := { program := "ytndiddfleidnaaa", sum := "35de75bacec98ab59c5e82e4136186ef4d3eb3a867799a55e2da45beab39aa66", func := "rivulet/rivuletlaw08.ControlDecodes", spec := "controlDecodes", unfollowed := true, recurses := true, apart := false }
def ControlDecodesSaid : Prop := controlDecodesRow.holds Try.pinned (OpenSpec.ofChange controlDecodesSpec)

/-- ITS FALSE NEIGHBOUR: 'it returns false'. Refute it at one input. -/
def controlDecodesWrong : ChangeSpec := { name := "controlDecodes", fn := fun _ => fun
  | [d1, d2] => { results := [.lit (.bool false)], args := [d1, d2] }
  | _ => none }
def ControlDecodesWrongFalsely : Prop := controlDecodesRow.holds Try.pinned (OpenSpec.ofChange controlDecodesWrong)

/-- 'rivuletlaw08.ControlBytes': WHATEVER THE INPUT: true; the input reads as it did. -/
def controlBytesSpec : ChangeSpec := { name := "controlBytes", fn := fun _ => fun
  | [d1, d2] => { results := [.lit (.bool true)], args := [d1, d2] }
  | _ => none }
def controlBytesRow : OpenClaim := { program := "ytndiddfleidnaaa", sum := "35de75bacec98ab59c5e82e4136186ef4d3eb3a867799a55e2da45beab39aa66", func := "rivulet/rivuletlaw08.ControlBytes", spec := "controlBytes", unfollowed := true, recurses := true, apart := false }
def ControlBytesSaid : Prop := controlBytesRow.holds Try.pinned (OpenSpec.ofChange controlBytesSpec)

/-- ITS FALSE NEIGHBOUR: 'it returns false'. Refute it at one input. -/
def controlBytesWrong : ChangeSpec := { name := "controlBytes", fn := fun _ => fun
  | [d1, d2] => { results := [.lit (.bool false)], args := [d1, d2] }
  | _ => none }
def ControlBytesWrongFalsely : Prop := controlBytesRow.holds Try.pinned (OpenSpec.ofChange controlBytesWrong)

/-- 'rivuletlaw09.DatagramBends': WHATEVER THE INPUT: true; the input reads as it did. -/
def datagramBendsSpec : ChangeSpec := { name := "datagramBends", fn := fun _ => fun
  | [d1, d2, d3] => { results := [.lit (.bool true)], args := [d1, d2, d3] }
  | _ => none }
def datagramBendsRow : OpenClaim := { program := "ytndiddfleidnaaa", sum := "35de75bacec98ab59c5e82e4136186ef4d3eb3a867799a55e2da45beab39aa66", func := "rivulet/rivuletlaw09.DatagramBends", spec := "datagramBends", unfollowed := true, recurses := true, apart := false }
def DatagramBendsSaid : Prop := datagramBendsRow.holds Try.pinned (OpenSpec.ofChange datagramBendsSpec)

/-- ITS FALSE NEIGHBOUR: 'it returns false'. Refute it at one input. -/
def datagramBendsWrong : ChangeSpec := { name := "datagramBends", fn := fun _ => fun
  | [d1, d2, d3] => { results := [.lit (.bool false)], args := [d1, d2, d3] }
  | _ => none }
def DatagramBendsWrongFalsely : Prop := datagramBendsRow.holds Try.pinned (OpenSpec.ofChange datagramBendsWrong)

/- THE SECOND FORM. 'bulk': how many values and letters a reading holds, each counted each time it is reached (what is shared counts as often as it is met; a slice's spare places count too). A statement '..UptoSaid' is the law's where the arguments, and the package variables that the reading takes, are together of bulk at most 1048576: NARROWER than '..Said'. Prove '..Said' where nothing that the law and all that it calls make is longer than what came in: it says more and counts as full. Else prove '..UptoSaid'. A law counts once. -/
mutual
def uptoBulk {H : Type} : DataW H → Nat
  | .lit (.string bytes) => bytes.length + 1
  | .lit _ => 1
  | .nil => 1
  | .ptr d => uptoBulk d + 1
  | .slice elems spare => uptoBulkAll elems + uptoBulkAll spare + 1
  | .agg parts => uptoBulkAll parts + 1
  | .iface _ d => uptoBulk d + 1
  | .map entries => uptoBulkEntries entries + 1
  | .held _ => 1
def uptoBulkAll {H : Type} : List (DataW H) → Nat
  | [] => 0
  | d :: r => uptoBulk d + uptoBulkAll r
def uptoBulkEntries {H : Type} : List (Lit × DataW H) → Nat
  | [] => 0
  | x :: r => uptoBulkEntry x + uptoBulkEntries r
def uptoBulkEntry {H : Type} : Lit × DataW H → Nat
  | (.string bytes, d) => bytes.length + uptoBulk d + 1
  | (_, d) => uptoBulk d + 1
 end
def uptoSmall : (H : Type) → List (DataW H) → Bool := fun _ ds => decide (uptoBulkAll ds ≤ 1048576)
def OpenSpec.upto (s : _root_.Go.ChangeSpec) : _root_.Go.OpenSpec := { _root_.Go.OpenSpec.ofChange s with cond := some uptoSmall }

/-- 'rivuletlaw05.HeaderHops', WHERE WHAT IT READS IS OF BULK AT MOST 1048576: true; the input reads as it did. -/
def headerHopsUptoRow : OpenClaim := { program := "ytndiddfleidnaaa", sum := "35de75bacec98ab59c5e82e4136186ef4d3eb3a867799a55e2da45beab39aa66", func := "rivulet/rivuletlaw05.HeaderHops", spec := "headerHops", apart := false, narrowed := true }
def HeaderHopsUptoSaid : Prop := headerHopsUptoRow.holds Try.pinned (OpenSpec.upto headerHopsSpec)

/-- 'rivuletlaw05.HeaderBytes', WHERE WHAT IT READS IS OF BULK AT MOST 1048576: true; the input reads as it did. -/
def headerBytesUptoRow : OpenClaim := { program := "ytndiddfleidnaaa", sum := "35de75bacec98ab59c5e82e4136186ef4d3eb3a867799a55e2da45beab39aa66", func := "rivulet/rivuletlaw05.HeaderBytes", spec := "headerBytes", apart := false, narrowed := true }
def HeaderBytesUptoSaid : Prop := headerBytesUptoRow.holds Try.pinned (OpenSpec.upto headerBytesSpec)

/-- 'rivuletlaw05.HeaderDecodes', WHERE WHAT IT READS IS OF BULK AT MOST 1048576: true; the input reads as it did. -/
def headerDecodesUptoRow : OpenClaim := { program := "ytndiddfleidnaaa", sum := "35de75bacec98ab59c5e82e4136186ef4d3eb3a867799a55e2da45beab39aa66", func := "rivulet/rivuletlaw05.HeaderDecodes", spec := "headerDecodes", apart := false, narrowed := true }
def HeaderDecodesUptoSaid : Prop := headerDecodesUptoRow.holds Try.pinned (OpenSpec.upto headerDecodesSpec)

/-- 'rivuletlaw04.SumHeaders', WHERE WHAT IT READS IS OF BULK AT MOST 1048576: true; the input reads as it did. -/
def sumHeadersUptoRow : OpenClaim := { program := "ytndiddfleidnaaa", sum := "35de75bacec98ab59c5e82e4136186ef4d3eb3a867799a55e2da45beab39aa66", func := "rivulet/rivuletlaw04.SumHeaders", spec := "sumHeaders", apart := false, narrowed := true }
def SumHeadersUptoSaid : Prop := sumHeadersUptoRow.holds Try.pinned (OpenSpec.upto sumHeadersSpec)

/-- 'rivuletlaw07.OptionJoins', WHERE WHAT IT READS IS OF BULK AT MOST 1048576: true; the input reads as it did. -/
def optionJoinsUptoRow : OpenClaim := { program := "ytndiddfleidnaaa", sum := "35de75bacec98ab59c5e82e4136186ef4d3eb3a867799a55e2da45beab39aa66", func := "rivulet/rivuletlaw07.OptionJoins", spec := "optionJoins", unfollowed := true, recurses := true, apart := false, narrowed := true }
def OptionJoinsUptoSaid : Prop := optionJoinsUptoRow.holds Try.pinned (OpenSpec.upto optionJoinsSpec)

/-- 'rivuletlaw07.OptionFinds', WHERE WHAT IT READS IS OF BULK AT MOST 1048576: true; the input reads as it did. -/
def optionFindsUptoRow : OpenClaim := { program := "ytndiddfleidnaaa", sum := "35de75bacec98ab59c5e82e4136186ef4d3eb3a867799a55e2da45beab39aa66", func := "rivulet/rivuletlaw07.OptionFinds", spec := "optionFinds", unfollowed := true, recurses := true, apart := false, narrowed := true }
def OptionFindsUptoSaid : Prop := optionFindsUptoRow.holds Try.pinned (OpenSpec.upto optionFindsSpec)

/-- 'rivuletlaw07.OptionDecodes', WHERE WHAT IT READS IS OF BULK AT MOST 1048576: true; the input reads as it did. -/
def optionDecodesUptoRow : OpenClaim := { program := "ytndiddfleidnaaa", sum := "35de75bacec98ab59c5e82e4136186ef4d3eb3a867799a55e2da45beab39aa66", func := "rivulet/rivuletlaw07.OptionDecodes", spec := "optionDecodes", unfollowed := true, recurses := true, apart := false, narrowed := true }
def OptionDecodesUptoSaid : Prop := optionDecodesUptoRow.holds Try.pinned (OpenSpec.upto optionDecodesSpec)

/-- 'rivuletlaw07.OptionBytes', WHERE WHAT IT READS IS OF BULK AT MOST 1048576: true; the input reads as it did. -/
def optionBytesUptoRow : OpenClaim := { program := "ytndiddfleidnaaa", sum := "35de75bacec98ab59c5e82e4136186ef4d3eb3a867799a55e2da45beab39aa66", func := "rivulet/rivuletlaw07.OptionBytes", spec := "optionBytes", unfollowed := true, recurses := true, apart := false, narrowed := true }
def OptionBytesUptoSaid : Prop := optionBytesUptoRow.holds Try.pinned (OpenSpec.upto optionBytesSpec)

/-- 'rivuletlaw08.ControlTells', WHERE WHAT IT READS IS OF BULK AT MOST 1048576: true; the input reads as it did. -/
def controlTellsUptoRow : OpenClaim := { program := "ytndiddfleidnaaa", sum := "35de75bacec98ab59c5e82e4136186ef4d3eb3a867799a55e2da45beab39aa66", func := "rivulet/rivuletlaw08.ControlTells", spec := "controlTells", unfollowed := true, recurses := true, apart := false, narrowed := true }
def ControlTellsUptoSaid : Prop := controlTellsUptoRow.holds Try.pinned (OpenSpec.upto controlTellsSpec)

/-- 'rivuletlaw08.ControlDecodes', WHERE WHAT IT READS IS OF BULK AT MOST 1048576: true; the input reads as it did. -/
def controlDecodesUptoRow : OpenClaim := { program := "ytndiddfleidnaaa", sum := "35de75bacec98ab59c5e82e4136186ef4d3eb3a867799a55e2da45beab39aa66", func := "rivulet/rivuletlaw08.ControlDecodes", spec := "controlDecodes", unfollowed := true, recurses := true, apart := false, narrowed := true }
def ControlDecodesUptoSaid : Prop := controlDecodesUptoRow.holds Try.pinned (OpenSpec.upto controlDecodesSpec)

/-- 'rivuletlaw08.ControlBytes', WHERE WHAT IT READS IS OF BULK AT MOST 1048576: true; the input reads as it did. -/
def controlBytesUptoRow : OpenClaim := { program := "ytndiddfleidnaaa", sum := "35de75bacec98ab59c5e82e4136186ef4d3eb3a867799a55e2da45beab39aa66", func := "rivulet/rivuletlaw08.ControlBytes", spec := "controlBytes", unfollowed := true, recurses := true, apart := false, narrowed := true }
def ControlBytesUptoSaid : Prop := controlBytesUptoRow.holds Try.pinned (OpenSpec.upto controlBytesSpec)

/-- 'rivuletlaw09.DatagramBends', WHERE WHAT IT READS IS OF BULK AT MOST 1048576: true; the input reads as it did. -/
def datagramBendsUptoRow : OpenClaim := { program := "ytndiddfleidnaaa", sum := "35de75bacec98ab59c5e82e4136186ef4d3eb3a867799a55e2da45beab39aa66", func := "rivulet/rivuletlaw09.DatagramBends", spec := "datagramBends", unfollowed := true, recurses := true, apart := false, narrowed := true }
def DatagramBendsUptoSaid : Prop := datagramBendsUptoRow.holds Try.pinned (OpenSpec.upto datagramBendsSpec)

end Rows
end Go.Proofs.Ytndiddfleidnaaa
