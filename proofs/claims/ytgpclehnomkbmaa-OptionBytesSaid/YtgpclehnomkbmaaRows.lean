/-
  No cell of these rows narrows 'for every input' (looked for: loops, veiled, ifaces, maps, wideKeys, modest, calm, conditions, laid).
  DERIVED. THE GIVEN ROWS OF THIS SEAT. 6 by the template 'for every input the law returns true; each argument reads behind the call as it read before'; 0 by the template 'total and deterministic' (their statements: YtgpclehnomkbmaaTotals.lean).
  GIVEN WITH THE SEED: the statements are not yours to turn. If you find one false, say at which input.
  Laid BY PROGRAM, IN A SANDBOX (cutbox-rows.mjs): the forced cells as the released guide's own fill.sh prints them over the translation aa105306622165a6… (all of the seat's roots in one cut). By AI agents, Wed Nov 11 2026. No macro, syntax, notation, axiom, sorry.
-/
import Derived.Test.YtgpclehnomkbmaaChecked
import GoSem.Claim
import GoSem.ClaimJoined
import GoSem.ClaimMapViews
import Derived.JoinedTies
import Derived.KernelRfl
namespace Go.Proofs.Ytgpclehnomkbmaa
/- THE CELL 'sum', in the pinned program and in every row, IS THE sha256 OF THE DUMP (.gsa) THAT YtgpclehnomkbmaaProg.lean LOADS. Nothing in Lean hashes anything: it is a label: what it is worth is what the hold of that sum in a sandbox is worth. -/
noncomputable def Try.pinned : Pinned := { name := "ytgpclehnomkbmaa", sum := "aa105306622165a69e23d10ee5c0d236904c8c15c43b09ddde55e3ef02bde715", checked := Try.checked }
namespace Rows
def none {H : Type} : Left H := { results := [], args := [] }

/-- 'rivuletlaw07.OptionDecodes': WHATEVER THE INPUT: true; the input reads as it did. -/
def optionDecodesSpec : ChangeSpec := { name := "optionDecodes", fn := fun _ => fun
  | [d] => { results := [.lit (.bool true)], args := [d] }
  | _ => none }
def optionDecodesRow : OpenClaim := { program := "ytgpclehnomkbmaa", sum := "aa105306622165a69e23d10ee5c0d236904c8c15c43b09ddde55e3ef02bde715", func := "rivulet/rivuletlaw07.OptionDecodes", spec := "optionDecodes", unfollowed := true, recurses := true, apart := false }
def OptionDecodesSaid : Prop := optionDecodesRow.holds Try.pinned (OpenSpec.ofChange optionDecodesSpec)

/-- ITS FALSE NEIGHBOUR: 'it returns false'. Refute it at one input. -/
def optionDecodesWrong : ChangeSpec := { name := "optionDecodes", fn := fun _ => fun
  | [d] => { results := [.lit (.bool false)], args := [d] }
  | _ => none }
def OptionDecodesWrongFalsely : Prop := optionDecodesRow.holds Try.pinned (OpenSpec.ofChange optionDecodesWrong)

/-- 'rivuletlaw07.OptionBytes': WHATEVER THE INPUT: true; the input reads as it did. -/
def optionBytesSpec : ChangeSpec := { name := "optionBytes", fn := fun _ => fun
  | [d1, d2] => { results := [.lit (.bool true)], args := [d1, d2] }
  | _ => none }
def optionBytesRow : OpenClaim := { program := "ytgpclehnomkbmaa", sum := "aa105306622165a69e23d10ee5c0d236904c8c15c43b09ddde55e3ef02bde715", func := "rivulet/rivuletlaw07.OptionBytes", spec := "optionBytes", unfollowed := true, recurses := true, apart := false }
def OptionBytesSaid : Prop := optionBytesRow.holds Try.pinned (OpenSpec.ofChange optionBytesSpec)

/-- ITS FALSE NEIGHBOUR: 'it returns false'. Refute it at one input. -/
def optionBytesWrong : ChangeSpec := { name := "optionBytes", fn := fun _ => fun
  | [d1, d2] => { results := [.lit (.bool false)], args := [d1, d2] }
  | _ => none }
def OptionBytesWrongFalsely : Prop := optionBytesRow.holds Try.pinned (OpenSpec.ofChange optionBytesWrong)

/-- 'rivuletlaw08.ControlDecodes': WHATEVER THE INPUT: true; the input reads as it did. -/
def controlDecodesSpec : ChangeSpec := { name := "controlDecodes", fn := fun _ => fun
  | [d1, d2] => { results := [.lit (.bool true)], args := [d1, d2] }
  | _ => none }
def controlDecodesRow : OpenClaim := { program := "ytgpclehnomkbmaa", sum := "aa105306622165a69e23d10ee5c0d236904c8c15c43b09ddde55e3ef02bde715", func := "rivulet/rivuletlaw08.ControlDecodes", spec := "controlDecodes", unfollowed := true, recurses := true, apart := false }
def ControlDecodesSaid : Prop := controlDecodesRow.holds Try.pinned (OpenSpec.ofChange controlDecodesSpec)

/-- ITS FALSE NEIGHBOUR: 'it returns false'. Refute it at one input. -/
def controlDecodesWrong : ChangeSpec := { name := "controlDecodes", fn := fun _ => fun
  | [d1, d2] => { results := [.lit (.bool false)], args := [d1, d2] }
  | _ => none }
def ControlDecodesWrongFalsely : Prop := controlDecodesRow.holds Try.pinned (OpenSpec.ofChange controlDecodesWrong)

/-- 'rivuletlaw08.ControlBytes': WHATEVER THE INPUT: true; the input reads as it did. -/
def controlBytesSpec : ChangeSpec := { name := "controlBytes", fn := fun _ => fun
  | [d1, d2] => { results := [.lit (.bool true)], args := [d1, d2] }
  | _ => none }
def controlBytesRow : OpenClaim := { program := "ytgpclehnomkbmaa", sum := "aa105306622165a69e23d10ee5c0d236904c8c15c43b09ddde55e3ef02bde715", func := "rivulet/rivuletlaw08.ControlBytes", spec := "controlBytes", unfollowed := true, recurses := true, apart := false }
def ControlBytesSaid : Prop := controlBytesRow.holds Try.pinned (OpenSpec.ofChange controlBytesSpec)

/-- ITS FALSE NEIGHBOUR: 'it returns false'. Refute it at one input. -/
def controlBytesWrong : ChangeSpec := { name := "controlBytes", fn := fun _ => fun
  | [d1, d2] => { results := [.lit (.bool false)], args := [d1, d2] }
  | _ => none }
def ControlBytesWrongFalsely : Prop := controlBytesRow.holds Try.pinned (OpenSpec.ofChange controlBytesWrong)

/-- 'rivuletlaw09.DatagramBends': WHATEVER THE INPUT: true; the input reads as it did. -/
def datagramBendsSpec : ChangeSpec := { name := "datagramBends", fn := fun _ => fun
  | [d1, d2, d3] => { results := [.lit (.bool true)], args := [d1, d2, d3] }
  | _ => none }
def datagramBendsRow : OpenClaim := { program := "ytgpclehnomkbmaa", sum := "aa105306622165a69e23d10ee5c0d236904c8c15c43b09ddde55e3ef02bde715", func := "rivulet/rivuletlaw09.DatagramBends", spec := "datagramBends", unfollowed := true, recurses := true, apart := false }
def DatagramBendsSaid : Prop := datagramBendsRow.holds Try.pinned (OpenSpec.ofChange datagramBendsSpec)

/-- ITS FALSE NEIGHBOUR: 'it returns false'. Refute it at one input. -/
def datagramBendsWrong : ChangeSpec := { name := "datagramBends", fn := fun _ => fun
  | [d1, d2, d3] => { results := [.lit (.bool false)], args := [d1, d2, d3] }
  | _ => none }
def DatagramBendsWrongFalsely : Prop := datagramBendsRow.holds Try.pinned (OpenSpec.ofChange datagramBendsWrong)

/-- 'rivuletlaw20.UplinkMessages': WHATEVER THE INPUT: true; the input reads as it did. -/
def uplinkMessagesSpec : ChangeSpec := { name := "uplinkMessages", fn := fun _ => fun
  | [d1, d2, d3, d4] => { results := [.lit (.bool true)], args := [d1, d2, d3, d4] }
  | _ => none }
def uplinkMessagesRow : OpenClaim := { program := "ytgpclehnomkbmaa", sum := "aa105306622165a69e23d10ee5c0d236904c8c15c43b09ddde55e3ef02bde715", func := "rivulet/rivuletlaw20.UplinkMessages", spec := "uplinkMessages", unfollowed := true, recurses := true, apart := false }
def UplinkMessagesSaid : Prop := uplinkMessagesRow.holds Try.pinned (OpenSpec.ofChange uplinkMessagesSpec)

/-- ITS FALSE NEIGHBOUR: 'it returns false'. Refute it at one input. -/
def uplinkMessagesWrong : ChangeSpec := { name := "uplinkMessages", fn := fun _ => fun
  | [d1, d2, d3, d4] => { results := [.lit (.bool false)], args := [d1, d2, d3, d4] }
  | _ => none }
def UplinkMessagesWrongFalsely : Prop := uplinkMessagesRow.holds Try.pinned (OpenSpec.ofChange uplinkMessagesWrong)

/- THE SECOND FORM. 'bulk': how many values and letters a reading holds, each counted each time it is reached (what is shared counts as often as it is met; a slice's spare places count too). A statement '..UptoSaid' is the law's where the arguments, and the package variables that the reading takes, are together of bulk at most 1048576: NARROWER than '..Said'. Prove '..Said' where nothing that the law and all that it calls make is longer than what came in: it says more and counts as full. Else prove '..UptoSaid'. A law counts once. -/
mutual
def uptoBulk {H : Type} : DataW H → Nat
  | .lit (.string bytes) => bytes.length + 1
  | .lit _ => 1
  | .nil => 1
  | .ptr d => uptoBulk d + 1
  | .slice elems spare => uptoBulkAll elems + uptoBulkAll spare + 1
  | .agg parts => uptoBulkAll parts + 1
  | .iface _ d => uptoBulk d + 1
  | .map entries => uptoBulkEntries entries + 1
  | .held _ => 1
def uptoBulkAll {H : Type} : List (DataW H) → Nat
  | [] => 0
  | d :: r => uptoBulk d + uptoBulkAll r
def uptoBulkEntries {H : Type} : List (Lit × DataW H) → Nat
  | [] => 0
  | x :: r => uptoBulkEntry x + uptoBulkEntries r
def uptoBulkEntry {H : Type} : Lit × DataW H → Nat
  | (.string bytes, d) => bytes.length + uptoBulk d + 1
  | (_, d) => uptoBulk d + 1
 end
def uptoSmall : (H : Type) → List (DataW H) → Bool := fun _ ds => decide (uptoBulkAll ds ≤ 1048576)
def OpenSpec.upto (s : _root_.Go.ChangeSpec) : _root_.Go.OpenSpec := { _root_.Go.OpenSpec.ofChange s with cond := some uptoSmall }

/-- 'rivuletlaw07.OptionDecodes', WHERE WHAT IT READS IS OF BULK AT MOST 1048576: true; the input reads as it did. -/
def optionDecodesUptoRow : OpenClaim := { program := "ytgpclehnomkbmaa", sum := "aa105306622165a69e23d10ee5c0d236904c8c15c43b09ddde55e3ef02bde715", func := "rivulet/rivuletlaw07.OptionDecodes", spec := "optionDecodes", unfollowed := true, recurses := true, apart := false, narrowed := true }
def OptionDecodesUptoSaid : Prop := optionDecodesUptoRow.holds Try.pinned (OpenSpec.upto optionDecodesSpec)

/-- 'rivuletlaw07.OptionBytes', WHERE WHAT IT READS IS OF BULK AT MOST 1048576: true; the input reads as it did. -/
def optionBytesUptoRow : OpenClaim := { program := "ytgpclehnomkbmaa", sum := "aa105306622165a69e23d10ee5c0d236904c8c15c43b09ddde55e3ef02bde715", func := "rivulet/rivuletlaw07.OptionBytes", spec := "optionBytes", unfollowed := true, recurses := true, apart := false, narrowed := true }
def OptionBytesUptoSaid : Prop := optionBytesUptoRow.holds Try.pinned (OpenSpec.upto optionBytesSpec)

/-- 'rivuletlaw08.ControlDecodes', WHERE WHAT IT READS IS OF BULK AT MOST 1048576: true; the input reads as it did. -/
def controlDecodesUptoRow : OpenClaim := { program := "ytgpclehnomkbmaa", sum := "aa105306622165a69e23d10ee5c0d236904c8c15c43b09ddde55e3ef02bde715", func := "rivulet/rivuletlaw08.ControlDecodes", spec := "controlDecodes", unfollowed := true, recurses := true, apart := false, narrowed := true }
def ControlDecodesUptoSaid : Prop := controlDecodesUptoRow.holds Try.pinned (OpenSpec.upto controlDecodesSpec)

/-- 'rivuletlaw08.ControlBytes', WHERE WHAT IT READS IS OF BULK AT MOST 1048576: true; the input reads as it did. -/
def controlBytesUptoRow : OpenClaim := { program := "ytgpclehnomkbmaa", sum := "aa105306622165a69e23d10ee5c0d236904c8c15c43b09ddde55e3ef02bde715", func := "rivulet/rivuletlaw08.ControlBytes", spec := "controlBytes", unfollowed := true, recurses := true, apart := false, narrowed := true }
def ControlBytesUptoSaid : Prop := controlBytesUptoRow.holds Try.pinned (OpenSpec.upto controlBytesSpec)

/-- 'rivuletlaw09.DatagramBends', WHERE WHAT IT READS IS OF BULK AT MOST 1048576: true; the input reads as it did. -/
def datagramBendsUptoRow : OpenClaim := { program := "ytgpclehnomkbmaa", sum := "aa105306622165a69e23d10ee5c0d236904c8c15c43b09ddde55e3ef02bde715", func := "rivulet/rivuletlaw09.DatagramBends", spec := "datagramBends", unfollowed := true, recurses := true, apart := false, narrowed := true }
def DatagramBendsUptoSaid : Prop := datagramBendsUptoRow.holds Try.pinned (OpenSpec.upto datagramBendsSpec)

/-- 'rivuletlaw20.UplinkMessages', WHERE WHAT IT READS IS OF BULK AT MOST 1048576: true; the input reads as it did. -/
def uplinkMessagesUptoRow : OpenClaim := { program := "ytgpclehnomkbmaa", sum := "aa105306622165a69e23d10ee5c0d236904c8c15c43b09ddde55e3ef02bde715", func := "rivulet/rivuletlaw20.UplinkMessages", spec := "uplinkMessages", unfollowed := true, recurses := true, apart := false, narrowed := true }
def UplinkMessagesUptoSaid : Prop := uplinkMessagesUptoRow.holds Try.pinned (OpenSpec.upto uplinkMessagesSpec)

end Rows
end Go.Proofs.Ytgpclehnomkbmaa
