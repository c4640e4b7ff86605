/-
  No cell of these rows narrows 'for every input' (looked for: loops, veiled, ifaces, maps, wideKeys, modest, calm, conditions, laid).
  DERIVED. THE GIVEN ROWS OF THIS SEAT. 3 by the template 'for every input the law returns true; each argument reads behind the call as it read before'; 0 by the template 'total and deterministic' (their statements: YtijfocnneccccaaTotals.lean).
  GIVEN WITH THE SEED: the statements are not yours to turn. If you find one false, say at which input.
  Laid BY PROGRAM, IN A SANDBOX (cutbox-rows.mjs): the forced cells as the released guide's own fill.sh prints them over the translation c4c49e4b69c69961… (all of the seat's roots in one cut). By AI agents, Wed Nov 11 2026. No macro, syntax, notation, axiom, sorry.
-/
import Derived.Test.YtijfocnneccccaaChecked
import GoSem.Claim
import GoSem.ClaimJoined
import GoSem.ClaimMapViews
import Derived.JoinedTies
import Derived.KernelRfl
namespace Go.Proofs.Ytijfocnneccccaa
/- THE CELL 'sum', in the pinned program and in every row, IS THE sha256 OF THE DUMP (.gsa) THAT YtijfocnneccccaaProg.lean LOADS. Nothing in Lean hashes anything: it is a label: what it is worth is what the hold of that sum in a sandbox is worth. -/
noncomputable def Try.pinned : Pinned := { name := "ytijfocnneccccaa", sum := "c4c49e4b69c69961f7852057ef99dbc46b66926a697e3457dc0ab5a103cfaebb", checked := Try.checked }
namespace Rows
def none {H : Type} : Left H := { results := [], args := [] }

/-- 'rivuletlaw22.PacketTwice': WHATEVER THE INPUT: true; the input reads as it did. -/
def packetTwiceSpec : ChangeSpec := { name := "packetTwice", fn := fun _ => fun
  | [d1, d2] => { results := [.lit (.bool true)], args := [d1, d2] }
  | _ => none }
def packetTwiceRow : OpenClaim := { program := "ytijfocnneccccaa", sum := "c4c49e4b69c69961f7852057ef99dbc46b66926a697e3457dc0ab5a103cfaebb", func := "rivulet/rivuletlaw22.PacketTwice", spec := "packetTwice", unfollowed := true, recurses := true, apart := false }
def PacketTwiceSaid : Prop := packetTwiceRow.holds Try.pinned (OpenSpec.ofChange packetTwiceSpec)

/-- ITS FALSE NEIGHBOUR: 'it returns false'. Refute it at one input. -/
def packetTwiceWrong : ChangeSpec := { name := "packetTwice", fn := fun _ => fun
  | [d1, d2] => { results := [.lit (.bool false)], args := [d1, d2] }
  | _ => none }
def PacketTwiceWrongFalsely : Prop := packetTwiceRow.holds Try.pinned (OpenSpec.ofChange packetTwiceWrong)

/-- 'rivuletlaw09.DatagramBends': WHATEVER THE INPUT: true; the input reads as it did. -/
def datagramBendsSpec : ChangeSpec := { name := "datagramBends", fn := fun _ => fun
  | [d1, d2, d3] => { results := [.lit (.bool true)], args := [d1, d2, d3] }
  | _ => none }
def datagramBendsRow : OpenClaim := { program := "ytijfocnneccccaa", sum := "c4c49e4b69c69961f7852057ef99dbc46b66926a697e3457dc0ab5a103cfaebb", func := "rivulet/rivuletlaw09.DatagramBends", spec := "datagramBends", unfollowed := true, recurses := true, apart := false }
def DatagramBendsSaid : Prop := datagramBendsRow.holds Try.pinned (OpenSpec.ofChange datagramBendsSpec)

/-- ITS FALSE NEIGHBOUR: 'it returns false'. Refute it at one input. -/
def datagramBendsWrong : ChangeSpec := { name := "datagramBends", fn := fun _ => fun
  | [d1, d2, d3] => { results := [.lit (.bool false)], args := [d1, d2, d3] }
  | _ => none }
def DatagramBendsWrongFalsely : Prop := datagramBendsRow.holds Try.pinned (OpenSpec.ofChange datagramBendsWrong)

/-- 'rivuletlaw20.UplinkMessages': WHATEVER THE INPUT: true; the input reads as it did. -/
def uplinkMessagesSpec : ChangeSpec := { name := "uplinkMessages", fn := fun _ => fun
  | [d1, d2, d3, d4] => { results := [.lit (.bool true)], args := [d1, d2, d3, d4] }
  | _ => none }
def uplinkMessagesRow : OpenClaim := { program := "ytijfocnneccccaa", sum := "c4c49e4b69c69961f7852057ef99dbc46b66926a697e3457dc0ab5a103cfaebb", func := "rivulet/rivuletlaw20.UplinkMessages", spec := "uplinkMessages", unfollowed := true, recurses := true, apart := false }
def UplinkMessagesSaid : Prop := uplinkMessagesRow.holds Try.pinned (OpenSpec.ofChange uplinkMessagesSpec)

/-- ITS FALSE NEIGHBOUR: 'it returns false'. Refute it at one input. -/
def uplinkMessagesWrong : ChangeSpec := { name := "uplinkMessages", fn := fun _ => fun
  | [d1, d2, d3, d4] => { results := [.lit (.bool false)], args := [d1, d2, d3, d4] }
  | _ => none }
def UplinkMessagesWrongFalsely : Prop := uplinkMessagesRow.holds Try.pinned (OpenSpec.ofChange uplinkMessagesWrong)

/- THE SECOND FORM. 'bulk': how many values and letters a reading holds, each counted each time it is reached (what is shared counts as often as it is met; a slice's spare places count too). A statement '..UptoSaid' is the law's where the arguments, and the package variables that the reading takes, are together of bulk at most 1048576: NARROWER than '..Said'. Prove '..Said' where nothing that the law and all that it calls make is longer than what came in: it says more and counts as full. Else prove '..UptoSaid'. A law counts once. -/
mutual
def uptoBulk {H : Type} : DataW H → Nat
  | .lit (.string bytes) => bytes.length + 1
  | .lit _ => 1
  | .nil => 1
  | .ptr d => uptoBulk d + 1
  | .slice elems spare => uptoBulkAll elems + uptoBulkAll spare + 1
  | .agg parts => uptoBulkAll parts + 1
  | .iface _ d => uptoBulk d + 1
  | .map entries => uptoBulkEntries entries + 1
  | .held _ => 1
def uptoBulkAll {H : Type} : List (DataW H) → Nat
  | [] => 0
  | d :: r => uptoBulk d + uptoBulkAll r
def uptoBulkEntries {H : Type} : List (Lit × DataW H) → Nat
  | [] => 0
  | x :: r => uptoBulkEntry x + uptoBulkEntries r
def uptoBulkEntry {H : Type} : Lit × DataW H → Nat
  | (.string bytes, d) => bytes.length + uptoBulk d + 1
  | (_, d) => uptoBulk d + 1
 end
def uptoSmall : (H : Type) → List (DataW H) → Bool := fun _ ds => decide (uptoBulkAll ds ≤ 1048576)
def OpenSpec.upto (s : _root_.Go.ChangeSpec) : _root_.Go.OpenSpec := { _root_.Go.OpenSpec.ofChange s with cond := some uptoSmall }

/-- 'rivuletlaw22.PacketTwice', WHERE WHAT IT READS IS OF BULK AT MOST 1048576: true; the input reads as it did. -/
def packetTwiceUptoRow : OpenClaim := { program := "ytijfocnneccccaa", sum := "c4c49e4b69c69961f7852057ef99dbc46b66926a697e3457dc0ab5a103cfaebb", func := "rivulet/rivuletlaw22.PacketTwice", spec := "packetTwice", unfollowed := true, recurses := true, apart := false, narrowed := true }
def PacketTwiceUptoSaid : Prop := packetTwiceUptoRow.holds Try.pinned (OpenSpec.upto packetTwiceSpec)

/-- 'rivuletlaw09.DatagramBends', WHERE WHAT IT READS IS OF BULK AT MOST 1048576: true; the input reads as it did. -/
def datagramBendsUptoRow : OpenClaim := { program := "ytijfocnneccccaa", sum := "c4c49e4b69c69961f7852057ef99dbc46b66926a697e3457dc0ab5a103cfaebb", func := "rivulet/rivuletlaw09.DatagramBends", spec := "datagramBends", unfollowed := true, recurses := true, apart := false, narrowed := true }
def DatagramBendsUptoSaid : Prop := datagramBendsUptoRow.holds Try.pinned (OpenSpec.upto datagramBendsSpec)

/-- 'rivuletlaw20.UplinkMessages', WHERE WHAT IT READS IS OF BULK AT MOST 1048576: true; the input reads as it did. -/
def uplinkMessagesUptoRow : OpenClaim := { program := "ytijfocnneccccaa", sum := "c4c49e4b69c69961f7852057ef99dbc46b66926a697e3457dc0ab5a103cfaebb", func := "rivulet/rivuletlaw20.UplinkMessages", spec := "uplinkMessages", unfollowed := true, recurses := true, apart := false, narrowed := true }
def UplinkMessagesUptoSaid : Prop := uplinkMessagesUptoRow.holds Try.pinned (OpenSpec.upto uplinkMessagesSpec)

end Rows
end Go.Proofs.Ytijfocnneccccaa
