/-
  No cell of these rows narrows 'for every input' (looked for: loops, veiled, ifaces, maps, wideKeys, modest, calm, conditions, laid).
  DERIVED. THE GIVEN ROWS OF THIS SEAT. 5 by the template 'for every input the law returns true; each argument reads behind the call as it read before'; 0 by the template 'total and deterministic' (their statements: YtlmjbmeigclihaaTotals.lean).
  GIVEN WITH THE SEED: the statements are not yours to turn. If you find one false, say at which input.
  Laid BY PROGRAM, IN A SANDBOX (cutbox-rows.mjs): the forced cells as the released guide's own fill.sh prints them over the translation b74eb4afea7ba8d0… (all of the seat's roots in one cut). By AI agents, Wed Nov 11 2026. No macro, syntax, notation, axiom, sorry.
-/
import Derived.Test.YtlmjbmeigclihaaChecked
import GoSem.Claim
import GoSem.ClaimJoined
import GoSem.ClaimMapViews
import Derived.JoinedTies
import Derived.KernelRfl
namespace Go.Proofs.Ytlmjbmeigclihaa
/- THE CELL 'sum', in the pinned program and in every row, IS THE sha256 OF THE DUMP (.gsa) THAT YtlmjbmeigclihaaProg.lean LOADS. Nothing in Lean hashes anything: it is a label: what it is worth is what the hold of that sum in a sandbox is worth. -/
noncomputable def Try.pinned : Pinned := { name := "ytlmjbmeigclihaa", sum := "b74eb4afea7ba8d08131c2566ade15a525702b9e1f459429f63f09f1db75d9ab", checked := Try.checked }
namespace Rows
def none {H : Type} : Left H := { results := [], args := [] }

/-- 'rivuletlaw10.WheelOnce': WHATEVER THE INPUT: true; the input reads as it did. -/
def wheelOnceSpec : ChangeSpec := { name := "wheelOnce", fn := fun _ => fun
  | [d1, d2, d3, d4] => { results := [.lit (.bool true)], args := [d1, d2, d3, d4] }
  | _ => none }
def wheelOnceRow : OpenClaim := { program := "ytlmjbmeigclihaa", sum := "b74eb4afea7ba8d08131c2566ade15a525702b9e1f459429f63f09f1db75d9ab", func := "rivulet/rivuletlaw10.WheelOnce", spec := "wheelOnce", unfollowed := true, recurses := true, apart := false }
def WheelOnceSaid : Prop := wheelOnceRow.holds Try.pinned (OpenSpec.ofChange wheelOnceSpec)

/-- ITS FALSE NEIGHBOUR: 'it returns false'. Refute it at one input. -/
def wheelOnceWrong : ChangeSpec := { name := "wheelOnce", fn := fun _ => fun
  | [d1, d2, d3, d4] => { results := [.lit (.bool false)], args := [d1, d2, d3, d4] }
  | _ => none }
def WheelOnceWrongFalsely : Prop := wheelOnceRow.holds Try.pinned (OpenSpec.ofChange wheelOnceWrong)

/-- 'rivuletlaw10.WheelRuns': WHATEVER THE INPUT: true; the input reads as it did. -/
def wheelRunsSpec : ChangeSpec := { name := "wheelRuns", fn := fun _ => fun
  | [d1, d2] => { results := [.lit (.bool true)], args := [d1, d2] }
  | _ => none }
def wheelRunsRow : OpenClaim := { program := "ytlmjbmeigclihaa", sum := "b74eb4afea7ba8d08131c2566ade15a525702b9e1f459429f63f09f1db75d9ab", func := "rivulet/rivuletlaw10.WheelRuns", spec := "wheelRuns", inPlace := ["maps.clone"], unfollowed := true, recurses := true, apart := false }
def WheelRunsSaid : Prop := wheelRunsRow.holds Try.pinned (OpenSpec.ofChange wheelRunsSpec)

/-- ITS FALSE NEIGHBOUR: 'it returns false'. Refute it at one input. -/
def wheelRunsWrong : ChangeSpec := { name := "wheelRuns", fn := fun _ => fun
  | [d1, d2] => { results := [.lit (.bool false)], args := [d1, d2] }
  | _ => none }
def WheelRunsWrongFalsely : Prop := wheelRunsRow.holds Try.pinned (OpenSpec.ofChange wheelRunsWrong)

/-- 'rivuletlaw10.WheelPlays': WHATEVER THE INPUT: true; the input reads as it did. -/
def wheelPlaysSpec : ChangeSpec := { name := "wheelPlays", fn := fun _ => fun
  | [d] => { results := [.lit (.bool true)], args := [d] }
  | _ => none }
def wheelPlaysRow : OpenClaim := { program := "ytlmjbmeigclihaa", sum := "b74eb4afea7ba8d08131c2566ade15a525702b9e1f459429f63f09f1db75d9ab", func := "rivulet/rivuletlaw10.WheelPlays", spec := "wheelPlays", inPlace := ["maps.clone"], unfollowed := true, recurses := true, apart := false }
def WheelPlaysSaid : Prop := wheelPlaysRow.holds Try.pinned (OpenSpec.ofChange wheelPlaysSpec)

/-- ITS FALSE NEIGHBOUR: 'it returns false'. Refute it at one input. -/
def wheelPlaysWrong : ChangeSpec := { name := "wheelPlays", fn := fun _ => fun
  | [d] => { results := [.lit (.bool false)], args := [d] }
  | _ => none }
def WheelPlaysWrongFalsely : Prop := wheelPlaysRow.holds Try.pinned (OpenSpec.ofChange wheelPlaysWrong)

/-- 'rivuletlaw20.UplinkTries': WHATEVER THE INPUT: true; the input reads as it did. -/
def uplinkTriesSpec : ChangeSpec := { name := "uplinkTries", fn := fun _ => fun
  | [d1, d2, d3] => { results := [.lit (.bool true)], args := [d1, d2, d3] }
  | _ => none }
def uplinkTriesRow : OpenClaim := { program := "ytlmjbmeigclihaa", sum := "b74eb4afea7ba8d08131c2566ade15a525702b9e1f459429f63f09f1db75d9ab", func := "rivulet/rivuletlaw20.UplinkTries", spec := "uplinkTries", unfollowed := true, recurses := true, apart := false }
def UplinkTriesSaid : Prop := uplinkTriesRow.holds Try.pinned (OpenSpec.ofChange uplinkTriesSpec)

/-- ITS FALSE NEIGHBOUR: 'it returns false'. Refute it at one input. -/
def uplinkTriesWrong : ChangeSpec := { name := "uplinkTries", fn := fun _ => fun
  | [d1, d2, d3] => { results := [.lit (.bool false)], args := [d1, d2, d3] }
  | _ => none }
def UplinkTriesWrongFalsely : Prop := uplinkTriesRow.holds Try.pinned (OpenSpec.ofChange uplinkTriesWrong)

/-- 'rivuletlaw20.UplinkWaits': WHATEVER THE INPUT: true; the input reads as it did. -/
def uplinkWaitsSpec : ChangeSpec := { name := "uplinkWaits", fn := fun _ => fun
  | [d1, d2, d3] => { results := [.lit (.bool true)], args := [d1, d2, d3] }
  | _ => none }
def uplinkWaitsRow : OpenClaim := { program := "ytlmjbmeigclihaa", sum := "b74eb4afea7ba8d08131c2566ade15a525702b9e1f459429f63f09f1db75d9ab", func := "rivulet/rivuletlaw20.UplinkWaits", spec := "uplinkWaits", unfollowed := true, recurses := true, apart := false }
def UplinkWaitsSaid : Prop := uplinkWaitsRow.holds Try.pinned (OpenSpec.ofChange uplinkWaitsSpec)

/-- ITS FALSE NEIGHBOUR: 'it returns false'. Refute it at one input. -/
def uplinkWaitsWrong : ChangeSpec := { name := "uplinkWaits", fn := fun _ => fun
  | [d1, d2, d3] => { results := [.lit (.bool false)], args := [d1, d2, d3] }
  | _ => none }
def UplinkWaitsWrongFalsely : Prop := uplinkWaitsRow.holds Try.pinned (OpenSpec.ofChange uplinkWaitsWrong)

/- THE SECOND FORM. 'bulk': how many values and letters a reading holds, each counted each time it is reached (what is shared counts as often as it is met; a slice's spare places count too). A statement '..UptoSaid' is the law's where the arguments, and the package variables that the reading takes, are together of bulk at most 1048576: NARROWER than '..Said'. Prove '..Said' where nothing that the law and all that it calls make is longer than what came in: it says more and counts as full. Else prove '..UptoSaid'. A law counts once. -/
mutual
def uptoBulk {H : Type} : DataW H → Nat
  | .lit (.string bytes) => bytes.length + 1
  | .lit _ => 1
  | .nil => 1
  | .ptr d => uptoBulk d + 1
  | .slice elems spare => uptoBulkAll elems + uptoBulkAll spare + 1
  | .agg parts => uptoBulkAll parts + 1
  | .iface _ d => uptoBulk d + 1
  | .map entries => uptoBulkEntries entries + 1
  | .held _ => 1
def uptoBulkAll {H : Type} : List (DataW H) → Nat
  | [] => 0
  | d :: r => uptoBulk d + uptoBulkAll r
def uptoBulkEntries {H : Type} : List (Lit × DataW H) → Nat
  | [] => 0
  | x :: r => uptoBulkEntry x + uptoBulkEntries r
def uptoBulkEntry {H : Type} : Lit × DataW H → Nat
  | (.string bytes, d) => bytes.length + uptoBulk d + 1
  | (_, d) => uptoBulk d + 1
 end
def uptoSmall : (H : Type) → List (DataW H) → Bool := fun _ ds => decide (uptoBulkAll ds ≤ 1048576)
def OpenSpec.upto (s : _root_.Go.ChangeSpec) : _root_.Go.OpenSpec := { _root_.Go.OpenSpec.ofChange s with cond := some uptoSmall }

/-- 'rivuletlaw10.WheelOnce', WHERE WHAT IT READS IS OF BULK AT MOST 1048576: true; the input reads as it did. -/
def wheelOnceUptoRow : OpenClaim := { program := "ytlmjbmeigclihaa", sum := "b74eb4afea7ba8d08131c2566ade15a525702b9e1f459429f63f09f1db75d9ab", func := "rivulet/rivuletlaw10.WheelOnce", spec := "wheelOnce", unfollowed := true, recurses := true, apart := false, narrowed := true }
def WheelOnceUptoSaid : Prop := wheelOnceUptoRow.holds Try.pinned (OpenSpec.upto wheelOnceSpec)

/-- 'rivuletlaw10.WheelRuns', WHERE WHAT IT READS IS OF BULK AT MOST 1048576: true; the input reads as it did. -/
def wheelRunsUptoRow : OpenClaim := { program := "ytlmjbmeigclihaa", sum := "b74eb4afea7ba8d08131c2566ade15a525702b9e1f459429f63f09f1db75d9ab", func := "rivulet/rivuletlaw10.WheelRuns", spec := "wheelRuns", inPlace := ["maps.clone"], unfollowed := true, recurses := true, apart := false, narrowed := true }
def WheelRunsUptoSaid : Prop := wheelRunsUptoRow.holds Try.pinned (OpenSpec.upto wheelRunsSpec)

/-- 'rivuletlaw10.WheelPlays', WHERE WHAT IT READS IS OF BULK AT MOST 1048576: true; the input reads as it did. -/
def wheelPlaysUptoRow : OpenClaim := { program := "ytlmjbmeigclihaa", sum := "b74eb4afea7ba8d08131c2566ade15a525702b9e1f459429f63f09f1db75d9ab", func := "rivulet/rivuletlaw10.WheelPlays", spec := "wheelPlays", inPlace := ["maps.clone"], unfollowed := true, recurses := true, apart := false, narrowed := true }
def WheelPlaysUptoSaid : Prop := wheelPlaysUptoRow.holds Try.pinned (OpenSpec.upto wheelPlaysSpec)

/-- 'rivuletlaw20.UplinkTries', WHERE WHAT IT READS IS OF BULK AT MOST 1048576: true; the input reads as it did. -/
def uplinkTriesUptoRow : OpenClaim := { program := "ytlmjbmeigclihaa", sum := "b74eb4afea7ba8d08131c2566ade15a525702b9e1f459429f63f09f1db75d9ab", func := "rivulet/rivuletlaw20.UplinkTries", spec := "uplinkTries", unfollowed := true, recurses := true, apart := false, narrowed := true }
def UplinkTriesUptoSaid : Prop := uplinkTriesUptoRow.holds Try.pinned (OpenSpec.upto uplinkTriesSpec)

/-- 'rivuletlaw20.UplinkWaits', WHERE WHAT IT READS IS OF BULK AT MOST 1048576: true; the input reads as it did. -/
def uplinkWaitsUptoRow : OpenClaim := { program := "ytlmjbmeigclihaa", sum := "b74eb4afea7ba8d08131c2566ade15a525702b9e1f459429f63f09f1db75d9ab", func := "rivulet/rivuletlaw20.UplinkWaits", spec := "uplinkWaits", unfollowed := true, recurses := true, apart := false, narrowed := true }
def UplinkWaitsUptoSaid : Prop := uplinkWaitsUptoRow.holds Try.pinned (OpenSpec.upto uplinkWaitsSpec)

end Rows
end Go.Proofs.Ytlmjbmeigclihaa
