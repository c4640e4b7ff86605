/-
  No cell of these rows narrows 'for every input' (looked for: loops, veiled, ifaces, maps, wideKeys, modest, calm, conditions, laid).
  DERIVED. THE GIVEN ROWS OF THIS SEAT. 7 by the template 'for every input the law returns true; each argument reads behind the call as it read before'; 0 by the template 'total and deterministic' (their statements: YtpnpfapdjdcnbaaTotals.lean).
  GIVEN WITH THE SEED: the statements are not yours to turn. If you find one false, say at which input.
  Laid BY PROGRAM, IN A SANDBOX (cutbox-rows.mjs): the forced cells as the released guide's own fill.sh prints them over the translation 90ee36d480b08f9e… (all of the seat's roots in one cut). By AI agents, Wed Nov 11 2026. No macro, syntax, notation, axiom, sorry.
-/
import Derived.Test.YtpnpfapdjdcnbaaChecked
import GoSem.Claim
import GoSem.ClaimJoined
import GoSem.ClaimMapViews
import Derived.JoinedTies
import Derived.KernelRfl
namespace Go.Proofs.Ytpnpfapdjdcnbaa
/- THE CELL 'sum', in the pinned program and in every row, IS THE sha256 OF THE DUMP (.gsa) THAT YtpnpfapdjdcnbaaProg.lean LOADS. Nothing in Lean hashes anything: it is a label: what it is worth is what the hold of that sum in a sandbox is worth. -/
noncomputable def Try.pinned : Pinned := { name := "ytpnpfapdjdcnbaa", sum := "90ee36d480b08f9ead4ad6cfbaeb2e4b358fcb16a566f7edd2fba824d8cff041", checked := Try.checked }
namespace Rows
def none {H : Type} : Left H := { results := [], args := [] }

/-- 'rivuletlaw13.MetricRises': WHATEVER THE INPUT: true; the input reads as it did. -/
def metricRisesSpec : ChangeSpec := { name := "metricRises", fn := fun _ => fun
  | [d1, d2] => { results := [.lit (.bool true)], args := [d1, d2] }
  | _ => none }
def metricRisesRow : OpenClaim := { program := "ytpnpfapdjdcnbaa", sum := "90ee36d480b08f9ead4ad6cfbaeb2e4b358fcb16a566f7edd2fba824d8cff041", func := "rivulet/rivuletlaw13.MetricRises", spec := "metricRises", inPlace := ["math.RoundToEven", "math.Float64frombits"], plainKeys := false, apart := false }
def MetricRisesSaid : Prop := metricRisesRow.holds Try.pinned (OpenSpec.ofChange metricRisesSpec)

/-- ITS FALSE NEIGHBOUR: 'it returns false'. Refute it at one input. -/
def metricRisesWrong : ChangeSpec := { name := "metricRises", fn := fun _ => fun
  | [d1, d2] => { results := [.lit (.bool false)], args := [d1, d2] }
  | _ => none }
def MetricRisesWrongFalsely : Prop := metricRisesRow.holds Try.pinned (OpenSpec.ofChange metricRisesWrong)

/-- 'rivuletlaw13.MetricCosts': WHATEVER THE INPUT: true; the input reads as it did. -/
def metricCostsSpec : ChangeSpec := { name := "metricCosts", fn := fun _ => fun
  | [d1, d2] => { results := [.lit (.bool true)], args := [d1, d2] }
  | _ => none }
def metricCostsRow : OpenClaim := { program := "ytpnpfapdjdcnbaa", sum := "90ee36d480b08f9ead4ad6cfbaeb2e4b358fcb16a566f7edd2fba824d8cff041", func := "rivulet/rivuletlaw13.MetricCosts", spec := "metricCosts", inPlace := ["math.RoundToEven", "math.Float64frombits", "math.Float64bits"], plainKeys := false, apart := false }
def MetricCostsSaid : Prop := metricCostsRow.holds Try.pinned (OpenSpec.ofChange metricCostsSpec)

/-- ITS FALSE NEIGHBOUR: 'it returns false'. Refute it at one input. -/
def metricCostsWrong : ChangeSpec := { name := "metricCosts", fn := fun _ => fun
  | [d1, d2] => { results := [.lit (.bool false)], args := [d1, d2] }
  | _ => none }
def MetricCostsWrongFalsely : Prop := metricCostsRow.holds Try.pinned (OpenSpec.ofChange metricCostsWrong)

/-- 'rivuletlaw13.MetricLinks': WHATEVER THE INPUT: true; the input reads as it did. -/
def metricLinksSpec : ChangeSpec := { name := "metricLinks", fn := fun _ => fun
  | [d] => { results := [.lit (.bool true)], args := [d] }
  | _ => none }
def metricLinksRow : OpenClaim := { program := "ytpnpfapdjdcnbaa", sum := "90ee36d480b08f9ead4ad6cfbaeb2e4b358fcb16a566f7edd2fba824d8cff041", func := "rivulet/rivuletlaw13.MetricLinks", spec := "metricLinks", inPlace := ["math.RoundToEven", "math.Float64bits", "math.Float64frombits"], plainKeys := false, apart := false }
def MetricLinksSaid : Prop := metricLinksRow.holds Try.pinned (OpenSpec.ofChange metricLinksSpec)

/-- ITS FALSE NEIGHBOUR: 'it returns false'. Refute it at one input. -/
def metricLinksWrong : ChangeSpec := { name := "metricLinks", fn := fun _ => fun
  | [d] => { results := [.lit (.bool false)], args := [d] }
  | _ => none }
def MetricLinksWrongFalsely : Prop := metricLinksRow.holds Try.pinned (OpenSpec.ofChange metricLinksWrong)

/-- 'rivuletlaw13.MetricMeans': WHATEVER THE INPUT: true; the input reads as it did. -/
def metricMeansSpec : ChangeSpec := { name := "metricMeans", fn := fun _ => fun
  | [d] => { results := [.lit (.bool true)], args := [d] }
  | _ => none }
def metricMeansRow : OpenClaim := { program := "ytpnpfapdjdcnbaa", sum := "90ee36d480b08f9ead4ad6cfbaeb2e4b358fcb16a566f7edd2fba824d8cff041", func := "rivulet/rivuletlaw13.MetricMeans", spec := "metricMeans", inPlace := ["math.archMin", "math.Float64bits", "math.Float64frombits", "math.archMax", "math.RoundToEven"], plainKeys := false, apart := false }
def MetricMeansSaid : Prop := metricMeansRow.holds Try.pinned (OpenSpec.ofChange metricMeansSpec)

/-- ITS FALSE NEIGHBOUR: 'it returns false'. Refute it at one input. -/
def metricMeansWrong : ChangeSpec := { name := "metricMeans", fn := fun _ => fun
  | [d] => { results := [.lit (.bool false)], args := [d] }
  | _ => none }
def MetricMeansWrongFalsely : Prop := metricMeansRow.holds Try.pinned (OpenSpec.ofChange metricMeansWrong)

/-- 'rivuletlaw26.LinksNear': WHATEVER THE INPUT: true; the input reads as it did. -/
def linksNearSpec : ChangeSpec := { name := "linksNear", fn := fun _ => fun
  | [d1, d2, d3] => { results := [.lit (.bool true)], args := [d1, d2, d3] }
  | _ => none }
def linksNearRow : OpenClaim := { program := "ytpnpfapdjdcnbaa", sum := "90ee36d480b08f9ead4ad6cfbaeb2e4b358fcb16a566f7edd2fba824d8cff041", func := "rivulet/rivuletlaw26.LinksNear", spec := "linksNear", plainKeys := false, apart := false }
def LinksNearSaid : Prop := linksNearRow.holds Try.pinned (OpenSpec.ofChange linksNearSpec)

/-- ITS FALSE NEIGHBOUR: 'it returns false'. Refute it at one input. -/
def linksNearWrong : ChangeSpec := { name := "linksNear", fn := fun _ => fun
  | [d1, d2, d3] => { results := [.lit (.bool false)], args := [d1, d2, d3] }
  | _ => none }
def LinksNearWrongFalsely : Prop := linksNearRow.holds Try.pinned (OpenSpec.ofChange linksNearWrong)

/-- 'rivuletlaw26.LinksBoth': WHATEVER THE INPUT: true; the input reads as it did. -/
def linksBothSpec : ChangeSpec := { name := "linksBoth", fn := fun _ => fun
  | [d1, d2] => { results := [.lit (.bool true)], args := [d1, d2] }
  | _ => none }
def linksBothRow : OpenClaim := { program := "ytpnpfapdjdcnbaa", sum := "90ee36d480b08f9ead4ad6cfbaeb2e4b358fcb16a566f7edd2fba824d8cff041", func := "rivulet/rivuletlaw26.LinksBoth", spec := "linksBoth", plainKeys := false, apart := false }
def LinksBothSaid : Prop := linksBothRow.holds Try.pinned (OpenSpec.ofChange linksBothSpec)

/-- ITS FALSE NEIGHBOUR: 'it returns false'. Refute it at one input. -/
def linksBothWrong : ChangeSpec := { name := "linksBoth", fn := fun _ => fun
  | [d1, d2] => { results := [.lit (.bool false)], args := [d1, d2] }
  | _ => none }
def LinksBothWrongFalsely : Prop := linksBothRow.holds Try.pinned (OpenSpec.ofChange linksBothWrong)

/-- 'rivuletlaw26.LinksPlay': WHATEVER THE INPUT: true; the input reads as it did. -/
def linksPlaySpec : ChangeSpec := { name := "linksPlay", fn := fun _ => fun
  | [d1, d2, d3] => { results := [.lit (.bool true)], args := [d1, d2, d3] }
  | _ => none }
def linksPlayRow : OpenClaim := { program := "ytpnpfapdjdcnbaa", sum := "90ee36d480b08f9ead4ad6cfbaeb2e4b358fcb16a566f7edd2fba824d8cff041", func := "rivulet/rivuletlaw26.LinksPlay", spec := "linksPlay", inPlace := ["math.RoundToEven", "maps.clone"], plainKeys := false, apart := false }
def LinksPlaySaid : Prop := linksPlayRow.holds Try.pinned (OpenSpec.ofChange linksPlaySpec)

/-- ITS FALSE NEIGHBOUR: 'it returns false'. Refute it at one input. -/
def linksPlayWrong : ChangeSpec := { name := "linksPlay", fn := fun _ => fun
  | [d1, d2, d3] => { results := [.lit (.bool false)], args := [d1, d2, d3] }
  | _ => none }
def LinksPlayWrongFalsely : Prop := linksPlayRow.holds Try.pinned (OpenSpec.ofChange linksPlayWrong)

/- THE SECOND FORM. 'bulk': how many values and letters a reading holds, each counted each time it is reached (what is shared counts as often as it is met; a slice's spare places count too). A statement '..UptoSaid' is the law's where the arguments, and the package variables that the reading takes, are together of bulk at most 1048576: NARROWER than '..Said'. Prove '..Said' where nothing that the law and all that it calls make is longer than what came in: it says more and counts as full. Else prove '..UptoSaid'. A law counts once. -/
mutual
def uptoBulk {H : Type} : DataW H → Nat
  | .lit (.string bytes) => bytes.length + 1
  | .lit _ => 1
  | .nil => 1
  | .ptr d => uptoBulk d + 1
  | .slice elems spare => uptoBulkAll elems + uptoBulkAll spare + 1
  | .agg parts => uptoBulkAll parts + 1
  | .iface _ d => uptoBulk d + 1
  | .map entries => uptoBulkEntries entries + 1
  | .held _ => 1
def uptoBulkAll {H : Type} : List (DataW H) → Nat
  | [] => 0
  | d :: r => uptoBulk d + uptoBulkAll r
def uptoBulkEntries {H : Type} : List (Lit × DataW H) → Nat
  | [] => 0
  | x :: r => uptoBulkEntry x + uptoBulkEntries r
def uptoBulkEntry {H : Type} : Lit × DataW H → Nat
  | (.string bytes, d) => bytes.length + uptoBulk d + 1
  | (_, d) => uptoBulk d + 1
 end
def uptoSmall : (H : Type) → List (DataW H) → Bool := fun _ ds => decide (uptoBulkAll ds ≤ 1048576)
def OpenSpec.upto (s : _root_.Go.ChangeSpec) : _root_.Go.OpenSpec := { _root_.Go.OpenSpec.ofChange s with cond := some uptoSmall }

/-- 'rivuletlaw13.MetricRises', WHERE WHAT IT READS IS OF BULK AT MOST 1048576: true; the input reads as it did. -/
def metricRisesUptoRow : OpenClaim := { program := "ytpnpfapdjdcnbaa", sum := "90ee36d480b08f9ead4ad6cfbaeb2e4b358fcb16a566f7edd2fba824d8cff041", func := "rivulet/rivuletlaw13.MetricRises", spec := "metricRises", inPlace := ["math.RoundToEven", "math.Float64frombits"], plainKeys := false, apart := false, narrowed := true }
def MetricRisesUptoSaid : Prop := metricRisesUptoRow.holds Try.pinned (OpenSpec.upto metricRisesSpec)

/-- 'rivuletlaw13.MetricCosts', WHERE WHAT IT READS IS OF BULK AT MOST 1048576: true; the input reads as it did. -/
def metricCostsUptoRow : OpenClaim := { program := "ytpnpfapdjdcnbaa", sum := "90ee36d480b08f9ead4ad6cfbaeb2e4b358fcb16a566f7edd2fba824d8cff041", func := "rivulet/rivuletlaw13.MetricCosts", spec := "metricCosts", inPlace := ["math.RoundToEven", "math.Float64frombits", "math.Float64bits"], plainKeys := false, apart := false, narrowed := true }
def MetricCostsUptoSaid : Prop := metricCostsUptoRow.holds Try.pinned (OpenSpec.upto metricCostsSpec)

/-- 'rivuletlaw13.MetricLinks', WHERE WHAT IT READS IS OF BULK AT MOST 1048576: true; the input reads as it did. -/
def metricLinksUptoRow : OpenClaim := { program := "ytpnpfapdjdcnbaa", sum := "90ee36d480b08f9ead4ad6cfbaeb2e4b358fcb16a566f7edd2fba824d8cff041", func := "rivulet/rivuletlaw13.MetricLinks", spec := "metricLinks", inPlace := ["math.RoundToEven", "math.Float64bits", "math.Float64frombits"], plainKeys := false, apart := false, narrowed := true }
def MetricLinksUptoSaid : Prop := metricLinksUptoRow.holds Try.pinned (OpenSpec.upto metricLinksSpec)

/-- 'rivuletlaw13.MetricMeans', WHERE WHAT IT READS IS OF BULK AT MOST 1048576: true; the input reads as it did. -/
def metricMeansUptoRow : OpenClaim := { program := "ytpnpfapdjdcnbaa", sum := "90ee36d480b08f9ead4ad6cfbaeb2e4b358fcb16a566f7edd2fba824d8cff041", func := "rivulet/rivuletlaw13.MetricMeans", spec := "metricMeans", inPlace := ["math.archMin", "math.Float64bits", "math.Float64frombits", "math.archMax", "math.RoundToEven"], plainKeys := false, apart := false, narrowed := true }
def MetricMeansUptoSaid : Prop := metricMeansUptoRow.holds Try.pinned (OpenSpec.upto metricMeansSpec)

/-- 'rivuletlaw26.LinksNear', WHERE WHAT IT READS IS OF BULK AT MOST 1048576: true; the input reads as it did. -/
def linksNearUptoRow : OpenClaim := { program := "ytpnpfapdjdcnbaa", sum := "90ee36d480b08f9ead4ad6cfbaeb2e4b358fcb16a566f7edd2fba824d8cff041", func := "rivulet/rivuletlaw26.LinksNear", spec := "linksNear", plainKeys := false, apart := false, narrowed := true }
def LinksNearUptoSaid : Prop := linksNearUptoRow.holds Try.pinned (OpenSpec.upto linksNearSpec)

/-- 'rivuletlaw26.LinksBoth', WHERE WHAT IT READS IS OF BULK AT MOST 1048576: true; the input reads as it did. -/
def linksBothUptoRow : OpenClaim := { program := "ytpnpfapdjdcnbaa", sum := "90ee36d480b08f9ead4ad6cfbaeb2e4b358fcb16a566f7edd2fba824d8cff041", func := "rivulet/rivuletlaw26.LinksBoth", spec := "linksBoth", plainKeys := false, apart := false, narrowed := true }
def LinksBothUptoSaid : Prop := linksBothUptoRow.holds Try.pinned (OpenSpec.upto linksBothSpec)

/-- 'rivuletlaw26.LinksPlay', WHERE WHAT IT READS IS OF BULK AT MOST 1048576: true; the input reads as it did. -/
def linksPlayUptoRow : OpenClaim := { program := "ytpnpfapdjdcnbaa", sum := "90ee36d480b08f9ead4ad6cfbaeb2e4b358fcb16a566f7edd2fba824d8cff041", func := "rivulet/rivuletlaw26.LinksPlay", spec := "linksPlay", inPlace := ["math.RoundToEven", "maps.clone"], plainKeys := false, apart := false, narrowed := true }
def LinksPlayUptoSaid : Prop := linksPlayUptoRow.holds Try.pinned (OpenSpec.upto linksPlaySpec)

end Rows
end Go.Proofs.Ytpnpfapdjdcnbaa
