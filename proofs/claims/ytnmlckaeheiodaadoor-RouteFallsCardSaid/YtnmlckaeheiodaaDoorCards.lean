/-
  DERIVED. GIVEN WITH THE SEED: THE CARDS: each row of YtnmlckaeheiodaaDoorRows.lean that lists a variable, with what it lists TIED to the program's text (the seventh form; the later family's looks); each row that meets fmt, with fmt's text TOLD by the authors' own Lean function (tested against real Go, not proved from fmt's source: count such statements apart). THE CARD IS WHAT COUNTS. Prove the row's statement (the work); the ties are given (YtnmlckaeheiodaaDoorTie.lean); close each card by the builder's one call (the guide's Derived/Test/ToyasCard.lean, 'card_holds'). Laid BY PROGRAM, IN A SANDBOX (cutbox-door.mjs). By AI agents, Wed Nov 11 2026. No macro, syntax, notation, axiom, sorry.
-/
import Derived.Test.YtnmlckaeheiodaaDoorRows
import GoSem.ClaimSeven
namespace Go.Proofs.YtnmlckaeheiodaaDoor
namespace Rows

/-- THE TIED CARD OF 'rivuletlaw21.RouteNexts'. -/
def routeNextsCard : Claim7 := { stood := { row := routeNextsRow, standIns := [], harness := (true, "f81c87f0e5ddf7e6c3b0ef626dfd58e45cb4eb3dc3ec3ae6ca1a0c5b08df16f6"), looks := false }, kinds := [], alts := [], laidByText := true, laidKinds := [.listed, .data], laidTests := true, laidLooks := .later }
def RouteNextsCardSaid : Prop := Claim7.holds Tryd.pinned (.plain (OpenSpec.ofChange routeNextsSpec)) routeNextsCard

/-- THE TIED CARD OF 'rivuletlaw21.RouteFalls'. -/
def routeFallsCard : Claim7 := { stood := { row := routeFallsRow, standIns := [], harness := (true, "f81c87f0e5ddf7e6c3b0ef626dfd58e45cb4eb3dc3ec3ae6ca1a0c5b08df16f6"), looks := false }, kinds := [], alts := [], laidByText := true, laidKinds := [.listed, .data], laidTests := true, laidLooks := .later }
def RouteFallsCardSaid : Prop := Claim7.holds Tryd.pinned (.plain (OpenSpec.ofChange routeFallsSpec)) routeFallsCard

/-- THE SECOND FORM's CARD OF 'rivuletlaw21.RouteNexts'. -/
def routeNextsUptoCard : Claim7 := { stood := { row := routeNextsUptoRow, standIns := [], harness := (true, "f81c87f0e5ddf7e6c3b0ef626dfd58e45cb4eb3dc3ec3ae6ca1a0c5b08df16f6"), looks := false }, kinds := [], alts := [], laidByText := true, laidKinds := [.listed, .data], laidTests := true, laidLooks := .later }
def RouteNextsUptoCardSaid : Prop := Claim7.holds Tryd.pinned (.plain (OpenSpec.upto routeNextsSpec)) routeNextsUptoCard

/-- THE SECOND FORM's CARD OF 'rivuletlaw21.RouteFalls'. -/
def routeFallsUptoCard : Claim7 := { stood := { row := routeFallsUptoRow, standIns := [], harness := (true, "f81c87f0e5ddf7e6c3b0ef626dfd58e45cb4eb3dc3ec3ae6ca1a0c5b08df16f6"), looks := false }, kinds := [], alts := [], laidByText := true, laidKinds := [.listed, .data], laidTests := true, laidLooks := .later }
def RouteFallsUptoCardSaid : Prop := Claim7.holds Tryd.pinned (.plain (OpenSpec.upto routeFallsSpec)) routeFallsUptoCard
end Rows
end Go.Proofs.YtnmlckaeheiodaaDoor
