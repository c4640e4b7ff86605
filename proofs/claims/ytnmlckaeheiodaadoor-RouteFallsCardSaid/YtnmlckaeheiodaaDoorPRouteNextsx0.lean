/- Cut from what the kit's print printed. -/
import Derived.Test.YtnmlckaeheiodaaDoorProg
import Derived.Below
import Derived.Deep.Draws
import Derived.Deep.AppendLies
import Derived.Maps.AppendAt
import Derived.OwnWalk
import Derived.Laws.BytesArg
import Derived.Laws.MakeOwn
import Derived.Laws.OwnMore
import Derived.Deep.OwnRows
import Derived.Tactics
import Derived.Lib.ConvBytes
import Derived.Laws.Slices
import Derived.WalkKit
import Derived.KernelRfl
import Derived.RowKit3
import Derived.Deep.LoopGhost
import Derived.Deep.QuietTactic
import Derived.BigQuiet
import Derived.WideLaws
import Derived.Deep.DeepCutAuto
import Derived.Deep.CutBlock
import Derived.Deep.RegionHeld3
import Derived.Laws.Rows
import Derived.Lib.AppendStr
import Derived.ArgAppend
import Derived.Laws.IdiomCopy
import Derived.OrdersHeld
import Derived.Laws.BitsLemmas
import Derived.RowKit
import Derived.Test.YtnmlckaeheiodaaDoorWWords
import Derived.Test.YtnmlckaeheiodaaDoorWLast
import Derived.Test.YtnmlckaeheiodaaDoorWTab
import Derived.Test.YtnmlckaeheiodaaDoorWFour
import Derived.Test.YtnmlckaeheiodaaDoorWQPut
import Derived.Test.YtnmlckaeheiodaaDoorWApart
import Derived.Test.YtnmlckaeheiodaaDoorWArr
import Derived.Test.YtnmlckaeheiodaaDoorWZeros
import Derived.Test.YtnmlckaeheiodaaDoorWFoot
import Derived.Test.YtnmlckaeheiodaaDoorWKept
import Derived.Test.YtnmlckaeheiodaaDoorWShare
import Derived.Test.YtnmlckaeheiodaaDoorWN
import Derived.Test.YtnmlckaeheiodaaDoorWFootNe
import Derived.Test.YtnmlckaeheiodaaDoorWAt
import Derived.Test.YtnmlckaeheiodaaDoorWEqStruct
import Derived.Test.YtnmlckaeheiodaaDoorWRepsOne
import Derived.Test.YtnmlckaeheiodaaDoorWInv
import Derived.Test.YtnmlckaeheiodaaDoorWInvWords
import Derived.Test.YtnmlckaeheiodaaDoorWGuard
import Derived.Test.YtnmlckaeheiodaaDoorWNEv
import Derived.Test.YtnmlckaeheiodaaDoorWMore
namespace Go.Proofs.YtnmlckaeheiodaaDoor.PRouteNexts
open Go.RowKit Go.Proofs.YtnmlckaeheiodaaDoorW.PrintWords Go.Proofs.YtnmlckaeheiodaaDoorW.PrintLast Go.Proofs.YtnmlckaeheiodaaDoorW.PrintMore
attribute [local go_sem] max2_int min2_int max_two min_two max_three min_three max_four min_four   -- for this text's walks alone
set_option linter.unusedVariables false
set_option linter.unusedSimpArgs false



def errW : Option Int → Value
 | none => .nilIface
 | some c => .iface 0 (.int .i64 c)
theorem errW_none : errW none = .nilIface := rfl
theorem errW_some (c : Int) : errW (some c) = .iface 0 (.int .i64 c) := rfl

-- the values' own types
/-! #### struct type 61 -/
structure S61 where
 f0 : Int
 f1 : Int
 f2 : Int
 f3 : Int
def z61 : S61 := ⟨(0 : Int), (0 : Int), (0 : Int), (0 : Int)⟩
def k61 : Kd S61 := Kd.iso (Kd.pair (Kd.int .i64) (Kd.pair (Kd.int .i64) (Kd.pair (Kd.int .i64) (Kd.int .i64)))) (fun x : S61 => (x.f0, x.f1, x.f2, x.f3))
theorem k61_open {w : World} {x : S61} {cs : List Value} (h : k61.K w x cs) : cs = [.int .i64 x.f0, .int .i64 x.f1, .int .i64 x.f2, .int .i64 x.f3] := by
 obtain ⟨_, _, rfl, rfl, ⟨_, _, rfl, rfl, ⟨_, _, rfl, rfl, rfl⟩⟩⟩ := h
 exact rfl
def rd_T61 (xs : List S61) (i : Int) : S61 := xs.getD i.toNat z61
theorem at_T61 {w : World} {A : Option Addr} {n : Nat} {xs : List S61} (h : Kd.C k61 w A n xs) (i : Int) (h0 : 0 ≤ i) (h1 : i < n) : ∃ ad , A = some ad ∧ w.cell? (ad.add (i.toNat * 4)) = some (.int .i64 (rd_T61 xs i).f0) ∧ w.cell? ⟨(ad.add (i.toNat * 4)).block, (ad.add (i.toNat * 4)).off + 1, none⟩ = some (.int .i64 (rd_T61 xs i).f1) ∧ w.cell? ⟨(ad.add (i.toNat * 4)).block, (ad.add (i.toNat * 4)).off + 2, none⟩ = some (.int .i64 (rd_T61 xs i).f2) ∧ w.cell? ⟨(ad.add (i.toNat * 4)).block, (ad.add (i.toNat * 4)).off + 3, none⟩ = some (.int .i64 (rd_T61 xs i).f3) := by
 obtain ⟨ad, c, e, _, hK, hc0⟩ := Kd.C_get h z61 i h0 h1
 have hc : ∀ j u, c[j]? = some u → w.cell? (ad.add (i.toNat * 4 + j)) = some u := hc0
 obtain rfl := k61_open hK
 exact ⟨ad, e, hc 0 _ rfl, by rw [← add_field _ _ 1 (by omega)]; exact hc 1 _ rfl, by rw [← add_field _ _ 2 (by omega)]; exact hc 2 _ rfl, by rw [← add_field _ _ 3 (by omega)]; exact hc 3 _ rfl⟩

/-! #### struct type 109 -/
structure S109 where
 f0 : Int
 f1 : Int
 f2 : Int
/-! #### struct type 112 -/
structure S112 where
 f0 : Int
 f1 : Int
 f2 : Int
def z112 : S112 := ⟨(0 : Int), (0 : Int), (0 : Int)⟩
/-! #### struct type 24 -/
structure S24 where
 f0 : Int
 f1 : Int
 f2 : Bool
 f3 : (List S61)
def z24 : S24 := ⟨(0 : Int), (0 : Int), false, ([] : List S61)⟩
end Go.Proofs.YtnmlckaeheiodaaDoor.PRouteNexts
