/- Maps whose keys are whole numbers: looked up, updated, struck, cleared, counted; what the model's entries read as is a list. -/
import Derived.Test.YtijfocnneccccaaRs
import Derived.MapKept
import Derived.Scope
set_option maxRecDepth 100000
set_option linter.unusedVariables false
set_option linter.unusedSimpArgs false
namespace Go.Proofs.Ytijfocnneccccaa.Mi
open Go.RowKit Go.Proofs.YtijfocnneccccaaW.PrintWords Go.Proofs.Ytijfocnneccccaa.Ds
open Go.Proofs.Ytijfocnneccccaa.Pk (Kp)
open Go.MapKept (Stamped)
section
variable {α : Type}
/-- The entries read as this list, in their order; no key twice. -/
structure MapI (enc : α → Value) (es : Array MapEntry) (ck : Nat) (l : List (Int × α)) : Prop where
 st : Stamped es ck
 en : es.toList.map (fun e => (e.key, e.val)) = l.map (fun p => (Value.int .i64 p.1, enc p.2))
 wf : ∀ p ∈ l, (Lit.int .i64 p.1).wf = true
variable {enc : α → Value} {es : Array MapEntry} {ck : Nat} {l : List (Int × α)}
theorem MapI.size (h : MapI enc es ck l) : es.size = l.length := by
 have := congrArg List.length h.en
 simpa using this
end
section
variable {α : Type} {P : Program} {w : World} {mt kt et : TypeId} {enc : α → Value} {es : Array MapEntry} {ck r : Nat} {l : List (Int × α)}
end
section
variable {α : Type} {enc : α → Value} {l : List (Int × α)} {P : Program} {R : Array Oper} {Q : Exit → Act → World → Prop} {K : Act → World → Prop} {i n : Nat} {a : Act} {w : World} {m : List (Nat × Value)} {T : TypeId} {g : Option (Nat × Bool)} {d : Nat} {v : Value} {X Y Z : Operand} {T1 T2 kt ie et : TypeId} {es : Array MapEntry} {ck r : Nat} {x : Int}
end
section
variable {P : Program} {T T1 T2 : TypeId} {m : List (Nat × Value)} {w : World} {X Y : Operand} {b : Bool}
theorem st_eqlP {p : Option Addr} (hT : P.underlying T1 = some (.pointer (P.pointee T1))) (h1 : ev m X = some (.pointer p)) (h2 : ev m Y = some (.pointer none)) (hb : p.isNone = b) : Still P (.binOp .eql T1 X Y T2) T m w (.bool b) := fun n a hE o e1 e2 => by
 subst hb; unfold execOp; rw [e1]
 simp [hE.ev h1, hE.ev h2, eqGuard, run_eql_pointer_nil w T1 p hT]
end
section
variable {a : Act} {w : World} {Q : Exit → Act → World → Prop}
end
end Go.Proofs.Ytijfocnneccccaa.Mi
