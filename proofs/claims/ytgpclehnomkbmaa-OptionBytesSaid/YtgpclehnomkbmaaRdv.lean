/- Rows of structs that are read alone: parts of them, appended behind a row of the call's own. -/
import Derived.Test.YtgpclehnomkbmaaRs
set_option maxRecDepth 100000
set_option linter.unusedVariables false
set_option linter.unusedSimpArgs false
namespace Go.Proofs.Ytgpclehnomkbmaa.Rv
open Go.RowKit Go.Proofs.YtgpclehnomkbmaaW.PrintWords Go.Proofs.Ytgpclehnomkbmaa.Ds
open Go.Proofs.Ytgpclehnomkbmaa.Pk (Kp)
/-- n elements of s cells lie at A. -/
structure RdV (w : World) (A : Option Addr) (n s : Nat) (ys : List Value) : Prop where
 len : ys.length = n * s
 ones : ∀ u ∈ ys, u.oneCell' = true
 there : 0 < n → A = some (A.getD default)
 low : ∀ k, OB A k → k < w.heap.size
 at_ : ∀ j u, ys[j]? = some u → w.cell? (ea A j) = some u
section
variable {P : Program} {R : Array Oper} {Q : Exit → Act → World → Prop} {K : Act → World → Prop} {i n : Nat} {a : Act} {w : World} {m : List (Nat × Value)} {T T1 : TypeId} {g : Option (Nat × Bool)} {d : Nat} {X Y : Operand}
end
section
variable {P : Program} {R : Array Oper} {Q : Exit → Act → World → Prop} {S : World → Prop} {i n fuel d : Nat} {a : Act} {w : World} {m : List (Nat × Value)} {op : Op} {T : TypeId} {v : Value} {g : Option (Nat × Bool)} {listed listed' : Array Bool}
/-- Taken first, said short. -/
theorem dq (hp : pj R i = some (some d, op, T, g)) (hs : Region.noSelect R = true) (hE : En n a m) (hw : Wn R m g true) (hS : S w) (hv : ∀ w, S w → Still P op T m w v) (h : ∀ a, En n a ((d, v) :: m) → wpAnyH P .any R Q S fuel listed' a w)
  (hQ : ∀ c a w, Q (.panic c) (a.put (some d) v) w → Q (.panic c) a w := by exact fun _ _ _ h => h) (hf : Region.free .any R listed i = true := by kernel_rfl) (hr : (Region.ready .any R listed).contains i = true := by kernel_rfl) (hd : Nat.blt d n = true := by rfl) (hl : listed.setIfInBounds i true = listed' := by rfl) : wpAnyH P .any R Q S (fuel + 1) listed a w := d_take hp hs hf hr hQ hE hw hd hS hv hl h
end
/-- Ways that meet: what follows is proved once. -/
theorem join_have {P : Program} {c y : Code} {Q : Exit → Act → World → Prop} {I : Act → World → Prop} {a : Act} {w : World} (h2 : ∀ a W, I a W → y.wp P Q a W) (h : (∀ a W, I a W → y.wp P Q a W) → c.wp P Q a w) : c.wp P Q a w := h h2
end Go.Proofs.Ytgpclehnomkbmaa.Rv
