/- Rows of structs that are read alone: parts of them, appended behind a row of the call's own. -/
import Derived.Test.YtijfocnneccccaaRs
set_option maxRecDepth 100000
set_option linter.unusedVariables false
set_option linter.unusedSimpArgs false
namespace Go.Proofs.Ytijfocnneccccaa.Rv
open Go.RowKit Go.Proofs.YtijfocnneccccaaW.PrintWords Go.Proofs.Ytijfocnneccccaa.Ds
open Go.Proofs.Ytijfocnneccccaa.Pk (Kp)
/-- n elements of s cells lie at A. -/
structure RdV (w : World) (A : Option Addr) (n s : Nat) (ys : List Value) : Prop where
 len : ys.length = n * s
 ones : ∀ u ∈ ys, u.oneCell' = true
 there : 0 < n → A = some (A.getD default)
 low : ∀ k, OB A k → k < w.heap.size
 at_ : ∀ j u, ys[j]? = some u → w.cell? (ea A j) = some u
section
variable {P : Program} {R : Array Oper} {Q : Exit → Act → World → Prop} {K : Act → World → Prop} {i n : Nat} {a : Act} {w : World} {m : List (Nat × Value)} {T T1 : TypeId} {g : Option (Nat × Bool)} {d : Nat} {X Y : Operand}
end
section
variable {P : Program} {R : Array Oper} {Q : Exit → Act → World → Prop} {S : World → Prop} {i n fuel d : Nat} {a : Act} {w : World} {m : List (Nat × Value)} {op : Op} {T : TypeId} {v : Value} {g : Option (Nat × Bool)} {listed listed' : Array Bool}
/-- Taken first, said short. -/
theorem dq (hp : pj R i = some (some d, op, T, g)) (hs : Region.noSelect R = true) (hE : En n a m) (hw : Wn R m g true) (hS : S w) (hv : ∀ w, S w → Still P op T m w v) (h : ∀ a, En n a ((d, v) :: m) → wpAnyH P .any R Q S fuel listed' a w)
  (hQ : ∀ c a w, Q (.panic c) (a.put (some d) v) w → Q (.panic c) a w := by exact fun _ _ _ h => h) (hf : Region.free .any R listed i = true := by kernel_rfl) (hr : (Region.ready .any R listed).contains i = true := by kernel_rfl) (hd : Nat.blt d n = true := by rfl) (hl : listed.setIfInBounds i true = listed' := by rfl) : wpAnyH P .any R Q S (fuel + 1) listed a w := d_take hp hs hf hr hQ hE hw hd hS hv hl h
theorem dk (hp : pj R i = some (some d, op, T, g)) (hs : Region.noSelect R = true) (hE : En n a m) (hw : Wn R m g false) (hS : S w) (h : ∀ a, En n a ((d, undef) :: m) → wpAnyH P .any R Q S fuel listed' a w)
  (hQ : ∀ c a w, Q (.panic c) (a.put (some d) undef) w → Q (.panic c) a w := by exact fun _ _ _ h => h) (hf : Region.free .any R listed i = true := by kernel_rfl) (hr : (Region.ready .any R listed).contains i = true := by kernel_rfl) (hd : Nat.blt d n = true := by rfl) (hl : listed.setIfInBounds i true = listed' := by rfl) : wpAnyH P .any R Q S (fuel + 1) listed a w := d_skip hp hs hf hr hQ hE hw hd hS hl h
end
/-- Runs of drawn operations. -/
def DR (P : Program) (R : Array Oper) (S : World → Prop) (n : Nat) (w : World) (fuel : Nat) (l : Array Bool) (m : List (Nat × Value)) (fuel' : Nat) (l' : Array Bool) (m' : List (Nat × Value)) : Prop := ∀ (Q : Exit → Act → World → Prop) (a : Act), Region.noSelect R = true → S w → (∀ c d v (a : Act) w, Q (.panic c) (a.put (some d) v) w → Q (.panic c) a w) → (∀ a, En n a m' → wpAnyH P .any R Q S fuel' l' a w) → En n a m → wpAnyH P .any R Q S fuel l a w
section
variable {P : Program} {R : Array Oper} {Q : Exit → Act → World → Prop} {i n d : Nat} {a : Act} {w : World} {m m' : List (Nat × Value)} {op : Op} {T : TypeId} {g : Option (Nat × Bool)} {v : Value} {S : World → Prop} {fuel fuel' : Nat} {listed l' l1 : Array Bool}
theorem dn : DR P R S n w fuel listed m fuel listed m := fun Q a _ _ _ h hE => h a hE
theorem dg (hp : pj R i = some (some d, op, T, g)) (hw : Wn R m g true) (hv : ∀ w, S w → Still P op T m w v) (hl : listed.setIfInBounds i true = l1) (h : DR P R S n w fuel l1 ((d, v) :: m) fuel' l' m') (hf : Region.free .any R listed i = true := by kernel_rfl) (hr : (Region.ready .any R listed).contains i = true := by kernel_rfl) (hd : Nat.blt d n = true := by rfl) : DR P R S n w (fuel + 1) listed m fuel' l' m' := fun Q a hs hS hQ h2 hE => dq hp hs hE hw hS hv (fun a hE => h Q a hs hS hQ h2 hE) (fun c a w => hQ c d v a w) hf hr hd hl
theorem dc (hp : pj R i = some (some d, op, T, none)) (hv : ∀ w, S w → Still P op T m w v) (hl : listed.setIfInBounds i true = l1) (h : DR P R S n w fuel l1 ((d, v) :: m) fuel' l' m') (hf : Region.free .any R listed i = true := by kernel_rfl) (hr : (Region.ready .any R listed).contains i = true := by kernel_rfl) (hd : Nat.blt d n = true := by rfl) : DR P R S n w (fuel + 1) listed m fuel' l' m' := dg hp wn_none hv hl h hf hr hd
theorem ds (hp : pj R i = some (some d, op, T, g)) (hw : Wn R m g false) (h : DR P R S n w fuel (listed.setIfInBounds i true) ((d, undef) :: m) fuel' l' m') (hf : Region.free .any R listed i = true := by kernel_rfl) (hr : (Region.ready .any R listed).contains i = true := by kernel_rfl) (hd : Nat.blt d n = true := by rfl) : DR P R S n w (fuel + 1) listed m fuel' l' m' := fun Q a hs hS hQ h2 hE => dk hp hs hE hw hS (fun a hE => h Q a hs hS hQ h2 hE) (fun c a w => hQ c d undef a w) hf hr hd rfl
theorem dm (hs : Region.noSelect R = true) (hE : En n a m) (hS : S w) (hr : DR P R S n w fuel listed m fuel' l' m') (h : ∀ a, En n a m' → wpAnyH P .any R Q S fuel' l' a w) (hQ : ∀ c d v (a : Act) w, Q (.panic c) (a.put (some d) v) w → Q (.panic c) a w := by exact fun _ _ _ _ _ h => h) : wpAnyH P .any R Q S fuel listed a w := hr Q a hs hS hQ h hE
end
end Go.Proofs.Ytijfocnneccccaa.Rv
