/- What a call keeps. No condition. -/
import Derived.Test.YtijfocnneccccaaWWords
import Derived.Test.YtijfocnneccccaaWKept
set_option linter.unusedVariables false
set_option linter.unusedSimpArgs false
namespace Go.Proofs.Ytijfocnneccccaa.Pk
open Go.RowKit Go.Proofs.YtijfocnneccccaaW.PrintWords
/-- What a call keeps: all blocks but those of S and the new ones; the outside world too. -/
structure Kp (w w' : World) (S : Nat → Prop) : Prop where
 kept : Kept w w' S
 os : w'.os = w.os
 tape : w'.tape = w.tape
 output : w'.output = w.output
theorem Kp.refl (w : World) (S : Nat → Prop) : Kp w w S := ⟨Kept.refl w S, rfl, rfl, rfl⟩
theorem Kp.then_ {w W W2 : World} {S S2 : Nat → Prop} (h : Kp w W S) (k : Kp W W2 S2) (hs : ∀ k, S2 k → S k ∨ w.heap.size ≤ k) : Kp w W2 S := ⟨h.kept.then_ k.kept hs, k.os.trans h.os, k.tape.trans h.tape, k.output.trans h.output⟩
theorem Kp.drew {w W : World} {S : Nat → Prop} (h : Kp w W S) : Kp w W.drew S := ⟨h.kept.drew, h.os, h.tape, h.output⟩
theorem Kp.drewN {w W : World} {S : Nat → Prop} (h : Kp w W S) (m : Nat) : Kp w (W.drewN m) S := ⟨h.kept.drewN m, h.os, h.tape, h.output⟩
theorem Kp.of_below {w W : World} (h : Below w.heap.size w W) (S : Nat → Prop) : Kp w W S := ⟨Kept.of_below h S, h.os, h.tape, h.output⟩
theorem Kp.below {w W W2 : World} {S : Nat → Prop} (h : Kp w W S) (hb : Below W.heap.size W W2) : Kp w W2 S := h.then_ (Kp.of_below hb (fun _ => False)) (fun _ hk => hk.elim)
theorem Kp.to {w W : World} {S : Nat → Prop} {B : Nat} (h : Kp w W S) (hB : B ≤ w.heap.size) (hs : ∀ k, S k → B ≤ k) : Below B w W := ⟨h.os, h.tape, h.output, h.kept.1, fun k hk => h.kept.2 k (by omega) (fun hS => by have := hs k hS; omega)⟩
theorem Kp.mono {w W : World} {S S' : Nat → Prop} (h : Kp w W S) (hs : ∀ k, S k → S' k) : Kp w W S' := ⟨h.kept.mono hs, h.os, h.tape, h.output⟩
theorem blk_new (w : World) (cs : Array Value) (T : TypeId) : (w.alloc (.cells cs T)).heap[w.heap.size]? = some (.cells cs T (0, 0)) := by
 show (w.heap.push _)[w.heap.size]? = _
 simp
theorem below_new (w : World) (o : Obj) : Below w.heap.size w (w.alloc o) := (Below.refl _ _).alloc (Nat.le_refl _) _
theorem bel {W w w' : World} (h : Below W.heap.size W w) (h' : Below w.heap.size w w') : Below W.heap.size W w' := h.trans (h'.mono h.size)
end Go.Proofs.Ytijfocnneccccaa.Pk
