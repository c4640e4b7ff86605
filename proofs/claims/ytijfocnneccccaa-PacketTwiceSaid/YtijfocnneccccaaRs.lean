/- Steps of a walk: rows of structs. No condition. -/
import Derived.Test.YtijfocnneccccaaDs
set_option linter.unusedVariables false
set_option linter.unusedSimpArgs false
namespace Go.Proofs.Ytijfocnneccccaa.Ds
open Go.RowKit Go.Proofs.YtijfocnneccccaaW.PrintWords
open Go.Proofs.Ytijfocnneccccaa.Pk (Kp)
theorem pan_then {A : Act → World → Prop} {Q : Exit → Act → World → Prop} (h : ∀ c a d v w, Q (.panic c) (Act.put a d v) w → Q (.panic c) a w) : ∀ c a d v w, Exit.then A Q (.panic c) (Act.put a d v) w → Exit.then A Q (.panic c) a w := h
theorem pan_block {id : Nat} {Q : Exit → Act → World → Prop} (h : ∀ c a d v w, Q (.panic c) (Act.put a d v) w → Q (.panic c) a w) : ∀ c a d v w, Exit.inBlock id Q (.panic c) (Act.put a d v) w → Exit.inBlock id Q (.panic c) a w := h
section
variable {P : Program} {T T1 : TypeId} {m : List (Nat × Value)} {w : World} {X Y : Operand} {A : Option Addr} {n c s i off : Nat} {e : TypeId} {k' : IntKind} {v : Value}
theorem own_blk9 {w : World} {g base : Nat} {T : TypeId} {cs : Array Value} {k : IntKind} {l : List Int} (hb : w.heap[g]? = some (.cells cs T (0, 0))) (hg : base ≤ g) (hc : cs.toList = encs (Value.int k) l) (hl : l.length ≤ maxLen) : w.ownsRow base T 1 (.slice (some ⟨g, 0, none⟩) l.length l.length) l.length (encs (Value.int k) l) := by
 have e : (encs (Value.int k) l).length = l.length := by simp [encs]
 refine ⟨by rw [e, Nat.mul_one], .inr ⟨g, l.length, cs, rfl, hg, hb, Nat.le_refl _, hl, ?_, ?_⟩⟩
 · rw [← Array.length_toList, hc, e, Nat.mul_one]
 · rw [hc, Nat.mul_one, List.take_of_length_le (Nat.le_of_eq e)]
theorem ones {news : List Value} (h : news.all (·.oneCell') = true) : ∀ u ∈ news, u.oneCell' = true := List.all_eq_true.1 h
theorem C_to {α : Type} {d : Kd α} {xs : List α} {W : World} (h : d.C w A n xs) (hk : Kp w W (fun _ => False)) : d.C W A n xs := Kd.C_below h (hk.to (Nat.le_refl _) (fun _ h => h.elim))
end
section
variable {P : Program} {R : Array Oper} {Q : Exit → Act → World → Prop} {i n : Nat} {a : Act} {w : World} {m : List (Nat × Value)} {op : Op} {T : TypeId} {d : Nat} {v : Value} {rest : List Nat}
theorem q0 (hp : pj R i = some (some d, op, T, none)) (hE : En n a m) (hv : Still P op T m w v) (h : ∀ a, En n a ((d, v) :: m) → wpOps P R Q rest a w) (hd : Nat.blt d n = true := by rfl) : wpOps P R Q (i :: rest) a w := p_cons (s_still hp hE wn_none hd hv h)
/-- Runs of operations that leave the world, and a region's operations as one fact. -/
def SR (P : Program) (R : Array Oper) (n : Nat) (w : World) (l : List Nat) (m : List (Nat × Value)) (l' : List Nat) (m' : List (Nat × Value)) : Prop := ∀ (Q : Exit → Act → World → Prop) (a : Act), (∀ a, En n a m' → wpOps P R Q l' a w) → En n a m → wpOps P R Q l a w
theorem rn {l : List Nat} : SR P R n w l m l m := fun Q a h hE => h a hE
theorem rc {l l' : List Nat} {m' : List (Nat × Value)} (hp : pj R i = some (some d, op, T, none)) (hv : Still P op T m w v) (h : SR P R n w l ((d, v) :: m) l' m') (hd : Nat.blt d n = true := by rfl) : SR P R n w (i :: l) m l' m' := fun Q a h2 hE => p_cons (s_still hp hE wn_none hd hv (fun a hE => h Q a h2 hE))
theorem rg {l l' : List Nat} {m' : List (Nat × Value)} {g : Option (Nat × Bool)} (hp : pj R i = some (some d, op, T, g)) (hw : Wn R m g true) (hv : Still P op T m w v) (h : SR P R n w l ((d, v) :: m) l' m') (hd : Nat.blt d n = true := by rfl) : SR P R n w (i :: l) m l' m' := fun Q a h2 hE => p_cons (s_still hp hE hw hd hv (fun a hE => h Q a h2 hE))
theorem rk {l l' : List Nat} {m' : List (Nat × Value)} {g : Option (Nat × Bool)} (hp : pj R i = some (some d, op, T, g)) (hw : Wn R m g false) (h : SR P R n w l ((d, undef) :: m) l' m') (hd : Nat.blt d n = true := by rfl) : SR P R n w (i :: l) m l' m' := fun Q a h2 hE => p_cons (s_skip hp hE hw hd (fun a hE => h Q a h2 hE))
theorem qn {l l' : List Nat} {m' : List (Nat × Value)} (hE : En n a m) (hr : SR P R n w l m l' m') (h : ∀ a, En n a m' → wpOps P R Q l' a w) : wpOps P R Q l a w := hr Q a h hE
theorem pl {R : Array Oper} {L : List (Option (Option Tmp × Op × TypeId × Option (Nat × Bool)))} (h : (List.range R.size).map (pj R) = L) (i : Nat) : pj R i = L.getD i none := by
 subst h
 rw [List.getD_eq_getElem?_getD, List.getElem?_map]
 by_cases hi : i < R.size
 · rw [List.getElem?_range hi]; rfl
 ·
  rw [List.getElem?_eq_none (by simpa using hi)]
  show pj R i = none
  unfold pj
  rw [Array.getElem?_eq_none (by omega)]; rfl
end
section
variable {P : Program} {R : Array Oper} {Q : Exit → Act → World → Prop} {K : Act → World → Prop} {i n : Nat} {a : Act} {w : World} {m : List (Nat × Value)} {T T1 : TypeId} {g : Option (Nat × Bool)} {d : Nat} {X Y : Operand}
end
/-- Short names. -/
abbrev κ : Bool := true
abbrev ι : Bool := false
abbrev zz (d : Nat) (op : Op) (T : TypeId) : Option (Option Tmp × Op × TypeId × Option (Nat × Bool)) := some (some d, op, T, none)
end Go.Proofs.Ytijfocnneccccaa.Ds
