/- What a datum that is handed in reads as, kind by kind. -/
import Derived.Test.YtijfocnneccccaaWWords
import Derived.Test.YtijfocnneccccaaWArr
import Derived.OpenShut
import Derived.WalkKit
import Derived.ProofKit
import Derived.ChangeSlices
import Derived.SizedLaws
set_option linter.unusedVariables false
set_option linter.unusedSimpArgs false
namespace Go.Proofs.Ytijfocnneccccaa.KdOpen
open Go.ChangeShapes Go.WideShapes Go.ChangeAt Go.RowKit Go.Deep Go.Proofs.YtijfocnneccccaaW.PrintWords
/-- Whatever treads a datum of type t reads a value of the kind d, and it is ok. -/
structure Opens {α : Type} (d : Kd α) (ok : α → Prop) (P : Program) (t : TypeId) : Prop where
 sz : P.cellsOf t = d.sz
 op : ∀ {H : Type} {enc : TypeId × Value → H} {w : World} {base : Nat} {spare : Nat → Bool} {held : Bool} {fuel : Nat} {cs : List Value} {x : DataW H × List MemPlace},
  DataW.trod enc P w base spare held fuel t cs = some x → ∃ y, d.K w y cs ∧ ok y
section
variable {P : Program} {t e : TypeId} {k : IntKind} {α β : Type} {d : Kd α} {d' : Kd β} {ok : α → Prop} {ok' : β → Prop}
theorem opens_int (ht : P.underlying t = some (.int k)) (hc : P.cellsOf t = 1) : Opens (Kd.int k) (fun n => (Lit.int k n).wf = true) P t :=
 ⟨hc, fun h => by obtain ⟨n, rfl, _, hw⟩ := DataW.trod_int ht h; exact ⟨n, rfl, hw⟩⟩
theorem addr_add (a : Addr) (n m : Nat) : (a.add n).add m = a.add (n + m) := by
 obtain ⟨b, o, sp⟩ := a
 unfold Addr.add
 by_cases hn : n = 0
 · subst hn; simp
 ·
  by_cases hm : m = 0
  · subst hm; simp [hn]
  ·
   have : ¬ (n + m = 0) := by omega
   simp [hn, hm, this, Nat.add_assoc]
theorem list_of {Q : Nat → α → Prop} : ∀ n : Nat, (∀ i, i < n → ∃ y, Q i y) → ∃ l : List α, l.length = n ∧ ∀ i y, l[i]? = some y → Q i y := by
 intro n
 induction n with
 | zero => exact fun _ => ⟨[], rfl, by simp⟩
 | succ n ih =>
  intro h
  obtain ⟨l, hl, hq⟩ := ih (fun i hi => h i (by omega))
  obtain ⟨y, hy⟩ := h n (by omega)
  refine ⟨l ++ [y], by simp [hl], fun i z hz => ?_⟩
  by_cases hi : i < l.length
  · rw [List.getElem?_append_left hi] at hz; exact hq i z hz
  ·
   have hlt := (List.getElem?_eq_some_iff.1 hz).1
   simp at hlt
   have : i = n := by omega
   subst this
   rw [List.getElem?_append_right (by omega), hl] at hz
   simp at hz
   subst hz
   exact hy
theorem opens_slice (ht : P.underlying t = some (.slice e)) (hc : P.cellsOf t = 1) (he : Opens d ok P e) (e' : Nat) : Opens (Kd.slice e' d) (fun l => l.length ≤ maxLen ∧ ∀ x ∈ l, ok x) P t :=
 ⟨hc, fun {H enc w base spare held fuel cs x} h => by
  rcases DataW.trod_slice ht h with ⟨rfl, _⟩ | ⟨a, len, cap, elems, rest, n, _, rfl, _, _, hl, hm, hlen, hel, _⟩
  · exact ⟨[], ⟨none, 0, rfl, Nat.le_refl _, Kd.C_nil _ _⟩, by simp, by simp⟩
  ·
   obtain ⟨l, hll, hq⟩ := list_of (Q := fun i y => ∃ c, w.cells? base (a.add (i * P.cellsOf e)) (P.cellsOf e) = some c ∧ d.K w y c ∧ ok y) len (fun i hi => by
    have h1 := hel i hi
    have hie : i < elems.length := by omega
    rw [List.getElem?_eq_getElem hie] at h1
    obtain ⟨c, h2, h3⟩ := Option.bind_eq_some_iff.1 h1
    obtain ⟨y, h4, h5⟩ := he.op h3
    exact ⟨y, c, h2, h4, h5⟩)
   subst hll
   refine ⟨l, ⟨some a, cap, rfl, hl, rfl, ?_, fun _ => ⟨a, rfl, fun j p hj => ?_⟩⟩, by omega, fun x hx => ?_⟩
   ·
    have : maxLen ≤ 9223372036854775807 := by decide
    omega
   ·
    obtain ⟨c, h1, h2, _⟩ := hq j p hj
    obtain ⟨h3, h4, h5⟩ := World.cells?_some h1
    refine ⟨c, d.K_len h2, h2, fun i u hu => ?_⟩
    have hi := (List.getElem?_eq_some_iff.1 hu).1
    have h6 := h5 i (by omega)
    rw [hu] at h6
    rw [he.sz] at h6
    rw [addr_add] at h6
    exact h6
   ·
    obtain ⟨i, hi, he2⟩ := List.getElem_of_mem hx
    obtain ⟨c, _, _, h3⟩ := hq i x (by rw [List.getElem?_eq_getElem hi, he2])
    exact h3⟩
/-- The fields from the one at offset o on. -/
structure OpensFs {α : Type} (d : Kd α) (ok : α → Prop) (P : Program) (o : Nat) (fs : List Field) : Prop where
 op : ∀ {H : Type} {enc : TypeId × Value → H} {w : World} {base : Nat} {spare : Nat → Bool} {held : Bool} {n : Nat} {cs : List Value}, cs.length = o + d.sz →
  (∀ (i : Nat) (f : Field), fs[i]? = some f → ∃ x, DataW.trod enc P w base spare held n f.type ((cs.drop f.offset).take (P.cellsOf f.type)) = some x) → ∃ y, d.K w y (cs.drop o) ∧ ok y
theorem arg_slice {H : Type} {enc : TypeId × Value → H} {w : World} {base : Nat} {spare : Nat → Bool} {held : Bool} {a : Option Addr} {len cap : Nat} {dd : DataW H} {ps : List MemPlace} {e' : Nat} {okl : List α → Prop} (ho : Opens (Kd.slice e' d) okl P t)
  (h : DataW.Trod enc P w base spare held t (.slice a len cap) dd ps) : ∃ l : List α, len = l.length ∧ l.length ≤ cap ∧ d.C w a l.length l ∧ okl l := by
 obtain ⟨fuel, hf⟩ := h
 obtain ⟨l, ⟨A, c, he, hl, hC⟩, hok⟩ := ho.op hf
 simp only [Value.cells, List.cons.injEq, and_true, Value.slice.injEq] at he
 obtain ⟨rfl, rfl, rfl⟩ := he
 exact ⟨l, rfl, hl, hC, hok⟩
theorem arg_cap {H : Type} {enc : TypeId × Value → H} {w : World} {base : Nat} {spare : Nat → Bool} {held : Bool} {a : Option Addr} {len cap : Nat} {dd : DataW H} {ps : List MemPlace} (ht : P.underlying t = some (.slice e))
  (h : DataW.Trod enc P w base spare held t (.slice a len cap) dd ps) : cap ≤ maxLen ∧ (a = none → cap = 0) := by
 obtain ⟨fuel, hf⟩ := h
 rcases DataW.trod_slice ht hf with ⟨he, _⟩ | ⟨a', len', cap', elems, rest, n, _, he, _, _, hl, hm, _⟩
 ·
  simp only [Value.cells, List.cons.injEq, and_true, Value.slice.injEq] at he
  obtain ⟨rfl, rfl, rfl⟩ := he
  exact ⟨Nat.zero_le _, fun _ => rfl⟩
 ·
  simp only [Value.cells, List.cons.injEq, and_true, Value.slice.injEq] at he
  obtain ⟨rfl, rfl, rfl⟩ := he
  exact ⟨hm, fun h => by cases h⟩
end
end Go.Proofs.Ytijfocnneccccaa.KdOpen
