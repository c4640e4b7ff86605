/- Put of any numbers behind any bytes, and lists of bytes put. -/
import Derived.Test.YtndiddfleidnaaaPackMore
set_option linter.unusedVariables false
set_option linter.unusedSimpArgs false
namespace Go.Proofs.Ytndiddfleidnaaa.Pk
open Go.RowKit Go.Proofs.YtndiddfleidnaaaW.PrintWords
theorem C_take {α : Type} {d : Kd α} {w : World} {A : Option Addr} {n m : Nat} {xs : List α} (h : d.C w A n xs) (hm : m ≤ n) : d.C w A m (xs.take m) := by
  refine ⟨by have := h.1; simp; omega, by have := h.2.1; omega, fun h0 => ?_⟩
  obtain ⟨ad, he, hc⟩ := h.2.2 (by omega)
  exact ⟨ad, he, fun j x hj => hc j x (by rw [List.getElem?_take] at hj; split at hj; exact hj; cases hj)⟩
theorem fits_size (k : Int) (l : List Int) (h : fitsF k l = true) : k = 1 ∨ k = 2 ∨ k = 4 := by
  unfold fitsF at h
  rw [Bool.and_eq_true] at h
  have h1 : 0 < spanF k := by simpa using h.1
  unfold spanF at h1
  split at h1
  · omega
  · split at h1
    · omega
    · split at h1 <;> omega
theorem fits_append (k : Int) (l m : List Int) : fitsF k (l ++ m) = (fitsF k l && fitsF k m) := by
  unfold fitsF
  rw [List.all_append]
  cases decide (0 < spanF k) <;> simp
theorem putF_append (k : Int) (l m : List Int) : putF k (l ++ m) = putF k l ++ putF k m := by unfold putF; rw [List.flatMap_append]
theorem dig_len (k n : Int) : (digF k n).length ≤ 4 := by unfold digF; split; simp; split <;> simp
theorem putF_len (k : Int) (l : List Int) : (putF k l).length ≤ 4 * l.length := by
  induction l with
  | nil => simp [putF]
  | cons x l ih =>
    have := dig_len k x
    have e : putF k (x :: l) = digF k x ++ putF k l := rfl
    rw [e, List.length_append, List.length_cons]; omega
theorem dig_bd (k n : Int) : ∀ x ∈ digF k n, 0 ≤ x ∧ x ≤ 255 := by
  intro x hx
  unfold digF at hx
  split at hx
  · simp only [List.mem_cons, List.not_mem_nil, or_false] at hx; rcases hx with rfl | rfl | rfl | rfl <;> omega
  · split at hx
    · simp only [List.mem_cons, List.not_mem_nil, or_false] at hx; rcases hx with rfl | rfl <;> omega
    · simp only [List.mem_cons, List.not_mem_nil, or_false] at hx; subst hx; omega
theorem put_bd (k : Int) (l : List Int) : ∀ x ∈ putF k l, 0 ≤ x ∧ x ≤ 255 := by
  intro x hx
  obtain ⟨y, _, h⟩ := List.mem_flatMap.1 hx
  exact dig_bd k y x h
theorem put_fit (A B : Option Addr) (c cl : Nat) (k : Int) (b l : List Int) (n : Nat) (hn : n = l.length) (hf : fitsF k l = true) (w : World) (hb : Kd.C (Kd.int .u8) w A b.length b) (h : Kd.C (Kd.int .i64) w B l.length l) (hc : l.length ≤ cl) (hbl : b.length ≤ 140737488000000) :
    Calls Try.prog 77 #[.slice A b.length c, .int .i64 k, .slice B n cl] w fun e w' => ∃ v r, e = .returned (.tuple #[v, .int .i64 r]) ∧ ((r = 0 ∧ (b ++ putF k l).length ≤ 1280 ∧ w'.ownsRow w.heap.size 5 1 v (b ++ putF k l).length (encs (Value.int .u8) (b ++ putF k l))) ∨ (r = 2 ∧ 1280 < (b ++ putF k l).length ∧ v = .slice none 0 0)) ∧ Below w.heap.size w w' := by
  subst hn
  rcases fits_size k l hf with rfl | rfl | rfl
  · exact put_1 A B c cl b l hf w hb h hc hbl
  · exact put_2 A B c cl b l hf w hb h hc hbl
  · exact put_4 A B c cl b l hf w hb h hc hbl
theorem put_ok (A B : Option Addr) (c cl : Nat) (k : Int) (b l : List Int) (n : Nat) (hn : n = l.length) (hf : fitsF k l = true) (w : World) (hb : Kd.C (Kd.int .u8) w A b.length b) (h : Kd.C (Kd.int .i64) w B l.length l) (hc : l.length ≤ cl) (hlen : (b ++ putF k l).length ≤ 1280) :
    Calls Try.prog 77 #[.slice A b.length c, .int .i64 k, .slice B n cl] w fun e w' => ∃ v, e = .returned (.tuple #[v, .int .i64 0]) ∧ w'.ownsRow w.heap.size 5 1 v (b ++ putF k l).length (encs (Value.int .u8) (b ++ putF k l)) ∧ Below w.heap.size w w' := by
  refine (put_fit A B c cl k b l n hn hf w hb h hc (by rw [List.length_append] at hlen; omega)).mono ?_
  rintro e w' ⟨v, r, rfl, ⟨rfl, _, ho⟩ | ⟨_, hl, _⟩, hB⟩
  · exact ⟨v, rfl, ho, hB⟩
  · omega
theorem put_gen (A B : Option Addr) (c cl : Nat) (k : Int) (b l : List Int) (n : Nat) (hn : n = l.length) (w : World) (hb : Kd.C (Kd.int .u8) w A b.length b) (h : Kd.C (Kd.int .i64) w B l.length l) (hc : l.length ≤ cl) (hbl : b.length ≤ 140737488000000) :
    Calls Try.prog 77 #[.slice A b.length c, .int .i64 k, .slice B n cl] w fun e w' => ∃ v r, e = .returned (.tuple #[v, .int .i64 r]) ∧ Below w.heap.size w w' := by
  by_cases hf : fitsF k l = true
  · refine (put_fit A B c cl k b l n hn hf w hb h hc hbl).mono ?_
    rintro e w' ⟨v, r, rfl, _, hB⟩
    exact ⟨v, r, rfl, hB⟩
  · refine (put_bad A B b.length c n cl k l hn (by simpa using hf) w h hc).mono ?_
    rintro e w' ⟨rfl, rfl⟩
    exact ⟨_, _, rfl, Below.refl _ _⟩
theorem own_slice2 {w : World} {base e n : Nat} {v : Value} {xs : List Value} (h : w.ownsRow base e 1 v n xs) : ∃ A c, v = .slice A n c ∧ n ≤ c ∧ c ≤ 9223372036854775807 := by
  rcases h.2 with ⟨rfl, hn⟩ | ⟨g, cap, cur, rfl, _, _, hnc, hm, _⟩
  · exact ⟨none, 0, by simp [hn], by omega, by omega⟩
  · have : maxLen ≤ 9223372036854775807 := by decide
    exact ⟨_, _, rfl, hnc, by omega⟩
theorem own_mid {w2 w7 : World} {base b2 n k e : Nat} {v v0 : Value} {xs ys : List Value} {T : TypeId} {o : Obj} (h : w2.ownsRow base e 1 v n xs) (hv0 : (w2.alloc o).ownsRow b2 T 1 v0 k ys) (hg : (w2.alloc o).grownBy w7 v0.ownBlock) (hT : (e : Nat) ≠ T) : w7.ownsRow base e 1 v n xs :=
  own_other (own_alloc h o) hg (own_type_ne (own_alloc h o) hv0 hT)
theorem own_C {w : World} {base n c : Nat} {e : TypeId} {k : IntKind} {A : Option Addr} {xs : List Int} (h : w.ownsRow base e 1 (.slice A n c) n (encs (Value.int k) xs)) : Kd.C (Kd.int k) w A n xs := Kd.C_of_reads (enc := Value.int k) (d := (0 : Int)) (h1 := fun _ => rfl) (own_reads_of' h)
end Go.Proofs.Ytndiddfleidnaaa.Pk
