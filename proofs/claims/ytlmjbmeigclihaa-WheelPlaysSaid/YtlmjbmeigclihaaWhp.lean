/- Timers, plain: who is first, who fires. -/
import Derived.Test.YtlmjbmeigclihaaMi
set_option maxRecDepth 100000
set_option linter.unusedVariables false
set_option linter.unusedSimpArgs false
namespace Go.Proofs.Ytlmjbmeigclihaa.Wp
open Go.Proofs.Ytlmjbmeigclihaa.Mi
abbrev LW := List (Int × Int)
def dueI (l : LW) (x : Int) : Int := (getI l x).getD 0
def cmpI (a b : Int) : Int := if a < b then -1 else if b < a then 1 else 0
def cfX (l : LW) (x y : Int) : Int := if cmpI (dueI l x) (dueI l y) ≠ 0 then cmpI (dueI l x) (dueI l y) else cmpI x y
/-- Due before, or at once and of a lower number. -/
def lex (p q : Int × Int) : Prop := p.2 < q.2 ∨ p.2 = q.2 ∧ p.1 < q.1
theorem cfX_neg (l : LW) (x y : Int) : cfX l x y < 0 ↔ lex (x, dueI l x) (y, dueI l y) := by
  unfold cfX cmpI lex
  simp only
  split <;> (repeat' split) <;> omega
theorem cfX_bnd (l : LW) (x y : Int) : -1 ≤ cfX l x y ∧ cfX l x y ≤ 1 := by
  unfold cfX cmpI
  constructor <;> (repeat' split) <;> omega
/-- The least of the first j + 1 numbers. -/
def pk (l : LW) (xs : List Int) : Nat → Int
  | 0 => xs.getD 0 0
  | j + 1 => if cfX l (xs.getD (j + 1) 0) (pk l xs j) < 0 then xs.getD (j + 1) 0 else pk l xs j
theorem pk_mem (l : LW) (xs : List Int) : ∀ j, j < xs.length → pk l xs j ∈ xs
  | 0, h => by unfold pk; rw [List.getD_eq_getElem?_getD, List.getElem?_eq_getElem h]; exact List.getElem_mem _
  | j + 1, h => by
    unfold pk
    split
    · rw [List.getD_eq_getElem?_getD, List.getElem?_eq_getElem h]; exact List.getElem_mem _
    · exact pk_mem l xs j (by omega)
theorem lex_trans {p q r : Int × Int} (h1 : lex p q) (h2 : lex q r) : lex p r := by unfold lex at *; omega
theorem lex_not {p q : Int × Int} (h : ¬ lex p q) : q = p ∨ lex q p := by
  unfold lex at *
  by_cases h1 : q.1 = p.1 ∧ q.2 = p.2
  · exact .inl (Prod.ext h1.1 h1.2)
  · exact .inr (by omega)
theorem lex_irr {p : Int × Int} (h : lex p p) : False := by unfold lex at h; omega
theorem lex_asymm {p q : Int × Int} (h : lex p q) (h2 : lex q p) : False := by unfold lex at *; omega
theorem pk_least (l : LW) (xs : List Int) : ∀ j, j < xs.length → ∀ i, i ≤ j → ¬ lex (xs.getD i 0, dueI l (xs.getD i 0)) (pk l xs j, dueI l (pk l xs j))
  | 0, _, i, hi => by
    obtain rfl : i = 0 := by omega
    exact fun h => lex_irr h
  | j + 1, h, i, hi => by
    have ih := pk_least l xs j (by omega)
    unfold pk
    split
    · rename_i hc
      rw [cfX_neg] at hc
      rcases Nat.lt_or_ge i (j + 1) with q | q
      · intro h2
        exact ih i (by omega) (lex_trans h2 hc)
      · obtain rfl : i = j + 1 := by omega
        exact fun h => lex_irr h
    · rename_i hc
      rw [cfX_neg] at hc
      rcases Nat.lt_or_ge i (j + 1) with q | q
      · exact ih i (by omega)
      · obtain rfl : i = j + 1 := by omega
        exact hc
/-- The first one. -/
def firstI : LW → Option (Int × Int)
  | [] => none
  | p :: l => match firstI l with
    | none => some p
    | some q => if (decide (p.2 < q.2) || (decide (p.2 = q.2) && decide (p.1 < q.1))) then some p else some q
theorem firstI_none {l : LW} : firstI l = none ↔ l = [] := by
  cases l with
  | nil => exact ⟨fun _ => rfl, fun _ => rfl⟩
  | cons p l =>
    refine ⟨fun h => ?_, fun h => by cases h⟩
    unfold firstI at h
    split at h
    · cases h
    · split at h <;> cases h
theorem firstI_spec : ∀ {l : LW} {p : Int × Int}, firstI l = some p → p ∈ l ∧ ∀ q ∈ l, ¬ lex q p
  | [], p, h => by cases h
  | a :: l, p, h => by
    unfold firstI at h
    split at h
    · rename_i h1
      injection h with h
      subst h
      have := firstI_none.1 h1
      subst this
      exact ⟨List.mem_cons_self .., fun q hq => by rw [List.mem_singleton.1 hq]; exact fun h => lex_irr h⟩
    · rename_i b h1
      obtain ⟨h2, h3⟩ := firstI_spec h1
      split at h
      · rename_i hc
        injection h with h
        subst h
        have hl : lex a b := by unfold lex; simpa using hc
        refine ⟨List.mem_cons_self .., fun q hq => ?_⟩
        rcases List.mem_cons.1 hq with rfl | hq
        · exact fun h => lex_irr h
        · exact fun h => h3 q hq (lex_trans h hl)
      · rename_i hc
        injection h with h
        subst h
        have hl : ¬ lex a b := by unfold lex; simpa using hc
        refine ⟨List.mem_cons_of_mem _ h2, fun q hq => ?_⟩
        rcases List.mem_cons.1 hq with rfl | hq
        · exact hl
        · exact h3 q hq
theorem dueI_mem {l : LW} (hn : (l.map (·.1)).Nodup) {p : Int × Int} (hp : p ∈ l) : dueI l p.1 = p.2 := by
  unfold dueI
  rw [getI_of_mem hn (x := p.1) (v := p.2) hp]
  rfl
theorem first_unique {l : LW} (hn : (l.map (·.1)).Nodup) {xs : List Int} (hp : xs.Perm (l.map (·.1))) (h0 : 0 < xs.length) : ∃ p, firstI l = some p ∧ pk l xs (xs.length - 1) = p.1 := by
  cases hf : firstI l with
  | none =>
    rw [firstI_none] at hf
    subst hf
    have := hp.length_eq
    simp at this
    subst this
    simp at h0
  | some p =>
    refine ⟨p, rfl, ?_⟩
    obtain ⟨h1, h2⟩ := firstI_spec hf
    have hm := pk_mem l xs (xs.length - 1) (by omega)
    have hl := pk_least l xs (xs.length - 1) (by omega)
    have hm' := hp.mem_iff.1 hm
    obtain ⟨q, hq, he⟩ := List.mem_map.1 hm'
    have hdq := dueI_mem hn hq
    have hdp := dueI_mem hn h1
    have hpx : p.1 ∈ xs := hp.mem_iff.2 (List.mem_map.2 ⟨p, h1, rfl⟩)
    obtain ⟨i, hi, hix⟩ := List.getElem_of_mem hpx
    have h3 := hl i (by omega)
    rw [List.getD_eq_getElem?_getD, List.getElem?_eq_getElem hi] at h3
    simp only [Option.getD_some, hix] at h3
    rw [hdp, ← he, hdq] at h3
    rcases lex_not h3 with e | e
    · rw [← he]; exact congrArg Prod.fst e
    · exact absurd e (h2 q hq)
/-- Who fires, and what is left. -/
def fireN (now : Int) : Nat → LW → List (Int × Int) × LW
  | 0, l => ([], l)
  | n + 1, l => match firstI l with
    | none => ([], l)
    | some p => if now < p.2 then ([], l) else (p :: (fireN now n (delI l p.1)).1, (fireN now n (delI l p.1)).2)
def fireS (now : Int) (l : LW) : List (Int × Int) × LW := fireN now l.length l
theorem delI_filter {l : LW} (hn : (l.map (·.1)).Nodup) {x : Int} {f : Int × Int → Bool} (hx : ∀ p ∈ l, p.1 = x → f p = false) : (delI l x).filter f = l.filter f := by
  induction l with
  | nil => rfl
  | cons q l ih =>
    rw [List.map_cons, List.nodup_cons] at hn
    unfold delI
    by_cases hq : q.1 = x
    · rw [if_pos hq, List.filter_cons_of_neg (by rw [hx q (List.mem_cons_self ..) hq]; decide)]
    · rw [if_neg hq]
      have := ih hn.2 (fun p hp => hx p (List.mem_cons_of_mem _ hp))
      by_cases hf : f q = true
      · rw [List.filter_cons_of_pos hf, List.filter_cons_of_pos hf, this]
      · rw [List.filter_cons_of_neg hf, List.filter_cons_of_neg hf, this]
theorem delI_perm {l : LW} {p : Int × Int} (hn : (l.map (·.1)).Nodup) (hp : p ∈ l) : l.Perm (p :: delI l p.1) := by
  induction l with
  | nil => cases hp
  | cons q l ih =>
    rw [List.map_cons, List.nodup_cons] at hn
    unfold delI
    by_cases hq : q.1 = p.1
    · rw [if_pos hq]
      rcases List.mem_cons.1 hp with rfl | hp
      · exact List.Perm.refl _
      · exact absurd (List.mem_map.2 ⟨p, hp, hq.symm⟩) hn.1
    · rw [if_neg hq]
      rcases List.mem_cons.1 hp with rfl | hp
      · exact absurd rfl hq
      · exact ((ih hn.2 hp).cons q).trans (List.Perm.swap ..)
theorem fireN_spec (now : Int) : ∀ (n : Nat) (l : LW), l.length ≤ n → (l.map (·.1)).Nodup → (fireN now n l).1.Perm (l.filter (fun p => decide (p.2 ≤ now))) ∧ (fireN now n l).1.Pairwise lex ∧ (fireN now n l).2 = l.filter (fun p => decide (now < p.2))
  | 0, l, hl, _ => by
    have : l = [] := List.eq_nil_of_length_eq_zero (by omega)
    subst this
    exact ⟨List.Perm.refl _, List.Pairwise.nil, rfl⟩
  | n + 1, l, hl, hn => by
    unfold fireN
    split
    · rename_i hf
      rw [firstI_none] at hf
      subst hf
      exact ⟨List.Perm.refl _, List.Pairwise.nil, rfl⟩
    · rename_i p hf
      obtain ⟨h1, h2⟩ := firstI_spec hf
      split
      · rename_i hlt
        have hall : ∀ q ∈ l, now < q.2 := fun q hq => by
          have := h2 q hq
          unfold lex at this
          omega
        refine ⟨?_, List.Pairwise.nil, ?_⟩
        · have : l.filter (fun p => decide (p.2 ≤ now)) = [] := List.filter_eq_nil_iff.2 (fun q hq => by have := hall q hq; simp; omega)
          rw [this]
        · exact (List.filter_eq_self.2 (fun q hq => by have := hall q hq; simp; omega)).symm
      · rename_i hle
        have hlen : (delI l p.1).length ≤ n := by
          have := (delI_perm hn h1).length_eq
          simp at this
          omega
        obtain ⟨g1, g2, g3⟩ := fireN_spec now n (delI l p.1) hlen (delI_nodup hn p.1)
        refine ⟨?_, ?_, ?_⟩
        · have e1 := (delI_perm hn h1).filter (fun p => decide (p.2 ≤ now))
          rw [List.filter_cons_of_pos (by simp; omega)] at e1
          exact (g1.cons p).trans e1.symm
        · refine List.pairwise_cons.2 ⟨fun q hq => ?_, g2⟩
          have hq1 := (List.mem_filter.1 (g1.mem_iff.1 hq)).1
          have hq2 := (delI_perm hn h1).mem_iff.2 (List.mem_cons_of_mem _ hq1)
          rcases lex_not (h2 q hq2) with e | e
          · exfalso
            have hh : (p :: delI l p.1).map (·.1) |>.Nodup := ((delI_perm hn h1).map (·.1)).nodup_iff.1 hn
            rw [List.map_cons, List.nodup_cons] at hh
            exact hh.1 (List.mem_map.2 ⟨q, hq1, by rw [← e]⟩)
          · exact e
        · rw [g3]
          refine delI_filter hn (fun q hq e => ?_)
          have : q = p := by
            have a := dueI_mem hn hq
            have b := dueI_mem hn h1
            rw [e] at a
            exact Prod.ext e (a.symm.trans b)
          rw [this]
          simp; omega
theorem fire_spec (now : Int) (l : LW) (hn : (l.map (·.1)).Nodup) : (fireS now l).1.Perm (l.filter (fun p => decide (p.2 ≤ now))) ∧ (fireS now l).1.Pairwise lex ∧ (fireS now l).2 = l.filter (fun p => decide (now < p.2)) := fireN_spec now _ l (Nat.le_refl _) hn
theorem lex_eq {a b : List (Int × Int)} (hp : a.Perm b) (ha : a.Pairwise lex) (hb : b.Pairwise lex) : a = b :=
  List.Perm.eq_of_pairwise (fun x y _ _ h1 h2 => (lex_asymm h1 h2).elim) ha hb hp
theorem fire_none {now : Int} {l : LW} (h : firstI l = none) : fireS now l = ([], l) := by
  rw [firstI_none] at h; subst h; rfl
theorem fire_stop {now : Int} {l : LW} {p : Int × Int} (h : firstI l = some p) (h2 : now < p.2) : fireS now l = ([], l) := by
  have hl : l ≠ [] := fun e => by rw [e] at h; cases h
  obtain ⟨a, l', rfl⟩ := List.exists_cons_of_ne_nil hl
  unfold fireS
  rw [List.length_cons]
  unfold fireN
  rw [h]
  simp only
  rw [if_pos h2]
theorem fire_on {now : Int} {l : LW} {p : Int × Int} (hn : (l.map (·.1)).Nodup) (h : firstI l = some p) (h2 : ¬ now < p.2) : fireS now l = (p :: (fireS now (delI l p.1)).1, (fireS now (delI l p.1)).2) := by
  have hl : l ≠ [] := fun e => by rw [e] at h; cases h
  have hlen := (delI_perm hn (firstI_spec h).1).length_eq
  rw [List.length_cons] at hlen
  unfold fireS
  rw [hlen]
  conv => lhs; unfold fireN
  rw [h]
  simp only
  rw [if_neg h2]
end Go.Proofs.Ytlmjbmeigclihaa.Wp
