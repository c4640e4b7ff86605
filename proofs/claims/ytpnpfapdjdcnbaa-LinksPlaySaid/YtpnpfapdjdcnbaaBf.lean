/- A search in breadth, in plain Lean: what holds while it runs, and at its end. No program. -/
import Derived.Test.YtpnpfapdjdcnbaaRs
set_option linter.unusedVariables false
set_option linter.unusedSimpArgs false
namespace Go.Proofs.Ytpnpfapdjdcnbaa.Bf
def at_ (h : List Int) (b : Nat) : Int := h.getD b 0
theorem at_set {h : List Int} {b c : Nat} {v : Int} (hb : b < h.length) : at_ (h.set b v) c = if c = b then v else at_ h c := by
  unfold at_
  rw [List.getD_eq_getElem?_getD, List.getD_eq_getElem?_getD, List.getElem?_set]
  by_cases e : c = b
  · subst e; rw [if_pos rfl, if_pos rfl, if_pos hb]; rfl
  · rw [if_neg (fun q => e q.symm), if_neg e]
/-- A walk of k edges. -/
inductive Wk (E : Nat → Nat → Prop) (x : Nat) : Nat → Nat → Prop
  | nil : Wk E x x 0
  | step {a b k} : Wk E x a k → E a b → Wk E x b (k + 1)
/-- What holds all the time: n nodes, from x; h: hops so far. -/
structure Base (E : Nat → Nat → Prop) (n x : Nat) (h : List Int) : Prop where
  len : h.length = n
  zero : at_ h x = 0
  low : ∀ b, b < n → -1 ≤ at_ h b
  walk : ∀ b, b < n → 0 ≤ at_ h b → Wk E x b (at_ h b).toNat
/-- Between two rounds: ys is the line. -/
structure Inv (E : Nat → Nat → Prop) (n x : Nat) (h : List Int) (ys : List Nat) : Prop where
  base : Base E n x h
  inn : ∀ y ∈ ys, y < n ∧ 0 ≤ at_ h y
  done : ∀ a, a < n → 0 ≤ at_ h a → a ∉ ys → ∀ b, b < n → E a b → 0 ≤ at_ h b ∧ at_ h b ≤ at_ h a + 1
  ord : ys.Pairwise fun a b => at_ h a ≤ at_ h b
  near : ∀ y ys', ys = y :: ys' → ∀ b, b < n → at_ h b ≤ at_ h y + 1
/-- While the neighbours (nb) of a are gone through: those ahead of j are done. -/
structure Mid (E : Nat → Nat → Prop) (n x a : Nat) (nb : List Nat) (j : Nat) (h : List Int) (ys : List Nat) : Prop where
  base : Base E n x h
  an : a < n ∧ 0 ≤ at_ h a
  inn : ∀ y ∈ ys, y < n ∧ 0 ≤ at_ h y ∧ at_ h a ≤ at_ h y
  done : ∀ c, c < n → 0 ≤ at_ h c → c ∉ ys → c ≠ a → ∀ b, b < n → E c b → 0 ≤ at_ h b ∧ at_ h b ≤ at_ h c + 1
  mine : ∀ b ∈ nb.take j, 0 ≤ at_ h b ∧ at_ h b ≤ at_ h a + 1
  ord : ys.Pairwise fun a b => at_ h a ≤ at_ h b
  near : ∀ b, b < n → at_ h b ≤ at_ h a + 1
theorem start {E : Nat → Nat → Prop} {n x : Nat} (hx : x < n) : Inv E n x ((List.replicate n (-1)).set x 0) [x] := by
  have hl : x < (List.replicate n (-1 : Int)).length := by rw [List.length_replicate]; exact hx
  have hv : ∀ b, b < n → at_ ((List.replicate n (-1)).set x 0) b = if b = x then 0 else -1 := fun b hb => by
    rw [at_set hl]
    congr 1
    unfold at_
    simp [List.getD_eq_getElem?_getD, hb]
  have h0 : ∀ b, b < n → 0 ≤ at_ ((List.replicate n (-1)).set x 0) b → b = x := fun b hb h => by
    rw [hv b hb] at h
    by_cases e : b = x
    · exact e
    · rw [if_neg e] at h; omega
  have hx0 : at_ ((List.replicate n (-1)).set x 0) x = 0 := by rw [hv x hx, if_pos rfl]
  refine ⟨⟨by simp, hx0, fun b hb => by rw [hv b hb]; split <;> omega, fun b hb h => by rw [h0 b hb h, hx0]; exact .nil⟩, fun y hy => ?_, fun a ha h hn => ?_, List.pairwise_singleton _ _, fun y ys' e b hb => ?_⟩
  · rw [List.mem_singleton.1 hy]; exact ⟨hx, by rw [hx0]; omega⟩
  · exact absurd (List.mem_singleton.2 (h0 a ha h)) hn
  · injection e with e1 e2
    subst e1
    rw [hv b hb, hx0]
    split <;> omega
theorem opens {E : Nat → Nat → Prop} {n x a : Nat} {nb : List Nat} {h : List Int} {ys : List Nat} (hi : Inv E n x h (a :: ys)) : Mid E n x a nb 0 h ys := by
  have ho := List.pairwise_cons.1 hi.ord
  exact ⟨hi.base, hi.inn a (List.mem_cons_self ..), fun y hy => ⟨(hi.inn y (List.mem_cons_of_mem _ hy)).1, (hi.inn y (List.mem_cons_of_mem _ hy)).2, ho.1 y hy⟩, fun c hc h0 hn hne => hi.done c hc h0 (fun q => by rcases List.mem_cons.1 q with q | q; exact hne q; exact hn q), fun b hb => by simp at hb, ho.2, hi.near a ys rfl⟩
theorem closes {E : Nat → Nat → Prop} {n x a : Nat} {nb : List Nat} {h : List Int} {ys : List Nat} (hnb : ∀ b, b < n → E a b → b ∈ nb) (hm : Mid E n x a nb nb.length h ys) : Inv E n x h ys := by
  refine ⟨hm.base, fun y hy => ⟨(hm.inn y hy).1, (hm.inn y hy).2.1⟩, fun c hc h0 hn b hb hE => ?_, hm.ord, fun y ys' e b hb => ?_⟩
  · by_cases hca : c = a
    · subst hca
      exact hm.mine b (by rw [List.take_length]; exact hnb b hb hE)
    · exact hm.done c hc h0 hn hca b hb hE
  · have h1 := hm.near b hb
    have h2 := (hm.inn y (by rw [e]; exact List.mem_cons_self ..)).2.2
    omega
theorem skips {E : Nat → Nat → Prop} {n x a j b : Nat} {nb : List Nat} {h : List Int} {ys : List Nat} (hj : nb[j]? = some b) (hbn : b < n) (hm : Mid E n x a nb j h ys) (hv : 0 ≤ at_ h b) : Mid E n x a nb (j + 1) h ys :=
  ⟨hm.base, hm.an, hm.inn, hm.done, fun c hc => by
    rw [List.take_add_one, List.mem_append, hj] at hc
    rcases hc with hc | hc
    · exact hm.mine c hc
    · obtain rfl : c = b := by simpa using hc
      exact ⟨hv, hm.near c hbn⟩, hm.ord, hm.near⟩
theorem visits {E : Nat → Nat → Prop} {n x a j b : Nat} {nb : List Nat} {h : List Int} {ys : List Nat} (hj : nb[j]? = some b) (hbn : b < n) (hE : E a b) (hm : Mid E n x a nb j h ys) (hv : at_ h b < 0) : Mid E n x a nb (j + 1) (h.set b (at_ h a + 1)) (ys ++ [b]) := by
  have hl : b < h.length := by rw [hm.base.len]; exact hbn
  have hs : ∀ c, at_ (h.set b (at_ h a + 1)) c = if c = b then at_ h a + 1 else at_ h c := fun c => at_set hl
  have han := hm.an
  have hab : a ≠ b := fun q => by rw [q] at han; omega
  have hsa : at_ (h.set b (at_ h a + 1)) a = at_ h a := by rw [hs, if_neg hab]
  have hold : ∀ c, 0 ≤ at_ h c → at_ (h.set b (at_ h a + 1)) c = at_ h c := fun c hc => by rw [hs, if_neg (fun q => by rw [q] at hc; omega)]
  have hsb : at_ (h.set b (at_ h a + 1)) b = at_ h a + 1 := by rw [hs, if_pos rfl]
  refine ⟨⟨by rw [List.length_set]; exact hm.base.len, by rw [hold x (by rw [hm.base.zero]; omega)]; exact hm.base.zero, fun c hc => by
    rw [hs]
    split
    · omega
    · exact hm.base.low c hc, fun c hc h0 => ?_⟩, ⟨han.1, by rw [hsa]; exact han.2⟩, fun y hy => ?_, fun c hc h0 hn hne d hd hE2 => ?_, fun c hc => ?_, ?_, fun c hc => ?_⟩
  · by_cases hcb : c = b
    · subst hcb
      rw [hsb, show (at_ h a + 1).toNat = (at_ h a).toNat + 1 by omega]
      exact .step (hm.base.walk a han.1 han.2) hE
    · rw [hs, if_neg hcb] at h0 ⊢
      exact hm.base.walk c hc h0
  · rcases List.mem_append.1 hy with hy | hy
    · have := hm.inn y hy
      rw [hsa, hold y this.2.1]; exact this
    · obtain rfl : y = b := by simpa using hy
      rw [hsb, hsa]; exact ⟨hbn, by omega, by omega⟩
  · have hcb : c ≠ b := fun q => hn (by rw [q]; simp)
    rw [hs c, if_neg hcb] at h0 ⊢
    have := hm.done c hc h0 (fun q => hn (List.mem_append_left _ q)) hne d hd hE2
    rw [hold d this.1]; exact this
  · rw [List.take_add_one, List.mem_append, hj] at hc
    rcases hc with hc | hc
    · have := hm.mine c hc
      rw [hold c this.1, hsa]; exact this
    · obtain rfl : c = b := by simpa using hc
      rw [hsb, hsa]; omega
  · rw [List.pairwise_append]
    refine ⟨?_, List.pairwise_singleton _ _, fun y hy z hz => ?_⟩
    · refine List.Pairwise.imp_of_mem (fun {y z} hy hz q => ?_) hm.ord
      rw [hold y (hm.inn y hy).2.1, hold z (hm.inn z hz).2.1]; exact q
    · obtain rfl : z = b := by simpa using hz
      rw [hsb, hold y (hm.inn y hy).2.1]; exact hm.near y (hm.inn y hy).1
  · rw [hs, hsa]
    split
    · omega
    · exact hm.near c hc
/-- The end: hops that fit one another. -/
theorem over {E : Nat → Nat → Prop} {n x : Nat} {h : List Int} (hi : Inv E n x h []) : Base E n x h ∧ ∀ a b, a < n → b < n → E a b → 0 ≤ at_ h a → 0 ≤ at_ h b ∧ at_ h b ≤ at_ h a + 1 :=
  ⟨hi.base, fun a b ha hb hE h0 => hi.done a ha h0 (by simp) b hb hE⟩
/-- What is left to do: nodes without a number, and the line. -/
def cnt (h : List Int) : Nat := h.countP (fun v => decide (v < 0))
theorem cnt_set : ∀ (h : List Int) (b : Nat) (v : Int), b < h.length → at_ h b < 0 → 0 ≤ v → cnt (h.set b v) + 1 = cnt h
  | [], _, _, hb, _, _ => absurd hb (Nat.not_lt_zero _)
  | u :: h, 0, v, _, h0, hv => by
    have hu : u < 0 := h0
    unfold cnt
    rw [List.set_cons_zero, List.countP_cons, List.countP_cons, if_neg (by simp; omega), if_pos (by simp [hu])]
  | u :: h, b + 1, v, hb, h0, hv => by
    have := cnt_set h b v (by simpa using hb) h0 hv
    unfold cnt at this ⊢
    rw [List.set_cons_succ, List.countP_cons, List.countP_cons]
    omega
/-- No walk is shorter than the hops; hops are there where a walk is. -/
theorem least {E : Nat → Nat → Prop} {n x : Nat} {h : List Int} (hE : ∀ a b, E a b → a < n ∧ b < n) (hx : x < n) (hf : Base E n x h ∧ ∀ a b, a < n → b < n → E a b → 0 ≤ at_ h a → 0 ≤ at_ h b ∧ at_ h b ≤ at_ h a + 1) {b k : Nat} (hw : Wk E x b k) : b < n ∧ 0 ≤ at_ h b ∧ at_ h b ≤ (k : Int) := by
  induction hw with
  | nil => exact ⟨hx, by rw [hf.1.zero]; omega, by rw [hf.1.zero]; omega⟩
  | step hw hab ih =>
    have hb := hE _ _ hab
    have := hf.2 _ _ hb.1 hb.2 hab ih.2.1
    exact ⟨hb.2, this.1, by have := ih.2.2; omega⟩
theorem wk_app {E : Nat → Nat → Prop} {x y z k m : Nat} (h1 : Wk E x y k) (h2 : Wk E y z m) : Wk E x z (k + m) := by
  induction h2 with
  | nil => exact h1
  | step _ hab ih => exact .step ih hab
theorem wk_sym {E : Nat → Nat → Prop} (hs : ∀ a b, E a b → E b a) {x y k : Nat} (h : Wk E x y k) : Wk E y x k := by
  induction h with
  | nil => exact .nil
  | step hw hab ih =>
    have := wk_app (Wk.step Wk.nil (hs _ _ hab)) ih
    rwa [Nat.add_comm] at this
/-- A finished search. -/
def Fine (E : Nat → Nat → Prop) (n x : Nat) (h : List Int) : Prop := Base E n x h ∧ ∀ a b, a < n → b < n → E a b → 0 ≤ at_ h a → 0 ≤ at_ h b ∧ at_ h b ≤ at_ h a + 1
theorem both {E : Nat → Nat → Prop} {n x y : Nat} {hx hy : List Int} (hE : ∀ a b, E a b → a < n ∧ b < n) (hs : ∀ a b, E a b → E b a) (hxn : x < n) (hyn : y < n) (fx : Fine E n x hx) (fy : Fine E n y hy) : at_ hx y = at_ hy x := by
  have l1 := fx.1.low y hyn
  have l2 := fy.1.low x hxn
  by_cases h1 : 0 ≤ at_ hx y
  · have a := least hE hyn fy (wk_sym hs (fx.1.walk y hyn h1))
    have b := least hE hxn fx (wk_sym hs (fy.1.walk x hxn a.2.1))
    omega
  · by_cases h2 : 0 ≤ at_ hy x
    · have b := least hE hxn fx (wk_sym hs (fy.1.walk x hxn h2))
      omega
    · omega
theorem over3 {E : Nat → Nat → Prop} {n x y z : Nat} {hx hy : List Int} (hE : ∀ a b, E a b → a < n ∧ b < n) (hxn : x < n) (hyn : y < n) (hzn : z < n) (fx : Fine E n x hx) (fy : Fine E n y hy) (h1 : 0 ≤ at_ hx y) (h2 : 0 ≤ at_ hy z) : 0 ≤ at_ hx z ∧ at_ hx z ≤ at_ hx y + at_ hy z := by
  have a := least hE hxn fx (wk_app (fx.1.walk y hyn h1) (fy.1.walk z hzn h2))
  exact ⟨a.2.1, by have := a.2.2; omega⟩
end Go.Proofs.Ytpnpfapdjdcnbaa.Bf
