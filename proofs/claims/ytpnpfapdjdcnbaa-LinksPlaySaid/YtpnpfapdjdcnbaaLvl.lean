/- A search level by level, in plain Lean. No program. -/
import Derived.Test.YtpnpfapdjdcnbaaBf
set_option linter.unusedVariables false
namespace Go.Proofs.Ytpnpfapdjdcnbaa.Lv
open Go.Proofs.Ytpnpfapdjdcnbaa.Bf
variable {E : Nat → Nat → Prop} {n x d a b : Nat} {hP h : List Int}
/-- Hops that fit one another. -/
structure Fit (E : Nat → Nat → Prop) (n x : Nat) (hP : List Int) : Prop where
  base : Base E n x hP
  step : ∀ a b, a < n → b < n → E a b → 0 ≤ at_ hP a → 0 ≤ at_ hP b ∧ at_ hP b ≤ at_ hP a + 1
  bnd : ∀ c, c < n → at_ hP c + 1 ≤ n
def Seen (E : Nat → Nat → Prop) (n : Nat) (hP : List Int) (d a b c : Nat) : Prop := ∃ a', a' < n ∧ E a' c ∧ at_ hP a' = d ∧ (a' < a ∨ (a' = a ∧ c < b))
/-- Level d, row a, column b. -/
structure St (E : Nat → Nat → Prop) (n : Nat) (hP h : List Int) (d a b : Nat) : Prop where
  len : h.length = n
  old : ∀ c, c < n → 0 ≤ at_ hP c → at_ hP c ≤ d → at_ h c = at_ hP c
  new : ∀ c, c < n → at_ hP c = d + 1 → Seen E n hP d a b c → at_ h c = d + 1
  no : ∀ c, c < n → (at_ hP c < 0 ∨ (d : Int) + 1 < at_ hP c ∨ (at_ hP c = d + 1 ∧ ¬ Seen E n hP d a b c)) → at_ h c = -1
theorem at_rep {c : Nat} (hc : c < n) : at_ (List.replicate n (-1)) c = -1 := by unfold at_; simp [List.getD_eq_getElem?_getD, hc]
theorem start (hx : x < n) (hf : Fit E n x hP) : St E n hP ((List.replicate n (-1)).set x 0) 0 0 0 := by
  have hl : x < (List.replicate n (-1 : Int)).length := by rw [List.length_replicate]; exact hx
  refine ⟨by simp, fun c hc h0 h1 => ?_, fun c hc _ ⟨a', _, _, _, h4⟩ => absurd h4 (by omega), fun c hc h0 => ?_⟩
  · have h2 : at_ hP c = 0 := by omega
    have hw := hf.base.walk c hc h0
    rw [h2] at hw
    have : c = x := by
      generalize hk : (0 : Int).toNat = k at hw
      cases hw with
      | nil => rfl
      | step _ _ => cases hk
    rw [at_set hl, if_pos this, h2]
  · rw [at_set hl, if_neg (fun q => by rw [q, hf.base.zero] at h0; omega), at_rep hc]
theorem at_a (hs : St E n hP h d a b) {c : Nat} (hc : c < n) (he : at_ h c = d) : at_ hP c = d := by
  by_cases h1 : 0 ≤ at_ hP c ∧ at_ hP c ≤ d
  · rw [← hs.old c hc h1.1 h1.2]; exact he
  · by_cases h2 : at_ hP c = d + 1
    · by_cases h3 : Seen E n hP d a b c
      · have := hs.new c hc h2 h3; omega
      · have := hs.no c hc (.inr (.inr ⟨h2, h3⟩)); omega
    · have := hs.no c hc (by omega); omega
theorem take (hf : Fit E n x hP) (hs : St E n hP h d a b) (ha : a < n) (hb : b < n) (h1 : at_ h a = d) (h2 : E a b) (h3 : at_ h b < 0) : St E n hP (h.set b (d + 1)) d a (b + 1) := by
  have hl : b < h.length := by rw [hs.len]; exact hb
  have hPa := at_a hs ha h1
  have hst := hf.step a b ha hb h2 (by omega)
  have hPb : at_ hP b = d + 1 := by
    by_cases q : at_ hP b ≤ d
    · have := hs.old b hb hst.1 q; omega
    · omega
  have hseen : Seen E n hP d a (b + 1) b := ⟨a, ha, h2, hPa, .inr ⟨rfl, by omega⟩⟩
  have hsm : ∀ c, c ≠ b → Seen E n hP d a (b + 1) c → Seen E n hP d a b c := fun c hc ⟨a', q1, q2, q3, q4⟩ => ⟨a', q1, q2, q3, by omega⟩
  have hsn : ∀ c, Seen E n hP d a b c → Seen E n hP d a (b + 1) c := fun c ⟨a', q1, q2, q3, q4⟩ => ⟨a', q1, q2, q3, by omega⟩
  refine ⟨by rw [List.length_set]; exact hs.len, fun c hc q1 q2 => ?_, fun c hc q1 q2 => ?_, fun c hc q => ?_⟩
  · rw [at_set hl, if_neg (fun e => by rw [e] at q2; omega)]; exact hs.old c hc q1 q2
  · rw [at_set hl]
    split
    · rfl
    · rename_i e; exact hs.new c hc q1 (hsm c e q2)
  · rw [at_set hl, if_neg (fun e => by rw [e] at q; rcases q with q | q | q; omega; omega; exact q.2 hseen)]
    exact hs.no c hc (q.imp id (fun q => q.imp id (fun q => ⟨q.1, fun z => q.2 (hsn c z)⟩)))
theorem skip (hs : St E n hP h d a b) (ha : a < n) (hb : b < n) (h1 : ¬ (at_ h a = d ∧ E a b ∧ at_ h b < 0)) : St E n hP h d a (b + 1) := by
  have hsn : ∀ c, Seen E n hP d a b c → Seen E n hP d a (b + 1) c := fun c ⟨a', q1, q2, q3, q4⟩ => ⟨a', q1, q2, q3, by omega⟩
  refine ⟨hs.len, hs.old, fun c hc q1 q2 => ?_, fun c hc q => hs.no c hc (q.imp id (fun q => q.imp id (fun q => ⟨q.1, fun z => q.2 (hsn c z)⟩)))⟩
  by_cases h3 : Seen E n hP d a b c
  · exact hs.new c hc q1 h3
  · have h4 := hs.no c hc (.inr (.inr ⟨q1, h3⟩))
    obtain ⟨a', r1, r2, r3, r4⟩ := q2
    rcases r4 with r4 | ⟨r4, r5⟩
    · exact absurd ⟨a', r1, r2, r3, .inl r4⟩ h3
    · have hcb : c = b := by
        rcases Nat.lt_or_ge c b with z | z
        · exact absurd ⟨a', r1, r2, r3, .inr ⟨r4, z⟩⟩ h3
        · omega
      subst hcb; subst r4
      exact absurd ⟨by rw [hs.old a' ha (by omega) (by omega), r3], r2, by omega⟩ h1
theorem row (hs : St E n hP h d a n) : St E n hP h d (a + 1) 0 :=
  ⟨hs.len, hs.old, fun c hc q1 ⟨a', r1, r2, r3, r4⟩ => hs.new c hc q1 ⟨a', r1, r2, r3, by omega⟩, fun c hc q => hs.no c hc (q.imp id (fun q => q.imp id (fun q => ⟨q.1, fun ⟨a', r1, r2, r3, r4⟩ => q.2 ⟨a', r1, r2, r3, by omega⟩⟩)))⟩
theorem wk_le (hE : ∀ a b, E a b → b < n) (hx : x < n) (hf : Fit E n x hP) {b k : Nat} (h : Wk E x b k) : b < n ∧ 0 ≤ at_ hP b ∧ at_ hP b ≤ k := by
  induction h with
  | nil => exact ⟨hx, by rw [hf.base.zero]; omega, by rw [hf.base.zero]; omega⟩
  | step _ hab ih =>
    have := hf.step _ _ ih.1 (hE _ _ hab) hab ih.2.1
    exact ⟨hE _ _ hab, this.1, by omega⟩
theorem level (hE : ∀ a b, E a b → b < n) (hx : x < n) (hf : Fit E n x hP) (hs : St E n hP h d n 0) : St E n hP h (d + 1) 0 0 := by
  refine ⟨hs.len, fun c hc q1 q2 => ?_, fun c hc q1 ⟨a', _, _, _, r4⟩ => absurd r4 (by omega), fun c hc q => hs.no c hc (by omega)⟩
  by_cases q3 : at_ hP c ≤ d
  · exact hs.old c hc q1 q3
  · have q4 : at_ hP c = d + 1 := by omega
    have hw := hf.base.walk c hc q1
    rw [q4] at hw
    generalize hk : ((d : Int) + 1).toNat = k at hw
    rw [q4]
    cases hw with
    | nil => omega
    | step hw hab =>
      have h1 := wk_le hE hx hf hw
      have h2 := hf.step _ _ h1.1 hc hab h1.2.1
      exact hs.new c hc q4 ⟨_, h1.1, hab, by omega, .inl h1.1⟩
theorem fin (hf : Fit E n x hP) (hs : St E n hP h n 0 0) : h = hP := by
  refine List.ext_getElem? fun c => ?_
  by_cases hc : c < n
  · have e : at_ h c = at_ hP c := by
      by_cases q : 0 ≤ at_ hP c
      · exact hs.old c hc q (by have := hf.bnd c hc; omega)
      · have := hf.base.low c hc
        rw [hs.no c hc (.inl (by omega))]; omega
    unfold at_ at e
    rw [List.getD_eq_getElem?_getD, List.getD_eq_getElem?_getD, List.getElem?_eq_getElem (by rw [hs.len]; exact hc), List.getElem?_eq_getElem (by rw [hf.base.len]; exact hc)] at e
    rw [List.getElem?_eq_getElem (by rw [hs.len]; exact hc), List.getElem?_eq_getElem (by rw [hf.base.len]; exact hc)]
    exact congrArg some e
  · rw [List.getElem?_eq_none (by rw [hs.len]; omega), List.getElem?_eq_none (by rw [hf.base.len]; omega)]
end Go.Proofs.Ytpnpfapdjdcnbaa.Lv
