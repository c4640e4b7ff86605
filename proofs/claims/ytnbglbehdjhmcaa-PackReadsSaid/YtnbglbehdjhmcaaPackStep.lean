/- What a step of a cursor does, whatever it is. -/
import Derived.Test.YtnbglbehdjhmcaaPackPut
set_option linter.unusedVariables false
set_option linter.unusedSimpArgs false
namespace Go.Proofs.Ytnbglbehdjhmcaa.Pk
open Go.RowKit Go.Proofs.YtnbglbehdjhmcaaW.PrintWords
/-- What is wrong behind a wish of k bytes. -/
def nr (len p : Nat) (r k : Int) : Int := if r ≠ 0 then r else if k < 0 then 1 else if (len : Int) - p < k then 4 else 0
def np (len p : Nat) (r k : Int) : Nat := if nr len p r k = 0 then p + k.toNat else p
def nl (l : List Int) (p : Nat) (r k : Int) : List Int := if nr l.length p r k = 0 then (l.drop p).take k.toNat else []
theorem nr_was {len p : Nat} {r k : Int} (h : r ≠ 0) : nr len p r k = r := by unfold nr; rw [if_pos h]
theorem nr_neg {len p : Nat} {k : Int} (h : k < 0) : nr len p 0 k = 1 := by unfold nr; rw [if_neg (by simp), if_pos h]
theorem nr_end {len p : Nat} {k : Int} (h0 : ¬ k < 0) (h : (len : Int) - p < k) : nr len p 0 k = 4 := by unfold nr; rw [if_neg (by simp), if_neg h0, if_pos h]
theorem nr_ok {len p : Nat} {k : Int} (h0 : ¬ k < 0) (h : ¬ (len : Int) - p < k) : nr len p 0 k = 0 := by unfold nr; rw [if_neg (by simp), if_neg h0, if_neg h]
theorem np_bad {len p : Nat} {r k : Int} (h : nr len p r k ≠ 0) : np len p r k = p := by unfold np; rw [if_neg h]
theorem nl_bad {l : List Int} {p : Nat} {r k : Int} (h : nr l.length p r k ≠ 0) : nl l p r k = [] := by unfold nl; rw [if_neg h]
theorem np_ok {len p : Nat} {r k : Int} (h : nr len p r k = 0) : np len p r k = p + k.toNat := by unfold np; rw [if_pos h]
theorem nl_ok {l : List Int} {p : Nat} {r k : Int} (h : nr l.length p r k = 0) : nl l p r k = (l.drop p).take k.toNat := by unfold nl; rw [if_pos h]
theorem nr_zero {len p : Nat} {r k : Int} (h : nr len p r k = 0) : r = 0 ∧ 0 ≤ k ∧ k ≤ (len : Int) - p := by
  unfold nr at h
  by_cases hr : r = 0
  · subst hr
    rw [if_neg (fun h => h rfl)] at h
    by_cases hk : k < 0
    · rw [if_pos hk] at h; omega
    · rw [if_neg hk] at h
      by_cases h2 : (len : Int) - p < k
      · rw [if_pos h2] at h; omega
      · exact ⟨rfl, by omega, by omega⟩
  · rw [if_pos hr] at h; exact absurd h hr
theorem np_le {len p : Nat} {r k : Int} (hp : p ≤ len) : np len p r k ≤ len := by
  by_cases h : nr len p r k = 0
  · rw [np_ok h]
    have := nr_zero h
    omega
  · rw [np_bad h]; exact hp
theorem nl_len {l : List Int} {p : Nat} {r k : Int} (hp : p ≤ l.length) (h : nr l.length p r k = 0) : (nl l p r k).length = k.toNat := by
  have h2 : np l.length p r k ≤ l.length := np_le hp
  rw [np_ok h] at h2
  rw [nl_ok h]; simp; omega
theorem nl_mem {l : List Int} {p : Nat} {r k : Int} (hb : ∀ x ∈ l, 0 ≤ x ∧ x ≤ 255) : ∀ x ∈ nl l p r k, 0 ≤ x ∧ x ≤ 255 := by
  intro x hx
  unfold nl at hx
  split at hx
  · exact hb x (List.mem_of_mem_drop (List.mem_of_mem_take hx))
  · cases hx
/-- A cursor over the row l, that stands at p. -/
structure Cs (w : World) (g : Nat) (A : Option Addr) (c : Nat) (l : List Int) (p : Nat) (r : Int) : Prop where
  cu : Cu w g A l.length c p r
  C : Kd.C (Kd.int .u8) w A l.length l
  ne : 0 < l.length → ∀ ad, A = some ad → ad.block ≠ g
theorem C_kpO {w w' : World} {A : Option Addr} {n g : Nat} {l : List Int} (h : Kd.C (Kd.int .u8) w A n l) (hk : Kp w w' (fun k => k = g)) (hne : 0 < n → ∀ ad, A = some ad → ad.block ≠ g) : Kd.C (Kd.int .u8) w' A n l := by
  rcases Nat.eq_zero_or_pos n with h0 | h0
  · exact ⟨h.1, h.2.1, fun h1 => by omega⟩
  · cases A with
    | none => exact C_none h
    | some a => exact C_kp h hk (hne h0 a rfl)
theorem Cs.row {w : World} {g : Nat} {A : Option Addr} {c : Nat} {l : List Int} {p : Nat} {r : Int} (h : Cs w g A c l p r) : ∀ w', Kp w w' (fun k => k = g) → Kd.C (Kd.int .u8) w' A l.length l := fun w' hk => C_kpO h.C hk h.ne
theorem Cs.kp {w w' : World} {g : Nat} {A : Option Addr} {c : Nat} {l : List Int} {p p' : Nat} {r r' : Int} (h : Cs w g A c l p r) (hk : Kp w w' (fun k => k = g)) (hc : Cu w' g A l.length c p' r') : Cs w' g A c l p' r' :=
  ⟨hc, C_kpO h.C hk h.ne, h.ne⟩
theorem Cs.other {w w' : World} {g g' : Nat} {A : Option Addr} {c : Nat} {l : List Int} {p : Nat} {r : Int} (h : Cs w g A c l p r) (hk : Kp w w' (fun k => k = g')) (hg : g ≠ g') (hA : 0 < l.length → ∀ ad, A = some ad → ad.block ≠ g') : Cs w' g A c l p r :=
  ⟨kp_blk h.cu hk hg, C_kpO h.C hk hA, h.ne⟩
theorem Cs.bel {w w' : World} {g : Nat} {A : Option Addr} {c : Nat} {l : List Int} {p : Nat} {r : Int} (h : Cs w g A c l p r) (hb : Below w.heap.size w w') : Cs w' g A c l p r :=
  ⟨blk_bel h.cu hb, Kd.C_below h.C hb, h.ne⟩
theorem bytes_step (g : Nat) (A : Option Addr) (c : Nat) (l : List Int) (p : Nat) (r k : Int) (w : World) (h : Cs w g A c l p r) (hA0 : A = none → c = 0) (hp : p ≤ l.length) (hc : l.length ≤ c) (hc2 : c ≤ 9223372036854775807) (hl : l.length ≤ 1000000) :
    Calls Try.prog 20 #[.pointer (some ⟨g, 0, none⟩), .int .i64 k] w fun e w' => (∃ v, e = .returned v ∧ w'.ownsRow w.heap.size 5 1 v (nl l p r k).length (encs (Value.int .u8) (nl l p r k))) ∧ Cs w' g A c l (np l.length p r k) (nr l.length p r k) ∧ Kp w w' (fun k => k = g) := by
  by_cases hr : r = 0
  · subst hr
    by_cases hk : k < 0
    · have e := nr_neg (len := l.length) (p := p) hk
      rw [np_bad (by rw [e]; decide), nl_bad (by rw [e]; decide), e]
      refine (bytes_neg g A l.length c p k w h.cu hk).mono ?_
      rintro e w' ⟨rfl, h1, k1⟩
      exact ⟨⟨_, rfl, own_nil _ _ _ _⟩, h.kp k1 h1, k1⟩
    · by_cases h2 : (l.length : Int) - p < k
      · have e := nr_end hk h2
        rw [np_bad (by rw [e]; decide), nl_bad (by rw [e]; decide), e]
        refine (bytes_end g A l.length c p k w h.cu (by omega) (by omega) (by omega) hk h2).mono ?_
        rintro e w' ⟨rfl, h1, k1⟩
        exact ⟨⟨_, rfl, own_nil _ _ _ _⟩, h.kp k1 h1, k1⟩
      · have e := nr_ok hk h2
        have hn := nl_len (k := k) hp e
        rw [hn, np_ok e, nl_ok e, e]
        obtain ⟨kn, rfl⟩ : ∃ kn : Nat, k = kn := ⟨k.toNat, by omega⟩
        rw [Int.toNat_natCast]
        refine (bytes_ok g A c l p kn (p + kn) rfl w h.cu hA0 h.row hc hc2 (by omega) (by omega)).mono ?_
        rintro e w' ⟨hv, h1, k1⟩
        exact ⟨hv, h.kp k1 h1, k1⟩
  · have e := nr_was (len := l.length) (p := p) (k := k) hr
    rw [np_bad (by rw [e]; exact hr), nl_bad (by rw [e]; exact hr), e]
    refine (bytes_was g A l.length c p r k w h.cu hr).mono ?_
    rintro e w' ⟨rfl, rfl⟩
    exact ⟨⟨_, rfl, own_nil _ _ _ _⟩, h, Kp.refl _ _⟩
/-- What is wrong behind a number of size k. -/
def tr (len p : Nat) (r k : Int) : Int := if r = 0 ∧ spanF k = 0 then 1 else nr len p r k
theorem span_sizes {k : Int} (h : spanF k ≠ 0) : k = 1 ∨ k = 2 ∨ k = 4 := fits_size k [] (by unfold fitsF; have := span_bd k; simp; omega)
theorem take_step (g : Nat) (A : Option Addr) (c : Nat) (l : List Int) (p : Nat) (r k : Int) (w : World) (h : Cs w g A c l p r) (hp : p ≤ l.length) (hb : ∀ x ∈ l, 0 ≤ x ∧ x ≤ 255) (hc : l.length ≤ c) (hc2 : c ≤ 9223372036854775807) (hl : l.length ≤ 1000000) :
    Calls Try.prog 18 #[.pointer (some ⟨g, 0, none⟩), .int .i64 k] w fun e w' => e = .returned (.int .i64 (if r = 0 ∧ spanF k = 0 then 0 else joinF (nl l p r k))) ∧ Cs w' g A c l (if r = 0 ∧ spanF k = 0 then p else np l.length p r k) (tr l.length p r k) ∧ Kp w w' (fun k => k = g) := by
  unfold tr
  by_cases hr : r = 0
  · subst hr
    by_cases hs : spanF k = 0
    · rw [if_pos ⟨rfl, hs⟩, if_pos ⟨rfl, hs⟩, if_pos ⟨rfl, hs⟩]
      refine (take_bad g A l.length c p k hs w h.cu).mono ?_
      rintro e w' ⟨rfl, h1, k1⟩
      exact ⟨rfl, h.kp k1 h1, k1⟩
    · rw [if_neg (fun h => hs h.2), if_neg (fun h => hs h.2), if_neg (fun h => hs h.2)]
      have hk := span_sizes hs
      have hk0 : ¬ k < 0 := by omega
      by_cases h2 : (l.length : Int) - p < k
      · have e := nr_end hk0 h2
        rw [np_bad (by rw [e]; decide), nl_bad (by rw [e]; decide), e]
        refine (take_end g A l.length c p k (spanF k) rfl hs w h.cu (by omega) (by omega) (by omega) hk0 h2).mono ?_
        rintro e w' ⟨rfl, h1, k1⟩
        exact ⟨rfl, h.kp k1 h1, k1⟩
      · have e := nr_ok hk0 h2
        rw [np_ok e, nl_ok e, e]
        obtain ⟨kn, rfl⟩ : ∃ kn : Nat, k = kn := ⟨k.toNat, by omega⟩
        rw [Int.toNat_natCast]
        cases A with
        | none =>
          obtain ⟨ad, he, _⟩ := (h.row w (Kp.refl _ _)).2.2 (by omega)
          cases he
        | some a =>
          refine (take_ok g a c l p kn (p + kn) _ (spanF kn) rfl rfl rfl hs (by omega) w h.cu (h.row w (Kp.refl _ _)) hb h.row hc hc2 (by omega)).mono ?_
          rintro e w' ⟨rfl, h1, k1⟩
          exact ⟨rfl, h.kp k1 h1, k1⟩
  · have e := nr_was (len := l.length) (p := p) (k := k) hr
    rw [if_neg (fun h => hr h.1), if_neg (fun h => hr h.1), if_neg (fun h => hr h.1), np_bad (by rw [e]; exact hr), nl_bad (by rw [e]; exact hr), e]
    refine (take_was g A l.length c p r k (spanF k) rfl w h.cu hr).mono ?_
    rintro e w' ⟨rfl, rfl⟩
    exact ⟨rfl, h, Kp.refl _ _⟩
/-- What is wrong behind m numbers of size k. -/
def mr (len p : Nat) (r k m : Int) : Int := if r ≠ 0 then r else if spanF k = 0 ∨ m < 0 then 1 else if ((len : Int) - p).tdiv k < m then 4 else 0
def mp (len p : Nat) (r k m : Int) : Nat := if mr len p r k m = 0 then p + m.toNat * k.toNat else p
def ml (l : List Int) (p : Nat) (r k m : Int) : List Int := if mr l.length p r k m = 0 then manyF l p k.toNat m.toNat else []
theorem mp_le {len p : Nat} {r k m : Int} (hp : p ≤ len) : mp len p r k m ≤ len := by
  unfold mp
  split
  · rename_i h
    unfold mr at h
    split at h
    · rename_i h1; exact absurd h h1
    · split at h
      · omega
      · rename_i h2
        split at h
        · omega
        · rename_i h3
          have hk := span_sizes (k := k) (by omega)
          have e1 : ((len : Int) - p).tdiv k = (len - p) / k := Int.tdiv_eq_ediv_of_nonneg (by omega)
          rw [e1] at h3
          rcases hk with rfl | rfl | rfl <;> (simp only [show (1 : Int).toNat = 1 from rfl, show (2 : Int).toNat = 2 from rfl, show (4 : Int).toNat = 4 from rfl]; omega)
  · exact hp
theorem many_step (g : Nat) (A : Option Addr) (c : Nat) (l : List Int) (p : Nat) (r k m : Int) (w : World) (h : Cs w g A c l p r) (hp : p ≤ l.length) (hb : ∀ x ∈ l, 0 ≤ x ∧ x ≤ 255) (hc : l.length ≤ c) (hc2 : c ≤ 9223372036854775807) (hl : l.length ≤ 1000000) :
    Calls Try.prog 19 #[.pointer (some ⟨g, 0, none⟩), .int .i64 k, .int .i64 m] w fun e w' => (∃ v, e = .returned v ∧ w'.ownsRow w.heap.size 3 1 v (ml l p r k m).length (encs (Value.int .i64) (ml l p r k m))) ∧ Cs w' g A c l (mp l.length p r k m) (mr l.length p r k m) ∧ Kp w w' (fun k => k = g) := by
  by_cases hr : r = 0
  · subst hr
    by_cases hbad : spanF k = 0 ∨ m < 0
    · have e : mr l.length p 0 k m = 1 := by unfold mr; rw [if_neg (by simp), if_pos hbad]
      unfold mp ml
      rw [e, if_neg (by decide), if_neg (by decide)]
      refine (many_bad g A l.length c p k m hbad w h.cu).mono ?_
      rintro e w' ⟨rfl, h1, k1⟩
      exact ⟨⟨_, rfl, own_nil _ _ _ _⟩, h.kp k1 h1, k1⟩
    · have hs : spanF k ≠ 0 := fun h => hbad (.inl h)
      have hm : ¬ m < 0 := fun h => hbad (.inr h)
      have hk := span_sizes hs
      by_cases hd : ((l.length : Int) - p).tdiv k < m
      · have e : mr l.length p 0 k m = 4 := by unfold mr; rw [if_neg (by simp), if_neg hbad, if_pos hd]
        unfold mp ml
        rw [e, if_neg (by decide), if_neg (by decide)]
        refine (many_end g A l.length c p k m (spanF k) hk rfl hs hm w h.cu (by omega) (by omega) (by omega) hd).mono ?_
        rintro e w' ⟨rfl, h1, k1⟩
        exact ⟨⟨_, rfl, own_nil _ _ _ _⟩, h.kp k1 h1, k1⟩
      · have e : mr l.length p 0 k m = 0 := by unfold mr; rw [if_neg (by simp), if_neg hbad, if_neg hd]
        have hle := mp_le (r := 0) (k := k) (m := m) hp
        unfold mp at hle
        unfold mp ml
        rw [e, if_pos rfl] at hle
        rw [e, if_pos rfl, if_pos rfl]
        obtain ⟨kn, rfl⟩ : ∃ kn : Nat, k = kn := ⟨k.toNat, by omega⟩
        obtain ⟨mn, rfl⟩ : ∃ mn : Nat, m = mn := ⟨m.toNat, by omega⟩
        rw [Int.toNat_natCast, Int.toNat_natCast] at hle ⊢
        rw [many_len]
        refine (many_ok g A c l p kn mn (p + mn * kn) (spanF kn) rfl (by omega) rfl hs w h.cu h.row hb hc hc2 hle (by omega)).mono ?_
        rintro e w' ⟨hv, h1, k1⟩
        exact ⟨hv, h.kp k1 h1, k1⟩
  · have e : mr l.length p r k m = r := by unfold mr; rw [if_pos hr]
    unfold mp ml
    rw [e, if_neg hr, if_neg hr]
    by_cases hbad : spanF k = 0 ∨ m < 0
    · refine (many_bad_was g A l.length c p r k m hbad w h.cu hr).mono ?_
      rintro e w' ⟨rfl, rfl⟩
      exact ⟨⟨_, rfl, own_nil _ _ _ _⟩, h, Kp.refl _ _⟩
    · refine (many_was g A l.length c p r k m (spanF k) rfl (fun h => hbad (.inl h)) (fun h => hbad (.inr h)) w h.cu hr).mono ?_
      rintro e w' ⟨rfl, rfl⟩
      exact ⟨⟨_, rfl, own_nil _ _ _ _⟩, h, Kp.refl _ _⟩
theorem spoil_step (g : Nat) (A : Option Addr) (c : Nat) (l : List Int) (p : Nat) (r e0 : Int) (w : World) (h : Cs w g A c l p r) :
    Calls Try.prog 15 #[.pointer (some ⟨g, 0, none⟩), .int .i64 e0] w fun e w' => e = .returned (.tuple #[]) ∧ Cs w' g A c l p (if r = 0 then e0 else r) ∧ Kp w w' (fun k => k = g) := by
  by_cases hr : r = 0
  · subst hr
    rw [if_pos rfl]
    refine (spoil_ok g A l.length c p e0 w h.cu).mono ?_
    rintro e w' ⟨rfl, h1, k1⟩
    exact ⟨rfl, h.kp k1 h1, k1⟩
  · rw [if_neg hr]
    refine (spoil_was g A l.length c p r e0 w h.cu hr).mono ?_
    rintro e w' ⟨rfl, rfl⟩
    exact ⟨rfl, h, Kp.refl _ _⟩
theorem close_step (g : Nat) (A : Option Addr) (c : Nat) (l : List Int) (p : Nat) (r : Int) (w : World) (h : Cs w g A c l p r) (hp : p ≤ l.length) (hl : l.length ≤ 1000000) :
    Calls Try.prog 25 #[.pointer (some ⟨g, 0, none⟩)] w fun e w' => e = .returned (.int .i64 (if r = 0 then (if 0 < (l.length : Int) - p then 3 else 0) else r)) ∧ ∃ m, w' = w.drewN m := by
  by_cases hr : r = 0
  · subst hr
    rw [if_pos rfl]
    exact close_ok g A l.length c p _ w h.cu (by omega) (by omega) (by omega) rfl
  · rw [if_neg hr]
    refine (close_was g A l.length c p r w h.cu hr).mono ?_
    rintro e w' ⟨rfl, rfl⟩
    exact ⟨rfl, 0, rfl⟩
end Go.Proofs.Ytnbglbehdjhmcaa.Pk
