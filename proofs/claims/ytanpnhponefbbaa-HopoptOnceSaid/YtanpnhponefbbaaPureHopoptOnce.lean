/- Through hops of any ranks an option goes through one inconsistent hop at most: plain numbers, bools and lists; the list no longer than the row allows. -/
import Derived.Test.YtanpnhponefbbaaHHopoptOnce2
set_option linter.unusedSimpArgs false
set_option linter.unusedVariables false
namespace Go.Proofs.Ytanpnhponefbbaa.PureHopoptOnce
open Go.RowKit Go.Proofs.Ytanpnhponefbbaa.PHopoptOnce Go.Proofs.YtanpnhponefbbaaW.PrintWords Go.Proofs.YtanpnhponefbbaaW.PrintLast Go.Proofs.YtanpnhponefbbaaW.PrintMore

theorem span1 : pack_span.f 1 = some 256 := by decide +kernel
theorem span2 : pack_span.f 2 = some 65536 := by decide +kernel

theorem fits1 (k : Nat) (hk : 4 ≤ k) (a : Int) : pack_Fits.f k 1 [a] = some (decide (0 ≤ a ∧ a ≤ 255)) := by
  obtain ⟨k, rfl⟩ : ∃ m, k = m + 4 := ⟨k - 4, by omega⟩
  simp only [pack_Fits.f, span1, Option.bind_some, pack_Fits.l0, rd, wrap64]
  by_cases h1 : a < 0 <;> by_cases h2 : a ≥ 256 <;> simp [h1, h2] <;> omega

theorem fits2 (k : Nat) (hk : 4 ≤ k) (a : Int) : pack_Fits.f k 2 [a] = some (decide (0 ≤ a ∧ a ≤ 65535)) := by
  obtain ⟨k, rfl⟩ : ∃ m, k = m + 4 := ⟨k - 4, by omega⟩
  simp only [pack_Fits.f, span2, Option.bind_some, pack_Fits.l0, rd, wrap64]
  by_cases h1 : a < 0 <;> by_cases h2 : a ≥ 65536 <;> simp [h1, h2] <;> omega

theorem fits22 (k : Nat) (hk : 4 ≤ k) (a b : Int) : pack_Fits.f k 2 [a, b] = some (decide ((0 ≤ a ∧ a ≤ 65535) ∧ 0 ≤ b ∧ b ≤ 65535)) := by
  obtain ⟨k, rfl⟩ : ∃ m, k = m + 4 := ⟨k - 4, by omega⟩
  simp only [pack_Fits.f, span2, Option.bind_some, pack_Fits.l0, rd, wrap64]
  by_cases h1 : a < 0 <;> by_cases h2 : a ≥ 65536 <;> by_cases h3 : b < 0 <;> by_cases h4 : b ≥ 65536 <;> simp [h1, h2, h3, h4] <;> omega

def okB (i r own least : Int) : Bool := decide ((0 ≤ i ∧ i ≤ 255) ∧ (0 ≤ r ∧ r ≤ 65535) ∧ (0 ≤ own ∧ own ≤ 65535) ∧ 1 ≤ least ∧ least ≤ 65535)
def consB (d : Bool) (r own least : Int) : Bool := if d = true then decide (wrap64 (r.tdiv least) < wrap64 (own.tdiv least)) else decide (wrap64 (r.tdiv least) > wrap64 (own.tdiv least))

theorem check_f (k : Nat) (hk : 4 ≤ k) (a b c : Bool) (i r : Int) : hopopt_Check.f k a b c i r = some (if (0 ≤ i ∧ i ≤ 255) ∧ 0 ≤ r ∧ r ≤ 65535 then 0 else 1) := by
  unfold hopopt_Check.f
  rw [fits1 k hk, fits2 k hk]
  by_cases h1 : 0 ≤ i ∧ i ≤ 255 <;> by_cases h2 : 0 ≤ r ∧ r ≤ 65535 <;> simp [h1, h2]

theorem cons_f (k : Nat) (hk : 4 ≤ k) (a b c : Bool) (i r own least : Int) : hopopt_Consistent.f k a b c i r own least = some (if okB i r own least = true then (consB a r own least, 0) else (false, 1)) := by
  unfold hopopt_Consistent.f
  rw [check_f k hk, fits22 k hk]
  obtain ⟨k, rfl⟩ : ∃ m, k = m + 1 := ⟨k - 1, by omega⟩
  by_cases h1 : (0 ≤ i ∧ i ≤ 255) ∧ 0 ≤ r ∧ r ≤ 65535
  · by_cases h2 : (0 ≤ own ∧ own ≤ 65535) ∧ 0 ≤ least ∧ least ≤ 65535
    · by_cases h3 : least = 0
      · have h4 : okB i r own least = false := by unfold okB; rw [decide_eq_false_iff_not]; omega
        simp [h1, h2, h3, h4, hopopt_Consistent.j0]
        subst h3; simp [h4]
      · have h4 : okB i r own least = true := by unfold okB; rw [decide_eq_true_eq]; omega
        cases a <;> simp [h1, h2, h3, h4, hopopt_Consistent.j0, consB]
    · have h4 : okB i r own least = false := by unfold okB; rw [decide_eq_false_iff_not]; omega
      simp only [h1, and_self, if_true, Option.bind_some, h2, decide_false, Bool.false_eq_true, if_false, hopopt_Consistent.j0, h4]
  · have h4 : okB i r own least = false := by unfold okB; rw [decide_eq_false_iff_not]; omega
    simp only [h1, if_false, Option.bind_some, Int.reduceEq, if_false, hopopt_Consistent.j0, h4, Bool.false_eq_true]
    simp

def hopV (a b c : Bool) (i r own least : Int) : Bool × Bool × Bool × Int × Int × Bool × Int :=
  if okB i r own least = true then (if consB a r own least = true then (a, b, c, i, own, true, 0) else if b = true then (false, false, false, 0, 0, false, 11) else (a, true, c, i, own, false, 0)) else (false, false, false, 0, 0, false, 1)

theorem hop_f (k : Nat) (hk : 4 ≤ k) (a b c : Bool) (i r own least : Int) : hopopt_Hop.f k a b c i r own least = some (hopV a b c i r own least) := by
  unfold hopopt_Hop.f hopV
  rw [cons_f k hk]
  by_cases h : okB i r own least = true
  · by_cases h2 : consB a r own least = true
    · cases b <;> simp [h, h2]
    · cases b <;> simp [h, h2]
  · simp [h]

theorem known_f (k : Nat) (hk : 8 ≤ k) : rivuletlaw06_known.f k = some true := at_rounds rivuletlaw06_known.mono hk (by decide +kernel)

theorem right_f (a b c : Bool) (i r : Int) : rivuletref06_Right.f a b c i r = some (decide ((0 ≤ i ∧ i ≤ 255) ∧ 0 ≤ r ∧ r ≤ 65535)) := by
  unfold rivuletref06_Right.f
  by_cases h1 : i ≥ 0 <;> by_cases h2 : i ≤ 255 <;> by_cases h3 : r ≥ 0 <;> simp [h1, h2, h3] <;> omega

theorem loop (l : List Int) (least : Int) (hl : 1 ≤ least ∧ least ≤ 65535) (hlen : l.length ≤ 17592186043904) (a c : Bool) (i : Int) (hi : 0 ≤ i ∧ i ≤ 255) :
    ∀ (d k : Nat) (n bad : Int) (b : Bool) (r : Int), 0 ≤ n → n ≤ 30 → (30 - n) = d → 3 * d + 12 ≤ k → (0 ≤ r ∧ r ≤ 65535) → ((b = false ∧ bad = 0) ∨ (b = true ∧ bad = 1)) →
      rivuletlaw06_HopoptOnce.l0 k l least bad n a b c i r = some true := by
  intro d
  induction d with
  | zero =>
    intro k n bad b r h0 h1 hd hk hr hb
    obtain ⟨k, rfl⟩ : ∃ m, k = m + 3 := ⟨k - 3, by omega⟩
    have hn : decide (n < 30) = false := by rw [decide_eq_false_iff_not]; omega
    simp only [rivuletlaw06_HopoptOnce.l0, hn, rivuletlaw06_HopoptOnce.j1, Bool.false_eq_true, if_false, known_f (k + 1) (by omega), Option.bind_some, ite_self]
  | succ d ih =>
    intro k n bad b r h0 h1 hd hk hr hb
    obtain ⟨k, rfl⟩ : ∃ m, k = m + 3 := ⟨k - 3, by omega⟩
    have hn : decide (n < 30) = true := by rw [decide_eq_true_eq]; omega
    by_cases hlt : n < (l.length : Int)
    · generalize hown : wrap64 (Int.tmod (IntKind.u64.wrap (rd l n)) 65536) = own
      have hown2 : 0 ≤ own ∧ own ≤ 65535 := by
        have h1 : 0 ≤ IntKind.u64.wrap (rd l n) := by rw [IntKind.wrap_u64]; omega
        have h2 := Int.tmod_eq_emod_of_nonneg (b := 65536) h1
        rw [h2] at hown
        rw [← hown]; unfold wrap64; omega
      have hok : okB i r own least = true := by unfold okB; rw [decide_eq_true_eq]; omega
      have hw : wrap64 (n + 1) = n + 1 := by unfold wrap64; omega
      simp only [rivuletlaw06_HopoptOnce.l0, hlt, if_true, hn, rivuletlaw06_HopoptOnce.j1, h0, hown, cons_f (k + 1) (by omega), hop_f (k + 1) (by omega), Option.bind_some, hok, hopV]
      by_cases hc : consB a r own least = true
      · simp only [hc, if_true, rivuletlaw06_HopoptOnce.j2]
        have hb1 : ¬ bad > 1 := by omega
        have hb2 : b = (bad == 1) := by rcases hb with ⟨rfl, rfl⟩ | ⟨rfl, rfl⟩ <;> rfl
        rw [if_neg hb1]
        simp only [if_true, bne_self_eq_false, Bool.false_eq_true, if_false, ← hb2, hw]
        exact ih k (n + 1) bad b own (by omega) (by omega) (by omega) (by omega) hown2 hb
      · rcases hb with ⟨rfl, rfl⟩ | ⟨rfl, rfl⟩
        · have hw2 : wrap64 (0 + 1) = 1 := by simp [wrap64]
          simp only [hc, Bool.false_eq_true, if_false, rivuletlaw06_HopoptOnce.j2, hw2]
          have := ih k (n + 1) 1 true own (by omega) (by omega) (by omega) (by omega) hown2 (.inr ⟨rfl, rfl⟩)
          simp [hw, this]
        · have hw2 : wrap64 (1 + 1) = 2 := by simp [wrap64]
          simp only [hc, Bool.false_eq_true, if_false, if_true, rivuletlaw06_HopoptOnce.j2, hw2, known_f k (by omega), Option.bind_some]
          simp
    · simp only [rivuletlaw06_HopoptOnce.l0, hlt, if_false, rivuletlaw06_HopoptOnce.j1, Bool.false_eq_true, if_false, known_f (k + 1) (by omega), Option.bind_some]

theorem pure (a b c : Bool) (i r : Int) (l : List Int) (least : Int) (hlen : l.length ≤ 17592186043904) : rivuletlaw06_HopoptOnce.f 200 a b c i r l least = some true := by
  unfold rivuletlaw06_HopoptOnce.f rivuletlaw06_To.f
  rw [right_f]
  simp only [Option.bind_some, decide_eq_true_eq]
  by_cases h : (0 ≤ i ∧ i ≤ 255) ∧ 0 ≤ r ∧ r ≤ 65535
  · rw [if_pos h]
    have hl : 1 ≤ wrap64 (1 + wrap64 (Int.tmod (IntKind.u64.wrap least) 65535)) ∧ wrap64 (1 + wrap64 (Int.tmod (IntKind.u64.wrap least) 65535)) ≤ 65535 := by
      have h1 : 0 ≤ IntKind.u64.wrap least := by rw [IntKind.wrap_u64]; omega
      have h2 := Int.tmod_eq_emod_of_nonneg (b := 65535) h1
      rw [h2]; unfold wrap64; omega
    exact loop l _ hl hlen a c i h.1 30 200 0 0 false r (by omega) (by omega) (by omega) (by omega) h.2 (.inl ⟨rfl, rfl⟩)
  · rw [if_neg h, known_f 200 (by omega)]; rfl

end Go.Proofs.Ytanpnhponefbbaa.PureHopoptOnce
