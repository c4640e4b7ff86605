/- An option's bytes, or that it isn't right, and the option of any bytes, or what is wrong, are the document's: the law's walk. -/
import Derived.Test.YtpmbibpphomfkaaHopDec
import Derived.Test.YtpmbibpphomfkaaHHopoptBytes3
import Derived.Test.YtpmbibpphomfkaaHHopoptBytes4
import Derived.Test.YtpmbibpphomfkaaKdOpen
set_option maxRecDepth 100000
set_option linter.unusedVariables false
set_option linter.unusedSimpArgs false
namespace Go.Proofs.Ytpmbibpphomfkaa.Hb
open Go.RowKit Go.Proofs.YtpmbibpphomfkaaW.PrintWords Go.Proofs.Ytpmbibpphomfkaa.Pk
theorem own_slice3 {w : World} {base n : Nat} {e : TypeId} {v : Value} {xs : List Value} (h : w.ownsRow base e 1 v n xs) : ∃ A c, v = .slice A n c ∧ n ≤ c := by
  rcases h.2 with ⟨rfl, h2⟩ | ⟨g, cap, cur, rfl, hb, _, hnc, _⟩
  · exact ⟨none, 0, by rw [h2], by omega⟩
  · exact ⟨_, _, rfl, hnc⟩
theorem agree (l : List Int) (hl : l.length ≤ 60) (hb : ∀ x ∈ l, 0 ≤ x ∧ x ≤ 255) : ∃ (n' : Int) (q1 q2 q3 : Bool) (i' r' er : Int) (rest : List Int), rest.length ≤ 60 ∧ (∀ (A : Option Addr) (c : Nat) (w : World), Kd.C (Kd.int .u8) w A l.length l → l.length ≤ c → c ≤ 9223372036854775807 → Calls Try.prog 6 #[.slice A l.length c] w (fun e w' => ∃ A' c', e = .returned (.tuple #[.int .i64 n', .agg #[.bool q1, .bool q2, .bool q3, .int .i64 i', .int .i64 r'], .slice A' rest.length c', .int .i64 er]) ∧ rest.length ≤ c' ∧ Kd.C (Kd.int .u8) w' A' rest.length rest ∧ Below w.heap.size w w')) ∧ (∀ (A : Option Addr) (c : Nat) (w : World), Kd.C (Kd.int .u8) w A l.length l → l.length ≤ c → Calls Try.prog 7 #[.slice A l.length c] w (fun e w' => ∃ A' c', e = .returned (.tuple #[.int .i64 n', .agg #[.bool q1, .bool q2, .bool q3, .int .i64 i', .int .i64 r'], .slice A' rest.length c', .int .i64 er]) ∧ rest.length ≤ c' ∧ Kd.C (Kd.int .u8) w' A' rest.length rest ∧ Below w.heap.size w w')) := by
  by_cases h8 : l.length < 8
  · exact ⟨0, false, false, false, 0, 0, 4, [], by simp, fun A c w h hc hc2 => (dec_short A c l w h h8).mono (by rintro e w' ⟨rfl, hb⟩; exact ⟨none, 0, rfl, Nat.le_refl _, Kd.C_nil _ _, hb⟩), fun A c w h hc => (rdec_short A c l w h h8).mono (by rintro e w' ⟨rfl, hb⟩; exact ⟨none, 0, rfl, Nat.le_refl _, Kd.C_nil _ _, hb⟩)⟩
  obtain ⟨x0, x1, x2, x3, x4, x5, x6, x7, rest, hx⟩ : ∃ x0 x1 x2 x3 x4 x5 x6 x7 rest, l = [x0, x1, x2, x3, x4, x5, x6, x7] ++ rest := by
    match l, h8 with
    | x0 :: x1 :: x2 :: x3 :: x4 :: x5 :: x6 :: x7 :: rest, _ => exact ⟨x0, x1, x2, x3, x4, x5, x6, x7, rest, rfl⟩
    | [], h => exact absurd (by simp) h
    | [_], h => exact absurd (by simp) h
    | [_, _], h => exact absurd (by simp) h
    | [_, _, _], h => exact absurd (by simp) h
    | [_, _, _, _], h => exact absurd (by simp) h
    | [_, _, _, _, _], h => exact absurd (by simp) h
    | [_, _, _, _, _, _], h => exact absurd (by simp) h
    | [_, _, _, _, _, _, _], h => exact absurd (by simp) h
  have r1 : rd l 1 = x1 := by rw [hx]; rfl
  have r2 : rd l 2 = x2 := by rw [hx]; rfl
  have r3 : rd l 3 = x3 := by rw [hx]; rfl
  have r4 : rd l 4 = x4 := by rw [hx]; rfl
  have hr : rest.length ≤ 60 := by rw [hx] at hl; simp at hl; omega
  by_cases h1 : x1 = 0
  · by_cases h2 : x2 = 99
    · by_cases h3 : x3 = 4
      · by_cases h4 : x4 % 32 = 0
        · exact ⟨x0, (x4 / 128 == 1), (x4 / 64 % 2 == 1), (x4 / 32 % 2 == 1), x5, 256 * x6 + x7, 0, rest, hr, fun A c w h hc hc2 => (dec_ok A c l x0 x1 x2 x3 x4 x5 x6 x7 rest hx w h hc hc2 (by omega) hb h1 h2 h3 h4).mono (by
            rintro e w' ⟨⟨v, rfl, ho⟩, hb⟩
            obtain ⟨A', c', rfl, hc'⟩ := own_slice3 ho
            exact ⟨A', c', rfl, hc', own_C ho, hb⟩), fun A c w h hc => (rdec_ok A c l x0 x1 x2 x3 x4 x5 x6 x7 rest hx w h hc hb h1 h2 h3 h4).mono (by rintro e w' ⟨⟨A', c', rfl, hc', hC⟩, hb⟩; exact ⟨A', c', rfl, hc', hC, hb⟩)⟩
        · exact ⟨0, false, false, false, 0, 0, 3, [], by simp, fun A c w h hc hc2 => (dec_form A c l x0 x1 x2 x3 x4 x5 x6 x7 rest hx w h hc hc2 (by omega) hb h1 h2 h3 h4).mono (by rintro e w' ⟨rfl, hb⟩; exact ⟨none, 0, rfl, Nat.le_refl _, Kd.C_nil _ _, hb⟩), fun A c w h hc => (rdec_form A c l w h (by omega) hb (by rw [r1]; exact h1) (by rw [r2]; exact h2) (by rw [r3]; exact h3) (by rw [r4]; exact h4)).mono (by rintro e w' ⟨rfl, hb⟩; exact ⟨none, 0, rfl, Nat.le_refl _, Kd.C_nil _ _, hb⟩)⟩
      · exact ⟨0, false, false, false, 0, 0, 6, [], by simp, fun A c w h hc hc2 => (dec_kind3 A c l x0 x1 x2 x3 x4 x5 x6 x7 rest hx w h hc hc2 (by omega) hb h1 h2 h3).mono (by rintro e w' ⟨rfl, hb⟩; exact ⟨none, 0, rfl, Nat.le_refl _, Kd.C_nil _ _, hb⟩), fun A c w h hc => (rdec_kind3 A c l w h (by omega) (by rw [r1]; exact h1) (by rw [r2]; exact h2) (by rw [r3]; exact h3)).mono (by rintro e w' ⟨rfl, hb⟩; exact ⟨none, 0, rfl, Nat.le_refl _, Kd.C_nil _ _, hb⟩)⟩
    · exact ⟨0, false, false, false, 0, 0, 6, [], by simp, fun A c w h hc hc2 => (dec_kind2 A c l x0 x1 x2 x3 x4 x5 x6 x7 rest hx w h hc hc2 (by omega) hb h1 h2).mono (by rintro e w' ⟨rfl, hb⟩; exact ⟨none, 0, rfl, Nat.le_refl _, Kd.C_nil _ _, hb⟩), fun A c w h hc => (rdec_kind2 A c l w h (by omega) (by rw [r1]; exact h1) (by rw [r2]; exact h2)).mono (by rintro e w' ⟨rfl, hb⟩; exact ⟨none, 0, rfl, Nat.le_refl _, Kd.C_nil _ _, hb⟩)⟩
  · exact ⟨0, false, false, false, 0, 0, 6, [], by simp, fun A c w h hc hc2 => (dec_kind1 A c l x0 x1 x2 x3 x4 x5 x6 x7 rest hx w h hc hc2 (by omega) hb h1).mono (by rintro e w' ⟨rfl, hb⟩; exact ⟨none, 0, rfl, Nat.le_refl _, Kd.C_nil _ _, hb⟩), fun A c w h hc => (rdec_kind1 A c l w h (by omega) (by rw [r1]; exact h1)).mono (by rintro e w' ⟨rfl, hb⟩; exact ⟨none, 0, rfl, Nat.le_refl _, Kd.C_nil _ _, hb⟩)⟩
end Go.Proofs.Ytpmbibpphomfkaa.Hb
