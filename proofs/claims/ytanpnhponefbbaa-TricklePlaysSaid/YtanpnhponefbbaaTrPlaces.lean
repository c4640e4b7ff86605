/- TricklePlaces. -/
import Derived.Test.YtanpnhponefbbaaTrLaws
set_option linter.unusedVariables false
set_option linter.unusedSimpArgs false
namespace Go.Proofs.Ytanpnhponefbbaa.Tr
open Go.RowKit Go.Proofs.YtanpnhponefbbaaW.PrintWords Go.Proofs.Ytanpnhponefbbaa.PTricklePlaces
theorem refplace_f (L d : Int) (hL : L ≤ 9223372036854775806) : rivuletref11_Place.f L d = some (placeF L d) := by
  unfold rivuletref11_Place.f placeF
  by_cases h : L < 1
  · rw [if_pos h, if_pos h]
  · rw [if_neg h, if_neg h]
    have e0 : wrap64 (L + 1) = L + 1 := by unfold wrap64; omega
    have e1 : Int.tdiv (L + 1) 2 = L / 2 + L % 2 := by rw [Int.tdiv_eq_ediv_of_nonneg (by omega)]; omega
    have e4 : wrap64 (L / 2 + L % 2) = L / 2 + L % 2 := by unfold wrap64; omega
    have e5 : wrap64 (L - (L / 2 + L % 2)) = L - (L / 2 + L % 2) := by unfold wrap64; omega
    have e6 : IntKind.u64.wrap (L - (L / 2 + L % 2)) = L - (L / 2 + L % 2) := by rw [IntKind.wrap_u64]; omega
    have e7 : IntKind.u64.wrap (L - (L / 2 + L % 2) + 1) = L - (L / 2 + L % 2) + 1 := by rw [IntKind.wrap_u64]; omega
    have hd : 0 ≤ IntKind.u64.wrap d := by rw [IntKind.wrap_u64]; omega
    have e8 := Int.tmod_eq_emod_of_nonneg (b := L - (L / 2 + L % 2) + 1) hd
    rw [e0, e1, e4, e5, e6, e7, e8, if_neg (by omega)]
    have h1 : 0 < L - (L / 2 + L % 2) + 1 := by omega
    have h2 := Int.emod_nonneg (IntKind.u64.wrap d) (show L - (L / 2 + L % 2) + 1 ≠ 0 by omega)
    have h3 := Int.emod_lt_of_pos (IntKind.u64.wrap d) h1
    congr 1
    generalize IntKind.u64.wrap d % (L - (L / 2 + L % 2) + 1) = q at h2 h3
    have e9 : wrap64 q = q := by unfold wrap64; omega
    rw [e9]
    unfold wrap64; omega
theorem refplace_any (L d p : Int) (hL : L ≤ 9223372036854775806) (hp : placeF L d = p) (w : World) : Calls Try.prog 32 #[.int .i64 L, .int .i64 d] w fun e w' => e = .returned (.int .i64 p) ∧ Below w.heap.size w w' := by
  subst hp
  refine (rivuletref11_Place.calls L d _ w (refplace_f L d hL)).mono ?_
  rintro e w' ⟨rfl, hd⟩
  exact ⟨rfl, hd.below⟩
theorem place_lit (L d p : Int) (hL : L ≤ 9223372036854775807) (hp : placeF L d = p) (w : World) : Calls Try.prog 30 #[.int .i64 L, .int .i64 d] w fun e w' => e = .returned (.int .i64 p) ∧ Below w.heap.size w w' := by
  subst hp; exact place_any L d hL w
theorem places_law (L d : Int) (hd1 : -9223372036854775808 ≤ L) (hL : L ≤ 9223372036854775807) (w : World) : Calls Try.prog 6 #[.int .i64 L, .int .i64 d] w fun e w' => e = .returned (.bool true) ∧ Below w.heap.size w w' := by
  by_cases h1 : L < 1
  · have hp : placeF L d = 0 := by unfold placeF; rw [if_pos h1]
    have HP := Lib.hid hp
    have c1 : decide (L < 1) = true := by simpa using h1
    clear h1 hp
    go_enter Try.func6, Try.ntmps6
    go_wp2_with fail
    refine (place_lit L d 0 hL HP.out _).mono ?_
    rintro e w1 ⟨rfl, hw1⟩
    have HB := Lib.hid hw1
    clear hw1
    go_wp2_with fail
    refine (known_any _).mono ?_
    rintro e w2 ⟨rfl, hw2⟩
    have HB2 := Lib.hid (bel HB.out hw2)
    clear HB hw2
    go_wp2_with fail
    go_ret
    exact ⟨rfl, HB2.out⟩
  · have c1 : decide (L < 1) = false := by simpa using h1
    obtain ⟨b1, b2, b3⟩ := place_bd L d (by omega)
    obtain ⟨p, hp⟩ : ∃ p, placeF L d = p := ⟨_, rfl⟩
    rw [hp] at b1 b2 b3
    have HP := Lib.hid hp
    by_cases h2 : 1099511627776 < L
    · have c2 : decide (1099511627776 < L) = true := by simpa using h2
      have c3 : decide (L.tdiv 2 ≤ p) = true := by rw [Int.tdiv_eq_ediv_of_nonneg (by omega)]; simp only [decide_eq_true_eq]; omega
      have c4 : decide (p ≤ L) = true := by simpa using b2
      clear h1 hp h2 b1 b2 b3
      go_enter Try.func6, Try.ntmps6
      go_wp2_with fail
      refine (place_lit L d p hL HP.out _).mono ?_
      rintro e w1 ⟨rfl, hw1⟩
      have HB := Lib.hid hw1
      clear hw1
      go_wp2_with fail
      refine (known_any _).mono ?_
      rintro e w2 ⟨rfl, hw2⟩
      have HB2 := Lib.hid (bel HB.out hw2)
      clear HB hw2
      go_wp2_with fail
      go_ret
      exact ⟨rfl, HB2.out⟩
    · have c2 : decide (1099511627776 < L) = false := by simpa using h2
      have c3 : decide (L ≤ 2 * p) = true := by simp only [decide_eq_true_eq]; omega
      have c4 : decide (p ≤ L) = true := by simpa using b2
      have hb1 : 2 * p ≤ 9223372036854775807 := by omega
      have hb2 : -9223372036854775808 ≤ 2 * p := by omega
      have hL6 : L ≤ 9223372036854775806 := by omega
      clear h1 hp h2 b1 b2 b3
      go_enter Try.func6, Try.ntmps6
      go_wp2_with fail
      refine (place_lit L d p hL HP.out _).mono ?_
      rintro e w1 ⟨rfl, hw1⟩
      have HB := Lib.hid hw1
      clear hw1
      go_wp2_with fail
      refine (known_any _).mono ?_
      rintro e w2 ⟨rfl, hw2⟩
      have HB2 := Lib.hid (bel HB.out hw2)
      clear HB hw2
      go_wp2_with fail
      refine (refplace_any L d p hL6 HP.out _).mono ?_
      rintro e w3 ⟨rfl, hw3⟩
      have HB3 := Lib.hid (bel HB2.out hw3)
      clear HB2 hw3
      go_wp2_with fail
      go_ret
      exact ⟨rfl, HB3.out⟩
theorem wf_bd {n : Int} (h : (Lit.int .i64 n).wf = true) : -9223372036854775808 ≤ n ∧ n ≤ 9223372036854775807 := by
  simp [Lit.wf, IntKind.min, IntKind.max, IntKind.signed, IntKind.bits] at h
  omega
theorem nil_walk (d : Int) (w : World) (_ : (Lit.int .i64 d).wf = true) : Calls Try.prog 9 #[.int .i64 d] w fun e w' => e = .returned (.bool true) ∧ Below w.heap.size w w' := nil_law d w
theorem places_walk (L d : Int) (w : World) (h : (Lit.int .i64 L).wf = true) (_ : (Lit.int .i64 d).wf = true) : Calls Try.prog 6 #[.int .i64 L, .int .i64 d] w fun e w' => e = .returned (.bool true) ∧ Below w.heap.size w w' := by
  obtain ⟨h1, h2⟩ := wf_bd h
  exact places_law L d h1 h2 w
end Go.Proofs.Ytanpnhponefbbaa.Tr
