/- What is up to sixteen steps on is newer; what is more steps on isn't held for it, but across the stick's end: the law's walk. No condition. -/
import Derived.Test.YthdacjnghnnmnaaLolStep
set_option linter.unusedVariables false
set_option linter.unusedSimpArgs false
namespace Go.Proofs.Ythdacjnghnnmnaa.LolliWindow
open Go.RowKit Go.Proofs.YthdacjnghnnmnaaW.PrintWords Go.Proofs.Ythdacjnghnnmnaa.Lol
theorem mod_bd (x M : Int) (h0 : 0 < M) (h1 : M ≤ 1000000) : 0 ≤ wrap64 ((IntKind.u64.wrap x).tmod M) ∧ wrap64 ((IntKind.u64.wrap x).tmod M) ≤ M - 1 := by
  have h2 : 0 ≤ IntKind.u64.wrap x := by rw [IntKind.wrap_u64]; omega
  rw [Int.tmod_eq_emod_of_nonneg h2]
  have h3 := Int.emod_nonneg (IntKind.u64.wrap x) (show M ≠ 0 by omega)
  have h4 := Int.emod_lt_of_pos (IntKind.u64.wrap x) h0
  unfold wrap64
  omega
theorem newer1 (a n : Int) (ha : 0 ≤ a ∧ a ≤ 255) (hn : 1 ≤ n ∧ n ≤ 16) : (cmpF (stepsF a n) a == 2) = true ∧ (cmpF a (stepsF a n) == 2) = false := by
  have h : cmpF a (stepsF a n) = 1 := by
    unfold cmpF stepsF
    by_cases h1 : a ≥ 128
    · simp only [if_pos h1]
      by_cases h2 : n < 256 - a
      · simp only [if_pos h2]
        rw [if_neg (by omega), if_neg (by omega), if_pos (by omega)]
      · simp only [if_neg h2]
        rw [if_neg (by omega), if_pos (by omega), if_pos (by omega)]
    · simp only [if_neg h1]
      rw [if_neg (by omega), if_neg (by omega), if_pos (by omega)]
  have := cmp_vals a (stepsF a n)
  rw [h] at this ⊢
  have h2 : cmpF (stepsF a n) a = 2 := by omega
  rw [h2]; decide
theorem newer2 (a n : Int) (ha : 0 ≤ a ∧ a ≤ 255) (hn : 17 ≤ n ∧ n ≤ 40) (hc : a ≥ 128 ∧ stepsF a n < 128) : (cmpF a (stepsF a n) == 2) = true := by
  have h : cmpF a (stepsF a n) = 2 := by
    obtain ⟨h1, h3⟩ := hc
    unfold stepsF at h3
    unfold cmpF stepsF
    simp only [if_pos h1] at h3 ⊢
    by_cases h2 : n < 256 - a
    · simp only [if_pos h2] at h3; omega
    · simp only [if_neg h2] at h3 ⊢
      rw [if_neg (by omega), if_pos (by omega), if_neg (by omega)]
  rw [h]; decide
theorem newer3 (a n : Int) (ha : 0 ≤ a ∧ a ≤ 255) (hn : 17 ≤ n ∧ n ≤ 40) (hc : ¬ (a ≥ 128 ∧ stepsF a n < 128)) : (cmpF (stepsF a n) a == 2) = false ∧ (cmpF a (stepsF a n) == 2) = false := by
  have h : cmpF a (stepsF a n) = 3 := by
    unfold cmpF
    by_cases h1 : a ≥ 128
    · have h4 : stepsF a n = a + n := by
        unfold stepsF at hc ⊢
        simp only [if_pos h1] at hc ⊢
        by_cases h2 : n < 256 - a
        · rw [if_pos h2]
        · simp only [if_neg h2] at hc; omega
      rw [h4] at hc ⊢
      rw [if_neg (by omega), if_pos (by omega), if_neg (by omega), if_neg (by omega), if_neg (by omega)]
    · have h4 : stepsF a n = (a + n) % 128 := by unfold stepsF; rw [if_neg h1]
      rw [h4]
      rw [if_neg (by omega), if_neg (by omega), if_neg (by omega), if_neg (by omega), if_neg (by omega)]
  have := cmp_vals a (stepsF a n)
  rw [h] at this ⊢
  have h2 : cmpF (stepsF a n) a = 3 := by omega
  rw [h2]; decide
set_option maxHeartbeats 1000000 in
theorem walk (a n : Int) (w : World) (_ : (Lit.int .i64 a).wf = true) (_ : (Lit.int .i64 n).wf = true) :
    Calls Try.prog 8 #[.int .i64 a, .int .i64 n] w fun e w' => e = .returned (.bool true) ∧ Below w.heap.size w w' := by
  go_enter Try.func8, Try.ntmps8
  go_wp2_with fail
  have bA := mod_bd a 256 (by omega) (by omega)
  generalize wrap64 ((IntKind.u64.wrap a).tmod 256) = A at bA ⊢
  obtain ⟨bA0, bA1⟩ := bA
  have bB := mod_bd n 40 (by omega) (by omega)
  generalize wrap64 ((IntKind.u64.wrap n).tmod 40) = B at bB ⊢
  obtain ⟨bB0, bB1⟩ := bB
  rw [show wrap64 (1 + B) = 1 + B from by unfold wrap64; omega]
  have hs := (next_stepsF A (1 + B) ⟨bA0, by omega⟩ (by omega)).2
  have va : vB A = true := by unfold vB; rw [decide_eq_true_eq]; exact ⟨bA0, by omega⟩
  have vd : vB (stepsF A (1 + B)) = true := by unfold vB; rw [decide_eq_true_eq]; exact hs
  have k1 := fun h => newer1 A (1 + B) ⟨bA0, by omega⟩ ⟨by omega, h⟩
  have k2 := fun h => newer2 A (1 + B) ⟨bA0, by omega⟩ ⟨h, by omega⟩
  have k3 := fun h => newer3 A (1 + B) ⟨bA0, by omega⟩ ⟨h, by omega⟩
  generalize hD : stepsF A (1 + B) = D at hs vd k1 k2 k3
  have S1 := Lib.hid (fun W => Steps_ok A (1 + B) D ⟨bA0, by omega⟩ ⟨by omega, by omega⟩ hD W)
  obtain ⟨bD0, bD1⟩ := hs
  clear hD
  by_cases h1 : 1 + B ≤ 16
  · obtain ⟨q1, q2⟩ := k1 h1
    have N1 := Lib.hid (fun W => Newer_any D A true (by rw [vd, va, q1]; rfl) W)
    have N2 := Lib.hid (fun W => Newer_any A D false (by rw [va, vd, q2]; rfl) W)
    clear q1 q2 k1 k2 k3 va vd
    go_wp2_with fail
    refine (S1.out _).mono ?_
    rintro e w1 ⟨rfl, hw1⟩
    by_cases hx : 128 ≤ A
    all_goals by_cases hy : D < 128
    all_goals
      go_wp2_with fail
      refine (known_any _).mono ?_
      rintro e w2 ⟨rfl, hw2⟩
      go_wp2_with fail
      refine (N1.out _).mono ?_
      rintro e w3 ⟨rfl, hw3⟩
      go_wp2_with fail
      refine (N2.out _).mono ?_
      rintro e w4 ⟨rfl, hw4⟩
      go_wp2_with fail
      go_ret
      exact ⟨rfl, by repeat (first | exact Below.refl _ _ | (refine bel ?_ (below_new _ _)) | (apply bel; rotate_left; assumption))⟩
  · have h2 : 17 ≤ 1 + B := by omega
    by_cases hc : A ≥ 128 ∧ D < 128
    · have q2 := k2 h2 hc
      have N2 := Lib.hid (fun W => Newer_any A D true (by rw [va, vd, q2]; rfl) W)
      obtain ⟨hx, hy⟩ := hc
      clear q2 k1 k2 k3 va vd
      go_wp2_with fail
      refine (S1.out _).mono ?_
      rintro e w1 ⟨rfl, hw1⟩
      go_wp2_with fail
      refine (known_any _).mono ?_
      rintro e w2 ⟨rfl, hw2⟩
      go_wp2_with fail
      refine (N2.out _).mono ?_
      rintro e w4 ⟨rfl, hw4⟩
      go_wp2_with fail
      go_ret
      exact ⟨rfl, by repeat (first | exact Below.refl _ _ | (refine bel ?_ (below_new _ _)) | (apply bel; rotate_left; assumption))⟩
    · obtain ⟨q1, q2⟩ := k3 h2 hc
      have N1 := Lib.hid (fun W => Newer_any D A false (by rw [vd, va, q1]; rfl) W)
      have N2 := Lib.hid (fun W => Newer_any A D false (by rw [va, vd, q2]; rfl) W)
      clear q1 q2 k1 k2 k3 va vd
      go_wp2_with fail
      refine (S1.out _).mono ?_
      rintro e w1 ⟨rfl, hw1⟩
      by_cases hx : 128 ≤ A
      · have hy : 128 ≤ D := by omega
        clear hc
        go_wp2_with fail
        refine (known_any _).mono ?_
        rintro e w2 ⟨rfl, hw2⟩
        go_wp2_with fail
        refine (N1.out _).mono ?_
        rintro e w3 ⟨rfl, hw3⟩
        go_wp2_with fail
        refine (N2.out _).mono ?_
        rintro e w4 ⟨rfl, hw4⟩
        go_wp2_with fail
        go_ret
        exact ⟨rfl, by repeat (first | exact Below.refl _ _ | (refine bel ?_ (below_new _ _)) | (apply bel; rotate_left; assumption))⟩
      · clear hc
        go_wp2_with fail
        refine (known_any _).mono ?_
        rintro e w2 ⟨rfl, hw2⟩
        go_wp2_with fail
        refine (N1.out _).mono ?_
        rintro e w3 ⟨rfl, hw3⟩
        go_wp2_with fail
        refine (N2.out _).mono ?_
        rintro e w4 ⟨rfl, hw4⟩
        go_wp2_with fail
        go_ret
        exact ⟨rfl, by repeat (first | exact Below.refl _ _ | (refine bel ?_ (below_new _ _)) | (apply bel; rotate_left; assumption))⟩
end Go.Proofs.Ythdacjnghnnmnaa.LolliWindow
