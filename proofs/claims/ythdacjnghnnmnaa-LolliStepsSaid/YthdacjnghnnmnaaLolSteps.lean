/- The next one of any counter, and the one so many steps on, or what is wrong, is the document's; the next one is newer: the law's walk. No condition. -/
import Derived.Test.YthdacjnghnnmnaaLolStep
set_option linter.unusedVariables false
set_option linter.unusedSimpArgs false
namespace Go.Proofs.Ythdacjnghnnmnaa.LolliSteps
open Go.RowKit Go.Proofs.YthdacjnghnnmnaaW.PrintWords Go.Proofs.Ythdacjnghnnmnaa.Lol
theorem mod_bd (x M : Int) (h0 : 0 < M) (h1 : M ≤ 1000000) : 0 ≤ wrap64 ((IntKind.u64.wrap x).tmod M) ∧ wrap64 ((IntKind.u64.wrap x).tmod M) ≤ M - 1 := by
  have h2 : 0 ≤ IntKind.u64.wrap x := by rw [IntKind.wrap_u64]; omega
  rw [Int.tmod_eq_emod_of_nonneg h2]
  have h3 := Int.emod_nonneg (IntKind.u64.wrap x) (show M ≠ 0 by omega)
  have h4 := Int.emod_lt_of_pos (IntKind.u64.wrap x) h0
  unfold wrap64
  omega
theorem newer1 (a n : Int) (ha : 0 ≤ a ∧ a ≤ 255) (hn : 1 ≤ n ∧ n ≤ 16) : (cmpF (stepsF a n) a == 2) = true ∧ (cmpF a (stepsF a n) == 2) = false := by
  have h : cmpF a (stepsF a n) = 1 := by
    unfold cmpF stepsF
    by_cases h1 : a ≥ 128
    · simp only [if_pos h1]
      by_cases h2 : n < 256 - a
      · simp only [if_pos h2]
        rw [if_neg (by omega), if_neg (by omega), if_pos (by omega)]
      · simp only [if_neg h2]
        rw [if_neg (by omega), if_pos (by omega), if_pos (by omega)]
    · simp only [if_neg h1]
      rw [if_neg (by omega), if_neg (by omega), if_pos (by omega)]
  have := cmp_vals a (stepsF a n)
  rw [h] at this ⊢
  have h2 : cmpF (stepsF a n) a = 2 := by omega
  rw [h2]; decide

theorem next1 (a : Int) (ha : 0 ≤ a ∧ a ≤ 255) : stepsF a 1 = nextF a := by
  have h := (next_stepsF a 0 ha (by omega)).1
  have h0 : stepsF a 0 = a := by unfold stepsF; split <;> (try split) <;> omega
  rw [h0] at h
  exact h.symm
theorem far (a n : Int) (ha : 0 ≤ a ∧ a ≤ 255) (hn : 512 < n) : stepsF a (256 + (n - 256) % 128) = stepsF a n := by
  unfold stepsF
  by_cases h1 : a ≥ 128
  · simp only [if_pos h1]
    rw [if_neg (by omega), if_neg (by omega)]; omega
  · simp only [if_neg h1]; omega
theorem no (a n : Int) (w : World) (hv : vB a = false) :
    Calls Try.prog 10 #[.int .i64 a, .int .i64 n] w fun e w' => e = .returned (.bool true) ∧ Below w.heap.size w w' := by
  have C1 := Lib.hid (fun W => Next_no a hv W)
  have C2 := Lib.hid (fun W => Steps_no a n (.inl hv) W)
  have R1 := Lib.hid (fun W => rValid_any a false hv W)
  have V1 := Lib.hid (fun W => Valid2 0 a false (by rw [hv]; rfl) W)
  clear hv
  go_enter Try.func10, Try.ntmps10
  go_wp2_with fail
  refine (C1.out _).mono ?_
  rintro e w1 ⟨rfl, hw1⟩
  go_wp2_with fail
  refine (C2.out _).mono ?_
  rintro e w2 ⟨rfl, hw2⟩
  go_wp2_with fail
  refine (R1.out _).mono ?_
  rintro e w3 ⟨rfl, hw3⟩
  go_wp2_with fail
  refine (known_any _).mono ?_
  rintro e w4 ⟨rfl, hw4⟩
  go_wp2_with fail
  refine (V1.out _).mono ?_
  rintro e w5 ⟨rfl, hw5⟩
  go_wp2_with fail
  go_ret
  exact ⟨rfl, by repeat (first | exact Below.refl _ _ | (refine bel ?_ (below_new _ _)) | (apply bel; rotate_left; assumption))⟩
theorem less (a n : Int) (w : World) (ha : 0 ≤ a ∧ a ≤ 255) (hn : n < 0) :
    Calls Try.prog 10 #[.int .i64 a, .int .i64 n] w fun e w' => e = .returned (.bool true) ∧ Below w.heap.size w w' := by
  have hv : vB a = true := by unfold vB; rw [decide_eq_true_eq]; exact ha
  have hs := (next_stepsF a 1 ha (by omega)).2
  have hc := (newer1 a 1 ha (by omega)).1
  have hx := next1 a ha
  generalize hB : nextF a = B at hx
  rw [hx] at hs hc
  clear hx
  have hb : vB B = true := by unfold vB; rw [decide_eq_true_eq]; exact hs
  have C1 := Lib.hid (fun W => Next_ok a B ha hB W)
  have C2 := Lib.hid (fun W => Steps_no a n (.inr hn) W)
  have R1 := Lib.hid (fun W => rValid_any a true hv W)
  have R2 := Lib.hid (fun W => rNext_any a B ha hB W)
  have N1 := Lib.hid (fun W => Newer_any B a true (by rw [hb, hv, hc]; rfl) W)
  have V1 := Lib.hid (fun W => Valid2 a B true (by rw [hv, hb]; rfl) W)
  clear hv hs hc hB hb
  go_enter Try.func10, Try.ntmps10
  go_wp2_with fail
  refine (C1.out _).mono ?_
  rintro e w1 ⟨rfl, hw1⟩
  go_wp2_with fail
  refine (C2.out _).mono ?_
  rintro e w2 ⟨rfl, hw2⟩
  go_wp2_with fail
  refine (R1.out _).mono ?_
  rintro e w3 ⟨rfl, hw3⟩
  go_wp2_with fail
  refine (R2.out _).mono ?_
  rintro e w4 ⟨rfl, hw4⟩
  go_wp2_with fail
  refine (N1.out _).mono ?_
  rintro e w5 ⟨rfl, hw5⟩
  go_wp2_with fail
  refine (V1.out _).mono ?_
  rintro e w6 ⟨rfl, hw6⟩
  go_wp2_with fail
  refine (known_any _).mono ?_
  rintro e w7 ⟨rfl, hw7⟩
  go_wp2_with fail
  go_ret
  exact ⟨rfl, by repeat (first | exact Below.refl _ _ | (refine bel ?_ (below_new _ _)) | (apply bel; rotate_left; assumption))⟩
theorem few (a n : Int) (w : World) (ha : 0 ≤ a ∧ a ≤ 255) (hn : 0 ≤ n) (hn2 : n ≤ 512) :
    Calls Try.prog 10 #[.int .i64 a, .int .i64 n] w fun e w' => e = .returned (.bool true) ∧ Below w.heap.size w w' := by
  have hv : vB a = true := by unfold vB; rw [decide_eq_true_eq]; exact ha
  have hs := (next_stepsF a 1 ha (by omega)).2
  have hc := (newer1 a 1 ha (by omega)).1
  have hx := next1 a ha
  generalize hB : nextF a = B at hx
  rw [hx] at hs hc
  clear hx
  have hb : vB B = true := by unfold vB; rw [decide_eq_true_eq]; exact hs
  have hm : stepsF a n = stepsF a n := by first | rfl | exact far a n ha hn
  generalize hS : stepsF a n = S at hm
  have C1 := Lib.hid (fun W => Next_ok a B ha hB W)
  have C2 := Lib.hid (fun W => Steps_ok a n S ha ⟨by omega, by omega⟩ hS W)
  have R1 := Lib.hid (fun W => rValid_any a true hv W)
  have R2 := Lib.hid (fun W => rNext_any a B ha hB W)
  have N1 := Lib.hid (fun W => Newer_any B a true (by rw [hb, hv, hc]; rfl) W)
  have V1 := Lib.hid (fun W => Valid2 a B true (by rw [hv, hb]; rfl) W)
  have R3 := Lib.hid (fun W => rSteps_any a n S ha ⟨by omega, by omega⟩ hS W)
  clear hv hs hc hB hb hS hm
  go_enter Try.func10, Try.ntmps10
  go_wp2_with fail
  refine (C1.out _).mono ?_
  rintro e w1 ⟨rfl, hw1⟩
  go_wp2_with fail
  refine (C2.out _).mono ?_
  rintro e w2 ⟨rfl, hw2⟩
  go_wp2_with fail
  refine (R1.out _).mono ?_
  rintro e w3 ⟨rfl, hw3⟩
  go_wp2_with fail
  refine (R2.out _).mono ?_
  rintro e w4 ⟨rfl, hw4⟩
  go_wp2_with fail
  refine (N1.out _).mono ?_
  rintro e w5 ⟨rfl, hw5⟩
  go_wp2_with fail
  refine (V1.out _).mono ?_
  rintro e w6 ⟨rfl, hw6⟩
  go_wp2_with fail
  refine (known_any _).mono ?_
  rintro e w7 ⟨rfl, hw7⟩
  go_wp2_with fail
  refine (R3.out _).mono ?_
  rintro e w8 ⟨rfl, hw8⟩
  go_wp2_with fail
  go_ret
  exact ⟨rfl, by repeat (first | exact Below.refl _ _ | (refine bel ?_ (below_new _ _)) | (apply bel; rotate_left; assumption))⟩
theorem many (a n : Int) (w : World) (ha : 0 ≤ a ∧ a ≤ 255) (hn : 512 < n) (hn2 : n ≤ 9223372036854775807) :
    Calls Try.prog 10 #[.int .i64 a, .int .i64 n] w fun e w' => e = .returned (.bool true) ∧ Below w.heap.size w w' := by
  have hv : vB a = true := by unfold vB; rw [decide_eq_true_eq]; exact ha
  have hs := (next_stepsF a 1 ha (by omega)).2
  have hc := (newer1 a 1 ha (by omega)).1
  have hx := next1 a ha
  generalize hB : nextF a = B at hx
  rw [hx] at hs hc
  clear hx
  have hb : vB B = true := by unfold vB; rw [decide_eq_true_eq]; exact hs
  have hm : stepsF a (256 + (n - 256) % 128) = stepsF a n := by first | rfl | exact far a n ha hn
  generalize hS : stepsF a n = S at hm
  have C1 := Lib.hid (fun W => Next_ok a B ha hB W)
  have C2 := Lib.hid (fun W => Steps_ok a n S ha ⟨by omega, by omega⟩ hS W)
  have R1 := Lib.hid (fun W => rValid_any a true hv W)
  have R2 := Lib.hid (fun W => rNext_any a B ha hB W)
  have N1 := Lib.hid (fun W => Newer_any B a true (by rw [hb, hv, hc]; rfl) W)
  have V1 := Lib.hid (fun W => Valid2 a B true (by rw [hv, hb]; rfl) W)
  have R3 := Lib.hid (fun W => rSteps_any a (256 + (n - 256) % 128) S ha ⟨by omega, by omega⟩ hm W)
  clear hv hs hc hB hb hS hm
  go_enter Try.func10, Try.ntmps10
  go_wp2_with fail
  refine (C1.out _).mono ?_
  rintro e w1 ⟨rfl, hw1⟩
  go_wp2_with fail
  refine (C2.out _).mono ?_
  rintro e w2 ⟨rfl, hw2⟩
  go_wp2_with fail
  refine (R1.out _).mono ?_
  rintro e w3 ⟨rfl, hw3⟩
  go_wp2_with fail
  refine (R2.out _).mono ?_
  rintro e w4 ⟨rfl, hw4⟩
  go_wp2_with fail
  refine (N1.out _).mono ?_
  rintro e w5 ⟨rfl, hw5⟩
  go_wp2_with fail
  refine (V1.out _).mono ?_
  rintro e w6 ⟨rfl, hw6⟩
  go_wp2_with fail
  refine (known_any _).mono ?_
  rintro e w7 ⟨rfl, hw7⟩
  go_wp2_with fail
  refine (R3.out _).mono ?_
  rintro e w8 ⟨rfl, hw8⟩
  go_wp2_with fail
  go_ret
  exact ⟨rfl, by repeat (first | exact Below.refl _ _ | (refine bel ?_ (below_new _ _)) | (apply bel; rotate_left; assumption))⟩
theorem walk (a n : Int) (w : World) (_ : (Lit.int .i64 a).wf = true) (hn : (Lit.int .i64 n).wf = true) :
    Calls Try.prog 10 #[.int .i64 a, .int .i64 n] w fun e w' => e = .returned (.bool true) ∧ Below w.heap.size w w' := by
  have hb := wf_bd hn
  by_cases h : vB a = true
  · have ha := h
    unfold vB at ha; rw [decide_eq_true_eq] at ha
    by_cases h1 : n < 0
    · exact less a n w ha h1
    · by_cases h2 : n ≤ 512
      · exact few a n w ha (by omega) h2
      · exact many a n w ha (by omega) (by omega)
  · exact no a n w (by simpa using h)
end Go.Proofs.Ythdacjnghnnmnaa.LolliSteps
