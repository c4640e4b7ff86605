/- What any two counters are, or that one is none, is the document's; turned round it is the opposite: the law's walk. No condition. -/
import Derived.Test.YthdacjnghnnmnaaLolCore
set_option linter.unusedVariables false
namespace Go.Proofs.Ythdacjnghnnmnaa.LolliCompares
open Go.RowKit Go.Proofs.YthdacjnghnnmnaaW.PrintWords Go.Proofs.Ythdacjnghnnmnaa.Lol

theorem ok0 (a b : Int) (w : World) (ha : 0 ≤ a ∧ a ≤ 255) (hb : 0 ≤ b ∧ b ≤ 255) (h1 : cmpF a b = 0) (h2 : cmpF b a = 0) :
    Calls Try.prog 6 #[.int .i64 a, .int .i64 b] w fun e w' => e = .returned (.bool true) ∧ Below w.heap.size w w' := by
  have va : vB a = true := by unfold vB; rw [decide_eq_true_eq]; exact ha
  have vb : vB b = true := by unfold vB; rw [decide_eq_true_eq]; exact hb
  have n1 : (vB a && vB b && (cmpF a b == 2)) = false := by rw [va, vb, h1]; rfl
  have n2 : (vB b && vB a && (cmpF b a == 2)) = false := by rw [va, vb, h2]; rfl
  have C1 := Lib.hid (fun W => Compare_ok a b 0 h1 W va vb)
  have C2 := Lib.hid (fun W => Compare_ok b a 0 h2 W vb va)
  have R1 := Lib.hid (fun W => rValid_any a true va W)
  have R2 := Lib.hid (fun W => rValid_any b true vb W)
  have RC := Lib.hid (fun W => rCompare_any a b 0 h1 ha hb W)
  have N1 := Lib.hid (fun W => Newer_any a b false n1 W)
  have N2 := Lib.hid (fun W => Newer_any b a false n2 W)
  clear n1 n2 h1 h2 va vb
  go_enter Try.func6, Try.ntmps6
  go_wp2_with fail
  refine (C1.out _).mono ?_
  rintro e w1 ⟨rfl, hw1⟩
  go_wp2_with fail
  refine (C2.out _).mono ?_
  rintro e w2 ⟨rfl, hw2⟩
  go_wp2_with fail
  refine (R1.out _).mono ?_
  rintro e w3 ⟨rfl, hw3⟩
  go_wp2_with fail
  refine (R2.out _).mono ?_
  rintro e w4 ⟨rfl, hw4⟩
  go_wp2_with fail
  refine (RC.out _).mono ?_
  rintro e w5 ⟨rfl, hw5⟩
  go_wp2_with fail
  refine (known_any _).mono ?_
  rintro e w6 ⟨rfl, hw6⟩
  have hc : w6.cell? ⟨w5.heap.size, 0, none⟩ = some (.int .i64 0) := (hw6.cell (p := ⟨w5.heap.size, 0, none⟩) (by go_simp)).trans (by go_simp)
  go_wp2_with fail
  refine (N1.out _).mono ?_
  rintro e w7 ⟨rfl, hw7⟩
  go_wp2_with fail
  refine (N1.out _).mono ?_
  rintro e w8 ⟨rfl, hw8⟩
  go_wp2_with fail
  go_ret
  exact ⟨rfl, by repeat (first | exact Below.refl _ _ | (refine bel ?_ (below_new _ _)) | (apply bel; rotate_left; assumption))⟩

theorem ok1 (a b : Int) (w : World) (ha : 0 ≤ a ∧ a ≤ 255) (hb : 0 ≤ b ∧ b ≤ 255) (h1 : cmpF a b = 1) (h2 : cmpF b a = 2) :
    Calls Try.prog 6 #[.int .i64 a, .int .i64 b] w fun e w' => e = .returned (.bool true) ∧ Below w.heap.size w w' := by
  have va : vB a = true := by unfold vB; rw [decide_eq_true_eq]; exact ha
  have vb : vB b = true := by unfold vB; rw [decide_eq_true_eq]; exact hb
  have n1 : (vB a && vB b && (cmpF a b == 2)) = false := by rw [va, vb, h1]; rfl
  have n2 : (vB b && vB a && (cmpF b a == 2)) = true := by rw [va, vb, h2]; rfl
  have C1 := Lib.hid (fun W => Compare_ok a b 1 h1 W va vb)
  have C2 := Lib.hid (fun W => Compare_ok b a 2 h2 W vb va)
  have R1 := Lib.hid (fun W => rValid_any a true va W)
  have R2 := Lib.hid (fun W => rValid_any b true vb W)
  have RC := Lib.hid (fun W => rCompare_any a b 1 h1 ha hb W)
  have N1 := Lib.hid (fun W => Newer_any a b false n1 W)
  have N2 := Lib.hid (fun W => Newer_any b a true n2 W)
  clear n1 n2 h1 h2 va vb
  go_enter Try.func6, Try.ntmps6
  go_wp2_with fail
  refine (C1.out _).mono ?_
  rintro e w1 ⟨rfl, hw1⟩
  go_wp2_with fail
  refine (C2.out _).mono ?_
  rintro e w2 ⟨rfl, hw2⟩
  go_wp2_with fail
  refine (R1.out _).mono ?_
  rintro e w3 ⟨rfl, hw3⟩
  go_wp2_with fail
  refine (R2.out _).mono ?_
  rintro e w4 ⟨rfl, hw4⟩
  go_wp2_with fail
  refine (RC.out _).mono ?_
  rintro e w5 ⟨rfl, hw5⟩
  go_wp2_with fail
  refine (known_any _).mono ?_
  rintro e w6 ⟨rfl, hw6⟩
  have hc : w6.cell? ⟨w5.heap.size, 1, none⟩ = some (.int .i64 2) := (hw6.cell (p := ⟨w5.heap.size, 1, none⟩) (by go_simp)).trans (by go_simp)
  go_wp2_with fail
  refine (N1.out _).mono ?_
  rintro e w7 ⟨rfl, hw7⟩
  go_wp2_with fail
  refine (N1.out _).mono ?_
  rintro e w8 ⟨rfl, hw8⟩
  go_wp2_with fail
  go_ret
  exact ⟨rfl, by repeat (first | exact Below.refl _ _ | (refine bel ?_ (below_new _ _)) | (apply bel; rotate_left; assumption))⟩

theorem ok2 (a b : Int) (w : World) (ha : 0 ≤ a ∧ a ≤ 255) (hb : 0 ≤ b ∧ b ≤ 255) (h1 : cmpF a b = 2) (h2 : cmpF b a = 1) :
    Calls Try.prog 6 #[.int .i64 a, .int .i64 b] w fun e w' => e = .returned (.bool true) ∧ Below w.heap.size w w' := by
  have va : vB a = true := by unfold vB; rw [decide_eq_true_eq]; exact ha
  have vb : vB b = true := by unfold vB; rw [decide_eq_true_eq]; exact hb
  have n1 : (vB a && vB b && (cmpF a b == 2)) = true := by rw [va, vb, h1]; rfl
  have n2 : (vB b && vB a && (cmpF b a == 2)) = false := by rw [va, vb, h2]; rfl
  have C1 := Lib.hid (fun W => Compare_ok a b 2 h1 W va vb)
  have C2 := Lib.hid (fun W => Compare_ok b a 1 h2 W vb va)
  have R1 := Lib.hid (fun W => rValid_any a true va W)
  have R2 := Lib.hid (fun W => rValid_any b true vb W)
  have RC := Lib.hid (fun W => rCompare_any a b 2 h1 ha hb W)
  have N1 := Lib.hid (fun W => Newer_any a b true n1 W)
  have N2 := Lib.hid (fun W => Newer_any b a false n2 W)
  clear n1 n2 h1 h2 va vb
  go_enter Try.func6, Try.ntmps6
  go_wp2_with fail
  refine (C1.out _).mono ?_
  rintro e w1 ⟨rfl, hw1⟩
  go_wp2_with fail
  refine (C2.out _).mono ?_
  rintro e w2 ⟨rfl, hw2⟩
  go_wp2_with fail
  refine (R1.out _).mono ?_
  rintro e w3 ⟨rfl, hw3⟩
  go_wp2_with fail
  refine (R2.out _).mono ?_
  rintro e w4 ⟨rfl, hw4⟩
  go_wp2_with fail
  refine (RC.out _).mono ?_
  rintro e w5 ⟨rfl, hw5⟩
  go_wp2_with fail
  refine (known_any _).mono ?_
  rintro e w6 ⟨rfl, hw6⟩
  have hc : w6.cell? ⟨w5.heap.size, 2, none⟩ = some (.int .i64 1) := (hw6.cell (p := ⟨w5.heap.size, 2, none⟩) (by go_simp)).trans (by go_simp)
  go_wp2_with fail
  refine (N1.out _).mono ?_
  rintro e w7 ⟨rfl, hw7⟩
  go_wp2_with fail
  refine (N1.out _).mono ?_
  rintro e w8 ⟨rfl, hw8⟩
  go_wp2_with fail
  refine (N2.out _).mono ?_
  rintro e w9 ⟨rfl, hw9⟩
  go_wp2_with fail
  go_ret
  exact ⟨rfl, by repeat (first | exact Below.refl _ _ | (refine bel ?_ (below_new _ _)) | (apply bel; rotate_left; assumption))⟩

theorem ok3 (a b : Int) (w : World) (ha : 0 ≤ a ∧ a ≤ 255) (hb : 0 ≤ b ∧ b ≤ 255) (h1 : cmpF a b = 3) (h2 : cmpF b a = 3) :
    Calls Try.prog 6 #[.int .i64 a, .int .i64 b] w fun e w' => e = .returned (.bool true) ∧ Below w.heap.size w w' := by
  have va : vB a = true := by unfold vB; rw [decide_eq_true_eq]; exact ha
  have vb : vB b = true := by unfold vB; rw [decide_eq_true_eq]; exact hb
  have n1 : (vB a && vB b && (cmpF a b == 2)) = false := by rw [va, vb, h1]; rfl
  have n2 : (vB b && vB a && (cmpF b a == 2)) = false := by rw [va, vb, h2]; rfl
  have C1 := Lib.hid (fun W => Compare_ok a b 3 h1 W va vb)
  have C2 := Lib.hid (fun W => Compare_ok b a 3 h2 W vb va)
  have R1 := Lib.hid (fun W => rValid_any a true va W)
  have R2 := Lib.hid (fun W => rValid_any b true vb W)
  have RC := Lib.hid (fun W => rCompare_any a b 3 h1 ha hb W)
  have N1 := Lib.hid (fun W => Newer_any a b false n1 W)
  have N2 := Lib.hid (fun W => Newer_any b a false n2 W)
  clear n1 n2 h1 h2 va vb
  go_enter Try.func6, Try.ntmps6
  go_wp2_with fail
  refine (C1.out _).mono ?_
  rintro e w1 ⟨rfl, hw1⟩
  go_wp2_with fail
  refine (C2.out _).mono ?_
  rintro e w2 ⟨rfl, hw2⟩
  go_wp2_with fail
  refine (R1.out _).mono ?_
  rintro e w3 ⟨rfl, hw3⟩
  go_wp2_with fail
  refine (R2.out _).mono ?_
  rintro e w4 ⟨rfl, hw4⟩
  go_wp2_with fail
  refine (RC.out _).mono ?_
  rintro e w5 ⟨rfl, hw5⟩
  go_wp2_with fail
  refine (known_any _).mono ?_
  rintro e w6 ⟨rfl, hw6⟩
  have hc : w6.cell? ⟨w5.heap.size, 3, none⟩ = some (.int .i64 3) := (hw6.cell (p := ⟨w5.heap.size, 3, none⟩) (by go_simp)).trans (by go_simp)
  go_wp2_with fail
  refine (N1.out _).mono ?_
  rintro e w7 ⟨rfl, hw7⟩
  go_wp2_with fail
  refine (N1.out _).mono ?_
  rintro e w8 ⟨rfl, hw8⟩
  go_wp2_with fail
  go_ret
  exact ⟨rfl, by repeat (first | exact Below.refl _ _ | (refine bel ?_ (below_new _ _)) | (apply bel; rotate_left; assumption))⟩

theorem no (a b : Int) (w : World) (va vb : Bool) (ha : vB a = va) (hb : vB b = vb) (h : (va && vb) = false) :
    Calls Try.prog 6 #[.int .i64 a, .int .i64 b] w fun e w' => e = .returned (.bool true) ∧ Below w.heap.size w w' := by
  have h' : (vB a && vB b) = false := by rw [ha, hb]; exact h
  have h2 : (vB b && vB a) = false := by rw [ha, hb, Bool.and_comm]; exact h
  have n1 : (vB a && vB b && (cmpF a b == 2)) = false := by rw [h']; rfl
  have C1 := Lib.hid (fun W => Compare_no a b W h')
  have C2 := Lib.hid (fun W => Compare_no b a W h2)
  have R1 := Lib.hid (fun W => rValid_any a va ha W)
  have R2 := Lib.hid (fun W => rValid_any b vb hb W)
  have N1 := Lib.hid (fun W => Newer_any a b false n1 W)
  clear n1 h' h2 ha hb
  cases va with
  | false =>
    clear h
    go_enter Try.func6, Try.ntmps6
    go_wp2_with fail
    refine (C1.out _).mono ?_
    rintro e w1 ⟨rfl, hw1⟩
    go_wp2_with fail
    refine (C2.out _).mono ?_
    rintro e w2 ⟨rfl, hw2⟩
    go_wp2_with fail
    refine (R1.out _).mono ?_
    rintro e w3 ⟨rfl, hw3⟩
    go_wp2_with fail
    refine (known_any _).mono ?_
    rintro e w6 ⟨rfl, hw6⟩
    go_wp2_with fail
    refine (N1.out _).mono ?_
    rintro e w7 ⟨rfl, hw7⟩
    go_wp2_with fail
    go_ret
    exact ⟨rfl, by repeat (first | exact Below.refl _ _ | (refine bel ?_ (below_new _ _)) | (apply bel; rotate_left; assumption))⟩
  
  | true =>
    cases vb with
    | true => cases h
    | false =>
      go_enter Try.func6, Try.ntmps6
      go_wp2_with fail
      refine (C1.out _).mono ?_
      rintro e w1 ⟨rfl, hw1⟩
      go_wp2_with fail
      refine (C2.out _).mono ?_
      rintro e w2 ⟨rfl, hw2⟩
      go_wp2_with fail
      refine (R1.out _).mono ?_
      rintro e w3 ⟨rfl, hw3⟩
      go_wp2_with fail
      refine (R2.out _).mono ?_
      rintro e w4 ⟨rfl, hw4⟩
      go_wp2_with fail
      refine (known_any _).mono ?_
      rintro e w6 ⟨rfl, hw6⟩
      go_wp2_with fail
      refine (N1.out _).mono ?_
      rintro e w7 ⟨rfl, hw7⟩
      go_wp2_with fail
      go_ret
      exact ⟨rfl, by repeat (first | exact Below.refl _ _ | (refine bel ?_ (below_new _ _)) | (apply bel; rotate_left; assumption))⟩
  

theorem walk (a b : Int) (w : World) (_ : (Lit.int .i64 a).wf = true) (_ : (Lit.int .i64 b).wf = true) :
    Calls Try.prog 6 #[.int .i64 a, .int .i64 b] w fun e w' => e = .returned (.bool true) ∧ Below w.heap.size w w' := by
  by_cases h : (vB a && vB b) = true
  · simp only [Bool.and_eq_true, vB, decide_eq_true_eq] at h
    obtain ⟨ha, hb⟩ := h
    rcases cmp_vals a b with ⟨h1, h2⟩ | ⟨h1, h2⟩ | ⟨h1, h2⟩ | ⟨h1, h2⟩
    · exact ok0 a b w ha hb h1 h2
    · exact ok1 a b w ha hb h1 h2
    · exact ok2 a b w ha hb h1 h2
    · exact ok3 a b w ha hb h1 h2
  · exact no a b w _ _ rfl rfl (by simpa using h)

end Go.Proofs.Ythdacjnghnnmnaa.LolliCompares
