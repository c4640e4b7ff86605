/- What any two lollipop counters are: the walk of lolli.compare, for counters from 0 to 255. -/
import Derived.Test.YthdacjnghnnmnaaProg
import Derived.WalkKit
import Derived.KernelRfl
import Derived.RowKit3
import Derived.WalkSpells
import Derived.Deep.QuietTactic
import Derived.BigQuiet
import Derived.IntWalk
import Derived.Lib.Hide
set_option linter.unusedVariables false
set_option linter.unusedSimpArgs false
namespace Go.Proofs.Ythdacjnghnnmnaa.Lol
open Go.RowKit
def cmpF (a b : Int) : Int := if a = b then 0 else if 128 ≤ a then (if b < 128 then (if 256 - a + b ≤ 16 then 1 else 2) else if 1 ≤ b - a ∧ b - a ≤ 16 then 1 else if 1 ≤ a - b ∧ a - b ≤ 16 then 2 else 3)
  else if 128 ≤ b then (if 256 - b + a ≤ 16 then 2 else 1) else if 1 ≤ (b - a + 128) % 128 ∧ (b - a + 128) % 128 ≤ 16 then 1 else if 1 ≤ (a - b + 128) % 128 ∧ (a - b + 128) % 128 ≤ 16 then 2 else 3

theorem cmp_b1 (a b : Int) (w : World) (ha : 0 ≤ a) (ha' : a ≤ 255) (hb : 0 ≤ b) (hb' : b ≤ 255) (h0 : (a == b) = false) (h1 : 128 ≤ a) (h2 : b < 128) (h3 : 256 - a + b ≤ 16) :
    Calls Try.prog 42 #[.int .i64 a, .int .i64 b] w fun e w' => e = .returned (.int .i64 1) ∧ w' = w := by
  have hmf : ∀ (fn : Fn) (first cap : Array Value) (w : World), (Instr.makeFunc fn first cap).run Try.prog w = .ok (.func fn first cap) w := fun _ _ _ _ => rfl
  have ga : (!decide (128 ≤ a)) = false := by simp; omega
  have gb : (!decide (128 ≤ b)) = true := by simp; omega
  go_enter Try.func42, Try.ntmps42
  go_wp2
  go_ret
  exact ⟨rfl, rfl⟩

theorem cmp_b2 (a b : Int) (w : World) (ha : 0 ≤ a) (ha' : a ≤ 255) (hb : 0 ≤ b) (hb' : b ≤ 255) (h0 : (a == b) = false) (h1 : 128 ≤ a) (h2 : b < 128) (h3 : 16 < 256 - a + b) :
    Calls Try.prog 42 #[.int .i64 a, .int .i64 b] w fun e w' => e = .returned (.int .i64 2) ∧ w' = w := by
  have hmf : ∀ (fn : Fn) (first cap : Array Value) (w : World), (Instr.makeFunc fn first cap).run Try.prog w = .ok (.func fn first cap) w := fun _ _ _ _ => rfl
  have ga : (!decide (128 ≤ a)) = false := by simp; omega
  have gb : (!decide (128 ≤ b)) = true := by simp; omega
  go_enter Try.func42, Try.ntmps42
  go_wp2
  go_ret
  exact ⟨rfl, rfl⟩

theorem cmp_c1 (a b : Int) (w : World) (ha : 0 ≤ a) (ha' : a ≤ 255) (hb : 0 ≤ b) (hb' : b ≤ 255) (h0 : (a == b) = false) (h1 : 128 ≤ a) (h2 : 128 ≤ b) (h3 : 1 ≤ b - a) (h4 : b - a ≤ 16) :
    Calls Try.prog 42 #[.int .i64 a, .int .i64 b] w fun e w' => e = .returned (.int .i64 1) ∧ w' = w := by
  have hmf : ∀ (fn : Fn) (first cap : Array Value) (w : World), (Instr.makeFunc fn first cap).run Try.prog w = .ok (.func fn first cap) w := fun _ _ _ _ => rfl
  have ga : (!decide (128 ≤ a)) = false := by simp; omega
  have gb : (!decide (128 ≤ b)) = false := by simp; omega
  go_enter Try.func42, Try.ntmps42
  go_wp2
  go_ret
  exact ⟨rfl, rfl⟩

theorem cmp_c2 (a b : Int) (w : World) (ha : 0 ≤ a) (ha' : a ≤ 255) (hb : 0 ≤ b) (hb' : b ≤ 255) (h0 : (a == b) = false) (h1 : 128 ≤ a) (h2 : 128 ≤ b) (h3 : 1 ≤ a - b) (h4 : a - b ≤ 16) (h5 : b - a < 1) :
    Calls Try.prog 42 #[.int .i64 a, .int .i64 b] w fun e w' => e = .returned (.int .i64 2) ∧ w' = w := by
  have hmf : ∀ (fn : Fn) (first cap : Array Value) (w : World), (Instr.makeFunc fn first cap).run Try.prog w = .ok (.func fn first cap) w := fun _ _ _ _ => rfl
  have ga : (!decide (128 ≤ a)) = false := by simp; omega
  have gb : (!decide (128 ≤ b)) = false := by simp; omega
  go_enter Try.func42, Try.ntmps42
  go_wp2
  go_ret
  exact ⟨rfl, rfl⟩

theorem cmp_c3 (a b : Int) (w : World) (ha : 0 ≤ a) (ha' : a ≤ 255) (hb : 0 ≤ b) (hb' : b ≤ 255) (h0 : (a == b) = false) (h1 : 128 ≤ a) (h2 : 128 ≤ b) (h3 : 16 < a - b) (h4 : b - a < 1) :
    Calls Try.prog 42 #[.int .i64 a, .int .i64 b] w fun e w' => e = .returned (.int .i64 3) ∧ w' = w := by
  have hmf : ∀ (fn : Fn) (first cap : Array Value) (w : World), (Instr.makeFunc fn first cap).run Try.prog w = .ok (.func fn first cap) w := fun _ _ _ _ => rfl
  have ga : (!decide (128 ≤ a)) = false := by simp; omega
  have gb : (!decide (128 ≤ b)) = false := by simp; omega
  go_enter Try.func42, Try.ntmps42
  go_wp2
  go_ret
  exact ⟨rfl, rfl⟩

theorem cmp_c4 (a b : Int) (w : World) (ha : 0 ≤ a) (ha' : a ≤ 255) (hb : 0 ≤ b) (hb' : b ≤ 255) (h0 : (a == b) = false) (h1 : 128 ≤ a) (h2 : 128 ≤ b) (h3 : 16 < b - a) (h4 : a - b < 1) (h5 : 1 ≤ b - a) :
    Calls Try.prog 42 #[.int .i64 a, .int .i64 b] w fun e w' => e = .returned (.int .i64 3) ∧ w' = w := by
  have hmf : ∀ (fn : Fn) (first cap : Array Value) (w : World), (Instr.makeFunc fn first cap).run Try.prog w = .ok (.func fn first cap) w := fun _ _ _ _ => rfl
  have ga : (!decide (128 ≤ a)) = false := by simp; omega
  have gb : (!decide (128 ≤ b)) = false := by simp; omega
  go_enter Try.func42, Try.ntmps42
  go_wp2
  go_ret
  exact ⟨rfl, rfl⟩

theorem cmp_d1 (a b : Int) (w : World) (ha : 0 ≤ a) (ha' : a ≤ 255) (hb : 0 ≤ b) (hb' : b ≤ 255) (h0 : (a == b) = false) (h1 : a < 128) (h2 : 128 ≤ b) (h3 : 256 - b + a ≤ 16) :
    Calls Try.prog 42 #[.int .i64 a, .int .i64 b] w fun e w' => e = .returned (.int .i64 2) ∧ w' = w := by
  have hmf : ∀ (fn : Fn) (first cap : Array Value) (w : World), (Instr.makeFunc fn first cap).run Try.prog w = .ok (.func fn first cap) w := fun _ _ _ _ => rfl
  have ga : (!decide (128 ≤ a)) = true := by simp; omega
  have gb : (!decide (128 ≤ b)) = false := by simp; omega
  go_enter Try.func42, Try.ntmps42
  go_wp2
  go_ret
  exact ⟨rfl, rfl⟩

theorem cmp_d2 (a b : Int) (w : World) (ha : 0 ≤ a) (ha' : a ≤ 255) (hb : 0 ≤ b) (hb' : b ≤ 255) (h0 : (a == b) = false) (h1 : a < 128) (h2 : 128 ≤ b) (h3 : 16 < 256 - b + a) :
    Calls Try.prog 42 #[.int .i64 a, .int .i64 b] w fun e w' => e = .returned (.int .i64 1) ∧ w' = w := by
  have hmf : ∀ (fn : Fn) (first cap : Array Value) (w : World), (Instr.makeFunc fn first cap).run Try.prog w = .ok (.func fn first cap) w := fun _ _ _ _ => rfl
  have ga : (!decide (128 ≤ a)) = true := by simp; omega
  have gb : (!decide (128 ≤ b)) = false := by simp; omega
  go_enter Try.func42, Try.ntmps42
  go_wp2
  go_ret
  exact ⟨rfl, rfl⟩

theorem cmp_e1 (a b : Int) (w : World) (ha : 0 ≤ a) (ha' : a ≤ 255) (hb : 0 ≤ b) (hb' : b ≤ 255) (h0 : (a == b) = false) (h1 : a < 128) (h2 : b < 128) (h3 : 1 ≤ (b - a + 128) % 128) (h4 : (b - a + 128) % 128 ≤ 16) :
    Calls Try.prog 42 #[.int .i64 a, .int .i64 b] w fun e w' => e = .returned (.int .i64 1) ∧ w' = w := by
  have hmf : ∀ (fn : Fn) (first cap : Array Value) (w : World), (Instr.makeFunc fn first cap).run Try.prog w = .ok (.func fn first cap) w := fun _ _ _ _ => rfl
  have ga : (!decide (128 ≤ a)) = true := by simp; omega
  have gb : (!decide (128 ≤ b)) = true := by simp; omega
  go_enter Try.func42, Try.ntmps42
  go_wp2
  go_ret
  exact ⟨rfl, rfl⟩

theorem cmp_e2 (a b : Int) (w : World) (ha : 0 ≤ a) (ha' : a ≤ 255) (hb : 0 ≤ b) (hb' : b ≤ 255) (h0 : (a == b) = false) (h1 : a < 128) (h2 : b < 128) (h3 : 16 < (b - a + 128) % 128) (h4 : 1 ≤ (b - a + 128) % 128) (h5 : 1 ≤ (a - b + 128) % 128) (h6 : (a - b + 128) % 128 ≤ 16) :
    Calls Try.prog 42 #[.int .i64 a, .int .i64 b] w fun e w' => e = .returned (.int .i64 2) ∧ w' = w := by
  have hmf : ∀ (fn : Fn) (first cap : Array Value) (w : World), (Instr.makeFunc fn first cap).run Try.prog w = .ok (.func fn first cap) w := fun _ _ _ _ => rfl
  have ga : (!decide (128 ≤ a)) = true := by simp; omega
  have gb : (!decide (128 ≤ b)) = true := by simp; omega
  go_enter Try.func42, Try.ntmps42
  go_wp2
  go_ret
  exact ⟨rfl, rfl⟩

theorem cmp_e3 (a b : Int) (w : World) (ha : 0 ≤ a) (ha' : a ≤ 255) (hb : 0 ≤ b) (hb' : b ≤ 255) (h0 : (a == b) = false) (h1 : a < 128) (h2 : b < 128) (h3 : 16 < (b - a + 128) % 128) (h4 : 1 ≤ (b - a + 128) % 128) (h5 : 1 ≤ (a - b + 128) % 128) (h6 : 16 < (a - b + 128) % 128) :
    Calls Try.prog 42 #[.int .i64 a, .int .i64 b] w fun e w' => e = .returned (.int .i64 3) ∧ w' = w := by
  have hmf : ∀ (fn : Fn) (first cap : Array Value) (w : World), (Instr.makeFunc fn first cap).run Try.prog w = .ok (.func fn first cap) w := fun _ _ _ _ => rfl
  have ga : (!decide (128 ≤ a)) = true := by simp; omega
  have gb : (!decide (128 ≤ b)) = true := by simp; omega
  go_enter Try.func42, Try.ntmps42
  go_wp2
  go_ret
  exact ⟨rfl, rfl⟩

theorem cmp_a (a : Int) (w : World) :
    Calls Try.prog 42 #[.int .i64 a, .int .i64 a] w fun e w' => e = .returned (.int .i64 0) ∧ w' = w := by
  have hmf : ∀ (fn : Fn) (first cap : Array Value) (w : World), (Instr.makeFunc fn first cap).run Try.prog w = .ok (.func fn first cap) w := fun _ _ _ _ => rfl
  go_enter Try.func42, Try.ntmps42
  go_wp2
  go_ret
  exact ⟨rfl, rfl⟩

theorem compare_any (a b : Int) (w : World) (ha : 0 ≤ a) (ha' : a ≤ 255) (hb : 0 ≤ b) (hb' : b ≤ 255) :
    Calls Try.prog 42 #[.int .i64 a, .int .i64 b] w fun e w' => e = .returned (.int .i64 (cmpF a b)) ∧ w' = w := by
  by_cases h0 : a = b
  · subst h0
    have : cmpF a a = 0 := by unfold cmpF; rw [if_pos rfl]
    rw [this]; exact cmp_a a w
  · have hne : (a == b) = false := by simpa using h0
    unfold cmpF
    rw [if_neg h0]
    by_cases h1 : 128 ≤ a
    · rw [if_pos h1]
      by_cases h2 : b < 128
      · rw [if_pos h2]
        by_cases h3 : 256 - a + b ≤ 16
        · rw [if_pos h3]; exact cmp_b1 a b w ha ha' hb hb' hne h1 h2 h3
        · rw [if_neg h3]; exact cmp_b2 a b w ha ha' hb hb' hne h1 h2 (by omega)
      · rw [if_neg h2]
        by_cases h3 : 1 ≤ b - a ∧ b - a ≤ 16
        · rw [if_pos h3]; exact cmp_c1 a b w ha ha' hb hb' hne h1 (by omega) h3.1 h3.2
        · rw [if_neg h3]
          by_cases h4 : 1 ≤ a - b ∧ a - b ≤ 16
          · rw [if_pos h4]; exact cmp_c2 a b w ha ha' hb hb' hne h1 (by omega) h4.1 h4.2 (by omega)
          · rw [if_neg h4]
            by_cases h5 : a < b
            · exact cmp_c4 a b w ha ha' hb hb' hne h1 (by omega) (by omega) (by omega) (by omega)
            · exact cmp_c3 a b w ha ha' hb hb' hne h1 (by omega) (by omega) (by omega)
    · rw [if_neg h1]
      by_cases h2 : 128 ≤ b
      · rw [if_pos h2]
        by_cases h3 : 256 - b + a ≤ 16
        · rw [if_pos h3]; exact cmp_d1 a b w ha ha' hb hb' hne (by omega) h2 h3
        · rw [if_neg h3]; exact cmp_d2 a b w ha ha' hb hb' hne (by omega) h2 (by omega)
      · rw [if_neg h2]
        by_cases h3 : 1 ≤ (b - a + 128) % 128 ∧ (b - a + 128) % 128 ≤ 16
        · rw [if_pos h3]; exact cmp_e1 a b w ha ha' hb hb' hne (by omega) (by omega) h3.1 h3.2
        · rw [if_neg h3]
          by_cases h4 : 1 ≤ (a - b + 128) % 128 ∧ (a - b + 128) % 128 ≤ 16
          · rw [if_pos h4]; exact cmp_e2 a b w ha ha' hb hb' hne (by omega) (by omega) (by omega) (by omega) h4.1 h4.2
          · rw [if_neg h4]; exact cmp_e3 a b w ha ha' hb hb' hne (by omega) (by omega) (by omega) (by omega) (by omega) (by omega)
end Go.Proofs.Ythdacjnghnnmnaa.Lol
