/- lolli.compare and the document's Compare, of any two counters from 0 to 255. -/
import Derived.Test.YtnmlckaeheiodaaDoorChecked
import Derived.Test.YtnmlckaeheiodaaDoorPRouteNextsx1
import Derived.Test.YtnmlckaeheiodaaDoorKp
import Derived.WalkKit
import Derived.KernelRfl
import Derived.RowKit3
import Derived.WalkSpells
import Derived.Deep.QuietTactic
import Derived.BigQuiet
import Derived.IntWalk
import Derived.Lib.Hide
set_option linter.unusedVariables false
set_option linter.unusedSimpArgs false
namespace Go.Proofs.YtnmlckaeheiodaaDoor.Lol
open Go.RowKit Go.Proofs.YtnmlckaeheiodaaDoorW.PrintWords
def cmpF (a b : Int) : Int := if a = b then 0 else if 128 ≤ a then (if b < 128 then (if 256 - a + b ≤ 16 then 1 else 2) else if 1 ≤ b - a ∧ b - a ≤ 16 then 1 else if 1 ≤ a - b ∧ a - b ≤ 16 then 2 else 3)
 else if 128 ≤ b then (if 256 - b + a ≤ 16 then 2 else 1) else if 1 ≤ (b - a + 128) % 128 ∧ (b - a + 128) % 128 ≤ 16 then 1 else if 1 ≤ (a - b + 128) % 128 ∧ (a - b + 128) % 128 ≤ 16 then 2 else 3

theorem cmp_b1 (a b : Int) (w : World) (ha : 0 ≤ a) (ha' : a ≤ 255) (hb : 0 ≤ b) (hb' : b ≤ 255) (h0 : (a == b) = false) (h1 : 128 ≤ a) (h2 : b < 128) (h3 : 256 - a + b ≤ 16) :
  Calls Tryd.prog 52 #[.int .i64 a, .int .i64 b] w fun e w' => e = .returned (.int .i64 1) ∧ w' = w := by
 have hmf : ∀ (fn : Fn) (first cap : Array Value) (w : World), (Instr.makeFunc fn first cap).run Tryd.prog w = .ok (.func fn first cap) w := fun _ _ _ _ => rfl
 have ga : (!decide (128 ≤ a)) = false := by simp; omega
 have gb : (!decide (128 ≤ b)) = true := by simp; omega
 go_enter Tryd.func52, Tryd.ntmps52
 go_wp2
 go_ret
 exact ⟨rfl, rfl⟩

theorem cmp_b2 (a b : Int) (w : World) (ha : 0 ≤ a) (ha' : a ≤ 255) (hb : 0 ≤ b) (hb' : b ≤ 255) (h0 : (a == b) = false) (h1 : 128 ≤ a) (h2 : b < 128) (h3 : 16 < 256 - a + b) :
  Calls Tryd.prog 52 #[.int .i64 a, .int .i64 b] w fun e w' => e = .returned (.int .i64 2) ∧ w' = w := by
 have hmf : ∀ (fn : Fn) (first cap : Array Value) (w : World), (Instr.makeFunc fn first cap).run Tryd.prog w = .ok (.func fn first cap) w := fun _ _ _ _ => rfl
 have ga : (!decide (128 ≤ a)) = false := by simp; omega
 have gb : (!decide (128 ≤ b)) = true := by simp; omega
 go_enter Tryd.func52, Tryd.ntmps52
 go_wp2
 go_ret
 exact ⟨rfl, rfl⟩

theorem cmp_c1 (a b : Int) (w : World) (ha : 0 ≤ a) (ha' : a ≤ 255) (hb : 0 ≤ b) (hb' : b ≤ 255) (h0 : (a == b) = false) (h1 : 128 ≤ a) (h2 : 128 ≤ b) (h3 : 1 ≤ b - a) (h4 : b - a ≤ 16) :
  Calls Tryd.prog 52 #[.int .i64 a, .int .i64 b] w fun e w' => e = .returned (.int .i64 1) ∧ w' = w := by
 have hmf : ∀ (fn : Fn) (first cap : Array Value) (w : World), (Instr.makeFunc fn first cap).run Tryd.prog w = .ok (.func fn first cap) w := fun _ _ _ _ => rfl
 have ga : (!decide (128 ≤ a)) = false := by simp; omega
 have gb : (!decide (128 ≤ b)) = false := by simp; omega
 go_enter Tryd.func52, Tryd.ntmps52
 go_wp2
 go_ret
 exact ⟨rfl, rfl⟩

theorem cmp_c2 (a b : Int) (w : World) (ha : 0 ≤ a) (ha' : a ≤ 255) (hb : 0 ≤ b) (hb' : b ≤ 255) (h0 : (a == b) = false) (h1 : 128 ≤ a) (h2 : 128 ≤ b) (h3 : 1 ≤ a - b) (h4 : a - b ≤ 16) (h5 : b - a < 1) :
  Calls Tryd.prog 52 #[.int .i64 a, .int .i64 b] w fun e w' => e = .returned (.int .i64 2) ∧ w' = w := by
 have hmf : ∀ (fn : Fn) (first cap : Array Value) (w : World), (Instr.makeFunc fn first cap).run Tryd.prog w = .ok (.func fn first cap) w := fun _ _ _ _ => rfl
 have ga : (!decide (128 ≤ a)) = false := by simp; omega
 have gb : (!decide (128 ≤ b)) = false := by simp; omega
 go_enter Tryd.func52, Tryd.ntmps52
 go_wp2
 go_ret
 exact ⟨rfl, rfl⟩

theorem cmp_c3 (a b : Int) (w : World) (ha : 0 ≤ a) (ha' : a ≤ 255) (hb : 0 ≤ b) (hb' : b ≤ 255) (h0 : (a == b) = false) (h1 : 128 ≤ a) (h2 : 128 ≤ b) (h3 : 16 < a - b) (h4 : b - a < 1) :
  Calls Tryd.prog 52 #[.int .i64 a, .int .i64 b] w fun e w' => e = .returned (.int .i64 3) ∧ w' = w := by
 have hmf : ∀ (fn : Fn) (first cap : Array Value) (w : World), (Instr.makeFunc fn first cap).run Tryd.prog w = .ok (.func fn first cap) w := fun _ _ _ _ => rfl
 have ga : (!decide (128 ≤ a)) = false := by simp; omega
 have gb : (!decide (128 ≤ b)) = false := by simp; omega
 go_enter Tryd.func52, Tryd.ntmps52
 go_wp2
 go_ret
 exact ⟨rfl, rfl⟩

theorem cmp_c4 (a b : Int) (w : World) (ha : 0 ≤ a) (ha' : a ≤ 255) (hb : 0 ≤ b) (hb' : b ≤ 255) (h0 : (a == b) = false) (h1 : 128 ≤ a) (h2 : 128 ≤ b) (h3 : 16 < b - a) (h4 : a - b < 1) (h5 : 1 ≤ b - a) :
  Calls Tryd.prog 52 #[.int .i64 a, .int .i64 b] w fun e w' => e = .returned (.int .i64 3) ∧ w' = w := by
 have hmf : ∀ (fn : Fn) (first cap : Array Value) (w : World), (Instr.makeFunc fn first cap).run Tryd.prog w = .ok (.func fn first cap) w := fun _ _ _ _ => rfl
 have ga : (!decide (128 ≤ a)) = false := by simp; omega
 have gb : (!decide (128 ≤ b)) = false := by simp; omega
 go_enter Tryd.func52, Tryd.ntmps52
 go_wp2
 go_ret
 exact ⟨rfl, rfl⟩

theorem cmp_d1 (a b : Int) (w : World) (ha : 0 ≤ a) (ha' : a ≤ 255) (hb : 0 ≤ b) (hb' : b ≤ 255) (h0 : (a == b) = false) (h1 : a < 128) (h2 : 128 ≤ b) (h3 : 256 - b + a ≤ 16) :
  Calls Tryd.prog 52 #[.int .i64 a, .int .i64 b] w fun e w' => e = .returned (.int .i64 2) ∧ w' = w := by
 have hmf : ∀ (fn : Fn) (first cap : Array Value) (w : World), (Instr.makeFunc fn first cap).run Tryd.prog w = .ok (.func fn first cap) w := fun _ _ _ _ => rfl
 have ga : (!decide (128 ≤ a)) = true := by simp; omega
 have gb : (!decide (128 ≤ b)) = false := by simp; omega
 go_enter Tryd.func52, Tryd.ntmps52
 go_wp2
 go_ret
 exact ⟨rfl, rfl⟩

theorem cmp_d2 (a b : Int) (w : World) (ha : 0 ≤ a) (ha' : a ≤ 255) (hb : 0 ≤ b) (hb' : b ≤ 255) (h0 : (a == b) = false) (h1 : a < 128) (h2 : 128 ≤ b) (h3 : 16 < 256 - b + a) :
  Calls Tryd.prog 52 #[.int .i64 a, .int .i64 b] w fun e w' => e = .returned (.int .i64 1) ∧ w' = w := by
 have hmf : ∀ (fn : Fn) (first cap : Array Value) (w : World), (Instr.makeFunc fn first cap).run Tryd.prog w = .ok (.func fn first cap) w := fun _ _ _ _ => rfl
 have ga : (!decide (128 ≤ a)) = true := by simp; omega
 have gb : (!decide (128 ≤ b)) = false := by simp; omega
 go_enter Tryd.func52, Tryd.ntmps52
 go_wp2
 go_ret
 exact ⟨rfl, rfl⟩

theorem cmp_e1 (a b : Int) (w : World) (ha : 0 ≤ a) (ha' : a ≤ 255) (hb : 0 ≤ b) (hb' : b ≤ 255) (h0 : (a == b) = false) (h1 : a < 128) (h2 : b < 128) (h3 : 1 ≤ (b - a + 128) % 128) (h4 : (b - a + 128) % 128 ≤ 16) :
  Calls Tryd.prog 52 #[.int .i64 a, .int .i64 b] w fun e w' => e = .returned (.int .i64 1) ∧ w' = w := by
 have hmf : ∀ (fn : Fn) (first cap : Array Value) (w : World), (Instr.makeFunc fn first cap).run Tryd.prog w = .ok (.func fn first cap) w := fun _ _ _ _ => rfl
 have ga : (!decide (128 ≤ a)) = true := by simp; omega
 have gb : (!decide (128 ≤ b)) = true := by simp; omega
 go_enter Tryd.func52, Tryd.ntmps52
 go_wp2
 go_ret
 exact ⟨rfl, rfl⟩

theorem cmp_e2 (a b : Int) (w : World) (ha : 0 ≤ a) (ha' : a ≤ 255) (hb : 0 ≤ b) (hb' : b ≤ 255) (h0 : (a == b) = false) (h1 : a < 128) (h2 : b < 128) (h3 : 16 < (b - a + 128) % 128) (h4 : 1 ≤ (b - a + 128) % 128) (h5 : 1 ≤ (a - b + 128) % 128) (h6 : (a - b + 128) % 128 ≤ 16) :
  Calls Tryd.prog 52 #[.int .i64 a, .int .i64 b] w fun e w' => e = .returned (.int .i64 2) ∧ w' = w := by
 have hmf : ∀ (fn : Fn) (first cap : Array Value) (w : World), (Instr.makeFunc fn first cap).run Tryd.prog w = .ok (.func fn first cap) w := fun _ _ _ _ => rfl
 have ga : (!decide (128 ≤ a)) = true := by simp; omega
 have gb : (!decide (128 ≤ b)) = true := by simp; omega
 go_enter Tryd.func52, Tryd.ntmps52
 go_wp2
 go_ret
 exact ⟨rfl, rfl⟩

theorem cmp_e3 (a b : Int) (w : World) (ha : 0 ≤ a) (ha' : a ≤ 255) (hb : 0 ≤ b) (hb' : b ≤ 255) (h0 : (a == b) = false) (h1 : a < 128) (h2 : b < 128) (h3 : 16 < (b - a + 128) % 128) (h4 : 1 ≤ (b - a + 128) % 128) (h5 : 1 ≤ (a - b + 128) % 128) (h6 : 16 < (a - b + 128) % 128) :
  Calls Tryd.prog 52 #[.int .i64 a, .int .i64 b] w fun e w' => e = .returned (.int .i64 3) ∧ w' = w := by
 have hmf : ∀ (fn : Fn) (first cap : Array Value) (w : World), (Instr.makeFunc fn first cap).run Tryd.prog w = .ok (.func fn first cap) w := fun _ _ _ _ => rfl
 have ga : (!decide (128 ≤ a)) = true := by simp; omega
 have gb : (!decide (128 ≤ b)) = true := by simp; omega
 go_enter Tryd.func52, Tryd.ntmps52
 go_wp2
 go_ret
 exact ⟨rfl, rfl⟩

theorem cmp_a (a : Int) (w : World) :
  Calls Tryd.prog 52 #[.int .i64 a, .int .i64 a] w fun e w' => e = .returned (.int .i64 0) ∧ w' = w := by
 have hmf : ∀ (fn : Fn) (first cap : Array Value) (w : World), (Instr.makeFunc fn first cap).run Tryd.prog w = .ok (.func fn first cap) w := fun _ _ _ _ => rfl
 go_enter Tryd.func52, Tryd.ntmps52
 go_wp2
 go_ret
 exact ⟨rfl, rfl⟩

theorem compare_any (a b : Int) (w : World) (ha : 0 ≤ a) (ha' : a ≤ 255) (hb : 0 ≤ b) (hb' : b ≤ 255) :
  Calls Tryd.prog 52 #[.int .i64 a, .int .i64 b] w fun e w' => e = .returned (.int .i64 (cmpF a b)) ∧ w' = w := by
 by_cases h0 : a = b
 ·
  subst h0
  have : cmpF a a = 0 := by unfold cmpF; rw [if_pos rfl]
  rw [this]; exact cmp_a a w
 ·
  have hne : (a == b) = false := by simpa using h0
  unfold cmpF
  rw [if_neg h0]
  by_cases h1 : 128 ≤ a
  ·
   rw [if_pos h1]
   by_cases h2 : b < 128
   ·
    rw [if_pos h2]
    by_cases h3 : 256 - a + b ≤ 16
    · rw [if_pos h3]; exact cmp_b1 a b w ha ha' hb hb' hne h1 h2 h3
    · rw [if_neg h3]; exact cmp_b2 a b w ha ha' hb hb' hne h1 h2 (by omega)
   ·
    rw [if_neg h2]
    by_cases h3 : 1 ≤ b - a ∧ b - a ≤ 16
    · rw [if_pos h3]; exact cmp_c1 a b w ha ha' hb hb' hne h1 (by omega) h3.1 h3.2
    ·
     rw [if_neg h3]
     by_cases h4 : 1 ≤ a - b ∧ a - b ≤ 16
     · rw [if_pos h4]; exact cmp_c2 a b w ha ha' hb hb' hne h1 (by omega) h4.1 h4.2 (by omega)
     ·
      rw [if_neg h4]
      by_cases h5 : a < b
      · exact cmp_c4 a b w ha ha' hb hb' hne h1 (by omega) (by omega) (by omega) (by omega)
      · exact cmp_c3 a b w ha ha' hb hb' hne h1 (by omega) (by omega) (by omega)
  ·
   rw [if_neg h1]
   by_cases h2 : 128 ≤ b
   ·
    rw [if_pos h2]
    by_cases h3 : 256 - b + a ≤ 16
    · rw [if_pos h3]; exact cmp_d1 a b w ha ha' hb hb' hne (by omega) h2 h3
    · rw [if_neg h3]; exact cmp_d2 a b w ha ha' hb hb' hne (by omega) h2 (by omega)
   ·
    rw [if_neg h2]
    by_cases h3 : 1 ≤ (b - a + 128) % 128 ∧ (b - a + 128) % 128 ≤ 16
    · rw [if_pos h3]; exact cmp_e1 a b w ha ha' hb hb' hne (by omega) (by omega) h3.1 h3.2
    ·
     rw [if_neg h3]
     by_cases h4 : 1 ≤ (a - b + 128) % 128 ∧ (a - b + 128) % 128 ≤ 16
     · rw [if_pos h4]; exact cmp_e2 a b w ha ha' hb hb' hne (by omega) (by omega) (by omega) (by omega) h4.1 h4.2
     · rw [if_neg h4]; exact cmp_e3 a b w ha ha' hb hb' hne (by omega) (by omega) (by omega) (by omega) (by omega) (by omega)

/-- Where a counter stands so many steps on, up to sixteen. -/
def nx (a : Int) (i : Int) : Int := if a ≥ 128 then (if a + i < 256 then a + i else a + i - 256) else (a + i) % 128
theorem nx_next (a i : Int) (ha : 0 ≤ a ∧ a ≤ 255) (hi : 0 ≤ i ∧ i ≤ 15) : PRouteNexts.rivuletref01_Next.f (nx a i) = some (nx a (i + 1)) := by
 have h0 : 0 ≤ nx a i ∧ nx a i ≤ 255 := by unfold nx; split <;> (try split) <;> omega
 have hw : wrap64 (nx a i + 1) = nx a i + 1 := by unfold wrap64; omega
 unfold PRouteNexts.rivuletref01_Next.f
 rw [hw]
 unfold nx
 by_cases h1 : a ≥ 128
 ·
  rw [if_pos h1, if_pos h1]
  split <;> split <;> (try split) <;> (try split) <;> (first | omega | (congr 1; omega))
 ·
  rw [if_neg h1, if_neg h1]
  split <;> (try split) <;> (first | omega | (congr 1; omega))
theorem reach_from (a b : Int) (ha : 0 ≤ a ∧ a ≤ 255) : ∀ (d k : Nat) (i : Int), 0 ≤ i → i ≤ 16 → 16 - i = d → d < k →
  ∃ r, PRouteNexts.rivuletref01_reach.l0 k (nx a i) b i = some r ∧ (r = true ↔ ∃ j, i < j ∧ j ≤ 16 ∧ nx a j = b) := by
 intro d
 induction d with
 | zero =>
  intro k i h0 h1 hd hk
  obtain ⟨k, rfl⟩ : ∃ m, k = m + 1 := ⟨k - 1, by omega⟩
  refine ⟨false, ?_, by simp; intro j h2 h3; omega⟩
  simp only [PRouteNexts.rivuletref01_reach.l0]; rw [if_neg (by omega)]
 | succ d ih =>
  intro k i h0 h1 hd hk
  obtain ⟨k, rfl⟩ : ∃ m, k = m + 1 := ⟨k - 1, by omega⟩
  have hw : wrap64 (i + 1) = i + 1 := by unfold wrap64; omega
  by_cases hb : nx a (i + 1) = b
  ·
   refine ⟨true, ?_, by simp; exact ⟨i + 1, by omega, by omega, hb⟩⟩
   simp only [PRouteNexts.rivuletref01_reach.l0]; rw [if_pos (by omega), nx_next a i ha (by omega)]; simp [hb]
  ·
   obtain ⟨r, hr, hr2⟩ := ih k (i + 1) (by omega) (by omega) (by omega) (by omega)
   refine ⟨r, ?_, ?_⟩
   · simp only [PRouteNexts.rivuletref01_reach.l0]; rw [if_pos (by omega), nx_next a i ha (by omega)]; simp [hb, hw, hr]
   ·
    rw [hr2]
    constructor
    · rintro ⟨j, h2, h3, h4⟩; exact ⟨j, by omega, h3, h4⟩
    ·
     rintro ⟨j, h2, h3, h4⟩
     refine ⟨j, ?_, h3, h4⟩
     by_cases he : j = i + 1
     · subst he; exact absurd h4 hb
     · omega
def reachB (a b : Int) : Bool := if a ≥ 128 then decide ((1 ≤ b - a ∧ b - a ≤ 16) ∨ (b < 128 ∧ 256 - a + b ≤ 16)) else decide (b < 128 ∧ 1 ≤ (b - a + 128) % 128 ∧ (b - a + 128) % 128 ≤ 16)
theorem reach_f (k : Nat) (hk : 17 ≤ k) (a b : Int) (ha : 0 ≤ a ∧ a ≤ 255) (hb : 0 ≤ b ∧ b ≤ 255) : PRouteNexts.rivuletref01_reach.f k a b = some (reachB a b) := by
 obtain ⟨r, hr, hr2⟩ := reach_from a b ha 16 k 0 (by omega) (by omega) (by omega) (by omega)
 have h0 : nx a 0 = a := by unfold nx; split <;> (try split) <;> omega
 rw [h0] at hr
 have : r = reachB a b := by
  rw [Bool.eq_iff_iff, hr2]
  unfold reachB
  constructor
  ·
   rintro ⟨j, h2, h3, h4⟩
   unfold nx at h4
   split <;> rw [decide_eq_true_eq]
   · rename_i h5; rw [if_pos h5] at h4; split at h4 <;> omega
   · rename_i h5; rw [if_neg h5] at h4; omega
  ·
   intro h
   by_cases h5 : a ≥ 128
   ·
    rw [if_pos h5, decide_eq_true_eq] at h
    by_cases h6 : 1 ≤ b - a ∧ b - a ≤ 16
    · exact ⟨b - a, by omega, by omega, by unfold nx; rw [if_pos h5, if_pos (by omega)]; omega⟩
    · exact ⟨256 - a + b, by omega, by omega, by unfold nx; rw [if_pos h5, if_neg (by omega)]; omega⟩
   ·
    rw [if_neg h5, decide_eq_true_eq] at h
    exact ⟨(b - a + 128) % 128, by omega, by omega, by unfold nx; rw [if_neg h5]; omega⟩
 unfold PRouteNexts.rivuletref01_reach.f
 rw [hr, this]
theorem refcmp_f (a b : Int) (ha : 0 ≤ a ∧ a ≤ 255) (hb : 0 ≤ b ∧ b ≤ 255) : PRouteNexts.rivuletref01_Compare.f 40 a b = some (cmpF a b) := by
 unfold PRouteNexts.rivuletref01_Compare.f cmpF
 by_cases h0 : a = b
 · rw [if_pos h0, if_pos h0]
 ·
  rw [if_neg h0, if_neg h0, reach_f 40 (by omega) a b ha hb, reach_f 40 (by omega) b a hb ha]
  simp only [Option.bind_some, PRouteNexts.rivuletref01_Compare.j0, reachB, decide_eq_true_eq]
  by_cases h1 : 128 ≤ a <;> by_cases h2 : 128 ≤ b
  ·
   have h3 : ¬ b < 128 := by omega
   simp only [h1, h2, h3, ge_iff_le, if_true, if_false, false_and, or_false, decide_eq_true_eq, decide_false, Bool.false_eq_true]
   by_cases h4 : 1 ≤ b - a ∧ b - a ≤ 16
   · simp [h4]
   ·
    by_cases h5 : 1 ≤ a - b ∧ a - b ≤ 16
    · simp [h4, h5]
    ·
     have h6 : ¬ a < 128 := by omega
     simp [h4, h5, h6]
  ·
   have h3 : b < 128 := by omega
   have h4 : ¬ (1 ≤ b - a ∧ b - a ≤ 16) := by omega
   have h5 : ¬ a < 128 := by omega
   by_cases h6 : 256 - a + b ≤ 16
   · simp [h1, h2, h3, h4, h5, h6]
   · simp [h1, h2, h3, h4, h5, h6]
  ·
   have h3 : ¬ b < 128 := by omega
   have h4 : ¬ (1 ≤ a - b ∧ a - b ≤ 16) := by omega
   have h5 : a < 128 := by omega
   by_cases h6 : 256 - b + a ≤ 16
   · simp [h1, h2, h3, h4, h5, h6]
   · simp [h1, h2, h3, h4, h5, h6]
  ·
   have h3 : b < 128 := by omega
   have h5 : a < 128 := by omega
   simp only [h1, h2, h3, h5, ge_iff_le, if_false, true_and, decide_eq_true_eq, Bool.false_eq_true]
   by_cases h6 : 1 ≤ (b - a + 128) % 128 ∧ (b - a + 128) % 128 ≤ 16
   · simp only [if_pos h6]
   ·
    by_cases h7 : 1 ≤ (a - b + 128) % 128 ∧ (a - b + 128) % 128 ≤ 16
    · simp only [if_neg h6, if_pos h7]
    · simp only [if_neg h6, if_neg h7]
theorem rcompare_any (a b : Int) (ha : 0 ≤ a ∧ a ≤ 255) (hb : 0 ≤ b ∧ b ≤ 255) (w : World) : Calls Tryd.prog 32 #[.int .i64 a, .int .i64 b] w fun e w' => e = .returned (.int .i64 (cmpF a b)) ∧ Pk.Kp w w' (fun _ => False) := by
 refine (PRouteNexts.rivuletref01_Compare.calls 40 a b _ w (refcmp_f a b ha hb)).mono ?_
 rintro e w' ⟨rfl, hd⟩
 exact ⟨rfl, Pk.Kp.of_below (by first | exact hd.below | exact hd) _⟩
theorem compare_kp (a b : Int) (ha : 0 ≤ a ∧ a ≤ 255) (hb : 0 ≤ b ∧ b ≤ 255) (w : World) : Calls Tryd.prog 52 #[.int .i64 a, .int .i64 b] w fun e w' => e = .returned (.int .i64 (cmpF a b)) ∧ Pk.Kp w w' (fun _ => False) := by
 refine (compare_any a b w ha.1 ha.2 hb.1 hb.2).mono ?_
 rintro e w' ⟨rfl, rfl⟩
 exact ⟨rfl, Pk.Kp.refl _ _⟩
theorem cmp_zero {a b : Int} : cmpF a b = 0 ↔ a = b := by
 unfold cmpF
 constructor
 ·
  intro h
  split at h
  · assumption
  ·
   exfalso
   repeat' split at h
   all_goals omega
 ·
  intro h
  rw [if_pos h]
end Go.Proofs.YtnmlckaeheiodaaDoor.Lol
