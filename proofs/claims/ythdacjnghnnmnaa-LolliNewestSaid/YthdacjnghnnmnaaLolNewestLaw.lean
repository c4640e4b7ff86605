/- The newest one of some counters, or that there is none, is the first that is newer than, or the same as, each: the law's walk. No condition. -/
import Derived.Test.YthdacjnghnnmnaaLolNewest
import Derived.Deep.QuietTactic
import Derived.BigQuiet
set_option linter.unusedVariables false
set_option linter.unusedSimpArgs false
namespace Go.Proofs.Ythdacjnghnnmnaa.LolliNewest
open Go.RowKit Go.Proofs.YthdacjnghnnmnaaW.PrintWords Go.Proofs.Ythdacjnghnnmnaa.Lol
theorem tells_at {l : List Int} {r e0 : Int} (h : Tells l r e0) {i : Nat} (hi : i < l.length) (hb : best l i) (hn : ∀ j, j < i → ¬ best l j) : r = rd l i ∧ e0 = 0 := by
  rcases h with ⟨k, hk, h1, h2, rfl, rfl⟩ | ⟨h1, _⟩
  · rcases Nat.lt_trichotomy k i with h | h | h
    · exact absurd h1 (hn k h)
    · subst h; exact ⟨rfl, rfl⟩
    · exact absurd hb (h2 i h)
  · exact absurd hb (h1 i hi)
theorem tells_none {l : List Int} {r e0 : Int} (h : Tells l r e0) (hn : ∀ j, j < l.length → ¬ best l j) : r = 0 ∧ e0 = 8 := by
  rcases h with ⟨k, hk, h1, _⟩ | ⟨_, h⟩
  · exact absurd h1 (hn k hk)
  · exact h
theorem rCompare_dr (a b c : Int) (hc : cmpF a b = c) (ha : 0 ≤ a ∧ a ≤ 255) (hb : 0 ≤ b ∧ b ≤ 255) (w : World) : Calls Try.prog 25 #[.int .i64 a, .int .i64 b] w fun e w' => e = .returned (.int .i64 c) ∧ ∃ m, w' = w.drewN m := by
  subst hc
  refine (PLolliCompares.rivuletref01_Compare.calls 40 a b _ w (refcmp_f a b ha hb)).mono ?_
  rintro e w' ⟨rfl, hd⟩
  exact ⟨rfl, hd.out⟩
theorem beld {W w : World} (h : Below W.heap.size W w) (m : Nat) : Below W.heap.size W (w.drewN m) := h.trans ((Drawn0.mk ⟨m, rfl⟩ : Drawn0 w (w.drewN m)).below.mono h.size)
theorem vB_lt {a : Int} (h : vB a = true) : 0 ≤ a ∧ a ≤ 255 := by unfold vB at h; rwa [decide_eq_true_eq] at h
def upto (l : List Int) (k : Nat) : Bool := decide (∀ j, j < k → vB (rd l j) = true)
theorem upto_succ (l : List Int) (k : Nat) : upto l (k + 1) = (upto l k && vB (rd l k)) := by
  rw [Bool.eq_iff_iff]
  unfold upto
  simp only [Bool.and_eq_true, decide_eq_true_eq]
  constructor
  · intro h; exact ⟨fun j hj => h j (by omega), h k (by omega)⟩
  · rintro ⟨h1, h2⟩ j hj
    by_cases he : j = k
    · subst he; exact h2
    · exact h1 j (by omega)
def okto (l : List Int) (i k : Nat) : Bool := decide (∀ j, j < k → okB (rd l i) (rd l j) = true)
theorem okto_succ (l : List Int) (i k : Nat) : okto l i (k + 1) = (okto l i k && okB (rd l i) (rd l k)) := by
  rw [Bool.eq_iff_iff]
  unfold okto
  simp only [Bool.and_eq_true, decide_eq_true_eq]
  constructor
  · intro h; exact ⟨fun j hj => h j (by omega), h k (by omega)⟩
  · rintro ⟨h1, h2⟩ j hj
    by_cases he : j = k
    · subst he; exact h2
    · exact h1 j (by omega)
theorem best_okto (l : List Int) (i : Nat) : best l i ↔ okto l i l.length = true := by
  unfold best okto; rw [decide_eq_true_eq]

set_option maxHeartbeats 2000000 in
theorem no_s (A : Option Addr) (c : Nat) (l : List Int) (w : World)  (hr : Kd.C (Kd.int .i64) w A l.length l) (hc : l.length ≤ c) (hc2 : (c : Int) ≤ 9223372036854775807) (hx : (l.length : Int) ≤ 30) (hv : allV l = false) :
    Calls Try.prog 9 #[.slice A l.length c] w fun e w' => e = .returned (.bool true) ∧ Below w.heap.size w w' := by
  have hl2 : l.length ≤ 30 := by omega
  have hcl : l.length ≤ c := by omega
  have NN := Lib.hid (newest_no A c l w hr hcl hl2 hv)
  have h0 : 0 < l.length := by
    cases l with
    | nil => simp [allV] at hv
    | cons _ _ => simp
  have HR := Lib.hid hr
  have HV := Lib.hid hv
  clear hr hv
  have HL := Lib.hid (Eq.refl 0)
  go_enter Try.func9, Try.ntmps9
  go_wp2_with fail
  refine NN.out.mono ?_
  rintro e w1 ⟨rfl, hw1⟩
  go_wp2_with fail
  have HB := Lib.hid hw1
  clear hw1
  go_loopg [5, 6] l.length (fun g v5 v6 wr => ∃ k : Nat, v6 = .int .i64 k ∧ v5 = .bool (upto l k) ∧ k ≤ l.length ∧ Hid (g = l.length - k) ∧ Hid (Below w.heap.size w wr))
  case atStart => exact ⟨0, rfl, by simp [upto]; try omega, by omega, Lib.hid (by simp), HB⟩
  case round =>
    clear HB
    obtain ⟨k, rfl, rfl, hk, HG, HB⟩ := hrel
    have HR1 := Lib.hid (Kd.C_below HR.out HB.out)
    by_cases hlt : k < l.length
    · by_cases hu : upto l k = true
      · have hs := upto_succ l k
        rw [hu, Bool.true_and] at hs
        have HS := Lib.hid hs
        have RV := Lib.hid (fun W => rValid_any (rd l k) _ hs.symm W)
        clear hs
        obtain ⟨ad, had, hcell⟩ := Kd.at_int HR1.out k (by omega) (by omega)
        simp only [Int.toNat_natCast] at hcell
        cases had
        go_wp2_with fail
        refine (RV.out _).mono ?_
        rintro e w2 ⟨rfl, hw2⟩
        go_wp2_with fail
        go_roundg (l.length - (k + 1))
        case measure => have := HG.out; omega
        case rel => exact ⟨k + 1, by go_num, rfl, by omega, Lib.hid rfl, Lib.hid (bel HB.out hw2)⟩
      · have hs := upto_succ l k
        have hu' : upto l k = false := by simpa using hu
        rw [hu', Bool.false_and] at hs
        have HS := Lib.hid hs
        clear hs hu
        go_wp2_with fail
        go_roundg (l.length - (k + 1))
        case measure => have := HG.out; omega
        case rel => exact ⟨k + 1, by go_num, by rw [HS.out], by omega, Lib.hid rfl, HB⟩
    · have hu : upto l k = false := by
        have := HV.out
        unfold allV at this
        unfold upto
        have e : k = l.length := by have := HL.out; omega
        rw [e]; exact this
      go_wp2_with fail
      refine (known_any _).mono ?_
      rintro e w2 ⟨rfl, hw2⟩
      go_wp2_with fail
      go_ret
      exact ⟨rfl, bel HB.out hw2⟩

set_option maxHeartbeats 4000000 in
theorem yes_s (A : Option Addr) (c : Nat) (l : List Int) (w : World)  (hr : Kd.C (Kd.int .i64) w A l.length l) (hc : l.length ≤ c) (hc2 : (c : Int) ≤ 9223372036854775807) (hx : (l.length : Int) ≤ 30) (hv : allV l = true) (h0 : 0 < l.length) :
    Calls Try.prog 9 #[.slice A l.length c] w fun e w' => e = .returned (.bool true) ∧ Below w.heap.size w w' := by
  have hl2 : l.length ≤ 30 := by omega
  have hcl : l.length ≤ c := by omega
  have hvv : ∀ j, j < l.length → vB (rd l j) = true := by unfold allV at hv; rwa [decide_eq_true_eq] at hv
  have hm : ∀ x ∈ l, 0 ≤ x ∧ x ≤ 255 := by
    intro x hx
    obtain ⟨j, hj, rfl⟩ := List.getElem_of_mem hx
    have := vB_lt (hvv j hj)
    simpa [rd, hj] using this
  have NN := Lib.hid (newest A c l w hr hcl hm h0 hl2 (Valid_slice A c l true hv w hr hcl hl2))
  have HR := Lib.hid hr
  have HV := Lib.hid hvv
  clear hr hv hvv hm
  have HL := Lib.hid (Eq.refl 0)
  go_enter Try.func9, Try.ntmps9
  go_wp2_with fail
  refine NN.out.mono ?_
  rintro e w1 ⟨r, e0, rfl, htell, hw1⟩
  have HT := Lib.hid htell
  clear htell NN
  go_wp2_with fail
  have HB := Lib.hid hw1
  clear hw1
  go_loopg [5, 6] l.length (fun g v5 v6 wr => ∃ k : Nat, v6 = .int .i64 k ∧ v5 = .bool (true) ∧ k ≤ l.length ∧ Hid (g = l.length - k) ∧ Hid (Below w.heap.size w wr))
  case atStart => exact ⟨0, rfl, by simp; try omega, by omega, Lib.hid (by simp), HB⟩
  case round =>
    clear HB
    obtain ⟨k, rfl, rfl, hk, HG, HB⟩ := hrel
    have HR1 := Lib.hid (Kd.C_below HR.out HB.out)
    by_cases hlt : k < l.length
    · have RV := Lib.hid (fun W => rValid_any (rd l k) true (HV.out k (by omega)) W)
      obtain ⟨ad, had, hcell⟩ := Kd.at_int HR1.out k (by omega) (by omega)
      simp only [Int.toNat_natCast] at hcell
      cases had
      go_wp2_with fail
      refine (RV.out _).mono ?_
      rintro e w2 ⟨rfl, hw2⟩
      go_wp2_with fail
      go_roundg (l.length - (k + 1))
      case measure => have := HG.out; omega
      case rel => exact ⟨k + 1, by go_num, rfl, by omega, Lib.hid rfl, Lib.hid (bel HB.out hw2)⟩
    · clear HG HR1
      go_wp2_with fail
      clear hlt hk
      obtain ⟨wo1, rfl⟩ : ∃ wo : World, wo = wr := ⟨_, rfl⟩
      obtain ⟨go1, rfl⟩ : ∃ g : Nat, g = gk := ⟨_, rfl⟩
      go_loopg [7] l.length (fun g v7 wr => ∃ i : Nat, v7 = .int .i64 i ∧ i ≤ l.length ∧ Hid (g = l.length - i) ∧ Hid (∀ j, j < i → ¬ best l j) ∧ Hid (Below w.heap.size w wr))
      case atStart => exact ⟨0, rfl, by omega, Lib.hid (by simp), Lib.hid (fun _ h => by omega), HB⟩
      case round =>
        clear HB
        obtain ⟨i, rfl, hi, HG, HN, HB⟩ := hrel
        obtain ⟨wo2, rfl⟩ : ∃ wo : World, wo = wr := ⟨_, rfl⟩
        obtain ⟨go2, rfl⟩ : ∃ g : Nat, g = gk := ⟨_, rfl⟩
        by_cases hlt : i < l.length
        · go_wp2_with fail
          go_loopg [8, 9] l.length (fun g v8 v9 wr => ∃ j : Nat, v9 = .int .i64 j ∧ v8 = .bool (okto l i j) ∧ j ≤ l.length ∧ Hid (g = l.length - j) ∧ Hid (Below w.heap.size w wr))
          case atStart => exact ⟨0, rfl, by simp [okto], by omega, Lib.hid (by simp), HB⟩
          case round =>
            obtain ⟨j, rfl, rfl, hj, HG3, HB3⟩ := hrel
            have HR3 := Lib.hid (Kd.C_below HR.out HB3.out)
            by_cases hlt3 : j < l.length
            · have ha := vB_lt (HV.out i (by omega))
              have hb := vB_lt (HV.out j (by omega))
              obtain ⟨ad, had, hcell⟩ := Kd.at_int HR3.out i (by omega) (by omega)
              obtain ⟨ad2, had2, hcell2⟩ := Kd.at_int HR3.out j (by omega) (by omega)
              simp only [Int.toNat_natCast] at hcell hcell2
              cases had
              cases had2
              have hs := okto_succ l i j
              have HHb : okB (rd l i) (rd l j) = (cmpF (rd l i) (rd l j) == 0 || cmpF (rd l i) (rd l j) == 2) := rfl
              rcases cmp4 (rd l i) (rd l j) with h | h | h | h
              · have C := Lib.hid (fun W => rCompare_dr (rd l i) (rd l j) 0 h ha hb W)
                rw [HHb, h] at hs
                by_cases hu : okto l i j = true
                · have hs2 : okto l i (j + 1) = true := by rw [hs, hu]; rfl
                  rw [hu]
                  have HS := Lib.hid hs2
                  clear hs HHb h hs2 hu
                  go_wp2_with fail
                  go_quiet ((go_at_call 25; exact Calls.quiet_of (C.out _)))
                  go_wp2_with fail
                  go_roundg (l.length - (j + 1))
                  case measure => have := HG3.out; omega
                  case rel => exact ⟨j + 1, by go_num, by rw [HS.out], by omega, Lib.hid rfl, Lib.hid (by first | exact HB3.out | exact beld HB3.out _)⟩
                · have hu' : okto l i j = false := by simpa using hu
                  have hs2 : okto l i (j + 1) = false := by rw [hs, hu']; rfl
                  rw [hu']
                  have HS := Lib.hid hs2
                  clear hs HHb h hs2 hu hu'
                  go_wp2_with fail
                  go_quiet ((go_at_call 25; exact Calls.quiet_of (C.out _)))
                  go_wp2_with fail
                  go_roundg (l.length - (j + 1))
                  case measure => have := HG3.out; omega
                  case rel => exact ⟨j + 1, by go_num, by rw [HS.out], by omega, Lib.hid rfl, Lib.hid (by first | exact HB3.out | exact beld HB3.out _)⟩
              · have C := Lib.hid (fun W => rCompare_dr (rd l i) (rd l j) 1 h ha hb W)
                rw [HHb, h] at hs
                by_cases hu : okto l i j = true
                · have hs2 : okto l i (j + 1) = false := by rw [hs, hu]; rfl
                  rw [hu]
                  have HS := Lib.hid hs2
                  clear hs HHb h hs2 hu
                  go_wp2_with fail
                  go_quiet ((go_at_call 25; exact Calls.quiet_of (C.out _)))
                  go_wp2_with fail
                  go_roundg (l.length - (j + 1))
                  case measure => have := HG3.out; omega
                  case rel => exact ⟨j + 1, by go_num, by rw [HS.out], by omega, Lib.hid rfl, Lib.hid (by first | exact HB3.out | exact beld HB3.out _)⟩
                · have hu' : okto l i j = false := by simpa using hu
                  have hs2 : okto l i (j + 1) = false := by rw [hs, hu']; rfl
                  rw [hu']
                  have HS := Lib.hid hs2
                  clear hs HHb h hs2 hu hu'
                  go_wp2_with fail
                  go_quiet ((go_at_call 25; exact Calls.quiet_of (C.out _)))
                  go_wp2_with fail
                  go_roundg (l.length - (j + 1))
                  case measure => have := HG3.out; omega
                  case rel => exact ⟨j + 1, by go_num, by rw [HS.out], by omega, Lib.hid rfl, Lib.hid (by first | exact HB3.out | exact beld HB3.out _)⟩
              · have C := Lib.hid (fun W => rCompare_dr (rd l i) (rd l j) 2 h ha hb W)
                rw [HHb, h] at hs
                by_cases hu : okto l i j = true
                · have hs2 : okto l i (j + 1) = true := by rw [hs, hu]; rfl
                  rw [hu]
                  have HS := Lib.hid hs2
                  clear hs HHb h hs2 hu
                  go_wp2_with fail
                  go_quiet ((go_at_call 25; exact Calls.quiet_of (C.out _)))
                  go_wp2_with fail
                  go_roundg (l.length - (j + 1))
                  case measure => have := HG3.out; omega
                  case rel => exact ⟨j + 1, by go_num, by rw [HS.out], by omega, Lib.hid rfl, Lib.hid (by first | exact HB3.out | exact beld HB3.out _)⟩
                · have hu' : okto l i j = false := by simpa using hu
                  have hs2 : okto l i (j + 1) = false := by rw [hs, hu']; rfl
                  rw [hu']
                  have HS := Lib.hid hs2
                  clear hs HHb h hs2 hu hu'
                  go_wp2_with fail
                  go_quiet ((go_at_call 25; exact Calls.quiet_of (C.out _)))
                  go_wp2_with fail
                  go_roundg (l.length - (j + 1))
                  case measure => have := HG3.out; omega
                  case rel => exact ⟨j + 1, by go_num, by rw [HS.out], by omega, Lib.hid rfl, Lib.hid (by first | exact HB3.out | exact beld HB3.out _)⟩
              · have C := Lib.hid (fun W => rCompare_dr (rd l i) (rd l j) 3 h ha hb W)
                rw [HHb, h] at hs
                by_cases hu : okto l i j = true
                · have hs2 : okto l i (j + 1) = false := by rw [hs, hu]; rfl
                  rw [hu]
                  have HS := Lib.hid hs2
                  clear hs HHb h hs2 hu
                  go_wp2_with fail
                  go_quiet ((go_at_call 25; exact Calls.quiet_of (C.out _)))
                  go_wp2_with fail
                  go_roundg (l.length - (j + 1))
                  case measure => have := HG3.out; omega
                  case rel => exact ⟨j + 1, by go_num, by rw [HS.out], by omega, Lib.hid rfl, Lib.hid (by first | exact HB3.out | exact beld HB3.out _)⟩
                · have hu' : okto l i j = false := by simpa using hu
                  have hs2 : okto l i (j + 1) = false := by rw [hs, hu']; rfl
                  rw [hu']
                  have HS := Lib.hid hs2
                  clear hs HHb h hs2 hu hu'
                  go_wp2_with fail
                  go_quiet ((go_at_call 25; exact Calls.quiet_of (C.out _)))
                  go_wp2_with fail
                  go_roundg (l.length - (j + 1))
                  case measure => have := HG3.out; omega
                  case rel => exact ⟨j + 1, by go_num, by rw [HS.out], by omega, Lib.hid rfl, Lib.hid (by first | exact HB3.out | exact beld HB3.out _)⟩
            · have hj2 : j = l.length := by have := HL.out; omega
              by_cases hb : best l i
              · have hu := (best_okto l i).1 hb
                rw [← hj2] at hu
                obtain ⟨rfl, rfl⟩ := tells_at HT.out (by omega) hb HN.out
                rw [hu]
                clear hu hj2 hb
                go_wp2_with fail
                refine (known_any _).mono ?_
                rintro e w5 ⟨rfl, hw5⟩
                have HB5 := Lib.hid (bel HB3.out hw5)
                clear hw5
                have HR5 := Lib.hid (Kd.C_below HR.out HB5.out)
                obtain ⟨ad, had, hcell⟩ := Kd.at_int HR5.out i (by omega) (by omega)
                simp only [Int.toNat_natCast] at hcell
                cases had
                go_wp2_with fail
                go_ret
                exact ⟨by simp, HB5.out⟩
              · have hu : okto l i j = false := by
                  rw [hj2]
                  have := (not_congr (best_okto l i)).1 hb
                  simpa using this
                rw [hu]
                have HN2 := Lib.hid (show ∀ q, q < i + 1 → ¬ best l q from fun q hq => by
                  by_cases he : q = i
                  · subst he; exact hb
                  · exact HN.out q (by omega))
                clear hu hj2 hb
                go_wp2_with fail
                go_roundg (l.length - (i + 1))
                case measure => have := HG.out; omega
                case rel => exact ⟨i + 1, by go_num, by omega, Lib.hid rfl, HN2, HB3⟩
        · obtain ⟨rfl, rfl⟩ := tells_none HT.out (fun q hq => HN.out q (by omega))
          go_wp2_with fail
          refine (known_any _).mono ?_
          rintro e w5 ⟨rfl, hw5⟩
          go_wp2_with fail
          go_ret
          exact ⟨rfl, bel HB.out hw5⟩

set_option maxHeartbeats 2000000 in
theorem no_m (A : Option Addr) (c : Nat) (l : List Int) (w : World) (n : Nat) (hr : Kd.C (Kd.int .i64) w A l.length l) (hc : n ≤ c) (hc2 : (c : Int) ≤ 9223372036854775807) (hn : 30 < (n : Int)) (hl30 : l.length = 30) (hv : allV l = false) :
    Calls Try.prog 9 #[.slice A n c] w fun e w' => e = .returned (.bool true) ∧ Below w.heap.size w w' := by
  have hl2 : l.length ≤ 30 := by omega
  have hcl : l.length ≤ c := by omega
  have NN := Lib.hid (show Calls Try.prog 27 #[.slice A 30 c] w _ from hl30 ▸ newest_no A c l w hr hcl hl2 hv)
  have h0 : 0 < l.length := by
    cases l with
    | nil => simp [allV] at hv
    | cons _ _ => simp
  have HR := Lib.hid hr
  have HV := Lib.hid hv
  clear hr hv
  rw [show l.length = 30 from hl30] at HR
  have HL := Lib.hid hl30
  have hl3 : 30 ≤ l.length := by omega
  clear hl30
  go_enter Try.func9, Try.ntmps9
  go_wp2_with fail
  refine NN.out.mono ?_
  rintro e w1 ⟨rfl, hw1⟩
  go_wp2_with fail
  have HB := Lib.hid hw1
  clear hw1
  go_loopg [5, 6] 30 (fun g v5 v6 wr => ∃ k : Nat, v6 = .int .i64 k ∧ v5 = .bool (upto l k) ∧ k ≤ 30 ∧ Hid (g = 30 - k) ∧ Hid (Below w.heap.size w wr))
  case atStart => exact ⟨0, rfl, by simp [upto]; try omega, by omega, Lib.hid (by simp), HB⟩
  case round =>
    clear HB
    obtain ⟨k, rfl, rfl, hk, HG, HB⟩ := hrel
    have HR1 := Lib.hid (Kd.C_below HR.out HB.out)
    by_cases hlt : k < 30
    · by_cases hu : upto l k = true
      · have hs := upto_succ l k
        rw [hu, Bool.true_and] at hs
        have HS := Lib.hid hs
        have RV := Lib.hid (fun W => rValid_any (rd l k) _ hs.symm W)
        clear hs
        obtain ⟨ad, had, hcell⟩ := Kd.at_int HR1.out k (by omega) (by omega)
        simp only [Int.toNat_natCast] at hcell
        cases had
        go_wp2_with fail
        refine (RV.out _).mono ?_
        rintro e w2 ⟨rfl, hw2⟩
        go_wp2_with fail
        go_roundg (30 - (k + 1))
        case measure => have := HG.out; omega
        case rel => exact ⟨k + 1, by go_num, rfl, by omega, Lib.hid rfl, Lib.hid (bel HB.out hw2)⟩
      · have hs := upto_succ l k
        have hu' : upto l k = false := by simpa using hu
        rw [hu', Bool.false_and] at hs
        have HS := Lib.hid hs
        clear hs hu
        go_wp2_with fail
        go_roundg (30 - (k + 1))
        case measure => have := HG.out; omega
        case rel => exact ⟨k + 1, by go_num, by rw [HS.out], by omega, Lib.hid rfl, HB⟩
    · have hu : upto l k = false := by
        have := HV.out
        unfold allV at this
        unfold upto
        have e : k = l.length := by have := HL.out; omega
        rw [e]; exact this
      go_wp2_with fail
      refine (known_any _).mono ?_
      rintro e w2 ⟨rfl, hw2⟩
      go_wp2_with fail
      go_ret
      exact ⟨rfl, bel HB.out hw2⟩

set_option maxHeartbeats 4000000 in
theorem yes_m (A : Option Addr) (c : Nat) (l : List Int) (w : World) (n : Nat) (hr : Kd.C (Kd.int .i64) w A l.length l) (hc : n ≤ c) (hc2 : (c : Int) ≤ 9223372036854775807) (hn : 30 < (n : Int)) (hl30 : l.length = 30) (hv : allV l = true) (h0 : 0 < l.length) :
    Calls Try.prog 9 #[.slice A n c] w fun e w' => e = .returned (.bool true) ∧ Below w.heap.size w w' := by
  have hl2 : l.length ≤ 30 := by omega
  have hcl : l.length ≤ c := by omega
  have hvv : ∀ j, j < l.length → vB (rd l j) = true := by unfold allV at hv; rwa [decide_eq_true_eq] at hv
  have hm : ∀ x ∈ l, 0 ≤ x ∧ x ≤ 255 := by
    intro x hx
    obtain ⟨j, hj, rfl⟩ := List.getElem_of_mem hx
    have := vB_lt (hvv j hj)
    simpa [rd, hj] using this
  have NN := Lib.hid (show Calls Try.prog 27 #[.slice A 30 c] w _ from hl30 ▸ newest A c l w hr hcl hm h0 hl2 (Valid_slice A c l true hv w hr hcl hl2))
  have HR := Lib.hid hr
  have HV := Lib.hid hvv
  clear hr hv hvv hm
  rw [show l.length = 30 from hl30] at HR
  have HL := Lib.hid hl30
  have hl3 : 30 ≤ l.length := by omega
  clear hl30
  go_enter Try.func9, Try.ntmps9
  go_wp2_with fail
  refine NN.out.mono ?_
  rintro e w1 ⟨r, e0, rfl, htell, hw1⟩
  have HT := Lib.hid htell
  clear htell NN
  go_wp2_with fail
  have HB := Lib.hid hw1
  clear hw1
  go_loopg [5, 6] 30 (fun g v5 v6 wr => ∃ k : Nat, v6 = .int .i64 k ∧ v5 = .bool (true) ∧ k ≤ 30 ∧ Hid (g = 30 - k) ∧ Hid (Below w.heap.size w wr))
  case atStart => exact ⟨0, rfl, by simp; try omega, by omega, Lib.hid (by simp), HB⟩
  case round =>
    clear HB
    obtain ⟨k, rfl, rfl, hk, HG, HB⟩ := hrel
    have HR1 := Lib.hid (Kd.C_below HR.out HB.out)
    by_cases hlt : k < 30
    · have RV := Lib.hid (fun W => rValid_any (rd l k) true (HV.out k (by omega)) W)
      obtain ⟨ad, had, hcell⟩ := Kd.at_int HR1.out k (by omega) (by omega)
      simp only [Int.toNat_natCast] at hcell
      cases had
      go_wp2_with fail
      refine (RV.out _).mono ?_
      rintro e w2 ⟨rfl, hw2⟩
      go_wp2_with fail
      go_roundg (30 - (k + 1))
      case measure => have := HG.out; omega
      case rel => exact ⟨k + 1, by go_num, rfl, by omega, Lib.hid rfl, Lib.hid (bel HB.out hw2)⟩
    · clear HG HR1
      go_wp2_with fail
      clear hlt hk
      obtain ⟨wo1, rfl⟩ : ∃ wo : World, wo = wr := ⟨_, rfl⟩
      obtain ⟨go1, rfl⟩ : ∃ g : Nat, g = gk := ⟨_, rfl⟩
      go_loopg [7] 30 (fun g v7 wr => ∃ i : Nat, v7 = .int .i64 i ∧ i ≤ 30 ∧ Hid (g = 30 - i) ∧ Hid (∀ j, j < i → ¬ best l j) ∧ Hid (Below w.heap.size w wr))
      case atStart => exact ⟨0, rfl, by omega, Lib.hid (by simp), Lib.hid (fun _ h => by omega), HB⟩
      case round =>
        clear HB
        obtain ⟨i, rfl, hi, HG, HN, HB⟩ := hrel
        obtain ⟨wo2, rfl⟩ : ∃ wo : World, wo = wr := ⟨_, rfl⟩
        obtain ⟨go2, rfl⟩ : ∃ g : Nat, g = gk := ⟨_, rfl⟩
        by_cases hlt : i < 30
        · go_wp2_with fail
          go_loopg [8, 9] 30 (fun g v8 v9 wr => ∃ j : Nat, v9 = .int .i64 j ∧ v8 = .bool (okto l i j) ∧ j ≤ 30 ∧ Hid (g = 30 - j) ∧ Hid (Below w.heap.size w wr))
          case atStart => exact ⟨0, rfl, by simp [okto], by omega, Lib.hid (by simp), HB⟩
          case round =>
            obtain ⟨j, rfl, rfl, hj, HG3, HB3⟩ := hrel
            have HR3 := Lib.hid (Kd.C_below HR.out HB3.out)
            by_cases hlt3 : j < 30
            · have ha := vB_lt (HV.out i (by omega))
              have hb := vB_lt (HV.out j (by omega))
              obtain ⟨ad, had, hcell⟩ := Kd.at_int HR3.out i (by omega) (by omega)
              obtain ⟨ad2, had2, hcell2⟩ := Kd.at_int HR3.out j (by omega) (by omega)
              simp only [Int.toNat_natCast] at hcell hcell2
              cases had
              cases had2
              have hs := okto_succ l i j
              have HHb : okB (rd l i) (rd l j) = (cmpF (rd l i) (rd l j) == 0 || cmpF (rd l i) (rd l j) == 2) := rfl
              rcases cmp4 (rd l i) (rd l j) with h | h | h | h
              · have C := Lib.hid (fun W => rCompare_dr (rd l i) (rd l j) 0 h ha hb W)
                rw [HHb, h] at hs
                by_cases hu : okto l i j = true
                · have hs2 : okto l i (j + 1) = true := by rw [hs, hu]; rfl
                  rw [hu]
                  have HS := Lib.hid hs2
                  clear hs HHb h hs2 hu
                  go_wp2_with fail
                  go_quiet ((go_at_call 25; exact Calls.quiet_of (C.out _)))
                  go_wp2_with fail
                  go_roundg (30 - (j + 1))
                  case measure => have := HG3.out; omega
                  case rel => exact ⟨j + 1, by go_num, by rw [HS.out], by omega, Lib.hid rfl, Lib.hid (by first | exact HB3.out | exact beld HB3.out _)⟩
                · have hu' : okto l i j = false := by simpa using hu
                  have hs2 : okto l i (j + 1) = false := by rw [hs, hu']; rfl
                  rw [hu']
                  have HS := Lib.hid hs2
                  clear hs HHb h hs2 hu hu'
                  go_wp2_with fail
                  go_quiet ((go_at_call 25; exact Calls.quiet_of (C.out _)))
                  go_wp2_with fail
                  go_roundg (30 - (j + 1))
                  case measure => have := HG3.out; omega
                  case rel => exact ⟨j + 1, by go_num, by rw [HS.out], by omega, Lib.hid rfl, Lib.hid (by first | exact HB3.out | exact beld HB3.out _)⟩
              · have C := Lib.hid (fun W => rCompare_dr (rd l i) (rd l j) 1 h ha hb W)
                rw [HHb, h] at hs
                by_cases hu : okto l i j = true
                · have hs2 : okto l i (j + 1) = false := by rw [hs, hu]; rfl
                  rw [hu]
                  have HS := Lib.hid hs2
                  clear hs HHb h hs2 hu
                  go_wp2_with fail
                  go_quiet ((go_at_call 25; exact Calls.quiet_of (C.out _)))
                  go_wp2_with fail
                  go_roundg (30 - (j + 1))
                  case measure => have := HG3.out; omega
                  case rel => exact ⟨j + 1, by go_num, by rw [HS.out], by omega, Lib.hid rfl, Lib.hid (by first | exact HB3.out | exact beld HB3.out _)⟩
                · have hu' : okto l i j = false := by simpa using hu
                  have hs2 : okto l i (j + 1) = false := by rw [hs, hu']; rfl
                  rw [hu']
                  have HS := Lib.hid hs2
                  clear hs HHb h hs2 hu hu'
                  go_wp2_with fail
                  go_quiet ((go_at_call 25; exact Calls.quiet_of (C.out _)))
                  go_wp2_with fail
                  go_roundg (30 - (j + 1))
                  case measure => have := HG3.out; omega
                  case rel => exact ⟨j + 1, by go_num, by rw [HS.out], by omega, Lib.hid rfl, Lib.hid (by first | exact HB3.out | exact beld HB3.out _)⟩
              · have C := Lib.hid (fun W => rCompare_dr (rd l i) (rd l j) 2 h ha hb W)
                rw [HHb, h] at hs
                by_cases hu : okto l i j = true
                · have hs2 : okto l i (j + 1) = true := by rw [hs, hu]; rfl
                  rw [hu]
                  have HS := Lib.hid hs2
                  clear hs HHb h hs2 hu
                  go_wp2_with fail
                  go_quiet ((go_at_call 25; exact Calls.quiet_of (C.out _)))
                  go_wp2_with fail
                  go_roundg (30 - (j + 1))
                  case measure => have := HG3.out; omega
                  case rel => exact ⟨j + 1, by go_num, by rw [HS.out], by omega, Lib.hid rfl, Lib.hid (by first | exact HB3.out | exact beld HB3.out _)⟩
                · have hu' : okto l i j = false := by simpa using hu
                  have hs2 : okto l i (j + 1) = false := by rw [hs, hu']; rfl
                  rw [hu']
                  have HS := Lib.hid hs2
                  clear hs HHb h hs2 hu hu'
                  go_wp2_with fail
                  go_quiet ((go_at_call 25; exact Calls.quiet_of (C.out _)))
                  go_wp2_with fail
                  go_roundg (30 - (j + 1))
                  case measure => have := HG3.out; omega
                  case rel => exact ⟨j + 1, by go_num, by rw [HS.out], by omega, Lib.hid rfl, Lib.hid (by first | exact HB3.out | exact beld HB3.out _)⟩
              · have C := Lib.hid (fun W => rCompare_dr (rd l i) (rd l j) 3 h ha hb W)
                rw [HHb, h] at hs
                by_cases hu : okto l i j = true
                · have hs2 : okto l i (j + 1) = false := by rw [hs, hu]; rfl
                  rw [hu]
                  have HS := Lib.hid hs2
                  clear hs HHb h hs2 hu
                  go_wp2_with fail
                  go_quiet ((go_at_call 25; exact Calls.quiet_of (C.out _)))
                  go_wp2_with fail
                  go_roundg (30 - (j + 1))
                  case measure => have := HG3.out; omega
                  case rel => exact ⟨j + 1, by go_num, by rw [HS.out], by omega, Lib.hid rfl, Lib.hid (by first | exact HB3.out | exact beld HB3.out _)⟩
                · have hu' : okto l i j = false := by simpa using hu
                  have hs2 : okto l i (j + 1) = false := by rw [hs, hu']; rfl
                  rw [hu']
                  have HS := Lib.hid hs2
                  clear hs HHb h hs2 hu hu'
                  go_wp2_with fail
                  go_quiet ((go_at_call 25; exact Calls.quiet_of (C.out _)))
                  go_wp2_with fail
                  go_roundg (30 - (j + 1))
                  case measure => have := HG3.out; omega
                  case rel => exact ⟨j + 1, by go_num, by rw [HS.out], by omega, Lib.hid rfl, Lib.hid (by first | exact HB3.out | exact beld HB3.out _)⟩
            · have hj2 : j = l.length := by have := HL.out; omega
              by_cases hb : best l i
              · have hu := (best_okto l i).1 hb
                rw [← hj2] at hu
                obtain ⟨rfl, rfl⟩ := tells_at HT.out (by omega) hb HN.out
                rw [hu]
                clear hu hj2 hb
                go_wp2_with fail
                refine (known_any _).mono ?_
                rintro e w5 ⟨rfl, hw5⟩
                have HB5 := Lib.hid (bel HB3.out hw5)
                clear hw5
                have HR5 := Lib.hid (Kd.C_below HR.out HB5.out)
                obtain ⟨ad, had, hcell⟩ := Kd.at_int HR5.out i (by omega) (by omega)
                simp only [Int.toNat_natCast] at hcell
                cases had
                go_wp2_with fail
                go_ret
                exact ⟨by simp, HB5.out⟩
              · have hu : okto l i j = false := by
                  rw [hj2]
                  have := (not_congr (best_okto l i)).1 hb
                  simpa using this
                rw [hu]
                have HN2 := Lib.hid (show ∀ q, q < i + 1 → ¬ best l q from fun q hq => by
                  by_cases he : q = i
                  · subst he; exact hb
                  · exact HN.out q (by omega))
                clear hu hj2 hb
                go_wp2_with fail
                go_roundg (30 - (i + 1))
                case measure => have := HG.out; omega
                case rel => exact ⟨i + 1, by go_num, by omega, Lib.hid rfl, HN2, HB3⟩
        · obtain ⟨rfl, rfl⟩ := tells_none HT.out (fun q hq => HN.out q (by omega))
          go_wp2_with fail
          refine (known_any _).mono ?_
          rintro e w5 ⟨rfl, hw5⟩
          go_wp2_with fail
          go_ret
          exact ⟨rfl, bel HB.out hw5⟩

theorem nil_ (A : Option Addr) (c : Nat) (w : World) :
    Calls Try.prog 9 #[.slice A 0 c] w fun e w' => e = .returned (.bool true) ∧ Below w.heap.size w w' := by
  have NN := Lib.hid (newest_nil A c w)
  go_enter Try.func9, Try.ntmps9
  go_wp2_with fail
  refine NN.out.mono ?_
  rintro e w1 ⟨rfl, hw1⟩
  go_wp2_with fail
  go_loopg [5, 6] 0 (fun g v5 v6 wr => v6 = .int .i64 0 ∧ v5 = .bool false ∧ Hid (Below w.heap.size w wr))
  case atStart => exact ⟨rfl, rfl, Lib.hid hw1⟩
  case round =>
    clear hw1
    obtain ⟨rfl, rfl, HB⟩ := hrel
    go_wp2_with fail
    refine (known_any _).mono ?_
    rintro e w2 ⟨rfl, hw2⟩
    go_wp2_with fail
    go_ret
    exact ⟨rfl, bel HB.out hw2⟩

theorem reads_take {w : World} {A : Option Addr} {l : List Int} (m : Nat) (hm : m ≤ l.length) (h : ReadsInt w .i64 A l.length l) : ReadsInt w .i64 A m (l.take m) := by
  obtain ⟨h1, h2, h3⟩ := h
  refine ⟨by simp; omega, by omega, fun h0 => ?_⟩
  obtain ⟨ad, had, hc⟩ := h3 (by omega)
  refine ⟨ad, had, fun j hj => ?_⟩
  rw [hc j (by omega)]
  simp [hj, List.getElem?_take]
theorem walk (a : Option Addr) (len cap : Nat) (z : List Int) (w : World)
    (hw : (a = none ∧ len = 0 ∧ cap = 0 ∧ z = []) ∨ ∃ x, a = some x ∧ len ≤ cap ∧ cap ≤ maxLen ∧ z.length = cap ∧ (∀ i, i < z.length → w.cell? (x.add i) = some (.int .i64 (z.getD i 0))) ∧ ∀ n ∈ z, (Lit.int .i64 n).wf = true)
    (_ : len * 8 ≤ 140737488351232) :
    Calls Try.prog 9 #[.slice a len cap] w fun e w' => e = .returned (.bool true) ∧ Below w.heap.size w w' := by
  have hcap : (cap : Int) ≤ 9223372036854775807 := by
    rcases hw with ⟨_, _, rfl, _⟩ | ⟨x, _, _, h, _⟩
    · decide
    · unfold maxLen at h; omega
  obtain ⟨l, rfl, hr, hm, _, hc⟩ := ReadsInt.ofRowC hw
  clear hw hm
  by_cases h0 : l.length = 0
  · rw [h0]; exact nil_ a cap w
  · by_cases h30 : l.length ≤ 30
    · have hC := Kd.C_of_reads (d := (0 : Int)) (h1 := fun _ => rfl) hr
      cases hv : allV l with
      | false => exact no_s a cap l w hC hc hcap (by omega) hv
      | true => exact yes_s a cap l w hC hc hcap (by omega) hv (by omega)
    · have hr2 := reads_take 30 (by omega) hr
      have hl : (l.take 30).length = 30 := by simp; omega
      have hC : Kd.C (Kd.int .i64) w a (l.take 30).length (l.take 30) := Kd.C_of_reads (d := (0 : Int)) (h1 := fun _ => rfl) (by rw [hl]; exact hr2)
      cases hv : allV (l.take 30) with
      | false => exact no_m a cap (l.take 30) w l.length hC hc hcap (by omega) hl hv
      | true => exact yes_m a cap (l.take 30) w l.length hC hc hcap (by omega) hl hv (by omega)

end Go.Proofs.Ythdacjnghnnmnaa.LolliNewest
