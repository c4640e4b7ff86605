/- The first one of the least step among any ranks, or what is wrong, is the document's: the law's walk, for lists of up to thirty as the law cuts them. No condition. -/
import Derived.Test.YthdacjnghnnmnaaPRankBestx2
import Derived.Deep.LoopGhost
import Derived.Deep.QuietTactic
import Derived.BigQuiet
import Derived.Lib.Hide
set_option linter.unusedVariables false
set_option linter.unusedSimpArgs false
namespace Go.Proofs.Ythdacjnghnnmnaa.RankBest
open Go.RowKit Go.Proofs.YthdacjnghnnmnaaW.PrintWords Go.Proofs.Ythdacjnghnnmnaa.PRankBest
theorem bel {W w w' : World} (h : Below W.heap.size W w) (h' : Below w.heap.size w w') : Below W.heap.size W w' := h.trans (h'.mono h.size)
theorem beld {W w : World} (h : Below W.heap.size W w) (m : Nat) : Below W.heap.size W (w.drewN m) := h.trans ((Drawn0.mk ⟨m, rfl⟩ : Drawn0 w (w.drewN m)).below.mono h.size)
def vR (a : Int) : Bool := decide (0 ≤ a ∧ a ≤ 65535)
def allV (l : List Int) : Bool := decide (∀ j, j < l.length → vR (rd l j) = true)
def lstB (n : Int) : Bool := decide (1 ≤ n ∧ n ≤ 65535)
/-- The first one of the least step among the first k; below 0: there is none. -/
def scan (l : List Int) (least : Int) : Nat → Int
  | 0 => -1
  | k + 1 => if rd l k = 65535 then scan l least k else if 0 ≤ scan l least k ∧ rd l (scan l least k) / least ≤ rd l k / least then scan l least k else k
theorem scan_range (l : List Int) (least : Int) : ∀ k, scan l least k = -1 ∨ (0 ≤ scan l least k ∧ scan l least k < k)
  | 0 => .inl rfl
  | k + 1 => by
    have ih := scan_range l least k
    unfold scan
    split
    · omega
    · split <;> omega
theorem valid_l0 (l : List Int) (hl : l.length ≤ 30) : ∀ (d k : Nat) (i : Int), 0 ≤ i → i ≤ l.length → (l.length : Int) - i = d → d < k →
    ∃ r, rank_Valid.l0 k l (l.length : Int) i = some r ∧ (r = true ↔ ∀ j : Nat, i ≤ j → j < l.length → vR (rd l j) = true) := by
  intro d
  induction d with
  | zero =>
    intro k i h0 h1 hd hk
    obtain ⟨k, rfl⟩ : ∃ m, k = m + 1 := ⟨k - 1, by omega⟩
    refine ⟨true, ?_, by simp; intro j h2 h3; omega⟩
    simp only [rank_Valid.l0]; rw [if_neg (by omega)]
  | succ d ih =>
    intro k i h0 h1 hd hk
    obtain ⟨k, rfl⟩ : ∃ m, k = m + 1 := ⟨k - 1, by omega⟩
    obtain ⟨n, rfl⟩ := Int.eq_ofNat_of_zero_le h0
    have hw : wrap64 ((n : Int) + 1) = n + 1 := by unfold wrap64; omega
    by_cases hv : vR (rd l n) = true
    · obtain ⟨r, hr, hr2⟩ := ih k (n + 1) (by omega) (by omega) (by omega) (by omega)
      refine ⟨r, ?_, ?_⟩
      · have hv' := hv
        unfold vR at hv'; rw [decide_eq_true_eq] at hv'
        simp only [rank_Valid.l0]; rw [if_pos (by omega), if_pos (by omega), if_pos (by omega), if_neg (by omega), if_neg (by omega), hw]; exact hr
      · rw [hr2]
        constructor
        · intro h j h2 h3
          by_cases he : j = n
          · subst he; exact hv
          · exact h j (by omega) h3
        · intro h j h2 h3; exact h j (by omega) h3
    · refine ⟨false, ?_, ?_⟩
      · have hv' := hv
        unfold vR at hv'; rw [decide_eq_true_eq] at hv'
        simp only [rank_Valid.l0]; rw [if_pos (by omega), if_pos (by omega), if_pos (by omega)]
        by_cases h5 : rd l n < 0
        · rw [if_pos h5]
        · rw [if_neg h5, if_pos (by omega)]
      · constructor
        · intro h; cases h
        · intro h; exact absurd (h n (by omega) (by omega)) hv
theorem valid_f (l : List Int) (hl : l.length ≤ 30) : rank_Valid.f 80 l = some (allV l) := by
  obtain ⟨r', h1, h2⟩ := valid_l0 l hl l.length 80 0 (by omega) (by omega) (by omega) (by omega)
  have h3 : r' = allV l := by
    rw [Bool.eq_iff_iff, h2]
    unfold allV
    rw [decide_eq_true_eq]
    exact ⟨fun h j hj => h j (by omega) hj, fun h j _ hj => h j hj⟩
  unfold rank_Valid.f; rw [h1, h3]
theorem valid1_f (a : Int) : rank_Valid.f 80 [a] = some (vR a) := by
  rw [valid_f [a] (by simp)]
  unfold allV
  congr 1
  rw [Bool.eq_iff_iff, decide_eq_true_eq]
  constructor
  · intro h; exact h 0 (by simp)
  · intro h j hj
    have : j = 0 := by simp at hj; omega
    subst this; exact h
theorem may_f (n : Int) (l : List Int) (hl : l.length ≤ 30) : rank_may.f 80 n l = some (lstB n && allV l) := by
  unfold rank_may.f
  rw [valid1_f, valid_f l hl]
  unfold lstB vR
  by_cases h : n > 0
  · by_cases h2 : n ≤ 65535
    · have h1 : 1 ≤ n := by omega
      have h3 : 0 ≤ n := by omega
      simp [h, h1, h2, h3]
    · simp [h, h2]
  · have h1 : ¬ 1 ≤ n := by omega
    simp [h, h1]
theorem least_f (n : Int) : rivuletref12_Least.f n = some (lstB n) := by
  unfold rivuletref12_Least.f lstB; by_cases h : n ≥ 1 <;> simp [h] <;> omega
theorem refv_f (a : Int) : rivuletref12_Valid.f a = some (vR a) := by
  unfold rivuletref12_Valid.f vR; by_cases h : a ≥ 0 <;> simp [h] <;> omega
theorem step_f (a l : Int) (ha : 0 ≤ a ∧ a ≤ 65535) (hl : 1 ≤ l ∧ l ≤ 65535) : rivuletref12_Step.f a l = some (a / l) := by
  unfold rivuletref12_Step.f
  have h0 : ¬ l = 0 := by omega
  rw [if_neg h0]
  have h2 : Int.tmod a l = a % l := Int.tmod_eq_emod_of_nonneg ha.1
  have h3 : 0 ≤ a / l := Int.ediv_nonneg ha.1 (by omega)
  have h4 : a / l ≤ a := Int.ediv_le_self l ha.1
  have h5 : 0 ≤ a % l := Int.emod_nonneg a (by omega)
  have h6 : l * (a / l) + a % l = a := Int.mul_ediv_add_emod a l
  have h7 : 0 ≤ l * (a / l) := Int.mul_nonneg (by omega) h3
  have h8 : wrap64 (a - a % l) = a - a % l := by unfold wrap64; omega
  have h9 : a - a % l = l * (a / l) := by omega
  have h10 : (l * (a / l)).tdiv l = a / l := Int.mul_tdiv_cancel_left _ (by omega)
  rw [h2, h8, h9, h10]
  congr 1
  unfold wrap64; omega
theorem quo_eq (a l : Int) (ha : 0 ≤ a ∧ a ≤ 65535) (hl : 1 ≤ l ∧ l ≤ 65535) : wrap64 (Int.tdiv a l) = a / l ∧ 0 ≤ a / l ∧ a / l ≤ 65535 := by
  have h1 : Int.tdiv a l = a / l := by rw [Int.tdiv_eq_ediv_of_nonneg ha.1]
  have h3 : 0 ≤ a / l := Int.ediv_nonneg ha.1 (by omega)
  have h4 : a / l ≤ a := Int.ediv_le_self l ha.1
  rw [h1]
  exact ⟨by unfold wrap64; omega, h3, by omega⟩
theorem vR_of {l : List Int} (h : allV l = true) {i : Int} (h0 : 0 ≤ i) (h1 : i < l.length) : 0 ≤ rd l i ∧ rd l i ≤ 65535 := by
  unfold allV at h; rw [decide_eq_true_eq] at h
  obtain ⟨n, rfl⟩ := Int.eq_ofNat_of_zero_le h0
  have := h n (by omega)
  unfold vR at this; rwa [decide_eq_true_eq] at this
theorem best_l1 (l : List Int) (n : Int) (hl : l.length ≤ 30) (hn : 1 ≤ n ∧ n ≤ 65535) (hv : allV l = true) : ∀ (d k i : Nat), i ≤ l.length → l.length - i = d → d < k →
    rivuletref12_Best.l1 k n l (if scan l n i < 0 then 65536 else rd l (scan l n i) / n) (scan l n i) i = some (if scan l n l.length < 0 then (0, 8) else (scan l n l.length, 0)) := by
  intro d
  induction d with
  | zero =>
    intro k i h1 hd hk
    obtain ⟨k, rfl⟩ : ∃ m, k = m + 1 := ⟨k - 1, by omega⟩
    obtain rfl : i = l.length := by omega
    simp only [rivuletref12_Best.l1]
    rw [if_neg (by omega)]
    split <;> rfl
  | succ d ih =>
    intro k i h1 hd hk
    obtain ⟨k, rfl⟩ : ∃ m, k = m + 1 := ⟨k - 1, by omega⟩
    have hw : wrap64 ((i : Int) + 1) = ((i + 1 : Nat) : Int) := by unfold wrap64; omega
    have hlt : (i : Int) < l.length := by omega
    have hx := vR_of hv (i := i) (by omega) hlt
    have hq := quo_eq (rd l i) n hx hn
    have hih := ih k (i + 1) (by omega) (by omega) (by omega)
    have hr := scan_range l n i
    simp only [rivuletref12_Best.l1]
    rw [if_pos hlt, if_pos (by omega), hw]
    by_cases h5 : rd l i = 65535
    · rw [if_pos h5]
      have : scan l n (i + 1) = scan l n i := by show (if _ then _ else _) = _; rw [if_pos h5]
      rw [this] at hih
      exact hih
    · rw [if_neg h5, step_f _ _ hx hn]
      simp only [Option.bind_some]
      by_cases h6 : 0 ≤ scan l n i ∧ rd l (scan l n i) / n ≤ rd l i / n
      · have : scan l n (i + 1) = scan l n i := by show (if _ then _ else (if _ then _ else _)) = _; rw [if_neg h5, if_pos h6]
        rw [this] at hih
        rw [if_neg (show ¬ scan l n i < 0 by omega)] at hih ⊢
        rw [if_neg (by omega)]
        exact hih
      · have : scan l n (i + 1) = i := by show (if _ then _ else (if _ then _ else _)) = _; rw [if_neg h5, if_neg h6]
        rw [this] at hih
        rw [if_neg (show ¬ (i : Int) < 0 by omega)] at hih
        rw [if_pos (show rd l i / n < if scan l n i < 0 then 65536 else rd l (scan l n i) / n by split <;> omega)]
        exact hih
theorem best_l0 (l : List Int) (n : Int) (hl : l.length ≤ 30) (x6 x7 : Int) : ∀ (d k i : Nat), i ≤ l.length → l.length - i = d → d + 31 < k → (∀ j, j < i → vR (rd l j) = true) →
    rivuletref12_Best.l0 k n l x6 x7 i = if allV l = true then rivuletref12_Best.l1 (k - d - 1) n l x6 x7 0 else some (0, 1) := by
  intro d
  induction d with
  | zero =>
    intro k i h1 hd hk hj
    obtain ⟨k, rfl⟩ : ∃ m, k = m + 1 := ⟨k - 1, by omega⟩
    obtain rfl : i = l.length := by omega
    have : allV l = true := by unfold allV; rw [decide_eq_true_eq]; exact hj
    rw [if_pos this]
    simp only [rivuletref12_Best.l0]
    rw [if_neg (by omega)]
    rfl
  | succ d ih =>
    intro k i h1 hd hk hj
    obtain ⟨k, rfl⟩ : ∃ m, k = m + 1 := ⟨k - 1, by omega⟩
    have hw : wrap64 ((i : Int) + 1) = ((i + 1 : Nat) : Int) := by unfold wrap64; omega
    simp only [rivuletref12_Best.l0]
    rw [if_pos (by omega), if_pos (by omega), refv_f, hw]
    simp only [Option.bind_some]
    by_cases hv : vR (rd l i) = true
    · rw [if_pos hv, ih k (i + 1) (by omega) (by omega) (by omega) (fun j h => by
        by_cases he : j = i
        · subst he; exact hv
        · exact hj j (by omega))]
      have : k + 1 - (d + 1) - 1 = k - d - 1 := by omega
      rw [this]
    · rw [if_neg hv, if_neg]
      intro h
      unfold allV at h; rw [decide_eq_true_eq] at h
      exact hv (h i (by omega))
/-- What both tell. -/
def bestV (n : Int) (l : List Int) : Int × Int := if (lstB n && allV l) = true then (if scan l n l.length < 0 then (0, 8) else (scan l n l.length, 0)) else (0, 1)
theorem refbest_f (n : Int) (l : List Int) (hl : l.length ≤ 30) : rivuletref12_Best.f 80 n l = some (bestV n l) := by
  unfold rivuletref12_Best.f bestV
  rw [least_f]
  simp only [Option.bind_some]
  cases h : lstB n with
  | false => simp
  | true =>
    have hn := h
    unfold lstB at hn; rw [decide_eq_true_eq] at hn
    have := best_l0 l n hl 65536 (-1) l.length 80 0 (by omega) (by omega) (by omega) (fun j h => by omega)
    simp only [Int.natCast_zero] at this
    rw [if_pos rfl, this]
    cases hv : allV l with
    | false => simp
    | true =>
      have h1 := best_l1 l n hl hn hv l.length (80 - l.length - 1) 0 (by omega) (by omega) (by omega)
      have h2 : scan l n 0 = -1 := rfl
      rw [h2] at h1
      simp only [if_pos (show (-1 : Int) < 0 by decide), Int.natCast_zero] at h1
      simp [h1]
theorem best_no (n : Int) (A : Option Addr) (c : Nat) (l : List Int) (w : World) (hr : Kd.C (Kd.int .i64) w A l.length l) (hc : l.length ≤ c) (hl : l.length ≤ 30) (hv : (lstB n && allV l) = false) :
    Calls Try.prog 39 #[.int .i64 n, .slice A l.length c] w fun e w' => e = .returned (.tuple #[.int .i64 0, .int .i64 1]) ∧ Below w.heap.size w w' := by
  have V := Lib.hid (rank_may.calls 80 n A c l false w hr hc (by rw [may_f n l hl, hv]))
  clear hr hv
  go_enter Try.func39, Try.ntmps39
  go_wp2_with fail
  go_step3
  go_wp2_with fail
  refine V.out.mono ?_
  rintro e w1 ⟨rfl, hw1⟩
  go_wp2_with fail
  try rw [Exit.noGoto_ret]
  go_ret2
  exact ⟨rfl, hw1⟩
def BestSays (n : Int) (l : List Int) (w : World) (e : Ending) (w' : World) : Prop := e = .returned (.tuple #[.int .i64 (if scan l n l.length < 0 then 0 else scan l n l.length), .int .i64 (if scan l n l.length < 0 then 8 else 0)]) ∧ Below w.heap.size w w'
theorem scan_inf (l : List Int) (n : Int) (k : Nat) (h : rd l k = 65535) : scan l n (k + 1) = scan l n k := by show (if _ then _ else _) = _; rw [if_pos h]
theorem scan_keep (l : List Int) (n : Int) (k : Nat) (h : ¬ rd l k = 65535) (h2 : 0 ≤ scan l n k ∧ rd l (scan l n k) / n ≤ rd l k / n) : scan l n (k + 1) = scan l n k := by show (if _ then _ else (if _ then _ else _)) = _; rw [if_neg h, if_pos h2]
theorem scan_take (l : List Int) (n : Int) (k : Nat) (h : ¬ rd l k = 65535) (h2 : ¬ (0 ≤ scan l n k ∧ rd l (scan l n k) / n ≤ rd l k / n)) : scan l n (k + 1) = k := by show (if _ then _ else (if _ then _ else _)) = _; rw [if_neg h, if_neg h2]
set_option maxHeartbeats 1000000 in
theorem best_ok (n : Int) (A : Option Addr) (c : Nat) (l : List Int) (w : World) (hr : Kd.C (Kd.int .i64) w A l.length l) (hc : l.length ≤ c) (hl : l.length ≤ 30) (hn : 1 ≤ n ∧ n ≤ 65535) (hv : allV l = true) :
    Calls Try.prog 39 #[.int .i64 n, .slice A l.length c] w (BestSays n l w) := by
  have V := Lib.hid (rank_may.calls 80 n A c l true w hr hc (by rw [may_f n l hl, hv]; unfold lstB; simp [hn]))
  have HR := Lib.hid hr
  have HV := Lib.hid (fun (i : Int) h0 h1 => vR_of hv (i := i) h0 h1)
  have HN := Lib.hid hn
  obtain ⟨hn1, hn2⟩ := hn
  have hn0 : ¬ n = 0 := by omega
  clear hr hv
  go_enter Try.func39, Try.ntmps39
  go_wp2_with fail
  go_step3
  go_wp2_with fail
  refine V.out.mono ?_
  rintro e w1 ⟨rfl, hw1⟩
  go_wp2_with fail
  go_step3
  go_wp2_with fail
  have HB := Lib.hid hw1
  clear hw1
  go_loopg [6, 15] l.length (fun g v6 v15 wr => ∃ k : Nat, v15 = .int .i64 k ∧ v6 = .int .i64 (scan l n k) ∧ k ≤ l.length ∧ Hid (g = l.length - k) ∧ Hid (Below w.heap.size w wr))
  case atStart => exact ⟨0, rfl, rfl, by omega, Lib.hid (by simp), HB⟩
  case round =>
    clear HB
    obtain ⟨k, rfl, rfl, hk, HG, HB⟩ := hrel
    have HR1 := Lib.hid (Kd.C_below HR.out HB.out)
    have hsr := scan_range l n k
    by_cases hlt : k < l.length
    · obtain ⟨ad, had, hcell⟩ := Kd.at_int HR1.out k (by omega) (by omega)
      simp only [Int.toNat_natCast] at hcell
      cases had
      have hx := HV.out k (by omega) (by omega)
      have HSI := Lib.hid (scan_inf l n k)
      have HSK := Lib.hid (scan_keep l n k)
      have HST := Lib.hid (scan_take l n k)
      by_cases h5 : rd l k = 65535
      · have HS := Lib.hid (HSI.out h5)
        have h5' : (rd l k == 65535) = true := by simpa using h5
        clear h5
        go_wp2_with fail
        go_roundg (l.length - (k + 1))
        case measure => have := HG.out; omega
        case rel => exact ⟨k + 1, by go_num, by rw [HS.out], by omega, Lib.hid rfl, HB⟩
      · have h5' : (rd l k == 65535) = false := by simpa using h5
        have H5 := Lib.hid h5
        clear h5
        by_cases hs : 0 ≤ scan l n k
        · obtain ⟨ad2, had2, hcell2⟩ := Kd.at_int HR1.out (scan l n k) hs (by omega)
          cases had2
          have hy := HV.out (scan l n k) hs (by omega)
          have hsl : scan l n k < l.length := by omega
          have Q1 := Lib.hid (quo_eq _ n hx HN.out)
          have Q2 := Lib.hid (quo_eq _ n hy HN.out)
          obtain ⟨hx1, hx2⟩ := hx
          obtain ⟨hy1, hy2⟩ := hy
          clear hsr
          go_wp2_with fail
          go_quiet (fail)
          go_wp2_with fail
          · rename_i hq
            have HS := Lib.hid (HSK.out H5.out ⟨hs, hq⟩)
            go_roundg (l.length - (k + 1))
            case measure => have := HG.out; omega
            case rel => exact ⟨k + 1, by go_num, by rw [HS.out], by omega, Lib.hid rfl, Lib.hid (by first | exact HB.out | exact beld HB.out _)⟩
          · rename_i hq
            have HS := Lib.hid (HST.out H5.out (fun h => by have := h.2; omega))
            go_roundg (l.length - (k + 1))
            case measure => have := HG.out; omega
            case rel => exact ⟨k + 1, by go_num, by rw [HS.out], by omega, Lib.hid rfl, Lib.hid (by first | exact HB.out | exact beld HB.out _)⟩
        · have HS := Lib.hid (HST.out H5.out (fun h => hs h.1))
          have hd : decide (0 ≤ scan l n k) = false := by simpa using hs
          clear hsr
          go_wp2_with fail
          go_quiet (fail)
          go_wp2_with fail
          go_roundg (l.length - (k + 1))
          case measure => have := HG.out; omega
          case rel => exact ⟨k + 1, by go_num, by rw [HS.out], by omega, Lib.hid rfl, Lib.hid (by first | exact HB.out | exact beld HB.out _)⟩
    · have hk2 : k = l.length := by omega
      have HE := Lib.hid (show ∀ W, Below w.heap.size w W → scan l n k < 0 → BestSays n l w (.returned (.tuple #[.int .i64 0, .int .i64 8])) W from fun W hb h => ⟨by rw [hk2] at h; rw [if_pos h, if_pos h], hb⟩)
      have HF := Lib.hid (show ∀ W, Below w.heap.size w W → ¬ scan l n k < 0 → BestSays n l w (.returned (.tuple #[.int .i64 (scan l n k), .int .i64 0])) W from fun W hb h => ⟨by rw [hk2] at h ⊢; rw [if_neg h, if_neg h], hb⟩)
      clear hk2 hsr
      by_cases hs : scan l n k < 0
      · go_wp2_with fail
        try rw [Exit.noGoto_ret]
        go_ret2
        exact HE.out _ HB.out hs
      · go_wp2_with fail
        try rw [Exit.noGoto_ret]
        go_ret2
        exact HF.out _ HB.out hs
theorem best_any (n : Int) (A : Option Addr) (c : Nat) (l : List Int) (a b : Int) (hab : bestV n l = (a, b)) (w : World) (hr : Kd.C (Kd.int .i64) w A l.length l) (hc : l.length ≤ c) (hl : l.length ≤ 30) :
    Calls Try.prog 39 #[.int .i64 n, .slice A l.length c] w fun e w' => e = .returned (.tuple #[.int .i64 a, .int .i64 b]) ∧ Below w.heap.size w w' := by
  unfold bestV at hab
  by_cases h : (lstB n && allV l) = true
  · rw [if_pos h] at hab
    rw [Bool.and_eq_true] at h
    have hn := h.1
    unfold lstB at hn; rw [decide_eq_true_eq] at hn
    refine (best_ok n A c l w hr hc hl hn h.2).mono ?_
    rintro e w' ⟨rfl, hb⟩
    refine ⟨?_, hb⟩
    split at hab <;> (obtain ⟨rfl, rfl⟩ := Prod.mk.inj hab) <;> simp [*]
  · rw [if_neg h] at hab
    obtain ⟨rfl, rfl⟩ := Prod.mk.inj hab
    exact best_no n A c l w hr hc hl (by simpa using h)
theorem known_any (w : World) : Calls Try.prog 34 #[] w fun e w' => e = .returned (.bool true) ∧ Below w.heap.size w w' :=
  rivuletlaw12_known.calls 25 true w (by decide +kernel)
theorem law_s (n : Int) (A : Option Addr) (c : Nat) (l : List Int) (w : World) (hr : Kd.C (Kd.int .i64) w A l.length l) (hc : l.length ≤ c) (hx : (l.length : Int) ≤ 30) (hc2 : (c : Int) ≤ 9223372036854775807) :
    Calls Try.prog 14 #[.int .i64 n, .slice A l.length c] w fun e w' => e = .returned (.bool true) ∧ Below w.heap.size w w' := by
  have hl : l.length ≤ 30 := by omega
  obtain ⟨a, b, hab⟩ : ∃ a b, bestV n l = (a, b) := ⟨_, _, rfl⟩
  have H1 := Lib.hid (best_any n A c l a b hab w hr hc hl)
  have H2 := Lib.hid (fun W h => rivuletref12_Best.calls 80 n A c l a b W h hc (by rw [refbest_f n l hl, hab]))
  have HR := Lib.hid hr
  clear hr hab
  go_enter Try.func14, Try.ntmps14
  go_wp2_with fail
  refine H1.out.mono ?_
  rintro e w1 ⟨rfl, hw1⟩
  go_wp2_with fail
  refine (H2.out _ (Kd.C_below HR.out hw1)).mono ?_
  rintro e w2 ⟨rfl, hw2⟩
  go_wp2_with fail
  refine (known_any _).mono ?_
  rintro e w3 ⟨rfl, hw3⟩
  go_wp2_with fail
  go_ret
  exact ⟨by simp, bel (bel hw1 (by first | exact hw2 | exact hw2.below)) hw3⟩
theorem law_m (n : Int) (A : Option Addr) (c m : Nat) (l : List Int) (w : World) (hr : Kd.C (Kd.int .i64) w A l.length l) (hc : m ≤ c) (hx : 30 < (m : Int)) (hc2 : (c : Int) ≤ 9223372036854775807) (h30 : l.length = 30) :
    Calls Try.prog 14 #[.int .i64 n, .slice A m c] w fun e w' => e = .returned (.bool true) ∧ Below w.heap.size w w' := by
  have hl : l.length ≤ 30 := by omega
  obtain ⟨a, b, hab⟩ : ∃ a b, bestV n l = (a, b) := ⟨_, _, rfl⟩
  have h1 := best_any n A c l a b hab w hr (by omega) hl
  have h2 := fun W h => rivuletref12_Best.calls 80 n A c l a b W h (by omega) (by rw [refbest_f n l hl, hab])
  rw [h30] at h1 h2
  have H1 := Lib.hid h1
  have H2 := Lib.hid h2
  rw [h30] at hr
  have HR := Lib.hid hr
  clear hr hab h1 h2 h30 hl
  go_enter Try.func14, Try.ntmps14
  go_wp2_with fail
  refine H1.out.mono ?_
  rintro e w1 ⟨rfl, hw1⟩
  go_wp2_with fail
  refine (H2.out _ (Kd.C_below HR.out hw1)).mono ?_
  rintro e w2 ⟨rfl, hw2⟩
  go_wp2_with fail
  refine (known_any _).mono ?_
  rintro e w3 ⟨rfl, hw3⟩
  go_wp2_with fail
  go_ret
  exact ⟨by simp, bel (bel hw1 (by first | exact hw2 | exact hw2.below)) hw3⟩
theorem reads_take {w : World} {A : Option Addr} {l : List Int} (m : Nat) (hm : m ≤ l.length) (h : ReadsInt w .i64 A l.length l) : ReadsInt w .i64 A m (l.take m) := by
  obtain ⟨h1, h2, h3⟩ := h
  refine ⟨by simp; omega, by omega, fun h0 => ?_⟩
  obtain ⟨ad, had, hc⟩ := h3 (by omega)
  refine ⟨ad, had, fun j hj => ?_⟩
  rw [hc j (by omega)]
  simp [hj, List.getElem?_take]
theorem walk (n : Int) (a : Option Addr) (len cap : Nat) (z : List Int) (w : World) (_ : (Lit.int .i64 n).wf = true)
    (hw : (a = none ∧ len = 0 ∧ cap = 0 ∧ z = []) ∨ ∃ x, a = some x ∧ len ≤ cap ∧ cap ≤ maxLen ∧ z.length = cap ∧ (∀ i, i < z.length → w.cell? (x.add i) = some (.int .i64 (z.getD i 0))) ∧ ∀ n ∈ z, (Lit.int .i64 n).wf = true)
    (_ : len * 8 ≤ 140737488351232) :
    Calls Try.prog 14 #[.int .i64 n, .slice a len cap] w fun e w' => e = .returned (.bool true) ∧ Below w.heap.size w w' := by
  have hcap : (cap : Int) ≤ 9223372036854775807 := by
    rcases hw with ⟨_, _, rfl, _⟩ | ⟨x, _, _, h, _⟩
    · decide
    · unfold maxLen at h; omega
  obtain ⟨l, rfl, hr, hm, _, hc⟩ := ReadsInt.ofRowC hw
  clear hw hm
  by_cases h30 : l.length ≤ 30
  · exact law_s n a cap l w (Kd.C_of_reads (d := (0 : Int)) (h1 := fun _ => rfl) hr) hc (by omega) hcap
  · have hr2 := reads_take 30 (by omega) hr
    have hl : (l.take 30).length = 30 := by simp; omega
    have hC : Kd.C (Kd.int .i64) w a (l.take 30).length (l.take 30) := Kd.C_of_reads (d := (0 : Int)) (h1 := fun _ => rfl) (by rw [hl]; exact hr2)
    exact law_m n a cap l.length (l.take 30) w hC hc (by omega) hcap hl
end Go.Proofs.Ythdacjnghnnmnaa.RankBest
