/- TrickleSpeaks. -/
import Derived.Test.YtanpnhponefbbaaTrPlaces
set_option linter.unusedVariables false
set_option linter.unusedSimpArgs false
namespace Go.Proofs.Ytanpnhponefbbaa.Tr
open Go.RowKit Go.Proofs.YtanpnhponefbbaaW.PrintWords Go.Proofs.Ytanpnhponefbbaa.PTricklePlaces
/-- The length in round k: doubled up to mm times. -/
def Lf (lo : Int) (mm k : Nat) : Int := lo * 2 ^ (min k mm)
theorem Lf_bd (lo : Int) (mm k : Nat) (h1 : 1 ≤ lo) (h2 : lo ≤ 8) (hm : mm ≤ 6) : 1 ≤ Lf lo mm k ∧ Lf lo mm k ≤ 512 := by
  have h : ∀ n : Nat, n < 7 → (1 : Int) ≤ 2 ^ n ∧ (2 : Int) ^ n ≤ 64 := by decide
  obtain ⟨h3, h4⟩ := h (min k mm) (by omega)
  unfold Lf
  generalize (2 : Int) ^ (min k mm) = q at h3 h4
  have h5 := Int.mul_le_mul h1 h3 (by omega) (by omega : (0 : Int) ≤ lo)
  have h6 := Int.mul_le_mul h2 h4 (by omega) (by omega : (0 : Int) ≤ 8)
  omega
theorem Lf_lt (lo : Int) (mm k : Nat) (h : k < mm) : 2 * Lf lo mm k = Lf lo mm (k + 1) := by
  unfold Lf
  rw [show min k mm = k by omega, show min (k + 1) mm = k + 1 by omega, Int.pow_succ]
  rw [show (2 : Int) * (lo * 2 ^ k) = lo * (2 ^ k * 2) by rw [Int.mul_comm, Int.mul_assoc]]
theorem Lf_le (lo : Int) (mm k : Nat) (h1 : 1 ≤ lo) (h : k ≤ mm) : Lf lo mm k ≤ Lf lo mm mm := by
  obtain ⟨n, rfl⟩ : ∃ n, mm = k + n := ⟨mm - k, by omega⟩
  unfold Lf
  rw [show min k (k + n) = k by omega, show min (k + n) (k + n) = k + n by omega, Int.pow_add, ← Int.mul_assoc]
  have h2 : (0 : Int) < 2 ^ k := Int.pow_pos (by omega)
  have h3 : (0 : Int) < lo * 2 ^ k := Int.mul_pos (by omega) h2
  have h4 : (0 : Int) < 2 ^ n := Int.pow_pos (by omega)
  generalize lo * 2 ^ k = a at h3
  generalize (2 : Int) ^ n = b at h4
  have := Int.mul_le_mul_of_nonneg_left (show (1 : Int) ≤ b by omega) (show 0 ≤ a by omega)
  omega
theorem Lf_top (lo : Int) (mm k : Nat) (h : mm ≤ k) : Lf lo mm k = Lf lo mm mm := by
  unfold Lf
  rw [show min k mm = mm by omega, show min mm mm = mm by omega]
def okF (kk h : Int) : Bool := kk == 0 || decide (h < kk)
/-- In one interval: n ticks are gone. -/
def Mid (w : World) (g : Nat) (L L2 P h lo hi kk n sp : Int) : Prop :=
  (n < L ∧ Tr w g L P n h lo hi kk ∧ sp = if P ≤ n ∧ okF kk h = true then 1 else 0) ∨
  (n = L ∧ (∃ P2, 1 ≤ P2 ∧ P2 ≤ L2 ∧ Tr w g L2 P2 0 0 lo hi kk) ∧ sp = if okF kk h = true then 1 else 0)
/-- One tick, whatever it does. -/
theorem tick_mid_of (g : Nat) (L L2 P h lo hi kk n sp d : Int) (w : World) (hM : Mid w g L L2 P h lo hi kk n sp) (hn : 0 ≤ n) (hnL : n < L) (hP : 1 ≤ P ∧ P ≤ L) (hL : L ≤ 512) (hhi : L ≤ hi ∧ hi ≤ 512)
    (hL2 : (2 * L = L2 ∧ L2 ≤ hi) ∨ (L = hi ∧ L2 = hi)) :
    Calls Try.prog 36 #[.pointer (some ⟨g, 0, none⟩), .int .i64 d] w fun e w' => ∃ b : Bool, e = .returned (.bool b) ∧ Mid w' g L L2 P h lo hi kk (n + 1) (if b then sp + 1 else sp) ∧ Kp w w' (fun k => k = g) := by
  obtain ⟨_, hT, hsp⟩ | ⟨h1, _⟩ := hM
  · by_cases hc : n + 1 = L
    · have hok : spF P (n + 1) h kk = (decide (P = L) && okF kk h) := by
        unfold spF okF
        rw [hc]
        have : (L == P) = decide (P = L) := by
          by_cases h : P = L
          · subst h; simp
          · rw [decide_eq_false h, beq_eq_false_iff_ne]; omega
        rw [this]
      have hend : ∀ w' : World, (∃ P2, 1 ≤ P2 ∧ P2 ≤ L2 ∧ Tr w' g L2 P2 0 0 lo hi kk) → Mid w' g L L2 P h lo hi kk (n + 1) (if spF P (n + 1) h kk then sp + 1 else sp) := fun w' hx => .inr ⟨hc, hx, by
        rw [hok, hsp]
        cases okF kk h
        · simp
        · by_cases hpl : P = L
          · simp [hpl]; omega
          · simp [hpl]; omega⟩
      obtain ⟨h2, h3⟩ | ⟨h2, h3⟩ := hL2
      · refine (tick_end2 g L2 L P n h lo hi kk d _ w hT (by omega) (by omega) (by omega) (by omega) (by omega) rfl hc h2 (by omega)).mono ?_
        rintro e w' ⟨rfl, hT', hK⟩
        obtain ⟨b1, b2, b3⟩ := place_bd L2 d (by omega)
        exact ⟨_, rfl, hend w' ⟨_, b3, b2, hT'⟩, hK⟩
      · refine (tick_endm g L P n h lo hi kk d _ w hT (by omega) (by omega) (by omega) (by omega) (by omega) rfl hc (by omega)).mono ?_
        rintro e w' ⟨rfl, hT', hK⟩
        obtain ⟨b1, b2, b3⟩ := place_bd hi d (by omega)
        subst h3
        exact ⟨_, rfl, hend w' ⟨_, b3, b2, hT'⟩, hK⟩
    · refine (tick_mid g L P n h lo hi kk d _ w hT (by omega) (by omega) (by omega) (by omega) (by omega) rfl hc).mono ?_
      rintro e w' ⟨rfl, hT', hK⟩
      refine ⟨_, rfl, .inl ⟨by omega, hT', ?_⟩, hK⟩
      have hok : spF P (n + 1) h kk = (decide (P = n + 1) && okF kk h) := by
        unfold spF okF
        have : (n + 1 == P) = decide (P = n + 1) := by
          by_cases h : P = n + 1
          · subst h; simp
          · rw [decide_eq_false h, beq_eq_false_iff_ne]; omega
        rw [this]
      rw [hok, hsp]
      cases okF kk h
      · simp
      · by_cases hpl : P = n + 1
        · simp [hpl]; omega
        · by_cases hq : P ≤ n
          · have : P ≤ n + 1 := by omega
            simp [hpl, hq, this]
          · have : ¬ P ≤ n + 1 := by omega
            simp [hpl, hq, this]
  · omega
theorem L2_of (lo : Int) (mm k : Nat) (L hi : Int) (h1 : 1 ≤ lo) (hk : k ≤ mm) (hL : Lf lo mm k = L) (hh : Lf lo mm mm = hi) : (2 * L = Lf lo mm (k + 1) ∧ Lf lo mm (k + 1) ≤ hi) ∨ (L = hi ∧ Lf lo mm (k + 1) = hi) := by
  by_cases h : k < mm
  · left
    rw [← hL, ← hh]
    exact ⟨Lf_lt lo mm k h, Lf_le lo mm (k + 1) h1 (by omega)⟩
  · right
    have : k = mm := by omega
    subst this
    exact ⟨hL.symm.trans hh, (Lf_top lo k (k + 1) (by omega)).trans hh⟩
theorem sp_le {w : World} {g : Nat} {L L2 P h lo hi kk n sp : Int} (hM : Mid w g L L2 P h lo hi kk n sp) : sp ≤ 1 := by
  obtain ⟨_, _, h⟩ | ⟨_, _, h⟩ := hM
  · rw [h]; split <;> omega
  · rw [h]; split <;> omega
theorem mid_end {w : World} {g : Nat} {L L2 P h lo hi kk sp : Int} (hM : Mid w g L L2 P h lo hi kk L sp) : (∃ P2, 1 ≤ P2 ∧ P2 ≤ L2 ∧ Tr w g L2 P2 0 0 lo hi kk) ∧ sp = if okF kk h = true then 1 else 0 := by
  obtain ⟨h1, _⟩ | ⟨_, h⟩ := hM
  · omega
  · exact h
theorem top_le (lo : Int) (mm : Nat) (hi : Int) (h1 : 1 ≤ lo) (hh : Lf lo mm mm = hi) : decide (hi ≤ lo) = decide (mm = 0) := by
  subst hh
  by_cases h : mm = 0
  · subst h
    simp [Lf]
  · have h2 := Lf_le lo mm 1 h1 (by omega)
    have h3 : Lf lo mm 1 = lo * 2 := by unfold Lf; rw [show min 1 mm = 1 by omega]; omega
    rw [decide_eq_false h, decide_eq_false]
    omega
theorem tm_bd (x n : Int) (hn : 0 < n) : 0 ≤ (IntKind.u64.wrap x).tmod n ∧ (IntKind.u64.wrap x).tmod n < n := by
  have h0 : 0 ≤ IntKind.u64.wrap x := by rw [IntKind.wrap_u64]; omega
  rw [Int.tmod_eq_emod_of_nonneg h0]
  exact ⟨Int.emod_nonneg _ (by omega), Int.emod_lt_of_pos _ hn⟩
set_option maxHeartbeats 8000000 in
set_option maxRecDepth 100000 in
theorem speaks_law (a m0 k0 h0 : Int) (A : Option Addr) (c : Nat) (l : List Int) (w : World) (hr : Kd.C (Kd.int .i64) w A l.length l) (hc : l.length ≤ c) :
    Calls Try.prog 7 #[.int .i64 a, .int .i64 m0, .int .i64 k0, .slice A l.length c, .int .i64 h0] w fun e w' => e = .returned (.bool true) ∧ Below w.heap.size w w' := by
  have HR := Lib.hid hr
  clear hr
  obtain ⟨q, hq, hq1, hq2⟩ : ∃ q, (IntKind.u64.wrap a).tmod 8 = q ∧ 0 ≤ q ∧ q ≤ 7 := ⟨_, rfl, by have := tm_bd a 8 (by omega); omega, by have := tm_bd a 8 (by omega); omega⟩
  obtain ⟨mm, hm, hm2⟩ : ∃ mm : Nat, (IntKind.u64.wrap m0).tmod 7 = mm ∧ mm ≤ 6 := ⟨((IntKind.u64.wrap m0).tmod 7).toNat, by have := tm_bd m0 7 (by omega); omega, by have := tm_bd m0 7 (by omega); omega⟩
  obtain ⟨kk, hk, hk1, hk2⟩ : ∃ q, (IntKind.u64.wrap k0).tmod 256 = q ∧ 0 ≤ q ∧ q ≤ 255 := ⟨_, rfl, by have := tm_bd k0 256 (by omega); omega, by have := tm_bd k0 256 (by omega); omega⟩
  obtain ⟨hh, hhh, hh2⟩ : ∃ q : Nat, (IntKind.u64.wrap h0).tmod 4 = q ∧ q ≤ 3 := ⟨((IntKind.u64.wrap h0).tmod 4).toNat, by have := tm_bd h0 4 (by omega); omega, by have := tm_bd h0 4 (by omega); omega⟩
  go_enter Try.func7, Try.ntmps7
  go_wp2_with fail
  obtain ⟨lo, hlo, hlo1, hlo2⟩ : ∃ lo, 1 + q = lo ∧ 1 ≤ lo ∧ lo ≤ 8 := ⟨_, rfl, by omega, by omega⟩
  rw [hlo]
  clear hlo hq1 hq2 hq hm hk
  refine (new_ok lo mm kk 3 (by omega) (by omega) (by omega) (by omega) hk1 hk2 w).mono ?_
  rintro e w1 ⟨g, rfl, hg, hT, hb⟩
  simp only [Int.toNat_natCast] at hT
  obtain ⟨hi, hhi⟩ : ∃ hi, Lf lo mm mm = hi := ⟨_, rfl⟩
  have hhib := Lf_bd lo mm mm hlo1 hlo2 hm2
  rw [hhi] at hhib
  have hT1 : Tr w1 g lo (placeF lo 3) 0 0 lo hi kk := by
    rw [← hhi]; unfold Lf; rw [Nat.min_self]; exact hT
  obtain ⟨p1, p2, p3⟩ := place_bd lo 3 hlo1
  have HT := Lib.hid hT1
  have HB := Lib.hid hb
  have HP : Hid (1 ≤ placeF lo 3 ∧ placeF lo 3 ≤ lo) := Lib.hid ⟨p3, p2⟩
  have HHI := Lib.hid hhi
  clear hT hT1 hb p1 p2 p3 hhi
  go_wp2_with fail
  go_loopg [13] (mm + 1) (fun gk v13 wr => ∃ (k : Nat) (P : Int), v13 = .int .i64 k ∧ k ≤ mm + 1 ∧ Hid (gk = mm + 1 - k) ∧ Hid (Tr wr g (Lf lo mm k) P 0 0 lo hi kk) ∧ Hid (1 ≤ P ∧ P ≤ Lf lo mm k) ∧ Hid (Below w.heap.size w wr))
  case atStart =>
    have h0 : Lf lo mm 0 = lo := by unfold Lf; simp
    exact ⟨0, _, rfl, by omega, Lib.hid (by omega), by rw [h0]; exact HT, by rw [h0]; exact HP, HB⟩
  case round =>
    clear HT HB HP
    obtain ⟨k, P, rfl, hk, HG, HT, HP, HB⟩ := hrel
    by_cases hlt : k ≤ mm
    · obtain ⟨L, hL⟩ : ∃ L, Lf lo mm k = L := ⟨_, rfl⟩
      have HLb := Lf_bd lo mm k hlo1 hlo2 hm2
      rw [hL] at HT HP HLb
      obtain ⟨hL1, hL2⟩ := HLb
      have HL := Lib.hid hL
      have hsh : lo * 2 ^ k = L := by rw [← hL]; unfold Lf; rw [Nat.min_eq_left hlt]
      have hLi := Lib.hid (show L ≤ hi by rw [← hL, ← HHI.out]; exact Lf_le lo mm k hlo1 hlt)
      clear hL
      go_wp2_with fail
      refine (length_any g L P 0 0 lo hi kk _ HT.out).mono ?_
      rintro e w' ⟨rfl, rfl⟩
      go_wp2_with fail
      go_loopg [16] hh (fun g2 v16 w2 => ∃ n : Nat, v16 = .int .i64 n ∧ n ≤ hh ∧ Hid (g2 = hh - n) ∧ Hid (Tr w2 g L P 0 n lo hi kk) ∧ Hid (Below w.heap.size w w2))
      case atStart => exact ⟨0, rfl, by omega, Lib.hid (by simp), HT, HB⟩
      case round =>
        clear HT HB
        obtain ⟨n, rfl, hn, HG2, HT, HB⟩ := hrel
        by_cases hlt2 : n < hh
        · go_wp2_with fail
          refine (hear_any g L P 0 n lo hi kk _ HT.out ⟨by omega, by omega⟩).mono ?_
          rintro e w3 ⟨rfl, hT3, hK⟩
          rw [if_pos (by omega)] at hT3
          have HT3 := Lib.hid hT3
          have HB3 := Lib.hid (kp_to HB.out hK hg)
          clear hT3 hK
          go_wp2_with fail
          go_roundg (hh - (n + 1))
          case measure => have := HG2.out; omega
          case rel => exact ⟨n + 1, by go_num, by omega, Lib.hid rfl, HT3, HB3⟩
        · have hnh : n = hh := by omega
          subst hnh
          go_wp2_with fail
          obtain ⟨wo2, rfl⟩ : ∃ wo2 : World, wo2 = wr := ⟨_, rfl⟩
          obtain ⟨LN, hLN⟩ : ∃ LN : Nat, L = LN := ⟨L.toNat, by omega⟩
          subst hLN
          go_loopg [17, 15] LN (fun g3 v17 v15 w3 => ∃ (j : Nat) (sp : Int), v17 = .int .i64 j ∧ v15 = .int .i64 sp ∧ j ≤ LN ∧ (0 ≤ sp ∧ sp ≤ 1) ∧ Hid (g3 = LN - j) ∧ Hid (Mid w3 g LN (Lf lo mm (k + 1)) P n lo hi kk j sp) ∧ Hid (Below w.heap.size w w3))
          case atStart => exact ⟨0, 0, rfl, rfl, by omega, by omega, Lib.hid (by simp), Lib.hid (.inl ⟨by omega, HT.out, by rw [if_neg]; intro h; have := HP.out; omega⟩), HB⟩
          case round =>
            clear HT HB
            obtain ⟨j, sp, rfl, rfl, hj, ⟨hsp1, hsp2⟩, HG3, HM, HB⟩ := hrel
            by_cases hlt3 : j < LN
            · have HL2 := Lib.hid (L2_of lo mm k LN hi hlo1 hlt HL.out HHI.out)
              by_cases hd : j < l.length
              · have HR1 := Lib.hid (Kd.C_below HR.out HB.out)
                obtain ⟨ad, had, hcell⟩ := Kd.at_int HR1.out j (by omega) (by omega)
                simp only [Int.toNat_natCast] at hcell
                cases had
                go_wp2_with fail
                refine (tick_mid_of g LN (Lf lo mm (k + 1)) P n lo hi kk j sp _ _ HM.out (by omega) (by omega) HP.out hL2 ⟨hLi.out, hhib.2⟩ HL2.out).mono ?_
                rintro e w4 ⟨b, rfl, hM4, hK⟩
                have HB4 := Lib.hid (kp_to HB.out hK hg)
                clear hK
                cases b
                · have HM4 : Hid (Mid w4 g LN (Lf lo mm (k + 1)) P n lo hi kk (j + 1) sp) := Lib.hid hM4
                  clear hM4
                  go_wp2_with fail
                  go_roundg (LN - (j + 1))
                  case measure => have := HG3.out; omega
                  case rel => exact ⟨j + 1, sp, by go_num, rfl, by omega, ⟨hsp1, hsp2⟩, Lib.hid rfl, HM4, HB4⟩
                · have HM4 : Hid (Mid w4 g LN (Lf lo mm (k + 1)) P n lo hi kk (j + 1) (sp + 1)) := Lib.hid hM4
                  have hsp3 : sp + 1 ≤ 1 := sp_le hM4
                  clear hM4
                  go_wp2_with fail
                  go_roundg (LN - (j + 1))
                  case measure => have := HG3.out; omega
                  case rel => exact ⟨j + 1, sp + 1, by go_num, by go_num, by omega, ⟨by omega, hsp3⟩, Lib.hid rfl, HM4, HB4⟩
              · go_wp2_with fail
                refine (tick_mid_of g LN (Lf lo mm (k + 1)) P n lo hi kk j sp _ _ HM.out (by omega) (by omega) HP.out hL2 ⟨hLi.out, hhib.2⟩ HL2.out).mono ?_
                rintro e w4 ⟨b, rfl, hM4, hK⟩
                have HB4 := Lib.hid (kp_to HB.out hK hg)
                clear hK
                cases b
                · have HM4 : Hid (Mid w4 g LN (Lf lo mm (k + 1)) P n lo hi kk (j + 1) sp) := Lib.hid hM4
                  clear hM4
                  go_wp2_with fail
                  go_roundg (LN - (j + 1))
                  case measure => have := HG3.out; omega
                  case rel => exact ⟨j + 1, sp, by go_num, rfl, by omega, ⟨hsp1, hsp2⟩, Lib.hid rfl, HM4, HB4⟩
                · have HM4 : Hid (Mid w4 g LN (Lf lo mm (k + 1)) P n lo hi kk (j + 1) (sp + 1)) := Lib.hid hM4
                  have hsp3 : sp + 1 ≤ 1 := sp_le hM4
                  clear hM4
                  go_wp2_with fail
                  go_roundg (LN - (j + 1))
                  case measure => have := HG3.out; omega
                  case rel => exact ⟨j + 1, sp + 1, by go_num, by go_num, by omega, ⟨by omega, hsp3⟩, Lib.hid rfl, HM4, HB4⟩
            · have hjL : j = LN := by omega
              subst hjL
              obtain ⟨⟨P2, hP2, hP3, hT2⟩, hspe⟩ := mid_end HM.out
              have HT2 := Lib.hid hT2
              have HP2 := Lib.hid (And.intro hP2 hP3)
              clear hT2 hP2 hP3
              have hor : Hid (((kk == 0) = true ∧ (sp == 1) = true ∧ decide (1 < sp) = false) ∨ ((kk == 0) = false ∧ decide ((n : Int) < kk) = true ∧ (sp == 1) = true ∧ decide (1 < sp) = false) ∨ ((kk == 0) = false ∧ decide ((n : Int) < kk) = false ∧ (sp == 1) = false ∧ decide (1 < sp) = false)) := Lib.hid (by
                subst hspe
                unfold okF
                cases h1 : kk == 0
                · cases h2 : decide ((n : Int) < kk)
                  · exact .inr (.inr ⟨rfl, rfl, by simp, by simp⟩)
                  · exact .inr (.inl ⟨rfl, rfl, by simp, by simp⟩)
                · exact .inl ⟨rfl, by simp, by simp⟩)
              clear hspe HM
              rcases hor.out with ⟨x1, x2, x3⟩ | ⟨x1, x4, x2, x3⟩ | ⟨x1, x4, x2, x3⟩ <;>
              · clear hor
                go_wp2_with fail
                go_roundg (mm + 1 - (k + 1))
                case measure => have := HG.out; omega
                case rel => exact ⟨k + 1, P2, by go_num, by omega, Lib.hid rfl, HT2, HP2, HB⟩
    · have hkm : k = mm + 1 := by omega
      subst hkm
      rw [Lf_top lo mm (mm + 1) (by omega), HHI.out] at HT HP
      go_wp2_with fail
      refine (known_any _).mono ?_
      rintro e w2 ⟨rfl, hw2⟩
      have HT2 := Lib.hid (blk_bel HT.out hw2)
      have HB2 := Lib.hid (bel HB.out hw2)
      clear HT HB hw2
      go_wp2_with fail
      refine (length_any g hi P 0 0 lo hi kk _ HT2.out).mono ?_
      rintro e w3 ⟨rfl, rfl⟩
      go_wp2_with fail
      refine (most_any g hi P 0 0 lo hi kk _ HT2.out).mono ?_
      rintro e w4 ⟨rfl, rfl⟩
      go_wp2_with fail
      refine (copy_any g hi P 0 0 lo hi kk _ HT2.out).mono ?_
      rintro e w5 ⟨rfl, hT5, hw5⟩
      have HB5 := Lib.hid (bel HB2.out hw5)
      have HT5 := Lib.hid hT5
      have HS := Lib.hid HB2.out.size
      clear hT5 hw5
      go_wp2_with fail
      refine (reset_any _ hi P 0 0 lo hi kk 0 _ HT5.out (by omega)).mono ?_
      rintro e w6 ⟨rfl, hx, hK⟩
      have HB6 := Lib.hid (kp_to HB5.out hK HS.out)
      clear hx hK
      have hz := top_le lo mm hi hlo1 HHI.out
      by_cases hm0 : mm = 0
      · subst hm0
        have hz2 : decide (hi ≤ lo) = true := by rw [hz]; rfl
        clear hz
        rw [hz2]
        go_wp2_with fail
        go_ret
        exact ⟨rfl, HB6.out⟩
      · have hz2 : decide (hi ≤ lo) = false := by rw [hz]; simpa using hm0
        have hm1 : (((mm : Int)) == 0) = false := by simpa using hm0
        clear hz
        rw [hz2]
        go_wp2_with fail
        go_ret
        exact ⟨rfl, HB6.out⟩
open Go.Proofs.YtanpnhponefbbaaW.PrintLast in
theorem speaks_walk (a m0 k0 : Int) (a3 : Option Addr) (len3 cap3 : Nat) (z3 : List Int) (h0 : Int) (w : World) (_ : (Lit.int .i64 a).wf = true) (_ : (Lit.int .i64 m0).wf = true) (_ : (Lit.int .i64 k0).wf = true)
    (w1 : (a3 = none ∧ len3 = 0 ∧ cap3 = 0 ∧ z3 = []) ∨ ∃ x, a3 = some x ∧ len3 ≤ cap3 ∧ cap3 ≤ maxLen ∧ z3.length = cap3 ∧ (∀ i, i < z3.length → w.cell? (x.add i) = some (.int .i64 (z3.getD i 0))) ∧ ∀ n ∈ z3, (Lit.int .i64 n).wf = true)
    (y1 : len3 * 8 ≤ 140737488351232) (_ : (Lit.int .i64 h0).wf = true) :
    Calls Try.prog 7 #[.int .i64 a, .int .i64 m0, .int .i64 k0, .slice a3 len3 cap3, .int .i64 h0] w fun e w' => e = .returned (.bool true) ∧ Below w.heap.size w w' := by
  obtain ⟨l1, rfl, hr1, hm1, hw1, hc1⟩ := ReadsInt.ofRowC w1
  exact speaks_law a m0 k0 h0 _ _ l1 w (Kd.C_of_reads (d := (0 : Int)) (h1 := fun _ => rfl) hr1) hc1
end Go.Proofs.Ytanpnhponefbbaa.Tr
