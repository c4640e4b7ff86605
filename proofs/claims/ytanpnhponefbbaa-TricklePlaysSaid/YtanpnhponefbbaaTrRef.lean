/- Contracts of rivuletref11 over its Trickle in memory. -/
import Derived.Test.YtanpnhponefbbaaTrSpeaks
set_option linter.unusedVariables false
set_option linter.unusedSimpArgs false
namespace Go.Proofs.Ytanpnhponefbbaa.Tr
open Go.RowKit Go.Proofs.YtanpnhponefbbaaW.PrintWords Go.Proofs.Ytanpnhponefbbaa.PTricklePlaces
/-- The reference's Trickle in block g. -/
def Rf (w : World) (g : Nat) (lo hi k L P G C : Int) : Prop := w.heap[g]? = some (.cells #[.int .i64 lo, .int .i64 hi, .int .i64 k, .int .i64 L, .int .i64 P, .int .i64 G, .int .i64 C] 70 (0, 0))
def rightF (lo m k : Int) : Prop := 1 ≤ lo ∧ lo ≤ 1048576 ∧ 0 ≤ m ∧ m ≤ 16 ∧ 0 ≤ k ∧ k ≤ 255
theorem right_ok (lo m k : Int) (h : rightF lo m k) (w : World) : Calls Try.prog 40 #[.int .i64 lo, .int .i64 m, .int .i64 k] w fun e w' => e = .returned (.bool true) ∧ w' = w := by
  obtain ⟨h1, h2, h3, h4, h5, h6⟩ := h
  have c1 : decide (1 ≤ lo) = true := by simpa using h1
  have c2 : decide (lo ≤ 1048576) = true := by simpa using h2
  have c3 : decide (0 ≤ m) = true := by simpa using h3
  have c4 : decide (m ≤ 16) = true := by simpa using h4
  have c5 : decide (0 ≤ k) = true := by simpa using h5
  have c6 : decide (k ≤ 255) = true := by simpa using h6
  clear h1 h2 h3 h4 h5 h6
  go_enter Try.func40, Try.ntmps40
  go_wp2
  go_ret
  exact ⟨rfl, rfl⟩
theorem right_bad (lo m k : Int) (hb : ¬ rightF lo m k) (w : World) : Calls Try.prog 40 #[.int .i64 lo, .int .i64 m, .int .i64 k] w fun e w' => e = .returned (.bool false) ∧ w' = w := by
  unfold rightF at hb
  by_cases h0 : 1 ≤ lo
  case neg =>
    have c0 : decide (1 ≤ lo) = false := by simpa using h0
    clear hb h0
    go_enter Try.func40, Try.ntmps40
    go_wp2
    go_ret
    exact ⟨rfl, rfl⟩
  have c0 : decide (1 ≤ lo) = true := by simpa using h0
  by_cases h1 : lo ≤ 1048576
  case neg =>
    have c1 : decide (lo ≤ 1048576) = false := by simpa using h1
    clear hb h0 h1
    go_enter Try.func40, Try.ntmps40
    go_wp2
    go_ret
    exact ⟨rfl, rfl⟩
  have c1 : decide (lo ≤ 1048576) = true := by simpa using h1
  by_cases h2 : 0 ≤ m
  case neg =>
    have c2 : decide (0 ≤ m) = false := by simpa using h2
    clear hb h0 h1 h2
    go_enter Try.func40, Try.ntmps40
    go_wp2
    go_ret
    exact ⟨rfl, rfl⟩
  have c2 : decide (0 ≤ m) = true := by simpa using h2
  by_cases h3 : m ≤ 16
  case neg =>
    have c3 : decide (m ≤ 16) = false := by simpa using h3
    clear hb h0 h1 h2 h3
    go_enter Try.func40, Try.ntmps40
    go_wp2
    go_ret
    exact ⟨rfl, rfl⟩
  have c3 : decide (m ≤ 16) = true := by simpa using h3
  by_cases h4 : 0 ≤ k
  case neg =>
    have c4 : decide (0 ≤ k) = false := by simpa using h4
    clear hb h0 h1 h2 h3 h4
    go_enter Try.func40, Try.ntmps40
    go_wp2
    go_ret
    exact ⟨rfl, rfl⟩
  have c4 : decide (0 ≤ k) = true := by simpa using h4
  have c5 : decide (k ≤ 255) = false := by simp only [decide_eq_false_iff_not]; exact fun h => hb ⟨h0, h1, h2, h3, h4, h⟩
  clear hb h0 h1 h2 h3 h4
  go_enter Try.func40, Try.ntmps40
  go_wp2
  go_ret
  exact ⟨rfl, rfl⟩
theorem refnew (lo : Int) (m : Nat) (k d : Int) (hl1 : 1 ≤ lo) (hl2 : lo ≤ 1048576) (hm : m ≤ 16) (w : World) :
    Calls Try.prog 41 #[.int .i64 lo, .int .i64 m, .int .i64 k, .int .i64 d] w fun e w' => ∃ g, e = .returned (.pointer (some ⟨g, 0, none⟩)) ∧ w.heap.size ≤ g ∧ Rf w' g lo (lo * 2 ^ m) k lo (placeF lo d) 0 0 ∧ Below w.heap.size w w' := by
  go_enter Try.func41, Try.ntmps41
  go_wp2_with fail
  go_loopg [10, 9] m (fun gk v10 v9 wr => ∃ (j : Nat) (q : Int), v10 = .int .i64 j ∧ v9 = .int .i64 q ∧ j ≤ m ∧ (1 ≤ q ∧ q ≤ 68719476736) ∧ Hid (q = lo * 2 ^ j) ∧ Hid (gk = m - j) ∧ Hid (Below w.heap.size w wr))
  case atStart => exact ⟨0, lo, rfl, rfl, by omega, by omega, Lib.hid (by simp), Lib.hid (by simp), Lib.hid (Below.refl _ _)⟩
  case round =>
    obtain ⟨j, q, rfl, rfl, hj, ⟨hq1, hq2⟩, HQ, HG, HB⟩ := hrel
    by_cases hlt : j < m
    · go_wp2_with fail
      go_roundg (m - (j + 1))
      case measure => have := HG.out; omega
      case rel =>
        have h1 : 2 * q = lo * 2 ^ (j + 1) := by rw [HQ.out, Int.pow_succ, Int.mul_comm 2, Int.mul_assoc]
        have h2 := shl_bd lo (j + 1 : Nat) hl1 hl2 (by omega) (by omega)
        rw [Int.toNat_natCast, ← h1] at h2
        exact ⟨j + 1, 2 * q, by go_num, by go_num, by omega, by omega, Lib.hid h1, Lib.hid rfl, HB⟩
    · have hjm : j = m := by omega
      subst hjm
      go_wp2_with fail
      refine (refplace_any lo d _ (by omega) rfl _).mono ?_
      rintro e w1 ⟨rfl, hw1⟩
      have HB1 := Lib.hid (bel HB.out hw1)
      clear hw1
      go_wp2_with fail
      go_ret
      refine ⟨_, rfl, HB1.out.size, ?_, HB1.out.alloc HB1.out.size _⟩
      rw [← HQ.out]
      exact blk_new _ _ _
theorem refbegin (g : Nat) (lo hi k L0 P0 G0 C0 L d : Int) (hL : L ≤ 9223372036854775806) (w : World) (h : Rf w g lo hi k L0 P0 G0 C0) :
    Calls Try.prog 82 #[.pointer (some ⟨g, 0, none⟩), .int .i64 L, .int .i64 d] w fun e w' => e = .returned (.tuple #[]) ∧ Rf w' g lo hi k L (placeF L d) 0 0 ∧ Kp w w' (fun k => k = g) := by
  have H := Lib.hid h
  clear h
  go_enter Try.func82, Try.ntmps82
  go_wp2_with fail
  refine (refplace_any L d _ hL rfl _).mono ?_
  rintro e w1 ⟨rfl, hw1⟩
  have H1 := Lib.hid (blk_bel H.out hw1)
  have HB := Lib.hid hw1
  clear hw1
  have f3 := blk_frozen H1.out 3
  have f4 := blk_frozen H1.out 4
  have f5 := blk_frozen H1.out 5
  have f6 := blk_frozen H1.out 6
  have c3 := (blk_cell H1.out 3).trans (show _ = some (.int .i64 L0) from rfl)
  have c4 := (blk_cell H1.out 4).trans (show _ = some (.int .i64 P0) from rfl)
  have c5 := (blk_cell H1.out 5).trans (show _ = some (.int .i64 G0) from rfl)
  have c6 := (blk_cell H1.out 6).trans (show _ = some (.int .i64 C0) from rfl)
  go_wp2_with fail
  go_end0
  exact ⟨rfl, blk_put (blk_put (blk_put (blk_put H1.out 3 _ rfl) 4 _ rfl) 5 _ rfl) 6 _ rfl, ((((Kp.of_below HB.out (fun k => k = g)).setCell (p := ⟨g, 3, none⟩) (.inl rfl) _).setCell (p := ⟨g, 4, none⟩) (.inl rfl) _).setCell (p := ⟨g, 5, none⟩) (.inl rfl) _).setCell (p := ⟨g, 6, none⟩) (.inl rfl) _⟩
theorem kp_below {w w1 w2 : World} {g : Nat} (h : Kp w w1 (fun k => k = g)) (h2 : Kp w1 w2 (fun k => k = g)) : Kp w w2 (fun k => k = g) := h.then_ h2 (fun _ hk => .inl hk)
theorem refreset (g : Nat) (lo hi k L P G C d : Int) (hlo : lo ≤ 9223372036854775806) (hLl : lo ≤ L) (w : World) (h : Rf w g lo hi k L P G C) :
    Calls Try.prog 43 #[.pointer (some ⟨g, 0, none⟩), .int .i64 d] w fun e w' => e = .returned (.bool (!decide (L ≤ lo))) ∧ (if L ≤ lo then Rf w' g lo hi k L P G C else Rf w' g lo hi k lo (placeF lo d) 0 0) ∧ Kp w w' (fun k => k = g) := by
  have h0 := (blk_cell h 0).trans (show _ = some (.int .i64 lo) from rfl)
  have h3 := (blk_cell h 3).trans (show _ = some (.int .i64 L) from rfl)
  have H := Lib.hid h
  clear h
  by_cases hc : L ≤ lo
  · have hc' : decide (L ≤ lo) = true := by simpa using hc
    have hc2 : (L == lo) = true := by simp; omega
    simp only [hc', if_pos hc]
    clear hc hc' hLl
    go_enter Try.func43, Try.ntmps43
    go_wp2_with fail
    go_quiet (fail)
    go_wp2_with fail
    go_ret
    exact ⟨rfl, H.out, (Kp.refl w _).drewN _⟩
  · have hc' : decide (L ≤ lo) = false := by simpa using hc
    have hc2 : (L == lo) = false := by simp; omega
    simp only [hc', if_neg hc]
    clear hc hc' hLl
    go_enter Try.func43, Try.ntmps43
    go_wp2_with fail
    go_quiet (fail)
    go_wp2_with fail
    refine (refbegin g lo hi k L P G C lo d hlo (w.drewN _) H.out).mono ?_
    rintro e w1 ⟨rfl, hR, hK⟩
    have HR := Lib.hid hR
    have HK := Lib.hid (kp_below ((Kp.refl w (fun k => k = g)).drewN _) hK)
    clear hR hK
    go_wp2_with fail
    go_ret
    exact ⟨rfl, HR.out, HK.out⟩
def nL (L G hi : Int) : Int := if G + 1 = L then (if 2 * L ≤ hi then 2 * L else hi) else L
def nP (L P G hi d : Int) : Int := if G + 1 = L then placeF (nL L G hi) d else P
def nG (L G : Int) : Int := if G + 1 = L then 0 else G + 1
def nC (L G C : Int) : Int := if G + 1 = L then 0 else C
theorem tick_all (g : Nat) (L P G C lo hi k d : Int) (w : World) (h : Tr w g L P G C lo hi k) (hG : 0 ≤ G) (hGL : G < L) (hL : L ≤ hi) (hhi : hi ≤ 68719476736) :
    Calls Try.prog 36 #[.pointer (some ⟨g, 0, none⟩), .int .i64 d] w fun e w' => e = .returned (.bool (spF P (G + 1) C k)) ∧ Tr w' g (nL L G hi) (nP L P G hi d) (nG L G) (nC L G C) lo hi k ∧ Kp w w' (fun k => k = g) := by
  by_cases hc : G + 1 = L
  · by_cases hm : 2 * L ≤ hi
    · refine (tick_end2 g (2 * L) L P G C lo hi k d _ w h (by omega) (by omega) (by omega) (by omega) (by omega) rfl hc rfl (by omega)).mono ?_
      rintro e w' ⟨rfl, hT, hK⟩
      refine ⟨rfl, ?_, hK⟩
      unfold nP nG nC nL
      rw [if_pos hc, if_pos hc, if_pos hc, if_pos hc, if_pos hm]
      exact hT
    · refine (tick_endm g L P G C lo hi k d _ w h (by omega) (by omega) (by omega) (by omega) (by omega) rfl hc (by omega)).mono ?_
      rintro e w' ⟨rfl, hT, hK⟩
      refine ⟨rfl, ?_, hK⟩
      unfold nP nG nC nL
      rw [if_pos hc, if_pos hc, if_pos hc, if_pos hc, if_neg hm]
      exact hT
  · refine (tick_mid g L P G C lo hi k d _ w h (by omega) (by omega) (by omega) (by omega) (by omega) rfl hc).mono ?_
    rintro e w' ⟨rfl, hT, hK⟩
    refine ⟨rfl, ?_, hK⟩
    unfold nP nG nC nL
    rw [if_neg hc, if_neg hc, if_neg hc, if_neg hc]
    exact hT
theorem reftick_Am (g : Nat) (lo hi k L P G C d : Int) (w : World) (h : Rf w g lo hi k L P G C) (hG1 : -9223372036854775808 ≤ G + 1) (hG2 : G + 1 ≤ 9223372036854775807) (hL1 : -4611686018427387904 ≤ 2 * L) (hL3 : 2 * L ≤ 9223372036854775806) (hhi : hi ≤ 9223372036854775806) (hs : ¬ (G + 1 = P)) (hc : ¬ (G + 1 = L)) :
    Calls Try.prog 42 #[.pointer (some ⟨g, 0, none⟩), .int .i64 d] w fun e w' => e = .returned (.bool false) ∧ Rf w' g lo hi k L P (G + 1) C ∧ Kp w w' (fun k => k = g) := by
  have H := Lib.hid h
  have h5 := (blk_cell h 5).trans (show _ = some (.int .i64 G) from rfl)
  have f5 := blk_frozen h 5
  clear h
  have s1 : (G + 1 == P) = false := by simpa using hs
  have e1 : (G + 1 == L) = false := by simpa using hc
  clear hs hc
  go_enter Try.func42, Try.ntmps42
  go_wp2_with fail
  have H1 : Hid (Rf (w.setCell ⟨g, 5, none⟩ (.int .i64 (G + 1))) g lo hi k L P (G + 1) C) := Lib.hid (blk_put H.out 5 _ rfl)
  have K1 := Lib.hid ((Kp.refl w (fun k => k = g)).setCell (p := ⟨g, 5, none⟩) (.inl rfl) (.int .i64 (G + 1)))
  clear h5 f5
  generalize w.setCell ⟨g, 5, none⟩ (.int .i64 (G + 1)) = w1 at H1 K1 ⊢
  have h1 := (blk_cell H1.out 1).trans (show _ = some (.int .i64 hi) from rfl)
  have h2 := (blk_cell H1.out 2).trans (show _ = some (.int .i64 k) from rfl)
  have h3 := (blk_cell H1.out 3).trans (show _ = some (.int .i64 L) from rfl)
  have h4 := (blk_cell H1.out 4).trans (show _ = some (.int .i64 P) from rfl)
  have h5 := (blk_cell H1.out 5).trans (show _ = some (.int .i64 (G + 1)) from rfl)
  have h6 := (blk_cell H1.out 6).trans (show _ = some (.int .i64 C) from rfl)
  go_quiet (fail)
  go_wp2_with fail
  go_quiet (fail)
  go_wp2_with fail
  go_ret
  exact ⟨rfl, H1.out, (K1.out.drewN _).drewN _⟩
theorem reftick_A2 (g : Nat) (lo hi k L P G C d : Int) (w : World) (h : Rf w g lo hi k L P G C) (hG1 : -9223372036854775808 ≤ G + 1) (hG2 : G + 1 ≤ 9223372036854775807) (hL1 : -4611686018427387904 ≤ 2 * L) (hL3 : 2 * L ≤ 9223372036854775806) (hhi : hi ≤ 9223372036854775806) (hs : ¬ (G + 1 = P)) (hc : G + 1 = L) (hm : ¬ (hi < 2 * L)) :
    Calls Try.prog 42 #[.pointer (some ⟨g, 0, none⟩), .int .i64 d] w fun e w' => e = .returned (.bool false) ∧ Rf w' g lo hi k (2 * L) (placeF (2 * L) d) 0 0 ∧ Kp w w' (fun k => k = g) := by
  have H := Lib.hid h
  have h5 := (blk_cell h 5).trans (show _ = some (.int .i64 G) from rfl)
  have f5 := blk_frozen h 5
  clear h
  have s1 : (G + 1 == P) = false := by simpa using hs
  have e1 : (G + 1 == L) = true := by simpa using hc
  have e2 : decide (hi < 2 * L) = false := by simpa using hm
  clear hs hc hm
  go_enter Try.func42, Try.ntmps42
  go_wp2_with fail
  have H1 : Hid (Rf (w.setCell ⟨g, 5, none⟩ (.int .i64 (G + 1))) g lo hi k L P (G + 1) C) := Lib.hid (blk_put H.out 5 _ rfl)
  have K1 := Lib.hid ((Kp.refl w (fun k => k = g)).setCell (p := ⟨g, 5, none⟩) (.inl rfl) (.int .i64 (G + 1)))
  clear h5 f5
  generalize w.setCell ⟨g, 5, none⟩ (.int .i64 (G + 1)) = w1 at H1 K1 ⊢
  have h1 := (blk_cell H1.out 1).trans (show _ = some (.int .i64 hi) from rfl)
  have h2 := (blk_cell H1.out 2).trans (show _ = some (.int .i64 k) from rfl)
  have h3 := (blk_cell H1.out 3).trans (show _ = some (.int .i64 L) from rfl)
  have h4 := (blk_cell H1.out 4).trans (show _ = some (.int .i64 P) from rfl)
  have h5 := (blk_cell H1.out 5).trans (show _ = some (.int .i64 (G + 1)) from rfl)
  have h6 := (blk_cell H1.out 6).trans (show _ = some (.int .i64 C) from rfl)
  go_quiet (fail)
  go_wp2_with fail
  go_quiet (fail)
  go_wp2_with fail
  refine (refbegin g lo hi k L P (G + 1) C (2 * L) d (by omega) (w1.drewN _) H1.out).mono ?_
  rintro e w2 ⟨rfl, hR, hK⟩
  have HR := Lib.hid hR
  have HK := Lib.hid (kp_below (K1.out.drewN _) hK)
  clear hR hK
  go_wp2_with fail
  go_ret
  exact ⟨rfl, HR.out, HK.out⟩
theorem reftick_Ax (g : Nat) (lo hi k L P G C d : Int) (w : World) (h : Rf w g lo hi k L P G C) (hG1 : -9223372036854775808 ≤ G + 1) (hG2 : G + 1 ≤ 9223372036854775807) (hL1 : -4611686018427387904 ≤ 2 * L) (hL3 : 2 * L ≤ 9223372036854775806) (hhi : hi ≤ 9223372036854775806) (hs : ¬ (G + 1 = P)) (hc : G + 1 = L) (hm : hi < 2 * L) :
    Calls Try.prog 42 #[.pointer (some ⟨g, 0, none⟩), .int .i64 d] w fun e w' => e = .returned (.bool false) ∧ Rf w' g lo hi k hi (placeF hi d) 0 0 ∧ Kp w w' (fun k => k = g) := by
  have H := Lib.hid h
  have h5 := (blk_cell h 5).trans (show _ = some (.int .i64 G) from rfl)
  have f5 := blk_frozen h 5
  clear h
  have s1 : (G + 1 == P) = false := by simpa using hs
  have e1 : (G + 1 == L) = true := by simpa using hc
  have e2 : decide (hi < 2 * L) = true := by simpa using hm
  clear hs hc hm
  go_enter Try.func42, Try.ntmps42
  go_wp2_with fail
  have H1 : Hid (Rf (w.setCell ⟨g, 5, none⟩ (.int .i64 (G + 1))) g lo hi k L P (G + 1) C) := Lib.hid (blk_put H.out 5 _ rfl)
  have K1 := Lib.hid ((Kp.refl w (fun k => k = g)).setCell (p := ⟨g, 5, none⟩) (.inl rfl) (.int .i64 (G + 1)))
  clear h5 f5
  generalize w.setCell ⟨g, 5, none⟩ (.int .i64 (G + 1)) = w1 at H1 K1 ⊢
  have h1 := (blk_cell H1.out 1).trans (show _ = some (.int .i64 hi) from rfl)
  have h2 := (blk_cell H1.out 2).trans (show _ = some (.int .i64 k) from rfl)
  have h3 := (blk_cell H1.out 3).trans (show _ = some (.int .i64 L) from rfl)
  have h4 := (blk_cell H1.out 4).trans (show _ = some (.int .i64 P) from rfl)
  have h5 := (blk_cell H1.out 5).trans (show _ = some (.int .i64 (G + 1)) from rfl)
  have h6 := (blk_cell H1.out 6).trans (show _ = some (.int .i64 C) from rfl)
  go_quiet (fail)
  go_wp2_with fail
  go_quiet (fail)
  go_wp2_with fail
  refine (refbegin g lo hi k L P (G + 1) C hi d (by omega) (w1.drewN _) H1.out).mono ?_
  rintro e w2 ⟨rfl, hR, hK⟩
  have HR := Lib.hid hR
  have HK := Lib.hid (kp_below (K1.out.drewN _) hK)
  clear hR hK
  go_wp2_with fail
  go_ret
  exact ⟨rfl, HR.out, HK.out⟩
theorem reftick_Bm (g : Nat) (lo hi k L P G C d : Int) (w : World) (h : Rf w g lo hi k L P G C) (hG1 : -9223372036854775808 ≤ G + 1) (hG2 : G + 1 ≤ 9223372036854775807) (hL1 : -4611686018427387904 ≤ 2 * L) (hL3 : 2 * L ≤ 9223372036854775806) (hhi : hi ≤ 9223372036854775806) (hs : G + 1 = P) (hk : k = 0) (hc : ¬ (G + 1 = L)) :
    Calls Try.prog 42 #[.pointer (some ⟨g, 0, none⟩), .int .i64 d] w fun e w' => e = .returned (.bool true) ∧ Rf w' g lo hi k L P (G + 1) C ∧ Kp w w' (fun k => k = g) := by
  have H := Lib.hid h
  have h5 := (blk_cell h 5).trans (show _ = some (.int .i64 G) from rfl)
  have f5 := blk_frozen h 5
  clear h
  have s1 : (G + 1 == P) = true := by simpa using hs
  have s2 : (k == 0) = true := by simpa using hk
  have e1 : (G + 1 == L) = false := by simpa using hc
  clear hs hk hc
  go_enter Try.func42, Try.ntmps42
  go_wp2_with fail
  have H1 : Hid (Rf (w.setCell ⟨g, 5, none⟩ (.int .i64 (G + 1))) g lo hi k L P (G + 1) C) := Lib.hid (blk_put H.out 5 _ rfl)
  have K1 := Lib.hid ((Kp.refl w (fun k => k = g)).setCell (p := ⟨g, 5, none⟩) (.inl rfl) (.int .i64 (G + 1)))
  clear h5 f5
  generalize w.setCell ⟨g, 5, none⟩ (.int .i64 (G + 1)) = w1 at H1 K1 ⊢
  have h1 := (blk_cell H1.out 1).trans (show _ = some (.int .i64 hi) from rfl)
  have h2 := (blk_cell H1.out 2).trans (show _ = some (.int .i64 k) from rfl)
  have h3 := (blk_cell H1.out 3).trans (show _ = some (.int .i64 L) from rfl)
  have h4 := (blk_cell H1.out 4).trans (show _ = some (.int .i64 P) from rfl)
  have h5 := (blk_cell H1.out 5).trans (show _ = some (.int .i64 (G + 1)) from rfl)
  have h6 := (blk_cell H1.out 6).trans (show _ = some (.int .i64 C) from rfl)
  go_quiet (fail)
  go_wp2_with fail
  go_quiet (fail)
  go_wp2_with fail
  go_ret
  exact ⟨rfl, H1.out, (K1.out.drewN _).drewN _⟩
theorem reftick_B2 (g : Nat) (lo hi k L P G C d : Int) (w : World) (h : Rf w g lo hi k L P G C) (hG1 : -9223372036854775808 ≤ G + 1) (hG2 : G + 1 ≤ 9223372036854775807) (hL1 : -4611686018427387904 ≤ 2 * L) (hL3 : 2 * L ≤ 9223372036854775806) (hhi : hi ≤ 9223372036854775806) (hs : G + 1 = P) (hk : k = 0) (hc : G + 1 = L) (hm : ¬ (hi < 2 * L)) :
    Calls Try.prog 42 #[.pointer (some ⟨g, 0, none⟩), .int .i64 d] w fun e w' => e = .returned (.bool true) ∧ Rf w' g lo hi k (2 * L) (placeF (2 * L) d) 0 0 ∧ Kp w w' (fun k => k = g) := by
  have H := Lib.hid h
  have h5 := (blk_cell h 5).trans (show _ = some (.int .i64 G) from rfl)
  have f5 := blk_frozen h 5
  clear h
  have s1 : (G + 1 == P) = true := by simpa using hs
  have s2 : (k == 0) = true := by simpa using hk
  have e1 : (G + 1 == L) = true := by simpa using hc
  have e2 : decide (hi < 2 * L) = false := by simpa using hm
  clear hs hk hc hm
  go_enter Try.func42, Try.ntmps42
  go_wp2_with fail
  have H1 : Hid (Rf (w.setCell ⟨g, 5, none⟩ (.int .i64 (G + 1))) g lo hi k L P (G + 1) C) := Lib.hid (blk_put H.out 5 _ rfl)
  have K1 := Lib.hid ((Kp.refl w (fun k => k = g)).setCell (p := ⟨g, 5, none⟩) (.inl rfl) (.int .i64 (G + 1)))
  clear h5 f5
  generalize w.setCell ⟨g, 5, none⟩ (.int .i64 (G + 1)) = w1 at H1 K1 ⊢
  have h1 := (blk_cell H1.out 1).trans (show _ = some (.int .i64 hi) from rfl)
  have h2 := (blk_cell H1.out 2).trans (show _ = some (.int .i64 k) from rfl)
  have h3 := (blk_cell H1.out 3).trans (show _ = some (.int .i64 L) from rfl)
  have h4 := (blk_cell H1.out 4).trans (show _ = some (.int .i64 P) from rfl)
  have h5 := (blk_cell H1.out 5).trans (show _ = some (.int .i64 (G + 1)) from rfl)
  have h6 := (blk_cell H1.out 6).trans (show _ = some (.int .i64 C) from rfl)
  go_quiet (fail)
  go_wp2_with fail
  go_quiet (fail)
  go_wp2_with fail
  refine (refbegin g lo hi k L P (G + 1) C (2 * L) d (by omega) (w1.drewN _) H1.out).mono ?_
  rintro e w2 ⟨rfl, hR, hK⟩
  have HR := Lib.hid hR
  have HK := Lib.hid (kp_below (K1.out.drewN _) hK)
  clear hR hK
  go_wp2_with fail
  go_ret
  exact ⟨rfl, HR.out, HK.out⟩
theorem reftick_Bx (g : Nat) (lo hi k L P G C d : Int) (w : World) (h : Rf w g lo hi k L P G C) (hG1 : -9223372036854775808 ≤ G + 1) (hG2 : G + 1 ≤ 9223372036854775807) (hL1 : -4611686018427387904 ≤ 2 * L) (hL3 : 2 * L ≤ 9223372036854775806) (hhi : hi ≤ 9223372036854775806) (hs : G + 1 = P) (hk : k = 0) (hc : G + 1 = L) (hm : hi < 2 * L) :
    Calls Try.prog 42 #[.pointer (some ⟨g, 0, none⟩), .int .i64 d] w fun e w' => e = .returned (.bool true) ∧ Rf w' g lo hi k hi (placeF hi d) 0 0 ∧ Kp w w' (fun k => k = g) := by
  have H := Lib.hid h
  have h5 := (blk_cell h 5).trans (show _ = some (.int .i64 G) from rfl)
  have f5 := blk_frozen h 5
  clear h
  have s1 : (G + 1 == P) = true := by simpa using hs
  have s2 : (k == 0) = true := by simpa using hk
  have e1 : (G + 1 == L) = true := by simpa using hc
  have e2 : decide (hi < 2 * L) = true := by simpa using hm
  clear hs hk hc hm
  go_enter Try.func42, Try.ntmps42
  go_wp2_with fail
  have H1 : Hid (Rf (w.setCell ⟨g, 5, none⟩ (.int .i64 (G + 1))) g lo hi k L P (G + 1) C) := Lib.hid (blk_put H.out 5 _ rfl)
  have K1 := Lib.hid ((Kp.refl w (fun k => k = g)).setCell (p := ⟨g, 5, none⟩) (.inl rfl) (.int .i64 (G + 1)))
  clear h5 f5
  generalize w.setCell ⟨g, 5, none⟩ (.int .i64 (G + 1)) = w1 at H1 K1 ⊢
  have h1 := (blk_cell H1.out 1).trans (show _ = some (.int .i64 hi) from rfl)
  have h2 := (blk_cell H1.out 2).trans (show _ = some (.int .i64 k) from rfl)
  have h3 := (blk_cell H1.out 3).trans (show _ = some (.int .i64 L) from rfl)
  have h4 := (blk_cell H1.out 4).trans (show _ = some (.int .i64 P) from rfl)
  have h5 := (blk_cell H1.out 5).trans (show _ = some (.int .i64 (G + 1)) from rfl)
  have h6 := (blk_cell H1.out 6).trans (show _ = some (.int .i64 C) from rfl)
  go_quiet (fail)
  go_wp2_with fail
  go_quiet (fail)
  go_wp2_with fail
  refine (refbegin g lo hi k L P (G + 1) C hi d (by omega) (w1.drewN _) H1.out).mono ?_
  rintro e w2 ⟨rfl, hR, hK⟩
  have HR := Lib.hid hR
  have HK := Lib.hid (kp_below (K1.out.drewN _) hK)
  clear hR hK
  go_wp2_with fail
  go_ret
  exact ⟨rfl, HR.out, HK.out⟩
theorem reftick_Cm (g : Nat) (lo hi k L P G C d : Int) (w : World) (h : Rf w g lo hi k L P G C) (hG1 : -9223372036854775808 ≤ G + 1) (hG2 : G + 1 ≤ 9223372036854775807) (hL1 : -4611686018427387904 ≤ 2 * L) (hL3 : 2 * L ≤ 9223372036854775806) (hhi : hi ≤ 9223372036854775806) (hs : G + 1 = P) (hk : ¬ (k = 0)) (hC : C < k) (hc : ¬ (G + 1 = L)) :
    Calls Try.prog 42 #[.pointer (some ⟨g, 0, none⟩), .int .i64 d] w fun e w' => e = .returned (.bool true) ∧ Rf w' g lo hi k L P (G + 1) C ∧ Kp w w' (fun k => k = g) := by
  have H := Lib.hid h
  have h5 := (blk_cell h 5).trans (show _ = some (.int .i64 G) from rfl)
  have f5 := blk_frozen h 5
  clear h
  have s1 : (G + 1 == P) = true := by simpa using hs
  have s2 : (k == 0) = false := by simpa using hk
  have s3 : decide (C < k) = true := by simpa using hC
  have e1 : (G + 1 == L) = false := by simpa using hc
  clear hs hk hC hc
  go_enter Try.func42, Try.ntmps42
  go_wp2_with fail
  have H1 : Hid (Rf (w.setCell ⟨g, 5, none⟩ (.int .i64 (G + 1))) g lo hi k L P (G + 1) C) := Lib.hid (blk_put H.out 5 _ rfl)
  have K1 := Lib.hid ((Kp.refl w (fun k => k = g)).setCell (p := ⟨g, 5, none⟩) (.inl rfl) (.int .i64 (G + 1)))
  clear h5 f5
  generalize w.setCell ⟨g, 5, none⟩ (.int .i64 (G + 1)) = w1 at H1 K1 ⊢
  have h1 := (blk_cell H1.out 1).trans (show _ = some (.int .i64 hi) from rfl)
  have h2 := (blk_cell H1.out 2).trans (show _ = some (.int .i64 k) from rfl)
  have h3 := (blk_cell H1.out 3).trans (show _ = some (.int .i64 L) from rfl)
  have h4 := (blk_cell H1.out 4).trans (show _ = some (.int .i64 P) from rfl)
  have h5 := (blk_cell H1.out 5).trans (show _ = some (.int .i64 (G + 1)) from rfl)
  have h6 := (blk_cell H1.out 6).trans (show _ = some (.int .i64 C) from rfl)
  go_quiet (fail)
  go_wp2_with fail
  go_quiet (fail)
  go_wp2_with fail
  go_ret
  exact ⟨rfl, H1.out, (K1.out.drewN _).drewN _⟩
theorem reftick_C2 (g : Nat) (lo hi k L P G C d : Int) (w : World) (h : Rf w g lo hi k L P G C) (hG1 : -9223372036854775808 ≤ G + 1) (hG2 : G + 1 ≤ 9223372036854775807) (hL1 : -4611686018427387904 ≤ 2 * L) (hL3 : 2 * L ≤ 9223372036854775806) (hhi : hi ≤ 9223372036854775806) (hs : G + 1 = P) (hk : ¬ (k = 0)) (hC : C < k) (hc : G + 1 = L) (hm : ¬ (hi < 2 * L)) :
    Calls Try.prog 42 #[.pointer (some ⟨g, 0, none⟩), .int .i64 d] w fun e w' => e = .returned (.bool true) ∧ Rf w' g lo hi k (2 * L) (placeF (2 * L) d) 0 0 ∧ Kp w w' (fun k => k = g) := by
  have H := Lib.hid h
  have h5 := (blk_cell h 5).trans (show _ = some (.int .i64 G) from rfl)
  have f5 := blk_frozen h 5
  clear h
  have s1 : (G + 1 == P) = true := by simpa using hs
  have s2 : (k == 0) = false := by simpa using hk
  have s3 : decide (C < k) = true := by simpa using hC
  have e1 : (G + 1 == L) = true := by simpa using hc
  have e2 : decide (hi < 2 * L) = false := by simpa using hm
  clear hs hk hC hc hm
  go_enter Try.func42, Try.ntmps42
  go_wp2_with fail
  have H1 : Hid (Rf (w.setCell ⟨g, 5, none⟩ (.int .i64 (G + 1))) g lo hi k L P (G + 1) C) := Lib.hid (blk_put H.out 5 _ rfl)
  have K1 := Lib.hid ((Kp.refl w (fun k => k = g)).setCell (p := ⟨g, 5, none⟩) (.inl rfl) (.int .i64 (G + 1)))
  clear h5 f5
  generalize w.setCell ⟨g, 5, none⟩ (.int .i64 (G + 1)) = w1 at H1 K1 ⊢
  have h1 := (blk_cell H1.out 1).trans (show _ = some (.int .i64 hi) from rfl)
  have h2 := (blk_cell H1.out 2).trans (show _ = some (.int .i64 k) from rfl)
  have h3 := (blk_cell H1.out 3).trans (show _ = some (.int .i64 L) from rfl)
  have h4 := (blk_cell H1.out 4).trans (show _ = some (.int .i64 P) from rfl)
  have h5 := (blk_cell H1.out 5).trans (show _ = some (.int .i64 (G + 1)) from rfl)
  have h6 := (blk_cell H1.out 6).trans (show _ = some (.int .i64 C) from rfl)
  go_quiet (fail)
  go_wp2_with fail
  go_quiet (fail)
  go_wp2_with fail
  refine (refbegin g lo hi k L P (G + 1) C (2 * L) d (by omega) (w1.drewN _) H1.out).mono ?_
  rintro e w2 ⟨rfl, hR, hK⟩
  have HR := Lib.hid hR
  have HK := Lib.hid (kp_below (K1.out.drewN _) hK)
  clear hR hK
  go_wp2_with fail
  go_ret
  exact ⟨rfl, HR.out, HK.out⟩
theorem reftick_Cx (g : Nat) (lo hi k L P G C d : Int) (w : World) (h : Rf w g lo hi k L P G C) (hG1 : -9223372036854775808 ≤ G + 1) (hG2 : G + 1 ≤ 9223372036854775807) (hL1 : -4611686018427387904 ≤ 2 * L) (hL3 : 2 * L ≤ 9223372036854775806) (hhi : hi ≤ 9223372036854775806) (hs : G + 1 = P) (hk : ¬ (k = 0)) (hC : C < k) (hc : G + 1 = L) (hm : hi < 2 * L) :
    Calls Try.prog 42 #[.pointer (some ⟨g, 0, none⟩), .int .i64 d] w fun e w' => e = .returned (.bool true) ∧ Rf w' g lo hi k hi (placeF hi d) 0 0 ∧ Kp w w' (fun k => k = g) := by
  have H := Lib.hid h
  have h5 := (blk_cell h 5).trans (show _ = some (.int .i64 G) from rfl)
  have f5 := blk_frozen h 5
  clear h
  have s1 : (G + 1 == P) = true := by simpa using hs
  have s2 : (k == 0) = false := by simpa using hk
  have s3 : decide (C < k) = true := by simpa using hC
  have e1 : (G + 1 == L) = true := by simpa using hc
  have e2 : decide (hi < 2 * L) = true := by simpa using hm
  clear hs hk hC hc hm
  go_enter Try.func42, Try.ntmps42
  go_wp2_with fail
  have H1 : Hid (Rf (w.setCell ⟨g, 5, none⟩ (.int .i64 (G + 1))) g lo hi k L P (G + 1) C) := Lib.hid (blk_put H.out 5 _ rfl)
  have K1 := Lib.hid ((Kp.refl w (fun k => k = g)).setCell (p := ⟨g, 5, none⟩) (.inl rfl) (.int .i64 (G + 1)))
  clear h5 f5
  generalize w.setCell ⟨g, 5, none⟩ (.int .i64 (G + 1)) = w1 at H1 K1 ⊢
  have h1 := (blk_cell H1.out 1).trans (show _ = some (.int .i64 hi) from rfl)
  have h2 := (blk_cell H1.out 2).trans (show _ = some (.int .i64 k) from rfl)
  have h3 := (blk_cell H1.out 3).trans (show _ = some (.int .i64 L) from rfl)
  have h4 := (blk_cell H1.out 4).trans (show _ = some (.int .i64 P) from rfl)
  have h5 := (blk_cell H1.out 5).trans (show _ = some (.int .i64 (G + 1)) from rfl)
  have h6 := (blk_cell H1.out 6).trans (show _ = some (.int .i64 C) from rfl)
  go_quiet (fail)
  go_wp2_with fail
  go_quiet (fail)
  go_wp2_with fail
  refine (refbegin g lo hi k L P (G + 1) C hi d (by omega) (w1.drewN _) H1.out).mono ?_
  rintro e w2 ⟨rfl, hR, hK⟩
  have HR := Lib.hid hR
  have HK := Lib.hid (kp_below (K1.out.drewN _) hK)
  clear hR hK
  go_wp2_with fail
  go_ret
  exact ⟨rfl, HR.out, HK.out⟩
theorem reftick_Dm (g : Nat) (lo hi k L P G C d : Int) (w : World) (h : Rf w g lo hi k L P G C) (hG1 : -9223372036854775808 ≤ G + 1) (hG2 : G + 1 ≤ 9223372036854775807) (hL1 : -4611686018427387904 ≤ 2 * L) (hL3 : 2 * L ≤ 9223372036854775806) (hhi : hi ≤ 9223372036854775806) (hs : G + 1 = P) (hk : ¬ (k = 0)) (hC : ¬ (C < k)) (hc : ¬ (G + 1 = L)) :
    Calls Try.prog 42 #[.pointer (some ⟨g, 0, none⟩), .int .i64 d] w fun e w' => e = .returned (.bool false) ∧ Rf w' g lo hi k L P (G + 1) C ∧ Kp w w' (fun k => k = g) := by
  have H := Lib.hid h
  have h5 := (blk_cell h 5).trans (show _ = some (.int .i64 G) from rfl)
  have f5 := blk_frozen h 5
  clear h
  have s1 : (G + 1 == P) = true := by simpa using hs
  have s2 : (k == 0) = false := by simpa using hk
  have s3 : decide (C < k) = false := by simpa using hC
  have e1 : (G + 1 == L) = false := by simpa using hc
  clear hs hk hC hc
  go_enter Try.func42, Try.ntmps42
  go_wp2_with fail
  have H1 : Hid (Rf (w.setCell ⟨g, 5, none⟩ (.int .i64 (G + 1))) g lo hi k L P (G + 1) C) := Lib.hid (blk_put H.out 5 _ rfl)
  have K1 := Lib.hid ((Kp.refl w (fun k => k = g)).setCell (p := ⟨g, 5, none⟩) (.inl rfl) (.int .i64 (G + 1)))
  clear h5 f5
  generalize w.setCell ⟨g, 5, none⟩ (.int .i64 (G + 1)) = w1 at H1 K1 ⊢
  have h1 := (blk_cell H1.out 1).trans (show _ = some (.int .i64 hi) from rfl)
  have h2 := (blk_cell H1.out 2).trans (show _ = some (.int .i64 k) from rfl)
  have h3 := (blk_cell H1.out 3).trans (show _ = some (.int .i64 L) from rfl)
  have h4 := (blk_cell H1.out 4).trans (show _ = some (.int .i64 P) from rfl)
  have h5 := (blk_cell H1.out 5).trans (show _ = some (.int .i64 (G + 1)) from rfl)
  have h6 := (blk_cell H1.out 6).trans (show _ = some (.int .i64 C) from rfl)
  go_quiet (fail)
  go_wp2_with fail
  go_quiet (fail)
  go_wp2_with fail
  go_ret
  exact ⟨rfl, H1.out, (K1.out.drewN _).drewN _⟩
theorem reftick_D2 (g : Nat) (lo hi k L P G C d : Int) (w : World) (h : Rf w g lo hi k L P G C) (hG1 : -9223372036854775808 ≤ G + 1) (hG2 : G + 1 ≤ 9223372036854775807) (hL1 : -4611686018427387904 ≤ 2 * L) (hL3 : 2 * L ≤ 9223372036854775806) (hhi : hi ≤ 9223372036854775806) (hs : G + 1 = P) (hk : ¬ (k = 0)) (hC : ¬ (C < k)) (hc : G + 1 = L) (hm : ¬ (hi < 2 * L)) :
    Calls Try.prog 42 #[.pointer (some ⟨g, 0, none⟩), .int .i64 d] w fun e w' => e = .returned (.bool false) ∧ Rf w' g lo hi k (2 * L) (placeF (2 * L) d) 0 0 ∧ Kp w w' (fun k => k = g) := by
  have H := Lib.hid h
  have h5 := (blk_cell h 5).trans (show _ = some (.int .i64 G) from rfl)
  have f5 := blk_frozen h 5
  clear h
  have s1 : (G + 1 == P) = true := by simpa using hs
  have s2 : (k == 0) = false := by simpa using hk
  have s3 : decide (C < k) = false := by simpa using hC
  have e1 : (G + 1 == L) = true := by simpa using hc
  have e2 : decide (hi < 2 * L) = false := by simpa using hm
  clear hs hk hC hc hm
  go_enter Try.func42, Try.ntmps42
  go_wp2_with fail
  have H1 : Hid (Rf (w.setCell ⟨g, 5, none⟩ (.int .i64 (G + 1))) g lo hi k L P (G + 1) C) := Lib.hid (blk_put H.out 5 _ rfl)
  have K1 := Lib.hid ((Kp.refl w (fun k => k = g)).setCell (p := ⟨g, 5, none⟩) (.inl rfl) (.int .i64 (G + 1)))
  clear h5 f5
  generalize w.setCell ⟨g, 5, none⟩ (.int .i64 (G + 1)) = w1 at H1 K1 ⊢
  have h1 := (blk_cell H1.out 1).trans (show _ = some (.int .i64 hi) from rfl)
  have h2 := (blk_cell H1.out 2).trans (show _ = some (.int .i64 k) from rfl)
  have h3 := (blk_cell H1.out 3).trans (show _ = some (.int .i64 L) from rfl)
  have h4 := (blk_cell H1.out 4).trans (show _ = some (.int .i64 P) from rfl)
  have h5 := (blk_cell H1.out 5).trans (show _ = some (.int .i64 (G + 1)) from rfl)
  have h6 := (blk_cell H1.out 6).trans (show _ = some (.int .i64 C) from rfl)
  go_quiet (fail)
  go_wp2_with fail
  go_quiet (fail)
  go_wp2_with fail
  refine (refbegin g lo hi k L P (G + 1) C (2 * L) d (by omega) (w1.drewN _) H1.out).mono ?_
  rintro e w2 ⟨rfl, hR, hK⟩
  have HR := Lib.hid hR
  have HK := Lib.hid (kp_below (K1.out.drewN _) hK)
  clear hR hK
  go_wp2_with fail
  go_ret
  exact ⟨rfl, HR.out, HK.out⟩
theorem reftick_Dx (g : Nat) (lo hi k L P G C d : Int) (w : World) (h : Rf w g lo hi k L P G C) (hG1 : -9223372036854775808 ≤ G + 1) (hG2 : G + 1 ≤ 9223372036854775807) (hL1 : -4611686018427387904 ≤ 2 * L) (hL3 : 2 * L ≤ 9223372036854775806) (hhi : hi ≤ 9223372036854775806) (hs : G + 1 = P) (hk : ¬ (k = 0)) (hC : ¬ (C < k)) (hc : G + 1 = L) (hm : hi < 2 * L) :
    Calls Try.prog 42 #[.pointer (some ⟨g, 0, none⟩), .int .i64 d] w fun e w' => e = .returned (.bool false) ∧ Rf w' g lo hi k hi (placeF hi d) 0 0 ∧ Kp w w' (fun k => k = g) := by
  have H := Lib.hid h
  have h5 := (blk_cell h 5).trans (show _ = some (.int .i64 G) from rfl)
  have f5 := blk_frozen h 5
  clear h
  have s1 : (G + 1 == P) = true := by simpa using hs
  have s2 : (k == 0) = false := by simpa using hk
  have s3 : decide (C < k) = false := by simpa using hC
  have e1 : (G + 1 == L) = true := by simpa using hc
  have e2 : decide (hi < 2 * L) = true := by simpa using hm
  clear hs hk hC hc hm
  go_enter Try.func42, Try.ntmps42
  go_wp2_with fail
  have H1 : Hid (Rf (w.setCell ⟨g, 5, none⟩ (.int .i64 (G + 1))) g lo hi k L P (G + 1) C) := Lib.hid (blk_put H.out 5 _ rfl)
  have K1 := Lib.hid ((Kp.refl w (fun k => k = g)).setCell (p := ⟨g, 5, none⟩) (.inl rfl) (.int .i64 (G + 1)))
  clear h5 f5
  generalize w.setCell ⟨g, 5, none⟩ (.int .i64 (G + 1)) = w1 at H1 K1 ⊢
  have h1 := (blk_cell H1.out 1).trans (show _ = some (.int .i64 hi) from rfl)
  have h2 := (blk_cell H1.out 2).trans (show _ = some (.int .i64 k) from rfl)
  have h3 := (blk_cell H1.out 3).trans (show _ = some (.int .i64 L) from rfl)
  have h4 := (blk_cell H1.out 4).trans (show _ = some (.int .i64 P) from rfl)
  have h5 := (blk_cell H1.out 5).trans (show _ = some (.int .i64 (G + 1)) from rfl)
  have h6 := (blk_cell H1.out 6).trans (show _ = some (.int .i64 C) from rfl)
  go_quiet (fail)
  go_wp2_with fail
  go_quiet (fail)
  go_wp2_with fail
  refine (refbegin g lo hi k L P (G + 1) C hi d (by omega) (w1.drewN _) H1.out).mono ?_
  rintro e w2 ⟨rfl, hR, hK⟩
  have HR := Lib.hid hR
  have HK := Lib.hid (kp_below (K1.out.drewN _) hK)
  clear hR hK
  go_wp2_with fail
  go_ret
  exact ⟨rfl, HR.out, HK.out⟩
theorem reftick_all (g : Nat) (L P G C lo hi k d : Int) (w : World) (h : Rf w g lo hi k L P G C) (hG : 0 ≤ G) (hGL : G < L) (hL : L ≤ hi) (hhi : hi ≤ 68719476736) :
    Calls Try.prog 42 #[.pointer (some ⟨g, 0, none⟩), .int .i64 d] w fun e w' => e = .returned (.bool (spF P (G + 1) C k)) ∧ Rf w' g lo hi k (nL L G hi) (nP L P G hi d) (nG L G) (nC L G C) ∧ Kp w w' (fun k => k = g) := by
  by_cases hs : G + 1 = P
  · by_cases hk : k = 0
    ·
      by_cases hc : G + 1 = L
      · by_cases hm : hi < 2 * L
        ·
          have hsp : spF P (G + 1) C k = true := by unfold spF; rw [beq_iff_eq.2 hs, beq_iff_eq.2 hk]; rfl
          rw [hsp]
          refine (reftick_Bx g lo hi k L P G C d w h (by omega) (by omega) (by omega) (by omega) (by omega) hs hk hc hm).mono ?_
          rintro e w' ⟨rfl, hR, hK⟩
          refine ⟨rfl, ?_, hK⟩
          unfold nP nG nC nL
          rw [if_pos hc, if_pos hc, if_pos hc, if_pos hc, if_neg (by omega)]
          exact hR
        ·
          have hsp : spF P (G + 1) C k = true := by unfold spF; rw [beq_iff_eq.2 hs, beq_iff_eq.2 hk]; rfl
          rw [hsp]
          refine (reftick_B2 g lo hi k L P G C d w h (by omega) (by omega) (by omega) (by omega) (by omega) hs hk hc hm).mono ?_
          rintro e w' ⟨rfl, hR, hK⟩
          refine ⟨rfl, ?_, hK⟩
          unfold nP nG nC nL
          rw [if_pos hc, if_pos hc, if_pos hc, if_pos hc, if_pos (by omega)]
          exact hR
      ·
        have hsp : spF P (G + 1) C k = true := by unfold spF; rw [beq_iff_eq.2 hs, beq_iff_eq.2 hk]; rfl
        rw [hsp]
        refine (reftick_Bm g lo hi k L P G C d w h (by omega) (by omega) (by omega) (by omega) (by omega) hs hk hc).mono ?_
        rintro e w' ⟨rfl, hR, hK⟩
        refine ⟨rfl, ?_, hK⟩
        unfold nP nG nC nL
        rw [if_neg hc, if_neg hc, if_neg hc, if_neg hc]
        exact hR
    · by_cases hC : C < k
      ·
        by_cases hc : G + 1 = L
        · by_cases hm : hi < 2 * L
          ·
            have hsp : spF P (G + 1) C k = true := by unfold spF; rw [beq_iff_eq.2 hs, beq_eq_false_iff_ne.2 hk, decide_eq_true hC]; rfl
            rw [hsp]
            refine (reftick_Cx g lo hi k L P G C d w h (by omega) (by omega) (by omega) (by omega) (by omega) hs hk hC hc hm).mono ?_
            rintro e w' ⟨rfl, hR, hK⟩
            refine ⟨rfl, ?_, hK⟩
            unfold nP nG nC nL
            rw [if_pos hc, if_pos hc, if_pos hc, if_pos hc, if_neg (by omega)]
            exact hR
          ·
            have hsp : spF P (G + 1) C k = true := by unfold spF; rw [beq_iff_eq.2 hs, beq_eq_false_iff_ne.2 hk, decide_eq_true hC]; rfl
            rw [hsp]
            refine (reftick_C2 g lo hi k L P G C d w h (by omega) (by omega) (by omega) (by omega) (by omega) hs hk hC hc hm).mono ?_
            rintro e w' ⟨rfl, hR, hK⟩
            refine ⟨rfl, ?_, hK⟩
            unfold nP nG nC nL
            rw [if_pos hc, if_pos hc, if_pos hc, if_pos hc, if_pos (by omega)]
            exact hR
        ·
          have hsp : spF P (G + 1) C k = true := by unfold spF; rw [beq_iff_eq.2 hs, beq_eq_false_iff_ne.2 hk, decide_eq_true hC]; rfl
          rw [hsp]
          refine (reftick_Cm g lo hi k L P G C d w h (by omega) (by omega) (by omega) (by omega) (by omega) hs hk hC hc).mono ?_
          rintro e w' ⟨rfl, hR, hK⟩
          refine ⟨rfl, ?_, hK⟩
          unfold nP nG nC nL
          rw [if_neg hc, if_neg hc, if_neg hc, if_neg hc]
          exact hR
      ·
        by_cases hc : G + 1 = L
        · by_cases hm : hi < 2 * L
          ·
            have hsp : spF P (G + 1) C k = false := by unfold spF; rw [beq_iff_eq.2 hs, beq_eq_false_iff_ne.2 hk, decide_eq_false hC]; rfl
            rw [hsp]
            refine (reftick_Dx g lo hi k L P G C d w h (by omega) (by omega) (by omega) (by omega) (by omega) hs hk hC hc hm).mono ?_
            rintro e w' ⟨rfl, hR, hK⟩
            refine ⟨rfl, ?_, hK⟩
            unfold nP nG nC nL
            rw [if_pos hc, if_pos hc, if_pos hc, if_pos hc, if_neg (by omega)]
            exact hR
          ·
            have hsp : spF P (G + 1) C k = false := by unfold spF; rw [beq_iff_eq.2 hs, beq_eq_false_iff_ne.2 hk, decide_eq_false hC]; rfl
            rw [hsp]
            refine (reftick_D2 g lo hi k L P G C d w h (by omega) (by omega) (by omega) (by omega) (by omega) hs hk hC hc hm).mono ?_
            rintro e w' ⟨rfl, hR, hK⟩
            refine ⟨rfl, ?_, hK⟩
            unfold nP nG nC nL
            rw [if_pos hc, if_pos hc, if_pos hc, if_pos hc, if_pos (by omega)]
            exact hR
        ·
          have hsp : spF P (G + 1) C k = false := by unfold spF; rw [beq_iff_eq.2 hs, beq_eq_false_iff_ne.2 hk, decide_eq_false hC]; rfl
          rw [hsp]
          refine (reftick_Dm g lo hi k L P G C d w h (by omega) (by omega) (by omega) (by omega) (by omega) hs hk hC hc).mono ?_
          rintro e w' ⟨rfl, hR, hK⟩
          refine ⟨rfl, ?_, hK⟩
          unfold nP nG nC nL
          rw [if_neg hc, if_neg hc, if_neg hc, if_neg hc]
          exact hR
  ·
    by_cases hc : G + 1 = L
    · by_cases hm : hi < 2 * L
      ·
        have hsp : spF P (G + 1) C k = false := by unfold spF; rw [beq_eq_false_iff_ne.2 hs]; rfl
        rw [hsp]
        refine (reftick_Ax g lo hi k L P G C d w h (by omega) (by omega) (by omega) (by omega) (by omega) hs hc hm).mono ?_
        rintro e w' ⟨rfl, hR, hK⟩
        refine ⟨rfl, ?_, hK⟩
        unfold nP nG nC nL
        rw [if_pos hc, if_pos hc, if_pos hc, if_pos hc, if_neg (by omega)]
        exact hR
      ·
        have hsp : spF P (G + 1) C k = false := by unfold spF; rw [beq_eq_false_iff_ne.2 hs]; rfl
        rw [hsp]
        refine (reftick_A2 g lo hi k L P G C d w h (by omega) (by omega) (by omega) (by omega) (by omega) hs hc hm).mono ?_
        rintro e w' ⟨rfl, hR, hK⟩
        refine ⟨rfl, ?_, hK⟩
        unfold nP nG nC nL
        rw [if_pos hc, if_pos hc, if_pos hc, if_pos hc, if_pos (by omega)]
        exact hR
    ·
      have hsp : spF P (G + 1) C k = false := by unfold spF; rw [beq_eq_false_iff_ne.2 hs]; rfl
      rw [hsp]
      refine (reftick_Am g lo hi k L P G C d w h (by omega) (by omega) (by omega) (by omega) (by omega) hs hc).mono ?_
      rintro e w' ⟨rfl, hR, hK⟩
      refine ⟨rfl, ?_, hK⟩
      unfold nP nG nC nL
      rw [if_neg hc, if_neg hc, if_neg hc, if_neg hc]
      exact hR
end Go.Proofs.Ytanpnhponefbbaa.Tr
