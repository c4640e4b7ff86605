/- TricklePlays. -/
import Derived.Test.YtanpnhponefbbaaTrRef
set_option linter.unusedVariables false
set_option linter.unusedSimpArgs false
namespace Go.Proofs.Ytanpnhponefbbaa.Tr
open Go.RowKit Go.Proofs.YtanpnhponefbbaaW.PrintWords Go.Proofs.Ytanpnhponefbbaa.PTricklePlaces
/-- The trickle at g and the reference at d agree. -/
def Agree (w : World) (B g d : Nat) (lo hi k : Int) : Prop := B ≤ g ∧ g ≠ d ∧ ∃ L P G C, Tr w g L P G C lo hi k ∧ Rf w d lo hi k L P G C ∧ lo ≤ L ∧ L ≤ hi ∧ 0 ≤ G ∧ G < L ∧ 0 ≤ C ∧ C ≤ 255
theorem nL_bd {lo L G hi : Int} (h1 : lo ≤ L) (h2 : L ≤ hi) (h0 : 1 ≤ lo) : lo ≤ nL L G hi ∧ nL L G hi ≤ hi := by
  unfold nL
  by_cases h3 : G + 1 = L
  · rw [if_pos h3]
    by_cases h4 : 2 * L ≤ hi
    · rw [if_pos h4]; omega
    · rw [if_neg h4]; omega
  · rw [if_neg h3]; omega
theorem nG_bd {lo L G hi : Int} (h1 : lo ≤ L) (h2 : L ≤ hi) (h0 : 1 ≤ lo) (hG : 0 ≤ G) (hGL : G < L) : 0 ≤ nG L G ∧ nG L G < nL L G hi := by
  unfold nG nL
  by_cases h3 : G + 1 = L
  · rw [if_pos h3, if_pos h3]
    by_cases h4 : 2 * L ≤ hi
    · rw [if_pos h4]; omega
    · rw [if_neg h4]; omega
  · rw [if_neg h3, if_neg h3]; omega
theorem nC_bd {L G C : Int} (h0 : 0 ≤ C) (h1 : C ≤ 255) : 0 ≤ nC L G C ∧ nC L G C ≤ 255 := by
  unfold nC; split <;> omega
theorem addr_add' (a : Addr) (n m : Nat) : (a.add n).add m = a.add (n + m) := by
  obtain ⟨b, o, sp⟩ := a
  unfold Addr.add
  by_cases hn : n = 0
  · subst hn; simp
  · by_cases hm : m = 0
    · subst hm; simp [hn]
    · have : ¬ (n + m = 0) := by omega
      simp [hn, hm, this, Nat.add_assoc]
theorem cell_fld {w : World} {a : Addr} {n j : Nat} {u : Value} (h : w.cell? (a.add (n + (j + 1))) = some u) : w.cell? ⟨(a.add n).block, (a.add n).off + (j + 1), none⟩ = some u := by
  rw [← addr_add'] at h
  exact h
theorem agree_below {w w' : World} {B g d : Nat} {lo hi k : Int} (h : Agree w B g d lo hi k) (hb : Below w.heap.size w w') : Agree w' B g d lo hi k := by
  obtain ⟨h1, h2, L, P, G, C, hT, hR, h3⟩ := h
  exact ⟨h1, h2, L, P, G, C, blk_bel hT hb, blk_bel hR hb, h3⟩
theorem agree_mk {w : World} {B g d : Nat} {lo hi k L P G C : Int} (h1 : B ≤ g) (h2 : g ≠ d) (hT : Tr w g L P G C lo hi k) (hR : Rf w d lo hi k L P G C) (a : lo ≤ L ∧ L ≤ hi) (b : 0 ≤ G ∧ G < L) (c : 0 ≤ C ∧ C ≤ 255) : Agree w B g d lo hi k :=
  ⟨h1, h2, L, P, G, C, hT, hR, a.1, a.2, b.1, b.2, c.1, c.2⟩
set_option maxRecDepth 100000 in
theorem plays_bad (a0 a1 a2 a3 : Int) (A : Option Addr) (c : Nat) (z : List (Int × Int × Int)) (hb : ¬ rightF a0 a1 a2) (w : World) :
    Calls Try.prog 8 #[.int .i64 a0, .int .i64 a1, .int .i64 a2, .int .i64 a3, .slice A z.length c] w fun e w' => e = .returned (.bool true) ∧ Below w.heap.size w w' := by
  go_enter Try.func8, Try.ntmps8
  go_wp2_with fail
  refine (new_bad a0 a1 a2 a3 hb _).mono ?_
  rintro e w1 ⟨rfl, rfl⟩
  go_wp2_with fail
  refine (right_bad a0 a1 a2 hb _).mono ?_
  rintro e w2 ⟨rfl, rfl⟩
  go_wp2_with fail
  refine (known_any _).mono ?_
  rintro e w3 ⟨rfl, hw3⟩
  have HB := Lib.hid hw3
  clear hw3
  go_wp2_with fail
  go_ret
  exact ⟨rfl, HB.out⟩
set_option maxHeartbeats 200000000 in
set_option maxRecDepth 100000 in
theorem plays_good (lo : Int) (m : Nat) (kk d0 : Int) (A : Option Addr) (c : Nat) (z : List (Int × Int × Int)) (hl1 : 1 ≤ lo) (hl2 : lo ≤ 1048576) (hm : m ≤ 16) (hk1 : 0 ≤ kk) (hk2 : kk ≤ 255) (w : World)
    (hr : Kd.C (Kd.pair (Kd.int .i64) (Kd.pair (Kd.int .i64) (Kd.int .i64))) w A z.length z) (hc : z.length ≤ c) :
    Calls Try.prog 8 #[.int .i64 lo, .int .i64 m, .int .i64 kk, .int .i64 d0, .slice A z.length c] w fun e w' => e = .returned (.bool true) ∧ Below w.heap.size w w' := by
  have HR := Lib.hid hr
  clear hr
  have hs := shl_bd lo m hl1 hl2 (by omega) (by omega)
  rw [Int.toNat_natCast] at hs
  obtain ⟨hi, hhi⟩ : ∃ hi, lo * 2 ^ m = hi := ⟨_, rfl⟩
  rw [hhi] at hs
  obtain ⟨hs1, hs2⟩ := hs
  go_enter Try.func8, Try.ntmps8
  go_wp2_with fail
  refine (new_ok lo m kk d0 hl1 hl2 (by omega) (by omega) hk1 hk2 _).mono ?_
  rintro e w1 ⟨g, rfl, hg, hT, hb⟩
  rw [Int.toNat_natCast, hhi] at hT
  have HT := Lib.hid hT
  have HB := Lib.hid hb
  clear hT hb
  go_wp2_with fail
  refine (right_ok lo m kk ⟨hl1, hl2, by omega, by omega, hk1, hk2⟩ _).mono ?_
  rintro e w2 ⟨rfl, rfl⟩
  go_wp2_with fail
  refine (refnew lo m kk d0 hl1 hl2 hm _).mono ?_
  rintro e w3 ⟨dd, rfl, hd, hRf, hb⟩
  rw [hhi] at hRf
  have hdw : w.heap.size ≤ dd := Nat.le_trans HB.out.size hd
  have HA := Lib.hid (show Agree w3 w.heap.size g dd lo hi kk from ⟨hg, by have := blk_lt HT.out; omega, lo, _, 0, 0, blk_bel HT.out hb, hRf, by omega, by omega, by omega, by omega, by omega, by omega⟩)
  have HB3 := Lib.hid (bel HB.out hb)
  clear HT HB hRf hb hg hd hhi
  go_wp2_with fail
  go_loopg [14, 11] (min z.length 40) (fun gk v14 v11 wr => ∃ (i g : Nat), v14 = .int .i64 i ∧ v11 = .pointer (some ⟨g, 0, none⟩) ∧ i ≤ min z.length 40 ∧ Hid (gk = min z.length 40 - i) ∧ Hid (Agree wr w.heap.size g dd lo hi kk) ∧ Hid (Below w.heap.size w wr))
  case atStart => exact ⟨0, _, rfl, rfl, by omega, Lib.hid (by simp), HA, HB3⟩
  case round =>
    clear HA HB3
    obtain ⟨i, g, rfl, rfl, hi1, HG, HA, HB⟩ := hrel
    by_cases hlt : i < z.length
    · by_cases hlt2 : i < 40
      · obtain ⟨ad, cs, had, hcl, hK, hcell⟩ := (Kd.C_below HR.out HB.out).get_ (0, 0, 0) i (by omega) (by omega)
        simp only [Int.toNat_natCast] at hK hcell
        generalize z.getD i (0, 0, 0) = x at hK
        obtain ⟨x0, x1, x2⟩ := x
        obtain ⟨_, _, rfl, rfl, _, _, rfl, rfl, rfl⟩ := hK
        have q0 := hcell 0 _ rfl
        have q1 := hcell 1 _ rfl
        have q2 := hcell 2 _ rfl
        clear hcell hcl
        cases had
        have q0 : wr.cell? (ad.add (i * 3)) = some (.int .i64 x0) := q0
        have q1 : wr.cell? ⟨(ad.add (i * 3)).block, (ad.add (i * 3)).off + 1, none⟩ = some (.int .i64 x1) := cell_fld (j := 0) q1
        have q2 : wr.cell? ⟨(ad.add (i * 3)).block, (ad.add (i * 3)).off + 2, none⟩ = some (.int .i64 x2) := cell_fld (j := 1) q2
        obtain ⟨nn, hnn, hnn2⟩ : ∃ nn : Nat, (IntKind.u64.wrap x2).tmod 40 = nn ∧ nn ≤ 39 := ⟨((IntKind.u64.wrap x2).tmod 40).toNat, by have := tm_bd x2 40 (by omega); omega, by have := tm_bd x2 40 (by omega); omega⟩
        go_wp2_with fail
        clear hnn
        have HBl := Lib.hid (blk_new wr #[.int .i64 x0, .int .i64 x1, .int .i64 x2] 68)
        have HA1 := Lib.hid (agree_below HA.out (below_new wr (.cells #[.int .i64 x0, .int .i64 x1, .int .i64 x2] 68)))
        have HB1 := Lib.hid (bel HB.out (below_new wr (.cells #[.int .i64 x0, .int .i64 x1, .int .i64 x2] 68)))
        have hgb : Hid (g ≠ wr.heap.size) := Lib.hid (by obtain ⟨_, _, _, _, _, _, hT, _⟩ := HA.out; have := blk_lt hT; omega)
        have hdb : Hid (dd ≠ wr.heap.size) := Lib.hid (by obtain ⟨_, _, _, _, _, _, _, hR, _⟩ := HA.out; have := blk_lt hR; omega)
        have hbw : Hid (w.heap.size ≤ wr.heap.size) := Lib.hid HB.out.size
        clear HA HB q0 q1 q2
        obtain ⟨bb, hbb⟩ : ∃ b : Nat, wr.heap.size = b := ⟨_, rfl⟩
        rw [hbb] at hgb hdb hbw HBl
        simp only [hbb]
        generalize wr.alloc (.cells #[.int .i64 x0, .int .i64 x1, .int .i64 x2] 68) = w5 at HBl HA1 HB1 ⊢
        clear hbb
        go_loopg [17, 11] (nn + 1) (fun g2 v17 v11 wq => ∃ (j g : Nat), v17 = .int .i64 j ∧ v11 = .pointer (some ⟨g, 0, none⟩) ∧ j ≤ nn + 1 ∧ Hid (g2 = nn + 1 - j) ∧ Hid (Agree wq w.heap.size g dd lo hi kk) ∧ Hid (wq.heap[bb]? = some (.cells #[.int .i64 x0, .int .i64 x1, .int .i64 x2] 68 (0, 0))) ∧ Hid (g ≠ bb) ∧ Hid (Below w.heap.size w wq))
        case atStart => exact ⟨0, g, rfl, rfl, by omega, Lib.hid (by simp), HA1, HBl, hgb, HB1⟩
        case round =>
          clear HA1 HBl hgb HB1
          obtain ⟨j, g, rfl, rfl, hj, HG2, HA, HBl, hgb, HB⟩ := hrel
          by_cases hlt3 : j < nn + 1
          · obtain ⟨hgg, hne, L, P, G, C, hT, hRf, b1, b2, b3, b4, b5, b6⟩ := HA.out
            have HT := Lib.hid hT
            have HRf := Lib.hid hRf
            have hgg := Lib.hid hgg
            have hne := Lib.hid hne
            clear hT hRf HA
            have c0 := (blk_cell HBl.out 0).trans (show _ = some (.int .i64 x0) from rfl)
            have c1 := (blk_cell HBl.out 1).trans (show _ = some (.int .i64 x1) from rfl)
            obtain ⟨qq, hqq, hq4⟩ : ∃ q, (IntKind.u64.wrap x0).tmod 4 = q ∧ (q = 0 ∨ q = 1 ∨ q = 2 ∨ q = 3) := ⟨_, rfl, by have := tm_bd x0 4 (by omega); omega⟩
            rcases hq4 with rfl | rfl | rfl | rfl
            ·
              obtain ⟨L', hL'⟩ : ∃ x, nL L G hi = x := ⟨_, rfl⟩
              obtain ⟨P', hP'⟩ : ∃ x, nP L P G hi x1 = x := ⟨_, rfl⟩
              obtain ⟨G', hG'⟩ : ∃ x, nG L G = x := ⟨_, rfl⟩
              obtain ⟨C', hC'⟩ : ∃ x, nC L G C = x := ⟨_, rfl⟩
              have HN := Lib.hid (And.intro hL' (And.intro hP' (And.intro hG' hC')))
              obtain ⟨n1, n2⟩ := nL_bd (G := G) b1 b2 hl1
              obtain ⟨n3, n4⟩ := nG_bd b1 b2 hl1 b3 b4
              obtain ⟨n5, n6⟩ := nC_bd (L := L) (G := G) b5 b6
              rw [hL'] at n1 n2 n4
              rw [hG'] at n3 n4
              rw [hC'] at n5 n6
              clear hL' hP' hG' hC'
              obtain ⟨sb, hsb⟩ : ∃ sb, spF P (G + 1) C kk = sb := ⟨_, rfl⟩
              have HS := Lib.hid hsb
              clear hsb
              go_wp2_with fail
              go_region_held3 (fun w' => w'.cell? ⟨bb, 1, none⟩ = some (.int .i64 x1)) (first | exact c1 | exact c1t | exact c1d) (first | (go_at_call 36; refine (tick_all g L P G C lo hi kk x1 _ ?ht b3 b4 b2 hs2).mono ?_; exact HT.out; rintro e wt ⟨rfl, hTt, hKt⟩; rw [HS.out]; have hBt := kp_blk hKt HBl.out (fun h => hgb.out h.symm); have c1t := (blk_cell hBt 1).trans (show _ = some (.int .i64 x1) from rfl)) | (go_at_call 42; refine (reftick_all dd L P G C lo hi kk x1 _ ?hr b3 b4 b2 hs2).mono ?_; exact kp_blk hKt HRf.out (fun h => hne.out h.symm); rintro e wd ⟨rfl, hRd, hKd⟩; rw [HS.out]; have hBd := kp_blk hKd hBt (fun h => hdb.out h.symm); have c1d := (blk_cell hBd 1).trans (show _ = some (.int .i64 x1) from rfl)))
              have HTX : Hid (Tr wd g L' P' G' C' lo hi kk) := Lib.hid (by obtain ⟨e1, e2, e3, e4⟩ := HN.out; rw [← e1, ← e2, ← e3, ← e4]; exact kp_blk hKd hTt hne.out)
              have HRX : Hid (Rf wd dd lo hi kk L' P' G' C') := Lib.hid (by obtain ⟨e1, e2, e3, e4⟩ := HN.out; rw [← e1, ← e2, ← e3, ← e4]; exact hRd)
              have HBX := Lib.hid (kp_to (kp_to HB.out (w := wr) (w' := wt) ⟨⟨hKt.kept.1, hKt.kept.2⟩, hKt.os, hKt.tape, hKt.output⟩ hgg.out) hKd hdw)
              have HBlX := Lib.hid hBd
              clear hKt hKd hTt hRd hBt hBd c1t c1d HT HRf HBl HB c0 c1 hqq
              obtain ⟨b1, b2, b3, b4, b5, b6⟩ : lo ≤ L' ∧ L' ≤ hi ∧ 0 ≤ G' ∧ G' < L' ∧ 0 ≤ C' ∧ C' ≤ 255 := ⟨n1, n2, n3, n4, n5, n6⟩
              have cq1 := (blk_cell HRX.out 1).trans (show _ = some (.int .i64 hi) from rfl)
              have cq3 := (blk_cell HRX.out 3).trans (show _ = some (.int .i64 L') from rfl)
              have cq4 := (blk_cell HRX.out 4).trans (show _ = some (.int .i64 P') from rfl)
              have cq5 := (blk_cell HRX.out 5).trans (show _ = some (.int .i64 G') from rfl)
              have cq6 := (blk_cell HRX.out 6).trans (show _ = some (.int .i64 C') from rfl)
              have es : IntKind.i64.wrap (L' - G') = L' - G' := by rw [IntKind.wrap_i64]; omega
              have hb2 : -9223372036854775808 ≤ L' - G' ∧ L' - G' ≤ 9223372036854775807 := by omega
              have HAX := Lib.hid (agree_mk (B := w.heap.size) hgg.out hne.out HTX.out HRX.out ⟨b1, b2⟩ ⟨b3, b4⟩ ⟨b5, b6⟩)
              try go_wp2_with fail
              go_quiet ((first | (go_at_call 34; exact Calls.quiet_of_same (length_any g L' P' G' C' lo hi kk _ HTX.out)) | (go_at_call 44; exact Calls.quiet_of_same (placeM_any g L' P' G' C' lo hi kk _ HTX.out)) | (go_at_call 45; exact Calls.quiet_of_same (gone_any g L' P' G' C' lo hi kk _ HTX.out)) | (go_at_call 46; exact Calls.quiet_of_same (count_any g L' P' G' C' lo hi kk _ HTX.out)) | (go_at_call 37; exact Calls.quiet_of_same (most_any g L' P' G' C' lo hi kk _ HTX.out)) | (go_at_call 47; exact Calls.quiet_of_same (due_any g L' P' G' C' lo hi kk _ HTX.out hb2))))
              go_wp2_with fail
              go_roundg (nn + 1 - (j + 1))
              case measure => have := HG2.out; omega
              case rel => exact ⟨j + 1, g, by go_num, rfl, by omega, Lib.hid rfl, HAX, HBlX, hgb, Lib.hid (pw_below_drewN HBX.out _)⟩
            ·
              go_wp2_with fail
              refine (hear_any g L P G C lo hi kk _ HT.out ⟨b5, b6⟩).mono ?_
              rintro e wt ⟨rfl, hTt, hKt⟩
              have hRt := kp_blk hKt HRf.out (fun h => hne.out h.symm)
              have hBt := kp_blk hKt HBl.out (fun h => hgb.out h.symm)
              obtain ⟨C2, hC2, hC3, hC4, hC5⟩ : ∃ C2, (if C < 255 then C + 1 else 255) = C2 ∧ (if 255 < C + 1 then 255 else C + 1) = C2 ∧ 0 ≤ C2 ∧ C2 ≤ 255 := by
                by_cases h : C < 255
                · exact ⟨C + 1, if_pos h, if_neg (by omega), by omega, by omega⟩
                · exact ⟨255, if_neg h, if_pos (by omega), by omega, by omega⟩
              rw [hC2] at hTt
              clear hC2
              have q6 := (blk_cell hRt 6).trans (show _ = some (.int .i64 C) from rfl)
              have qf6 := blk_frozen hRt 6
              have HTX : Hid (Tr (wt.setCell ⟨dd, 6, none⟩ (.int .i64 C2)) g L P G C2 lo hi kk) := Lib.hid (kp_blk ((Kp.refl wt (fun k => k = dd)).setCell (p := ⟨dd, 6, none⟩) (.inl rfl) _) hTt hne.out)
              have HRX : Hid (Rf (wt.setCell ⟨dd, 6, none⟩ (.int .i64 C2)) dd lo hi kk L P G C2) := Lib.hid (blk_put hRt 6 _ rfl)
              have HBlX : Hid ((wt.setCell ⟨dd, 6, none⟩ (.int .i64 C2)).heap[bb]? = some (.cells #[.int .i64 x0, .int .i64 x1, .int .i64 x2] 68 (0, 0))) := Lib.hid (kp_blk ((Kp.refl wt (fun k => k = dd)).setCell (p := ⟨dd, 6, none⟩) (.inl rfl) _) hBt (fun h => hdb.out h.symm))
              have HBX : Hid (Below w.heap.size w (wt.setCell ⟨dd, 6, none⟩ (.int .i64 C2))) := Lib.hid (kp_to (kp_to HB.out hKt hgg.out) ((Kp.refl wt (fun k => k = dd)).setCell (p := ⟨dd, 6, none⟩) (.inl rfl) _) hdw)
              clear hTt hKt hRt hBt HT HRf HBl HB c0 c1 hqq
              go_wp2_with fail
              generalize wt.setCell ⟨dd, 6, none⟩ (.int .i64 C2) = wd at HTX HRX HBlX HBX ⊢
              clear q6 qf6 hC3
              obtain ⟨L', P', G', C', hs4, b1, b2, b3, b4, b5, b6⟩ : ∃ L' P' G' C', Hid (L' = L ∧ P' = P ∧ G' = G ∧ C' = C2) ∧ lo ≤ L' ∧ L' ≤ hi ∧ 0 ≤ G' ∧ G' < L' ∧ 0 ≤ C' ∧ C' ≤ 255 := ⟨L, P, G, C2, Lib.hid ⟨rfl, rfl, rfl, rfl⟩, b1, b2, b3, b4, hC4, hC5⟩
              have HTX : Hid (Tr wd g L' P' G' C' lo hi kk) := Lib.hid (by obtain ⟨rfl, rfl, rfl, rfl⟩ := hs4.out; exact HTX.out)
              have HRX : Hid (Rf wd dd lo hi kk L' P' G' C') := Lib.hid (by obtain ⟨rfl, rfl, rfl, rfl⟩ := hs4.out; exact HRX.out)
              have cq1 := (blk_cell HRX.out 1).trans (show _ = some (.int .i64 hi) from rfl)
              have cq3 := (blk_cell HRX.out 3).trans (show _ = some (.int .i64 L') from rfl)
              have cq4 := (blk_cell HRX.out 4).trans (show _ = some (.int .i64 P') from rfl)
              have cq5 := (blk_cell HRX.out 5).trans (show _ = some (.int .i64 G') from rfl)
              have cq6 := (blk_cell HRX.out 6).trans (show _ = some (.int .i64 C') from rfl)
              have es : IntKind.i64.wrap (L' - G') = L' - G' := by rw [IntKind.wrap_i64]; omega
              have hb2 : -9223372036854775808 ≤ L' - G' ∧ L' - G' ≤ 9223372036854775807 := by omega
              have HAX := Lib.hid (agree_mk (B := w.heap.size) hgg.out hne.out HTX.out HRX.out ⟨b1, b2⟩ ⟨b3, b4⟩ ⟨b5, b6⟩)
              try go_wp2_with fail
              go_quiet ((first | (go_at_call 34; exact Calls.quiet_of_same (length_any g L' P' G' C' lo hi kk _ HTX.out)) | (go_at_call 44; exact Calls.quiet_of_same (placeM_any g L' P' G' C' lo hi kk _ HTX.out)) | (go_at_call 45; exact Calls.quiet_of_same (gone_any g L' P' G' C' lo hi kk _ HTX.out)) | (go_at_call 46; exact Calls.quiet_of_same (count_any g L' P' G' C' lo hi kk _ HTX.out)) | (go_at_call 37; exact Calls.quiet_of_same (most_any g L' P' G' C' lo hi kk _ HTX.out)) | (go_at_call 47; exact Calls.quiet_of_same (due_any g L' P' G' C' lo hi kk _ HTX.out hb2))))
              go_wp2_with fail
              go_roundg (nn + 1 - (j + 1))
              case measure => have := HG2.out; omega
              case rel => exact ⟨j + 1, g, by go_num, rfl, by omega, Lib.hid rfl, HAX, HBlX, hgb, Lib.hid (pw_below_drewN HBX.out _)⟩
            ·
              have hlo' : lo ≤ 9223372036854775807 := by omega
              have hlo2 : lo ≤ 9223372036854775806 := by omega
              obtain ⟨sb, hsb⟩ : ∃ sb, (!decide (L ≤ lo)) = sb := ⟨_, rfl⟩
              have HS := Lib.hid hsb
              clear hsb
              go_wp2_with fail
              go_region_held3 (fun w' => w'.cell? ⟨bb, 1, none⟩ = some (.int .i64 x1)) (first | exact c1 | exact c1t | exact c1d) (first | (go_at_call 39; refine (reset_any g L P G C lo hi kk x1 _ ?htb hlo').mono ?_; exact HT.out; rintro e wt ⟨rfl, hTt, hKt⟩; rw [HS.out]; have hBt := kp_blk hKt HBl.out (fun h => hgb.out h.symm); have c1t := (blk_cell hBt 1).trans (show _ = some (.int .i64 x1) from rfl)) | (go_at_call 43; refine (refreset dd lo hi kk L P G C x1 hlo2 b1 _ ?hrb).mono ?_; exact kp_blk hKt HRf.out (fun h => hne.out h.symm); rintro e wd ⟨rfl, hRd, hKd⟩; rw [HS.out]; have hBd := kp_blk hKd hBt (fun h => hdb.out h.symm); have c1d := (blk_cell hBd 1).trans (show _ = some (.int .i64 x1) from rfl)))
              have HBX := Lib.hid (kp_to (kp_to HB.out (w := wr) (w' := wt) ⟨⟨hKt.kept.1, hKt.kept.2⟩, hKt.os, hKt.tape, hKt.output⟩ hgg.out) hKd hdw)
              have HBlX := Lib.hid hBd
              obtain ⟨L', P', G', C', HTX, HRX, c1, c2, c3, c4, c5, c6⟩ : ∃ L' P' G' C', Hid (Tr wd g L' P' G' C' lo hi kk) ∧ Hid (Rf wd dd lo hi kk L' P' G' C') ∧ lo ≤ L' ∧ L' ≤ hi ∧ 0 ≤ G' ∧ G' < L' ∧ 0 ≤ C' ∧ C' ≤ 255 := by
                by_cases hc : L ≤ lo
                · rw [if_pos hc] at hTt hRd
                  exact ⟨L, P, G, C, Lib.hid (kp_blk hKd hTt hne.out), Lib.hid hRd, b1, b2, b3, b4, b5, b6⟩
                · rw [if_neg hc] at hTt hRd
                  exact ⟨lo, _, 0, 0, Lib.hid (kp_blk hKd hTt hne.out), Lib.hid hRd, by omega, by omega, by omega, by omega, by omega, by omega⟩
              clear hKt hKd hTt hRd hBt hBd c1t c1d HT HRf HBl HB c0 hqq b1 b2 b3 b4 b5 b6
              obtain ⟨b1, b2, b3, b4, b5, b6⟩ : lo ≤ L' ∧ L' ≤ hi ∧ 0 ≤ G' ∧ G' < L' ∧ 0 ≤ C' ∧ C' ≤ 255 := ⟨c1, c2, c3, c4, c5, c6⟩
              clear c1 c2 c3 c4 c5 c6
              have cq1 := (blk_cell HRX.out 1).trans (show _ = some (.int .i64 hi) from rfl)
              have cq3 := (blk_cell HRX.out 3).trans (show _ = some (.int .i64 L') from rfl)
              have cq4 := (blk_cell HRX.out 4).trans (show _ = some (.int .i64 P') from rfl)
              have cq5 := (blk_cell HRX.out 5).trans (show _ = some (.int .i64 G') from rfl)
              have cq6 := (blk_cell HRX.out 6).trans (show _ = some (.int .i64 C') from rfl)
              have es : IntKind.i64.wrap (L' - G') = L' - G' := by rw [IntKind.wrap_i64]; omega
              have hb2 : -9223372036854775808 ≤ L' - G' ∧ L' - G' ≤ 9223372036854775807 := by omega
              have HAX := Lib.hid (agree_mk (B := w.heap.size) hgg.out hne.out HTX.out HRX.out ⟨b1, b2⟩ ⟨b3, b4⟩ ⟨b5, b6⟩)
              try go_wp2_with fail
              go_quiet ((first | (go_at_call 34; exact Calls.quiet_of_same (length_any g L' P' G' C' lo hi kk _ HTX.out)) | (go_at_call 44; exact Calls.quiet_of_same (placeM_any g L' P' G' C' lo hi kk _ HTX.out)) | (go_at_call 45; exact Calls.quiet_of_same (gone_any g L' P' G' C' lo hi kk _ HTX.out)) | (go_at_call 46; exact Calls.quiet_of_same (count_any g L' P' G' C' lo hi kk _ HTX.out)) | (go_at_call 37; exact Calls.quiet_of_same (most_any g L' P' G' C' lo hi kk _ HTX.out)) | (go_at_call 47; exact Calls.quiet_of_same (due_any g L' P' G' C' lo hi kk _ HTX.out hb2))))
              go_wp2_with fail
              go_roundg (nn + 1 - (j + 1))
              case measure => have := HG2.out; omega
              case rel => exact ⟨j + 1, g, by go_num, rfl, by omega, Lib.hid rfl, HAX, HBlX, hgb, Lib.hid (pw_below_drewN HBX.out _)⟩
            ·
              obtain ⟨n5, n6⟩ := nC_bd (L := L) (G := G) b5 b6
              have HN := Lib.hid (And.intro n5 n6)
              clear n5 n6
              go_wp2_with fail
              refine (copy_any g L P G C lo hi kk _ HT.out).mono ?_
              rintro e w6 ⟨rfl, hTc, hb6⟩
              have hgc1 : Hid (w.heap.size ≤ wr.heap.size) := Lib.hid HB.out.size
              have hgc2 : Hid (wr.heap.size ≠ dd) := Lib.hid (by have := blk_lt HRf.out; omega)
              have hgc3 : Hid (wr.heap.size ≠ bb) := Lib.hid (by have := blk_lt HBl.out; omega)
              have hgc4 : Hid (wr.heap.size ≠ g) := Lib.hid (by have := blk_lt HT.out; omega)
              have HT6 := Lib.hid (blk_bel HT.out hb6)
              have HR6 := Lib.hid (blk_bel HRf.out hb6)
              have HBl6 := Lib.hid (blk_bel HBl.out hb6)
              have HB6 := Lib.hid (bel HB.out hb6)
              have HTc := Lib.hid hTc
              clear hTc hb6 HT HRf HBl HB c0 c1 hqq
              obtain ⟨gc, hgc⟩ : ∃ b : Nat, wr.heap.size = b := ⟨_, rfl⟩
              rw [hgc] at hgc1 hgc2 hgc3 hgc4 HTc
              simp only [hgc]
              clear hgc
              go_wp2_with fail
              refine (tick_all g L P G C lo hi kk 0 _ HT6.out b3 b4 b2 hs2).mono ?_
              rintro e w7 ⟨rfl, hT7, hK7⟩
              obtain ⟨sb, hsb⟩ : ∃ sb, spF P (G + 1) C kk = sb := ⟨_, rfl⟩
              rw [hsb]
              have HT7 := Lib.hid hT7
              have HK7 := Lib.hid hK7
              clear hsb hT7 hK7
              go_wp2_with fail
              refine (hear_any g _ _ _ _ lo hi kk _ HT7.out HN.out).mono ?_
              rintro e wd ⟨rfl, hT8, hK8⟩
              have HTX : Hid (Tr wd gc L P G C lo hi kk) := Lib.hid (kp_blk hK8 (kp_blk HK7.out HTc.out hgc4.out) hgc4.out)
              have HRX : Hid (Rf wd dd lo hi kk L P G C) := Lib.hid (kp_blk hK8 (kp_blk HK7.out HR6.out (fun h => hne.out h.symm)) (fun h => hne.out h.symm))
              have HBlX := Lib.hid (kp_blk hK8 (kp_blk HK7.out HBl6.out (fun h => hgb.out h.symm)) (fun h => hgb.out h.symm))
              have HBX := Lib.hid (kp_to (kp_to HB6.out HK7.out hgg.out) hK8 hgg.out)
              clear hT8 hK8 HT7 HK7 HTc HT6 HR6 HBl6 HB6 HN
              obtain ⟨L', P', G', C', hs4, c1, c2, c3, c4, c5, c6⟩ : ∃ L' P' G' C', Hid (L' = L ∧ P' = P ∧ G' = G ∧ C' = C) ∧ lo ≤ L' ∧ L' ≤ hi ∧ 0 ≤ G' ∧ G' < L' ∧ 0 ≤ C' ∧ C' ≤ 255 := ⟨L, P, G, C, Lib.hid ⟨rfl, rfl, rfl, rfl⟩, b1, b2, b3, b4, b5, b6⟩
              clear b1 b2 b3 b4 b5 b6
              obtain ⟨b1, b2, b3, b4, b5, b6⟩ : lo ≤ L' ∧ L' ≤ hi ∧ 0 ≤ G' ∧ G' < L' ∧ 0 ≤ C' ∧ C' ≤ 255 := ⟨c1, c2, c3, c4, c5, c6⟩
              clear c1 c2 c3 c4 c5 c6
              have HTX : Hid (Tr wd gc L' P' G' C' lo hi kk) := Lib.hid (by obtain ⟨rfl, rfl, rfl, rfl⟩ := hs4.out; exact HTX.out)
              have HRX : Hid (Rf wd dd lo hi kk L' P' G' C') := Lib.hid (by obtain ⟨rfl, rfl, rfl, rfl⟩ := hs4.out; exact HRX.out)
              have cq1 := (blk_cell HRX.out 1).trans (show _ = some (.int .i64 hi) from rfl)
              have cq3 := (blk_cell HRX.out 3).trans (show _ = some (.int .i64 L') from rfl)
              have cq4 := (blk_cell HRX.out 4).trans (show _ = some (.int .i64 P') from rfl)
              have cq5 := (blk_cell HRX.out 5).trans (show _ = some (.int .i64 G') from rfl)
              have cq6 := (blk_cell HRX.out 6).trans (show _ = some (.int .i64 C') from rfl)
              have es : IntKind.i64.wrap (L' - G') = L' - G' := by rw [IntKind.wrap_i64]; omega
              have hb2 : -9223372036854775808 ≤ L' - G' ∧ L' - G' ≤ 9223372036854775807 := by omega
              have HAX := Lib.hid (agree_mk (B := w.heap.size) hgc1.out hgc2.out HTX.out HRX.out ⟨b1, b2⟩ ⟨b3, b4⟩ ⟨b5, b6⟩)
              try go_wp2_with fail
              go_quiet ((first | (go_at_call 34; exact Calls.quiet_of_same (length_any gc L' P' G' C' lo hi kk _ HTX.out)) | (go_at_call 44; exact Calls.quiet_of_same (placeM_any gc L' P' G' C' lo hi kk _ HTX.out)) | (go_at_call 45; exact Calls.quiet_of_same (gone_any gc L' P' G' C' lo hi kk _ HTX.out)) | (go_at_call 46; exact Calls.quiet_of_same (count_any gc L' P' G' C' lo hi kk _ HTX.out)) | (go_at_call 37; exact Calls.quiet_of_same (most_any gc L' P' G' C' lo hi kk _ HTX.out)) | (go_at_call 47; exact Calls.quiet_of_same (due_any gc L' P' G' C' lo hi kk _ HTX.out hb2))))
              go_wp2_with fail
              go_roundg (nn + 1 - (j + 1))
              case measure => have := HG2.out; omega
              case rel => exact ⟨j + 1, gc, by go_num, rfl, by omega, Lib.hid rfl, HAX, HBlX, hgc3, Lib.hid (pw_below_drewN HBX.out _)⟩
          · have HE := Lib.hid (show i + 1 ≤ min z.length 40 by omega)
            go_wp2_with fail
            go_roundg (min z.length 40 - (i + 1))
            case measure => have := HG.out; omega
            case rel => exact ⟨i + 1, g, by go_num, rfl, HE.out, Lib.hid rfl, HA, HB⟩
      · go_wp2_with fail
        refine (known_any _).mono ?_
        rintro e w2 ⟨rfl, hw2⟩
        have HB2 := Lib.hid (bel HB.out hw2)
        clear hw2
        go_wp2_with fail
        go_ret
        exact ⟨rfl, HB2.out⟩
    · go_wp2_with fail
      refine (known_any _).mono ?_
      rintro e w2 ⟨rfl, hw2⟩
      have HB2 := Lib.hid (bel HB.out hw2)
      clear hw2
      go_wp2_with fail
      go_ret
      exact ⟨rfl, HB2.out⟩
theorem plays_walk (a0 : Int) (a1 : Int) (a2 : Int) (a3 : Int) (a4 : Option Addr) (cap4 : Nat) (z4 : List (Int × Int × Int)) (w : World) (w0 : (Lit.int .i64 a0).wf = true) (w1 : (Lit.int .i64 a1).wf = true) (w2 : (Lit.int .i64 a2).wf = true) (w3 : (Lit.int .i64 a3).wf = true) (w4 : Kd.C (Kd.pair (Kd.int .i64) (Kd.pair (Kd.int .i64) (Kd.int .i64))) w a4 z4.length z4) (m4 : z4.length ≤ cap4) (o4 : (z4.length ≤ maxLen ∧ ∀ x0 ∈ z4, ((Lit.int .i64 x0.1).wf = true ∧ ((Lit.int .i64 x0.2.1).wf = true ∧ ((Lit.int .i64 x0.2.2).wf = true))))) (y4 : z4.length * Try.prog.bytesOf 68 ≤ 140737488351232) :
    Calls Try.prog 8 #[.int .i64 a0, .int .i64 a1, .int .i64 a2, .int .i64 a3, .slice a4 z4.length cap4] w fun e w' => e = .returned (.bool true) ∧ Below w.heap.size w w' := by
  by_cases h : rightF a0 a1 a2
  · obtain ⟨h1, h2, h3, h4, h5, h6⟩ := h
    obtain ⟨m, rfl⟩ : ∃ m : Nat, a1 = m := ⟨a1.toNat, by omega⟩
    exact plays_good a0 m a2 a3 a4 cap4 z4 h1 h2 (by omega) h5 h6 w w4 m4
  · exact plays_bad a0 a1 a2 a3 a4 cap4 z4 h w
end Go.Proofs.Ytanpnhponefbbaa.Tr
