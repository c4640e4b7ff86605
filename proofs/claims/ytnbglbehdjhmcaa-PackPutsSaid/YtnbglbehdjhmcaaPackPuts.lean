/- Numbers behind bytes are the document's; read again they are as they were: the law's walk. -/
import Derived.Test.YtnbglbehdjhmcaaPackKnown
import Derived.Test.YtnbglbehdjhmcaaPackPlain
set_option maxRecDepth 100000
set_option linter.unusedVariables false
set_option linter.unusedSimpArgs false
namespace Go.Proofs.Ytnbglbehdjhmcaa.Pk
open Go.RowKit Go.Proofs.YtnbglbehdjhmcaaW.PrintWords
theorem put_long (A B : Option Addr) (c cl : Nat) (k : Int) (b l : List Int) (n : Nat) (hn : n = l.length) (hf : fitsF k l = true) (w : World) (hb : Kd.C (Kd.int .u8) w A b.length b) (h : Kd.C (Kd.int .i64) w B l.length l) (hc : l.length ≤ cl) (hbl : b.length ≤ 140737488000000) (hlen : 1280 < (b ++ putF k l).length) :
    Calls Try.prog 26 #[.slice A b.length c, .int .i64 k, .slice B n cl] w fun e w' => e = .returned (.tuple #[.slice none 0 0, .int .i64 2]) ∧ Below w.heap.size w w' := by
  refine (put_fit A B c cl k b l n hn hf w hb h hc hbl).mono ?_
  rintro e w' ⟨v, r, rfl, ⟨_, h1, _⟩ | ⟨rfl, _, rfl⟩, hB⟩
  · omega
  · exact ⟨rfl, hB⟩
theorem refput (A B : Option Addr) (c cl : Nat) (k : Int) (b l r1 : List Int) (r2 : Int) (hr : putR b k l = (r1, r2)) (w : World) (hb : Kd.C (Kd.int .u8) w A b.length b) (hbc : b.length ≤ c) (h : Kd.C (Kd.int .i64) w B l.length l) (hc : l.length ≤ cl) (hl : l.length ≤ 1000) (hbl : b.length ≤ 2000) (hw : ∀ x ∈ l, x ≤ 9223372036854775807) :
    Calls Try.prog 28 #[.slice A b.length c, .int .i64 k, .slice B l.length cl] w fun e w' => ∃ v, e = .returned (.tuple #[v, .int .i64 r2]) ∧ w'.ownsRow w.heap.size 5 1 v r1.length (encs (Value.int .u8) r1) ∧ Below w.heap.size w w' := by
  refine (PPackPuts.rivuletref02_Put.calls 5000 A c b k B cl l r1 r2 w hb hbc h hc (by rw [put_f 5000 k b l (by omega) (by omega) (by omega) hw, hr])).mono ?_
  rintro e w' ⟨v, rfl, hv, hB⟩
  exact ⟨v, rfl, Kd.own_of_R hv, hB⟩
theorem size_any (k : Int) (r : Bool) (hr : decide (0 < spanF k) = r) (w : World) : Calls Try.prog 29 #[.int .i64 k] w fun e w' => e = .returned (.bool r) ∧ ∃ n, w' = w.drewN n :=
  (PPackPuts.rivuletref02_Size.calls k r w (by rw [size_f, hr])).mono (by rintro e w' ⟨rfl, ⟨h⟩⟩; exact ⟨rfl, h⟩)
theorem digits_any (k n : Int) (hk : 0 < spanF k) (hn : n ≤ 9223372036854775807) (w : World) : Calls Try.prog 30 #[.int .i64 k, .int .i64 n] w fun e w' => ∃ v, e = .returned (.tuple #[v, .bool (decide (0 ≤ n ∧ n < spanF k))]) ∧ Below w.heap.size w w' := by
  obtain ⟨D, h1, h2, h3⟩ := digits_f k n (fits_size k [] (by unfold fitsF; simpa using hk)) 10 (by omega) hn
  refine (PPackPuts.rivuletref02_Digits.calls 10 k n _ _ w h1).mono ?_
  rintro e w' ⟨v, rfl, _, hB⟩
  exact ⟨v, rfl, hB⟩
set_option maxHeartbeats 8000000 in
theorem puts_size (k : Int) (B D : Option Addr) (cl dl : Nat) (l m : List Int) (x y : Nat) (hx : (if (1300 : Int) < l.length then 1300 else (l.length : Int)) = x) (hy : (if (700 : Int) < m.length then 700 else (m.length : Int)) = y) (hcl : l.length ≤ cl) (hdl : m.length ≤ dl) (hlb : ∀ x ∈ l, 0 ≤ x ∧ x ≤ 255) (hmb : ∀ x ∈ m, x ≤ 9223372036854775807) (hs : decide (0 < spanF k) = false) (hf : fitsF k (m.take y) = false) (w : World) (hl : Kd.C (Kd.int .u8) w B l.length l) (hm : Kd.C (Kd.int .i64) w D m.length m) : Calls Try.prog 5 #[.slice B l.length cl, .int .i64 k, .slice D m.length dl] w fun e w' => e = .returned (.bool true) ∧ Below w.heap.size w w' := by
  have hx1 : x ≤ l.length ∧ x ≤ 1300 := by split at hx <;> omega
  have hy1 : y ≤ m.length ∧ y ≤ 700 := by split at hy <;> omega
  obtain ⟨hx1, hx2⟩ := hx1
  obtain ⟨hy1, hy2⟩ := hy1
  have HXL := Lib.hid (show (l.take x).length = x ∧ x ≤ 1300 from ⟨by simp; omega, hx2⟩)
  have HYL := Lib.hid (show (m.take y).length = y ∧ y ≤ 700 from ⟨by simp; omega, hy2⟩)
  have HL := Lib.hid (show Kd.C (Kd.int .u8) w B (l.take x).length (l.take x) by rw [HXL.out.1]; exact C_take hl hx1)
  have HM := Lib.hid (show Kd.C (Kd.int .i64) w D (m.take y).length (m.take y) by rw [HYL.out.1]; exact C_take hm hy1)
  have HLB := Lib.hid (fun z (hz : z ∈ l.take x) => hlb z (List.mem_of_mem_take hz))
  have HMB := Lib.hid (fun z (hz : z ∈ m.take y) => hmb z (List.mem_of_mem_take hz))
  have hxc : x ≤ cl := by omega
  have hyc : y ≤ dl := by omega
  have HF := Lib.hid hf
  have HSZ := Lib.hid hs
  clear hs
  clear hl hm hx2 hy2 hlb hmb hf
  go_enter Try.func5, Try.ntmps5
  go_wp2_with fail
  go_quiet (fail)
  have HL0 := Lib.hid (Kd.C_below HL.out (pw_below_drewN (Below.refl w.heap.size w) nq))
  have HM0 := Lib.hid (Kd.C_below HM.out (pw_below_drewN (Below.refl w.heap.size w) nq))
  have B0 := Lib.hid (pw_below_drewN (Below.refl w.heap.size w) nq)
  clear HL HM
  generalize w.drewN nq = W0 at HL0 HM0 B0 ⊢
  obtain ⟨hxl, hx2⟩ := HXL.out
  obtain ⟨hyl, hy2⟩ := HYL.out
  have hlc : x ≤ cl := hxc
  have hld : y ≤ dl := hyc
  clear HXL HYL hx hy hx1 hy1 hxc hyc hcl hdl
  generalize l.take x = LX at HL0 HLB hxl 
  generalize m.take y = MY at HM0 HF HMB hyl 
  subst hxl hyl
  go_wp2_with fail
  refine (put_bad B D LX.length cl MY.length dl k MY rfl HF.out _ HM0.out (by omega)).mono ?_
  rintro e w1 ⟨rfl, rfl⟩
  have B1 := Lib.hid (Below.refl w1.heap.size w1)
  go_wp2_with fail
  refine (refput B D cl dl k LX MY [] 1 (by unfold putR; rw [HF.out]; rfl) _ (Kd.C_below HL0.out B1.out) (by omega) (Kd.C_below HM0.out B1.out) (by omega) (by omega) (by omega) HMB.out).mono ?_
  rintro e w2 ⟨vy, rfl, ho, hb⟩
  obtain ⟨AY, cY, rfl, hcY⟩ := own_slice ho
  have HOY := Lib.hid ho
  have B2 := Lib.hid (bel (B0.out.trans (B1.out.mono B0.out.size)) hb)
  have HM2 := Lib.hid (Kd.C_below HM0.out (bel B1.out hb))
  clear ho hb HL0 HM0
  go_wp2_with fail
  refine (size_any k false HSZ.out _).mono ?_
  rintro e w3 ⟨rfl, m3, rfl⟩
  have HOY := Lib.hid (pw_own_drewN HOY.out m3)
  have B2 := Lib.hid (pw_below_drewN B2.out m3)
  have HM2 := Lib.hid (Kd.C_below HM2.out (pw_below_drewN (Below.refl w2.heap.size w2) m3))
  generalize World.drewN w2 m3 = w4 at HOY B2 HM2 ⊢
  go_wp2_with fail
  go_loopg [11, 12] 0 (fun gk v11 v12 wr => v11 = .bool false ∧ v12 = .int .i64 0 ∧ Hid (wr = w4))
  case atStart => exact ⟨rfl, rfl, Lib.hid rfl⟩
  case round =>
    obtain ⟨rfl, rfl, HW⟩ := hrel
    obtain rfl := HW.out
    clear HW
    by_cases hlt : (0 : Int) < MY.length
    · go_wp2_with fail
      refine (size_any k false HSZ.out _).mono ?_
      rintro e w5 ⟨rfl, m5, rfl⟩
      have BZ := Lib.hid (pw_below_drewN (Below.refl wr.heap.size wr) m5)
      generalize World.drewN wr m5 = w6 at BZ ⊢
      go_wp2_with fail
      have HY5 := Lib.hid (own_C (pw_own_below HOY.out BZ.out))
      refine (same_any none AY 0 cY [] [] true rfl w6 (Kd.C_nil _ _) (by simp) HY5.out (by simp) (by simp)).mono ?_
      rintro e w8 ⟨rfl, m8, rfl⟩
      go_wp2_with fail
      have HM8 := Lib.hid (Kd.C_below HM2.out (pw_below_drewN BZ.out m8))
      refine (fits_any D dl k MY false HF.out _ HM8.out (by omega)).mono ?_
      rintro e w9 ⟨rfl, rfl⟩
      go_wp2_with fail
      refine (known2 _).mono ?_
      rintro e w10 ⟨rfl, hb⟩
      have BF := Lib.hid (bel (pw_below_drewN (B2.out.trans (Below.mono BZ.out B2.out.size)) m8) hb)
      clear hb
      go_wp2_with fail
      go_ret
      exact ⟨rfl, BF.out⟩
    · go_wp2_with fail
      have HY5 := Lib.hid (own_C (pw_own_below HOY.out (Below.refl wr.heap.size wr)))
      refine (same_any none AY 0 cY [] [] true rfl wr (Kd.C_nil _ _) (by simp) HY5.out (by simp) (by simp)).mono ?_
      rintro e w8 ⟨rfl, m8, rfl⟩
      go_wp2_with fail
      have HM8 := Lib.hid (Kd.C_below HM2.out (pw_below_drewN (Below.refl wr.heap.size wr) m8))
      refine (fits_any D dl k MY false HF.out _ HM8.out (by omega)).mono ?_
      rintro e w9 ⟨rfl, rfl⟩
      go_wp2_with fail
      refine (known2 _).mono ?_
      rintro e w10 ⟨rfl, hb⟩
      have BF := Lib.hid (bel (pw_below_drewN (B2.out.trans (Below.mono (Below.refl wr.heap.size wr) B2.out.size)) m8) hb)
      clear hb
      go_wp2_with fail
      go_ret
      exact ⟨rfl, BF.out⟩
set_option maxHeartbeats 8000000 in
theorem puts_bad (k : Int) (B D : Option Addr) (cl dl : Nat) (l m : List Int) (x y : Nat) (hx : (if (1300 : Int) < l.length then 1300 else (l.length : Int)) = x) (hy : (if (700 : Int) < m.length then 700 else (m.length : Int)) = y) (hcl : l.length ≤ cl) (hdl : m.length ≤ dl) (hlb : ∀ x ∈ l, 0 ≤ x ∧ x ≤ 255) (hmb : ∀ x ∈ m, x ≤ 9223372036854775807) (hs : decide (0 < spanF k) = true) (hf : fitsF k (m.take y) = false) (w : World) (hl : Kd.C (Kd.int .u8) w B l.length l) (hm : Kd.C (Kd.int .i64) w D m.length m) : Calls Try.prog 5 #[.slice B l.length cl, .int .i64 k, .slice D m.length dl] w fun e w' => e = .returned (.bool true) ∧ Below w.heap.size w w' := by
  have hx1 : x ≤ l.length ∧ x ≤ 1300 := by split at hx <;> omega
  have hy1 : y ≤ m.length ∧ y ≤ 700 := by split at hy <;> omega
  obtain ⟨hx1, hx2⟩ := hx1
  obtain ⟨hy1, hy2⟩ := hy1
  have HXL := Lib.hid (show (l.take x).length = x ∧ x ≤ 1300 from ⟨by simp; omega, hx2⟩)
  have HYL := Lib.hid (show (m.take y).length = y ∧ y ≤ 700 from ⟨by simp; omega, hy2⟩)
  have HL := Lib.hid (show Kd.C (Kd.int .u8) w B (l.take x).length (l.take x) by rw [HXL.out.1]; exact C_take hl hx1)
  have HM := Lib.hid (show Kd.C (Kd.int .i64) w D (m.take y).length (m.take y) by rw [HYL.out.1]; exact C_take hm hy1)
  have HLB := Lib.hid (fun z (hz : z ∈ l.take x) => hlb z (List.mem_of_mem_take hz))
  have HMB := Lib.hid (fun z (hz : z ∈ m.take y) => hmb z (List.mem_of_mem_take hz))
  have hxc : x ≤ cl := by omega
  have hyc : y ≤ dl := by omega
  have HF := Lib.hid hf
  have HSZ := Lib.hid hs
  clear hs
  clear hl hm hx2 hy2 hlb hmb hf
  go_enter Try.func5, Try.ntmps5
  go_wp2_with fail
  go_quiet (fail)
  have HL0 := Lib.hid (Kd.C_below HL.out (pw_below_drewN (Below.refl w.heap.size w) nq))
  have HM0 := Lib.hid (Kd.C_below HM.out (pw_below_drewN (Below.refl w.heap.size w) nq))
  have B0 := Lib.hid (pw_below_drewN (Below.refl w.heap.size w) nq)
  clear HL HM
  generalize w.drewN nq = W0 at HL0 HM0 B0 ⊢
  obtain ⟨hxl, hx2⟩ := HXL.out
  obtain ⟨hyl, hy2⟩ := HYL.out
  have hlc : x ≤ cl := hxc
  have hld : y ≤ dl := hyc
  clear HXL HYL hx hy hx1 hy1 hxc hyc hcl hdl
  generalize l.take x = LX at HL0 HLB hxl 
  generalize m.take y = MY at HM0 HF HMB hyl 
  subst hxl hyl
  go_wp2_with fail
  refine (put_bad B D LX.length cl MY.length dl k MY rfl HF.out _ HM0.out (by omega)).mono ?_
  rintro e w1 ⟨rfl, rfl⟩
  have B1 := Lib.hid (Below.refl w1.heap.size w1)
  go_wp2_with fail
  refine (refput B D cl dl k LX MY [] 1 (by unfold putR; rw [HF.out]; rfl) _ (Kd.C_below HL0.out B1.out) (by omega) (Kd.C_below HM0.out B1.out) (by omega) (by omega) (by omega) HMB.out).mono ?_
  rintro e w2 ⟨vy, rfl, ho, hb⟩
  obtain ⟨AY, cY, rfl, hcY⟩ := own_slice ho
  have HOY := Lib.hid ho
  have B2 := Lib.hid (bel (B0.out.trans (B1.out.mono B0.out.size)) hb)
  have HM2 := Lib.hid (Kd.C_below HM0.out (bel B1.out hb))
  clear ho hb HL0 HM0
  go_wp2_with fail
  refine (size_any k true HSZ.out _).mono ?_
  rintro e w3 ⟨rfl, m3, rfl⟩
  have HOY := Lib.hid (pw_own_drewN HOY.out m3)
  have B2 := Lib.hid (pw_below_drewN B2.out m3)
  have HM2 := Lib.hid (Kd.C_below HM2.out (pw_below_drewN (Below.refl w2.heap.size w2) m3))
  generalize World.drewN w2 m3 = w4 at HOY B2 HM2 ⊢
  go_wp2_with fail
  have BX := Lib.hid (Below.refl w4.heap.size w4)
  go_loopg [11, 12] MY.length (fun gk v11 v12 wr => ∃ (i : Nat) (f : Bool), v11 = .bool f ∧ v12 = .int .i64 i ∧ i ≤ MY.length ∧ Hid (gk = MY.length - i) ∧ Hid (fitsF k (MY.take i) = f) ∧ Hid (Below w4.heap.size w4 wr))
  case atStart => exact ⟨0, true, rfl, rfl, by omega, Lib.hid (by simp), Lib.hid (by unfold fitsF; simpa using HSZ.out), BX⟩
  case round =>
    clear BX
    obtain ⟨i, f, rfl, rfl, hi, HG, HFI, HBW⟩ := hrel
    by_cases hlt : i < MY.length
    · obtain ⟨ad, had, hcell⟩ := Kd.at_int (Kd.C_below HM2.out HBW.out) i (by omega) (by omega)
      simp only [Int.toNat_natCast] at hcell
      cases had
      have hm : rd MY i ∈ MY := by unfold rd; simp [hlt]
      have HDG := Lib.hid (fun W => digits_any k (rd MY i) (of_decide_eq_true HSZ.out) (HMB.out _ hm) W)
      have HFS := Lib.hid (fits_take k MY i hlt)
      clear hm
      generalize (decide (0 ≤ rd MY i ∧ rd MY i < spanF k)) = ok at HDG HFS
      generalize rd MY i = z at hcell HDG
      go_wp2_with fail
      refine (size_any k true HSZ.out _).mono ?_
      rintro e w5 ⟨rfl, m5, rfl⟩
      have HBW5 := Lib.hid (pw_below_drewN HBW.out m5)
      have hcell5 : (World.drewN wr m5).cell? (ad.add i) = some (.int .i64 z) := hcell
      clear HBW hcell
      generalize World.drewN wr m5 = w6 at HBW5 hcell5 ⊢
      go_wp2_with fail
      refine (HDG.out _).mono ?_
      rintro e w7 ⟨v13, rfl, hb7⟩
      have HBW7 := Lib.hid (bel HBW5.out hb7)
      clear hb7 HBW5
      cases f
      · go_wp2_with fail
        go_roundg (MY.length - (i + 1))
        case measure => have := HG.out; omega
        case rel => exact ⟨i + 1, false, rfl, by go_num, by omega, Lib.hid rfl, Lib.hid (by rw [HFS.out, HFI.out]; rfl), HBW7⟩
      · go_wp2_with fail
        go_roundg (MY.length - (i + 1))
        case measure => have := HG.out; omega
        case rel => exact ⟨i + 1, ok, rfl, by go_num, by omega, Lib.hid rfl, Lib.hid (by rw [HFS.out, HFI.out]; rfl), HBW7⟩
    · have hin : i = MY.length := by omega
      have hfe : f = false := by rw [← HFI.out, hin, List.take_length]; exact HF.out
      subst hfe
      go_wp2_with fail
      have HY5 := Lib.hid (own_C (pw_own_below HOY.out HBW.out))
      refine (same_any none AY 0 cY [] [] true rfl wr (Kd.C_nil _ _) (by simp) HY5.out (by simp) (by simp)).mono ?_
      rintro e w8 ⟨rfl, m8, rfl⟩
      go_wp2_with fail
      have HM8 := Lib.hid (Kd.C_below HM2.out (pw_below_drewN HBW.out m8))
      refine (fits_any D dl k MY false HF.out _ HM8.out (by omega)).mono ?_
      rintro e w9 ⟨rfl, rfl⟩
      go_wp2_with fail
      refine (known2 _).mono ?_
      rintro e w10 ⟨rfl, hb⟩
      have BF := Lib.hid (bel (pw_below_drewN (B2.out.trans (Below.mono HBW.out B2.out.size)) m8) hb)
      clear hb
      go_wp2_with fail
      go_ret
      exact ⟨rfl, BF.out⟩
set_option maxHeartbeats 8000000 in
theorem puts_long (k : Int) (B D : Option Addr) (cl dl : Nat) (l m : List Int) (x y : Nat) (hx : (if (1300 : Int) < l.length then 1300 else (l.length : Int)) = x) (hy : (if (700 : Int) < m.length then 700 else (m.length : Int)) = y) (hcl : l.length ≤ cl) (hdl : m.length ≤ dl) (hlb : ∀ x ∈ l, 0 ≤ x ∧ x ≤ 255) (hmb : ∀ x ∈ m, x ≤ 9223372036854775807) (hs : decide (0 < spanF k) = true) (hf : fitsF k (m.take y) = true) (hlen : 1280 < (l.take x ++ putF k (m.take y)).length) (w : World) (hl : Kd.C (Kd.int .u8) w B l.length l) (hm : Kd.C (Kd.int .i64) w D m.length m) : Calls Try.prog 5 #[.slice B l.length cl, .int .i64 k, .slice D m.length dl] w fun e w' => e = .returned (.bool true) ∧ Below w.heap.size w w' := by
  have hx1 : x ≤ l.length ∧ x ≤ 1300 := by split at hx <;> omega
  have hy1 : y ≤ m.length ∧ y ≤ 700 := by split at hy <;> omega
  obtain ⟨hx1, hx2⟩ := hx1
  obtain ⟨hy1, hy2⟩ := hy1
  have HXL := Lib.hid (show (l.take x).length = x ∧ x ≤ 1300 from ⟨by simp; omega, hx2⟩)
  have HYL := Lib.hid (show (m.take y).length = y ∧ y ≤ 700 from ⟨by simp; omega, hy2⟩)
  have HL := Lib.hid (show Kd.C (Kd.int .u8) w B (l.take x).length (l.take x) by rw [HXL.out.1]; exact C_take hl hx1)
  have HM := Lib.hid (show Kd.C (Kd.int .i64) w D (m.take y).length (m.take y) by rw [HYL.out.1]; exact C_take hm hy1)
  have HLB := Lib.hid (fun z (hz : z ∈ l.take x) => hlb z (List.mem_of_mem_take hz))
  have HMB := Lib.hid (fun z (hz : z ∈ m.take y) => hmb z (List.mem_of_mem_take hz))
  have hxc : x ≤ cl := by omega
  have hyc : y ≤ dl := by omega
  have HF := Lib.hid hf
  have HSZ := Lib.hid hs
  have HLEN := Lib.hid hlen
  clear hs hlen
  clear hl hm hx2 hy2 hlb hmb hf
  go_enter Try.func5, Try.ntmps5
  go_wp2_with fail
  go_quiet (fail)
  have HL0 := Lib.hid (Kd.C_below HL.out (pw_below_drewN (Below.refl w.heap.size w) nq))
  have HM0 := Lib.hid (Kd.C_below HM.out (pw_below_drewN (Below.refl w.heap.size w) nq))
  have B0 := Lib.hid (pw_below_drewN (Below.refl w.heap.size w) nq)
  clear HL HM
  generalize w.drewN nq = W0 at HL0 HM0 B0 ⊢
  obtain ⟨hxl, hx2⟩ := HXL.out
  obtain ⟨hyl, hy2⟩ := HYL.out
  have hlc : x ≤ cl := hxc
  have hld : y ≤ dl := hyc
  clear HXL HYL hx hy hx1 hy1 hxc hyc hcl hdl
  generalize l.take x = LX at HL0 HLB hxl HLEN
  generalize m.take y = MY at HM0 HF HMB hyl HLEN
  subst hxl hyl
  go_wp2_with fail
  refine (put_long B D cl dl k LX MY MY.length rfl HF.out _ HL0.out HM0.out (by omega) (by omega) HLEN.out).mono ?_
  rintro e w1 ⟨rfl, hb⟩
  have B1 := Lib.hid hb
  clear hb
  go_wp2_with fail
  refine (refput B D cl dl k LX MY [] 2 (by unfold putR; rw [if_pos HF.out, if_neg (by have := HLEN.out; omega)]) _ (Kd.C_below HL0.out B1.out) (by omega) (Kd.C_below HM0.out B1.out) (by omega) (by omega) (by omega) HMB.out).mono ?_
  rintro e w2 ⟨vy, rfl, ho, hb⟩
  obtain ⟨AY, cY, rfl, hcY⟩ := own_slice ho
  have HOY := Lib.hid ho
  have B2 := Lib.hid (bel (B0.out.trans (B1.out.mono B0.out.size)) hb)
  have HM2 := Lib.hid (Kd.C_below HM0.out (bel B1.out hb))
  clear ho hb HL0 HM0
  go_wp2_with fail
  refine (size_any k true HSZ.out _).mono ?_
  rintro e w3 ⟨rfl, m3, rfl⟩
  have HOY := Lib.hid (pw_own_drewN HOY.out m3)
  have B2 := Lib.hid (pw_below_drewN B2.out m3)
  have HM2 := Lib.hid (Kd.C_below HM2.out (pw_below_drewN (Below.refl w2.heap.size w2) m3))
  generalize World.drewN w2 m3 = w4 at HOY B2 HM2 ⊢
  go_wp2_with fail
  have BX := Lib.hid (Below.refl w4.heap.size w4)
  go_loopg [11, 12] MY.length (fun gk v11 v12 wr => ∃ (i : Nat) (f : Bool), v11 = .bool f ∧ v12 = .int .i64 i ∧ i ≤ MY.length ∧ Hid (gk = MY.length - i) ∧ Hid (fitsF k (MY.take i) = f) ∧ Hid (Below w4.heap.size w4 wr))
  case atStart => exact ⟨0, true, rfl, rfl, by omega, Lib.hid (by simp), Lib.hid (by unfold fitsF; simpa using HSZ.out), BX⟩
  case round =>
    clear BX
    obtain ⟨i, f, rfl, rfl, hi, HG, HFI, HBW⟩ := hrel
    by_cases hlt : i < MY.length
    · obtain ⟨ad, had, hcell⟩ := Kd.at_int (Kd.C_below HM2.out HBW.out) i (by omega) (by omega)
      simp only [Int.toNat_natCast] at hcell
      cases had
      have hm : rd MY i ∈ MY := by unfold rd; simp [hlt]
      have HDG := Lib.hid (fun W => digits_any k (rd MY i) (of_decide_eq_true HSZ.out) (HMB.out _ hm) W)
      have HFS := Lib.hid (fits_take k MY i hlt)
      clear hm
      generalize (decide (0 ≤ rd MY i ∧ rd MY i < spanF k)) = ok at HDG HFS
      generalize rd MY i = z at hcell HDG
      go_wp2_with fail
      refine (size_any k true HSZ.out _).mono ?_
      rintro e w5 ⟨rfl, m5, rfl⟩
      have HBW5 := Lib.hid (pw_below_drewN HBW.out m5)
      have hcell5 : (World.drewN wr m5).cell? (ad.add i) = some (.int .i64 z) := hcell
      clear HBW hcell
      generalize World.drewN wr m5 = w6 at HBW5 hcell5 ⊢
      go_wp2_with fail
      refine (HDG.out _).mono ?_
      rintro e w7 ⟨v13, rfl, hb7⟩
      have HBW7 := Lib.hid (bel HBW5.out hb7)
      clear hb7 HBW5
      cases f
      · go_wp2_with fail
        go_roundg (MY.length - (i + 1))
        case measure => have := HG.out; omega
        case rel => exact ⟨i + 1, false, rfl, by go_num, by omega, Lib.hid rfl, Lib.hid (by rw [HFS.out, HFI.out]; rfl), HBW7⟩
      · go_wp2_with fail
        go_roundg (MY.length - (i + 1))
        case measure => have := HG.out; omega
        case rel => exact ⟨i + 1, ok, rfl, by go_num, by omega, Lib.hid rfl, Lib.hid (by rw [HFS.out, HFI.out]; rfl), HBW7⟩
    · have hin : i = MY.length := by omega
      have hfe : f = true := by rw [← HFI.out, hin, List.take_length]; exact HF.out
      subst hfe
      go_wp2_with fail
      have HY5 := Lib.hid (own_C (pw_own_below HOY.out HBW.out))
      refine (same_any none AY 0 cY [] [] true rfl wr (Kd.C_nil _ _) (by simp) HY5.out (by simp) (by simp)).mono ?_
      rintro e w8 ⟨rfl, m8, rfl⟩
      go_wp2_with fail
      have HM8 := Lib.hid (Kd.C_below HM2.out (pw_below_drewN HBW.out m8))
      refine (fits_any D dl k MY true HF.out _ HM8.out (by omega)).mono ?_
      rintro e w9 ⟨rfl, rfl⟩
      go_wp2_with fail
      refine (known2 _).mono ?_
      rintro e w10 ⟨rfl, hb⟩
      have BF := Lib.hid (bel (pw_below_drewN (B2.out.trans (Below.mono HBW.out B2.out.size)) m8) hb)
      clear hb
      go_wp2_with fail
      go_ret
      exact ⟨rfl, BF.out⟩
theorem own_slice3 {w : World} {base e n : Nat} {v : Value} {xs : List Value} (h : w.ownsRow base e 1 v n xs) : ∃ A c, v = .slice A n c ∧ n ≤ c ∧ c ≤ 9223372036854775807 ∧ (A = none → c = 0) := by
  rcases h.2 with ⟨rfl, hn⟩ | ⟨g, cap, cur, rfl, _, _, hnc, hm, _⟩
  · exact ⟨none, 0, by simp [hn], by omega, by omega, fun _ => rfl⟩
  · have : maxLen ≤ 9223372036854775807 := by decide
    exact ⟨_, _, rfl, hnc, by omega, fun h => by cases h⟩
set_option maxHeartbeats 8000000 in
theorem puts_ok (k : Nat) (B D : Option Addr) (cl dl : Nat) (l m : List Int) (x y : Nat) (hx : (if (1300 : Int) < l.length then 1300 else (l.length : Int)) = x) (hy : (if (700 : Int) < m.length then 700 else (m.length : Int)) = y) (hcl : l.length ≤ cl) (hdl : m.length ≤ dl) (hlb : ∀ x ∈ l, 0 ≤ x ∧ x ≤ 255) (hmb : ∀ x ∈ m, x ≤ 9223372036854775807) (hk : k = 1 ∨ k = 2 ∨ k = 4) (hf : fitsF k (m.take y) = true) (hlen : (l.take x ++ putF k (m.take y)).length ≤ 1280) (w : World) (hl : Kd.C (Kd.int .u8) w B l.length l) (hm : Kd.C (Kd.int .i64) w D m.length m) : Calls Try.prog 5 #[.slice B l.length cl, .int .i64 k, .slice D m.length dl] w fun e w' => e = .returned (.bool true) ∧ Below w.heap.size w w' := by
  have hx1 : x ≤ l.length ∧ x ≤ 1300 := by split at hx <;> omega
  have hy1 : y ≤ m.length ∧ y ≤ 700 := by split at hy <;> omega
  obtain ⟨hx1, hx2⟩ := hx1
  obtain ⟨hy1, hy2⟩ := hy1
  have HXL := Lib.hid (show (l.take x).length = x ∧ x ≤ 1300 from ⟨by simp; omega, hx2⟩)
  have HYL := Lib.hid (show (m.take y).length = y ∧ y ≤ 700 from ⟨by simp; omega, hy2⟩)
  have HL := Lib.hid (show Kd.C (Kd.int .u8) w B (l.take x).length (l.take x) by rw [HXL.out.1]; exact C_take hl hx1)
  have HM := Lib.hid (show Kd.C (Kd.int .i64) w D (m.take y).length (m.take y) by rw [HYL.out.1]; exact C_take hm hy1)
  have HLB := Lib.hid (fun z (hz : z ∈ l.take x) => hlb z (List.mem_of_mem_take hz))
  have HMB := Lib.hid (fun z (hz : z ∈ m.take y) => hmb z (List.mem_of_mem_take hz))
  have hxc : x ≤ cl := by omega
  have hyc : y ≤ dl := by omega
  have HF := Lib.hid hf
  have HKN := Lib.hid hk
  have HKI : Hid ((k : Int) = 1 ∨ (k : Int) = 2 ∨ (k : Int) = 4) := Lib.hid (by omega)
  have HSZ : Hid (decide (0 < spanF k) = true) := Lib.hid (by rcases hk with rfl | rfl | rfl <;> decide)
  have HSP : Hid (spanF k ≠ 0) := Lib.hid (by rcases hk with rfl | rfl | rfl <;> decide)
  have HLEN := Lib.hid hlen
  clear hk hlen
  clear hl hm hx2 hy2 hlb hmb hf
  go_enter Try.func5, Try.ntmps5
  go_wp2_with fail
  go_quiet (fail)
  have HL0 := Lib.hid (Kd.C_below HL.out (pw_below_drewN (Below.refl w.heap.size w) nq))
  have HM0 := Lib.hid (Kd.C_below HM.out (pw_below_drewN (Below.refl w.heap.size w) nq))
  have B0 := Lib.hid (pw_below_drewN (Below.refl w.heap.size w) nq)
  clear HL HM
  generalize w.drewN nq = W0 at HL0 HM0 B0 ⊢
  obtain ⟨hxl, hx2⟩ := HXL.out
  obtain ⟨hyl, hy2⟩ := HYL.out
  have hlc : x ≤ cl := hxc
  have hld : y ≤ dl := hyc
  clear HXL HYL hx hy hx1 hy1 hxc hyc hcl hdl
  generalize l.take x = LX at HL0 HLB hxl HLEN
  generalize m.take y = MY at HM0 HF HMB hyl HLEN
  subst hxl hyl
  go_wp2_with fail
  refine (put_ok B D cl dl k LX MY MY.length rfl HF.out _ HL0.out HM0.out (by omega) HLEN.out).mono ?_
  rintro e w1 ⟨v1, rfl, ho, hb⟩
  (obtain ⟨X, hX⟩ : ∃ X, LX ++ putF k MY = X := ⟨_, rfl⟩)
  have hpr : putR LX k MY = (X, 0) := by unfold putR; rw [if_pos HF.out, if_pos HLEN.out, hX]
  have hxl : LX.length + MY.length * k = X.length := by rw [← hX, List.length_append, put_length k HKI.out]
  have HMP := Lib.hid (many_put k HKI.out LX MY HF.out)
  have HXB : Hid (∀ z ∈ X, 0 ≤ z ∧ z ≤ 255) := Lib.hid (fun z hz => by rw [← hX] at hz; exact (List.mem_append.1 hz).elim (HLB.out z) (put_bd k MY z))
  have hxt : (X.drop 0).take LX.length = LX := by rw [← hX]; simp
  rw [hX] at ho HLEN HMP
  clear hX
  have HXN : Hid (X.length ≤ 1280) := HLEN
  have HPR := Lib.hid hpr
  have HXL := Lib.hid hxl
  have HXT := Lib.hid hxt
  clear hpr hxl hxt HLEN
  obtain ⟨A1, c1, rfl, hc1, hd1, ha1⟩ := own_slice3 ho
  have HA1 := Lib.hid ha1
  have HO1 := Lib.hid ho
  have B1 := Lib.hid hb
  clear ho hb ha1
  go_wp2_with fail
  refine (refput B D cl dl k LX MY X 0 HPR.out _ (Kd.C_below HL0.out B1.out) (by omega) (Kd.C_below HM0.out B1.out) (by omega) (by omega) (by omega) HMB.out).mono ?_
  rintro e w2 ⟨vy, rfl, ho, hb⟩
  obtain ⟨AY, cY, rfl, hcY⟩ := own_slice ho
  have HOY := Lib.hid ho
  have HOX := Lib.hid (pw_own_below HO1.out hb)
  have B2 := Lib.hid (bel (B0.out.trans (B1.out.mono B0.out.size)) hb)
  have HM2 := Lib.hid (Kd.C_below HM0.out (bel B1.out hb))
  have HL2 := Lib.hid (Kd.C_below HL0.out (bel B1.out hb))
  clear ho hb HL0 HM0 HO1
  go_wp2_with fail
  refine (size_any k true HSZ.out _).mono ?_
  rintro e w3 ⟨rfl, m3, rfl⟩
  have HOY := Lib.hid (pw_own_drewN HOY.out m3)
  have HOX := Lib.hid (pw_own_drewN HOX.out m3)
  have B2 := Lib.hid (pw_below_drewN B2.out m3)
  have HM2 := Lib.hid (Kd.C_below HM2.out (pw_below_drewN (Below.refl w2.heap.size w2) m3))
  have HL2 := Lib.hid (Kd.C_below HL2.out (pw_below_drewN (Below.refl w2.heap.size w2) m3))
  generalize World.drewN w2 m3 = w4 at HOY HOX B2 HM2 HL2 ⊢
  go_wp2_with fail
  have BX := Lib.hid (Below.refl w4.heap.size w4)
  go_loopg [11, 12] MY.length (fun gk v11 v12 wr => ∃ (i : Nat) (f : Bool), v11 = .bool f ∧ v12 = .int .i64 i ∧ i ≤ MY.length ∧ Hid (gk = MY.length - i) ∧ Hid (fitsF k (MY.take i) = f) ∧ Hid (Below w4.heap.size w4 wr))
  case atStart => exact ⟨0, true, rfl, rfl, by omega, Lib.hid (by simp), Lib.hid (by unfold fitsF; simpa using HSZ.out), BX⟩
  case round =>
    clear BX
    obtain ⟨i, f, rfl, rfl, hi, HG, HFI, HBW⟩ := hrel
    by_cases hlt : i < MY.length
    · obtain ⟨ad, had, hcell⟩ := Kd.at_int (Kd.C_below HM2.out HBW.out) i (by omega) (by omega)
      simp only [Int.toNat_natCast] at hcell
      cases had
      have hm : rd MY i ∈ MY := by unfold rd; simp [hlt]
      have HDG := Lib.hid (fun W => digits_any k (rd MY i) (of_decide_eq_true HSZ.out) (HMB.out _ hm) W)
      have HFS := Lib.hid (fits_take k MY i hlt)
      clear hm
      generalize (decide (0 ≤ rd MY i ∧ rd MY i < spanF k)) = ok at HDG HFS
      generalize rd MY i = z at hcell HDG
      go_wp2_with fail
      refine (size_any k true HSZ.out _).mono ?_
      rintro e w5 ⟨rfl, m5, rfl⟩
      have HBW5 := Lib.hid (pw_below_drewN HBW.out m5)
      have hcell5 : (World.drewN wr m5).cell? (ad.add i) = some (.int .i64 z) := hcell
      clear HBW hcell
      generalize World.drewN wr m5 = w6 at HBW5 hcell5 ⊢
      go_wp2_with fail
      refine (HDG.out _).mono ?_
      rintro e w7 ⟨v13, rfl, hb7⟩
      have HBW7 := Lib.hid (bel HBW5.out hb7)
      clear hb7 HBW5
      cases f
      · go_wp2_with fail
        go_roundg (MY.length - (i + 1))
        case measure => have := HG.out; omega
        case rel => exact ⟨i + 1, false, rfl, by go_num, by omega, Lib.hid rfl, Lib.hid (by rw [HFS.out, HFI.out]; rfl), HBW7⟩
      · go_wp2_with fail
        go_roundg (MY.length - (i + 1))
        case measure => have := HG.out; omega
        case rel => exact ⟨i + 1, ok, rfl, by go_num, by omega, Lib.hid rfl, Lib.hid (by rw [HFS.out, HFI.out]; rfl), HBW7⟩
    · have hin : i = MY.length := by omega
      have hfe : f = true := by rw [← HFI.out, hin, List.take_length]; exact HF.out
      subst hfe
      go_wp2_with fail
      have HX5 := Lib.hid (own_C (pw_own_below HOX.out HBW.out))
      have HY5 := Lib.hid (own_C (pw_own_below HOY.out HBW.out))
      refine (same_any A1 AY c1 cY X X true (by simp) wr HX5.out hc1 HY5.out hcY (by have := HXN.out; omega)).mono ?_
      rintro e w8 ⟨rfl, m8, rfl⟩
      have BB8 := Lib.hid (pw_below_drewN HBW.out m8)
      clear HX5 HY5 HOY
      generalize World.drewN wr m8 = w8 at BB8 ⊢
      go_wp2_with fail
      refine (fits_any D dl k MY true HF.out _ (Kd.C_below HM2.out BB8.out) (by omega)).mono ?_
      rintro e w9 ⟨rfl, rfl⟩
      go_wp2_with fail
      refine (over_any A1 X.length c1 _).mono ?_
      rintro e w10 ⟨rfl, hcu, hb⟩
      have HGB := Lib.hid BB8.out.size
      have BB10 := Lib.hid (bel BB8.out hb)
      generalize w9.heap.size = g at hcu HGB ⊢
      have HCU := Lib.hid hcu
      have HOX10 := Lib.hid (pw_own_below HOX.out BB10.out)
      clear hcu hb HOX BB8
      go_wp2_with fail
      refine (bytes_ok g A1 c1 X 0 LX.length LX.length (by omega) _ HCU.out HA1.out (fun w' hk => own_C (own_kp HOX10.out hk HCU.out (by decide))) hc1 hd1 (by have := HXL.out; omega) (by have := HXN.out; omega)).mono ?_
      rintro e w11 ⟨⟨v11, rfl, ho⟩, h1, k1⟩
      rw [HXT.out] at ho
      obtain ⟨A11, c11, rfl, hc11⟩ := own_slice ho
      have HO11 := Lib.hid ho
      have HCU11 := Lib.hid h1
      have HOX11 := Lib.hid (own_kp HOX10.out k1 HCU.out (by decide))
      have BB11 := Lib.hid (BB10.out.trans (k1.to BB10.out.size (fun k hk => by rw [hk]; exact HGB.out)))
      clear ho h1 k1 HOX10 HCU BB10
      go_wp2_with fail
      refine (same_any A11 B c11 cl LX LX true (by simp) _ (own_C HO11.out) hc11 (Kd.C_below HL2.out BB11.out) (by omega) (by omega)).mono ?_
      rintro e w12 ⟨rfl, m12, rfl⟩
      have HCU12 : Hid (Cu (World.drewN w11 m12) g A1 X.length c1 LX.length 0) := HCU11
      have HOX12 := Lib.hid (pw_own_drewN HOX11.out m12)
      have BB12 := Lib.hid (pw_below_drewN BB11.out m12)
      clear HCU11 HOX11 BB11 HO11
      generalize World.drewN w11 m12 = w13 at HCU12 HOX12 BB12 ⊢
      go_wp2_with fail
      refine (many_ok g A1 c1 X LX.length k MY.length X.length (spanF k) HXL.out HKN.out rfl HSP.out _ HCU12.out (fun w' hk => own_C (own_kp HOX12.out hk HCU12.out (by decide))) HXB.out hc1 hd1 (Nat.le_refl _) (by have := HXN.out; omega)).mono ?_
      rintro e w14 ⟨⟨v14, rfl, ho⟩, h1, k1⟩
      rw [HMP.out] at ho
      obtain ⟨A14, c14, rfl, hc14⟩ := own_slice ho
      have HOM := Lib.hid ho
      have HCU14 := Lib.hid h1
      have BB14 := Lib.hid (BB12.out.trans (k1.to BB12.out.size (fun k hk => by rw [hk]; exact HGB.out)))
      clear ho h1 k1 HOX12 HCU12 BB12
      go_wp2_with fail
      refine (close_ok g A1 X.length c1 X.length 0 _ HCU14.out (by omega) (by omega) (by have := HXN.out; omega) (by simp)).mono ?_
      rintro e w15 ⟨rfl, m15, rfl⟩
      have HC15 := Lib.hid (own_C (pw_own_drewN HOM.out m15))
      have BB15 := Lib.hid (pw_below_drewN BB14.out m15)
      clear HOM BB14 HCU14
      generalize World.drewN w14 m15 = w16 at HC15 BB15 ⊢
      have HD15 := Lib.hid (Kd.C_below HM2.out BB15.out)
      have BF := Lib.hid (B2.out.trans (BB15.out.mono B2.out.size))
      go_wp2_with fail
      clear HG HFI HBW hi hlt hin HOX
      go_loopg [17] MY.length (fun gk v17 wr => ∃ i : Nat, v17 = .int .i64 i ∧ i ≤ MY.length ∧ Hid (gk = MY.length - i) ∧ Hid (Below w16.heap.size w16 wr))
      case atStart => exact ⟨0, rfl, by omega, Lib.hid (by simp), Lib.hid (Below.refl _ _)⟩
      case round =>
        obtain ⟨i, rfl, hi, HG, HW⟩ := hrel
        by_cases hlt : i < MY.length
        · obtain ⟨ad, had, hcell⟩ := Kd.at_int (Kd.C_below HC15.out HW.out) i (by omega) (by omega)
          obtain ⟨ad2, had2, hcell2⟩ := Kd.at_int (Kd.C_below HD15.out HW.out) i (by omega) (by omega)
          simp only [Int.toNat_natCast] at hcell hcell2
          cases had
          cases had2
          generalize rd MY i = z at hcell hcell2
          go_wp2_with fail
          go_quiet (fail)
          go_wp2_with fail
          go_roundg (MY.length - (i + 1))
          case measure => have := HG.out; omega
          case rel => exact ⟨i + 1, by go_num, by omega, Lib.hid rfl, Lib.hid (pw_below_drewN HW.out _)⟩
        · go_wp2_with fail
          refine (known2 _).mono ?_
          rintro e w20 ⟨rfl, hb⟩
          have BG := Lib.hid (bel (BF.out.trans (HW.out.mono BF.out.size)) hb)
          clear hb
          go_wp2_with fail
          go_ret
          exact ⟨rfl, BG.out⟩
theorem wf_bd {n : Int} (h : (Lit.int .i64 n).wf = true) : -9223372036854775808 ≤ n ∧ n ≤ 9223372036854775807 := by
  simp [Lit.wf, IntKind.min, IntKind.max, IntKind.signed, IntKind.bits] at h
  omega
theorem wf_u8 {n : Int} (h : (Lit.int .u8 n).wf = true) : 0 ≤ n ∧ n ≤ 255 := by
  simp [Lit.wf, IntKind.min, IntKind.max, IntKind.signed, IntKind.bits] at h
  omega
theorem puts_row (a0 : Option Addr) (cap0 : Nat) (z0 : List (Int)) (a1 : Int) (a2 : Option Addr) (cap2 : Nat) (z2 : List (Int)) (w : World) (w0 : Kd.C (Kd.int .u8) w a0 z0.length z0) (m0 : z0.length ≤ cap0) (o0 : (z0.length ≤ maxLen ∧ ∀ x0 ∈ z0, (Lit.int .u8 x0).wf = true)) (y0 : z0.length * Try.prog.bytesOf 5 ≤ 140737488351232) (w1 : (Lit.int .i64 a1).wf = true) (w2 : Kd.C (Kd.int .i64) w a2 z2.length z2) (m2 : z2.length ≤ cap2) (o2 : (z2.length ≤ maxLen ∧ ∀ x0 ∈ z2, (Lit.int .i64 x0).wf = true)) (y2 : z2.length * Try.prog.bytesOf 3 ≤ 140737488351232) :
    Calls Try.prog 5 #[.slice a0 z0.length cap0, .int .i64 a1, .slice a2 z2.length cap2] w fun e w' => e = .returned (.bool true) ∧ Below w.heap.size w w' := by
  have hx : (if (1300 : Int) < z0.length then 1300 else (z0.length : Int)) = ((min z0.length 1300 : Nat) : Int) := by split <;> omega
  have hy : (if (700 : Int) < z2.length then 700 else (z2.length : Int)) = ((min z2.length 700 : Nat) : Int) := by split <;> omega
  have hb : ∀ x ∈ z0, 0 ≤ x ∧ x ≤ 255 := fun x hx => wf_u8 (o0.2 x hx)
  have hm : ∀ x ∈ z2, x ≤ 9223372036854775807 := fun x hx => (wf_bd (o2.2 x hx)).2
  by_cases hs : 0 < spanF a1
  · by_cases hf : fitsF a1 (z2.take (min z2.length 700)) = true
    · by_cases hl : (z0.take (min z0.length 1300) ++ putF a1 (z2.take (min z2.length 700))).length ≤ 1280
      · obtain ⟨k, rfl, hk⟩ : ∃ k : Nat, a1 = k ∧ (k = 1 ∨ k = 2 ∨ k = 4) := by
          rcases fits_size a1 _ hf with rfl | rfl | rfl
          · exact ⟨1, rfl, by omega⟩
          · exact ⟨2, rfl, by omega⟩
          · exact ⟨4, rfl, by omega⟩
        exact puts_ok k a0 a2 cap0 cap2 z0 z2 _ _ hx hy m0 m2 hb hm hk hf hl w w0 w2
      · exact puts_long a1 a0 a2 cap0 cap2 z0 z2 _ _ hx hy m0 m2 hb hm (by simpa using hs) hf (by omega) w w0 w2
    · exact puts_bad a1 a0 a2 cap0 cap2 z0 z2 _ _ hx hy m0 m2 hb hm (by simpa using hs) (by simpa using hf) w w0 w2
  · exact puts_size a1 a0 a2 cap0 cap2 z0 z2 _ _ hx hy m0 m2 hb hm (by simpa using hs) (by unfold fitsF; simp; omega) w w0 w2
end Go.Proofs.Ytnbglbehdjhmcaa.Pk
