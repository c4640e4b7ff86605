/- The document's Decode of the hop option, over bytes that came in. -/
import Derived.Test.YtpmbibpphomfkaaHopEnc
set_option maxRecDepth 100000
set_option linter.unusedVariables false
set_option linter.unusedSimpArgs false
namespace Go.Proofs.Ytpmbibpphomfkaa.Hb
open Go.RowKit Go.Proofs.YtpmbibpphomfkaaW.PrintWords Go.Proofs.Ytpmbibpphomfkaa.Pk
theorem rdec_short (A : Option Addr) (c : Nat) (l : List Int) (w : World) (h : Kd.C (Kd.int .u8) w A l.length l) (hl : l.length < 8) : Calls Try.prog 7 #[.slice A l.length c] w fun e w' => e = .returned (.tuple #[.int .i64 0, .agg #[.bool false, .bool false, .bool false, .int .i64 0, .int .i64 0], .slice none 0 0, .int .i64 4]) ∧ Below w.heap.size w w' := by
  have HC := Lib.hid h
  clear h
  go_enter Try.func7, Try.ntmps7
  go_upto_region 1 with (fail)
  have HZ := Lib.hid (blk_new w #[.bool false, .bool false, .bool false, .int .i64 0, .int .i64 0] 23)
  have HBa := Lib.hid (below_new w (.cells #[.bool false, .bool false, .bool false, .int .i64 0, .int .i64 0] 23))
  have HCa := Lib.hid (Kd.C_below HC.out (below_new w (.cells #[.bool false, .bool false, .bool false, .int .i64 0, .int .i64 0] 23)))
  (obtain ⟨g0, hg0⟩ : ∃ g, w.heap.size = g := ⟨_, rfl⟩)
  rw [hg0] at HZ
  have HG := Lib.hid hg0
  simp only [hg0]
  generalize w.alloc (.cells #[.bool false, .bool false, .bool false, .int .i64 0, .int .i64 0] 23) = wa at HZ HBa HCa ⊢
  clear HC hg0
  have z0 := (blk_cell HZ.out 0).trans (show _ = some (.bool false) from rfl)
  have f0 := blk_frozen HZ.out 0
  have z1 := (blk_cell HZ.out 1).trans (show _ = some (.bool false) from rfl)
  have f1 := blk_frozen HZ.out 1
  have z2 := (blk_cell HZ.out 2).trans (show _ = some (.bool false) from rfl)
  have f2 := blk_frozen HZ.out 2
  have z3 := (blk_cell HZ.out 3).trans (show _ = some (.int .i64 0) from rfl)
  have f3 := blk_frozen HZ.out 3
  have z4 := (blk_cell HZ.out 4).trans (show _ = some (.int .i64 0) from rfl)
  have f4 := blk_frozen HZ.out 4
  have hgle : w.heap.size ≤ g0 := by rw [HG.out]; exact Nat.le_refl _
  go_wp2_with fail
  refine bodyPost_ret (results_list (rs := [.tmp 2, .cell 3 23, .tmp 4, .tmp 5]) rfl (by simp) (.tmp (.cell g0 23 #[.bool false, .bool false, .bool false, .int .i64 0, .int .i64 0] (0, 0) _ rfl (blk_put (cs' := #[.bool false, .bool false, .bool false, .int .i64 0, .int .i64 0]) (blk_put (cs' := #[.bool false, .bool false, .bool false, .int .i64 0, .int .i64 0]) (blk_put (cs' := #[.bool false, .bool false, .bool false, .int .i64 0, .int .i64 0]) (blk_put (cs' := #[.bool false, .bool false, .bool false, .int .i64 0, .int .i64 0]) (blk_put (cs' := #[.bool false, .bool false, .bool false, .int .i64 0, .int .i64 0]) (HZ.out) 0 _ rfl) 1 _ rfl) 2 _ rfl) 3 _ rfl) 4 _ rfl) Try.underlying23 rfl (by kernel_rfl) (.tmp (.tmp .nil))))) rfl ?_
  exact ⟨rfl, ((((HBa.out.setCell (p := ⟨g0, 0, none⟩) hgle _).setCell (p := ⟨g0, 1, none⟩) hgle _).setCell (p := ⟨g0, 2, none⟩) hgle _).setCell (p := ⟨g0, 3, none⟩) hgle _).setCell (p := ⟨g0, 4, none⟩) hgle _⟩
theorem rdec_kind1 (A : Option Addr) (c : Nat) (l : List Int) (w : World) (h : Kd.C (Kd.int .u8) w A l.length l) (hl : 8 ≤ l.length) (h1 : rd l 1 ≠ 0) : Calls Try.prog 7 #[.slice A l.length c] w fun e w' => e = .returned (.tuple #[.int .i64 0, .agg #[.bool false, .bool false, .bool false, .int .i64 0, .int .i64 0], .slice none 0 0, .int .i64 6]) ∧ Below w.heap.size w w' := by
  obtain ⟨a, rfl⟩ : ∃ a, A = some a := by
    cases A with
    | some a => exact ⟨a, rfl⟩
    | none => obtain ⟨ad, he, _⟩ := h.2.2 (by omega); cases he
  have HC := Lib.hid h
  clear h
  go_enter Try.func7, Try.ntmps7
  go_upto_region 1 with (fail)
  have HZ := Lib.hid (blk_new w #[.bool false, .bool false, .bool false, .int .i64 0, .int .i64 0] 23)
  have HBa := Lib.hid (below_new w (.cells #[.bool false, .bool false, .bool false, .int .i64 0, .int .i64 0] 23))
  have HCa := Lib.hid (Kd.C_below HC.out (below_new w (.cells #[.bool false, .bool false, .bool false, .int .i64 0, .int .i64 0] 23)))
  (obtain ⟨g0, hg0⟩ : ∃ g, w.heap.size = g := ⟨_, rfl⟩)
  rw [hg0] at HZ
  have HG := Lib.hid hg0
  simp only [hg0]
  generalize w.alloc (.cells #[.bool false, .bool false, .bool false, .int .i64 0, .int .i64 0] 23) = wa at HZ HBa HCa ⊢
  clear HC hg0
  have z0 := (blk_cell HZ.out 0).trans (show _ = some (.bool false) from rfl)
  have f0 := blk_frozen HZ.out 0
  have z1 := (blk_cell HZ.out 1).trans (show _ = some (.bool false) from rfl)
  have f1 := blk_frozen HZ.out 1
  have z2 := (blk_cell HZ.out 2).trans (show _ = some (.bool false) from rfl)
  have f2 := blk_frozen HZ.out 2
  have z3 := (blk_cell HZ.out 3).trans (show _ = some (.int .i64 0) from rfl)
  have f3 := blk_frozen HZ.out 3
  have z4 := (blk_cell HZ.out 4).trans (show _ = some (.int .i64 0) from rfl)
  have f4 := blk_frozen HZ.out 4
  have hgle : w.heap.size ≤ g0 := by rw [HG.out]; exact Nat.le_refl _
  have k1 : wa.cell? ⟨a.block, a.off + 1, none⟩ = some (.int .u8 (rd l 1)) := by obtain ⟨ad, had, hc⟩ := Kd.at_int HCa.out 1 (by omega) (by omega); cases had; exact hc
  have b1 : (rd l 1 == 0) = false := by simpa using h1
  go_wp2_with fail
  refine bodyPost_ret (results_list (rs := [.tmp 2, .cell 3 23, .tmp 4, .tmp 5]) rfl (by simp) (.tmp (.cell g0 23 #[.bool false, .bool false, .bool false, .int .i64 0, .int .i64 0] (0, 0) _ rfl (blk_put (cs' := #[.bool false, .bool false, .bool false, .int .i64 0, .int .i64 0]) (blk_put (cs' := #[.bool false, .bool false, .bool false, .int .i64 0, .int .i64 0]) (blk_put (cs' := #[.bool false, .bool false, .bool false, .int .i64 0, .int .i64 0]) (blk_put (cs' := #[.bool false, .bool false, .bool false, .int .i64 0, .int .i64 0]) (blk_put (cs' := #[.bool false, .bool false, .bool false, .int .i64 0, .int .i64 0]) (HZ.out) 0 _ rfl) 1 _ rfl) 2 _ rfl) 3 _ rfl) 4 _ rfl) Try.underlying23 rfl (by kernel_rfl) (.tmp (.tmp .nil))))) rfl ?_
  exact ⟨rfl, ((((HBa.out.setCell (p := ⟨g0, 0, none⟩) hgle _).setCell (p := ⟨g0, 1, none⟩) hgle _).setCell (p := ⟨g0, 2, none⟩) hgle _).setCell (p := ⟨g0, 3, none⟩) hgle _).setCell (p := ⟨g0, 4, none⟩) hgle _⟩
theorem rdec_kind2 (A : Option Addr) (c : Nat) (l : List Int) (w : World) (h : Kd.C (Kd.int .u8) w A l.length l) (hl : 8 ≤ l.length) (h1 : rd l 1 = 0) (h2 : rd l 2 ≠ 99) : Calls Try.prog 7 #[.slice A l.length c] w fun e w' => e = .returned (.tuple #[.int .i64 0, .agg #[.bool false, .bool false, .bool false, .int .i64 0, .int .i64 0], .slice none 0 0, .int .i64 6]) ∧ Below w.heap.size w w' := by
  obtain ⟨a, rfl⟩ : ∃ a, A = some a := by
    cases A with
    | some a => exact ⟨a, rfl⟩
    | none => obtain ⟨ad, he, _⟩ := h.2.2 (by omega); cases he
  have HC := Lib.hid h
  clear h
  go_enter Try.func7, Try.ntmps7
  go_upto_region 1 with (fail)
  have HZ := Lib.hid (blk_new w #[.bool false, .bool false, .bool false, .int .i64 0, .int .i64 0] 23)
  have HBa := Lib.hid (below_new w (.cells #[.bool false, .bool false, .bool false, .int .i64 0, .int .i64 0] 23))
  have HCa := Lib.hid (Kd.C_below HC.out (below_new w (.cells #[.bool false, .bool false, .bool false, .int .i64 0, .int .i64 0] 23)))
  (obtain ⟨g0, hg0⟩ : ∃ g, w.heap.size = g := ⟨_, rfl⟩)
  rw [hg0] at HZ
  have HG := Lib.hid hg0
  simp only [hg0]
  generalize w.alloc (.cells #[.bool false, .bool false, .bool false, .int .i64 0, .int .i64 0] 23) = wa at HZ HBa HCa ⊢
  clear HC hg0
  have z0 := (blk_cell HZ.out 0).trans (show _ = some (.bool false) from rfl)
  have f0 := blk_frozen HZ.out 0
  have z1 := (blk_cell HZ.out 1).trans (show _ = some (.bool false) from rfl)
  have f1 := blk_frozen HZ.out 1
  have z2 := (blk_cell HZ.out 2).trans (show _ = some (.bool false) from rfl)
  have f2 := blk_frozen HZ.out 2
  have z3 := (blk_cell HZ.out 3).trans (show _ = some (.int .i64 0) from rfl)
  have f3 := blk_frozen HZ.out 3
  have z4 := (blk_cell HZ.out 4).trans (show _ = some (.int .i64 0) from rfl)
  have f4 := blk_frozen HZ.out 4
  have hgle : w.heap.size ≤ g0 := by rw [HG.out]; exact Nat.le_refl _
  have k1 : wa.cell? ⟨a.block, a.off + 1, none⟩ = some (.int .u8 (rd l 1)) := by obtain ⟨ad, had, hc⟩ := Kd.at_int HCa.out 1 (by omega) (by omega); cases had; exact hc
  have k2 : wa.cell? ⟨a.block, a.off + 2, none⟩ = some (.int .u8 (rd l 2)) := by obtain ⟨ad, had, hc⟩ := Kd.at_int HCa.out 2 (by omega) (by omega); cases had; exact hc
  have b2 : (rd l 2 == 99) = false := by simpa using h2
  go_wp2_with fail
  refine bodyPost_ret (results_list (rs := [.tmp 2, .cell 3 23, .tmp 4, .tmp 5]) rfl (by simp) (.tmp (.cell g0 23 #[.bool false, .bool false, .bool false, .int .i64 0, .int .i64 0] (0, 0) _ rfl (blk_put (cs' := #[.bool false, .bool false, .bool false, .int .i64 0, .int .i64 0]) (blk_put (cs' := #[.bool false, .bool false, .bool false, .int .i64 0, .int .i64 0]) (blk_put (cs' := #[.bool false, .bool false, .bool false, .int .i64 0, .int .i64 0]) (blk_put (cs' := #[.bool false, .bool false, .bool false, .int .i64 0, .int .i64 0]) (blk_put (cs' := #[.bool false, .bool false, .bool false, .int .i64 0, .int .i64 0]) (HZ.out) 0 _ rfl) 1 _ rfl) 2 _ rfl) 3 _ rfl) 4 _ rfl) Try.underlying23 rfl (by kernel_rfl) (.tmp (.tmp .nil))))) rfl ?_
  exact ⟨rfl, ((((HBa.out.setCell (p := ⟨g0, 0, none⟩) hgle _).setCell (p := ⟨g0, 1, none⟩) hgle _).setCell (p := ⟨g0, 2, none⟩) hgle _).setCell (p := ⟨g0, 3, none⟩) hgle _).setCell (p := ⟨g0, 4, none⟩) hgle _⟩
theorem rdec_kind3 (A : Option Addr) (c : Nat) (l : List Int) (w : World) (h : Kd.C (Kd.int .u8) w A l.length l) (hl : 8 ≤ l.length) (h1 : rd l 1 = 0) (h2 : rd l 2 = 99) (h3 : rd l 3 ≠ 4) : Calls Try.prog 7 #[.slice A l.length c] w fun e w' => e = .returned (.tuple #[.int .i64 0, .agg #[.bool false, .bool false, .bool false, .int .i64 0, .int .i64 0], .slice none 0 0, .int .i64 6]) ∧ Below w.heap.size w w' := by
  obtain ⟨a, rfl⟩ : ∃ a, A = some a := by
    cases A with
    | some a => exact ⟨a, rfl⟩
    | none => obtain ⟨ad, he, _⟩ := h.2.2 (by omega); cases he
  have HC := Lib.hid h
  clear h
  go_enter Try.func7, Try.ntmps7
  go_upto_region 1 with (fail)
  have HZ := Lib.hid (blk_new w #[.bool false, .bool false, .bool false, .int .i64 0, .int .i64 0] 23)
  have HBa := Lib.hid (below_new w (.cells #[.bool false, .bool false, .bool false, .int .i64 0, .int .i64 0] 23))
  have HCa := Lib.hid (Kd.C_below HC.out (below_new w (.cells #[.bool false, .bool false, .bool false, .int .i64 0, .int .i64 0] 23)))
  (obtain ⟨g0, hg0⟩ : ∃ g, w.heap.size = g := ⟨_, rfl⟩)
  rw [hg0] at HZ
  have HG := Lib.hid hg0
  simp only [hg0]
  generalize w.alloc (.cells #[.bool false, .bool false, .bool false, .int .i64 0, .int .i64 0] 23) = wa at HZ HBa HCa ⊢
  clear HC hg0
  have z0 := (blk_cell HZ.out 0).trans (show _ = some (.bool false) from rfl)
  have f0 := blk_frozen HZ.out 0
  have z1 := (blk_cell HZ.out 1).trans (show _ = some (.bool false) from rfl)
  have f1 := blk_frozen HZ.out 1
  have z2 := (blk_cell HZ.out 2).trans (show _ = some (.bool false) from rfl)
  have f2 := blk_frozen HZ.out 2
  have z3 := (blk_cell HZ.out 3).trans (show _ = some (.int .i64 0) from rfl)
  have f3 := blk_frozen HZ.out 3
  have z4 := (blk_cell HZ.out 4).trans (show _ = some (.int .i64 0) from rfl)
  have f4 := blk_frozen HZ.out 4
  have hgle : w.heap.size ≤ g0 := by rw [HG.out]; exact Nat.le_refl _
  have k1 : wa.cell? ⟨a.block, a.off + 1, none⟩ = some (.int .u8 (rd l 1)) := by obtain ⟨ad, had, hc⟩ := Kd.at_int HCa.out 1 (by omega) (by omega); cases had; exact hc
  have k2 : wa.cell? ⟨a.block, a.off + 2, none⟩ = some (.int .u8 (rd l 2)) := by obtain ⟨ad, had, hc⟩ := Kd.at_int HCa.out 2 (by omega) (by omega); cases had; exact hc
  have k3 : wa.cell? ⟨a.block, a.off + 3, none⟩ = some (.int .u8 (rd l 3)) := by obtain ⟨ad, had, hc⟩ := Kd.at_int HCa.out 3 (by omega) (by omega); cases had; exact hc
  have b3 : (rd l 3 == 4) = false := by simpa using h3
  go_wp2_with fail
  refine bodyPost_ret (results_list (rs := [.tmp 2, .cell 3 23, .tmp 4, .tmp 5]) rfl (by simp) (.tmp (.cell g0 23 #[.bool false, .bool false, .bool false, .int .i64 0, .int .i64 0] (0, 0) _ rfl (blk_put (cs' := #[.bool false, .bool false, .bool false, .int .i64 0, .int .i64 0]) (blk_put (cs' := #[.bool false, .bool false, .bool false, .int .i64 0, .int .i64 0]) (blk_put (cs' := #[.bool false, .bool false, .bool false, .int .i64 0, .int .i64 0]) (blk_put (cs' := #[.bool false, .bool false, .bool false, .int .i64 0, .int .i64 0]) (blk_put (cs' := #[.bool false, .bool false, .bool false, .int .i64 0, .int .i64 0]) (HZ.out) 0 _ rfl) 1 _ rfl) 2 _ rfl) 3 _ rfl) 4 _ rfl) Try.underlying23 rfl (by kernel_rfl) (.tmp (.tmp .nil))))) rfl ?_
  exact ⟨rfl, ((((HBa.out.setCell (p := ⟨g0, 0, none⟩) hgle _).setCell (p := ⟨g0, 1, none⟩) hgle _).setCell (p := ⟨g0, 2, none⟩) hgle _).setCell (p := ⟨g0, 3, none⟩) hgle _).setCell (p := ⟨g0, 4, none⟩) hgle _⟩
theorem rdec_form (A : Option Addr) (c : Nat) (l : List Int) (w : World) (h : Kd.C (Kd.int .u8) w A l.length l) (hl : 8 ≤ l.length) (hb : ∀ x ∈ l, 0 ≤ x ∧ x ≤ 255) (h1 : rd l 1 = 0) (h2 : rd l 2 = 99) (h3 : rd l 3 = 4) (h4 : rd l 4 % 32 ≠ 0) : Calls Try.prog 7 #[.slice A l.length c] w fun e w' => e = .returned (.tuple #[.int .i64 0, .agg #[.bool false, .bool false, .bool false, .int .i64 0, .int .i64 0], .slice none 0 0, .int .i64 3]) ∧ Below w.heap.size w w' := by
  obtain ⟨a, rfl⟩ : ∃ a, A = some a := by
    cases A with
    | some a => exact ⟨a, rfl⟩
    | none => obtain ⟨ad, he, _⟩ := h.2.2 (by omega); cases he
  have e4 : rd l 4 = l[4] := by simp [rd, show 4 < l.length by omega]
  have hb4 : 0 ≤ rd l 4 ∧ rd l 4 ≤ 255 := by rw [e4]; exact hb _ (List.getElem_mem _)
  clear e4
  have HC := Lib.hid h
  clear h hb
  go_enter Try.func7, Try.ntmps7
  go_upto_region 1 with (fail)
  have HZ := Lib.hid (blk_new w #[.bool false, .bool false, .bool false, .int .i64 0, .int .i64 0] 23)
  have HBa := Lib.hid (below_new w (.cells #[.bool false, .bool false, .bool false, .int .i64 0, .int .i64 0] 23))
  have HCa := Lib.hid (Kd.C_below HC.out (below_new w (.cells #[.bool false, .bool false, .bool false, .int .i64 0, .int .i64 0] 23)))
  (obtain ⟨g0, hg0⟩ : ∃ g, w.heap.size = g := ⟨_, rfl⟩)
  rw [hg0] at HZ
  have HG := Lib.hid hg0
  simp only [hg0]
  generalize w.alloc (.cells #[.bool false, .bool false, .bool false, .int .i64 0, .int .i64 0] 23) = wa at HZ HBa HCa ⊢
  clear HC hg0
  have z0 := (blk_cell HZ.out 0).trans (show _ = some (.bool false) from rfl)
  have f0 := blk_frozen HZ.out 0
  have z1 := (blk_cell HZ.out 1).trans (show _ = some (.bool false) from rfl)
  have f1 := blk_frozen HZ.out 1
  have z2 := (blk_cell HZ.out 2).trans (show _ = some (.bool false) from rfl)
  have f2 := blk_frozen HZ.out 2
  have z3 := (blk_cell HZ.out 3).trans (show _ = some (.int .i64 0) from rfl)
  have f3 := blk_frozen HZ.out 3
  have z4 := (blk_cell HZ.out 4).trans (show _ = some (.int .i64 0) from rfl)
  have f4 := blk_frozen HZ.out 4
  have hgle : w.heap.size ≤ g0 := by rw [HG.out]; exact Nat.le_refl _
  have k1 : wa.cell? ⟨a.block, a.off + 1, none⟩ = some (.int .u8 (rd l 1)) := by obtain ⟨ad, had, hc⟩ := Kd.at_int HCa.out 1 (by omega) (by omega); cases had; exact hc
  have k2 : wa.cell? ⟨a.block, a.off + 2, none⟩ = some (.int .u8 (rd l 2)) := by obtain ⟨ad, had, hc⟩ := Kd.at_int HCa.out 2 (by omega) (by omega); cases had; exact hc
  have k3 : wa.cell? ⟨a.block, a.off + 3, none⟩ = some (.int .u8 (rd l 3)) := by obtain ⟨ad, had, hc⟩ := Kd.at_int HCa.out 3 (by omega) (by omega); cases had; exact hc
  have k4 : wa.cell? ⟨a.block, a.off + 4, none⟩ = some (.int .u8 (rd l 4)) := by obtain ⟨ad, had, hc⟩ := Kd.at_int HCa.out 4 (by omega) (by omega); cases had; exact hc
  generalize rd l 4 = x4 at k4 hb4 h4
  have b4 : (x4 % 32 == 0) = false := by simpa using h4
  obtain ⟨hb41, hb42⟩ := hb4
  go_wp2_with fail
  refine bodyPost_ret (results_list (rs := [.tmp 2, .cell 3 23, .tmp 4, .tmp 5]) rfl (by simp) (.tmp (.cell g0 23 #[.bool false, .bool false, .bool false, .int .i64 0, .int .i64 0] (0, 0) _ rfl (blk_put (cs' := #[.bool false, .bool false, .bool false, .int .i64 0, .int .i64 0]) (blk_put (cs' := #[.bool false, .bool false, .bool false, .int .i64 0, .int .i64 0]) (blk_put (cs' := #[.bool false, .bool false, .bool false, .int .i64 0, .int .i64 0]) (blk_put (cs' := #[.bool false, .bool false, .bool false, .int .i64 0, .int .i64 0]) (blk_put (cs' := #[.bool false, .bool false, .bool false, .int .i64 0, .int .i64 0]) (HZ.out) 0 _ rfl) 1 _ rfl) 2 _ rfl) 3 _ rfl) 4 _ rfl) Try.underlying23 rfl (by kernel_rfl) (.tmp (.tmp .nil))))) rfl ?_
  exact ⟨rfl, ((((HBa.out.setCell (p := ⟨g0, 0, none⟩) hgle _).setCell (p := ⟨g0, 1, none⟩) hgle _).setCell (p := ⟨g0, 2, none⟩) hgle _).setCell (p := ⟨g0, 3, none⟩) hgle _).setCell (p := ⟨g0, 4, none⟩) hgle _⟩
theorem cell_al {w : World} {o : Obj} {p : Addr} {v : Value} (h : w.cell? p = some v) : (w.alloc o).cell? p = some v := (World.cell?_of_block (Below.heap_alloc w o p.block (World.block_lt_of_cell? _ _ h))).trans h
theorem C_lt8 {w : World} {ad : Addr} {n : Nat} {k : IntKind} {l : List Int} (h : Kd.C (Kd.int k) w (some ad) n l) (h0 : 0 < n) : ad.block < w.heap.size := by
  obtain ⟨a, ha, hc⟩ := Kd.at_int h 0 (by omega) (by omega)
  cases ha
  have := World.block_lt_of_cell? _ _ hc
  rwa [Go.Proofs.Ytpmbibpphomfkaa.Pk.add_block] at this
theorem cellfar {w : World} {x p : Addr} {v : Value} (h : w.cell? x = some v) (hp : x.block ≠ p.block) (u : Value) : (w.setCell p u).cell? x = some v :=
  (World.cell?_of_block (Below.heap_setCell w p u x.block hp)).trans h
theorem cell5 {w : World} {x : Addr} {g : Nat} {v : Value} (h : w.cell? x = some v) (hp : x.block ≠ g) (u0 u1 u2 u3 u4 : Value) : (((((w.setCell ⟨g, 0, none⟩ u0).setCell ⟨g, 1, none⟩ u1).setCell ⟨g, 2, none⟩ u2).setCell ⟨g, 3, none⟩ u3).setCell ⟨g, 4, none⟩ u4).cell? x = some v :=
  cellfar (cellfar (cellfar (cellfar (cellfar h hp _) hp _) hp _) hp _) hp _
theorem celld {w : World} {x : Addr} {v : Value} (h : w.cell? x = some v) : w.drew.cell? x = some v := h
theorem cell5d {w : World} {x : Addr} {g : Nat} {v : Value} (h : w.cell? x = some v) (hp : x.block ≠ g) (u0 u1 u2 u3 u4 : Value) : (((((w.setCell ⟨g, 0, none⟩ u0).setCell ⟨g, 1, none⟩ u1).setCell ⟨g, 2, none⟩ u2).setCell ⟨g, 3, none⟩ u3).setCell ⟨g, 4, none⟩ u4).drew.cell? x = some v := celld (cell5 h hp u0 u1 u2 u3 u4)
set_option maxHeartbeats 4000000 in
theorem rdec_ok (A : Option Addr) (c : Nat) (l : List Int) (x0 x1 x2 x3 x4 x5 x6 x7 : Int) (rest : List Int) (hx : l = [x0, x1, x2, x3, x4, x5, x6, x7] ++ rest) (w : World) (h : Kd.C (Kd.int .u8) w A l.length l) (hc : l.length ≤ c) (hb : ∀ x ∈ l, 0 ≤ x ∧ x ≤ 255) (h1 : x1 = 0) (h2 : x2 = 99) (h3 : x3 = 4) (h4 : x4 % 32 = 0) :
    Calls Try.prog 7 #[.slice A l.length c] w fun e w' => (∃ A' c', e = .returned (.tuple #[.int .i64 x0, .agg #[.bool (x4 / 128 == 1), .bool (x4 / 64 % 2 == 1), .bool (x4 / 32 % 2 == 1), .int .i64 x5, .int .i64 (256 * x6 + x7)], .slice A' rest.length c', .int .i64 0]) ∧ rest.length ≤ c' ∧ Kd.C (Kd.int .u8) w' A' rest.length rest) ∧ Below w.heap.size w w' := by
  have hl : 8 ≤ l.length := by rw [hx]; simp
  obtain ⟨a, rfl⟩ : ∃ a, A = some a := by
    cases A with
    | some a => exact ⟨a, rfl⟩
    | none => obtain ⟨ad, he, _⟩ := h.2.2 (by omega); cases he
  have hb0 : 0 ≤ x0 ∧ x0 ≤ 255 := hb x0 (by rw [hx]; simp)
  have r0 : rd l 0 = x0 := by rw [hx]; rfl
  have hb1 : 0 ≤ x1 ∧ x1 ≤ 255 := hb x1 (by rw [hx]; simp)
  have r1 : rd l 1 = x1 := by rw [hx]; rfl
  have hb2 : 0 ≤ x2 ∧ x2 ≤ 255 := hb x2 (by rw [hx]; simp)
  have r2 : rd l 2 = x2 := by rw [hx]; rfl
  have hb3 : 0 ≤ x3 ∧ x3 ≤ 255 := hb x3 (by rw [hx]; simp)
  have r3 : rd l 3 = x3 := by rw [hx]; rfl
  have hb4 : 0 ≤ x4 ∧ x4 ≤ 255 := hb x4 (by rw [hx]; simp)
  have r4 : rd l 4 = x4 := by rw [hx]; rfl
  have hb5 : 0 ≤ x5 ∧ x5 ≤ 255 := hb x5 (by rw [hx]; simp)
  have r5 : rd l 5 = x5 := by rw [hx]; rfl
  have hb6 : 0 ≤ x6 ∧ x6 ≤ 255 := hb x6 (by rw [hx]; simp)
  have r6 : rd l 6 = x6 := by rw [hx]; rfl
  have hb7 : 0 ≤ x7 ∧ x7 ≤ 255 := hb x7 (by rw [hx]; simp)
  have r7 : rd l 7 = x7 := by rw [hx]; rfl
  have hrl : rest.length = l.length - 8 := by rw [hx]; simp
  have HX := Lib.hid hx
  have HC := Lib.hid h
  have HCw := Lib.hid h
  clear h hb hx
  go_enter Try.func7, Try.ntmps7
  go_upto_region 1 with (fail)
  have HZ := Lib.hid (blk_new w #[.bool false, .bool false, .bool false, .int .i64 0, .int .i64 0] 23)
  have HBa := Lib.hid (below_new w (.cells #[.bool false, .bool false, .bool false, .int .i64 0, .int .i64 0] 23))
  have HCa := Lib.hid (Kd.C_below HC.out (below_new w (.cells #[.bool false, .bool false, .bool false, .int .i64 0, .int .i64 0] 23)))
  (obtain ⟨g0, hg0⟩ : ∃ g, w.heap.size = g := ⟨_, rfl⟩)
  rw [hg0] at HZ
  have HG := Lib.hid hg0
  simp only [hg0]
  generalize w.alloc (.cells #[.bool false, .bool false, .bool false, .int .i64 0, .int .i64 0] 23) = wa at HZ HBa HCa ⊢
  clear HC hg0
  have z0 := (blk_cell HZ.out 0).trans (show _ = some (.bool false) from rfl)
  have f0 := blk_frozen HZ.out 0
  have z1 := (blk_cell HZ.out 1).trans (show _ = some (.bool false) from rfl)
  have f1 := blk_frozen HZ.out 1
  have z2 := (blk_cell HZ.out 2).trans (show _ = some (.bool false) from rfl)
  have f2 := blk_frozen HZ.out 2
  have z3 := (blk_cell HZ.out 3).trans (show _ = some (.int .i64 0) from rfl)
  have f3 := blk_frozen HZ.out 3
  have z4 := (blk_cell HZ.out 4).trans (show _ = some (.int .i64 0) from rfl)
  have f4 := blk_frozen HZ.out 4
  have hgle : w.heap.size ≤ g0 := by rw [HG.out]; exact Nat.le_refl _
  have k0 : wa.cell? a = some (.int .u8 (rd l 0)) := by obtain ⟨ad, had, hc⟩ := Kd.at_int HCa.out 0 (by omega) (by omega); cases had; exact hc
  have k1 : wa.cell? ⟨a.block, a.off + 1, none⟩ = some (.int .u8 (rd l 1)) := by obtain ⟨ad, had, hc⟩ := Kd.at_int HCa.out 1 (by omega) (by omega); cases had; exact hc
  have k2 : wa.cell? ⟨a.block, a.off + 2, none⟩ = some (.int .u8 (rd l 2)) := by obtain ⟨ad, had, hc⟩ := Kd.at_int HCa.out 2 (by omega) (by omega); cases had; exact hc
  have k3 : wa.cell? ⟨a.block, a.off + 3, none⟩ = some (.int .u8 (rd l 3)) := by obtain ⟨ad, had, hc⟩ := Kd.at_int HCa.out 3 (by omega) (by omega); cases had; exact hc
  have k4 : wa.cell? ⟨a.block, a.off + 4, none⟩ = some (.int .u8 (rd l 4)) := by obtain ⟨ad, had, hc⟩ := Kd.at_int HCa.out 4 (by omega) (by omega); cases had; exact hc
  have k5 : wa.cell? ⟨a.block, a.off + 5, none⟩ = some (.int .u8 (rd l 5)) := by obtain ⟨ad, had, hc⟩ := Kd.at_int HCa.out 5 (by omega) (by omega); cases had; exact hc
  have k6 : wa.cell? ⟨a.block, a.off + 6, none⟩ = some (.int .u8 (rd l 6)) := by obtain ⟨ad, had, hc⟩ := Kd.at_int HCa.out 6 (by omega) (by omega); cases had; exact hc
  have k7 : wa.cell? ⟨a.block, a.off + 7, none⟩ = some (.int .u8 (rd l 7)) := by obtain ⟨ad, had, hc⟩ := Kd.at_int HCa.out 7 (by omega) (by omega); cases had; exact hc
  rw [r0] at k0
  rw [r1] at k1
  rw [r2] at k2
  rw [r3] at k3
  rw [r4] at k4
  rw [r5] at k5
  rw [r6] at k6
  rw [r7] at k7
  clear r0 r1 r2 r3 r4 r5 r6 r7
  subst h1 h2 h3
  have c0 : IntKind.i64.wrap x0 = x0 := by rw [IntKind.wrap_i64]; omega
  have c5 : IntKind.i64.wrap x5 = x5 := by rw [IntKind.wrap_i64]; omega
  have c6 : IntKind.i64.wrap x6 = x6 := by rw [IntKind.wrap_i64]; omega
  have c7 : IntKind.i64.wrap x7 = x7 := by rw [IntKind.wrap_i64]; omega
  have m1 : IntKind.i64.wrap (256 * x6) = 256 * x6 := by rw [IntKind.wrap_i64]; omega
  have m2 : IntKind.i64.wrap (256 * x6 + x7) = 256 * x6 + x7 := by rw [IntKind.wrap_i64]; omega
  have d1 : x4.tdiv 128 = x4 / 128 := Int.tdiv_eq_ediv_of_nonneg (by omega)
  have d2 : x4.tdiv 64 = x4 / 64 := Int.tdiv_eq_ediv_of_nonneg (by omega)
  have d3 : x4.tdiv 32 = x4 / 32 := Int.tdiv_eq_ediv_of_nonneg (by omega)
  have u1 : IntKind.u8.wrap (x4 / 128) = x4 / 128 := by rw [IntKind.wrap_u8]; omega
  have u2 : IntKind.u8.wrap (x4 / 64) = x4 / 64 := by rw [IntKind.wrap_u8]; omega
  have u3 : IntKind.u8.wrap (x4 / 32) = x4 / 32 := by rw [IntKind.wrap_u8]; omega
  have t2 : (x4 / 64).tmod 2 = x4 / 64 % 2 := Int.tmod_eq_emod_of_nonneg (by omega)
  have t3 : (x4 / 32).tmod 2 = x4 / 32 % 2 := Int.tmod_eq_emod_of_nonneg (by omega)
  have v2 : IntKind.u8.wrap (x4 / 64 % 2) = x4 / 64 % 2 := by rw [IntKind.wrap_u8]; omega
  have v3 : IntKind.u8.wrap (x4 / 32 % 2) = x4 / 32 % 2 := by rw [IntKind.wrap_u8]; omega
  obtain ⟨hb41, hb42⟩ := hb4
  have hl4 : (4 : Int) < l.length := by omega
  have hl5 : (5 : Int) < l.length := by omega
  have hl6 : (6 : Int) < l.length := by omega
  have hl7 : (7 : Int) < l.length := by omega
  have HRL := Lib.hid hrl
  clear hrl
  go_wp2_with fail
  go_region_held3 (fun W => W.cell? ⟨a.block, a.off + 4, none⟩ = some (.int .u8 x4) ∧ W.cell? ⟨a.block, a.off + 5, none⟩ = some (.int .u8 x5) ∧ W.cell? ⟨a.block, a.off + 6, none⟩ = some (.int .u8 x6) ∧ W.cell? ⟨a.block, a.off + 7, none⟩ = some (.int .u8 x7)) (first | exact ⟨k4, k5, k6, k7⟩ | exact ⟨cell_al k4, cell_al k5, cell_al k6, cell_al k7⟩) (fail)
  have hag : a.block < g0 := by rw [HG.out.symm]; exact C_lt8 HCw.out (by omega)
  have HGX : Hid (g0 < wa.heap.size) := Lib.hid (blk_lt HZ.out)
  have HQ : Hid ((wa.alloc (.cells #[.bool (x4 / 128 == 1), .bool (x4 / 64 % 2 == 1), .bool (x4 / 32 % 2 == 1), .int .i64 x5, .int .i64 (256 * x6 + x7)] 23)).drew.heap[wa.heap.size]? = some (.cells #[.bool (x4 / 128 == 1), .bool (x4 / 64 % 2 == 1), .bool (x4 / 32 % 2 == 1), .int .i64 x5, .int .i64 (256 * x6 + x7)] 23 (0, 0))) := Lib.hid (blk_new wa #[.bool (x4 / 128 == 1), .bool (x4 / 64 % 2 == 1), .bool (x4 / 32 % 2 == 1), .int .i64 x5, .int .i64 (256 * x6 + x7)] 23)
  have HZb : Hid ((wa.alloc (.cells #[.bool (x4 / 128 == 1), .bool (x4 / 64 % 2 == 1), .bool (x4 / 32 % 2 == 1), .int .i64 x5, .int .i64 (256 * x6 + x7)] 23)).drew.heap[g0]? = some (.cells #[.bool false, .bool false, .bool false, .int .i64 0, .int .i64 0] 23 (0, 0))) := Lib.hid (blk_bel HZ.out ((below_new wa (.cells #[.bool (x4 / 128 == 1), .bool (x4 / 64 % 2 == 1), .bool (x4 / 32 % 2 == 1), .int .i64 x5, .int .i64 (256 * x6 + x7)] 23)).drew))
  have HCb := Lib.hid (Kd.C_below HCa.out ((below_new wa (.cells #[.bool (x4 / 128 == 1), .bool (x4 / 64 % 2 == 1), .bool (x4 / 32 % 2 == 1), .int .i64 x5, .int .i64 (256 * x6 + x7)] 23)).drew))
  have HBb := Lib.hid (bel HBa.out ((below_new wa (.cells #[.bool (x4 / 128 == 1), .bool (x4 / 64 % 2 == 1), .bool (x4 / 32 % 2 == 1), .int .i64 x5, .int .i64 (256 * x6 + x7)] 23)).drew))
  have k0b : (wa.alloc (.cells #[.bool (x4 / 128 == 1), .bool (x4 / 64 % 2 == 1), .bool (x4 / 32 % 2 == 1), .int .i64 x5, .int .i64 (256 * x6 + x7)] 23)).drew.cell? a = some (.int .u8 x0) := cell_al k0
  clear k0 k1 k2 k3 k4 k5 k6 k7 HZ HCa HBa z0 f0 z1 f1 z2 f2 z3 f3 z4 f4
  (obtain ⟨gx, hgx⟩ : ∃ g, wa.heap.size = g := ⟨_, rfl⟩)
  rw [hgx] at HQ HGX
  simp only [hgx]
  generalize (wa.alloc (.cells #[.bool (x4 / 128 == 1), .bool (x4 / 64 % 2 == 1), .bool (x4 / 32 % 2 == 1), .int .i64 x5, .int .i64 (256 * x6 + x7)] 23)).drew = wb at HQ HZb HCb HBb k0b ⊢
  have z0 := (blk_cell HZb.out 0).trans (show _ = some (.bool false) from rfl)
  have f0 := blk_frozen HZb.out 0
  have z1 := (blk_cell HZb.out 1).trans (show _ = some (.bool false) from rfl)
  have f1 := blk_frozen HZb.out 1
  have z2 := (blk_cell HZb.out 2).trans (show _ = some (.bool false) from rfl)
  have f2 := blk_frozen HZb.out 2
  have z3 := (blk_cell HZb.out 3).trans (show _ = some (.int .i64 0) from rfl)
  have f3 := blk_frozen HZb.out 3
  have z4 := (blk_cell HZb.out 4).trans (show _ = some (.int .i64 0) from rfl)
  have f4 := blk_frozen HZb.out 4
  have s0 := (blk_cell HQ.out 0).trans (show _ = some (.bool (x4 / 128 == 1)) from rfl)
  have s1 := (blk_cell HQ.out 1).trans (show _ = some (.bool (x4 / 64 % 2 == 1)) from rfl)
  have s2 := (blk_cell HQ.out 2).trans (show _ = some (.bool (x4 / 32 % 2 == 1)) from rfl)
  have s3 := (blk_cell HQ.out 3).trans (show _ = some (.int .i64 x5) from rfl)
  have s4 := (blk_cell HQ.out 4).trans (show _ = some (.int .i64 (256 * x6 + x7)) from rfl)
  have n1 : g0 ≠ gx := by have := HGX.out; omega
  have n2 : a.block ≠ g0 := by omega
  have hl8 : (8 : Int) ≤ l.length := by omega
  have hl0 : (0 : Int) < l.length := by omega
  have hl9 : 8 ≤ l.length := hl
  have hnil : ¬ l = [] := fun h => by rw [h] at hl; simp at hl
  have hnil2 : 0 < l.length := by omega
  have hlc : (l.length : Int) ≤ c := by omega
  go_wp2_with fail
  go_region_held3 (fun W => W.cell? a = some (.int .u8 x0) ∧ W.cell? ⟨gx, 0, none⟩ = some (.bool (x4 / 128 == 1)) ∧ W.cell? ⟨gx, 1, none⟩ = some (.bool (x4 / 64 % 2 == 1)) ∧ W.cell? ⟨gx, 2, none⟩ = some (.bool (x4 / 32 % 2 == 1)) ∧ W.cell? ⟨gx, 3, none⟩ = some (.int .i64 x5) ∧ W.cell? ⟨gx, 4, none⟩ = some (.int .i64 (256 * x6 + x7))) (first | (with_reducible exact ⟨cell5 k0b n2 _ _ _ _ _, cell5 s0 n1.symm _ _ _ _ _, cell5 s1 n1.symm _ _ _ _ _, cell5 s2 n1.symm _ _ _ _ _, cell5 s3 n1.symm _ _ _ _ _, cell5 s4 n1.symm _ _ _ _ _⟩) | (with_reducible exact ⟨cell5d k0b n2 _ _ _ _ _, cell5d s0 n1.symm _ _ _ _ _, cell5d s1 n1.symm _ _ _ _ _, cell5d s2 n1.symm _ _ _ _ _, cell5d s3 n1.symm _ _ _ _ _, cell5d s4 n1.symm _ _ _ _ _⟩) | (with_reducible exact ⟨k0b, s0, s1, s2, s3, s4⟩) | (with_reducible exact ⟨celld k0b, celld s0, celld s1, celld s2, celld s3, celld s4⟩)) (fail)
  have KF := ((((((Kp.refl wb (fun k => k = g0)).setCell (p := ⟨g0, 0, none⟩) (.inl rfl) (.bool (x4 / 128 == 1))).setCell (p := ⟨g0, 1, none⟩) (.inl rfl) (.bool (x4 / 64 % 2 == 1))).setCell (p := ⟨g0, 2, none⟩) (.inl rfl) (.bool (x4 / 32 % 2 == 1))).setCell (p := ⟨g0, 3, none⟩) (.inl rfl) (.int .i64 x5)).setCell (p := ⟨g0, 4, none⟩) (.inl rfl) (.int .i64 (256 * x6 + x7))).drew
  have HCF := Lib.hid (C_kp HCb.out KF n2)
  have HBF := Lib.hid (HBb.out.trans (KF.to HBb.out.size (fun k hk => by rw [hk]; exact hgle)))
  have hr8 : rest = l.drop 8 := by have := HX.out; rw [this]; rfl
  have hrl := HRL.out
  have hrow : ∀ A2 : Addr, (rest.length ≠ 0 → A2 = a.add 8) → ∀ W, Kd.C (Kd.int .u8) W (some a) l.length l → Kd.C (Kd.int .u8) W (some A2) rest.length rest := fun A2 hA W hW => by
    have h9 := sub_row (k := rest.length) (s := l.length) rfl hW (by omega) (Nat.le_refl _) hA
    rw [← hr8, List.take_of_length_le (Nat.le_refl _)] at h9
    exact h9
  by_cases h8 : c = 8
  · have HR1 := Lib.hid (hrow a (fun h => by omega))
    have HL0 := Lib.hid (show l.length - 8 = rest.length by omega)
    subst h8
    clear hrow hr8
    go_wp2_with fail
    refine bodyPost_ret (results_list (rs := [.tmp 2, .cell 3 23, .tmp 4, .tmp 5]) rfl (by simp) (.tmp (.cell g0 23 #[.bool (x4 / 128 == 1), .bool (x4 / 64 % 2 == 1), .bool (x4 / 32 % 2 == 1), .int .i64 x5, .int .i64 (256 * x6 + x7)] (0, 0) _ rfl (blk_put (cs' := #[.bool (x4 / 128 == 1), .bool (x4 / 64 % 2 == 1), .bool (x4 / 32 % 2 == 1), .int .i64 x5, .int .i64 (256 * x6 + x7)]) (blk_put (cs' := #[.bool (x4 / 128 == 1), .bool (x4 / 64 % 2 == 1), .bool (x4 / 32 % 2 == 1), .int .i64 x5, .int .i64 0]) (blk_put (cs' := #[.bool (x4 / 128 == 1), .bool (x4 / 64 % 2 == 1), .bool (x4 / 32 % 2 == 1), .int .i64 0, .int .i64 0]) (blk_put (cs' := #[.bool (x4 / 128 == 1), .bool (x4 / 64 % 2 == 1), .bool false, .int .i64 0, .int .i64 0]) (blk_put (cs' := #[.bool (x4 / 128 == 1), .bool false, .bool false, .int .i64 0, .int .i64 0]) (HZb.out) 0 _ rfl) 1 _ rfl) 2 _ rfl) 3 _ rfl) 4 _ rfl) Try.underlying23 rfl (by kernel_rfl) (.tmp (.tmp .nil))))) rfl ?_
    refine ⟨⟨some a, 0, ?_, by omega, HR1.out _ HCF.out⟩, HBF.out⟩
    rw [← HL0.out]
    rfl
  · have HR1 := Lib.hid (hrow ⟨a.block, a.off + 8, none⟩ (fun _ => by unfold Addr.add; simp))
    have HL0 := Lib.hid (show l.length - 8 = rest.length by omega)
    clear hrow hr8
    go_wp2_with fail
    refine bodyPost_ret (results_list (rs := [.tmp 2, .cell 3 23, .tmp 4, .tmp 5]) rfl (by simp) (.tmp (.cell g0 23 #[.bool (x4 / 128 == 1), .bool (x4 / 64 % 2 == 1), .bool (x4 / 32 % 2 == 1), .int .i64 x5, .int .i64 (256 * x6 + x7)] (0, 0) _ rfl (blk_put (cs' := #[.bool (x4 / 128 == 1), .bool (x4 / 64 % 2 == 1), .bool (x4 / 32 % 2 == 1), .int .i64 x5, .int .i64 (256 * x6 + x7)]) (blk_put (cs' := #[.bool (x4 / 128 == 1), .bool (x4 / 64 % 2 == 1), .bool (x4 / 32 % 2 == 1), .int .i64 x5, .int .i64 0]) (blk_put (cs' := #[.bool (x4 / 128 == 1), .bool (x4 / 64 % 2 == 1), .bool (x4 / 32 % 2 == 1), .int .i64 0, .int .i64 0]) (blk_put (cs' := #[.bool (x4 / 128 == 1), .bool (x4 / 64 % 2 == 1), .bool false, .int .i64 0, .int .i64 0]) (blk_put (cs' := #[.bool (x4 / 128 == 1), .bool false, .bool false, .int .i64 0, .int .i64 0]) (HZb.out) 0 _ rfl) 1 _ rfl) 2 _ rfl) 3 _ rfl) 4 _ rfl) Try.underlying23 rfl (by kernel_rfl) (.tmp (.tmp .nil))))) rfl ?_
    exact ⟨⟨some ⟨a.block, a.off + 8, none⟩, c - 8, rfl, by omega, by have h := HR1.out _ HCF.out; rw [hrl] at h; exact h⟩, HBF.out⟩
end Go.Proofs.Ytpmbibpphomfkaa.Hb
