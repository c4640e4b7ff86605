/- Numbers that are put behind one another are what is put of all at once: the law's walk. -/
import Derived.Test.YtnbglbehdjhmcaaPackKnown
import Derived.Test.YtnbglbehdjhmcaaPackPut
set_option maxRecDepth 100000
set_option linter.unusedVariables false
set_option linter.unusedSimpArgs false
namespace Go.Proofs.Ytnbglbehdjhmcaa.Pk
open Go.RowKit Go.Proofs.YtnbglbehdjhmcaaW.PrintWords
theorem infoN : (Try.prog.info? 3).map (fun i => (i.zero, i.size, i.bytes)) = some (some (.int .i64 0), 1, 8) := by kernel_rfl
set_option maxHeartbeats 4000000 in
theorem joins_ok (k : Int) (B D : Option Addr) (cl dl : Nat) (l m : List Int) (x y : Nat) (hx : (if (100 : Int) < l.length then 100 else (l.length : Int)) = x) (hy : (if (100 : Int) < m.length then 100 else (m.length : Int)) = y) (hcl : l.length ≤ cl) (hdl : m.length ≤ dl) (hf : fitsF k (l.take x) = true) (hg : fitsF k (m.take y) = true) (w : World) (hl : Kd.C (Kd.int .i64) w B l.length l) (hm : Kd.C (Kd.int .i64) w D m.length m) : Calls Try.prog 4 #[.int .i64 k, .slice B l.length cl, .slice D m.length dl] w fun e w' => e = .returned (.bool true) ∧ Below w.heap.size w w' := by
  have hx1 : x ≤ l.length ∧ x ≤ 100 := by split at hx <;> omega
  have hy1 : y ≤ m.length ∧ y ≤ 100 := by split at hy <;> omega
  obtain ⟨hx1, hx2⟩ := hx1
  obtain ⟨hy1, hy2⟩ := hy1
  have HXL := Lib.hid (show (l.take x).length = x ∧ x ≤ 100 from ⟨by simp; omega, hx2⟩)
  have HYL := Lib.hid (show (m.take y).length = y ∧ y ≤ 100 from ⟨by simp; omega, hy2⟩)
  have HL := Lib.hid (show Kd.C (Kd.int .i64) w B (l.take x).length (l.take x) by rw [HXL.out.1]; exact C_take hl hx1)
  have HM := Lib.hid (show Kd.C (Kd.int .i64) w D (m.take y).length (m.take y) by rw [HYL.out.1]; exact C_take hm hy1)
  have hxc : x ≤ cl := by omega
  have hyc : y ≤ dl := by omega
  have PL := Lib.hid (putF_len k (l.take x))
  have PM := Lib.hid (putF_len k (m.take y))
  have HF := Lib.hid hf
  have HG := Lib.hid hg
  clear hf hg
  clear hl hm hx2 hy2
  go_enter Try.func4, Try.ntmps4
  go_wp2_with fail
  go_quiet (fail)
  have HL0 := Lib.hid (Kd.C_below HL.out (pw_below_drewN (Below.refl w.heap.size w) nq))
  have HM0 := Lib.hid (Kd.C_below HM.out (pw_below_drewN (Below.refl w.heap.size w) nq))
  have B0 := Lib.hid (pw_below_drewN (Below.refl w.heap.size w) nq)
  clear HL HM
  generalize w.drewN nq = W0 at HL0 HM0 B0 ⊢
  obtain ⟨hxl, hx2⟩ := HXL.out
  obtain ⟨hyl, hy2⟩ := HYL.out
  have hlc : x ≤ cl := hxc
  have hld : y ≤ dl := hyc
  clear HXL HYL hx hy hx1 hy1 hxc hyc
  generalize l.take x = LX at HL0 PL HF hxl 
  generalize m.take y = MY at HM0 PM HG hyl 
  subst hxl hyl
  go_wp2_with fail
  refine (put_ok none B 0 cl k [] LX LX.length rfl HF.out _ (Kd.C_nil _ _) HL0.out (by omega) (by have := PL.out; simp; omega)).mono ?_
  rintro e w1 ⟨v1, rfl, ho, hb⟩
  rw [List.nil_append] at ho
  obtain ⟨A1, c1, rfl, hc1⟩ := own_slice ho
  have HO1 := Lib.hid ho
  have B1 := Lib.hid hb
  clear ho hb
  go_wp2_with fail
  refine (put_ok A1 D c1 dl k (putF k LX) MY MY.length rfl HG.out _ (own_C HO1.out) (Kd.C_below HM0.out B1.out) (by omega) (by have := PL.out; have := PM.out; simp; omega)).mono ?_
  rintro e w2 ⟨v2, rfl, ho, hb⟩
  obtain ⟨A2, c2, rfl, hc2⟩ := own_slice ho
  (obtain ⟨X, hX⟩ : ∃ X, putF k LX ++ putF k MY = X := ⟨_, rfl⟩)
  rw [hX] at ho hc2 ⊢
  have HX := Lib.hid hX
  have HXN := Lib.hid (show X.length ≤ 1000000 by rw [← hX]; have := PL.out; have := PM.out; simp; omega)
  have HO2 := Lib.hid (own_weaken ho B1.out.size)
  clear hX
  have B2 := Lib.hid (bel B1.out hb)
  clear ho hb HO1
  go_wp2_with (first | ((with_reducible refine gate_builtin (b := .append) (xs := #[.tmp 38, .tmp 39]) rfl ?_); at_builtin; refine print_append_row_of (w0 := W0) (Value.int .i64) (0 : Int) W0.heap.size rfl (.tmp 38) (.tmp 39) 28 3 (.int .i64 0) 8 rfl Try.underlying28 infoN rfl (by decide) (fun _ => rfl) (.slice (some ⟨w2.heap.size, 0, none⟩) 0 0) [] LX B LX.length cl rfl rfl (own_weaken (World.ownsRow_made w2 #[] 0 (Nat.le_refl _) (Nat.zero_le _) rfl) B2.out.size) ?aR ?aB ?aS ?aL ?_; (case aR => exact Kd.reads_of_C (enc := Value.int .i64) (d := (0 : Int)) (h1 := fun _ => rfl) (Kd.C_below HL0.out (bel B2.out (below_new _ _)))); (case aB => exact bel B2.out (below_new _ _)); (case aS => exact Nat.le_trans B2.out.size (size_new _ _)); (case aL => first | omega | (simp; omega)); intro v7 w7 ho hb7 hg7 hat7; have HO27 := Lib.hid (own_mid HO2.out (World.ownsRow_made w2 #[] 0 (Nat.le_refl _) (Nat.zero_le _) rfl) hg7 (by decide)); (rw [show ([] : List Int) ++ LX = LX from rfl] at ho); have HO7 := Lib.hid ho; have B7 := Lib.hid hb7; obtain ⟨A7, c7, hv7, hc7⟩ := own_slice ho; subst hv7; clear ho hb7 hg7 hat7) | ((with_reducible refine gate_builtin (b := .append) (xs := #[.tmp 40, .tmp 41]) rfl ?_); at_builtin; refine print_append_row_of (w0 := W0) (Value.int .i64) (0 : Int) W0.heap.size rfl (.tmp 40) (.tmp 41) 28 3 (.int .i64 0) 8 rfl Try.underlying28 infoN rfl (by decide) (fun _ => rfl) (.slice A7 LX.length c7) LX MY D MY.length dl rfl rfl HO7.out ?bR ?bB ?bS ?bL ?_; (case bR => exact Kd.reads_of_C (enc := Value.int .i64) (d := (0 : Int)) (h1 := fun _ => rfl) (Kd.C_below HM0.out B7.out)); (case bB => exact B7.out); (case bS => exact B7.out.size); (case bL => first | omega | (simp; omega)); intro v8 w8 ho hb8 hg8 hat8; have HO28 := Lib.hid (own_other HO27.out hg8 (own_type_ne HO27.out HO7.out (by decide))); (obtain ⟨LM, hLM⟩ : ∃ LM, LX ++ MY = LM := ⟨_, rfl⟩); rw [hLM] at ho; have HLM := Lib.hid hLM; have HLN := Lib.hid (show LM.length ≤ 200 by rw [← hLM]; simp; omega); have HO8 := Lib.hid ho; have B8 := Lib.hid hb8; obtain ⟨A8, c8, hv8, hc8, hd8⟩ := own_slice2 ho; subst hv8; clear hLM ho hb8 hg8 hat8 HO7 B7 B2))
  refine (put_ok none A8 0 c8 k [] LM LM.length rfl (by rw [← HLM.out, fits_append, HF.out, HG.out]; rfl) _ (Kd.C_nil _ _) (own_C HO8.out) hc8 (by have := PL.out; have := PM.out; rw [← HLM.out, putF_append]; simp; omega)).mono ?_
  rintro e w3 ⟨v3, rfl, ho, hb⟩
  rw [List.nil_append, ← HLM.out, putF_append, HX.out] at ho
  obtain ⟨A3, c3, rfl, hc3⟩ := own_slice ho
  have HO3 := Lib.hid ho
  have HO4 := Lib.hid (pw_own_below HO28.out hb)
  have B3 := Lib.hid (bel B8.out hb)
  clear ho hb HO28 HO27 HO8 B8
  go_wp2_with fail
  refine (known2 _).mono ?_
  rintro e w4 ⟨rfl, hb⟩
  have HC3 := Lib.hid (own_C (pw_own_below HO3.out hb))
  have HC4 := Lib.hid (own_C (pw_own_below HO4.out hb))
  have B4 := Lib.hid (bel (B0.out.trans (B3.out.mono B0.out.size)) hb)
  clear hb HO3 HO4 B3
  go_wp2_with fail
  refine (same_any A2 A3 c2 c3 X X true (by simp) _ HC4.out hc2 HC3.out hc3 HXN.out).mono ?_
  rintro e w5 ⟨rfl, m5, rfl⟩
  go_wp2_with fail
  go_ret
  exact ⟨rfl, pw_below_drewN B4.out m5⟩
set_option maxHeartbeats 4000000 in
theorem joins_bad1 (k : Int) (B D : Option Addr) (cl dl : Nat) (l m : List Int) (x y : Nat) (hx : (if (100 : Int) < l.length then 100 else (l.length : Int)) = x) (hy : (if (100 : Int) < m.length then 100 else (m.length : Int)) = y) (hcl : l.length ≤ cl) (hdl : m.length ≤ dl) (hf : fitsF k (l.take x) = false) (w : World) (hl : Kd.C (Kd.int .i64) w B l.length l) (hm : Kd.C (Kd.int .i64) w D m.length m) : Calls Try.prog 4 #[.int .i64 k, .slice B l.length cl, .slice D m.length dl] w fun e w' => e = .returned (.bool true) ∧ Below w.heap.size w w' := by
  have hx1 : x ≤ l.length ∧ x ≤ 100 := by split at hx <;> omega
  have hy1 : y ≤ m.length ∧ y ≤ 100 := by split at hy <;> omega
  obtain ⟨hx1, hx2⟩ := hx1
  obtain ⟨hy1, hy2⟩ := hy1
  have HXL := Lib.hid (show (l.take x).length = x ∧ x ≤ 100 from ⟨by simp; omega, hx2⟩)
  have HYL := Lib.hid (show (m.take y).length = y ∧ y ≤ 100 from ⟨by simp; omega, hy2⟩)
  have HL := Lib.hid (show Kd.C (Kd.int .i64) w B (l.take x).length (l.take x) by rw [HXL.out.1]; exact C_take hl hx1)
  have HM := Lib.hid (show Kd.C (Kd.int .i64) w D (m.take y).length (m.take y) by rw [HYL.out.1]; exact C_take hm hy1)
  have hxc : x ≤ cl := by omega
  have hyc : y ≤ dl := by omega
  have PL := Lib.hid (putF_len k (l.take x))
  have PM := Lib.hid (putF_len k (m.take y))
  have HF := Lib.hid hf
  clear hf
  clear hl hm hx2 hy2
  go_enter Try.func4, Try.ntmps4
  go_wp2_with fail
  go_quiet (fail)
  have HL0 := Lib.hid (Kd.C_below HL.out (pw_below_drewN (Below.refl w.heap.size w) nq))
  have HM0 := Lib.hid (Kd.C_below HM.out (pw_below_drewN (Below.refl w.heap.size w) nq))
  have B0 := Lib.hid (pw_below_drewN (Below.refl w.heap.size w) nq)
  clear HL HM
  generalize w.drewN nq = W0 at HL0 HM0 B0 ⊢
  obtain ⟨hxl, hx2⟩ := HXL.out
  obtain ⟨hyl, hy2⟩ := HYL.out
  have hlc : x ≤ cl := hxc
  have hld : y ≤ dl := hyc
  clear HXL HYL hx hy hx1 hy1 hxc hyc
  generalize l.take x = LX at HL0 PL HF hxl 
  generalize m.take y = MY at HM0 PM hyl 
  subst hxl hyl
  go_wp2_with fail
  refine (put_bad none B 0 0 LX.length cl k LX rfl HF.out _ HL0.out (by omega)).mono ?_
  rintro e w1 ⟨rfl, rfl⟩
  go_wp2_with fail
  refine (put_gen none D 0 dl k [] MY MY.length rfl _ (Kd.C_nil _ _) HM0.out (by omega) (by simp)).mono ?_
  rintro e w2 ⟨v2, r2, rfl, hb⟩
  have B2 := Lib.hid hb
  clear hb
  go_wp2_with (first | ((with_reducible refine gate_builtin (b := .append) (xs := #[.tmp 38, .tmp 39]) rfl ?_); at_builtin; refine print_append_row_of (w0 := w1) (Value.int .i64) (0 : Int) w1.heap.size rfl (.tmp 38) (.tmp 39) 28 3 (.int .i64 0) 8 rfl Try.underlying28 infoN rfl (by decide) (fun _ => rfl) (.slice (some ⟨w2.heap.size, 0, none⟩) 0 0) [] LX B LX.length cl rfl rfl (own_weaken (World.ownsRow_made w2 #[] 0 (Nat.le_refl _) (Nat.zero_le _) rfl) B2.out.size) ?aR ?aB ?aS ?aL ?_; (case aR => exact Kd.reads_of_C (enc := Value.int .i64) (d := (0 : Int)) (h1 := fun _ => rfl) (Kd.C_below HL0.out (bel B2.out (below_new _ _)))); (case aB => exact bel B2.out (below_new _ _)); (case aS => exact Nat.le_trans B2.out.size (size_new _ _)); (case aL => first | omega | (simp; omega)); intro v7 w7 ho hb7 hg7 hat7; (rw [show ([] : List Int) ++ LX = LX from rfl] at ho); have HO7 := Lib.hid ho; have B7 := Lib.hid hb7; obtain ⟨A7, c7, hv7, hc7⟩ := own_slice ho; subst hv7; clear ho hb7 hg7 hat7) | ((with_reducible refine gate_builtin (b := .append) (xs := #[.tmp 40, .tmp 41]) rfl ?_); at_builtin; refine print_append_row_of (w0 := w1) (Value.int .i64) (0 : Int) w1.heap.size rfl (.tmp 40) (.tmp 41) 28 3 (.int .i64 0) 8 rfl Try.underlying28 infoN rfl (by decide) (fun _ => rfl) (.slice A7 LX.length c7) LX MY D MY.length dl rfl rfl HO7.out ?bR ?bB ?bS ?bL ?_; (case bR => exact Kd.reads_of_C (enc := Value.int .i64) (d := (0 : Int)) (h1 := fun _ => rfl) (Kd.C_below HM0.out B7.out)); (case bB => exact B7.out); (case bS => exact B7.out.size); (case bL => first | omega | (simp; omega)); intro v8 w8 ho hb8 hg8 hat8; (obtain ⟨LM, hLM⟩ : ∃ LM, LX ++ MY = LM := ⟨_, rfl⟩); rw [hLM] at ho; have HLM := Lib.hid hLM; have HLN := Lib.hid (show LM.length ≤ 200 by rw [← hLM]; simp; omega); have HO8 := Lib.hid ho; have B8 := Lib.hid hb8; obtain ⟨A8, c8, hv8, hc8, hd8⟩ := own_slice2 ho; subst hv8; clear hLM ho hb8 hg8 hat8 HO7 B7 B2))
  refine (put_bad none A8 0 0 LM.length c8 k LM rfl (by rw [← HLM.out, fits_append, HF.out]; simp) _ (own_C HO8.out) hc8).mono ?_
  rintro e w3 ⟨rfl, rfl⟩
  go_wp2_with fail
  refine (known2 _).mono ?_
  rintro e w4 ⟨rfl, hb⟩
  have B4 := Lib.hid (bel (B0.out.trans (B8.out.mono B0.out.size)) hb)
  clear hb
  go_wp2_with fail
  go_ret
  exact ⟨rfl, B4.out⟩
set_option maxHeartbeats 4000000 in
theorem joins_bad2 (k : Int) (B D : Option Addr) (cl dl : Nat) (l m : List Int) (x y : Nat) (hx : (if (100 : Int) < l.length then 100 else (l.length : Int)) = x) (hy : (if (100 : Int) < m.length then 100 else (m.length : Int)) = y) (hcl : l.length ≤ cl) (hdl : m.length ≤ dl) (hf : fitsF k (l.take x) = true) (hg : fitsF k (m.take y) = false) (w : World) (hl : Kd.C (Kd.int .i64) w B l.length l) (hm : Kd.C (Kd.int .i64) w D m.length m) : Calls Try.prog 4 #[.int .i64 k, .slice B l.length cl, .slice D m.length dl] w fun e w' => e = .returned (.bool true) ∧ Below w.heap.size w w' := by
  have hx1 : x ≤ l.length ∧ x ≤ 100 := by split at hx <;> omega
  have hy1 : y ≤ m.length ∧ y ≤ 100 := by split at hy <;> omega
  obtain ⟨hx1, hx2⟩ := hx1
  obtain ⟨hy1, hy2⟩ := hy1
  have HXL := Lib.hid (show (l.take x).length = x ∧ x ≤ 100 from ⟨by simp; omega, hx2⟩)
  have HYL := Lib.hid (show (m.take y).length = y ∧ y ≤ 100 from ⟨by simp; omega, hy2⟩)
  have HL := Lib.hid (show Kd.C (Kd.int .i64) w B (l.take x).length (l.take x) by rw [HXL.out.1]; exact C_take hl hx1)
  have HM := Lib.hid (show Kd.C (Kd.int .i64) w D (m.take y).length (m.take y) by rw [HYL.out.1]; exact C_take hm hy1)
  have hxc : x ≤ cl := by omega
  have hyc : y ≤ dl := by omega
  have PL := Lib.hid (putF_len k (l.take x))
  have PM := Lib.hid (putF_len k (m.take y))
  have HF := Lib.hid hf
  have HG := Lib.hid hg
  clear hf hg
  clear hl hm hx2 hy2
  go_enter Try.func4, Try.ntmps4
  go_wp2_with fail
  go_quiet (fail)
  have HL0 := Lib.hid (Kd.C_below HL.out (pw_below_drewN (Below.refl w.heap.size w) nq))
  have HM0 := Lib.hid (Kd.C_below HM.out (pw_below_drewN (Below.refl w.heap.size w) nq))
  have B0 := Lib.hid (pw_below_drewN (Below.refl w.heap.size w) nq)
  clear HL HM
  generalize w.drewN nq = W0 at HL0 HM0 B0 ⊢
  obtain ⟨hxl, hx2⟩ := HXL.out
  obtain ⟨hyl, hy2⟩ := HYL.out
  have hlc : x ≤ cl := hxc
  have hld : y ≤ dl := hyc
  clear HXL HYL hx hy hx1 hy1 hxc hyc
  generalize l.take x = LX at HL0 PL HF hxl 
  generalize m.take y = MY at HM0 PM HG hyl 
  subst hxl hyl
  go_wp2_with fail
  refine (put_ok none B 0 cl k [] LX LX.length rfl HF.out _ (Kd.C_nil _ _) HL0.out (by omega) (by have := PL.out; simp; omega)).mono ?_
  rintro e w1 ⟨v1, rfl, ho, hb⟩
  rw [List.nil_append] at ho
  obtain ⟨A1, c1, rfl, hc1⟩ := own_slice ho
  have HO1 := Lib.hid ho
  have B1 := Lib.hid hb
  clear ho hb
  go_wp2_with fail
  refine (put_bad A1 D (putF k LX).length c1 MY.length dl k MY rfl HG.out _ (Kd.C_below HM0.out B1.out) (by omega)).mono ?_
  rintro e w2 ⟨rfl, rfl⟩
  have B2 := B1
  clear HO1
  go_wp2_with (first | ((with_reducible refine gate_builtin (b := .append) (xs := #[.tmp 38, .tmp 39]) rfl ?_); at_builtin; refine print_append_row_of (w0 := W0) (Value.int .i64) (0 : Int) W0.heap.size rfl (.tmp 38) (.tmp 39) 28 3 (.int .i64 0) 8 rfl Try.underlying28 infoN rfl (by decide) (fun _ => rfl) (.slice (some ⟨w2.heap.size, 0, none⟩) 0 0) [] LX B LX.length cl rfl rfl (own_weaken (World.ownsRow_made w2 #[] 0 (Nat.le_refl _) (Nat.zero_le _) rfl) B2.out.size) ?aR ?aB ?aS ?aL ?_; (case aR => exact Kd.reads_of_C (enc := Value.int .i64) (d := (0 : Int)) (h1 := fun _ => rfl) (Kd.C_below HL0.out (bel B2.out (below_new _ _)))); (case aB => exact bel B2.out (below_new _ _)); (case aS => exact Nat.le_trans B2.out.size (size_new _ _)); (case aL => first | omega | (simp; omega)); intro v7 w7 ho hb7 hg7 hat7; (rw [show ([] : List Int) ++ LX = LX from rfl] at ho); have HO7 := Lib.hid ho; have B7 := Lib.hid hb7; obtain ⟨A7, c7, hv7, hc7⟩ := own_slice ho; subst hv7; clear ho hb7 hg7 hat7) | ((with_reducible refine gate_builtin (b := .append) (xs := #[.tmp 40, .tmp 41]) rfl ?_); at_builtin; refine print_append_row_of (w0 := W0) (Value.int .i64) (0 : Int) W0.heap.size rfl (.tmp 40) (.tmp 41) 28 3 (.int .i64 0) 8 rfl Try.underlying28 infoN rfl (by decide) (fun _ => rfl) (.slice A7 LX.length c7) LX MY D MY.length dl rfl rfl HO7.out ?bR ?bB ?bS ?bL ?_; (case bR => exact Kd.reads_of_C (enc := Value.int .i64) (d := (0 : Int)) (h1 := fun _ => rfl) (Kd.C_below HM0.out B7.out)); (case bB => exact B7.out); (case bS => exact B7.out.size); (case bL => first | omega | (simp; omega)); intro v8 w8 ho hb8 hg8 hat8; (obtain ⟨LM, hLM⟩ : ∃ LM, LX ++ MY = LM := ⟨_, rfl⟩); rw [hLM] at ho; have HLM := Lib.hid hLM; have HLN := Lib.hid (show LM.length ≤ 200 by rw [← hLM]; simp; omega); have HO8 := Lib.hid ho; have B8 := Lib.hid hb8; obtain ⟨A8, c8, hv8, hc8, hd8⟩ := own_slice2 ho; subst hv8; clear hLM ho hb8 hg8 hat8 HO7 B7 B2))
  refine (put_bad none A8 0 0 LM.length c8 k LM rfl (by rw [← HLM.out, fits_append, HF.out, HG.out]; simp) _ (own_C HO8.out) hc8).mono ?_
  rintro e w3 ⟨rfl, rfl⟩
  go_wp2_with fail
  refine (known2 _).mono ?_
  rintro e w4 ⟨rfl, hb⟩
  have B4 := Lib.hid (bel (B0.out.trans (B8.out.mono B0.out.size)) hb)
  clear hb
  go_wp2_with fail
  go_ret
  exact ⟨rfl, B4.out⟩
theorem joins_walk (k : Int) (B D : Option Addr) (cl dl : Nat) (l m : List Int) (hcl : l.length ≤ cl) (hdl : m.length ≤ dl) (w : World) (hl : Kd.C (Kd.int .i64) w B l.length l) (hm : Kd.C (Kd.int .i64) w D m.length m) : Calls Try.prog 4 #[.int .i64 k, .slice B l.length cl, .slice D m.length dl] w fun e w' => e = .returned (.bool true) ∧ Below w.heap.size w w' := by
  have hx : (if (100 : Int) < l.length then 100 else (l.length : Int)) = ((min l.length 100 : Nat) : Int) := by split <;> omega
  have hy : (if (100 : Int) < m.length then 100 else (m.length : Int)) = ((min m.length 100 : Nat) : Int) := by split <;> omega
  by_cases hf : fitsF k (l.take (min l.length 100)) = true
  · by_cases hg : fitsF k (m.take (min m.length 100)) = true
    · exact joins_ok k B D cl dl l m _ _ hx hy hcl hdl hf hg w hl hm
    · exact joins_bad2 k B D cl dl l m _ _ hx hy hcl hdl hf (by simpa using hg) w hl hm
  · exact joins_bad1 k B D cl dl l m _ _ hx hy hcl hdl (by simpa using hf) w hl hm
theorem joins_row (a0 : Int) (a1 : Option Addr) (cap1 : Nat) (z1 : List (Int)) (a2 : Option Addr) (cap2 : Nat) (z2 : List (Int)) (w : World) (w0 : (Lit.int .i64 a0).wf = true) (w1 : Kd.C (Kd.int .i64) w a1 z1.length z1) (m1 : z1.length ≤ cap1) (o1 : (z1.length ≤ maxLen ∧ ∀ x0 ∈ z1, (Lit.int .i64 x0).wf = true)) (y1 : z1.length * Try.prog.bytesOf 3 ≤ 140737488351232) (w2 : Kd.C (Kd.int .i64) w a2 z2.length z2) (m2 : z2.length ≤ cap2) (o2 : (z2.length ≤ maxLen ∧ ∀ x0 ∈ z2, (Lit.int .i64 x0).wf = true)) (y2 : z2.length * Try.prog.bytesOf 3 ≤ 140737488351232) :
    Calls Try.prog 4 #[.int .i64 a0, .slice a1 z1.length cap1, .slice a2 z2.length cap2] w fun e w' => e = .returned (.bool true) ∧ Below w.heap.size w w' := joins_walk a0 a1 a2 cap1 cap2 z1 z2 m1 m2 w w1 w2
end Go.Proofs.Ytnbglbehdjhmcaa.Pk
