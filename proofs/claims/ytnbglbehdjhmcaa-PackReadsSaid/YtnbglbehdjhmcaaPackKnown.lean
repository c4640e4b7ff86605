/- known of layer 2. -/
import Derived.Test.YtnbglbehdjhmcaaPackMore
import Derived.Test.YtnbglbehdjhmcaaPPackNilx1
set_option linter.unusedVariables false
set_option linter.unusedSimpArgs false
namespace Go.Proofs.Ytnbglbehdjhmcaa.Pk
open Go.RowKit Go.Proofs.YtnbglbehdjhmcaaW.PrintWords
theorem row_new (w : World) (l : List Int) (k : IntKind) (T : TypeId) (hl : l.length ≤ 1000000) : Kd.C (Kd.int k) (w.alloc (.cells (l.map (Value.int k)).toArray T)) (some ⟨w.heap.size, 0, none⟩) l.length l := by
  refine Kd.C_of_reads (enc := Value.int k) (d := (0 : Int)) (h1 := fun _ => rfl) ⟨rfl, by omega, fun _ => ⟨_, rfl, fun j hj => ?_⟩⟩
  have := blk_cell (blk_new w (l.map (Value.int k)).toArray T) (0 + j)
  have e : (Addr.add ⟨w.heap.size, 0, none⟩ j) = ⟨w.heap.size, 0 + j, none⟩ := by unfold Addr.add; split <;> simp_all
  rw [e, this]
  simp [hj]
theorem known2 (w : World) : Calls Try.prog 17 #[] w fun e w' => e = .returned (.bool true) ∧ Below w.heap.size w w' := by
  go_enter Try.func17, Try.ntmps17
  go_wp2_with fail
  refine (put_2 none (some ⟨w.heap.size, 0, none⟩) 0 1 [] [258] (by decide) _ (Kd.C_nil _ _) (row_new w [258] .i64 3 (by decide)) (by decide) (by decide)).mono ?_
  rintro e w1 ⟨v, r, rfl, hv, hb⟩
  have hpf : ([] : List Int) ++ putF 2 [258] = [1, 2] := by decide
  rw [hpf] at hv
  obtain ⟨rfl, _, ho⟩ | ⟨_, hlong, _⟩ := hv
  case inr => simp at hlong
  obtain ⟨A1, c1, rfl, hc1⟩ := own_slice ho
  have HO := Lib.hid ho
  have HB := Lib.hid (bel (below_new w (.cells #[.int .i64 258] 3)) (hb.mono (Nat.le_refl _)))
  clear ho hb
  go_wp2_with fail
  have HC1 := Lib.hid (row_new w1 [0, 0, 1, 0] .u8 5 (by decide))
  have HO2 := Lib.hid (own_alloc HO.out (.cells #[.int .u8 0, .int .u8 0, .int .u8 1, .int .u8 0] 5))
  have HB2 := Lib.hid (bel HB.out (below_new w1 (.cells #[.int .u8 0, .int .u8 0, .int .u8 1, .int .u8 0] 5)))
  have HC2 : Hid (Kd.C (Kd.int .u8) (w1.alloc (.cells #[.int .u8 0, .int .u8 0, .int .u8 1, .int .u8 0] 5)) (some ⟨w1.heap.size, 0, none⟩) 4 [0, 0, 1, 0]) := Lib.hid HC1.out
  clear HC1 HO HB
  refine (over_any (some ⟨w1.heap.size, 0, none⟩) 4 4 _).mono ?_
  rintro e w2 ⟨rfl, hcu, hb⟩
  have hs1 : Hid (w1.heap.size < (w1.alloc (.cells #[.int .u8 0, .int .u8 0, .int .u8 1, .int .u8 0] 5)).heap.size) := Lib.hid (by show _ < (w1.heap.push _).size; simp)
  generalize w1.alloc (.cells #[.int .u8 0, .int .u8 0, .int .u8 1, .int .u8 0] 5) = W at hcu hb HO2 HB2 HC2 hs1 ⊢
  have HCu := Lib.hid hcu
  have HC3 := Lib.hid (Kd.C_below HC2.out hb)
  have HO3 := Lib.hid (pw_own_below HO2.out hb)
  have HB3 := Lib.hid (bel HB2.out hb)
  clear hcu hb HC2 HO2
  go_wp2_with fail
  have hg1 : Hid (W.heap.size < w2.heap.size) := Lib.hid (blk_lt HCu.out)
  have HD1 : Hid (Kd.C (Kd.int .u8) (w2.alloc (.cells #[.int .u8 1] 5)) (some ⟨w2.heap.size, 0, none⟩) 1 [1]) := Lib.hid (row_new w2 [1] .u8 5 (by decide))
  have HCu2 : Hid (Cu (w2.alloc (.cells #[.int .u8 1] 5)) W.heap.size (some ⟨w1.heap.size, 0, none⟩) 4 4 0 0) := Lib.hid (blk_bel HCu.out (below_new w2 _))
  have HC4 := Lib.hid (Kd.C_alloc HC3.out (.cells #[.int .u8 1] 5))
  have HO4 := Lib.hid (own_alloc HO3.out (.cells #[.int .u8 1] 5))
  have HB4 := Lib.hid (bel HB3.out (below_new w2 (.cells #[.int .u8 1] 5)))
  have hg2 : Hid (W.heap.size < (w2.alloc (.cells #[.int .u8 1] 5)).heap.size) := Lib.hid (Nat.lt_of_lt_of_le hg1.out (size_new _ _))
  clear HCu HC3 HO3 HB3
  refine (over_any (some ⟨w2.heap.size, 0, none⟩) 1 1 _).mono ?_
  rintro e w3 ⟨rfl, hcu, hb⟩
  generalize w2.alloc (.cells #[.int .u8 1] 5) = W2 at hcu hb HD1 HCu2 HC4 HO4 HB4 hg2 ⊢
  have HCv := Lib.hid hcu
  have HCu3 := Lib.hid (blk_bel HCu2.out hb)
  have HC5 := Lib.hid (Kd.C_below HC4.out hb)
  have HD2 := Lib.hid (Kd.C_below HD1.out hb)
  have HO5 := Lib.hid (pw_own_below HO4.out hb)
  have HB5 := Lib.hid (bel HB4.out hb)
  clear hcu hb HCu2 HC4 HD1 HO4 HB4
  go_wp2_with fail
  refine (take_ok W.heap.size ⟨w1.heap.size, 0, none⟩ 4 [0, 0, 1, 0] 0 4 4 256 4294967296 (by decide) rfl (by decide) (by decide) (by decide) _ HCu3.out HC5.out (by decide) (fun w' hk => C_kp HC5.out hk (Nat.ne_of_lt hs1.out)) (by decide) (by decide) (by decide)).mono ?_
  rintro e w4 ⟨rfl, h4, k4⟩
  have hgs : W.heap.size ≠ W2.heap.size := Nat.ne_of_lt hg2.out
  have HCu4 := Lib.hid h4
  have HCv4 := Lib.hid (kp_blk HCv.out k4 (fun h => hgs h.symm))
  have HO6 := Lib.hid (own_kp HO5.out k4 HCu3.out (by decide))
  have HB6 := Lib.hid (HB5.out.trans (k4.to HB5.out.size (fun k hk => by rw [hk]; exact HB2.out.size)))
  clear h4 k4 HCu3 HC5 HCv HO5 HB5
  go_wp2_with fail
  refine (take_end W2.heap.size _ 1 1 0 2 65536 (by decide) (by decide) _ HCv4.out (by decide) (by decide) (by decide) (by decide) (by decide)).mono ?_
  rintro e w5 ⟨rfl, h5, k5⟩
  have HCv5 := Lib.hid h5
  have HCu5 := Lib.hid (kp_blk HCu4.out k5 hgs)
  have HO7 := Lib.hid (own_kp HO6.out k5 HCv4.out (by decide))
  have HB7 := Lib.hid (HB6.out.trans (k5.to HB6.out.size (fun k hk => by rw [hk]; exact Nat.le_trans HB2.out.size (Nat.le_of_lt hg2.out))))
  clear h5 k5 HCv4 HCu4 HO6 HB6
  go_wp2_with fail
  have HR9 := Lib.hid (row_new w5 [1, 2] .u8 5 (by decide))
  have HR8 := Lib.hid (Kd.C_of_reads (enc := Value.int .u8) (d := (0 : Int)) (h1 := fun _ => rfl) (own_reads_of' (own_alloc HO7.out (.cells #[.int .u8 1, .int .u8 2] 5))))
  refine (same_any A1 (some ⟨w5.heap.size, 0, none⟩) c1 2 [1, 2] [1, 2] true (by decide) _ HR8.out hc1 HR9.out (by decide) (by decide)).mono ?_
  rintro e w6 ⟨rfl, m6, rfl⟩
  clear HR8 HR9 HO7
  have HCu6 : Hid (Cu (World.drewN (w5.alloc (.cells #[.int .u8 1, .int .u8 2] 5)) m6) W.heap.size (some ⟨w1.heap.size, 0, none⟩) 4 4 4 0) := Lib.hid (blk_bel HCu5.out (pw_below_drewN (below_new _ _) m6))
  have HCv6 : Hid (Cu (World.drewN (w5.alloc (.cells #[.int .u8 1, .int .u8 2] 5)) m6) W2.heap.size (some ⟨w2.heap.size, 0, none⟩) 1 1 0 4) := Lib.hid (blk_bel HCv5.out (pw_below_drewN (below_new _ _) m6))
  have HB8 : Hid (Below w.heap.size w (World.drewN (w5.alloc (.cells #[.int .u8 1, .int .u8 2] 5)) m6)) := Lib.hid (pw_below_drewN (bel HB7.out (below_new _ _)) m6)
  clear HCu5 HCv5 HB7
  generalize World.drewN (w5.alloc (.cells #[.int .u8 1, .int .u8 2] 5)) m6 = w7 at HCu6 HCv6 HB8 ⊢
  go_wp2_with fail
  refine (close_ok W.heap.size _ 4 4 4 0 _ HCu6.out (by decide) (by decide) (by decide) (by decide)).mono ?_
  rintro e w8 ⟨rfl, m8, rfl⟩
  go_wp2_with fail
  refine (err_any W2.heap.size _ 1 1 0 4 (World.drewN w7 m8) HCv6.out).mono ?_
  rintro e w9 ⟨rfl, rfl⟩
  go_wp2_with fail
  refine (at_any W2.heap.size _ 1 1 0 4 (World.drewN w7 m8) HCv6.out).mono ?_
  rintro e w9 ⟨rfl, rfl⟩
  go_wp2_with fail
  go_ret
  exact ⟨rfl, pw_below_drewN HB8.out m8⟩
end Go.Proofs.Ytnbglbehdjhmcaa.Pk
