/- known of layer 11, and the laws TricklePlaces and TrickleNil. -/
import Derived.Test.YtanpnhponefbbaaTrCore
set_option linter.unusedVariables false
set_option linter.unusedSimpArgs false
namespace Go.Proofs.Ytanpnhponefbbaa.Tr
open Go.RowKit Go.Proofs.YtanpnhponefbbaaW.PrintWords Go.Proofs.Ytanpnhponefbbaa.PTricklePlaces
theorem kp_blk {w w' : World} {S : Nat → Prop} (h : Kp w w' S) {g : Nat} {o : Obj} (hb : w.heap[g]? = some o) (hn : ¬ S g) : w'.heap[g]? = some o := (h.kept.2 g (blk_lt hb) hn).trans hb
theorem kp_to {W w w' : World} {g : Nat} (hB : Below W.heap.size W w) (h : Kp w w' (fun k => k = g)) (hg : W.heap.size ≤ g) : Below W.heap.size W w' := hB.trans (h.to hB.size (fun k hk => hk ▸ hg))
theorem known_any (w : World) : Calls Try.prog 31 #[] w fun e w' => e = .returned (.bool true) ∧ Below w.heap.size w w' := by
  go_enter Try.func31, Try.ntmps31
  go_wp2_with fail
  refine (new_ok 4 1 1 0 (by decide) (by decide) (by decide) (by decide) (by decide) (by decide) w).mono ?_
  rintro e w1 ⟨g, rfl, hg, hT, hb⟩
  have T : Hid (Tr w1 g 4 2 0 0 4 8 1) := Lib.hid hT
  have HB := Lib.hid hb
  clear hT hb
  go_wp2_with fail
  refine (new_ok 4 1 1 0 (by decide) (by decide) (by decide) (by decide) (by decide) (by decide) w1).mono ?_
  rintro e w2 ⟨s, rfl, hs, hS, hb⟩
  have hne : Hid (s ≠ g) := Lib.hid (by have := blk_lt T.out; omega)
  have hsw : w.heap.size ≤ s := Nat.le_trans HB.out.size hs
  have S : Hid (Tr w2 s 4 2 0 0 4 8 1) := Lib.hid hS
  have T2 : Hid (Tr w2 g 4 2 0 0 4 8 1) := Lib.hid (blk_bel T.out hb)
  have HB2 := Lib.hid (bel HB.out hb)
  clear T HB hS hb hs
  go_wp2_with fail
  refine (hear_any s 4 2 0 0 4 8 1 w2 S.out (by decide)).mono ?_
  rintro e w3 ⟨rfl, hS, hK⟩
  have S3 : Hid (Tr w3 s 4 2 0 1 4 8 1) := Lib.hid hS
  have T3 : Hid (Tr w3 g 4 2 0 0 4 8 1) := Lib.hid (kp_blk hK T2.out (fun h => hne.out h.symm))
  have HB3 := Lib.hid (kp_to HB2.out hK hsw)
  clear S T2 HB2 hS hK
  go_wp2_with fail
  refine (tick_mid g 4 2 0 0 4 8 1 0 false w3 T3.out (by decide) (by decide) (by decide) (by decide) (by decide) (by decide) (by decide)).mono ?_
  rintro e w4 ⟨rfl, hX, hK⟩
  have T4 : Hid (Tr w4 g 4 2 1 0 4 8 1) := Lib.hid hX
  have S4 : Hid (Tr w4 s 4 2 0 1 4 8 1) := Lib.hid (kp_blk hK S3.out (fun h => hne.out h))
  have HB4 := Lib.hid (kp_to HB3.out hK hg)
  clear S3 T3 HB3 hX hK
  go_wp2_with fail
  refine (tick_mid g 4 2 1 0 4 8 1 0 true w4 T4.out (by decide) (by decide) (by decide) (by decide) (by decide) (by decide) (by decide)).mono ?_
  rintro e w5 ⟨rfl, hX, hK⟩
  have T5 : Hid (Tr w5 g 4 2 2 0 4 8 1) := Lib.hid hX
  have S5 : Hid (Tr w5 s 4 2 0 1 4 8 1) := Lib.hid (kp_blk hK S4.out (fun h => hne.out h))
  have HB5 := Lib.hid (kp_to HB4.out hK hg)
  clear S4 T4 HB4 hX hK
  go_wp2_with fail
  refine (tick_mid s 4 2 0 1 4 8 1 0 false w5 S5.out (by decide) (by decide) (by decide) (by decide) (by decide) (by decide) (by decide)).mono ?_
  rintro e w6 ⟨rfl, hX, hK⟩
  have S6 : Hid (Tr w6 s 4 2 1 1 4 8 1) := Lib.hid hX
  have T6 : Hid (Tr w6 g 4 2 2 0 4 8 1) := Lib.hid (kp_blk hK T5.out (fun h => hne.out h.symm))
  have HB6 := Lib.hid (kp_to HB5.out hK hsw)
  clear S5 T5 HB5 hX hK
  go_wp2_with fail
  refine (tick_mid s 4 2 1 1 4 8 1 0 false w6 S6.out (by decide) (by decide) (by decide) (by decide) (by decide) (by decide) (by decide)).mono ?_
  rintro e w7 ⟨rfl, hX, hK⟩
  have S7 : Hid (Tr w7 s 4 2 2 1 4 8 1) := Lib.hid hX
  have T7 : Hid (Tr w7 g 4 2 2 0 4 8 1) := Lib.hid (kp_blk hK T6.out (fun h => hne.out h.symm))
  have HB7 := Lib.hid (kp_to HB6.out hK hsw)
  clear S6 T6 HB6 hX hK
  go_wp2_with fail
  refine (tick_mid g 4 2 2 0 4 8 1 0 false w7 T7.out (by decide) (by decide) (by decide) (by decide) (by decide) (by decide) (by decide)).mono ?_
  rintro e w8 ⟨rfl, hX, hK⟩
  have T8 : Hid (Tr w8 g 4 2 3 0 4 8 1) := Lib.hid hX
  have S8 : Hid (Tr w8 s 4 2 2 1 4 8 1) := Lib.hid (kp_blk hK S7.out (fun h => hne.out h))
  have HB8 := Lib.hid (kp_to HB7.out hK hg)
  clear S7 T7 HB7 hX hK
  go_wp2_with fail
  refine (tick_end2 g 8 4 2 3 0 4 8 1 0 false w8 T8.out (by decide) (by decide) (by decide) (by decide) (by decide) (by decide) (by decide) (by decide) (by decide)).mono ?_
  rintro e w9 ⟨rfl, hX, hK⟩
  have T9 : Hid (Tr w9 g 8 4 0 0 4 8 1) := Lib.hid hX
  have S9 : Hid (Tr w9 s 4 2 2 1 4 8 1) := Lib.hid (kp_blk hK S8.out (fun h => hne.out h))
  have HB9 := Lib.hid (kp_to HB8.out hK hg)
  clear S8 T8 HB8 hX hK
  go_wp2_with fail
  refine (length_any g 8 4 0 0 4 8 1 _ T9.out).mono ?_
  rintro e w' ⟨rfl, rfl⟩
  go_wp2_with fail
  refine (gone_any g 8 4 0 0 4 8 1 _ T9.out).mono ?_
  rintro e w' ⟨rfl, rfl⟩
  go_wp2_with fail
  go_ret
  exact ⟨rfl, HB9.out⟩
theorem nil_law (d : Int) (w : World) : Calls Try.prog 9 #[.int .i64 d] w fun e w' => e = .returned (.bool true) ∧ Below w.heap.size w w' := by
  go_enter Try.func9, Try.ntmps9
  go_wp2_with fail
  refine (hear_nil _).mono ?_
  rintro e w1 ⟨rfl, rfl⟩
  go_wp2_with fail
  refine (known_any _).mono ?_
  rintro e w2 ⟨rfl, hw2⟩
  have HB := Lib.hid hw2
  clear hw2
  go_wp2_with fail
  refine (tick_nil d _).mono ?_
  rintro e w3 ⟨rfl, rfl⟩
  go_wp2_with fail
  refine (reset_nil d _).mono ?_
  rintro e w4 ⟨rfl, hw4⟩
  have HB4 := Lib.hid (bel HB.out hw4)
  clear HB hw4
  go_wp2_with fail
  refine (length_nil _).mono ?_
  rintro e w' ⟨rfl, rfl⟩
  go_wp2_with fail
  refine (placeM_nil _).mono ?_
  rintro e w' ⟨rfl, rfl⟩
  go_wp2_with fail
  refine (gone_nil _).mono ?_
  rintro e w' ⟨rfl, rfl⟩
  go_wp2_with fail
  refine (count_nil _).mono ?_
  rintro e w' ⟨rfl, rfl⟩
  go_wp2_with fail
  refine (most_nil _).mono ?_
  rintro e w' ⟨rfl, rfl⟩
  go_wp2_with fail
  refine (copy_nil _).mono ?_
  rintro e w' ⟨rfl, rfl⟩
  go_wp2_with fail
  refine (due_nil _).mono ?_
  rintro e w' ⟨rfl, rfl⟩
  go_wp2_with fail
  go_ret
  exact ⟨rfl, HB4.out⟩
end Go.Proofs.Ytanpnhponefbbaa.Tr
