/- The flags of the hop option, as a byte. -/
import Derived.Test.YtpmbibpphomfkaaPackMore
import Derived.OneCell
set_option maxRecDepth 100000
set_option linter.unusedVariables false
set_option linter.unusedSimpArgs false
namespace Go.Proofs.Ytpmbibpphomfkaa.Hb
open Go.RowKit Go.Proofs.YtpmbibpphomfkaaW.PrintWords Go.Proofs.Ytpmbibpphomfkaa.Pk
def flF (d w f : Bool) : Int := (if d then 128 else 0) + (if w then 64 else 0) + (if f then 32 else 0)
theorem next_true (gb gn : Nat) (vb vb2 vn vn2 : Int) (hne : gb ≠ gn) (h0 : 0 ≤ vb) (h1 : vb ≤ 256) (hb : vb / 2 = vb2) (hn : bits .or .i64 vn vb2 = vn2) (w : World) (hB : w.heap[gb]? = some (.cells #[.int .i64 vb] 3 (0, 0))) (hN : w.heap[gn]? = some (.cells #[.int .i64 vn] 3 (0, 0))) (B : Nat) (hB1 : B ≤ gb) (hB2 : B ≤ gn) :
    Calls Try.prog 26 #[.bool true, .pointer (some ⟨gb, 0, none⟩), .pointer (some ⟨gn, 0, none⟩)] w fun e w' => e = .returned (.tuple #[]) ∧ w'.heap[gb]? = some (.cells #[.int .i64 vb2] 3 (0, 0)) ∧ w'.heap[gn]? = some (.cells #[.int .i64 vn2] 3 (0, 0)) ∧ Below B w w' := by
  have b0 := (blk_cell hB 0).trans (show _ = some (.int .i64 vb) from rfl)
  have fb := blk_frozen hB 0
  have HB := Lib.hid hB
  have HN := Lib.hid hN
  have HV := Lib.hid hb
  clear hB hN
  go_enter Try.func26, Try.ntmps26
  go_upto_region 1 with (fail)
  rw [HV.out]
  have HB1 : Hid ((w.setCell ⟨gb, 0, none⟩ (.int .i64 vb2)).heap[gb]? = some (.cells #[.int .i64 vb2] 3 (0, 0))) := Lib.hid (blk_put HB.out 0 _ rfl)
  have HN1 : Hid ((w.setCell ⟨gb, 0, none⟩ (.int .i64 vb2)).heap[gn]? = some (.cells #[.int .i64 vn] 3 (0, 0))) := Lib.hid (blk_far HN.out (fun h => hne h.symm) _)
  have HBl := Lib.hid ((Below.refl B w).setCell (p := ⟨gb, 0, none⟩) hB1 (.int .i64 vb2))
  clear b0 fb HB HN
  generalize w.setCell ⟨gb, 0, none⟩ (.int .i64 vb2) = w1 at HB1 HN1 HBl ⊢
  have b0 := (blk_cell HB1.out 0).trans (show _ = some (.int .i64 vb2) from rfl)
  have n0 := (blk_cell HN1.out 0).trans (show _ = some (.int .i64 vn) from rfl)
  have fn := blk_frozen HN1.out 0
  go_wp2_with fail
  go_end0
  refine ⟨rfl, blk_far HB1.out hne _, ?_, HBl.out.setCell (p := ⟨gn, 0, none⟩) hB2 _⟩
  rw [← hn]
  exact blk_put HN1.out 0 _ rfl
theorem next_false (gb gn : Nat) (vb vb2 vn : Int) (hne : gb ≠ gn) (h0 : 0 ≤ vb) (h1 : vb ≤ 256) (hb : vb / 2 = vb2) (w : World) (hB : w.heap[gb]? = some (.cells #[.int .i64 vb] 3 (0, 0))) (hN : w.heap[gn]? = some (.cells #[.int .i64 vn] 3 (0, 0))) (B : Nat) (hB1 : B ≤ gb) (hB2 : B ≤ gn) :
    Calls Try.prog 26 #[.bool false, .pointer (some ⟨gb, 0, none⟩), .pointer (some ⟨gn, 0, none⟩)] w fun e w' => e = .returned (.tuple #[]) ∧ w'.heap[gb]? = some (.cells #[.int .i64 vb2] 3 (0, 0)) ∧ w'.heap[gn]? = some (.cells #[.int .i64 vn] 3 (0, 0)) ∧ Below B w w' := by
  have b0 := (blk_cell hB 0).trans (show _ = some (.int .i64 vb) from rfl)
  have fb := blk_frozen hB 0
  have HB := Lib.hid hB
  have HN := Lib.hid hN
  have HV := Lib.hid hb
  clear hB hN
  go_enter Try.func26, Try.ntmps26
  go_wp2_with fail
  rw [HV.out]
  go_end0
  exact ⟨rfl, blk_put HB.out 0 _ rfl, blk_far HN.out (fun h => hne h.symm) _, (Below.refl B w).setCell (p := ⟨gb, 0, none⟩) hB1 (.int .i64 vb2)⟩
theorem next_any (b : Bool) (gb gn : Nat) (vb vb2 vn vn2 : Int) (hne : gb ≠ gn) (h0 : 0 ≤ vb) (h1 : vb ≤ 256) (hb : vb / 2 = vb2) (hn : (if b then bits .or .i64 vn vb2 else vn) = vn2) (w : World) (hB : w.heap[gb]? = some (.cells #[.int .i64 vb] 3 (0, 0))) (hN : w.heap[gn]? = some (.cells #[.int .i64 vn] 3 (0, 0))) (B : Nat) (hB1 : B ≤ gb) (hB2 : B ≤ gn) :
    Calls Try.prog 26 #[.bool b, .pointer (some ⟨gb, 0, none⟩), .pointer (some ⟨gn, 0, none⟩)] w fun e w' => e = .returned (.tuple #[]) ∧ w'.heap[gb]? = some (.cells #[.int .i64 vb2] 3 (0, 0)) ∧ w'.heap[gn]? = some (.cells #[.int .i64 vn2] 3 (0, 0)) ∧ Below B w w' := by
  cases b
  · simp at hn; subst hn; exact next_false gb gn vb vb2 vn hne h0 h1 hb w hB hN B hB1 hB2
  · simp at hn; exact next_true gb gn vb vb2 vn vn2 hne h0 h1 hb hn w hB hN B hB1 hB2
theorem flags_any (d f2 f3 : Bool) (i r : Int) (fl : Int) (hfl : flF d f2 f3 = fl) (w : World) : Calls Try.prog 16 #[.agg #[.bool d, .bool f2, .bool f3, .int .i64 i, .int .i64 r]] w fun e w' => e = .returned (.int .i64 fl) ∧ Below w.heap.size w w' := by
  have hmf : ∀ (fn : Fn) (first cap : Array Value) (w : World), (Instr.makeFunc fn first cap).run Try.prog w = .ok (.func fn first cap) w := fun _ _ _ _ => rfl
  go_enter Try.func16, Try.ntmps16
  go_wp2_with fail
  have s0 : (w.alloc (.cells #[.bool d, .bool f2, .bool f3, .int .i64 i, .int .i64 r] 28)).heap.size = w.heap.size + 1 := by show (w.heap.push _).size = _; simp
  have HX0 := blk_new w #[.bool d, .bool f2, .bool f3, .int .i64 i, .int .i64 r] 28
  have HB0 := below_new w (.cells #[.bool d, .bool f2, .bool f3, .int .i64 i, .int .i64 r] 28)
  generalize w.alloc (.cells #[.bool d, .bool f2, .bool f3, .int .i64 i, .int .i64 r] 28) = wa at s0 HX0 HB0 ⊢
  have s1 : (wa.alloc (.cells #[.int .i64 0] 3)).heap.size = w.heap.size + 1 + 1 := by show (wa.heap.push _).size = _; simp [s0]
  have HN1 := blk_new wa #[.int .i64 0] 3
  rw [s0] at HN1
  have HX1 := blk_bel HX0 (below_new wa (.cells #[.int .i64 0] 3))
  have HB1 := bel HB0 (below_new wa (.cells #[.int .i64 0] 3))
  generalize wa.alloc (.cells #[.int .i64 0] 3) = wb at s1 HN1 HX1 HB1 ⊢
  have HG2 := blk_new wb #[.int .i64 256] 3
  rw [s1] at HG2
  have HN2 := blk_bel HN1 (below_new wb (.cells #[.int .i64 256] 3))
  have HX2 := blk_bel HX1 (below_new wb (.cells #[.int .i64 256] 3))
  have HB2 := Lib.hid (bel HB1 (below_new wb (.cells #[.int .i64 256] 3)))
  generalize wb.alloc (.cells #[.int .i64 256] 3) = wc at HG2 HN2 HX2 HB2 ⊢
  have HG2 := Lib.hid HG2
  have HN2 := Lib.hid HN2
  have HX2 := Lib.hid HX2
  clear HX0 HX1 HN1 HB0 HB1 s0 s1
  obtain ⟨v1, hv1⟩ : ∃ v1, (if d then bits .or .i64 0 128 else 0) = v1 := ⟨_, rfl⟩
  obtain ⟨v2, hv2⟩ : ∃ v2, (if f2 then bits .or .i64 v1 64 else v1) = v2 := ⟨_, rfl⟩
  obtain ⟨v3, hv3⟩ : ∃ v3, (if f3 then bits .or .i64 v2 32 else v2) = v3 := ⟨_, rfl⟩
  have H1 := Lib.hid hv1
  have H2 := Lib.hid hv2
  have H3 := Lib.hid hv3
  have HF := Lib.hid (show v3 = fl by rw [← hfl, ← hv3, ← hv2, ← hv1]; cases d <;> cases f2 <;> cases f3 <;> decide)
  clear hv1 hv2 hv3 hfl
  refine (next_any d (w.heap.size + 1 + 1) (w.heap.size + 1) 256 128 0 v1 (by omega) (by omega) (by omega) (by decide) H1.out _ HG2.out HN2.out (w.heap.size + 1) (by omega) (by omega)).mono ?_
  rintro e w1 ⟨rfl, hb, hn, bl⟩
  have HG3 := Lib.hid hb
  have HN3 := Lib.hid hn
  have HX3 := Lib.hid ((bl.block w.heap.size (by omega)).trans HX2.out)
  have HB3 := Lib.hid (HB2.out.trans (bl.mono (Nat.le_succ _)))
  clear hb hn bl HG2 HN2 HX2 HB2
  have c1 := (blk_cell HX3.out 1).trans (show _ = some (.bool f2) from rfl)
  go_wp2_with fail
  refine (next_any f2 (w.heap.size + 1 + 1) (w.heap.size + 1) 128 64 v1 v2 (by omega) (by omega) (by omega) (by decide) H2.out _ HG3.out HN3.out (w.heap.size + 1) (by omega) (by omega)).mono ?_
  rintro e w2 ⟨rfl, hb, hn, bl⟩
  have HG4 := Lib.hid hb
  have HN4 := Lib.hid hn
  have HX4 := Lib.hid ((bl.block w.heap.size (by omega)).trans HX3.out)
  have HB4 := Lib.hid (HB3.out.trans (bl.mono (Nat.le_succ _)))
  clear hb hn bl HG3 HN3 HX3 HB3 c1
  have c2 := (blk_cell HX4.out 2).trans (show _ = some (.bool f3) from rfl)
  go_wp2_with fail
  refine (next_any f3 (w.heap.size + 1 + 1) (w.heap.size + 1) 64 32 v2 v3 (by omega) (by omega) (by omega) (by decide) H3.out _ HG4.out HN4.out (w.heap.size + 1) (by omega) (by omega)).mono ?_
  rintro e w3 ⟨rfl, hb, hn, bl⟩
  have HB5 := Lib.hid (HB4.out.trans (bl.mono (Nat.le_succ _)))
  have n0 := (blk_cell hn 0).trans (show _ = some (.int .i64 v3) from rfl)
  clear hb hn bl HG4 HN4 HX4 HB4 c2
  go_wp2_with fail
  go_ret
  obtain rfl := HF.out
  exact ⟨rfl, HB5.out⟩
end Go.Proofs.Ytpmbibpphomfkaa.Hb
