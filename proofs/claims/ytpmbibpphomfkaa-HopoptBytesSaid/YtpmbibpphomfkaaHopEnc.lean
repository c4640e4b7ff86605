/- Check and Encode of the hop option. -/
import Derived.Test.YtpmbibpphomfkaaHopFlags
import Derived.Test.YtpmbibpphomfkaaPackPut
set_option maxRecDepth 100000
set_option linter.unusedVariables false
set_option linter.unusedSimpArgs false
namespace Go.Proofs.Ytpmbibpphomfkaa.Hb
open Go.RowKit Go.Proofs.YtpmbibpphomfkaaW.PrintWords Go.Proofs.Ytpmbibpphomfkaa.Pk Go.Proofs.Ytpmbibpphomfkaa
theorem row_new (w : World) (l : List Int) (k : IntKind) (T : TypeId) (hl : l.length ≤ 1000000) : Kd.C (Kd.int k) (w.alloc (.cells (l.map (Value.int k)).toArray T)) (some ⟨w.heap.size, 0, none⟩) l.length l := by
  refine Kd.C_of_reads (enc := Value.int k) (d := (0 : Int)) (h1 := fun _ => rfl) ⟨rfl, by omega, fun _ => ⟨_, rfl, fun j hj => ?_⟩⟩
  have := blk_cell (blk_new w (l.map (Value.int k)).toArray T) (0 + j)
  have e : (Addr.add ⟨w.heap.size, 0, none⟩ j) = ⟨w.heap.size, 0 + j, none⟩ := by unfold Addr.add; split <;> simp_all
  rw [e, this]
  simp [hj]
def rightF (i r : Int) : Bool := decide (0 ≤ i ∧ i ≤ 255) && decide (0 ≤ r ∧ r ≤ 65535)
theorem fits_one (k : Int) (S x : Int) (hs : PHopoptBytes.pack_span.f k = some S) (hS : 0 < S) : PHopoptBytes.pack_Fits.f 10 k [x] = some (decide (0 ≤ x ∧ x < S)) := by
  have e : rd [x] (0 : Int) = x := by simp [rd]
  have ew : wrap64 ((0 : Int) + 1) = 1 := by unfold wrap64; omega
  unfold PHopoptBytes.pack_Fits.f
  rw [hs]
  simp only [Option.bind_some, PHopoptBytes.pack_Fits.l0, List.length_singleton, e, ew]
  rw [if_pos (by decide), if_pos (by decide), if_pos (by decide)]
  by_cases h1 : x < 0
  · have : ¬ (0 ≤ x ∧ x < S) := by omega
    rw [if_pos h1]; simp [this]
  · rw [if_neg h1]
    by_cases h2 : x ≥ S
    · have : ¬ (0 ≤ x ∧ x < S) := by omega
      rw [if_pos h2]; simp [this]
    · have : 0 ≤ x ∧ x < S := by omega
      rw [if_neg h2, if_neg (by decide)]; simp [this, hS]
theorem check_any (d f2 f3 : Bool) (i r e0 : Int) (he : (if rightF i r then 0 else 1) = e0) (w : World) : Calls Try.prog 10 #[.agg #[.bool d, .bool f2, .bool f3, .int .i64 i, .int .i64 r]] w fun e w' => e = .returned (.int .i64 e0) ∧ Below w.heap.size w w' := by
  refine PHopoptBytes.hopopt_Check.calls 10 d f2 f3 i r e0 w ?_
  unfold PHopoptBytes.hopopt_Check.f
  rw [fits_one 1 256 i (by decide +kernel) (by decide), fits_one 2 65536 r (by decide +kernel) (by decide)]
  unfold rightF at he
  by_cases h1 : 0 ≤ i ∧ i ≤ 255
  · have h1' : 0 ≤ i ∧ i < 256 := by omega
    by_cases h2 : 0 ≤ r ∧ r ≤ 65535
    · have h2' : 0 ≤ r ∧ r < 65536 := by omega
      simp only [h1, h2, and_self, decide_true] at he
      simp only [h1', h2', and_self, decide_true, Option.bind_some, if_true]
      simpa using he
    · have h2' : ¬ (0 ≤ r ∧ r < 65536) := by omega
      simp only [h1, h2, decide_true, decide_false] at he
      simp only [h1', h2', decide_true, decide_false]
      simpa using he
  · have h1' : ¬ (0 ≤ i ∧ i < 256) := by omega
    simp only [h1, decide_false] at he
    simp only [h1', decide_false]
    simpa using he
theorem fits_lit (k : Int) (x : Int) (S : Int) (hS : spanF k = S) (hS0 : 0 < S) : fitsF k [x] = decide (0 ≤ x ∧ x < S) := by
  unfold fitsF
  rw [hS]
  simp [hS0]
theorem enc_next (n : Int) (d f2 f3 : Bool) (i r : Int) (hn : fitsF 1 [n] = false) (w : World) : Calls Try.prog 4 #[.int .i64 n, .agg #[.bool d, .bool f2, .bool f3, .int .i64 i, .int .i64 r]] w fun e w' => e = .returned (.tuple #[.slice none 0 0, .int .i64 1]) ∧ Below w.heap.size w w' := by
  have HN := Lib.hid hn
  clear hn
  go_enter Try.func4, Try.ntmps4
  go_wp2_with fail
  have HX := Lib.hid (blk_new w #[.bool d, .bool f2, .bool f3, .int .i64 i, .int .i64 r] 28)
  have HBa := Lib.hid (below_new w (.cells #[.bool d, .bool f2, .bool f3, .int .i64 i, .int .i64 r] 28))
  have hsz : (w.alloc (.cells #[.bool d, .bool f2, .bool f3, .int .i64 i, .int .i64 r] 28)).heap.size = w.heap.size + 1 := by show (w.heap.push _).size = _; simp
  obtain ⟨g0, hg0⟩ : ∃ g, w.heap.size = g := ⟨_, rfl⟩
  rw [hg0] at HX hsz
  have HG := Lib.hid hg0
  simp only [hg0]
  generalize w.alloc (.cells #[.bool d, .bool f2, .bool f3, .int .i64 i, .int .i64 r] 28) = wa at HX HBa hsz ⊢
  have HXb := Lib.hid (blk_bel HX.out (below_new wa (.cells #[.int .i64 n] 3)))
  have HBb := Lib.hid (bel HBa.out (below_new wa (.cells #[.int .i64 n] 3)))
  have hrn := row_new wa [n] .i64 3 (by simp)
  rw [hsz] at hrn
  have HRn := Lib.hid hrn
  clear hrn
  refine (fits_any (some ⟨g0 + 1, 0, none⟩) 1 1 [n] false HN.out (wa.alloc (.cells #[.int .i64 n] 3)) HRn.out (by simp)).mono ?_
  rintro e w1 ⟨rfl, hw⟩
  rw [hw]
  clear hw w1
  go_wp2_with fail
  go_ret2
  exact ⟨rfl, HBb.out⟩
theorem enc_bad (n : Int) (d f2 f3 : Bool) (i r : Int) (hn : fitsF 1 [n] = true) (hr : rightF i r = false) (w : World) : Calls Try.prog 4 #[.int .i64 n, .agg #[.bool d, .bool f2, .bool f3, .int .i64 i, .int .i64 r]] w fun e w' => e = .returned (.tuple #[.slice none 0 0, .int .i64 1]) ∧ Below w.heap.size w w' := by
  have HN := Lib.hid hn
  have HC := Lib.hid (fun W => check_any d f2 f3 i r 1 (by rw [hr]; rfl) W)
  clear hn hr
  go_enter Try.func4, Try.ntmps4
  go_wp2_with fail
  have HX := Lib.hid (blk_new w #[.bool d, .bool f2, .bool f3, .int .i64 i, .int .i64 r] 28)
  have HBa := Lib.hid (below_new w (.cells #[.bool d, .bool f2, .bool f3, .int .i64 i, .int .i64 r] 28))
  have hsz : (w.alloc (.cells #[.bool d, .bool f2, .bool f3, .int .i64 i, .int .i64 r] 28)).heap.size = w.heap.size + 1 := by show (w.heap.push _).size = _; simp
  obtain ⟨g0, hg0⟩ : ∃ g, w.heap.size = g := ⟨_, rfl⟩
  rw [hg0] at HX hsz
  have HG := Lib.hid hg0
  simp only [hg0]
  generalize w.alloc (.cells #[.bool d, .bool f2, .bool f3, .int .i64 i, .int .i64 r] 28) = wa at HX HBa hsz ⊢
  have HXb := Lib.hid (blk_bel HX.out (below_new wa (.cells #[.int .i64 n] 3)))
  have HBb := Lib.hid (bel HBa.out (below_new wa (.cells #[.int .i64 n] 3)))
  have hrn := row_new wa [n] .i64 3 (by simp)
  rw [hsz] at hrn
  have HRn := Lib.hid hrn
  clear hrn
  refine (fits_any (some ⟨g0 + 1, 0, none⟩) 1 1 [n] true HN.out (wa.alloc (.cells #[.int .i64 n] 3)) HRn.out (by simp)).mono ?_
  rintro e w1 ⟨rfl, hw⟩
  rw [hw]
  clear hw w1 HRn HX HBa
  generalize wa.alloc (.cells #[.int .i64 n] 3) = wb at HXb HBb ⊢
  have c0 := (blk_cell HXb.out 0).trans (show _ = some (.bool d) from rfl)
  have c1 := (blk_cell HXb.out 1).trans (show _ = some (.bool f2) from rfl)
  have c2 := (blk_cell HXb.out 2).trans (show _ = some (.bool f3) from rfl)
  have c3 := (blk_cell HXb.out 3).trans (show _ = some (.int .i64 i) from rfl)
  have c4 := (blk_cell HXb.out 4).trans (show _ = some (.int .i64 r) from rfl)
  go_wp2_with fail
  refine (HC.out _).mono ?_
  rintro e w2 ⟨rfl, hb⟩
  have HB2 := Lib.hid (bel HBb.out hb)
  clear hb
  go_wp2_with fail
  go_ret2
  exact ⟨rfl, HB2.out⟩
theorem enc_ok (n : Int) (d f2 f3 : Bool) (i r fl : Int) (hfl : flF d f2 f3 = fl) (hn : 0 ≤ n ∧ n ≤ 255) (hi : 0 ≤ i ∧ i ≤ 255) (hr : 0 ≤ r ∧ r ≤ 65535) (w : World) : Calls Try.prog 4 #[.int .i64 n, .agg #[.bool d, .bool f2, .bool f3, .int .i64 i, .int .i64 r]] w fun e w' => ∃ v, e = .returned (.tuple #[v, .int .i64 0]) ∧ w'.ownsRow w.heap.size 5 1 v 8 (encs (Value.int .u8) [n, 0, 99, 4, fl, i, r / 256, r % 256]) ∧ Below w.heap.size w w' := by
  have hf : 0 ≤ fl ∧ fl ≤ 255 := by rw [← hfl]; cases d <;> cases f2 <;> cases f3 <;> decide
  have HN := Lib.hid (show fitsF 1 [n] = true by rw [fits_lit 1 n 256 (by decide) (by decide)]; simp; omega)
  have HC := Lib.hid (fun W => check_any d f2 f3 i r 0 (by unfold rightF; rw [decide_eq_true hi, decide_eq_true hr]; rfl) W)
  have HF6 := Lib.hid (show fitsF 1 [n, 0, 99, 4, fl, i] = true by unfold fitsF; rw [show spanF 1 = 256 from by decide]; simp; omega)
  have HP6 := Lib.hid (show putF 1 [n, 0, 99, 4, fl, i] = [n, 0, 99, 4, fl, i] by unfold putF digF; simp; omega)
  have HF2 := Lib.hid (show fitsF 2 [r] = true by rw [fits_lit 2 r 65536 (by decide) (by decide)]; simp; omega)
  have HP2 := Lib.hid (show putF 2 [r] = [r / 256, r % 256] by unfold putF digF; simp; omega)
  have HFL := Lib.hid (fun W => flags_any d f2 f3 i r fl hfl W)
  clear hfl hf
  go_enter Try.func4, Try.ntmps4
  go_wp2_with fail
  have HX := Lib.hid (blk_new w #[.bool d, .bool f2, .bool f3, .int .i64 i, .int .i64 r] 28)
  have HBa := Lib.hid (below_new w (.cells #[.bool d, .bool f2, .bool f3, .int .i64 i, .int .i64 r] 28))
  have hsz : (w.alloc (.cells #[.bool d, .bool f2, .bool f3, .int .i64 i, .int .i64 r] 28)).heap.size = w.heap.size + 1 := by show (w.heap.push _).size = _; simp
  obtain ⟨g0, hg0⟩ : ∃ g, w.heap.size = g := ⟨_, rfl⟩
  rw [hg0] at HX hsz
  have HG := Lib.hid hg0
  simp only [hg0]
  generalize w.alloc (.cells #[.bool d, .bool f2, .bool f3, .int .i64 i, .int .i64 r] 28) = wa at HX HBa hsz ⊢
  have HXb := Lib.hid (blk_bel HX.out (below_new wa (.cells #[.int .i64 n] 3)))
  have HBb := Lib.hid (bel HBa.out (below_new wa (.cells #[.int .i64 n] 3)))
  have hrn := row_new wa [n] .i64 3 (by simp)
  rw [hsz] at hrn
  have HRn := Lib.hid hrn
  clear hrn
  refine (fits_any (some ⟨g0 + 1, 0, none⟩) 1 1 [n] true HN.out (wa.alloc (.cells #[.int .i64 n] 3)) HRn.out (by simp)).mono ?_
  rintro e w1 ⟨rfl, hw⟩
  rw [hw]
  clear hw w1 HRn HX HBa
  generalize wa.alloc (.cells #[.int .i64 n] 3) = wb at HXb HBb ⊢
  have c0 := (blk_cell HXb.out 0).trans (show _ = some (.bool d) from rfl)
  have c1 := (blk_cell HXb.out 1).trans (show _ = some (.bool f2) from rfl)
  have c2 := (blk_cell HXb.out 2).trans (show _ = some (.bool f3) from rfl)
  have c3 := (blk_cell HXb.out 3).trans (show _ = some (.int .i64 i) from rfl)
  have c4 := (blk_cell HXb.out 4).trans (show _ = some (.int .i64 r) from rfl)
  go_wp2_with fail
  refine (HC.out _).mono ?_
  rintro e w2 ⟨rfl, hb⟩
  have HB2 := Lib.hid (bel HBb.out hb)
  have HX2 := Lib.hid (blk_bel HXb.out hb)
  clear hb c0 c1 c2 c3 c4 HXb HBb
  have c0 := (blk_cell HX2.out 0).trans (show _ = some (.bool d) from rfl)
  have c1 := (blk_cell HX2.out 1).trans (show _ = some (.bool f2) from rfl)
  have c2 := (blk_cell HX2.out 2).trans (show _ = some (.bool f3) from rfl)
  have c3 := (blk_cell HX2.out 3).trans (show _ = some (.int .i64 i) from rfl)
  have c4 := (blk_cell HX2.out 4).trans (show _ = some (.int .i64 r) from rfl)
  go_wp2_with fail
  go_region_held3 (fun W => W.cell? ⟨g0, 0, none⟩ = some (.bool d) ∧ W.cell? ⟨g0, 1, none⟩ = some (.bool f2) ∧ W.cell? ⟨g0, 2, none⟩ = some (.bool f3) ∧ W.cell? ⟨g0, 3, none⟩ = some (.int .i64 i) ∧ W.cell? ⟨g0, 4, none⟩ = some (.int .i64 r)) (first | exact ⟨c0, c1, c2, c3, c4⟩ | exact ⟨d0, d1, d2, d3, d4⟩ | exact ⟨a0, a1, a2, a3, a4⟩ | exact ⟨e0, e1, e2, e3, e4⟩) (first | (go_at_call 16; refine (HFL.out _).mono ?_; rintro e wf ⟨rfl, hbf⟩; have hb3 : Below w2.heap.size w2 wf := (by first | exact hbf | exact bel (pw_below_drewN (Below.refl w2.heap.size w2) _) hbf | exact bel (Below.refl w2.heap.size w2).drew hbf); have hX3 := blk_bel HX2.out hb3; have d0 := (blk_cell hX3 0).trans (show _ = some (.bool d) from rfl); have d1 := (blk_cell hX3 1).trans (show _ = some (.bool f2) from rfl); have d2 := (blk_cell hX3 2).trans (show _ = some (.bool f3) from rfl); have d3 := (blk_cell hX3 3).trans (show _ = some (.int .i64 i) from rfl); have d4 := (blk_cell hX3 4).trans (show _ = some (.int .i64 r) from rfl); have hX3a := blk_bel hX3 (below_new wf (.cells #[.int .i64 n, .int .i64 0, .int .i64 99, .int .i64 4, .int .i64 fl, .int .i64 i] 3)); have a0 := (blk_cell hX3a 0).trans (show _ = some (.bool d) from rfl); have a1 := (blk_cell hX3a 1).trans (show _ = some (.bool f2) from rfl); have a2 := (blk_cell hX3a 2).trans (show _ = some (.bool f3) from rfl); have a3 := (blk_cell hX3a 3).trans (show _ = some (.int .i64 i) from rfl); have a4 := (blk_cell hX3a 4).trans (show _ = some (.int .i64 r) from rfl)) | (go_at_call 15; refine (put_ok none (some ⟨wf.heap.size, 0, none⟩) 0 6 1 [] [n, 0, 99, 4, fl, i] 6 rfl HF6.out _ (Kd.C_nil _ _) (row_new wf [n, 0, 99, 4, fl, i] .i64 3 (by simp)) (by simp) (by rw [HP6.out]; simp)).mono ?_; rintro e wp ⟨v6, rfl, ho, hbp⟩; rw [List.nil_append, HP6.out] at ho; obtain ⟨A6, c6, hv6, hc6, _⟩ := own_slice2 ho; subst hv6; have hb4 := bel hb3 (bel (below_new wf (.cells #[.int .i64 n, .int .i64 0, .int .i64 99, .int .i64 4, .int .i64 fl, .int .i64 i] 3)) hbp); have hX4 := blk_bel HX2.out hb4; have e0 := (blk_cell hX4 0).trans (show _ = some (.bool d) from rfl); have e1 := (blk_cell hX4 1).trans (show _ = some (.bool f2) from rfl); have e2 := (blk_cell hX4 2).trans (show _ = some (.bool f3) from rfl); have e3 := (blk_cell hX4 3).trans (show _ = some (.int .i64 i) from rfl); have e4 := (blk_cell hX4 4).trans (show _ = some (.int .i64 r) from rfl)))
  have HO6 := Lib.hid ho
  have HB4 := Lib.hid (bel HB2.out hb4)
  clear a0 a1 a2 a3 a4 hX3a d0 d1 d2 d3 d4 e0 e1 e2 e3 hX3 hX4 hb3 hb4 hbp hbf ho c0 c1 c2 c3 c4
  go_wp2_with fail
  have HO7 := Lib.hid (own_alloc HO6.out (.cells #[.int .i64 r] 3))
  refine (put_ok A6 (some ⟨wp.heap.size, 0, none⟩) c6 1 2 [n, 0, 99, 4, fl, i] [r] 1 rfl HF2.out (wp.alloc (.cells #[.int .i64 r] 3)) (own_C HO7.out) (row_new wp [r] .i64 3 (by simp)) (by simp) (by rw [HP2.out]; simp)).mono ?_
  rintro e w9 ⟨v9, rfl, ho, hb⟩
  rw [HP2.out] at ho
  have HO9 := Lib.hid (own_weaken ho (Nat.le_trans HB4.out.size (size_new _ _)))
  have HB9 := Lib.hid (bel (bel HB4.out (below_new wp (.cells #[.int .i64 r] 3))) hb)
  clear ho hb
  go_wp2_with fail
  go_ret2
  exact ⟨_, rfl, HO9.out, HB9.out⟩
end Go.Proofs.Ytpmbibpphomfkaa.Hb
