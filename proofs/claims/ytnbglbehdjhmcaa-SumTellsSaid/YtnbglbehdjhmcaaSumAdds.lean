/- The sum and the checksum of any texts, added one by one or at once, are the document's: the law's walk. -/
import Derived.Test.YtnbglbehdjhmcaaSumPlain
set_option maxRecDepth 100000
set_option linter.unusedVariables false
set_option linter.unusedSimpArgs false
namespace Go.Proofs.Ytnbglbehdjhmcaa.Sum
open Go.RowKit Go.Proofs.YtnbglbehdjhmcaaW.PrintWords Go.Proofs.Ytnbglbehdjhmcaa.PSumAdds
theorem infoBS : (Try.prog.info? 30).map (fun i => (i.zero, i.size, i.bytes)) = some (some (.slice none 0 0), 1, 24) := by kernel_rfl
theorem infoB : (Try.prog.info? 5).map (fun i => (i.zero, i.size, i.bytes)) = some (some (.int .u8 0), 1, 1) := by kernel_rfl
theorem own_slice4 {w : World} {base e n : Nat} {v : Value} {xs : List Value} (h : w.ownsRow base e 1 v n xs) : ∃ A c, v = .slice A n c ∧ n ≤ c := by
  rcases h.2 with ⟨rfl, hn⟩ | ⟨g, cap, cur, rfl, _, _, hnc, _⟩
  · exact ⟨none, 0, by simp [hn], by omega⟩
  · exact ⟨_, _, rfl, hnc⟩
theorem C_old {w W : World} {A : Option Addr} {n : Nat} {k : IntKind} {l : List Int} (h : Kd.C (Kd.int k) w A n l) (hk : Kept w W (fun _ => False)) : Kd.C (Kd.int k) W A n l := by
  refine ⟨h.1, h.2.1, fun h0 => ?_⟩
  obtain ⟨ad, he, hc⟩ := h.2.2 h0
  refine ⟨ad, he, fun j x hj => ?_⟩
  obtain ⟨c, h1, h2, h3⟩ := hc j x hj
  exact ⟨c, h1, h2, fun i u hu => cell_kept (h3 i u hu) hk (fun h => h)⟩
theorem C_takeS {α : Type} {d : Kd α} {w : World} {A : Option Addr} {n m : Nat} {xs : List α} (h : d.C w A n xs) (hm : m ≤ n) : d.C w A m (xs.take m) := by
  refine ⟨by have := h.1; simp; omega, by have := h.2.1; omega, fun h0 => ?_⟩
  obtain ⟨ad, he, hc⟩ := h.2.2 (by omega)
  exact ⟨ad, he, fun j x hj => hc j x (by rw [List.getElem?_take] at hj; split at hj; exact hj; cases hj)⟩
/-- Cells that hold the texts, which came in. -/
def Holds (w : World) (cs : List Value) (ts : List (List Int)) : Prop := cs.length = ts.length ∧ ∀ (j : Nat) (b : List Int), ts[j]? = some b → ∃ A c, cs[j]? = some (Value.slice A b.length c) ∧ b.length ≤ c ∧ (Kd.int .u8).C w A b.length b
theorem holds_snoc {w : World} {cs : List Value} {ts : List (List Int)} {A : Option Addr} {c : Nat} {b : List Int} (h : Holds w cs ts) (hc : b.length ≤ c) (hb : (Kd.int .u8).C w A b.length b) : Holds w (cs ++ [Value.slice A b.length c]) (ts ++ [b]) := by
  refine ⟨by simp [h.1], fun j b' hj => ?_⟩
  by_cases hlt : j < ts.length
  · rw [List.getElem?_append_left hlt] at hj
    obtain ⟨A', c', h1, h2⟩ := h.2 j b' hj
    exact ⟨A', c', by rw [List.getElem?_append_left (by rw [h.1]; exact hlt)]; exact h1, h2⟩
  · have hj2 := (List.getElem?_eq_some_iff.1 hj).1
    simp at hj2
    have : j = ts.length := by omega
    subst this
    rw [List.getElem?_append_right (by omega)] at hj
    simp at hj
    subst hj
    exact ⟨A, c, by rw [List.getElem?_append_right (by rw [h.1]; omega), h.1]; simp, hc, hb⟩
theorem holds_C {w W : World} {base c : Nat} {A : Option Addr} {cs : List Value} {ts : List (List Int)} (ho : W.ownsRow base 30 1 (.slice A cs.length c) cs.length cs) (hH : Holds w cs ts) (hk : Kept w W (fun _ => False)) (hn : ts.length ≤ 1000000) : dB.C W A ts.length ts := by
  refine ⟨rfl, by omega, fun h0 => ?_⟩
  rcases ho.2 with ⟨he, h1⟩ | ⟨g, cap, cur, he, hg, hh, hnc, hcm, hcs, htake⟩
  · have := hH.1; omega
  · injection he with he1 he2 he3
    subst he1
    refine ⟨_, rfl, fun j b hj => ?_⟩
    obtain ⟨A', c', h1, h2, h3⟩ := hH.2 j b hj
    refine ⟨[.slice A' b.length c'], rfl, ⟨A', c', rfl, h2, C_old h3 hk⟩, fun i u hi => ?_⟩
    have hi0 : i = 0 := by
      have := (List.getElem?_eq_some_iff.1 hi).1
      simp at this; omega
    subst hi0
    obtain rfl : Value.slice A' b.length c' = u := by simpa using hi
    have h4 := cell_of_row W g j cur 30 (0, 0) hh
    have h5 : cur[j]? = some (.slice A' b.length c') := by
      rw [← htake] at h1
      rw [List.getElem?_take] at h1
      split at h1
      · rw [← Array.getElem?_toList]; exact h1
      · cases h1
    rw [h5] at h4
    have e : (Addr.add ⟨g, 0, none⟩ (j * dB.sz + 0)) = ⟨g, j, none⟩ := by
      have h6 : dB.sz = 1 := rfl
      rw [h6]
      unfold Addr.add
      split
      · rename_i h7; simp at h7; subst h7; rfl
      · simp
    rw [e]
    exact h4
theorem own_kpS {w w' : World} {base e s n g : Nat} {v : Value} {xs : List Value} {cs : Array Value} {t : TypeId} (h : w.ownsRow base e s v n xs) (hk : Kept w w' (fun k => k = g)) (hg : w.heap[g]? = some (.cells cs t (0, 0))) (hne : e ≠ t) : w'.ownsRow base e s v n xs :=
  own_move h (fun k hk2 => hk.2 k (own_lt h k hk2) (fun e => own_ne h hg hne (by rw [hk2, e])))
theorem blk_own {w w1 : World} {g : Nat} {cs : Array Value} {t : TypeId} {base e s n : Nat} {v : Value} {xs : List Value} (h : w.heap[g]? = some (.cells cs t (0, 0))) (ho : w.ownsRow base e s v n xs) (hg : w.grownBy w1 v.ownBlock) (hne : e ≠ t) : w1.heap[g]? = some (.cells cs t (0, 0)) := blk_grown h hg (own_ne ho h hne)
theorem foot_holds {w W : World} {base c g : Nat} {A : Option Addr} {cs : List Value} {ts : List (List Int)} (hS : W.heap[g]? = some (.cells #[.int .i64 0, .int .i64 0] 59 (0, 0))) (ho : W.ownsRow base 30 1 (.slice A cs.length c) cs.length cs) (hH : Holds w cs ts) (hb : Below w.heap.size w W) (hg : w.heap.size ≤ g) (hn : ts.length ≤ 1000000) : ∀ W', Kept W W' (fun k => k = g) → dB.C W' A ts.length ts := fun W' hk =>
  holds_C (own_kpS ho hk hS (by decide)) hH ⟨Nat.le_trans hb.size hk.1, fun k hk1 _ => (hk.2 k (Nat.lt_of_lt_of_le hk1 hb.size) (by omega)).trans (hb.block k hk1)⟩ hn
theorem refsum_any (A : Option Addr) (c : Nat) (l : List Int) (r : Int) (hr : (addF (0, 0) l).1 = r) (w : World) (h : Kd.C (Kd.int .u8) w A l.length l) (hc : l.length ≤ c) (hb : ∀ x ∈ l, 0 ≤ x ∧ x ≤ 255) (hl : l.length ≤ 10000) :
    Calls Try.prog 39 #[.slice A l.length c] w fun e w' => e = .returned (.int .i64 r) ∧ ∃ n, w' = w.drewN n :=
  (rivuletref04_Sum.calls 30000 A c l r w h hc (by rw [refsum_f l hb hl, hr])).mono (by rintro e w' ⟨rfl, ⟨h⟩⟩; exact ⟨rfl, h⟩)
theorem own_CS {w : World} {base n c : Nat} {e : TypeId} {k : IntKind} {A : Option Addr} {xs : List Int} (h : w.ownsRow base e 1 (.slice A n c) n (encs (Value.int k) xs)) : Kd.C (Kd.int k) w A n xs := Kd.C_of_reads (enc := Value.int k) (d := (0 : Int)) (h1 := fun _ => rfl) (own_reads_of' h)
theorem add_anyN (g : Nat) (n c : Int) (A : Option Addr) (cap m : Nat) (ls : List (List Int)) (hm : m = ls.length) (w : World) (hb : w.heap[g]? = some (.cells #[.int .i64 n, .int .i64 c] 59 (0, 0))) (hn : 0 ≤ n ∧ n ≤ 65535) (hc : 0 ≤ c) (hc2 : c + total ls ≤ 1000000000000) (hlen : ls.length ≤ 1000000000000)
    (hr : ∀ W', Kept w W' (fun k => k = g) → (Kd.slice 5 (Kd.int .u8)).C W' A ls.length ls) (hbd : ∀ b ∈ ls, ∀ x ∈ b, 0 ≤ x ∧ x ≤ 255) (n2 c2 : Int) (he : addF (n, c) ls.flatten = (n2, c2)) :
    Calls Try.prog 37 #[.pointer (some ⟨g, 0, none⟩), .slice A m cap] w fun e w' => e = .returned (.tuple #[]) ∧ w'.heap[g]? = some (.cells #[.int .i64 n2, .int .i64 c2] 59 (0, 0)) ∧ Kp w w' (fun k => k = g) := by
  subst hm
  have h := add_any g n c A cap ls w hb hn hc hc2 hlen hr hbd
  rw [he] at h
  exact h
theorem of_anyN (A : Option Addr) (cap m : Nat) (ls : List (List Int)) (hm : m = ls.length) (r : Int) (hres : 65535 - (addF (0, 0) ls.flatten).1 = r) (w : World) (hr : dB.C w A ls.length ls) (hbd : ∀ b ∈ ls, ∀ x ∈ b, 0 ≤ x ∧ x ≤ 255) (ht : total ls ≤ 1000000000) (hl : ls.length ≤ 1000000000) (hn : 0 ≤ r ∧ r ≤ 65535) :
    Calls Try.prog 42 #[.slice A m cap] w fun e w' => e = .returned (.int .i64 r) ∧ Below w.heap.size w w' := by
  subst hm
  exact of_any A cap ls r hres w hr hbd ht hl hn
set_option maxHeartbeats 8000000 in
theorem sumadds (A : Option Addr) (cap : Nat) (ls : List (List Int)) (w : World) (hr : dB.C w A ls.length ls) (hbd : ∀ b ∈ ls, ∀ x ∈ b, 0 ≤ x ∧ x ≤ 255) (hlen : ls.length * 24 ≤ 140737488351232) :
    Calls Try.prog 7 #[.slice A ls.length cap] w fun e w' => e = .returned (.bool true) ∧ Below w.heap.size w w' := by
  have HR := Lib.hid hr
  have HD := Lib.hid hbd
  clear hr hbd
  go_enter Try.func7, Try.ntmps7
  go_wp2_with fail
  go_loopg [4, 5, 6] 20 (fun gk v4 v5 v6 wr => ∃ (i : Nat) (ts : List (List Int)) (L : List Int) (cs : List Value) (n : Int), v6 = .int .i64 i ∧ i ≤ 20 ∧ i ≤ ls.length ∧ Hid (gk = 20 - i) ∧ Hid (ts.flatten = L ∧ ts.length = i ∧ L.length ≤ 300 * i ∧ ∀ b ∈ ts, ∀ x ∈ b, 0 ≤ x ∧ x ≤ 255) ∧ Hid (wr.ownsRow w.heap.size 5 1 v4 L.length (encs (Value.int .u8) L)) ∧ Hid (wr.ownsRow w.heap.size 30 1 v5 cs.length cs) ∧ Hid (Holds w cs ts) ∧ Hid (addF (0, 0) L = (n, (L.length : Int))) ∧ Hid (wr.heap[w.heap.size]? = some (.cells #[.int .i64 n, .int .i64 (L.length : Int)] 59 (0, 0))) ∧ Hid (Below w.heap.size w wr))
  case atStart => exact ⟨0, [], [], [], 0, rfl, by omega, by omega, Lib.hid (by simp), Lib.hid (by simp), Lib.hid (own_nil _ _ _ _), Lib.hid (own_nil _ _ _ _), Lib.hid ⟨rfl, fun j b hj => by simp at hj⟩, Lib.hid rfl, Lib.hid (blk_new _ _ _), Lib.hid (below_new _ _)⟩
  case round =>
    obtain ⟨i, ts, L, cs, n, rfl, hi, hi2, HG, HT, HA, HX, HH, HS, HC, HB⟩ := hrel
    obtain ⟨A4, c4, hv4, hc4⟩ := own_slice4 HA.out
    obtain ⟨A5, c5, hv5, hc5⟩ := own_slice4 HX.out
    subst hv4 hv5
    by_cases hlt : i < ls.length
    · by_cases h20 : i < 20
      · obtain ⟨ad, A0, c0, had, hcell, hcap, hrow⟩ := at_L1 (Kd.C_below HR.out HB.out) i (by omega) (by omega)
        obtain ⟨ad', A0', c0', had', hcell', hcap', hrow'⟩ := at_L1 HR.out i (by omega) (by omega)
        simp only [Int.toNat_natCast] at hcell hcell'
        cases had
        injection had' with had'
        subst had'
        have hsame : A0' = A0 ∧ c0' = c0 := by
          have h1 := (HB.out.block _ (World.block_lt_of_cell? _ _ hcell'))
          have h2 := World.cell?_of_block h1
          rw [hcell, hcell'] at h2
          injection h2 with h2
          injection h2 with h3 h4 h5
          exact ⟨h3.symm, h5.symm⟩
        obtain ⟨rfl, rfl⟩ := hsame
        have HBB := Lib.hid (HD.out _ (memL ls i hlt))
        generalize rd_L1 ls i = bs at hcell hcap hrow hrow' HBB
        obtain ⟨x, hx⟩ : ∃ x : Nat, (if (300 : Int) < bs.length then 300 else (bs.length : Int)) = x := ⟨min bs.length 300, by split <;> omega⟩
        have hx1 : x ≤ bs.length ∧ x ≤ 300 := by split at hx <;> omega
        obtain ⟨hx1, hx2⟩ := hx1
        have hxc : x ≤ c0' := by omega
        have HROW := Lib.hid (C_takeS hrow' hx1)
        have HBX := Lib.hid (fun z (hz : z ∈ bs.take x) => HBB.out z (List.mem_of_mem_take hz))
        have hxl : (bs.take x).length = x := by simp; omega
        clear hrow hrow' hcap hcap' hcell' HBB
        have HCL := Lib.hid (show cs.length ≤ 20 by have := HH.out.1; have := HT.out.2.1; omega)
        have HLL := Lib.hid (show L.length ≤ 6000 by have := HT.out.2.2.1; omega)
        go_wp2_with fail
        go_quiet (fail)
        have HAq := Lib.hid (pw_own_drewN HA.out nq)
        have HXq := Lib.hid (pw_own_drewN HX.out nq)
        have HBq := Lib.hid (pw_below_drewN HB.out nq)
        have HCq : Hid ((wr.drewN nq).heap[w.heap.size]? = some (.cells #[.int .i64 n, .int .i64 (L.length : Int)] 59 (0, 0))) := HC
        clear HA HX HB HC hcell
        generalize wr.drewN nq = W1 at HAq HXq HBq HCq ⊢
        generalize bs.take x = b at HROW HBX hxl
        clear hx hx1
        subst hxl
        have hbl : b.length ≤ 300 := hx2
        go_wp2_with (first | ((with_reducible refine gate_builtin (b := .append) (xs := #[.tmp 30, .tmp 32]) rfl ?_); at_builtin; refine print_append (w0 := w) w.heap.size rfl (.tmp 30) (.tmp 32) 55 30 (.slice none 0 0) 24 rfl Try.underlying55 infoBS rfl (by decide) (.slice A5 cs.length c5) cs (.slice A0' b.length c0') rfl rfl rfl ?aO ?aB ?aS ?aL ?_; (case aO => exact HXq.out); (case aB => exact HBq.out); (case aS => exact HBq.out.size); (case aL => have := HCL.out; omega); intro v5 w5 ho5 hb5 hg5 hat5; have HX5 := Lib.hid ho5; have HB5 := Lib.hid hb5; have HA5 : Hid (w5.ownsRow w.heap.size 5 1 (.slice A4 L.length c4) L.length (encs (Value.int .u8) L)) := Lib.hid (by first | exact own_other HAq.out hg5 (own_type_ne HAq.out HXq.out (by decide)) | exact own_other (own_alloc HAq.out _) hg5 (own_type_ne HAq.out HXq.out (by decide))); have HC5 := Lib.hid (blk_own HCq.out HXq.out hg5 (by decide)); (have ho2 : w5.ownsRow w.heap.size 30 1 v5 (cs ++ [Value.slice A0' b.length c0']).length (cs ++ [Value.slice A0' b.length c0']) := by simpa using ho5); have HH2 := Lib.hid (holds_snoc HH.out hxc HROW.out); (obtain ⟨cs2, hcs2⟩ : ∃ z, cs ++ [Value.slice A0' b.length c0'] = z := ⟨_, rfl⟩); rw [hcs2] at ho2 HH2; obtain ⟨A6, c6, hv6, hc6⟩ := own_slice4 ho2; subst hv6; have HX5 := Lib.hid ho2; clear ho5 ho2 hb5 hg5 hat5 hcs2 HAq HXq HCq) | ((with_reducible refine gate_builtin (b := .append) (xs := #[.tmp 34, .tmp 35]) rfl ?_); at_builtin; refine print_append_row_of (w0 := w) (Value.int .u8) (0 : Int) w.heap.size rfl (.tmp 34) (.tmp 35) 30 5 (.int .u8 0) 1 rfl Try.underlying30 infoB rfl (by decide) (fun _ => rfl) (.slice A4 L.length c4) L b A0' b.length c0' rfl rfl HA5.out ?bR ?bB ?bS ?bL ?_; (case bR => exact Kd.reads_of_C (enc := Value.int .u8) (d := (0 : Int)) (h1 := fun _ => rfl) (Kd.C_below HROW.out HB5.out)); (case bB => exact HB5.out); (case bS => exact HB5.out.size); (case bL => have := HLL.out; omega); intro v6 w6 ho hb6 hg6 hat6; have HX6 := Lib.hid (own_other HX5.out hg6 (own_type_ne HX5.out HA5.out (by decide))); have HC6 := Lib.hid (blk_own HC5.out HA5.out hg6 (by decide)); have HB6 := Lib.hid hb6; (have HLe := Lib.hid (show (L ++ b).length = L.length + b.length by simp)); (have HAF := Lib.hid (addF_append (0, 0) L b)); (have HTF := Lib.hid (show (ts ++ [b]).flatten = L ++ b by rw [List.flatten_append, HT.out.1]; simp)); (obtain ⟨L2, hL2⟩ : ∃ z, L ++ b = z := ⟨_, rfl⟩); rw [hL2] at ho HLe HAF HTF; obtain ⟨A7, c7, hv7, hc7⟩ := own_slice4 ho; subst hv7; have HA6 := Lib.hid ho; clear ho hb6 hg6 hat6 hL2 HX5 HC5 HA5))
        have HTB := Lib.hid (show ∀ b' ∈ ts ++ [b], ∀ x ∈ b', 0 ≤ x ∧ x ≤ 255 from fun b' hb' => (List.mem_append.1 hb').elim (fun h => HT.out.2.2.2 b' h) (fun h => by rw [List.mem_singleton.1 h]; exact HBX.out))
        have HLB2 := Lib.hid (show ∀ x ∈ L2, 0 ≤ x ∧ x ≤ 255 from fun x hx => by rw [← HTF.out] at hx; obtain ⟨b', h1, h2⟩ := List.mem_flatten.1 hx; exact HTB.out b' h1 x h2)
        have HLB := Lib.hid (show ∀ x ∈ L, 0 ≤ x ∧ x ≤ 255 from fun x hx => by rw [← HT.out.1] at hx; obtain ⟨b', h1, h2⟩ := List.mem_flatten.1 hx; exact HT.out.2.2.2 b' h1 x h2)
        have hnr := (addF_len L HLB.out).2
        rw [HS.out] at hnr
        have HNR := Lib.hid hnr
        obtain ⟨n2, hn2⟩ : ∃ n2, (addF (0, 0) L2).1 = n2 := ⟨_, rfl⟩
        have hl2 := addF_len L2 HLB2.out
        have HS2 := Lib.hid (show addF (0, 0) L2 = (n2, (L2.length : Int)) from Prod.ext hn2 hl2.1)
        have HE2 : Hid (addF (n, (L.length : Int)) [b].flatten = (n2, (L2.length : Int))) := Lib.hid (by rw [← HS2.out, HAF.out, HS.out]; simp)
        have HN2 := Lib.hid (show (addF (0, 0) L2).1 = n2 from hn2)
        have HL2L := Lib.hid (show L2.length ≤ 300 * (i + 1) by have := HLe.out; have := HT.out.2.2.1; omega)
        clear hnr hn2 hl2 HAF
        refine (add_anyN w.heap.size n (L.length : Int) (some ⟨w6.heap.size, 0, none⟩) 1 1 [b] rfl _ (blk_bel HC6.out (below_new _ _)) HNR.out (by omega) (by have := HLL.out; simp [total]; omega) (by simp) (foot_lit (w1 := w) HROW.out hxc (bel HB6.out (below_new _ _)) (Nat.le_refl _) (blk_new _ _ _) (by have := blk_lt HC6.out; omega)) (fun b' hb' => by rw [List.mem_singleton.1 hb']; exact HBX.out) n2 (L2.length : Int) HE2.out).mono ?_
        rintro e w8 ⟨rfl, hb8, hk8⟩
        have HA8 := Lib.hid (own_kpS (own_alloc HA6.out _) hk8.kept (blk_bel HC6.out (below_new _ _)) (by decide))
        have HX8 := Lib.hid (own_kpS (own_alloc HX6.out _) hk8.kept (blk_bel HC6.out (below_new _ _)) (by decide))
        have HB8 := Lib.hid ((bel HB6.out (below_new _ _)).trans (hk8.to (bel HB6.out (below_new _ _)).size (fun k hk => by rw [hk]; exact Nat.le_refl _)))
        have HC8 := Lib.hid hb8
        clear hb8 hk8 HA6 HX6 HB6 HC6
        go_wp2_with fail
        refine (value_any w.heap.size n2 (L2.length : Int) _ HC8.out).mono ?_
        rintro e w9 ⟨rfl, rfl⟩
        go_wp2_with fail
        refine (refsum_any A7 c7 L2 n2 HN2.out _ (own_CS HA8.out) hc7 HLB2.out (by have := HL2L.out; omega)).mono ?_
        rintro e w10 ⟨rfl, m10, rfl⟩
        have HA8 := Lib.hid (pw_own_drewN HA8.out m10)
        have HX8 := Lib.hid (pw_own_drewN HX8.out m10)
        have HB8 := Lib.hid (pw_below_drewN HB8.out m10)
        have HC8 : Hid ((World.drewN w9 m10).heap[w.heap.size]? = some (.cells #[.int .i64 n2, .int .i64 (L2.length : Int)] 59 (0, 0))) := HC8
        generalize World.drewN w9 m10 = w11 at HA8 HX8 HB8 HC8 ⊢
        go_wp2_with fail
        refine (len_any w.heap.size n2 (L2.length : Int) _ HC8.out).mono ?_
        rintro e w12 ⟨rfl, rfl⟩
        go_wp2_with fail
        go_roundg (20 - (i + 1))
        case measure => have := HG.out; omega
        case rel => exact ⟨i + 1, ts ++ [b], L2, cs2, n2, by go_num, by omega, by omega, Lib.hid rfl, Lib.hid ⟨HTF.out, by have := HT.out.2.1; simp; omega, HL2L.out, HTB.out⟩, HA8, HX8, HH2, HS2, HC8, HB8⟩
      · have HLL := Lib.hid (show L.length ≤ 6000 by have := HT.out.2.2.1; omega)
        have HLB := Lib.hid (show ∀ x ∈ L, 0 ≤ x ∧ x ≤ 255 from fun x hx => by rw [← HT.out.1] at hx; obtain ⟨b', h1, h2⟩ := List.mem_flatten.1 hx; exact HT.out.2.2.2 b' h1 x h2)
        have hnr := (addF_len L HLB.out).2
        rw [HS.out] at hnr
        obtain ⟨hn1, hn2⟩ := hnr
        have HCT := Lib.hid HH.out.1
        have HTS := Lib.hid (show ts.length ≤ 20 by have := HT.out.2.1; omega)
        have HTO := Lib.hid (show total ts ≤ 6000 by unfold total; rw [HT.out.1]; exact HLL.out)
        have HS1 := Lib.hid (show (addF (0, 0) L).1 = n by rw [HS.out])
        go_wp2_with fail
        refine (add_anyN wr.heap.size 0 0 A5 c5 cs.length ts HCT.out _ (blk_new _ _ _) ⟨by omega, by omega⟩ (by omega) (by have := HTO.out; omega) (by have := HTS.out; omega) (foot_holds (blk_new _ _ _) (own_alloc HX.out _) HH.out (bel HB.out (below_new _ _)) HB.out.size (by have := HTS.out; omega)) HT.out.2.2.2 n (L.length : Int) (by rw [HT.out.1]; exact HS.out)).mono ?_
        rintro e w9 ⟨rfl, hb9, hk9⟩
        have HA9 := Lib.hid (own_kpS (own_alloc HA.out _) hk9.kept (blk_new _ _ _) (by decide))
        have HX9 := Lib.hid (own_kpS (own_alloc HX.out _) hk9.kept (blk_new _ _ _) (by decide))
        have HB9 := Lib.hid ((bel HB.out (below_new _ _)).trans (hk9.to (bel HB.out (below_new _ _)).size (fun k hk => by rw [hk]; exact HB.out.size)))
        have HC9 := Lib.hid hb9
        clear hb9 hk9 HA HX HB HC
        go_wp2_with fail
        refine (known_any _).mono ?_
        rintro e w10 ⟨rfl, hb⟩
        have HA10 := Lib.hid (pw_own_below HA9.out hb)
        have HX10 := Lib.hid (pw_own_below HX9.out hb)
        have HC10 := Lib.hid (blk_bel HC9.out hb)
        have HB10 := Lib.hid (bel HB9.out hb)
        clear hb HA9 HX9 HC9 HB9
        go_wp2_with fail
        refine (value_any wr.heap.size n (L.length : Int) _ HC10.out).mono ?_
        rintro e w11 ⟨rfl, rfl⟩
        go_wp2_with fail
        refine (refsum_any A4 c4 L n HS1.out _ (own_CS HA10.out) hc4 HLB.out (by have := HLL.out; omega)).mono ?_
        rintro e w12 ⟨rfl, m12, rfl⟩
        have HA12 := Lib.hid (pw_own_drewN HA10.out m12)
        have HX12 := Lib.hid (pw_own_drewN HX10.out m12)
        have HB12 := Lib.hid (pw_below_drewN HB10.out m12)
        clear HA10 HX10 HC10 HB10
        generalize World.drewN w11 m12 = w13 at HA12 HX12 HB12 ⊢
        go_wp2_with fail
        refine (of_anyN A5 c5 cs.length ts HCT.out (65535 - n) (by rw [HT.out.1, HS1.out]) _ (holds_C HX12.out HH.out ⟨HB12.out.size, fun k hk _ => HB12.out.block k hk⟩ (by have := HTS.out; omega)) HT.out.2.2.2 (by have := HTO.out; omega) (by have := HTS.out; omega) (by omega)).mono ?_
        rintro e w14 ⟨rfl, hb⟩
        have HA14 := Lib.hid (pw_own_below HA12.out hb)
        have HB14 := Lib.hid (bel HB12.out hb)
        clear hb HA12 HX12 HB12
        go_wp2_with fail
        refine (refsum_any A4 c4 L n HS1.out _ (own_CS HA14.out) hc4 HLB.out (by have := HLL.out; omega)).mono ?_
        rintro e w15 ⟨rfl, m15, rfl⟩
        go_wp2_with fail
        go_ret
        exact ⟨rfl, pw_below_drewN HB14.out m15⟩
    · have HLL := Lib.hid (show L.length ≤ 6000 by have := HT.out.2.2.1; omega)
      have HLB := Lib.hid (show ∀ x ∈ L, 0 ≤ x ∧ x ≤ 255 from fun x hx => by rw [← HT.out.1] at hx; obtain ⟨b', h1, h2⟩ := List.mem_flatten.1 hx; exact HT.out.2.2.2 b' h1 x h2)
      have hnr := (addF_len L HLB.out).2
      rw [HS.out] at hnr
      obtain ⟨hn1, hn2⟩ := hnr
      have HCT := Lib.hid HH.out.1
      have HTS := Lib.hid (show ts.length ≤ 20 by have := HT.out.2.1; omega)
      have HTO := Lib.hid (show total ts ≤ 6000 by unfold total; rw [HT.out.1]; exact HLL.out)
      have HS1 := Lib.hid (show (addF (0, 0) L).1 = n by rw [HS.out])
      go_wp2_with fail
      refine (add_anyN wr.heap.size 0 0 A5 c5 cs.length ts HCT.out _ (blk_new _ _ _) ⟨by omega, by omega⟩ (by omega) (by have := HTO.out; omega) (by have := HTS.out; omega) (foot_holds (blk_new _ _ _) (own_alloc HX.out _) HH.out (bel HB.out (below_new _ _)) HB.out.size (by have := HTS.out; omega)) HT.out.2.2.2 n (L.length : Int) (by rw [HT.out.1]; exact HS.out)).mono ?_
      rintro e w9 ⟨rfl, hb9, hk9⟩
      have HA9 := Lib.hid (own_kpS (own_alloc HA.out _) hk9.kept (blk_new _ _ _) (by decide))
      have HX9 := Lib.hid (own_kpS (own_alloc HX.out _) hk9.kept (blk_new _ _ _) (by decide))
      have HB9 := Lib.hid ((bel HB.out (below_new _ _)).trans (hk9.to (bel HB.out (below_new _ _)).size (fun k hk => by rw [hk]; exact HB.out.size)))
      have HC9 := Lib.hid hb9
      clear hb9 hk9 HA HX HB HC
      go_wp2_with fail
      refine (known_any _).mono ?_
      rintro e w10 ⟨rfl, hb⟩
      have HA10 := Lib.hid (pw_own_below HA9.out hb)
      have HX10 := Lib.hid (pw_own_below HX9.out hb)
      have HC10 := Lib.hid (blk_bel HC9.out hb)
      have HB10 := Lib.hid (bel HB9.out hb)
      clear hb HA9 HX9 HC9 HB9
      go_wp2_with fail
      refine (value_any wr.heap.size n (L.length : Int) _ HC10.out).mono ?_
      rintro e w11 ⟨rfl, rfl⟩
      go_wp2_with fail
      refine (refsum_any A4 c4 L n HS1.out _ (own_CS HA10.out) hc4 HLB.out (by have := HLL.out; omega)).mono ?_
      rintro e w12 ⟨rfl, m12, rfl⟩
      have HA12 := Lib.hid (pw_own_drewN HA10.out m12)
      have HX12 := Lib.hid (pw_own_drewN HX10.out m12)
      have HB12 := Lib.hid (pw_below_drewN HB10.out m12)
      clear HA10 HX10 HC10 HB10
      generalize World.drewN w11 m12 = w13 at HA12 HX12 HB12 ⊢
      go_wp2_with fail
      refine (of_anyN A5 c5 cs.length ts HCT.out (65535 - n) (by rw [HT.out.1, HS1.out]) _ (holds_C HX12.out HH.out ⟨HB12.out.size, fun k hk _ => HB12.out.block k hk⟩ (by have := HTS.out; omega)) HT.out.2.2.2 (by have := HTO.out; omega) (by have := HTS.out; omega) (by omega)).mono ?_
      rintro e w14 ⟨rfl, hb⟩
      have HA14 := Lib.hid (pw_own_below HA12.out hb)
      have HB14 := Lib.hid (bel HB12.out hb)
      clear hb HA12 HX12 HB12
      go_wp2_with fail
      refine (refsum_any A4 c4 L n HS1.out _ (own_CS HA14.out) hc4 HLB.out (by have := HLL.out; omega)).mono ?_
      rintro e w15 ⟨rfl, m15, rfl⟩
      go_wp2_with fail
      go_ret
      exact ⟨rfl, pw_below_drewN HB14.out m15⟩
theorem wf_u8 {n : Int} (h : (Lit.int .u8 n).wf = true) : 0 ≤ n ∧ n ≤ 255 := by
  simp [Lit.wf, IntKind.min, IntKind.max, IntKind.signed, IntKind.bits] at h
  omega
theorem sumadds_row (a0 : Option Addr) (cap0 : Nat) (z0 : List (List (Int))) (w : World) (w0 : Kd.C (Kd.slice 5 (Kd.int .u8)) w a0 z0.length z0) (m0 : z0.length ≤ cap0) (o0 : (z0.length ≤ maxLen ∧ ∀ x0 ∈ z0, (x0.length ≤ maxLen ∧ ∀ x1 ∈ x0, (Lit.int .u8 x1).wf = true))) (y0 : z0.length * Try.prog.bytesOf 30 ≤ 140737488351232) :
    Calls Try.prog 7 #[.slice a0 z0.length cap0] w fun e w' => e = .returned (.bool true) ∧ Below w.heap.size w w' := sumadds a0 cap0 z0 w w0 (fun b hb x hx => wf_u8 ((o0.2 b hb).2 x hx)) y0
end Go.Proofs.Ytnbglbehdjhmcaa.Sum
