/- The document's cursor, step by step. -/
import Derived.Test.YtnbglbehdjhmcaaPackStep
import Derived.Test.YtnbglbehdjhmcaaPackPlain
set_option maxRecDepth 100000
set_option linter.unusedVariables false
set_option linter.unusedSimpArgs false
namespace Go.Proofs.Ytnbglbehdjhmcaa.Pk
open Go.RowKit Go.Proofs.YtnbglbehdjhmcaaW.PrintWords
/-- The document's cursor in block g: what is left, how many were read, what was wrong. -/
def Dd (w : World) (g : Nat) (A : Option Addr) (n c : Nat) (p r : Int) : Prop := w.heap[g]? = some (.cells #[.slice A n c, .int .i64 p, .int .i64 r] 50 (0, 0))
theorem rsize_any (k : Int) (r : Bool) (hr : decide (0 < spanF k) = r) (w : World) : Calls Try.prog 29 #[.int .i64 k] w fun e w' => e = .returned (.bool r) ∧ ∃ n, w' = w.drewN n :=
  (PPackPuts.rivuletref02_Size.calls k r w (by rw [size_f, hr])).mono (by rintro e w' ⟨rfl, ⟨h⟩⟩; exact ⟨rfl, h⟩)
theorem rbytes_was (g : Nat) (A : Option Addr) (n c : Nat) (p r k : Int) (w : World) (h : Dd w g A n c p r) (hr : r ≠ 0) : Calls Try.prog 35 #[.pointer (some ⟨g, 0, none⟩), .int .i64 k] w fun e w' => e = .returned (.slice none 0 0) ∧ w' = w := by
  have q0 := (blk_cell h 0).trans (show _ = some (.slice A n c) from rfl)
  have q2 := (blk_cell h 2).trans (show _ = some (.int .i64 r) from rfl)
  have hr' : (r == 0) = false := by simpa using hr
  clear h
  go_enter Try.func35, Try.ntmps35
  go_wp2_with fail
  go_ret
  exact ⟨rfl, rfl⟩
theorem rbytes_neg (g : Nat) (A : Option Addr) (n c : Nat) (p k : Int) (w : World) (h : Dd w g A n c p 0) (hk : k < 0) : Calls Try.prog 35 #[.pointer (some ⟨g, 0, none⟩), .int .i64 k] w fun e w' => e = .returned (.slice none 0 0) ∧ Dd w' g A n c p 1 ∧ Kp w w' (fun k => k = g) := by
  have q2 := (blk_cell h 2).trans (show _ = some (.int .i64 0) from rfl)
  have f2 := blk_frozen h 2
  have H := Lib.hid h
  clear h
  go_enter Try.func35, Try.ntmps35
  go_upto_region 3 with (fail)
  have HX : Hid (Dd (w.setCell ⟨g, 2, none⟩ (.int .i64 1)) g A n c p 1) := Lib.hid (blk_put H.out 2 _ rfl)
  have KX := Lib.hid ((Kp.refl w (fun k => k = g)).setCell (p := ⟨g, 2, none⟩) (.inl rfl) (.int .i64 1))
  generalize w.setCell ⟨g, 2, none⟩ (.int .i64 1) = w1 at HX KX ⊢
  clear q2 f2
  have q0 := (blk_cell HX.out 0).trans (show _ = some (.slice A n c) from rfl)
  have q2 := (blk_cell HX.out 2).trans (show _ = some (.int .i64 1) from rfl)
  go_wp2_with fail
  go_ret
  exact ⟨rfl, HX.out, KX.out⟩
theorem rbytes_end (g : Nat) (A : Option Addr) (n c : Nat) (p k : Int) (w : World) (h : Dd w g A n c p 0) (hk : ¬ k < 0) (hk2 : (n : Int) < k) : Calls Try.prog 35 #[.pointer (some ⟨g, 0, none⟩), .int .i64 k] w fun e w' => e = .returned (.slice none 0 0) ∧ Dd w' g A n c p 4 ∧ Kp w w' (fun k => k = g) := by
  have q0 := (blk_cell h 0).trans (show _ = some (.slice A n c) from rfl)
  have q2 := (blk_cell h 2).trans (show _ = some (.int .i64 0) from rfl)
  have f2 := blk_frozen h 2
  have H := Lib.hid h
  clear h
  go_enter Try.func35, Try.ntmps35
  go_upto_region 5 with (fail)
  have HX : Hid (Dd (w.setCell ⟨g, 2, none⟩ (.int .i64 4)) g A n c p 4) := Lib.hid (blk_put H.out 2 _ rfl)
  have KX := Lib.hid ((Kp.refl w (fun k => k = g)).setCell (p := ⟨g, 2, none⟩) (.inl rfl) (.int .i64 4))
  generalize w.setCell ⟨g, 2, none⟩ (.int .i64 4) = w1 at HX KX ⊢
  clear q2 f2 q0
  have q2 := (blk_cell HX.out 2).trans (show _ = some (.int .i64 4) from rfl)
  go_wp2_with fail
  go_ret
  exact ⟨rfl, HX.out, KX.out⟩
theorem rbytes_none (g : Nat) (p : Nat) (w : World) (h : Dd w g none 0 0 p 0) (hp : p ≤ 1000000) : Calls Try.prog 35 #[.pointer (some ⟨g, 0, none⟩), .int .i64 0] w fun e w' => e = .returned (.slice none 0 0) ∧ Dd w' g none 0 0 p 0 ∧ Kp w w' (fun k => k = g) := by
  have q0 := (blk_cell h 0).trans (show _ = some (.slice none 0 0) from rfl)
  have q2 := (blk_cell h 2).trans (show _ = some (.int .i64 0) from rfl)
  have f0 := blk_frozen h 0
  have H := Lib.hid h
  clear h
  go_enter Try.func35, Try.ntmps35
  go_upto_region 9 with (fail)
  have HX : Hid (Dd (w.setCell ⟨g, 0, none⟩ (.slice none 0 0)) g none 0 0 p 0) := Lib.hid (blk_put H.out 0 _ rfl)
  have KX := Lib.hid ((Kp.refl w (fun k => k = g)).setCell (p := ⟨g, 0, none⟩) (.inl rfl) (.slice none 0 0))
  generalize w.setCell ⟨g, 0, none⟩ (.slice none 0 0) = w1 at HX KX ⊢
  clear q0 q2 f0
  have q1 := (blk_cell HX.out 1).trans (show _ = some (.int .i64 p) from rfl)
  have f1 := blk_frozen HX.out 1
  go_wp2_with fail
  go_ret
  exact ⟨rfl, blk_put HX.out 1 _ rfl, KX.out.setCell (p := ⟨g, 1, none⟩) (.inl rfl) _⟩
theorem rbytes_some (g : Nat) (a : Addr) (n c p k s : Nat) (hs : p + k = s) (w : World) (h : Dd w g (some a) n c p 0) (hk : k ≤ n) (hc : n ≤ c) (hp : s ≤ 1000000) : Calls Try.prog 35 #[.pointer (some ⟨g, 0, none⟩), .int .i64 k] w fun e w' => e = .returned (.slice (some a) k c) ∧ (∃ a2, Dd w' g (some a2) (n - k) (c - k) s 0 ∧ (n - k ≠ 0 → a2 = a.add k) ∧ a2.block = a.block) ∧ Kp w w' (fun k => k = g) := by
  have q0 := (blk_cell h 0).trans (show _ = some (.slice (some a) n c) from rfl)
  have q2 := (blk_cell h 2).trans (show _ = some (.int .i64 0) from rfl)
  have f0 := blk_frozen h 0
  have H := Lib.hid h
  clear h
  go_enter Try.func35, Try.ntmps35
  go_upto_region 9 with (fail)
  obtain ⟨a2, ha2, hb2, hb3⟩ : ∃ a2 : Addr, (if c = k then some a else some (a.add k)) = some a2 ∧ (n - k ≠ 0 → a2 = a.add k) ∧ a2.block = a.block := by
    by_cases hck : c = k
    · exact ⟨a, by rw [if_pos hck], fun h => by omega, rfl⟩
    · exact ⟨a.add k, by rw [if_neg hck], fun _ => rfl, add_block a k⟩
  rw [ha2]
  have HX : Hid (Dd (w.setCell ⟨g, 0, none⟩ (.slice (some a2) (n - k) (c - k))) g (some a2) (n - k) (c - k) p 0) := Lib.hid (blk_put H.out 0 _ rfl)
  have KX := Lib.hid ((Kp.refl w (fun k => k = g)).setCell (p := ⟨g, 0, none⟩) (.inl rfl) (.slice (some a2) (n - k) (c - k)))
  generalize w.setCell ⟨g, 0, none⟩ (.slice (some a2) (n - k) (c - k)) = w1 at HX KX ⊢
  have HB := Lib.hid (And.intro hb2 hb3)
  clear q0 q2 f0 ha2 hb2 hb3
  have q1 := (blk_cell HX.out 1).trans (show _ = some (.int .i64 (p : Int)) from rfl)
  have f1 := blk_frozen HX.out 1
  go_wp2_with fail
  go_ret
  have e : ((p : Int) + k) = (s : Int) := by omega
  exact ⟨rfl, ⟨a2, by rw [e]; exact blk_put HX.out 1 _ rfl, HB.out.1, HB.out.2⟩, KX.out.setCell (p := ⟨g, 1, none⟩) (.inl rfl) _⟩
/-- The document's cursor over the row l, whose bytes stand in block gw, at p. -/
def Rf (w : World) (g gw : Nat) (l : List Int) (p : Nat) (r : Int) : Prop := ∃ A c, Dd w g A (l.drop p).length c p r ∧ (l.drop p).length ≤ c ∧ (A = none → c = 0) ∧ Kd.C (Kd.int .u8) w A (l.drop p).length (l.drop p) ∧ (∀ ad, A = some ad → ad.block = gw)
theorem Rf.bel {w w' : World} {g gw : Nat} {l : List Int} {p : Nat} {r : Int} (h : Rf w g gw l p r) (hb : Below w.heap.size w w') : Rf w' g gw l p r := by
  obtain ⟨A, c, h1, h2, h3, h4, h5⟩ := h
  exact ⟨A, c, blk_bel h1 hb, h2, h3, Kd.C_below h4 hb, h5⟩
/-- What is made behind base leaves what stood below it. -/
theorem Rf.bel2 {w w' : World} {b g gw : Nat} {l : List Int} {p : Nat} {r : Int} (h : Rf w g gw l p r) (hb : Below b w w') (hg : g < b) (hgw : gw < b) : Rf w' g gw l p r := by
  obtain ⟨A, c, h1, h2, h3, h4, h5⟩ := h
  refine ⟨A, c, (hb.block g hg).trans h1, h2, h3, ?_, h5⟩
  refine ⟨h4.1, h4.2.1, fun h0 => ?_⟩
  obtain ⟨ad, he, hc⟩ := h4.2.2 h0
  refine ⟨ad, he, fun j x hj => ?_⟩
  obtain ⟨cc, e1, e2, e3⟩ := hc j x hj
  exact ⟨cc, e1, e2, fun i u hu => (World.cell?_of_block (by rw [add_block, h5 ad he]; exact hb.block gw hgw)).trans (e3 i u hu)⟩
theorem Rf.kp {w w' : World} {g gw g' : Nat} {l : List Int} {p : Nat} {r : Int} (h : Rf w g gw l p r) (hk : Kp w w' (fun k => k = g')) (hg : g ≠ g') (hgw : gw ≠ g') : Rf w' g gw l p r := by
  obtain ⟨A, c, h1, h2, h3, h4, h5⟩ := h
  exact ⟨A, c, kp_blk h1 hk hg, h2, h3, C_kpO h4 hk (fun _ ad he => by rw [h5 ad he]; exact hgw), h5⟩
theorem Rf.set {w w' : World} {g gw : Nat} {l : List Int} {A : Option Addr} {c p : Nat} {r' : Int} (hd : Dd w' g A (l.drop p).length c p r') (hk : Kp w w' (fun k => k = g)) (h2 : (l.drop p).length ≤ c) (h3 : A = none → c = 0) (h4 : Kd.C (Kd.int .u8) w A (l.drop p).length (l.drop p)) (h5 : ∀ ad, A = some ad → ad.block = gw) (hgw : gw ≠ g) : Rf w' g gw l p r' :=
  ⟨A, c, hd, h2, h3, C_kpO h4 hk (fun _ ad he => by rw [h5 ad he]; exact hgw), h5⟩
theorem rbytes_step (g gw : Nat) (l : List Int) (p : Nat) (r k : Int) (w : World) (h : Rf w g gw l p r) (hp : p ≤ l.length) (hl : l.length ≤ 100000) (hgw : gw ≠ g) :
    Calls Try.prog 35 #[.pointer (some ⟨g, 0, none⟩), .int .i64 k] w fun e w' => (∃ A c, e = .returned (.slice A (nl l p r k).length c) ∧ (nl l p r k).length ≤ c ∧ Kd.C (Kd.int .u8) w' A (nl l p r k).length (nl l p r k) ∧ (∀ ad, A = some ad → ad.block = gw)) ∧ Rf w' g gw l (np l.length p r k) (nr l.length p r k) ∧ Kp w w' (fun k => k = g) := by
  obtain ⟨A, c, h1, h2, h3, h4, h5⟩ := h
  have hlen : (l.drop p).length = l.length - p := by simp
  have nils : ∀ w' : World, ∃ A' c', (Ending.returned (Value.slice none 0 0)) = .returned (.slice A' ([] : List Int).length c') ∧ ([] : List Int).length ≤ c' ∧ Kd.C (Kd.int .u8) w' A' ([] : List Int).length [] ∧ (∀ ad, A' = some ad → ad.block = gw) := fun w' => ⟨none, 0, rfl, by simp, Kd.C_nil _ _, fun ad he => by cases he⟩
  by_cases hr : r = 0
  · subst hr
    by_cases hk : k < 0
    · have e := nr_neg (len := l.length) (p := p) hk
      rw [np_bad (by rw [e]; decide), nl_bad (by rw [e]; decide), e]
      refine (rbytes_neg g A _ c p k w h1 hk).mono ?_
      rintro e w' ⟨rfl, d1, k1⟩
      exact ⟨nils w', Rf.set d1 k1 h2 h3 h4 h5 hgw, k1⟩
    · by_cases hd : (l.length : Int) - p < k
      · have e := nr_end hk hd
        rw [np_bad (by rw [e]; decide), nl_bad (by rw [e]; decide), e]
        refine (rbytes_end g A _ c p k w h1 hk (by omega)).mono ?_
        rintro e w' ⟨rfl, d1, k1⟩
        exact ⟨nils w', Rf.set d1 k1 h2 h3 h4 h5 hgw, k1⟩
      · have e := nr_ok hk hd
        have hn := nl_len (k := k) hp e
        rw [hn, np_ok e, nl_ok e, e]
        obtain ⟨kn, rfl⟩ : ∃ kn : Nat, k = kn := ⟨k.toNat, by omega⟩
        rw [Int.toNat_natCast]
        cases A with
        | none =>
          have h0 : (l.drop p).length = 0 := by
            rcases Nat.eq_zero_or_pos (l.drop p).length with h0 | h0
            · exact h0
            · obtain ⟨ad, he, _⟩ := h4.2.2 h0; cases he
          obtain rfl := h3 rfl
          obtain rfl : kn = 0 := by omega
          rw [h0] at h1
          refine (rbytes_none g p w h1 (by omega)).mono ?_
          rintro e w' ⟨rfl, d1, k1⟩
          have hnil : l.drop p = [] := List.length_eq_zero_iff.1 h0
          refine ⟨⟨none, 0, rfl, by simp, by simpa using Kd.C_nil (Kd.int .u8) w', fun ad he => by cases he⟩, ⟨none, 0, ?_, ?_, fun _ => rfl, ?_, fun ad he => by cases he⟩, k1⟩
          · rw [Nat.add_zero, hnil]; exact d1
          · rw [Nat.add_zero, hnil]; simp
          · rw [Nat.add_zero, hnil]; exact Kd.C_nil _ _
        | some a =>
          refine (rbytes_some g a (l.drop p).length c p kn (p + kn) rfl w h1 (by omega) h2 (by omega)).mono ?_
          rintro e w' ⟨rfl, ⟨a2, d1, hA2, hb2⟩, k1⟩
          have hrow := C_kp h4 k1 (by rw [h5 a rfl]; exact hgw)
          have hd2 : (l.drop (p + kn)).length = (l.drop p).length - kn := by simp; omega
          have hsr := sub_row (k := (l.drop p).length - kn) (s := (l.drop p).length) rfl hrow (by omega) (Nat.le_refl _) hA2
          have e3 : ((l.drop p).drop kn).take ((l.drop p).length - kn) = l.drop (p + kn) := by rw [List.drop_drop, List.take_of_length_le (by omega)]
          rw [e3] at hsr
          refine ⟨⟨some a, c, rfl, by omega, C_take hrow (by omega), h5⟩, ⟨some a2, c - kn, by rw [hd2]; exact d1, by omega, fun h => (by cases h), (by rw [hd2]; exact hsr), fun ad he => (by cases he; rw [hb2]; exact h5 a rfl)⟩, k1⟩
  · have e := nr_was (len := l.length) (p := p) (k := k) hr
    rw [np_bad (by rw [e]; exact hr), nl_bad (by rw [e]; exact hr), e]
    refine (rbytes_was g A _ c p r k w h1 hr).mono ?_
    rintro e w' ⟨rfl, rfl⟩
    exact ⟨nils _, ⟨A, c, h1, h2, h3, h4, h5⟩, Kp.refl _ _⟩
theorem rclose_step (g gw : Nat) (l : List Int) (p : Nat) (r : Int) (w : World) (h : Rf w g gw l p r) (hp : p ≤ l.length) (hl : l.length ≤ 100000) :
    Calls Try.prog 36 #[.pointer (some ⟨g, 0, none⟩)] w fun e w' => e = .returned (.int .i64 (if r = 0 then (if 0 < (l.length : Int) - p then 3 else 0) else r)) ∧ ∃ m, w' = w.drewN m := by
  obtain ⟨A, c, h1, _⟩ := h
  have hlen : (l.drop p).length = l.length - p := by simp
  rw [hlen] at h1
  have q0 := (blk_cell h1 0).trans (show _ = some (.slice A (l.length - p) c) from rfl)
  have q2 := (blk_cell h1 2).trans (show _ = some (.int .i64 r) from rfl)
  clear h1 hlen
  by_cases hr : r = 0
  · subst hr
    rw [if_pos rfl]
    by_cases hd : 0 < (l.length : Int) - p
    · rw [if_pos hd]
      have hd2 : (0 : Int) < ((l.length - p : Nat) : Int) := by omega
      clear hd
      go_enter Try.func36, Try.ntmps36
      go_wp2_with fail
      go_ret
      exact ⟨rfl, 0, rfl⟩
    · rw [if_neg hd]
      have hd2 : ¬ (0 : Int) < ((l.length - p : Nat) : Int) := by omega
      clear hd
      go_enter Try.func36, Try.ntmps36
      go_wp2_with fail
      go_ret
      exact ⟨rfl, 0, rfl⟩
  · rw [if_neg hr]
    have hr' : (r == 0) = false := by simpa using hr
    clear hr
    go_enter Try.func36, Try.ntmps36
    go_wp2_with fail
    go_ret
    exact ⟨rfl, 0, rfl⟩
theorem rtake_was (g : Nat) (A : Option Addr) (n c : Nat) (p r k : Int) (w : World) (h : Dd w g A n c p r) (hr : r ≠ 0) : Calls Try.prog 33 #[.pointer (some ⟨g, 0, none⟩), .int .i64 k] w fun e w' => e = .returned (.int .i64 0) ∧ w' = w := by
  have q2 := (blk_cell h 2).trans (show _ = some (.int .i64 r) from rfl)
  have hr' : (r == 0) = false := by simpa using hr
  have H := Lib.hid h
  have HR := Lib.hid hr
  clear h hr
  go_enter Try.func33, Try.ntmps33
  go_wp2_with fail
  refine (rbytes_was g A n c p r k _ H.out HR.out).mono ?_
  rintro e w1 ⟨rfl, hw⟩
  rw [hw]
  clear hw w1
  go_wp2_with fail
  go_loopg [6, 7] 0 (fun gk v6 v7 wr => v6 = .int .i64 0 ∧ v7 = .int .i64 0 ∧ Hid (wr = w))
  case atStart => exact ⟨rfl, rfl, Lib.hid rfl⟩
  case round =>
    obtain ⟨rfl, rfl, HW⟩ := hrel
    obtain rfl := HW.out
    go_wp2_with fail
    go_ret
    exact ⟨rfl, rfl⟩
theorem rtake_bad (g : Nat) (A : Option Addr) (n c : Nat) (p k : Int) (w : World) (h : Dd w g A n c p 0) (hs : spanF k = 0) : Calls Try.prog 33 #[.pointer (some ⟨g, 0, none⟩), .int .i64 k] w fun e w' => e = .returned (.int .i64 0) ∧ Dd w' g A n c p 1 ∧ Kp w w' (fun k => k = g) := by
  have q2 := (blk_cell h 2).trans (show _ = some (.int .i64 0) from rfl)
  have H := Lib.hid h
  have HS := Lib.hid (show decide (0 < spanF k) = false by rw [hs]; decide)
  clear h hs
  go_enter Try.func33, Try.ntmps33
  go_wp2_with fail
  refine (rsize_any k false HS.out _).mono ?_
  rintro e w1 ⟨rfl, m1, rfl⟩
  have H1 : Hid (Dd (World.drewN w m1) g A n c p 0) := Lib.hid H.out
  have K1 := Lib.hid ((Kp.refl w (fun k => k = g)).drewN m1)
  clear H q2
  generalize World.drewN w m1 = w1 at H1 K1 ⊢
  have f2 := blk_frozen H1.out 2
  have q2 := (blk_cell H1.out 2).trans (show _ = some (.int .i64 0) from rfl)
  go_upto_region 3 with (fail)
  have HX : Hid (Dd (w1.setCell ⟨g, 2, none⟩ (.int .i64 1)) g A n c p 1) := Lib.hid (blk_put H1.out 2 _ rfl)
  have KX := Lib.hid (K1.out.setCell (p := ⟨g, 2, none⟩) (.inl rfl) (.int .i64 1))
  clear f2 q2
  generalize w1.setCell ⟨g, 2, none⟩ (.int .i64 1) = w2 at HX KX ⊢
  go_wp2_with fail
  refine (rbytes_was g A n c p 1 k _ HX.out (by decide)).mono ?_
  rintro e w3 ⟨rfl, hw⟩
  rw [hw]
  clear hw w3
  go_wp2_with fail
  go_loopg [6, 7] 0 (fun gk v6 v7 wr => v6 = .int .i64 0 ∧ v7 = .int .i64 0 ∧ Hid (wr = w2))
  case atStart => exact ⟨rfl, rfl, Lib.hid rfl⟩
  case round =>
    obtain ⟨rfl, rfl, HW⟩ := hrel
    obtain rfl := HW.out
    go_wp2_with fail
    go_ret
    exact ⟨rfl, HX.out, KX.out⟩
theorem rtake_size (g gw : Nat) (l : List Int) (p : Nat) (k : Int) (r : Int) (w : World) (h : Rf w g gw l p 0) (hp : p ≤ l.length) (hl : l.length ≤ 100000) (hgw : gw ≠ g) (hb : ∀ x ∈ l, 0 ≤ x ∧ x ≤ 255) (hs : spanF k ≠ 0) (hr : joinF (nl l p 0 k) = r) :
    Calls Try.prog 33 #[.pointer (some ⟨g, 0, none⟩), .int .i64 k] w fun e w' => e = .returned (.int .i64 r) ∧ Rf w' g gw l (np l.length p 0 k) (nr l.length p 0 k) ∧ Kp w w' (fun k => k = g) := by
  have q2 : w.cell? ⟨g, 2, none⟩ = some (.int .i64 0) := by obtain ⟨A, c, h1, _⟩ := h; exact (blk_cell h1 2).trans rfl
  have H := Lib.hid h
  have HS := Lib.hid (show decide (0 < spanF k) = true by have := span_bd k; simp; omega)
  have hM4 : (nl l p 0 k).length ≤ 4 := by
    by_cases h0 : nr l.length p 0 k = 0
    · rw [nl_len hp h0]; have := span_sizes hs; omega
    · rw [nl_bad h0]; simp
  have HMB := Lib.hid (nl_mem (l := l) (p := p) (r := 0) (k := k) hb)
  have HRR := Lib.hid hr
  have HL := Lib.hid hl
  clear h hs hb hr hl
  go_enter Try.func33, Try.ntmps33
  go_wp2_with fail
  refine (rsize_any k true HS.out _).mono ?_
  rintro e w1 ⟨rfl, m1, rfl⟩
  have H1 := Lib.hid (H.out.bel (pw_below_drewN (Below.refl w.heap.size w) m1))
  have K1 := Lib.hid ((Kp.refl w (fun k => k = g)).drewN m1)
  clear H q2
  generalize World.drewN w m1 = w1 at H1 K1 ⊢
  go_wp2_with fail
  refine (rbytes_step g gw l p 0 k _ H1.out hp HL.out hgw).mono ?_
  rintro e w2 ⟨⟨A, c, rfl, hc, hrow, _⟩, h2, k2⟩
  have H2 := Lib.hid h2
  have K2 := Lib.hid (K1.out.then_ k2 (fun _ h => .inl h))
  have HRW := Lib.hid hrow
  clear h2 k2 hrow H1 K1
  generalize nl l p 0 k = M at hc HRW hM4 HMB HRR ⊢
  go_wp2_with fail
  go_loopg [7, 6] M.length (fun gk v8 v3 wr => ∃ (k : Nat) (q : Int), v8 = .int .i64 k ∧ v3 = .int .i64 q ∧ k ≤ M.length ∧ (0 ≤ q ∧ q < 4294967296) ∧ Hid (q = joinF (M.take k)) ∧ Hid (gk = M.length - k) ∧ Hid (wr = w2))
  case atStart => exact ⟨0, 0, rfl, rfl, by omega, by omega, Lib.hid (by simp [joinF]), Lib.hid (by simp), Lib.hid rfl⟩
  case round =>
    obtain ⟨k, q, rfl, rfl, hk, ⟨hq1, hq2⟩, HQ, HG, HW⟩ := hrel
    obtain rfl := HW.out
    by_cases hlt : k < M.length
    · have hq3 : q < 16777216 := by
        have h1 := (join_bd M HMB.out k (by omega)).2
        rw [← HQ.out] at h1
        have h2 : (256 : Int) ^ k ≤ 256 ^ 3 := by
          have h5 : ∀ j : Nat, j < 4 → (256 : Int) ^ j ≤ 256 ^ 3 := by decide
          exact h5 k (by omega)
        have h3 : (256 : Int) ^ 3 = 16777216 := by decide
        omega
      obtain ⟨ad, had, hcell⟩ := Kd.at_int HRW.out k (by omega) (by omega)
      simp only [Int.toNat_natCast] at hcell
      cases had
      have hm : rd M k ∈ M := by unfold rd; simp [hlt]
      obtain ⟨hx1, hx2⟩ := HMB.out _ hm
      have HJ := Lib.hid (join_take M k hlt)
      generalize rd M k = x at hcell hx1 hx2 HJ
      clear hm
      go_wp2_with fail
      go_roundg (M.length - (k + 1))
      case measure => have := HG.out; omega
      case rel => exact ⟨k + 1, 256 * q + x, by go_num, by go_num, by omega, by omega, Lib.hid (by rw [HJ.out, ← HQ.out]; omega), Lib.hid rfl, Lib.hid rfl⟩
    · have hkl : k = M.length := by omega
      have hq : q = r := by rw [HQ.out, hkl, List.take_length]; exact HRR.out
      subst hq
      go_wp2_with fail
      go_ret
      exact ⟨rfl, H2.out, K2.out⟩
theorem rtake_step (g gw : Nat) (l : List Int) (p : Nat) (r k : Int) (w : World) (h : Rf w g gw l p r) (hp : p ≤ l.length) (hl : l.length ≤ 100000) (hgw : gw ≠ g) (hb : ∀ x ∈ l, 0 ≤ x ∧ x ≤ 255) :
    Calls Try.prog 33 #[.pointer (some ⟨g, 0, none⟩), .int .i64 k] w fun e w' => e = .returned (.int .i64 (if r = 0 ∧ spanF k = 0 then 0 else joinF (nl l p r k))) ∧ Rf w' g gw l (if r = 0 ∧ spanF k = 0 then p else np l.length p r k) (tr l.length p r k) ∧ Kp w w' (fun k => k = g) := by
  unfold tr
  by_cases hr : r = 0
  · subst hr
    by_cases hs : spanF k = 0
    · rw [if_pos ⟨rfl, hs⟩, if_pos ⟨rfl, hs⟩, if_pos ⟨rfl, hs⟩]
      obtain ⟨A, c, h1, h2, h3, h4, h5⟩ := h
      refine (rtake_bad g A _ c p k w h1 hs).mono ?_
      rintro e w' ⟨rfl, d1, k1⟩
      exact ⟨rfl, Rf.set d1 k1 h2 h3 h4 h5 hgw, k1⟩
    · rw [if_neg (fun h => hs h.2), if_neg (fun h => hs h.2), if_neg (fun h => hs h.2)]
      exact rtake_size g gw l p k _ w h hp hl hgw hb hs rfl
  · have e := nr_was (len := l.length) (p := p) (k := k) hr
    rw [if_neg (fun h => hr h.1), if_neg (fun h => hr h.1), if_neg (fun h => hr h.1), np_bad (by rw [e]; exact hr), nl_bad (by rw [e]; exact hr), e]
    obtain ⟨A, c, h1, h2, h3, h4, h5⟩ := h
    refine (rtake_was g A _ c p r k w h1 hr).mono ?_
    rintro e w' ⟨rfl, rfl⟩
    exact ⟨rfl, ⟨A, c, h1, h2, h3, h4, h5⟩, Kp.refl _ _⟩
theorem rmany_was (g : Nat) (A : Option Addr) (n c : Nat) (p r k m : Int) (w : World) (h : Dd w g A n c p r) (hr : r ≠ 0) : Calls Try.prog 34 #[.pointer (some ⟨g, 0, none⟩), .int .i64 k, .int .i64 m] w fun e w' => e = .returned (.slice none 0 0) ∧ w' = w := by
  have q2 := (blk_cell h 2).trans (show _ = some (.int .i64 r) from rfl)
  have hr' : (r == 0) = false := by simpa using hr
  clear h hr
  go_enter Try.func34, Try.ntmps34
  go_wp2_with fail
  go_loopg [7, 8] 0 (fun gk v7 v8 wr => v7 = .slice none 0 0 ∧ v8 = .int .i64 0 ∧ Hid (wr = w))
  case atStart => exact ⟨rfl, rfl, Lib.hid rfl⟩
  case round =>
    obtain ⟨rfl, rfl, HW⟩ := hrel
    obtain rfl := HW.out
    by_cases hm : 0 < m
    · go_wp2_with fail
      go_ret
      exact ⟨rfl, rfl⟩
    · go_wp2_with fail
      go_ret
      exact ⟨rfl, rfl⟩
theorem rmany_bad (g : Nat) (A : Option Addr) (n c : Nat) (p k m : Int) (w : World) (h : Dd w g A n c p 0) (hbad : spanF k = 0 ∨ m < 0) : Calls Try.prog 34 #[.pointer (some ⟨g, 0, none⟩), .int .i64 k, .int .i64 m] w fun e w' => e = .returned (.slice none 0 0) ∧ Dd w' g A n c p 1 ∧ Kp w w' (fun k => k = g) := by
  have q2 := (blk_cell h 2).trans (show _ = some (.int .i64 0) from rfl)
  have H := Lib.hid h
  obtain ⟨s, hs⟩ : ∃ s, decide (0 < spanF k) = s := ⟨_, rfl⟩
  have HS := Lib.hid hs
  have hsm : s = true → m < 0 := fun h => by
    rcases hbad with h1 | h1
    · rw [h1] at hs; subst h; simp at hs
    · exact h1
  clear h hs hbad
  go_enter Try.func34, Try.ntmps34
  go_wp2_with fail
  refine (rsize_any k s HS.out _).mono ?_
  rintro e w1 ⟨rfl, m1, rfl⟩
  have H1 : Hid (Dd (World.drewN w m1) g A n c p 0) := Lib.hid H.out
  have K1 := Lib.hid ((Kp.refl w (fun k => k = g)).drewN m1)
  clear H q2
  generalize World.drewN w m1 = w1 at H1 K1 ⊢
  have f2 := blk_frozen H1.out 2
  have q2 := (blk_cell H1.out 2).trans (show _ = some (.int .i64 0) from rfl)
  cases s
  · clear hsm
    go_upto_region 3 with (fail)
    have HX : Hid (Dd (w1.setCell ⟨g, 2, none⟩ (.int .i64 1)) g A n c p 1) := Lib.hid (blk_put H1.out 2 _ rfl)
    have KX := Lib.hid (K1.out.setCell (p := ⟨g, 2, none⟩) (.inl rfl) (.int .i64 1))
    clear f2 q2
    generalize w1.setCell ⟨g, 2, none⟩ (.int .i64 1) = w2 at HX KX ⊢
    have q2 := (blk_cell HX.out 2).trans (show _ = some (.int .i64 1) from rfl)
    go_wp2_with fail
    go_loopg [7, 8] 0 (fun gk v7 v8 wr => v7 = .slice none 0 0 ∧ v8 = .int .i64 0 ∧ Hid (wr = w2))
    case atStart => exact ⟨rfl, rfl, Lib.hid rfl⟩
    case round =>
      obtain ⟨rfl, rfl, HW⟩ := hrel
      obtain rfl := HW.out
      by_cases hm9 : 0 < m
      · go_wp2_with fail
        go_ret
        exact ⟨rfl, HX.out, KX.out⟩
      · go_wp2_with fail
        go_ret
        exact ⟨rfl, HX.out, KX.out⟩
  · have hm0 := hsm rfl
    clear hsm
    go_upto_region 3 with (fail)
    have HX : Hid (Dd (w1.setCell ⟨g, 2, none⟩ (.int .i64 1)) g A n c p 1) := Lib.hid (blk_put H1.out 2 _ rfl)
    have KX := Lib.hid (K1.out.setCell (p := ⟨g, 2, none⟩) (.inl rfl) (.int .i64 1))
    clear f2 q2
    generalize w1.setCell ⟨g, 2, none⟩ (.int .i64 1) = w2 at HX KX ⊢
    have q2 := (blk_cell HX.out 2).trans (show _ = some (.int .i64 1) from rfl)
    go_wp2_with fail
    go_loopg [7, 8] 0 (fun gk v7 v8 wr => v7 = .slice none 0 0 ∧ v8 = .int .i64 0 ∧ Hid (wr = w2))
    case atStart => exact ⟨rfl, rfl, Lib.hid rfl⟩
    case round =>
      obtain ⟨rfl, rfl, HW⟩ := hrel
      obtain rfl := HW.out
      go_wp2_with fail
      go_ret
      exact ⟨rfl, HX.out, KX.out⟩
theorem rmany_end (g : Nat) (A : Option Addr) (n c : Nat) (p k m : Int) (w : World) (h : Dd w g A n c p 0) (hs : spanF k ≠ 0) (hm : ¬ m < 0) (hn : n ≤ 1000000) (hd : (n : Int).tdiv k < m) : Calls Try.prog 34 #[.pointer (some ⟨g, 0, none⟩), .int .i64 k, .int .i64 m] w fun e w' => e = .returned (.slice none 0 0) ∧ Dd w' g A n c p 4 ∧ Kp w w' (fun k => k = g) := by
  have q2 := (blk_cell h 2).trans (show _ = some (.int .i64 0) from rfl)
  have H := Lib.hid h
  have HS := Lib.hid (show decide (0 < spanF k) = true by have := span_bd k; simp; omega)
  have hk := span_sizes hs
  have hkz : ¬ k = 0 := by omega
  have hwr : IntKind.i64.wrap ((n : Int).tdiv k) = (n : Int).tdiv k := by
    have e1 : (n : Int).tdiv k = n / k := Int.tdiv_eq_ediv_of_nonneg (by omega)
    rw [IntKind.wrap_i64, e1]
    rcases hk with rfl | rfl | rfl <;> omega
  have hdd : decide ((n : Int).tdiv k < m) = true := by simpa using hd
  clear h hs hk
  go_enter Try.func34, Try.ntmps34
  go_wp2_with fail
  refine (rsize_any k true HS.out _).mono ?_
  rintro e w1 ⟨rfl, m1, rfl⟩
  have H1 : Hid (Dd (World.drewN w m1) g A n c p 0) := Lib.hid H.out
  have K1 := Lib.hid ((Kp.refl w (fun k => k = g)).drewN m1)
  clear H q2
  generalize World.drewN w m1 = w1 at H1 K1 ⊢
  have f2 := blk_frozen H1.out 2
  have q0 := (blk_cell H1.out 0).trans (show _ = some (.slice A n c) from rfl)
  have q2 := (blk_cell H1.out 2).trans (show _ = some (.int .i64 0) from rfl)
  generalize hdv : (n : Int).tdiv k = dv at hwr hdd hd
  go_upto_region 5 with (fail)
  clear q0
  have HX : Hid (Dd (w1.setCell ⟨g, 2, none⟩ (.int .i64 4)) g A n c p 4) := Lib.hid (blk_put H1.out 2 _ rfl)
  have KX := Lib.hid (K1.out.setCell (p := ⟨g, 2, none⟩) (.inl rfl) (.int .i64 4))
  clear f2 q2
  generalize w1.setCell ⟨g, 2, none⟩ (.int .i64 4) = w2 at HX KX ⊢
  have q2 := (blk_cell HX.out 2).trans (show _ = some (.int .i64 4) from rfl)
  go_wp2_with fail
  go_loopg [7, 8] 0 (fun gk v7 v8 wr => v7 = .slice none 0 0 ∧ v8 = .int .i64 0 ∧ Hid (wr = w2))
  case atStart => exact ⟨rfl, rfl, Lib.hid rfl⟩
  case round =>
    obtain ⟨rfl, rfl, HW⟩ := hrel
    obtain rfl := HW.out
    by_cases hm9 : 0 < m
    · go_wp2_with fail
      go_ret
      exact ⟨rfl, HX.out, KX.out⟩
    · go_wp2_with fail
      go_ret
      exact ⟨rfl, HX.out, KX.out⟩
theorem rmany_ok (g gw : Nat) (l : List Int) (p k m s : Nat) (w : World) (h : Rf w g gw l p 0) (hs : p + m * k = s) (hsn : s ≤ l.length) (hl : l.length ≤ 100000) (hgw : gw ≠ g) (hgwl : gw < w.heap.size) (hb : ∀ x ∈ l, 0 ≤ x ∧ x ≤ 255) (hsp : spanF k ≠ 0) :
    Calls Try.prog 34 #[.pointer (some ⟨g, 0, none⟩), .int .i64 k, .int .i64 m] w fun e w' => (∃ v, e = .returned v ∧ w'.ownsRow w.heap.size 3 1 v m (encs (Value.int .i64) (manyF l p k m))) ∧ Rf w' g gw l s 0 ∧ Kp w w' (fun k => k = g) := by
  have hk := span_sizes hsp
  have hk4 : 0 < k ∧ k ≤ 4 := by omega
  obtain ⟨hk0, hk5⟩ := hk4
  have hmk : m ≤ m * k := Nat.le_mul_of_pos_right m hk0
  have hml : m ≤ l.length := by omega
  have hpl : p ≤ l.length := by omega
  have hm9 : m ≤ 100000 := by omega
  have hkz : ¬ (k : Int) = 0 := by omega
  have hlen : (l.drop p).length = l.length - p := by simp
  obtain ⟨A, c, h1, hx⟩ := h
  have H : Hid (Rf w g gw l p 0) := Lib.hid ⟨A, c, h1, hx⟩
  rw [hlen] at h1
  have q2 := (blk_cell h1 2).trans (show _ = some (.int .i64 0) from rfl)
  have HD := Lib.hid h1
  have hwr : IntKind.i64.wrap (((l.length - p : Nat) : Int).tdiv k) = ((l.length - p : Nat) : Int).tdiv k := by
    have e1 : ((l.length - p : Nat) : Int).tdiv k = ((l.length - p : Nat) : Int) / k := Int.tdiv_eq_ediv_of_nonneg (by omega)
    rw [IntKind.wrap_i64, e1]
    rcases hk with h | h | h <;> rw [h] <;> omega
  have hdd : decide (((l.length - p : Nat) : Int).tdiv k < m) = false := by
    have e1 : ((l.length - p : Nat) : Int).tdiv k = ((l.length - p : Nat) : Int) / k := Int.tdiv_eq_ediv_of_nonneg (by omega)
    rw [e1]
    have hk' : k = 1 ∨ k = 2 ∨ k = 4 := by omega
    rcases hk' with rfl | rfl | rfl <;> simp <;> omega
  have HS := Lib.hid (show decide (0 < spanF k) = true by have := span_bd k; simp; omega)
  have HSP := Lib.hid hsp
  have HB := Lib.hid hb
  have HE := Lib.hid hs
  have hgl := Lib.hid (blk_lt h1)
  have HGW := Lib.hid hgwl
  have HL := Lib.hid hl
  clear h1 hx hsp hb hs hk hmk hlen hl
  go_enter Try.func34, Try.ntmps34
  go_wp2_with fail
  refine (rsize_any k true HS.out _).mono ?_
  rintro e w1 ⟨rfl, m1, rfl⟩
  have H1 := Lib.hid (H.out.bel (pw_below_drewN (Below.refl w.heap.size w) m1))
  have HD1 : Hid (Dd (World.drewN w m1) g A (l.length - p) c p 0) := Lib.hid HD.out
  have K1 := Lib.hid ((Kp.refl w (fun k => k = g)).drewN m1)
  clear H HD q2
  generalize World.drewN w m1 = w1 at H1 K1 HD1 ⊢
  have q0 := (blk_cell HD1.out 0).trans (show _ = some (.slice A (l.length - p) c) from rfl)
  have q2 := (blk_cell HD1.out 2).trans (show _ = some (.int .i64 0) from rfl)
  generalize hdv : ((l.length - p : Nat) : Int).tdiv k = dv at hwr hdd
  go_wp2_with fail
  clear hdv hwr hdd q0 q2 HD1
  go_loopg [8, 7] m (fun gk v8 v7 wr => ∃ (j : Nat), v8 = .int .i64 j ∧ j ≤ m ∧ Hid (gk = m - j) ∧ Hid (wr.ownsRow w.heap.size 3 1 v7 (manyF l p k j).length (encs (Value.int .i64) (manyF l p k j))) ∧ Hid (Rf wr g gw l (p + j * k) 0) ∧ Hid (Kp w wr (fun k => k = g)))
  case atStart => exact ⟨0, rfl, by omega, Lib.hid (by simp), Lib.hid (own_nil _ _ _ _), Lib.hid (by simpa using H1.out), K1⟩
  case round =>
    clear H1 K1
    obtain ⟨j, rfl, hj, HG, HO, HU, HKp⟩ := hrel
    obtain ⟨A8, c8, hv8, hc8⟩ := own_slice HO.out
    subst hv8
    by_cases hlt : j < m
    · have HJ : Hid (p + (j + 1) * k ≤ l.length) := Lib.hid (by
        have h1 : (j + 1) * k ≤ m * k := Nat.mul_le_mul_right k hlt
        have := HE.out; omega)
      have HJ2 : Hid (p + j * k + k = p + (j + 1) * k) := Lib.hid (by rw [Nat.add_mul]; omega)
      have e0 : nr l.length (p + j * k) 0 k = 0 := nr_ok (by omega) (by have := HJ.out; have := HJ2.out; omega)
      have HT := Lib.hid (rtake_size g gw l (p + j * k) k _ wr HU.out (by have := HJ.out; have := HJ2.out; omega) HL.out hgw HB.out HSP.out rfl)
      rw [np_ok e0, nl_ok e0, e0, Int.toNat_natCast, HJ2.out] at HT
      have HSU := Lib.hid (many_succ l p k j)
      have q2 : wr.cell? ⟨g, 2, none⟩ = some (.int .i64 0) := by obtain ⟨A, c, h1, _⟩ := HU.out; exact (blk_cell h1 2).trans rfl
      have HUT : Hid (∃ cs, wr.heap[g]? = some (.cells cs 50 (0, 0))) := Lib.hid (by obtain ⟨A, c, h1, _⟩ := HU.out; exact ⟨_, h1⟩)
      obtain ⟨L, hL⟩ : ∃ L, manyF l p k j = L := ⟨_, rfl⟩
      rw [hL] at HO hc8 HSU ⊢
      have HLn := Lib.hid (show L.length = j by rw [← hL, many_len])
      generalize joinF ((l.drop (p + j * k)).take k) = x at HT HSU
      clear hL e0
      go_wp2_with fail
      refine HT.out.mono ?_
      rintro e w2 ⟨rfl, h1, k1⟩
      have H1 := Lib.hid h1
      have HO2 := Lib.hid (by obtain ⟨cs, hcs⟩ := HUT.out; exact own_kp HO.out k1 hcs (by decide))
      have K1 := Lib.hid (HKp.out.then_ k1 (fun _ h => .inl h))
      have HS2 := Lib.hid (Nat.le_trans HKp.out.kept.1 k1.kept.1)
      clear h1 k1 HO HU HKp HT q2
      go_wp2_with (first | ((with_reducible refine gate_builtin (b := .append) (xs := #[.tmp 57, .tmp 61]) rfl ?_); at_builtin; refine print_append (w0 := w2) w.heap.size rfl (.tmp 57) (.tmp 61) 28 3 (.int .i64 0) 8 rfl Try.underlying28 infoN rfl (by decide) (.slice A8 L.length c8) (encs (Value.int .i64) L) (.int .i64 x) rfl rfl rfl ?aO ?aB ?aS ?aL ?_; (case aO => simpa [encs] using HO2.out); (case aB => exact Below.refl _ _); (case aS => exact HS2.out); (case aL => have := HLn.out; have := hml; have := HL.out; simp [encs]; omega); intro v5 w5 ho hb5 hg5 hat5; (have ho2 : w5.ownsRow w.heap.size 3 1 v5 (L ++ [x]).length (encs (Value.int .i64) (L ++ [x])) := by simpa [encs] using ho); have HO5 := Lib.hid ho2; have HB5 := Lib.hid hb5; have HG5 := Lib.hid hg5; clear ho ho2 hg5 hat5 hb5))
      go_roundg (m - (j + 1))
      case measure => have := HG.out; omega
      case rel => exact ⟨j + 1, by go_num, by omega, Lib.hid rfl, Lib.hid (by rw [HSU.out]; exact HO5.out), Lib.hid (Rf.bel2 H1.out HB5.out hgl.out HGW.out), Lib.hid (kp_bel2 K1.out HB5.out (by have := HG5.out.size; exact this))⟩
    · have hjm : j = m := by omega
      subst hjm
      have HE : Hid (p + j * k = s) := HE
      have hml2 := many_len l p k j
      go_wp2_with fail
      go_ret
      exact ⟨⟨_, rfl, by have h := HO.out; rw [hml2] at h ⊢; exact h⟩, by have h := HU.out; rw [HE.out] at h; exact h, HKp.out⟩
end Go.Proofs.Ytnbglbehdjhmcaa.Pk
