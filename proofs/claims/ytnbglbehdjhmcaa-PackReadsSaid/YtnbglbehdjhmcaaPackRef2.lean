/- Many of the document's cursor; Within and Peek of the program's. -/
import Derived.Test.YtnbglbehdjhmcaaPackRef
set_option maxRecDepth 100000
set_option linter.unusedVariables false
set_option linter.unusedSimpArgs false
namespace Go.Proofs.Ytnbglbehdjhmcaa.Pk
open Go.RowKit Go.Proofs.YtnbglbehdjhmcaaW.PrintWords
theorem rmany_step (g gw : Nat) (l : List Int) (p : Nat) (r k m : Int) (w : World) (h : Rf w g gw l p r) (hp : p ≤ l.length) (hl : l.length ≤ 100000) (hgw : gw ≠ g) (hgwl : gw < w.heap.size) (hb : ∀ x ∈ l, 0 ≤ x ∧ x ≤ 255) :
    Calls Try.prog 34 #[.pointer (some ⟨g, 0, none⟩), .int .i64 k, .int .i64 m] w fun e w' => (∃ v, e = .returned v ∧ w'.ownsRow w.heap.size 3 1 v (ml l p r k m).length (encs (Value.int .i64) (ml l p r k m))) ∧ Rf w' g gw l (mp l.length p r k m) (mr l.length p r k m) ∧ Kp w w' (fun k => k = g) := by
  by_cases hr : r = 0
  · subst hr
    by_cases hbad : spanF k = 0 ∨ m < 0
    · have e : mr l.length p 0 k m = 1 := by unfold mr; rw [if_neg (by simp), if_pos hbad]
      unfold mp ml
      rw [e, if_neg (by decide), if_neg (by decide)]
      obtain ⟨A, c, h1, h2, h3, h4, h5⟩ := h
      refine (rmany_bad g A _ c p k m w h1 hbad).mono ?_
      rintro e w' ⟨rfl, d1, k1⟩
      exact ⟨⟨_, rfl, own_nil _ _ _ _⟩, Rf.set d1 k1 h2 h3 h4 h5 hgw, k1⟩
    · have hs : spanF k ≠ 0 := fun h => hbad (.inl h)
      have hm : ¬ m < 0 := fun h => hbad (.inr h)
      have hk := span_sizes hs
      have hlen : (l.drop p).length = l.length - p := by simp
      have hcast : (((l.drop p).length : Nat) : Int) = (l.length : Int) - p := by omega
      by_cases hd : ((l.length : Int) - p).tdiv k < m
      · have e : mr l.length p 0 k m = 4 := by unfold mr; rw [if_neg (by simp), if_neg hbad, if_pos hd]
        unfold mp ml
        rw [e, if_neg (by decide), if_neg (by decide)]
        obtain ⟨A, c, h1, h2, h3, h4, h5⟩ := h
        refine (rmany_end g A _ c p k m w h1 hs hm (by omega) (by rw [hcast]; exact hd)).mono ?_
        rintro e w' ⟨rfl, d1, k1⟩
        exact ⟨⟨_, rfl, own_nil _ _ _ _⟩, Rf.set d1 k1 h2 h3 h4 h5 hgw, k1⟩
      · have e : mr l.length p 0 k m = 0 := by unfold mr; rw [if_neg (by simp), if_neg hbad, if_neg hd]
        have hle := mp_le (r := 0) (k := k) (m := m) hp
        unfold mp at hle
        unfold mp ml
        rw [e, if_pos rfl] at hle
        rw [e, if_pos rfl, if_pos rfl]
        obtain ⟨kn, rfl⟩ : ∃ kn : Nat, k = kn := ⟨k.toNat, by omega⟩
        obtain ⟨mn, rfl⟩ : ∃ mn : Nat, m = mn := ⟨m.toNat, by omega⟩
        rw [Int.toNat_natCast, Int.toNat_natCast] at hle ⊢
        rw [many_len]
        exact rmany_ok g gw l p kn mn (p + mn * kn) w h rfl hle hl hgw hgwl hb hs
  · have e : mr l.length p r k m = r := by unfold mr; rw [if_pos hr]
    unfold mp ml
    rw [e, if_neg hr, if_neg hr]
    obtain ⟨A, c, h1, h2, h3, h4, h5⟩ := h
    refine (rmany_was g A _ c p r k m w h1 hr).mono ?_
    rintro e w' ⟨rfl, rfl⟩
    exact ⟨⟨_, rfl, own_nil _ _ _ _⟩, ⟨A, c, h1, h2, h3, h4, h5⟩, Kp.refl _ _⟩
theorem need_step (g : Nat) (A : Option Addr) (c : Nat) (l : List Int) (p : Nat) (r k : Int) (b : Bool) (w : World) (h : Cs w g A c l p r) (hA0 : A = none → c = 0) (hp : p ≤ l.length) (hc : l.length ≤ c) (hc2 : c ≤ 9223372036854775807) (hl : l.length ≤ 1000000) (hb : decide (nr l.length p r k = 0) = b) :
    Calls Try.prog 64 #[.pointer (some ⟨g, 0, none⟩), .int .i64 k] w fun e w' => (∃ A' c', e = .returned (.tuple #[.slice A' (nl l p r k).length c', .bool b]) ∧ Kd.C (Kd.int .u8) w' A' (nl l p r k).length (nl l p r k)) ∧ Cs w' g A c l (np l.length p r k) (nr l.length p r k) ∧ Kp w w' (fun k => k = g) := by
  by_cases hr : r = 0
  · subst hr
    by_cases hk : k < 0
    · have e := nr_neg (len := l.length) (p := p) hk
      rw [e] at hb
      rw [np_bad (by rw [e]; decide), nl_bad (by rw [e]; decide), e, ← hb]
      refine (need_neg g A l.length c p k w h.cu hk).mono ?_
      rintro e w' ⟨rfl, h1, k1⟩
      exact ⟨⟨none, 0, rfl, Kd.C_nil _ _⟩, h.kp k1 h1, k1⟩
    · by_cases h2 : (l.length : Int) - p < k
      · have e := nr_end hk h2
        rw [e] at hb
        rw [np_bad (by rw [e]; decide), nl_bad (by rw [e]; decide), e, ← hb]
        refine (need_end g A l.length c p k w h.cu (by omega) (by omega) (by omega) hk h2).mono ?_
        rintro e w' ⟨rfl, h1, k1⟩
        exact ⟨⟨none, 0, rfl, Kd.C_nil _ _⟩, h.kp k1 h1, k1⟩
      · have e := nr_ok hk h2
        rw [e] at hb
        have hn := nl_len (k := k) hp e
        rw [hn, np_ok e, nl_ok e, e, ← hb]
        obtain ⟨kn, rfl⟩ : ∃ kn : Nat, k = kn := ⟨k.toNat, by omega⟩
        rw [Int.toNat_natCast]
        refine (need_row g A c l p kn (p + kn) rfl w h.cu hA0 h.row hc hc2 (by omega)).mono ?_
        rintro e w' ⟨⟨A', rfl, hr⟩, h1, k1⟩
        exact ⟨⟨A', _, rfl, hr⟩, h.kp k1 h1, k1⟩
  · have e := nr_was (len := l.length) (p := p) (k := k) hr
    rw [e] at hb
    have hb2 : false = b := by rw [← hb]; simp [hr]
    rw [np_bad (by rw [e]; exact hr), nl_bad (by rw [e]; exact hr), e, ← hb2]
    refine (need_was g A l.length c p r k w h.cu hr).mono ?_
    rintro e w' ⟨rfl, rfl⟩
    exact ⟨⟨none, 0, rfl, Kd.C_nil _ _⟩, h, Kp.refl _ _⟩
theorem own_slice3 {w : World} {base e n : Nat} {v : Value} {xs : List Value} (h : w.ownsRow base e 1 v n xs) : ∃ A c, v = .slice A n c ∧ n ≤ c ∧ c ≤ 9223372036854775807 ∧ (A = none → c = 0) := by
  rcases h.2 with ⟨rfl, hn⟩ | ⟨g, cap, cur, rfl, _, _, hnc, hm, _⟩
  · exact ⟨none, 0, by simp [hn], by omega, by omega, fun _ => rfl⟩
  · have : maxLen ≤ 9223372036854775807 := by decide
    exact ⟨_, _, rfl, hnc, by omega, fun h => by cases h⟩
theorem within_step (g : Nat) (A : Option Addr) (c : Nat) (l : List Int) (p : Nat) (r k : Int) (w : World) (h : Cs w g A c l p r) (hA0 : A = none → c = 0) (hp : p ≤ l.length) (hc : l.length ≤ c) (hc2 : c ≤ 9223372036854775807) (hl : l.length ≤ 1000000) :
    Calls Try.prog 16 #[.pointer (some ⟨g, 0, none⟩), .int .i64 k] w fun e w' => (∃ g' Av cv, e = .returned (.pointer (some ⟨g', 0, none⟩)) ∧ w.heap.size ≤ g' ∧ Cs w' g' Av cv (nl l p r k) 0 (nr l.length p r k) ∧ (nl l p r k).length ≤ cv ∧ cv ≤ 9223372036854775807 ∧ (Av = none → cv = 0) ∧ (∀ ad, Av = some ad → w.heap.size ≤ ad.block)) ∧ Cs w' g A c l (np l.length p r k) (nr l.length p r k) ∧ Kp w w' (fun k => k = g) := by
  obtain ⟨b, hb⟩ : ∃ b, decide (nr l.length p r k = 0) = b := ⟨_, rfl⟩
  have HN := Lib.hid (need_step g A c l p r k b w h hA0 hp hc hc2 hl hb)
  have hM : (nl l p r k).length ≤ 1000000 := by
    by_cases h0 : nr l.length p r k = 0
    · have := nr_zero h0; rw [nl_len hp h0]; omega
    · rw [nl_bad h0]; simp
  generalize nl l p r k = M at HN hM ⊢
  generalize np l.length p r k = s at HN ⊢
  generalize nr l.length p r k = e1 at HN hb ⊢
  clear h hA0 hp hc hc2 hl
  cases b
  · have he1 : e1 ≠ 0 := by simpa using hb
    have HE1 := Lib.hid he1
    clear hb he1
    go_enter Try.func16, Try.ntmps16
    go_wp2_with fail
    refine HN.out.mono ?_
    rintro e w1 ⟨⟨A', c', rfl, hrow⟩, h1, k1⟩
    have HJ := Lib.hid (clone_all A' c' M w1 hrow (by omega))
    have H1 := Lib.hid h1
    have K1 := Lib.hid k1
    clear h1 k1 hrow
    go_wp2_with fail
    refine HJ.out.mono ?_
    rintro e w2 ⟨v, rfl, ho, hb2⟩
    obtain ⟨Av, cv, rfl, hcv, hcv2, hav⟩ := own_slice3 ho
    have HO := Lib.hid ho
    have H2 := Lib.hid (H1.out.bel hb2)
    have K2 := Lib.hid (K1.out.below hb2)
    have HAV := Lib.hid hav
    have K1S := Lib.hid K1.out.kept.1
    clear ho hb2 hav H1 K1
    go_wp2_with fail
    refine (over_any Av M.length cv _).mono ?_
    rintro e w3 ⟨rfl, hcu, hb3⟩
    have H3 := Lib.hid (H2.out.bel hb3)
    have HB3 := Lib.hid hb3
    have HO3 := Lib.hid (pw_own_below HO.out hb3)
    have HC3 := Lib.hid hcu
    have HNE := Lib.hid (show ∀ ad, Av = some ad → ad.block ≠ w2.heap.size from fun ad he => by
      subst he
      have h1 := own_lt HO.out ad.block rfl
      omega)
    clear hcu hb3
    go_wp2_with fail
    refine (err_any g A l.length c s e1 _ H3.out.cu).mono ?_
    rintro e w4 ⟨rfl, hw⟩
    rw [hw]
    clear hw w4
    go_wp2_with fail
    refine (spoil_ok w2.heap.size Av M.length cv 0 e1 _ HC3.out).mono ?_
    rintro e w5 ⟨rfl, h5, k5⟩
    have HO5 := Lib.hid (own_kp HO3.out k5 HC3.out (by decide))
    have B5 := Lib.hid (HB3.out.trans (k5.to HB3.out.size (fun k hk => by rw [hk]; exact Nat.le_refl _)))
    clear k5
    go_wp2_with fail
    go_ret
    exact ⟨⟨_, Av, cv, rfl, K2.out.kept.1, ⟨h5, own_C HO5.out, fun _ => HNE.out⟩, hcv, hcv2, HAV.out, fun ad he => Nat.le_trans K1S.out (by subst he; exact Go.Proofs.YtnbglbehdjhmcaaW.PrintWords.own_base HO.out ad.block rfl)⟩, H2.out.bel B5.out, K2.out.below B5.out⟩
  · have he1 : e1 = 0 := by simpa using hb
    subst he1
    clear hb
    go_enter Try.func16, Try.ntmps16
    go_wp2_with fail
    refine HN.out.mono ?_
    rintro e w1 ⟨⟨A', c', rfl, hrow⟩, h1, k1⟩
    have HJ := Lib.hid (clone_all A' c' M w1 hrow (by omega))
    have H1 := Lib.hid h1
    have K1 := Lib.hid k1
    clear h1 k1 hrow
    go_wp2_with fail
    refine HJ.out.mono ?_
    rintro e w2 ⟨v, rfl, ho, hb2⟩
    obtain ⟨Av, cv, rfl, hcv, hcv2, hav⟩ := own_slice3 ho
    have HO := Lib.hid ho
    have H2 := Lib.hid (H1.out.bel hb2)
    have K2 := Lib.hid (K1.out.below hb2)
    have HAV := Lib.hid hav
    have K1S := Lib.hid K1.out.kept.1
    clear ho hb2 hav H1 K1
    go_wp2_with fail
    refine (over_any Av M.length cv _).mono ?_
    rintro e w3 ⟨rfl, hcu, hb3⟩
    have H3 := Lib.hid (H2.out.bel hb3)
    have HB3 := Lib.hid hb3
    have HO3 := Lib.hid (pw_own_below HO.out hb3)
    have HC3 := Lib.hid hcu
    have HNE := Lib.hid (show ∀ ad, Av = some ad → ad.block ≠ w2.heap.size from fun ad he => by
      subst he
      have h1 := own_lt HO.out ad.block rfl
      omega)
    clear hcu hb3
    go_wp2_with fail
    have h5 := HC3.out
    have HO5 := HO3
    have B5 := HB3
    go_ret
    exact ⟨⟨_, Av, cv, rfl, K2.out.kept.1, ⟨h5, own_C HO5.out, fun _ => HNE.out⟩, hcv, hcv2, HAV.out, fun ad he => Nat.le_trans K1S.out (by subst he; exact Go.Proofs.YtnbglbehdjhmcaaW.PrintWords.own_base HO.out ad.block rfl)⟩, H2.out.bel B5.out, K2.out.below B5.out⟩
end Go.Proofs.Ytnbglbehdjhmcaa.Pk
