/- Contracts of package pack: Bytes, Many, Peek, Within over any cursor. -/
import Derived.Test.YtndiddfleidnaaaPackCore
import Derived.Test.YtndiddfleidnaaaPHeaderBytesx1
import Derived.Laws.OwnMore
set_option linter.unusedVariables false
set_option linter.unusedSimpArgs false
namespace Go.Proofs.Ytndiddfleidnaaa.Pk
open Go.RowKit Go.Proofs.YtndiddfleidnaaaW.PrintWords Go.Proofs.Ytndiddfleidnaaa.PHeaderBytes
theorem add_block (a : Addr) (n : Nat) : (a.add n).block = a.block := by unfold Addr.add; split <;> rfl
theorem C_kp {w w' : World} {a : Addr} {n g : Nat} {k : IntKind} {l : List Int} (h : Kd.C (Kd.int k) w (some a) n l) (hk : Kp w w' (fun k => k = g)) (hne : a.block ≠ g) : Kd.C (Kd.int k) w' (some a) n l := by
  refine ⟨h.1, h.2.1, fun h0 => ?_⟩
  obtain ⟨ad, he, hc⟩ := h.2.2 h0
  refine ⟨ad, he, fun j x hj => ?_⟩
  obtain ⟨c, h1, h2, h3⟩ := hc j x hj
  refine ⟨c, h1, h2, fun i u hu => ?_⟩
  injection he with he
  exact cell_kept (h3 i u hu) hk.kept (by rw [add_block, ← he]; exact hne)
theorem C_none {d : Kd Int} {w w' : World} {n : Nat} {l : List Int} (h : Kd.C d w none n l) : Kd.C d w' none n l := ⟨h.1, h.2.1, fun h0 => by obtain ⟨ad, he, _⟩ := h.2.2 h0; cases he⟩
theorem kp_blk {w w' : World} {g g' : Nat} {o : Obj} (h : w.heap[g]? = some o) (hk : Kp w w' (fun k => k = g')) (hne : g ≠ g') : w'.heap[g]? = some o := (hk.kept.2 g (blk_lt h) hne).trans h
theorem own_kp {w w' : World} {base e s n g : Nat} {v : Value} {xs : List Value} {cs : Array Value} {t : TypeId} (h : w.ownsRow base e s v n xs) (hk : Kp w w' (fun k => k = g)) (hg : w.heap[g]? = some (.cells cs t (0, 0))) (hne : e ≠ t) : w'.ownsRow base e s v n xs :=
  own_move h (fun k hk2 => hk.kept.2 k (own_lt h k hk2) (fun e => own_ne h hg hne (by rw [hk2, e])))
theorem own_baseX {w : World} {b b' e s n : Nat} {v : Value} {xs : List Value} (h : w.ownsRow b e s v n xs) (hb : b' ≤ b) : w.ownsRow b' e s v n xs := by
  refine ⟨h.1, ?_⟩
  rcases h.2 with h2 | ⟨g, cap, cur, h1, h2, h3⟩
  · exact .inl h2
  · exact .inr ⟨g, cap, cur, h1, Nat.le_trans hb h2, h3⟩
theorem need_none (g : Nat) (w : World) (h : Cu w g none 0 0 0 0) : Calls Try.prog 124 #[.pointer (some ⟨g, 0, none⟩), .int .i64 0] w fun e w' => e = .returned (.tuple #[.slice none 0 0, .bool true]) ∧ Cu w' g none 0 0 0 0 ∧ Kp w w' (fun k => k = g) := by
  have H := Lib.hid h
  clear h
  go_enter Try.func124, Try.ntmps124
  go_wp2_with fail
  refine (err_any g none 0 0 0 0 _ H.out).mono ?_
  rintro e w1 ⟨rfl, rfl⟩
  go_wp2_with fail
  refine (left_any g none 0 0 0 0 _ H.out (by omega) (by omega) (by omega)).mono ?_
  rintro e w1 ⟨rfl, m, rfl⟩
  go_wp2_with fail
  refine (pass_none g 0 (World.drewN _ m) H.out).mono ?_
  rintro e w1 ⟨rfl, h1, k1⟩
  have H1 := Lib.hid h1
  have K1 := Lib.hid (((Kp.refl _ (fun k => k = g)).drewN m).then_ k1 (fun _ h => .inl h))
  clear h1 k1
  go_wp2_with fail
  go_ret2
  exact ⟨rfl, H1.out, K1.out⟩
theorem pass_row (g : Nat) (A : Option Addr) (c : Nat) (l : List Int) (p k s : Nat) (hs : p + k = s) (r : Int) (w : World) (h : Cu w g A l.length c p r) (hC : ∀ w', Kp w w' (fun k => k = g) → Kd.C (Kd.int .u8) w' A l.length l) (hc : l.length ≤ c) (hk : 0 < k) (hsn : s ≤ l.length) (hc2 : c ≤ 9223372036854775807) : Calls Try.prog 151 #[.pointer (some ⟨g, 0, none⟩), .int .i64 k] w fun e w' => (∃ A', e = .returned (.slice A' k k) ∧ Kd.C (Kd.int .u8) w' A' k ((l.drop p).take k)) ∧ Cu w' g A l.length c s r ∧ Kp w w' (fun k => k = g) := by
  cases A with
  | some a =>
    refine (pass_any g a l.length c p k s hs r w h hc hsn hc2).mono ?_
    rintro e w1 ⟨⟨A', rfl, hA⟩, h1, k1⟩
    exact ⟨⟨some A', rfl, sub_row rfl (hC _ k1) hs hsn hA⟩, h1, k1⟩
  | none =>
    obtain ⟨ad, he, _⟩ := (hC w (Kp.refl _ _)).2.2 (by omega)
    cases he
theorem need_row (g : Nat) (A : Option Addr) (c : Nat) (l : List Int) (p k s : Nat) (hs : p + k = s) (w : World) (h : Cu w g A l.length c p 0) (hA0 : A = none → c = 0) (hC : ∀ w', Kp w w' (fun k => k = g) → Kd.C (Kd.int .u8) w' A l.length l) (hc : l.length ≤ c) (hc2 : c ≤ 9223372036854775807) (hsn : s ≤ l.length) : Calls Try.prog 124 #[.pointer (some ⟨g, 0, none⟩), .int .i64 k] w fun e w' => (∃ A', e = .returned (.tuple #[.slice A' k k, .bool true]) ∧ Kd.C (Kd.int .u8) w' A' k ((l.drop p).take k)) ∧ Cu w' g A l.length c s 0 ∧ Kp w w' (fun k => k = g) := by
  cases A with
  | some a =>
    refine (need_ok g a l.length c p k s hs w h hc hc2 hsn).mono ?_
    rintro e w1 ⟨⟨A', rfl, hA⟩, h1, k1⟩
    exact ⟨⟨some A', rfl, sub_row rfl (hC _ k1) hs hsn hA⟩, h1, k1⟩
  | none =>
    have h0 : l = [] := by
      cases l with
      | nil => rfl
      | cons x l => obtain ⟨ad, he, _⟩ := (hC w (Kp.refl _ _)).2.2 (by simp); cases he
    subst h0
    obtain rfl := hA0 rfl
    obtain rfl : s = 0 := by simpa using hsn
    obtain rfl : p = 0 := by omega
    obtain rfl : k = 0 := by omega
    refine (need_none g w h).mono ?_
    rintro e w1 ⟨rfl, h1, k1⟩
    exact ⟨⟨none, rfl, Kd.C_nil _ _⟩, h1, k1⟩
theorem bytes_was (g : Nat) (A : Option Addr) (n c : Nat) (p r k : Int) (w : World) (h : Cu w g A n c p r) (hr : r ≠ 0) : Calls Try.prog 74 #[.pointer (some ⟨g, 0, none⟩), .int .i64 k] w fun e w' => e = .returned (.slice none 0 0) ∧ w' = w := by
  have H := Lib.hid h
  have HR := Lib.hid hr
  clear h hr
  go_enter Try.func74, Try.ntmps74
  go_wp2_with fail
  refine (need_was g A n c p r k _ H.out HR.out).mono ?_
  rintro e w1 ⟨rfl, rfl⟩
  go_wp2_with fail
  refine (clone_nil 0 0 _).mono ?_
  rintro e w2 ⟨rfl, rfl⟩
  go_wp2_with fail
  go_ret
  exact ⟨rfl, rfl⟩
theorem bytes_neg (g : Nat) (A : Option Addr) (n c : Nat) (p k : Int) (w : World) (h : Cu w g A n c p 0) (hk : k < 0) : Calls Try.prog 74 #[.pointer (some ⟨g, 0, none⟩), .int .i64 k] w fun e w' => e = .returned (.slice none 0 0) ∧ Cu w' g A n c p 1 ∧ Kp w w' (fun k => k = g) := by
  have H := Lib.hid h
  have HR := Lib.hid hk
  clear h hk
  go_enter Try.func74, Try.ntmps74
  go_wp2_with fail
  refine (need_neg g A n c p k _ H.out HR.out).mono ?_
  rintro e w1 ⟨rfl, h1, k1⟩
  have H1 := Lib.hid h1
  have K1 := Lib.hid k1
  clear h1 k1
  go_wp2_with fail
  refine (clone_nil 0 0 _).mono ?_
  rintro e w2 ⟨rfl, rfl⟩
  go_wp2_with fail
  go_ret
  exact ⟨rfl, H1.out, K1.out⟩
theorem bytes_end (g : Nat) (A : Option Addr) (n c : Nat) (p k : Int) (w : World) (h : Cu w g A n c p 0) (h0 : 0 ≤ p) (h1 : p ≤ n) (hn : n ≤ 9223372036854775807) (hk : ¬ (k < 0)) (hk2 : n - p < k) : Calls Try.prog 74 #[.pointer (some ⟨g, 0, none⟩), .int .i64 k] w fun e w' => e = .returned (.slice none 0 0) ∧ Cu w' g A n c p 4 ∧ Kp w w' (fun k => k = g) := by
  have H := Lib.hid h
  have HR := Lib.hid hk
  clear h hk
  go_enter Try.func74, Try.ntmps74
  go_wp2_with fail
  refine (need_end g A n c p k _ H.out h0 h1 hn (by have := HR.out; omega) hk2).mono ?_
  rintro e w1 ⟨rfl, h1, k1⟩
  have H1 := Lib.hid h1
  have K1 := Lib.hid k1
  clear h1 k1
  go_wp2_with fail
  refine (clone_nil 0 0 _).mono ?_
  rintro e w2 ⟨rfl, rfl⟩
  go_wp2_with fail
  go_ret
  exact ⟨rfl, H1.out, K1.out⟩
theorem bytes_ok (g : Nat) (A : Option Addr) (c : Nat) (l : List Int) (p k s : Nat) (hs : p + k = s) (w : World) (h : Cu w g A l.length c p 0) (hA0 : A = none → c = 0) (hC : ∀ w', Kp w w' (fun k => k = g) → Kd.C (Kd.int .u8) w' A l.length l) (hc : l.length ≤ c) (hc2 : c ≤ 9223372036854775807) (hsn : s ≤ l.length) (hl : l.length ≤ 140737488355328) :
    Calls Try.prog 74 #[.pointer (some ⟨g, 0, none⟩), .int .i64 k] w fun e w' => (∃ v, e = .returned v ∧ w'.ownsRow w.heap.size 5 1 v k (encs (Value.int .u8) ((l.drop p).take k))) ∧ Cu w' g A l.length c s 0 ∧ Kp w w' (fun k => k = g) := by
  have HN := Lib.hid (need_row g A c l p k s hs w h hA0 hC hc hc2 hsn)
  have hlen : ((l.drop p).take k).length = k := by simp; omega
  have HL := Lib.hid hlen
  have HT := Lib.hid (show k ≤ 140737488355328 by omega)
  clear h hA0 hC hs hlen hl
  go_enter Try.func74, Try.ntmps74
  go_wp2_with fail
  refine HN.out.mono ?_
  rintro e w1 ⟨⟨A', rfl, hr⟩, h1, k1⟩
  have HJ := Lib.hid (clone_all A' k ((l.drop p).take k) w1 (by rw [HL.out]; exact hr) (by rw [HL.out]; exact HT.out))
  rw [HL.out] at HJ
  have H1 := Lib.hid h1
  have K1 := Lib.hid k1
  clear h1 k1 hr
  go_wp2_with fail
  refine HJ.out.mono ?_
  rintro e w2 ⟨v, rfl, ho, hb⟩
  have HO := Lib.hid (own_baseX ho K1.out.kept.1)
  have H2 := Lib.hid (blk_bel H1.out hb)
  have K2 := Lib.hid (K1.out.below hb)
  clear ho hb
  go_wp2_with fail
  go_ret
  exact ⟨⟨_, rfl, HO.out⟩, H2.out, K2.out⟩
def manyF (l : List Int) (p k n : Nat) : List Int := (List.range n).map (fun i => joinF ((l.drop (p + i * k)).take k))
theorem many_succ (l : List Int) (p k n : Nat) : manyF l p k (n + 1) = manyF l p k n ++ [joinF ((l.drop (p + n * k)).take k)] := by unfold manyF; rw [List.range_succ, List.map_append]; rfl
theorem many_len (l : List Int) (p k n : Nat) : (manyF l p k n).length = n := by simp [manyF]
theorem many_bad_was (g : Nat) (A : Option Addr) (n c : Nat) (p r k m : Int) (hbad : spanF k = 0 ∨ m < 0) (w : World) (h : Cu w g A n c p r) (hr : r ≠ 0) : Calls Try.prog 155 #[.pointer (some ⟨g, 0, none⟩), .int .i64 k, .int .i64 m] w fun e w' => e = .returned (.slice none 0 0) ∧ w' = w := by
  have H := Lib.hid h
  have HR := Lib.hid hr
  obtain ⟨q, hq⟩ : ∃ q, spanF k = q := ⟨_, rfl⟩
  have HQ := Lib.hid hq
  rw [hq] at hbad
  have HB := Lib.hid hbad
  clear h hr hq hbad
  by_cases h0 : q = 0
  · subst h0
    go_enter Try.func155, Try.ntmps155
    go_wp2_with fail
    refine (span_lit k 0 HQ.out _).mono ?_
    rintro e w1 ⟨rfl, rfl⟩
    go_wp2_with fail
    refine (spoil_was g A n c p r 1 _ H.out HR.out).mono ?_
    rintro e w1 ⟨rfl, rfl⟩
    go_wp2_with fail
    go_ret
    exact ⟨rfl, rfl⟩
  · have h1 : (q == 0) = false := by simpa using h0
    have hm : decide (m < 0) = true := by have := HB.out; simp only [decide_eq_true_eq]; omega
    clear h0 HB
    go_enter Try.func155, Try.ntmps155
    go_wp2_with fail
    refine (span_lit k q HQ.out _).mono ?_
    rintro e w1 ⟨rfl, rfl⟩
    go_wp2_with fail
    refine (spoil_was g A n c p r 1 _ H.out HR.out).mono ?_
    rintro e w1 ⟨rfl, rfl⟩
    go_wp2_with fail
    go_ret
    exact ⟨rfl, rfl⟩
theorem many_bad (g : Nat) (A : Option Addr) (n c : Nat) (p k m : Int) (hbad : spanF k = 0 ∨ m < 0) (w : World) (h : Cu w g A n c p 0) : Calls Try.prog 155 #[.pointer (some ⟨g, 0, none⟩), .int .i64 k, .int .i64 m] w fun e w' => e = .returned (.slice none 0 0) ∧ Cu w' g A n c p 1 ∧ Kp w w' (fun k => k = g) := by
  have H := Lib.hid h
  obtain ⟨q, hq⟩ : ∃ q, spanF k = q := ⟨_, rfl⟩
  have HQ := Lib.hid hq
  rw [hq] at hbad
  have HB := Lib.hid hbad
  clear h hq hbad
  by_cases h0 : q = 0
  · subst h0
    go_enter Try.func155, Try.ntmps155
    go_wp2_with fail
    refine (span_lit k 0 HQ.out _).mono ?_
    rintro e w1 ⟨rfl, rfl⟩
    go_wp2_with fail
    refine (spoil_ok g A n c p 1 _ H.out).mono ?_
    rintro e w1 ⟨rfl, h1, k1⟩
    have H1 := Lib.hid h1
    have K1 := Lib.hid k1
    clear h1 k1
    go_wp2_with fail
    go_ret
    exact ⟨rfl, H1.out, K1.out⟩
  · have h1 : (q == 0) = false := by simpa using h0
    have hm : decide (m < 0) = true := by have := HB.out; simp only [decide_eq_true_eq]; omega
    clear h0 HB
    go_enter Try.func155, Try.ntmps155
    go_wp2_with fail
    refine (span_lit k q HQ.out _).mono ?_
    rintro e w1 ⟨rfl, rfl⟩
    go_wp2_with fail
    refine (spoil_ok g A n c p 1 _ H.out).mono ?_
    rintro e w1 ⟨rfl, h1, k1⟩
    have H1 := Lib.hid h1
    have K1 := Lib.hid k1
    clear h1 k1
    go_wp2_with fail
    go_ret
    exact ⟨rfl, H1.out, K1.out⟩
theorem many_was (g : Nat) (A : Option Addr) (n c : Nat) (p r k m q : Int) (hq : spanF k = q) (hq0 : q ≠ 0) (hm : ¬ m < 0) (w : World) (h : Cu w g A n c p r) (hr : r ≠ 0) : Calls Try.prog 155 #[.pointer (some ⟨g, 0, none⟩), .int .i64 k, .int .i64 m] w fun e w' => e = .returned (.slice none 0 0) ∧ w' = w := by
  have H := Lib.hid h
  have HQ := Lib.hid hq
  have h1 : (q == 0) = false := by simpa using hq0
  have h2 : decide (m < 0) = false := by simpa using hm
  have h3 : (r == 0) = false := by simpa using hr
  clear h hr hq hq0 hm
  go_enter Try.func155, Try.ntmps155
  go_wp2_with fail
  refine (span_lit k q HQ.out _).mono ?_
  rintro e w1 ⟨rfl, rfl⟩
  go_wp2_with fail
  refine (err_any g A n c p r _ H.out).mono ?_
  rintro e w1 ⟨rfl, rfl⟩
  go_wp2_with fail
  refine (err_any g A n c p r _ H.out).mono ?_
  rintro e w1 ⟨rfl, rfl⟩
  go_wp2_with fail
  go_ret
  exact ⟨rfl, rfl⟩
theorem many_end (g : Nat) (A : Option Addr) (n c : Nat) (p k m q : Int) (hk : k = 1 ∨ k = 2 ∨ k = 4) (hq : spanF k = q) (hq0 : q ≠ 0) (hm : ¬ m < 0) (w : World) (h : Cu w g A n c p 0) (h0 : 0 ≤ p) (h1 : p ≤ n) (hn : n ≤ 9223372036854775807) (hd : (n - p).tdiv k < m) : Calls Try.prog 155 #[.pointer (some ⟨g, 0, none⟩), .int .i64 k, .int .i64 m] w fun e w' => e = .returned (.slice none 0 0) ∧ Cu w' g A n c p 4 ∧ Kp w w' (fun k => k = g) := by
  have H := Lib.hid h
  have HQ := Lib.hid hq
  have hq1 : (q == 0) = false := by simpa using hq0
  have h2 : decide (m < 0) = false := by simpa using hm
  have hk0 : (k == 0) = false := by rcases hk with rfl | rfl | rfl <;> rfl
  have hk1 : ¬ k = 0 := by omega
  have hwr : IntKind.i64.wrap (((n : Int) - p).tdiv k) = ((n : Int) - p).tdiv k := by
    have e1 : ((n : Int) - p).tdiv k = (n - p) / k := Int.tdiv_eq_ediv_of_nonneg (by omega)
    rw [IntKind.wrap_i64, e1]
    rcases hk with rfl | rfl | rfl <;> omega
  have hdd : decide (((n : Int) - p).tdiv k < m) = true := by simpa using hd
  clear h hq hq0 hm hk hd
  go_enter Try.func155, Try.ntmps155
  go_wp2_with fail
  refine (span_lit k q HQ.out _).mono ?_
  rintro e w1 ⟨rfl, rfl⟩
  go_wp2_with fail
  refine (err_any g A n c p 0 _ H.out).mono ?_
  rintro e w1 ⟨rfl, rfl⟩
  go_wp2_with fail
  refine (left_any g A n c p 0 _ H.out h0 h1 hn).mono ?_
  rintro e w1 ⟨rfl, m1, rfl⟩
  generalize hdv : ((n : Int) - p).tdiv k = dv at hwr hdd
  go_wp2_with fail
  refine (spoil_ok g A n c p 4 (World.drewN _ m1) H.out).mono ?_
  rintro e w2 ⟨rfl, h1, k1⟩
  have H1 := Lib.hid h1
  have K1 := Lib.hid (((Kp.refl _ (fun k => k = g)).drewN m1).then_ k1 (fun _ h => .inl h))
  clear h1 k1
  go_wp2_with fail
  refine (err_any g A n c p 4 _ H1.out).mono ?_
  rintro e w3 ⟨rfl, rfl⟩
  go_wp2_with fail
  go_ret
  exact ⟨rfl, H1.out, K1.out⟩
theorem infoN : (Try.prog.info? 3).map (fun i => (i.zero, i.size, i.bytes)) = some (some (.int .i64 0), 1, 8) := by kernel_rfl
theorem kp_bel2 {w W W1 : World} {S : Nat → Prop} (h : Kp w W S) (hb : Below w.heap.size W W1) (hs : W.heap.size ≤ W1.heap.size) : Kp w W1 S :=
  ⟨⟨Nat.le_trans h.kept.1 hs, fun k hk hn => (hb.block k hk).trans (h.kept.2 k hk hn)⟩, hb.os.trans h.os, hb.tape.trans h.tape, hb.output.trans h.output⟩
set_option maxHeartbeats 4000000 in
theorem many_ok (g : Nat) (A : Option Addr) (c : Nat) (l : List Int) (p k m s : Nat) (q : Int) (hs : p + m * k = s) (hk : k = 1 ∨ k = 2 ∨ k = 4) (hq : spanF k = q) (hq0 : q ≠ 0) (w : World) (h : Cu w g A l.length c p 0) (hC : ∀ w', Kp w w' (fun k => k = g) → Kd.C (Kd.int .u8) w' A l.length l) (hb : ∀ x ∈ l, 0 ≤ x ∧ x ≤ 255) (hc : l.length ≤ c) (hc2 : c ≤ 9223372036854775807) (hsn : s ≤ l.length) (hl : l.length ≤ 1000000000) :
    Calls Try.prog 155 #[.pointer (some ⟨g, 0, none⟩), .int .i64 k, .int .i64 m] w fun e w' => (∃ v, e = .returned v ∧ w'.ownsRow w.heap.size 3 1 v m (encs (Value.int .i64) (manyF l p k m))) ∧ Cu w' g A l.length c s 0 ∧ Kp w w' (fun k => k = g) := by
  have H := Lib.hid h
  have HC := Lib.hid hC
  have HBd := Lib.hid hb
  have HQ := Lib.hid hq
  have HS := Lib.hid hs
  have hk4 : 0 < k ∧ k ≤ 4 := by omega
  obtain ⟨hk0, hk5⟩ := hk4
  have hmk : m ≤ m * k := Nat.le_mul_of_pos_right m hk0
  have hml : m ≤ l.length := by omega
  have hpl : p ≤ l.length := by omega
  have hq1 : (q == 0) = false := by simpa using hq0
  have hkk : ((k : Int) == 0) = false := by simp; omega
  have hkz : ¬ (k : Int) = 0 := by omega
  have hwr : IntKind.i64.wrap (((l.length : Int) - p).tdiv k) = ((l.length : Int) - p).tdiv k := by
    have e1 : ((l.length : Int) - p).tdiv k = (l.length - p) / k := Int.tdiv_eq_ediv_of_nonneg (by omega)
    rw [IntKind.wrap_i64, e1]
    rcases hk with rfl | rfl | rfl <;> omega
  have hdd : decide (((l.length : Int) - p).tdiv k < m) = false := by
    have e1 : ((l.length : Int) - p).tdiv k = (l.length - p) / k := Int.tdiv_eq_ediv_of_nonneg (by omega)
    rw [e1]
    rcases hk with rfl | rfl | rfl <;> simp <;> omega
  have HK := Lib.hid hk
  have hg := Lib.hid (blk_lt h)
  clear h hC hb hq hq0 hs hk hmk
  go_enter Try.func155, Try.ntmps155
  go_wp2_with fail
  refine (span_lit k q HQ.out _).mono ?_
  rintro e w1 ⟨rfl, hw⟩
  rw [hw]
  clear hw w1
  go_wp2_with fail
  refine (err_any g A l.length c p 0 _ H.out).mono ?_
  rintro e w1 ⟨rfl, hw⟩
  rw [hw]
  clear hw w1
  go_wp2_with fail
  refine (left_any g A l.length c p 0 _ H.out (by omega) (by omega) (by omega)).mono ?_
  rintro e w1 ⟨rfl, m1, rfl⟩
  have HY : Hid (Cu (World.drewN w m1) g A l.length c p 0) := Lib.hid H.out
  have KY := Lib.hid ((Kp.refl w (fun k => k = g)).drewN m1)
  have hgs : w.heap.size ≤ (World.drewN w m1).heap.size := Nat.le_refl _
  generalize World.drewN w m1 = Y at HY KY hgs ⊢
  generalize hdv : ((l.length : Int) - p).tdiv k = dv at hwr hdd
  go_wp2_with fail
  refine (err_any g A l.length c p 0 _ HY.out).mono ?_
  rintro e w1 ⟨rfl, hw⟩
  rw [hw]
  clear hw w1
  go_wp2_with fail
  clear hdv hwr hdd
  go_loopg [36, 7] m (fun gk v36 v7 wr => ∃ (j : Nat), v36 = .int .i64 j ∧ j ≤ m ∧ Hid (gk = m - j) ∧ Hid (wr.ownsRow w.heap.size 3 1 v7 (manyF l p k j).length (encs (Value.int .i64) (manyF l p k j))) ∧ Hid (Cu wr g A l.length c ((p + j * k : Nat) : Int) 0) ∧ Hid (Kp w wr (fun k => k = g)))
  case atStart => exact ⟨0, rfl, by omega, Lib.hid (by simp), Lib.hid (own_nil _ _ _ _), Lib.hid (by simpa using HY.out), KY⟩
  case round =>
    clear HY KY
    obtain ⟨j, rfl, hj, HG, HO, HU, HKp⟩ := hrel
    obtain ⟨A8, c8, hv8, hc8⟩ := own_slice HO.out
    subst hv8
    by_cases hlt : j < m
    · have HJ : Hid (p + (j + 1) * k ≤ l.length) := Lib.hid (by
        have h1 : (j + 1) * k ≤ m * k := Nat.mul_le_mul_right k hlt
        have := HS.out; omega)
      have HJ2 : Hid (p + j * k + k = p + (j + 1) * k) := Lib.hid (by rw [Nat.add_mul]; omega)
      have HR := Lib.hid (pass_row g A c l (p + j * k) k (p + (j + 1) * k) HJ2.out 0 wr HU.out (fun w' hk => HC.out w' (HKp.out.then_ hk (fun _ h => .inl h))) hc hk0 HJ.out hc2)
      have HSU := Lib.hid (many_succ l p k j)
      have hlen : ((l.drop (p + j * k)).take k).length = k := by have := HJ.out; have := HJ2.out; simp; omega
      have HBP := Lib.hid (fun x (hx : x ∈ ((l.drop (p + j * k)).take k)) => HBd.out x (List.mem_of_mem_drop (List.mem_of_mem_take hx)))
      generalize (l.drop (p + j * k)).take k = piece at HR HSU hlen HBP
      obtain ⟨L, hL⟩ : ∃ L, manyF l p k j = L := ⟨_, rfl⟩
      rw [hL] at HO hc8 HSU ⊢
      have HLn := Lib.hid (show L.length = j by rw [← hL, many_len])
      obtain ⟨x, hx⟩ : ∃ x, joinF piece = x := ⟨_, rfl⟩
      have HX := Lib.hid hx
      have HLe := Lib.hid hlen
      clear hx hL hlen
      go_wp2_with fail
      refine HR.out.mono ?_
      rintro e w2 ⟨⟨A', rfl, hrow⟩, h1, k1⟩
      have HJN := Lib.hid (joined_any A' k piece x HX.out w2 (by rw [HLe.out]; exact hrow) (by rw [HLe.out]; exact Nat.le_refl _) (by rw [HLe.out]; exact hk5) HBP.out)
      rw [HLe.out] at HJN
      have H1 := Lib.hid h1
      have HO2 := Lib.hid (own_kp HO.out k1 HU.out (by decide))
      have K1 := Lib.hid (HKp.out.then_ k1 (fun _ h => .inl h))
      have HS2 := Lib.hid (Nat.le_trans HKp.out.kept.1 k1.kept.1)
      clear h1 k1 hrow HO HU HKp HR
      go_wp2_with fail
      refine HJN.out.mono ?_
      rintro e w3 ⟨rfl, rfl⟩
      go_wp2_with (first | ((with_reducible refine gate_builtin (b := .append) (xs := #[.tmp 38, .tmp 45]) rfl ?_); at_builtin; refine print_append (w0 := w3) w.heap.size rfl (.tmp 38) (.tmp 45) 62 3 (.int .i64 0) 8 rfl Try.underlying62 infoN rfl (by decide) (.slice A8 L.length c8) (encs (Value.int .i64) L) (.int .i64 x) rfl rfl rfl ?aO ?aB ?aS ?aL ?_; (case aO => simpa [encs] using HO2.out); (case aB => exact Below.refl _ _); (case aS => exact HS2.out); (case aL => have := HLn.out; have := hml; simp [encs]; omega); intro v5 w5 ho hb5 hg5 hat5; (have ho2 : w5.ownsRow w.heap.size 3 1 v5 (L ++ [x]).length (encs (Value.int .i64) (L ++ [x])) := by simpa [encs] using ho); have HO5 := Lib.hid ho2; have HB5 := Lib.hid hb5; have HG5 := Lib.hid hg5.size; clear ho ho2 hg5 hat5 hb5))
      go_roundg (m - (j + 1))
      case measure => have := HG.out; omega
      case rel => exact ⟨j + 1, by go_num, by omega, Lib.hid rfl, Lib.hid (by rw [HSU.out, HX.out]; exact HO5.out), Lib.hid ((HB5.out.block g hg.out).trans H1.out), Lib.hid (kp_bel2 K1.out HB5.out (by have := HG5.out; exact this))⟩
    · have hjm : j = m := by omega
      subst hjm
      have HE : Hid (p + j * k = s) := HS
      have hml2 := many_len l p k j
      go_wp2_with fail
      go_ret
      exact ⟨⟨_, rfl, by have h := HO.out; rw [hml2] at h ⊢; exact h⟩, by have h := HU.out; rw [HE.out] at h; exact h, HKp.out⟩
theorem same_l0 (l0 l1 : List Int) (he : l0.length = l1.length) (hl : l0.length ≤ 100000000) : ∀ (d k i : Nat), l0.length ≤ i + d → d < k → i ≤ l0.length → rivuletref02_Same.l0 k l0 l1 i = some (decide (l0.drop i = l1.drop i)) := by
  intro d
  induction d with
  | zero =>
    intro k i h1 h2 h3
    obtain ⟨k, rfl⟩ : ∃ m, k = m + 1 := ⟨k - 1, by omega⟩
    simp only [rivuletref02_Same.l0]
    rw [if_neg (by omega), List.drop_of_length_le (by omega), List.drop_of_length_le (by omega)]; simp
  | succ d ih =>
    intro k i h1 h2 h3
    obtain ⟨k, rfl⟩ : ∃ m, k = m + 1 := ⟨k - 1, by omega⟩
    simp only [rivuletref02_Same.l0]
    by_cases hlt : i < l0.length
    · have e0 : l0.drop i = rd l0 i :: l0.drop (i + 1) := by rw [List.drop_eq_getElem_cons hlt]; simp [rd, hlt]
      have e1 : l1.drop i = rd l1 i :: l1.drop (i + 1) := by rw [List.drop_eq_getElem_cons (by omega)]; simp [rd, show i < l1.length by omega]
      have ew : wrap64 ((i : Int) + 1) = ((i + 1 : Nat) : Int) := by unfold wrap64; omega
      rw [if_pos (by omega), if_pos (by omega), if_pos (by omega), ew, ih k (i + 1) (by omega) (by omega) (by omega), e0, e1]
      by_cases hx : rd l0 i = rd l1 i
      · rw [if_pos hx, hx]; simp
      · rw [if_neg hx]; simp [hx]
    · rw [if_neg (by omega), List.drop_of_length_le (by omega), List.drop_of_length_le (by omega)]; simp
theorem same_f (l0 l1 : List Int) (hl : l0.length ≤ 1000000) : rivuletref02_Same.f 2000000 l0 l1 = some (decide (l0 = l1)) := by
  unfold rivuletref02_Same.f
  by_cases he : l0.length = l1.length
  · rw [if_pos (by omega)]
    have := same_l0 l0 l1 he (by omega) 1500000 2000000 0 (by omega) (by omega) (by omega)
    simpa using this
  · rw [if_neg (by omega)]
    have : l0 ≠ l1 := fun h => he (by rw [h])
    simp [this]
theorem same_any (A0 A1 : Option Addr) (c0 c1 : Nat) (l0 l1 : List Int) (r : Bool) (hr : decide (l0 = l1) = r) (w : World) (h0 : Kd.C (Kd.int .u8) w A0 l0.length l0) (h0c : l0.length ≤ c0) (h1 : Kd.C (Kd.int .u8) w A1 l1.length l1) (h1c : l1.length ≤ c1) (hl : l0.length ≤ 1000000) :
    Calls Try.prog 21 #[.slice A0 l0.length c0, .slice A1 l1.length c1] w fun e w' => e = .returned (.bool r) ∧ ∃ n, w' = w.drewN n :=
  (rivuletref02_Same.calls 2000000 A0 c0 l0 A1 c1 l1 r w h0 h0c h1 h1c (by rw [same_f l0 l1 hl, hr])).mono (by rintro e w' ⟨rfl, ⟨h⟩⟩; exact ⟨rfl, h⟩)
end Go.Proofs.Ytndiddfleidnaaa.Pk
