/- Peek of the program's cursor. -/
import Derived.Test.YtnbglbehdjhmcaaPackRef2
set_option maxRecDepth 100000
set_option linter.unusedVariables false
set_option linter.unusedSimpArgs false
namespace Go.Proofs.Ytnbglbehdjhmcaa.Pk
open Go.RowKit Go.Proofs.YtnbglbehdjhmcaaW.PrintWords
theorem peek_bad (g : Nat) (A : Option Addr) (c : Nat) (l : List Int) (p : Nat) (r k : Int) (w : World) (h : Cs w g A c l p r) (hb : r ≠ 0 ∨ k < 1) :
    Calls Try.prog 21 #[.pointer (some ⟨g, 0, none⟩), .int .i64 k] w fun e w' => e = .returned (.slice none 0 0) ∧ w' = w := by
  have H := Lib.hid h.cu
  by_cases hr : r = 0
  · subst hr
    have hk : k < 1 := by omega
    clear h hb
    go_enter Try.func21, Try.ntmps21
    go_wp2_with fail
    refine (err_any g A l.length c p 0 _ H.out).mono ?_
    rintro e w1 ⟨rfl, rfl⟩
    go_wp2_with fail
    go_ret
    exact ⟨rfl, rfl⟩
  · have hr' : (r == 0) = false := by simpa using hr
    clear h hb
    go_enter Try.func21, Try.ntmps21
    go_wp2_with fail
    refine (err_any g A l.length c p r _ H.out).mono ?_
    rintro e w1 ⟨rfl, rfl⟩
    go_wp2_with fail
    go_ret
    exact ⟨rfl, rfl⟩
theorem clone_peek (a : Addr) (A' : Option Addr) (cc : Nat) (l : List Int) (p x s : Nat) (hs : p + x = s) (hsn : s ≤ l.length) (hl : l.length ≤ 1000000) (W : World) (hA : ∃ A2 : Addr, A' = some A2 ∧ (x ≠ 0 → A2 = a.add p)) (hW : Kd.C (Kd.int .u8) W (some a) l.length l) :
    Calls Try.prog 65 #[.slice A' x cc] W fun e w' => ∃ v, e = .returned v ∧ w'.ownsRow W.heap.size 5 1 v x (encs (Value.int .u8) ((l.drop p).take x)) ∧ Below W.heap.size W w' := by
  obtain ⟨A2, rfl, hA2⟩ := hA
  have hlen : ((l.drop p).take x).length = x := by simp; omega
  have := clone_all (some A2) cc ((l.drop p).take x) W (by rw [hlen]; exact sub_row rfl hW hs hsn hA2) (by omega)
  rw [hlen] at this
  exact this
set_option maxHeartbeats 4000000 in
theorem peek_full (g : Nat) (a : Addr) (c : Nat) (l : List Int) (p x s : Nat) (k : Int) (w : World) (h : Cs w g (some a) c l p 0) (hk : 1 ≤ k) (hx : (if (l.length : Int) - p < k then (l.length : Int) - p else k) = (x : Int)) (hs : p + x = s) (hsn : s ≤ l.length) (hc : l.length ≤ c) (hc2 : c ≤ 9223372036854775807) (hl : l.length ≤ 1000000) (hcp : c = p) :
    Calls Try.prog 21 #[.pointer (some ⟨g, 0, none⟩), .int .i64 k] w fun e w' => (∃ v, e = .returned v ∧ w'.ownsRow w.heap.size 5 1 v ((l.drop p).take x).length (encs (Value.int .u8) ((l.drop p).take x))) ∧ Below w.heap.size w w' := by
  have H := Lib.hid h.cu
  have hpl : p ≤ l.length := by omega
  have hsp : s - p = x := by omega
  have q0 := (blk_cell h.cu 0).trans (show _ = some (.slice (some a) l.length c) from rfl)
  have q1 := (blk_cell h.cu 1).trans (show _ = some (.int .i64 (p : Int)) from rfl)
  have e1 : IntKind.i64.wrap ((p : Int) + (x : Int)) = (s : Int) := by rw [IntKind.wrap_i64]; omega
  have hlen : ((l.drop p).take x).length = x := by simp; omega
  have hps : p ≤ s := by omega
  have hsc : s ≤ c := by omega
  have HA := Lib.hid (show x ≠ 0 → a = a.add p from fun h => by omega)
  have hq1 : (s : Int) ≤ (p : Int) := by omega
  have hq2 : s ≤ p := by omega
  have HC := Lib.hid h.C
  have HLn := Lib.hid hlen
  have HS := Lib.hid hs
  clear h hlen hs
  go_enter Try.func21, Try.ntmps21
  go_wp2_with fail
  refine (err_any g (some a) l.length c p 0 _ H.out).mono ?_
  rintro e w1 ⟨rfl, rfl⟩
  go_wp2_with fail
  go_region_held3 (fun W => W.cell? ⟨g, 0, none⟩ = some (.slice (some a) l.length c) ∧ W.cell? ⟨g, 1, none⟩ = some (.int .i64 (p : Int))) (first | exact ⟨q0, q1⟩ | exact ⟨q0t, q1t⟩) (first | (go_at_call 68; refine (left_any g (some a) l.length c p 0 _ ?hcu (by omega) (by omega) (by omega)).mono ?_; exact H.out; rintro e wt ⟨rfl, m1, rfl⟩) | (go_at_call 65; refine (clone_peek a _ _ l p x s HS.out hsn hl _ ⟨_, rfl, HA.out⟩ ?hcv).mono ?_; exact HC.out; rintro e wt ⟨v, rfl, ho, hb⟩; have HO := Lib.hid ho; have hb2 : Below w1.heap.size w1 wt := bel (pw_below_drewN (Below.refl w1.heap.size w1) _) hb; have HB := Lib.hid hb2; have hcu2 := blk_bel H.out hb2; have q0t := (blk_cell hcu2 0).trans (show _ = some (.slice (some a) l.length c) from rfl); have q1t := (blk_cell hcu2 1).trans (show _ = some (.int .i64 (p : Int)) from rfl); clear ho hb hb2 hcu2))
  go_wp2_with fail
  go_ret
  exact ⟨⟨_, rfl, by rw [HLn.out]; exact HO.out⟩, HB.out⟩
set_option maxHeartbeats 4000000 in
theorem peek_some (g : Nat) (a : Addr) (c : Nat) (l : List Int) (p x s : Nat) (k : Int) (w : World) (h : Cs w g (some a) c l p 0) (hk : 1 ≤ k) (hx : (if (l.length : Int) - p < k then (l.length : Int) - p else k) = (x : Int)) (hs : p + x = s) (hsn : s ≤ l.length) (hc : l.length ≤ c) (hc2 : c ≤ 9223372036854775807) (hl : l.length ≤ 1000000) (hcp : ¬ c = p) :
    Calls Try.prog 21 #[.pointer (some ⟨g, 0, none⟩), .int .i64 k] w fun e w' => (∃ v, e = .returned v ∧ w'.ownsRow w.heap.size 5 1 v ((l.drop p).take x).length (encs (Value.int .u8) ((l.drop p).take x))) ∧ Below w.heap.size w w' := by
  have H := Lib.hid h.cu
  have hpl : p ≤ l.length := by omega
  have hsp : s - p = x := by omega
  have q0 := (blk_cell h.cu 0).trans (show _ = some (.slice (some a) l.length c) from rfl)
  have q1 := (blk_cell h.cu 1).trans (show _ = some (.int .i64 (p : Int)) from rfl)
  have e1 : IntKind.i64.wrap ((p : Int) + (x : Int)) = (s : Int) := by rw [IntKind.wrap_i64]; omega
  have hlen : ((l.drop p).take x).length = x := by simp; omega
  have hps : p ≤ s := by omega
  have hsc : s ≤ c := by omega
  have hcp2 : p < c := by omega
  have HC := Lib.hid h.C
  have HLn := Lib.hid hlen
  have HS := Lib.hid hs
  clear h hlen hs
  go_enter Try.func21, Try.ntmps21
  go_wp2_with fail
  refine (err_any g (some a) l.length c p 0 _ H.out).mono ?_
  rintro e w1 ⟨rfl, rfl⟩
  go_wp2_with fail
  go_region_held3 (fun W => W.cell? ⟨g, 0, none⟩ = some (.slice (some a) l.length c) ∧ W.cell? ⟨g, 1, none⟩ = some (.int .i64 (p : Int))) (first | exact ⟨q0, q1⟩ | exact ⟨q0t, q1t⟩) (first | (go_at_call 68; refine (left_any g (some a) l.length c p 0 _ ?hcu (by omega) (by omega) (by omega)).mono ?_; exact H.out; rintro e wt ⟨rfl, m1, rfl⟩) | (go_at_call 65; refine (clone_peek a _ _ l p x s HS.out hsn hl _ ⟨_, rfl, fun _ => rfl⟩ ?hcv).mono ?_; exact HC.out; rintro e wt ⟨v, rfl, ho, hb⟩; have HO := Lib.hid ho; have hb2 : Below w1.heap.size w1 wt := bel (pw_below_drewN (Below.refl w1.heap.size w1) _) hb; have HB := Lib.hid hb2; have hcu2 := blk_bel H.out hb2; have q0t := (blk_cell hcu2 0).trans (show _ = some (.slice (some a) l.length c) from rfl); have q1t := (blk_cell hcu2 1).trans (show _ = some (.int .i64 (p : Int)) from rfl); clear ho hb hb2 hcu2))
  go_wp2_with fail
  go_ret
  exact ⟨⟨_, rfl, by rw [HLn.out]; exact HO.out⟩, HB.out⟩
theorem left_zero (g : Nat) (w : World) (h : Cu w g none 0 0 0 0) : Calls Try.prog 68 #[.pointer (some ⟨g, 0, none⟩)] w fun e w' => e = .returned (.int .i64 0) ∧ ∃ m, w' = w.drewN m :=
  (left_any g none 0 0 0 0 w h (by omega) (by omega) (by omega)).mono (by rintro e w' ⟨rfl, h⟩; exact ⟨by simp, h⟩)
theorem peek_none (g : Nat) (k : Int) (w : World) (h : Cu w g none 0 0 0 0) (hk : 1 ≤ k) :
    Calls Try.prog 21 #[.pointer (some ⟨g, 0, none⟩), .int .i64 k] w fun e w' => e = .returned (.slice none 0 0) ∧ Below w.heap.size w w' := by
  have H := Lib.hid h
  have q0 := (blk_cell h 0).trans (show _ = some (.slice none 0 0) from rfl)
  have q1 := (blk_cell h 1).trans (show _ = some (.int .i64 0) from rfl)
  have hx : ¬ k < 0 := by omega
  have hx2 : 0 < k := by omega
  have e1 : IntKind.i64.wrap ((0 : Int) + 0) = 0 := by decide
  have e2 : IntKind.i64.wrap (0 : Int) = 0 := by decide
  clear h
  go_enter Try.func21, Try.ntmps21
  go_wp2_with fail
  refine (err_any g none 0 0 0 0 _ H.out).mono ?_
  rintro e w1 ⟨rfl, rfl⟩
  go_wp2_with fail
  go_region_held3 (fun W => W.cell? ⟨g, 0, none⟩ = some (.slice none 0 0) ∧ W.cell? ⟨g, 1, none⟩ = some (.int .i64 0)) (first | exact ⟨q0, q1⟩) (first | (go_at_call 68; refine (left_zero g _ ?hcu).mono ?_; exact H.out; rintro e wt ⟨rfl, m1, rfl⟩) | (go_at_call 65; refine (clone_nil 0 0 _).mono ?_; rintro e wt ⟨rfl, rfl⟩))
  go_wp2_with fail
  go_ret
  exact ⟨rfl, pw_below_drewN (Below.refl _ _) _⟩
def pk (l : List Int) (p : Nat) (r k : Int) : List Int := if r ≠ 0 ∨ k < 1 then [] else (l.drop p).take k.toNat
theorem peek_step (g : Nat) (A : Option Addr) (c : Nat) (l : List Int) (p : Nat) (r k : Int) (w : World) (h : Cs w g A c l p r) (hA0 : A = none → c = 0) (hp : p ≤ l.length) (hc : l.length ≤ c) (hc2 : c ≤ 9223372036854775807) (hl : l.length ≤ 1000000) :
    Calls Try.prog 21 #[.pointer (some ⟨g, 0, none⟩), .int .i64 k] w fun e w' => (∃ v, e = .returned v ∧ w'.ownsRow w.heap.size 5 1 v (pk l p r k).length (encs (Value.int .u8) (pk l p r k))) ∧ Below w.heap.size w w' := by
  by_cases hb : r ≠ 0 ∨ k < 1
  · have e : pk l p r k = [] := by unfold pk; rw [if_pos hb]
    rw [e]
    refine (peek_bad g A c l p r k w h hb).mono ?_
    rintro e w' ⟨rfl, rfl⟩
    exact ⟨⟨_, rfl, own_nil _ _ _ _⟩, Below.refl _ _⟩
  · have e : pk l p r k = (l.drop p).take k.toNat := by unfold pk; rw [if_neg hb]
    have hr : r = 0 := Classical.byContradiction (fun h => hb (.inl h))
    subst hr
    have hk : 1 ≤ k := by omega
    rw [e]
    cases A with
    | none =>
      have h0 : l = [] := by
        cases l with
        | nil => rfl
        | cons x l => obtain ⟨ad, he, _⟩ := h.C.2.2 (by simp); cases he
      subst h0
      obtain rfl := hA0 rfl
      obtain rfl : p = 0 := by simpa using hp
      refine (peek_none g k w h.cu hk).mono ?_
      rintro e w' ⟨rfl, hB⟩
      exact ⟨⟨_, rfl, by simpa [encs] using own_nil w' w.heap.size 5 1⟩, hB⟩
    | some a =>
      obtain ⟨x, hx, hx2⟩ : ∃ x : Nat, (if (l.length : Int) - p < k then (l.length : Int) - p else k) = (x : Int) ∧ (l.drop p).take k.toNat = (l.drop p).take x := by
        by_cases hlt : (l.length : Int) - p < k
        · exact ⟨l.length - p, by rw [if_pos hlt]; omega, by rw [List.take_of_length_le (by simp; omega), List.take_of_length_le (by simp)]⟩
        · exact ⟨k.toNat, by rw [if_neg hlt]; omega, rfl⟩
      have hsn : p + x ≤ l.length := by split at hx <;> omega
      rw [hx2]
      by_cases hcp : c = p
      · exact peek_full g a c l p x (p + x) k w h hk hx rfl hsn hc hc2 hl hcp
      · exact peek_some g a c l p x (p + x) k w h hk hx rfl hsn hc hc2 hl hcp
end Go.Proofs.Ytnbglbehdjhmcaa.Pk
