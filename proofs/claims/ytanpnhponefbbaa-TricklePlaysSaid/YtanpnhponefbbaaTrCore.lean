/- Contracts of package trickle over a Trickle in memory. -/
import Derived.Test.YtanpnhponefbbaaPTricklePlacesx1
import Derived.Deep.LoopGhost
import Derived.Deep.QuietTactic
import Derived.Deep.RegionHeld3
import Derived.BigQuiet
import Derived.Lib.Hide
import Derived.StillTailTactics
import Derived.Deep.RegionLaw
set_option linter.unusedVariables false
set_option linter.unusedSimpArgs false
namespace Go.Proofs.Ytanpnhponefbbaa.Tr
open Go.RowKit Go.Proofs.YtanpnhponefbbaaW.PrintWords Go.Proofs.Ytanpnhponefbbaa.PTricklePlaces
/-- What a call keeps: all blocks but those of S and the new ones; the outside world too. -/
structure Kp (w w' : World) (S : Nat → Prop) : Prop where
  kept : Kept w w' S
  os : w'.os = w.os
  tape : w'.tape = w.tape
  output : w'.output = w.output
theorem Kp.refl (w : World) (S : Nat → Prop) : Kp w w S := ⟨Kept.refl w S, rfl, rfl, rfl⟩
theorem Kp.then_ {w W W2 : World} {S S2 : Nat → Prop} (h : Kp w W S) (k : Kp W W2 S2) (hs : ∀ k, S2 k → S k ∨ w.heap.size ≤ k) : Kp w W2 S := ⟨h.kept.then_ k.kept hs, k.os.trans h.os, k.tape.trans h.tape, k.output.trans h.output⟩
theorem Kp.setCell {w W : World} {S : Nat → Prop} (h : Kp w W S) {p : Addr} (hp : S p.block ∨ w.heap.size ≤ p.block) (u : Value) : Kp w (W.setCell p u) S := ⟨h.kept.setCell hp u, h.os, h.tape, h.output⟩
theorem Kp.drew {w W : World} {S : Nat → Prop} (h : Kp w W S) : Kp w W.drew S := ⟨h.kept.drew, h.os, h.tape, h.output⟩
theorem Kp.drewN {w W : World} {S : Nat → Prop} (h : Kp w W S) (m : Nat) : Kp w (W.drewN m) S := ⟨h.kept.drewN m, h.os, h.tape, h.output⟩
theorem Kp.of_below {w W : World} (h : Below w.heap.size w W) (S : Nat → Prop) : Kp w W S := ⟨Kept.of_below h S, h.os, h.tape, h.output⟩
theorem Kp.below {w W W2 : World} {S : Nat → Prop} (h : Kp w W S) (hb : Below W.heap.size W W2) : Kp w W2 S := h.then_ (Kp.of_below hb (fun _ => False)) (fun _ hk => hk.elim)
theorem Kp.to {w W : World} {S : Nat → Prop} {B : Nat} (h : Kp w W S) (hB : B ≤ w.heap.size) (hs : ∀ k, S k → B ≤ k) : Below B w W := ⟨h.os, h.tape, h.output, h.kept.1, fun k hk => h.kept.2 k (by omega) (fun hS => by have := hs k hS; omega)⟩
theorem Kp.mono {w W : World} {S S' : Nat → Prop} (h : Kp w W S) (hs : ∀ k, S k → S' k) : Kp w W S' := ⟨h.kept.mono hs, h.os, h.tape, h.output⟩
theorem blk_new (w : World) (cs : Array Value) (T : TypeId) : (w.alloc (.cells cs T)).heap[w.heap.size]? = some (.cells cs T (0, 0)) := by
  show (w.heap.push _)[w.heap.size]? = _
  simp
theorem below_new (w : World) (o : Obj) : Below w.heap.size w (w.alloc o) := (Below.refl _ _).alloc (Nat.le_refl _) _
theorem size_new (w : World) (o : Obj) : w.heap.size ≤ (w.alloc o).heap.size := by show w.heap.size ≤ (w.heap.push _).size; simp
theorem bel {W w w' : World} (h : Below W.heap.size W w) (h' : Below w.heap.size w w') : Below W.heap.size W w' := h.trans (h'.mono h.size)
theorem blk_bel {w w' : World} {g : Nat} {o : Obj} (h : w.heap[g]? = some o) (hb : Below w.heap.size w w') : w'.heap[g]? = some o := (hb.block g (blk_lt h)).trans h
/-- A Trickle in block g: length, place, gone, count; least, most, redundancy. -/
def Tr (w : World) (g : Nat) (L P G C lo hi k : Int) : Prop := w.heap[g]? = some (.cells #[.int .i64 L, .int .i64 P, .int .i64 G, .int .i64 C, .int .i64 lo, .int .i64 hi, .int .i64 k] 105 (0, 0))
def placeF (L d : Int) : Int := if L < 1 then 0 else (L / 2 + L % 2) + IntKind.u64.wrap d % (L - (L / 2 + L % 2) + 1)
theorem place_bd (L d : Int) (h : 1 ≤ L) : L / 2 + L % 2 ≤ placeF L d ∧ placeF L d ≤ L ∧ 1 ≤ placeF L d := by
  unfold placeF
  rw [if_neg (by omega)]
  have h1 : 0 < L - (L / 2 + L % 2) + 1 := by omega
  have h2 := Int.emod_nonneg (IntKind.u64.wrap d) (show L - (L / 2 + L % 2) + 1 ≠ 0 by omega)
  have h3 := Int.emod_lt_of_pos (IntKind.u64.wrap d) h1
  omega
theorem place_f (L d : Int) (hL : L ≤ 9223372036854775807) : trickle_Place.f L d = some (placeF L d) := by
  unfold trickle_Place.f placeF
  by_cases h : L < 1
  · rw [if_pos h, if_pos h]
  · rw [if_neg h, if_neg h]
    have e1 : Int.tdiv L 2 = L / 2 := Int.tdiv_eq_ediv_of_nonneg (by omega)
    have e2 : Int.tmod L 2 = L % 2 := Int.tmod_eq_emod_of_nonneg (by omega)
    have e3 : wrap64 (L / 2) = L / 2 := by unfold wrap64; omega
    have e4 : wrap64 (L / 2 + L % 2) = L / 2 + L % 2 := by unfold wrap64; omega
    have e5 : wrap64 (L - (L / 2 + L % 2)) = L - (L / 2 + L % 2) := by unfold wrap64; omega
    have e6 : wrap64 (L - (L / 2 + L % 2) + 1) = L - (L / 2 + L % 2) + 1 := by unfold wrap64; omega
    have e7 : IntKind.u64.wrap (L - (L / 2 + L % 2) + 1) = L - (L / 2 + L % 2) + 1 := by rw [IntKind.wrap_u64]; omega
    have hd : 0 ≤ IntKind.u64.wrap d := by rw [IntKind.wrap_u64]; omega
    have e8 := Int.tmod_eq_emod_of_nonneg (b := L - (L / 2 + L % 2) + 1) hd
    rw [e1, e2, e3, e4, e5, e6, e7, e8, if_neg (by omega)]
    have h1 : 0 < L - (L / 2 + L % 2) + 1 := by omega
    have h2 := Int.emod_nonneg (IntKind.u64.wrap d) (show L - (L / 2 + L % 2) + 1 ≠ 0 by omega)
    have h3 := Int.emod_lt_of_pos (IntKind.u64.wrap d) h1
    congr 1
    generalize IntKind.u64.wrap d % (L - (L / 2 + L % 2) + 1) = q at h2 h3
    have e9 : wrap64 q = q := by unfold wrap64; omega
    rw [e9]
    unfold wrap64; omega
theorem place_any (L d : Int) (hL : L ≤ 9223372036854775807) (w : World) : Calls Try.prog 30 #[.int .i64 L, .int .i64 d] w fun e w' => e = .returned (.int .i64 (placeF L d)) ∧ Below w.heap.size w w' := by
  refine (trickle_Place.calls L d _ w (place_f L d hL)).mono ?_
  rintro e w' ⟨rfl, hd⟩
  exact ⟨rfl, hd.below⟩
theorem begun_any (L d : Int) (hL : L ≤ 9223372036854775807) (w : World) : Calls Try.prog 79 #[.int .i64 L, .int .i64 d] w fun e w' => e = .returned (.agg #[.int .i64 L, .int .i64 (placeF L d), .int .i64 0, .int .i64 0]) ∧ Below w.heap.size w w' :=
  trickle_begun.calls L d L (placeF L d) 0 0 w (by unfold trickle_begun.f; rw [place_f L d hL]; rfl)
def spF (P G C k : Int) : Bool := G == P && (k == 0 || decide (C < k))
theorem speaks_any (g : Nat) (L P G C lo hi k : Int) (r : Bool) (hr : spF P G C k = r) (w : World) (h : Tr w g L P G C lo hi k) :
    Calls Try.prog 81 #[.pointer (some ⟨g, 0, none⟩)] w fun e w' => e = .returned (.bool r) ∧ Below w.heap.size w w' := by
  subst hr
  have h1 := (blk_cell h 1).trans (show _ = some (.int .i64 P) from rfl)
  have h2 := (blk_cell h 2).trans (show _ = some (.int .i64 G) from rfl)
  have h3 := (blk_cell h 3).trans (show _ = some (.int .i64 C) from rfl)
  have h6 := (blk_cell h 6).trans (show _ = some (.int .i64 k) from rfl)
  clear h
  unfold spF
  by_cases hg : G = P
  · have hg' : (G == P) = true := by simpa using hg
    rw [hg']
    clear hg
    by_cases hk : k = 0
    · have hk' : (k == 0) = true := by simpa using hk
      rw [hk']
      clear hk
      go_enter Try.func81, Try.ntmps81
      go_wp2_with fail
      go_quiet (fail)
      go_wp2_with fail
      go_ret
      exact ⟨by first | rfl | simp, (Drawn0.mk ⟨_, rfl⟩ : Drawn0 w _).below⟩
    · have hk' : (k == 0) = false := by simpa using hk
      rw [hk']
      clear hk
      by_cases hc : C < k
      · have hc' : decide (C < k) = true := by simpa using hc
        rw [hc']
        go_enter Try.func81, Try.ntmps81
        go_wp2_with fail
        go_quiet (fail)
        go_wp2_with fail
        go_ret
        exact ⟨by first | rfl | simp, (Drawn0.mk ⟨_, rfl⟩ : Drawn0 w _).below⟩
      · have hc' : decide (C < k) = false := by simpa using hc
        rw [hc']
        go_enter Try.func81, Try.ntmps81
        go_wp2_with fail
        go_quiet (fail)
        go_wp2_with fail
        go_ret
        exact ⟨by first | rfl | simp, (Drawn0.mk ⟨_, rfl⟩ : Drawn0 w _).below⟩
  · have hg' : (G == P) = false := by simpa using hg
    rw [hg']
    clear hg
    go_enter Try.func81, Try.ntmps81
    go_wp2_with fail
    go_quiet (fail)
    go_wp2_with fail
    go_ret
    exact ⟨by first | rfl | simp, (Drawn0.mk ⟨_, rfl⟩ : Drawn0 w _).below⟩
theorem length_any (g : Nat) (L P G C lo hi k : Int) (w : World) (h : Tr w g L P G C lo hi k) :
    Calls Try.prog 34 #[.pointer (some ⟨g, 0, none⟩)] w fun e w' => e = .returned (.int .i64 L) ∧ w' = w := by
  have h1 := (blk_cell h 0).trans (show _ = some (.int .i64 L) from rfl)
  clear h
  go_enter Try.func34, Try.ntmps34
  go_wp2
  go_ret
  exact ⟨rfl, rfl⟩
theorem length_nil (w : World) : Calls Try.prog 34 #[.pointer none] w fun e w' => e = .returned (.int .i64 0) ∧ w' = w := by
  go_enter Try.func34, Try.ntmps34
  go_wp2
  go_ret
  exact ⟨rfl, rfl⟩
theorem most_any (g : Nat) (L P G C lo hi k : Int) (w : World) (h : Tr w g L P G C lo hi k) :
    Calls Try.prog 37 #[.pointer (some ⟨g, 0, none⟩)] w fun e w' => e = .returned (.int .i64 hi) ∧ w' = w := by
  have h1 := (blk_cell h 5).trans (show _ = some (.int .i64 hi) from rfl)
  clear h
  go_enter Try.func37, Try.ntmps37
  go_wp2
  go_ret
  exact ⟨rfl, rfl⟩
theorem most_nil (w : World) : Calls Try.prog 37 #[.pointer none] w fun e w' => e = .returned (.int .i64 0) ∧ w' = w := by
  go_enter Try.func37, Try.ntmps37
  go_wp2
  go_ret
  exact ⟨rfl, rfl⟩
theorem placeM_any (g : Nat) (L P G C lo hi k : Int) (w : World) (h : Tr w g L P G C lo hi k) :
    Calls Try.prog 44 #[.pointer (some ⟨g, 0, none⟩)] w fun e w' => e = .returned (.int .i64 P) ∧ w' = w := by
  have h1 := (blk_cell h 1).trans (show _ = some (.int .i64 P) from rfl)
  clear h
  go_enter Try.func44, Try.ntmps44
  go_wp2
  go_ret
  exact ⟨rfl, rfl⟩
theorem placeM_nil (w : World) : Calls Try.prog 44 #[.pointer none] w fun e w' => e = .returned (.int .i64 0) ∧ w' = w := by
  go_enter Try.func44, Try.ntmps44
  go_wp2
  go_ret
  exact ⟨rfl, rfl⟩
theorem gone_any (g : Nat) (L P G C lo hi k : Int) (w : World) (h : Tr w g L P G C lo hi k) :
    Calls Try.prog 45 #[.pointer (some ⟨g, 0, none⟩)] w fun e w' => e = .returned (.int .i64 G) ∧ w' = w := by
  have h1 := (blk_cell h 2).trans (show _ = some (.int .i64 G) from rfl)
  clear h
  go_enter Try.func45, Try.ntmps45
  go_wp2
  go_ret
  exact ⟨rfl, rfl⟩
theorem gone_nil (w : World) : Calls Try.prog 45 #[.pointer none] w fun e w' => e = .returned (.int .i64 0) ∧ w' = w := by
  go_enter Try.func45, Try.ntmps45
  go_wp2
  go_ret
  exact ⟨rfl, rfl⟩
theorem count_any (g : Nat) (L P G C lo hi k : Int) (w : World) (h : Tr w g L P G C lo hi k) :
    Calls Try.prog 46 #[.pointer (some ⟨g, 0, none⟩)] w fun e w' => e = .returned (.int .i64 C) ∧ w' = w := by
  have h1 := (blk_cell h 3).trans (show _ = some (.int .i64 C) from rfl)
  clear h
  go_enter Try.func46, Try.ntmps46
  go_wp2
  go_ret
  exact ⟨rfl, rfl⟩
theorem count_nil (w : World) : Calls Try.prog 46 #[.pointer none] w fun e w' => e = .returned (.int .i64 0) ∧ w' = w := by
  go_enter Try.func46, Try.ntmps46
  go_wp2
  go_ret
  exact ⟨rfl, rfl⟩
theorem due_any (g : Nat) (L P G C lo hi k : Int) (w : World) (h : Tr w g L P G C lo hi k) (hb : -9223372036854775808 ≤ L - G ∧ L - G ≤ 9223372036854775807) :
    Calls Try.prog 47 #[.pointer (some ⟨g, 0, none⟩)] w fun e w' => e = .returned (.int .i64 (L - G)) ∧ w' = w := by
  obtain ⟨hb1, hb2⟩ := hb
  have H := Lib.hid h
  clear h
  go_enter Try.func47, Try.ntmps47
  go_wp2_with fail
  refine (length_any g L P G C lo hi k _ H.out).mono ?_
  rintro e w1 ⟨rfl, rfl⟩
  go_wp2_with fail
  refine (gone_any g L P G C lo hi k _ H.out).mono ?_
  rintro e w2 ⟨rfl, rfl⟩
  go_wp2_with fail
  go_ret
  exact ⟨rfl, rfl⟩
theorem due_nil (w : World) : Calls Try.prog 47 #[.pointer none] w fun e w' => e = .returned (.int .i64 0) ∧ w' = w := by
  go_enter Try.func47, Try.ntmps47
  go_wp2_with fail
  refine (length_nil _).mono ?_
  rintro e w1 ⟨rfl, rfl⟩
  go_wp2_with fail
  refine (gone_nil _).mono ?_
  rintro e w2 ⟨rfl, rfl⟩
  go_wp2_with fail
  go_ret
  exact ⟨rfl, rfl⟩
theorem hear_any (g : Nat) (L P G C lo hi k : Int) (w : World) (h : Tr w g L P G C lo hi k) (hC : 0 ≤ C ∧ C ≤ 255) :
    Calls Try.prog 35 #[.pointer (some ⟨g, 0, none⟩)] w fun e w' => e = .returned (.tuple #[]) ∧ Tr w' g L P G (if C < 255 then C + 1 else 255) lo hi k ∧ Kp w w' (fun k => k = g) := by
  obtain ⟨hc1, hc2⟩ := hC
  have h1 := (blk_cell h 3).trans (show _ = some (.int .i64 C) from rfl)
  have f1 := blk_frozen h 3
  have H := Lib.hid h
  clear h
  by_cases hc : C < 255
  · rw [if_pos hc]
    have hx : C + 1 ≤ 255 := by omega
    go_enter Try.func35, Try.ntmps35
    go_wp2
    go_end0
    exact ⟨rfl, blk_put H.out 3 _ rfl, (Kp.refl w (fun k => k = g)).setCell (p := ⟨g, 3, none⟩) (.inl rfl) _⟩
  · rw [if_neg hc]
    have hx : 255 < C + 1 := by omega
    go_enter Try.func35, Try.ntmps35
    go_wp2
    go_end0
    exact ⟨rfl, blk_put H.out 3 _ rfl, (Kp.refl w (fun k => k = g)).setCell (p := ⟨g, 3, none⟩) (.inl rfl) _⟩
theorem hear_nil (w : World) : Calls Try.prog 35 #[.pointer none] w fun e w' => e = .returned (.tuple #[]) ∧ w' = w := by
  go_enter Try.func35, Try.ntmps35
  go_wp2
  go_end0
  exact ⟨rfl, rfl⟩
theorem tick_nil (d : Int) (w : World) : Calls Try.prog 36 #[.pointer none, .int .i64 d] w fun e w' => e = .returned (.bool false) ∧ w' = w := by
  go_enter Try.func36, Try.ntmps36
  go_wp2
  go_ret
  exact ⟨rfl, rfl⟩
theorem reset_nil (d : Int) (w : World) : Calls Try.prog 39 #[.pointer none, .int .i64 d] w fun e w' => e = .returned (.bool false) ∧ Below w.heap.size w w' := by
  go_enter Try.func39, Try.ntmps39
  go_wp2_with fail
  go_quiet (fail)
  go_wp2_with fail
  go_ret
  exact ⟨rfl, (Drawn0.mk ⟨_, rfl⟩ : Drawn0 w _).below⟩
theorem copy_nil (w : World) : Calls Try.prog 38 #[.pointer none] w fun e w' => e = .returned (.pointer none) ∧ w' = w := by
  go_enter Try.func38, Try.ntmps38
  go_wp2
  go_ret
  exact ⟨rfl, rfl⟩
theorem copy_any (g : Nat) (L P G C lo hi k : Int) (w : World) (h : Tr w g L P G C lo hi k) :
    Calls Try.prog 38 #[.pointer (some ⟨g, 0, none⟩)] w fun e w' => e = .returned (.pointer (some ⟨w.heap.size, 0, none⟩)) ∧ Tr w' w.heap.size L P G C lo hi k ∧ Below w.heap.size w w' := by
  have hz := blk_lt h
  have h0 := (blk_cell h 0).trans (show _ = some (.int .i64 L) from rfl)
  have h1 := (blk_cell h 1).trans (show _ = some (.int .i64 P) from rfl)
  have h2 := (blk_cell h 2).trans (show _ = some (.int .i64 G) from rfl)
  have h3 := (blk_cell h 3).trans (show _ = some (.int .i64 C) from rfl)
  have h4 := (blk_cell h 4).trans (show _ = some (.int .i64 lo) from rfl)
  have h5 := (blk_cell h 5).trans (show _ = some (.int .i64 hi) from rfl)
  have h6 := (blk_cell h 6).trans (show _ = some (.int .i64 k) from rfl)
  clear h
  go_enter Try.func38, Try.ntmps38
  go_wp2
  go_ret
  exact ⟨rfl, blk_new _ _ _, below_new _ _⟩
theorem shl_bd (lo m : Int) (hl1 : 1 ≤ lo) (hl2 : lo ≤ 1048576) (hm1 : 0 ≤ m) (hm2 : m ≤ 16) : lo ≤ lo * 2 ^ m.toNat ∧ lo * 2 ^ m.toNat ≤ 68719476736 := by
  obtain ⟨n, rfl⟩ : ∃ n : Nat, m = n := ⟨m.toNat, by omega⟩
  have hn : n ≤ 16 := by omega
  simp only [Int.toNat_natCast]
  have h12 : ∀ n : Nat, n < 17 → (1 : Int) ≤ 2 ^ n ∧ (2 : Int) ^ n ≤ 65536 := by decide
  obtain ⟨h1, h2⟩ := h12 n (by omega)
  constructor
  · have := Int.mul_le_mul_of_nonneg_left h1 (show 0 ≤ lo by omega)
    omega
  · have h4 := Int.mul_le_mul hl2 h2 (by omega) (by omega : (0 : Int) ≤ 1048576)
    omega
theorem new_ok (lo m k d : Int) (hl1 : 1 ≤ lo) (hl2 : lo ≤ 1048576) (hm1 : 0 ≤ m) (hm2 : m ≤ 16) (hk1 : 0 ≤ k) (hk2 : k ≤ 255) (w : World) :
    Calls Try.prog 33 #[.int .i64 lo, .int .i64 m, .int .i64 k, .int .i64 d] w fun e w' => ∃ g, e = .returned (.tuple #[.pointer (some ⟨g, 0, none⟩), .int .i64 0]) ∧ w.heap.size ≤ g ∧ Tr w' g lo (placeF lo d) 0 0 lo (lo * 2 ^ m.toNat) k ∧ Below w.heap.size w w' := by
  have c1 : decide (lo < 1) = false := by simpa using hl1
  have c2 : decide (1048576 < lo) = false := by simpa using hl2
  have c3 : decide (m < 0) = false := by simpa using hm1
  have c4 : decide (16 < m) = false := by simpa using hm2
  have c5 : decide (k < 0) = false := by simpa using hk1
  have c6 : decide (255 < k) = false := by simpa using hk2
  have hs := shl_bd lo m hl1 hl2 hm1 hm2
  have e1 : IntKind.i64.wrap (lo * 2 ^ m.toNat) = lo * 2 ^ m.toNat := by
    generalize lo * 2 ^ m.toNat = q at hs ⊢; rw [IntKind.wrap_i64]; omega
  have E1 := Lib.hid e1
  clear e1 hs
  go_enter Try.func33, Try.ntmps33
  go_wp2_with fail
  go_region_held3 (fun _ => True) (trivial) (first | (go_at_call 79; refine (begun_any lo d (by omega) _).mono ?_; rintro e w' ⟨rfl, hw'⟩))
  go_wp2_with fail
  go_ret2
  have hB : Below w.heap.size w w' := ⟨hw'.os, hw'.tape, hw'.output, hw'.size, hw'.block⟩
  refine ⟨w'.heap.size, rfl, hB.size, ?_, hB.alloc hB.size _⟩
  rw [E1.out]
  exact blk_new _ _ _
theorem new_bad (lo m k d : Int) (hb : ¬ (1 ≤ lo ∧ lo ≤ 1048576 ∧ 0 ≤ m ∧ m ≤ 16 ∧ 0 ≤ k ∧ k ≤ 255)) (w : World) :
    Calls Try.prog 33 #[.int .i64 lo, .int .i64 m, .int .i64 k, .int .i64 d] w fun e w' => e = .returned (.tuple #[.pointer none, .int .i64 1]) ∧ w' = w := by
  by_cases h1 : lo < 1
  · have c1 : decide (lo < 1) = true := by simpa using h1
    clear hb h1
    go_enter Try.func33, Try.ntmps33
    go_wp2
    go_ret2
    exact ⟨rfl, rfl⟩
  have c1 : decide (lo < 1) = false := by simpa using h1
  by_cases h2 : 1048576 < lo
  · have c2 : decide (1048576 < lo) = true := by simpa using h2
    clear hb h1 h2
    go_enter Try.func33, Try.ntmps33
    go_wp2
    go_ret2
    exact ⟨rfl, rfl⟩
  have c2 : decide (1048576 < lo) = false := by simpa using h2
  by_cases h3 : m < 0
  · have c3 : decide (m < 0) = true := by simpa using h3
    clear hb h1 h2 h3
    go_enter Try.func33, Try.ntmps33
    go_wp2
    go_ret2
    exact ⟨rfl, rfl⟩
  have c3 : decide (m < 0) = false := by simpa using h3
  by_cases h4 : 16 < m
  · have c4 : decide (16 < m) = true := by simpa using h4
    clear hb h1 h2 h3 h4
    go_enter Try.func33, Try.ntmps33
    go_wp2
    go_ret2
    exact ⟨rfl, rfl⟩
  have c4 : decide (16 < m) = false := by simpa using h4
  by_cases h5 : k < 0
  · have c5 : decide (k < 0) = true := by simpa using h5
    clear hb h1 h2 h3 h4 h5
    go_enter Try.func33, Try.ntmps33
    go_wp2
    go_ret2
    exact ⟨rfl, rfl⟩
  have c5 : decide (k < 0) = false := by simpa using h5
  have c6 : decide (255 < k) = true := by simp only [decide_eq_true_eq]; omega
  clear hb h1 h2 h3 h4 h5
  go_enter Try.func33, Try.ntmps33
  go_wp2
  go_ret2
  exact ⟨rfl, rfl⟩
theorem reset_any (g : Nat) (L P G C lo hi k d : Int) (w : World) (h : Tr w g L P G C lo hi k) (hlo : lo ≤ 9223372036854775807) :
    Calls Try.prog 39 #[.pointer (some ⟨g, 0, none⟩), .int .i64 d] w fun e w' => e = .returned (.bool (!decide (L ≤ lo))) ∧ (if L ≤ lo then Tr w' g L P G C lo hi k else Tr w' g lo (placeF lo d) 0 0 lo hi k) ∧ Kp w w' (fun k => k = g) := by
  have h0 := (blk_cell h 0).trans (show _ = some (.int .i64 L) from rfl)
  have h4 := (blk_cell h 4).trans (show _ = some (.int .i64 lo) from rfl)
  have H := Lib.hid h
  clear h
  by_cases hc : L ≤ lo
  · have hc' : decide (L ≤ lo) = true := by simpa using hc
    simp only [hc', if_pos hc]
    clear hc
    go_enter Try.func39, Try.ntmps39
    go_wp2_with fail
    go_quiet (fail)
    go_wp2_with fail
    go_ret
    exact ⟨rfl, H.out, (Kp.refl w _).drewN _⟩
  · have hc' : decide (L ≤ lo) = false := by simpa using hc
    simp only [hc', if_neg hc]
    clear hc
    go_enter Try.func39, Try.ntmps39
    go_wp2_with fail
    go_quiet (fail)
    go_wp2_with fail
    refine (begun_any lo d hlo _).mono ?_
    rintro e w1 ⟨rfl, hw1⟩
    have hB : Below w.heap.size w w1 := ⟨hw1.os, hw1.tape, hw1.output, hw1.size, hw1.block⟩
    have H1 := Lib.hid (blk_bel H.out hB)
    have f0 := blk_frozen H1.out 0
    have f1 := blk_frozen H1.out 1
    have f2 := blk_frozen H1.out 2
    have f3 := blk_frozen H1.out 3
    have c0 := (blk_cell H1.out 0).trans (show _ = some (.int .i64 L) from rfl)
    have c1 := (blk_cell H1.out 1).trans (show _ = some (.int .i64 P) from rfl)
    have c2 := (blk_cell H1.out 2).trans (show _ = some (.int .i64 G) from rfl)
    have c3 := (blk_cell H1.out 3).trans (show _ = some (.int .i64 C) from rfl)
    go_wp2_with fail
    go_ret
    exact ⟨rfl, blk_put (blk_put (blk_put (blk_put H1.out 0 _ rfl) 1 _ rfl) 2 _ rfl) 3 _ rfl, ((((Kp.of_below hB (fun k => k = g)).setCell (p := ⟨g, 0, none⟩) (.inl rfl) _).setCell (p := ⟨g, 1, none⟩) (.inl rfl) _).setCell (p := ⟨g, 2, none⟩) (.inl rfl) _).setCell (p := ⟨g, 3, none⟩) (.inl rfl) _⟩
theorem tick_mid (g : Nat) (L P G C lo hi k d : Int) (r : Bool) (w : World) (h : Tr w g L P G C lo hi k) (hG1 : -9223372036854775808 ≤ G + 1) (hG2 : G + 1 ≤ 9223372036854775807) (hL1 : -4611686018427387904 ≤ L) (hL3 : L ≤ 4611686018427387903) (hhi : hi ≤ 9223372036854775807)
    (hr : spF P (G + 1) C k = r) (hc : ¬ (G + 1 = L)) :
    Calls Try.prog 36 #[.pointer (some ⟨g, 0, none⟩), .int .i64 d] w fun e w' => e = .returned (.bool r) ∧ Tr w' g L P (G + 1) C lo hi k ∧ Kp w w' (fun k => k = g) := by
  have h2 := (blk_cell h 2).trans (show _ = some (.int .i64 G) from rfl)
  have f2 := blk_frozen h 2
  have H := Lib.hid h
  have HR := Lib.hid hr
  clear h hr
  have hc' : (G + 1 == L) = false := by simpa using hc
  clear hc
  go_enter Try.func36, Try.ntmps36
  go_wp2_with fail
  have H1 : Hid (Tr (w.setCell ⟨g, 2, none⟩ (.int .i64 (G + 1))) g L P (G + 1) C lo hi k) := Lib.hid (blk_put H.out 2 _ rfl)
  have K1 := Lib.hid ((Kp.refl w (fun k => k = g)).setCell (p := ⟨g, 2, none⟩) (.inl rfl) (.int .i64 (G + 1)))
  refine (speaks_any g L P (G + 1) C lo hi k r HR.out _ H1.out).mono ?_
  rintro e w1 ⟨rfl, hw1⟩
  have H2 := Lib.hid (blk_bel H1.out hw1)
  have K2 := Lib.hid (K1.out.below hw1)
  clear hw1
  clear h2 f2
  have h2 := (blk_cell H2.out 2).trans (show _ = some (.int .i64 (G + 1)) from rfl)
  have h0 := (blk_cell H2.out 0).trans (show _ = some (.int .i64 L) from rfl)
  have h5 := (blk_cell H2.out 5).trans (show _ = some (.int .i64 hi) from rfl)
  go_wp2_with fail
  go_quiet (fail)
  go_wp2_with fail
  go_ret
  exact ⟨rfl, H2.out, K2.out.drewN _⟩
theorem tick_end2 (g : Nat) (M L P G C lo hi k d : Int) (r : Bool) (w : World) (h : Tr w g L P G C lo hi k) (hG1 : -9223372036854775808 ≤ G + 1) (hG2 : G + 1 ≤ 9223372036854775807) (hL1 : -4611686018427387904 ≤ L) (hL3 : L ≤ 4611686018427387903) (hhi : hi ≤ 9223372036854775807)
    (hr : spF P (G + 1) C k = r) (hc : G + 1 = L) (hM : 2 * L = M) (hm : ¬ (hi < M)) :
    Calls Try.prog 36 #[.pointer (some ⟨g, 0, none⟩), .int .i64 d] w fun e w' => e = .returned (.bool r) ∧ Tr w' g M (placeF M d) 0 0 lo hi k ∧ Kp w w' (fun k => k = g) := by
  have h2 := (blk_cell h 2).trans (show _ = some (.int .i64 G) from rfl)
  have f2 := blk_frozen h 2
  have H := Lib.hid h
  have HR := Lib.hid hr
  clear h hr
  have hc' : (G + 1 == L) = true := by simpa using hc
  clear hc
  have e2 : IntKind.i64.wrap (2 * L) = M := by rw [IntKind.wrap_i64]; omega
  have hMb : M ≤ 9223372036854775807 := by omega
  have hif : (if hi < M then hi else M) = M := if_neg hm
  clear hm
  clear hM
  go_enter Try.func36, Try.ntmps36
  go_wp2_with fail
  have H1 : Hid (Tr (w.setCell ⟨g, 2, none⟩ (.int .i64 (G + 1))) g L P (G + 1) C lo hi k) := Lib.hid (blk_put H.out 2 _ rfl)
  have K1 := Lib.hid ((Kp.refl w (fun k => k = g)).setCell (p := ⟨g, 2, none⟩) (.inl rfl) (.int .i64 (G + 1)))
  refine (speaks_any g L P (G + 1) C lo hi k r HR.out _ H1.out).mono ?_
  rintro e w1 ⟨rfl, hw1⟩
  have H2 := Lib.hid (blk_bel H1.out hw1)
  have K2 := Lib.hid (K1.out.below hw1)
  clear hw1
  clear h2 f2
  have h2 := (blk_cell H2.out 2).trans (show _ = some (.int .i64 (G + 1)) from rfl)
  have h0 := (blk_cell H2.out 0).trans (show _ = some (.int .i64 L) from rfl)
  have h5 := (blk_cell H2.out 5).trans (show _ = some (.int .i64 hi) from rfl)
  go_wp2_with fail
  go_quiet (fail)
  go_wp2_with fail
  have hq : (w1.drewN nq).drew.heap = w1.heap := rfl
  go_region_law (first | (go_simp; go_at_call 79; refine (begun_any M d hMb _).mono ?_; rintro e w2 ⟨rfl, hw2⟩; have H3 := Lib.hid (blk_bel (w := (w1.drewN nq).drew) H2.out hw2); have c0 := (blk_cell H3.out 0).trans (show _ = some (.int .i64 L) from rfl); have c1 := (blk_cell H3.out 1).trans (show _ = some (.int .i64 P) from rfl); have c2 := (blk_cell H3.out 2).trans (show _ = some (.int .i64 (G + 1)) from rfl); have c3 := (blk_cell H3.out 3).trans (show _ = some (.int .i64 C) from rfl); have f0 := blk_frozen H3.out 0; have f1 := blk_frozen H3.out 1; have f2 := blk_frozen H3.out 2; have f3 := blk_frozen H3.out 3))
  all_goals
    go_wp2_with fail
    go_ret
    exact ⟨rfl, blk_put (blk_put (blk_put (blk_put H3.out 0 _ rfl) 1 _ rfl) 2 _ rfl) 3 _ rfl, (((((K2.out.drewN nq).drew.below hw2).setCell (p := ⟨g, 0, none⟩) (.inl rfl) _).setCell (p := ⟨g, 1, none⟩) (.inl rfl) _).setCell (p := ⟨g, 2, none⟩) (.inl rfl) _).setCell (p := ⟨g, 3, none⟩) (.inl rfl) _⟩
theorem tick_endm (g : Nat) (L P G C lo hi k d : Int) (r : Bool) (w : World) (h : Tr w g L P G C lo hi k) (hG1 : -9223372036854775808 ≤ G + 1) (hG2 : G + 1 ≤ 9223372036854775807) (hL1 : -4611686018427387904 ≤ L) (hL3 : L ≤ 4611686018427387903) (hhi : hi ≤ 9223372036854775807)
    (hr : spF P (G + 1) C k = r) (hc : G + 1 = L) (hm : hi < 2 * L) :
    Calls Try.prog 36 #[.pointer (some ⟨g, 0, none⟩), .int .i64 d] w fun e w' => e = .returned (.bool r) ∧ Tr w' g hi (placeF hi d) 0 0 lo hi k ∧ Kp w w' (fun k => k = g) := by
  have h2 := (blk_cell h 2).trans (show _ = some (.int .i64 G) from rfl)
  have f2 := blk_frozen h 2
  have H := Lib.hid h
  have HR := Lib.hid hr
  clear h hr
  have hc' : (G + 1 == L) = true := by simpa using hc
  clear hc
  have e2 : IntKind.i64.wrap (2 * L) = 2 * L := by rw [IntKind.wrap_i64]; omega
  go_enter Try.func36, Try.ntmps36
  go_wp2_with fail
  have H1 : Hid (Tr (w.setCell ⟨g, 2, none⟩ (.int .i64 (G + 1))) g L P (G + 1) C lo hi k) := Lib.hid (blk_put H.out 2 _ rfl)
  have K1 := Lib.hid ((Kp.refl w (fun k => k = g)).setCell (p := ⟨g, 2, none⟩) (.inl rfl) (.int .i64 (G + 1)))
  refine (speaks_any g L P (G + 1) C lo hi k r HR.out _ H1.out).mono ?_
  rintro e w1 ⟨rfl, hw1⟩
  have H2 := Lib.hid (blk_bel H1.out hw1)
  have K2 := Lib.hid (K1.out.below hw1)
  clear hw1
  clear h2 f2
  have h2 := (blk_cell H2.out 2).trans (show _ = some (.int .i64 (G + 1)) from rfl)
  have h0 := (blk_cell H2.out 0).trans (show _ = some (.int .i64 L) from rfl)
  have h5 := (blk_cell H2.out 5).trans (show _ = some (.int .i64 hi) from rfl)
  go_wp2_with fail
  go_quiet (fail)
  go_wp2_with fail
  have hq : (w1.drewN nq).drew.heap = w1.heap := rfl
  go_region_law (first | (go_simp; go_at_call 79; refine (begun_any hi d (by omega) _).mono ?_; rintro e w2 ⟨rfl, hw2⟩; have H3 := Lib.hid (blk_bel (w := (w1.drewN nq).drew) H2.out hw2); have c0 := (blk_cell H3.out 0).trans (show _ = some (.int .i64 L) from rfl); have c1 := (blk_cell H3.out 1).trans (show _ = some (.int .i64 P) from rfl); have c2 := (blk_cell H3.out 2).trans (show _ = some (.int .i64 (G + 1)) from rfl); have c3 := (blk_cell H3.out 3).trans (show _ = some (.int .i64 C) from rfl); have f0 := blk_frozen H3.out 0; have f1 := blk_frozen H3.out 1; have f2 := blk_frozen H3.out 2; have f3 := blk_frozen H3.out 3))
  all_goals
    go_wp2_with fail
    go_ret
    exact ⟨rfl, blk_put (blk_put (blk_put (blk_put H3.out 0 _ rfl) 1 _ rfl) 2 _ rfl) 3 _ rfl, (((((K2.out.drewN nq).drew.below hw2).setCell (p := ⟨g, 0, none⟩) (.inl rfl) _).setCell (p := ⟨g, 1, none⟩) (.inl rfl) _).setCell (p := ⟨g, 2, none⟩) (.inl rfl) _).setCell (p := ⟨g, 3, none⟩) (.inl rfl) _⟩
end Go.Proofs.Ytanpnhponefbbaa.Tr
