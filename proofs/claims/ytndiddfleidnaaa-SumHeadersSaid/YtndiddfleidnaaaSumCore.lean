/- Contracts of package sum over a Sum in memory. -/
import Derived.Test.YtndiddfleidnaaaPSumHeadersx1
import Derived.Deep.LoopGhost
import Derived.Deep.QuietTactic
import Derived.BigQuiet
import Derived.Lib.Hide
import Derived.RegionTactic
import Derived.ChangeAlike
import Derived.StillTailTactics
set_option maxRecDepth 100000
set_option linter.unusedVariables false
set_option linter.unusedSimpArgs false
namespace Go.Proofs.Ytndiddfleidnaaa.Sum
open Go.RowKit Go.Proofs.YtndiddfleidnaaaW.PrintWords Go.Proofs.Ytndiddfleidnaaa.PSumHeaders
def rd_L1 (xs : List (List Int)) (i : Int) : (List Int) := xs.getD i.toNat ([] : List Int)
theorem at_L1 {w : World} {A : Option Addr} {n : Nat} {xs : List (List Int)} (h : Kd.C (Kd.slice 5 (Kd.int .u8)) w A n xs) (i : Int) (h0 : 0 ≤ i) (h1 : i < n) : ∃ ad A0 c0, A = some ad ∧ w.cell? (ad.add i.toNat) = some (.slice A0 (rd_L1 xs i).length c0) ∧ (rd_L1 xs i).length ≤ c0 ∧ (Kd.int .u8).C w A0 (rd_L1 xs i).length (rd_L1 xs i) := by
  obtain ⟨ad, c, e, _, hK, hc0⟩ := Kd.C_get h ([] : List Int) i h0 h1
  have hc : ∀ j u, c[j]? = some u → w.cell? (ad.add (i.toNat * 1 + j)) = some u := hc0
  obtain ⟨A0, c0, rfl, l0, g0⟩ := hK
  exact ⟨ad, A0, c0, e, by have hq := hc 0 _ rfl; rwa [Nat.mul_one, Nat.add_zero] at hq, l0, g0⟩
/-- What a call keeps: all blocks but those of S and the new ones; the outside world too. -/
structure Kp (w w' : World) (S : Nat → Prop) : Prop where
  kept : Kept w w' S
  os : w'.os = w.os
  tape : w'.tape = w.tape
  output : w'.output = w.output
theorem Kp.refl (w : World) (S : Nat → Prop) : Kp w w S := ⟨Kept.refl w S, rfl, rfl, rfl⟩
theorem Kp.then_ {w W W2 : World} {S S2 : Nat → Prop} (h : Kp w W S) (k : Kp W W2 S2) (hs : ∀ k, S2 k → S k ∨ w.heap.size ≤ k) : Kp w W2 S := ⟨h.kept.then_ k.kept hs, k.os.trans h.os, k.tape.trans h.tape, k.output.trans h.output⟩
theorem Kp.setCell {w W : World} {S : Nat → Prop} (h : Kp w W S) {p : Addr} (hp : S p.block ∨ w.heap.size ≤ p.block) (u : Value) : Kp w (W.setCell p u) S := ⟨h.kept.setCell hp u, h.os, h.tape, h.output⟩
theorem Kp.drew {w W : World} {S : Nat → Prop} (h : Kp w W S) : Kp w W.drew S := ⟨h.kept.drew, h.os, h.tape, h.output⟩
theorem Kp.of_below {w W : World} (h : Below w.heap.size w W) (S : Nat → Prop) : Kp w W S := ⟨Kept.of_below h S, h.os, h.tape, h.output⟩
theorem Kp.below {w W W2 : World} {S : Nat → Prop} (h : Kp w W S) (hb : Below W.heap.size W W2) : Kp w W2 S := h.then_ (Kp.of_below hb (fun _ => False)) (fun _ hk => hk.elim)
theorem Kp.to {w W : World} {S : Nat → Prop} {B : Nat} (h : Kp w W S) (hB : B ≤ w.heap.size) (hs : ∀ k, S k → B ≤ k) : Below B w W := ⟨h.os, h.tape, h.output, h.kept.1, fun k hk => h.kept.2 k (by omega) (fun hS => by have := hs k hS; omega)⟩
theorem Kp.mono {w W : World} {S S' : Nat → Prop} (h : Kp w W S) (hs : ∀ k, S k → S' k) : Kp w W S' := ⟨h.kept.mono hs, h.os, h.tape, h.output⟩
def foldF (m : Int) : Int := if m ≥ 65536 then m - 65535 else m
theorem wrap_fold (m : Int) (h1 : 65536 ≤ m) (h2 : m ≤ 131070) : IntKind.i64.wrap (m.tmod 65536 + IntKind.i64.wrap (m.tdiv 65536)) = m - 65535 := by
  have e1 : m.tmod 65536 = m % 65536 := Int.tmod_eq_emod_of_nonneg (by omega)
  have e2 : m.tdiv 65536 = m / 65536 := Int.tdiv_eq_ediv_of_nonneg (by omega)
  rw [e1, e2, IntKind.wrap_i64, IntKind.wrap_i64]
  omega
set_option maxHeartbeats 400000 in
theorem more_any (g : Nat) (n c x : Int) (w : World) (hb : w.heap[g]? = some (.cells #[.int .i64 n, .int .i64 c] 143 (0, 0))) (hn : 0 ≤ n) (hn2 : n ≤ 65535) (hx : 0 ≤ x) (hx2 : x ≤ 65535) :
    Calls Try.prog 127 #[.pointer (some ⟨g, 0, none⟩), .int .i64 x] w fun e w' => e = .returned (.tuple #[]) ∧ w'.heap[g]? = some (.cells #[.int .i64 (foldF (n + x)), .int .i64 c] 143 (0, 0)) ∧ Kp w w' (fun k => k = g) := by
  have h0 := (blk_cell hb 0).trans (show _ = some (.int .i64 n) from rfl)
  have f0 := blk_frozen hb 0
  have HB := Lib.hid hb
  clear hb
  go_enter Try.func127, Try.ntmps127
  go_wp2_with fail
  go_loopg [] 2 (fun gk wr => ∃ m : Int, 0 ≤ m ∧ m ≤ 131070 ∧ Hid (foldF m = foldF (n + x)) ∧ Hid (gk = 0 → m < 65536) ∧ Hid (wr.heap[g]? = some (.cells #[.int .i64 m, .int .i64 c] 143 (0, 0))) ∧ Hid (Kp w wr (fun k => k = g)))
  case atStart => exact ⟨n + x, by omega, by omega, Lib.hid rfl, Lib.hid (fun h => by omega), Lib.hid (blk_put HB.out 0 _ rfl), Lib.hid ((Kp.refl w (fun k => k = g)).setCell (p := ⟨g, 0, none⟩) (.inl rfl) _)⟩
  case round =>
    obtain ⟨m, hm1, hm2, HF, HG, HC, HK⟩ := hrel
    have h1 := (blk_cell HC.out 0).trans (show _ = some (.int .i64 m) from rfl)
    have f1 := blk_frozen HC.out 0
    clear h0 f0
    by_cases hm : m < 65536
    · go_wp2_with fail
      go_end0
      have e : foldF (n + x) = m := by rw [← HF.out]; unfold foldF; rw [if_neg (by omega)]
      exact ⟨rfl, by rw [e]; exact HC.out, HK.out⟩
    · have hm3 : 65536 ≤ m := by omega
      have HV := Lib.hid (wrap_fold m hm3 hm2)
      have HF2 := Lib.hid (show foldF (m - 65535) = foldF (n + x) by rw [← HF.out]; unfold foldF; rw [if_neg (by omega), if_pos (by omega)])
      have HG2 := Lib.hid (show gk ≠ 0 from fun h => by have := HG.out h; omega)
      go_wp2_with fail
      go_still_tail 12, (by kernel_rfl)
      change wpList _ _ _ _ _ wr.drew
      rw [HV.out]
      go_wp2
      go_roundg 0
      case measure => have := HG2.out; omega
      case rel => exact ⟨m - 65535, by omega, by omega, HF2, Lib.hid (fun _ => by omega), Lib.hid (blk_put (w := wr.drew) HC.out 0 _ rfl), Lib.hid ((HK.out.drew).setCell (p := ⟨g, 0, none⟩) (.inl rfl) _)⟩
theorem value_any (g : Nat) (n c : Int) (w : World) (hb : w.heap[g]? = some (.cells #[.int .i64 n, .int .i64 c] 143 (0, 0))) :
    Calls Try.prog 83 #[.pointer (some ⟨g, 0, none⟩)] w fun e w' => e = .returned (.int .i64 n) ∧ w' = w := by
  have h0 := (blk_cell hb 0).trans (show _ = some (.int .i64 n) from rfl)
  clear hb
  go_enter Try.func83, Try.ntmps83
  go_wp2
  go_ret
  exact ⟨rfl, rfl⟩
theorem len_any (g : Nat) (n c : Int) (w : World) (hb : w.heap[g]? = some (.cells #[.int .i64 n, .int .i64 c] 143 (0, 0))) :
    Calls Try.prog 84 #[.pointer (some ⟨g, 0, none⟩)] w fun e w' => e = .returned (.int .i64 c) ∧ w' = w := by
  have h0 := (blk_cell hb 1).trans (show _ = some (.int .i64 c) from rfl)
  clear hb
  go_enter Try.func84, Try.ntmps84
  go_wp2
  go_ret
  exact ⟨rfl, rfl⟩
theorem value_nil (w : World) : Calls Try.prog 83 #[.pointer none] w fun e w' => e = .returned (.int .i64 0) ∧ w' = w := by
  go_enter Try.func83, Try.ntmps83
  go_wp2
  go_ret
  exact ⟨rfl, rfl⟩
theorem len_nil (w : World) : Calls Try.prog 84 #[.pointer none] w fun e w' => e = .returned (.int .i64 0) ∧ w' = w := by
  go_enter Try.func84, Try.ntmps84
  go_wp2
  go_ret
  exact ⟨rfl, rfl⟩
theorem add_nil (v : Value) (w : World) : Calls Try.prog 82 #[.pointer none, v] w fun e w' => e = .returned (.tuple #[]) ∧ w' = w := by
  go_enter Try.func82, Try.ntmps82
  go_wp2
  refine bodyPost_ret (results_none rfl _ _ _) rfl ?_
  exact ⟨rfl, rfl⟩
/-- A byte more. -/
def stepF (s : Int × Int) (x : Int) : Int × Int := (foldF (s.1 + if s.2 % 2 = 0 then x * 256 else x), s.2 + 1)
def addF (s : Int × Int) (l : List Int) : Int × Int := l.foldl stepF s
theorem addF_append (s : Int × Int) (l m : List Int) : addF s (l ++ m) = addF (addF s l) m := by simp [addF]
theorem addF_snoc (s : Int × Int) (l : List Int) (x : Int) : addF s (l ++ [x]) = stepF (addF s l) x := by simp [addF]
theorem fold_range (n x : Int) (h : 0 ≤ n ∧ n ≤ 65535) (hx : 0 ≤ x ∧ x ≤ 65535) : 0 ≤ foldF (n + x) ∧ foldF (n + x) ≤ 65535 := by unfold foldF; split <;> omega
theorem take_rd (l : List Int) (k : Nat) (h : k < l.length) : l.take (k + 1) = l.take k ++ [rd l k] := by
  rw [List.take_succ_eq_append_getElem h]
  simp [rd, h]
theorem take_rdL (l : List (List Int)) (k : Nat) (h : k < l.length) : (l.take (k + 1)).flatten = (l.take k).flatten ++ rd_L1 l k := by
  rw [List.take_succ_eq_append_getElem h, List.flatten_append]
  simp [rd_L1, h]
theorem memL (l : List (List Int)) (k : Nat) (h : k < l.length) : rd_L1 l k ∈ l := by simp [rd_L1, h]
theorem memI (l : List Int) (k : Nat) (h : k < l.length) : rd l k ∈ l := by simp [rd, h]
def total (ls : List (List Int)) : Nat := ls.flatten.length
theorem total_take (ls : List (List Int)) (k : Nat) (h : k < ls.length) : ((ls.take k).flatten ++ rd_L1 ls k).length ≤ total ls := by
  rw [← take_rdL ls k h]
  unfold total
  have : ls.flatten = (ls.take (k + 1)).flatten ++ (ls.drop (k + 1)).flatten := by rw [← List.flatten_append, List.take_append_drop]
  rw [this, List.length_append]; omega
theorem kb {w W : World} {g : Nat} (h : KeepBut w W g none) : Kept w W (fun k => k = g) := ⟨h.1, fun i hi hn => h.2 i hi hn (by simp)⟩
theorem foot_inner {w : World} {g : Nat} {ad : Addr} {ls : List (List Int)} (h : ∀ W', Kept w W' (fun k => k = g) → (Kd.slice 5 (Kd.int .u8)).C W' (some ad) ls.length ls) (i : Nat) (hi : i < ls.length) {A0 : Option Addr} {c0 : Nat}
    (hcell : w.cell? (ad.add i) = some (.slice A0 (rd_L1 ls i).length c0)) : ∀ W', Kept w W' (fun k => k = g) → (Kd.int .u8).C W' A0 (rd_L1 ls i).length (rd_L1 ls i) := by
  have hne : ad.block ≠ g := Kd.foot_ne (fun W' hk => h W' (kb hk)) (by omega) (by decide)
  intro W' hk
  obtain ⟨ad1, A1, c1, e, hc, _, hrow⟩ := at_L1 (h W' hk) i (by omega) (by omega)
  cases e
  simp only [Int.toNat_natCast] at hc
  have hb : (ad.add i).block = ad.block := by unfold Addr.add; split <;> rfl
  have := cell_kept hcell hk (by rw [hb]; exact hne)
  rw [this] at hc
  injection hc with hc
  injection hc with hA
  subst hA
  exact hrow
set_option maxHeartbeats 1000000 in
theorem add_any (g : Nat) (n c : Int) (A : Option Addr) (cap : Nat) (ls : List (List Int)) (w : World) (hb : w.heap[g]? = some (.cells #[.int .i64 n, .int .i64 c] 143 (0, 0))) (hn : 0 ≤ n ∧ n ≤ 65535) (hc : 0 ≤ c) (hc2 : c + total ls ≤ 1000000000000) (hlen : ls.length ≤ 1000000000000)
    (hr : ∀ W', Kept w W' (fun k => k = g) → (Kd.slice 5 (Kd.int .u8)).C W' A ls.length ls) (hbd : ∀ b ∈ ls, ∀ x ∈ b, 0 ≤ x ∧ x ≤ 255) :
    Calls Try.prog 82 #[.pointer (some ⟨g, 0, none⟩), .slice A ls.length cap] w fun e w' => e = .returned (.tuple #[]) ∧ w'.heap[g]? = some (.cells #[.int .i64 (addF (n, c) ls.flatten).1, .int .i64 (addF (n, c) ls.flatten).2] 143 (0, 0)) ∧ Kp w w' (fun k => k = g) := by
  have HB := Lib.hid hb
  have HR := Lib.hid hr
  have HD := Lib.hid hbd
  have HN := Lib.hid hn
  have HTT := Lib.hid (total_take ls)
  clear hb hr hbd hn
  go_enter Try.func82, Try.ntmps82
  go_wp2_with fail
  go_loopg [12] ls.length (fun gk v12 wr => ∃ (i : Nat) (n1 c1 : Int), v12 = .int .i64 i ∧ i ≤ ls.length ∧ Hid (gk = ls.length - i) ∧ Hid (addF (n, c) (ls.take i).flatten = (n1, c1)) ∧ Hid (0 ≤ n1 ∧ n1 ≤ 65535 ∧ c1 = c + (ls.take i).flatten.length) ∧ Hid (wr.heap[g]? = some (.cells #[.int .i64 n1, .int .i64 c1] 143 (0, 0))) ∧ Hid (Kp w wr (fun k => k = g)))
  case atStart => exact ⟨0, n, c, rfl, by omega, Lib.hid (by simp), Lib.hid rfl, Lib.hid (by have := HN.out; simp; omega), HB, Lib.hid (Kp.refl _ _)⟩
  case round =>
    clear HB HN
    obtain ⟨i, n1, c1, rfl, hi, HG, HF, HS, HC, HK⟩ := hrel
    by_cases hlt : i < ls.length
    · have HR1 := Lib.hid (HR.out _ HK.out.kept)
      obtain ⟨ad, A0, c0, had, hcell, hcap, hrow⟩ := at_L1 HR1.out i (by omega) (by omega)
      simp only [Int.toNat_natCast] at hcell
      cases had
      have HR2 := Lib.hid (foot_inner (fun W' h => HR.out W' (HK.out.kept.then_ h (fun _ h2 => .inl h2))) i hlt hcell)
      have HML := Lib.hid (fun x hx => HD.out _ (memL ls i hlt) x hx)
      have HT := Lib.hid (HTT.out i hlt)
      have HTK := Lib.hid (take_rdL ls i hlt)
      generalize hbs : rd_L1 ls i = bs at hcell hcap hrow HR2 HML HT HTK
      clear hrow hcap hbs
      obtain ⟨wo, rfl⟩ : ∃ wo : World, wo = wr := ⟨_, rfl⟩
      obtain ⟨go1, rfl⟩ : ∃ g : Nat, g = gk := ⟨_, rfl⟩
      have hbl : bs.length ≤ 1000000000000 := by have := HT.out; rw [List.length_append] at this; omega
      go_wp2_with fail
      go_loopg [18] bs.length (fun gk v18 wr => ∃ (j : Nat) (n2 c2 : Int), v18 = .int .i64 j ∧ j ≤ bs.length ∧ Hid (gk = bs.length - j) ∧ Hid (addF (n, c) ((ls.take i).flatten ++ bs.take j) = (n2, c2)) ∧ Hid (0 ≤ n2 ∧ n2 ≤ 65535 ∧ c2 = c1 + j) ∧ Hid (wr.heap[g]? = some (.cells #[.int .i64 n2, .int .i64 c2] 143 (0, 0))) ∧ Hid (Kp wo wr (fun k => k = g)))
      case atStart => exact ⟨0, n1, c1, rfl, by omega, Lib.hid (by simp), Lib.hid (by simpa using HF.out), Lib.hid (by have := HS.out; simp; omega), HC, Lib.hid (Kp.refl _ _)⟩
      case round =>
        obtain ⟨j, n2, c2, rfl, hj, HG2, HF2, HS2, HC2, HK2⟩ := hrel
        by_cases hlt2 : j < bs.length
        · obtain ⟨ad2, had2, hcell2⟩ := Kd.at_int (HR2.out _ HK2.out.kept) j (by omega) (by omega)
          simp only [Int.toNat_natCast] at hcell2
          cases had2
          obtain ⟨hx1, hx2⟩ := HML.out _ (memI bs j hlt2)
          have HTK2 := Lib.hid (take_rd bs j hlt2)
          have HX := Lib.hid (Eq.refl (rd bs j))
          generalize hxx : rd bs j = x at hcell2 hx1 hx2 HTK2
          clear HX hxx
          have hc1 := (blk_cell HC2.out 1).trans (show _ = some (.int .i64 c2) from rfl)
          obtain ⟨hn1, hn2, hce⟩ := HS2.out
          have hs1 := HS.out
          have ht1 := HT.out
          rw [List.length_append] at ht1
          have hc20 : 0 ≤ c2 := by omega
          have hc21 : c2 ≤ 1000000000000 := by omega
          have HCE := Lib.hid hce
          clear hce hs1 ht1
          have HF3 := Lib.hid (show addF (n, c) ((ls.take i).flatten ++ bs.take (j + 1)) = stepF (n2, c2) x by rw [HTK2.out, ← List.append_assoc, addF_snoc, HF2.out])
          by_cases hpar : c2 % 2 = 0
          · have hp : (c2 % 2 == 0) = true := by simpa using hpar
            have HM := Lib.hid (fun W h => more_any g n2 c2 (x * 256) W h hn1 hn2 (by omega) (by omega))
            have HST := Lib.hid (show stepF (n2, c2) x = (foldF (n2 + x * 256), c2 + 1) by unfold stepF; rw [if_pos hpar])
            have HRG := Lib.hid (fold_range n2 (x * 256) ⟨hn1, hn2⟩ ⟨by omega, by omega⟩)
            clear hpar
            go_wp2_with fail
            refine (HM.out _ HC2.out).mono ?_
            rintro e w3 ⟨rfl, hb3, hk3⟩
            have HB3 := Lib.hid hb3
            have HK3 := Lib.hid hk3
            have hc3 := (blk_cell HB3.out 1).trans (show _ = some (.int .i64 c2) from rfl)
            have hf3 := blk_frozen HB3.out 1
            clear hb3 hk3 hc1
            go_wp2_with fail
            go_roundg (bs.length - (j + 1))
            case measure => have := HG2.out; omega
            case rel => exact ⟨j + 1, foldF (n2 + x * 256), c2 + 1, by go_num, by omega, Lib.hid rfl, Lib.hid (by rw [HF3.out, HST.out]), Lib.hid (by have := HRG.out; have := HCE.out; omega), Lib.hid (blk_put HB3.out 1 _ rfl), Lib.hid ((HK2.out.then_ HK3.out (fun _ h => .inl h)).setCell (p := ⟨g, 1, none⟩) (.inl rfl) _)⟩
          · have hp : (c2 % 2 == 0) = false := by simpa using hpar
            have HM := Lib.hid (fun W h => more_any g n2 c2 x W h hn1 hn2 (by omega) (by omega))
            have HST := Lib.hid (show stepF (n2, c2) x = (foldF (n2 + x), c2 + 1) by unfold stepF; rw [if_neg hpar])
            have HRG := Lib.hid (fold_range n2 x ⟨hn1, hn2⟩ ⟨by omega, by omega⟩)
            clear hpar
            go_wp2_with fail
            refine (HM.out _ HC2.out).mono ?_
            rintro e w3 ⟨rfl, hb3, hk3⟩
            have HB3 := Lib.hid hb3
            have HK3 := Lib.hid hk3
            have hc3 := (blk_cell HB3.out 1).trans (show _ = some (.int .i64 c2) from rfl)
            have hf3 := blk_frozen HB3.out 1
            clear hb3 hk3 hc1
            go_wp2_with fail
            go_roundg (bs.length - (j + 1))
            case measure => have := HG2.out; omega
            case rel => exact ⟨j + 1, foldF (n2 + x), c2 + 1, by go_num, by omega, Lib.hid rfl, Lib.hid (by rw [HF3.out, HST.out]), Lib.hid (by have := HRG.out; have := HCE.out; omega), Lib.hid (blk_put HB3.out 1 _ rfl), Lib.hid ((HK2.out.then_ HK3.out (fun _ h => .inl h)).setCell (p := ⟨g, 1, none⟩) (.inl rfl) _)⟩
        · have HE := Lib.hid (show (ls.take i).flatten ++ bs.take j = (ls.take (i + 1)).flatten by rw [HTK.out, List.take_of_length_le (l := bs) (i := j) (by omega)])
          have HS3 := Lib.hid (show 0 ≤ n2 ∧ n2 ≤ 65535 ∧ c2 = c + (ls.take (i + 1)).flatten.length by
            have h1 := HS.out
            have h2 := HS2.out
            rw [HTK.out, List.length_append]
            have h3 : j = bs.length := by omega
            omega)
          go_wp2_with fail
          go_roundg (ls.length - (i + 1))
          case measure => have := HG.out; omega
          case rel => exact ⟨i + 1, n2, c2, by go_num, by omega, Lib.hid rfl, Lib.hid (by rw [← HE.out, HF2.out]), HS3, HC2, Lib.hid (HK.out.then_ HK2.out (fun _ h => .inl h))⟩
    · have HE := Lib.hid (show (ls.take i).flatten = ls.flatten by rw [List.take_of_length_le (by omega)])
      go_wp2_with fail
      go_end0
      exact ⟨rfl, by rw [← HE.out, HF.out]; exact HC.out, HK.out⟩
end Go.Proofs.Ytndiddfleidnaaa.Sum
