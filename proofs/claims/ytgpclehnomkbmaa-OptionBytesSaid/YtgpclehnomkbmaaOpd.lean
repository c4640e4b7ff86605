/- Options as bytes and back, in plain words: no program in sight. -/
import Derived.Test.YtgpclehnomkbmaaOen
import Derived.Test.YtgpclehnomkbmaaCus
set_option maxRecDepth 100000
set_option linter.unusedVariables false
set_option linter.unusedSimpArgs false
namespace Go.Proofs.Ytgpclehnomkbmaa.Opd
open Go.RowKit Go.Proofs.YtgpclehnomkbmaaW.PrintWords Go.Proofs.Ytgpclehnomkbmaa.Ds Go.Proofs.Ytgpclehnomkbmaa.Op Go.Proofs.Ytgpclehnomkbmaa.Oc Go.Proofs.Ytgpclehnomkbmaa.Or Go.Proofs.Ytgpclehnomkbmaa.Ob Go.Proofs.Ytgpclehnomkbmaa.Oe
open Go.Proofs.Ytgpclehnomkbmaa.Pk (fitsF spanF putF digF)
open Go.Proofs.Ytgpclehnomkbmaa.Cu (joinF isB)
/-- How many bytes the first j numbers have. -/
def offN (SZ : List Int) : Nat → Nat
 | 0 => 0
 | j + 1 => offN SZ j + (rd SZ (j : Int)).toNat
def offO (k j : Nat) : Nat := offN (sizesF k) j + (if addrF k = true ∧ atF k ≤ j then 16 else 0)
def posO (k j : Nat) : Nat := offN (sizesF k) j + (if addrF k = true ∧ atF k < j then 16 else 0)
def aposF (k : Nat) : Nat := offN (sizesF k) (atF k)
def plainF (k : Nat) : Nat := offN (sizesF k) (sizesF k).length + (if addrF k = true then 16 else 0)
def numAt (k : Nat) (d : List Int) (j : Nat) : Int := joinF ((d.drop (offO k j)).take (rd (sizesF k) (j : Int)).toNat)
def numsO (k : Nat) (d : List Int) (n : Nat) : List Int := (List.range n).map (numAt k d)
def addrO (k : Nat) (d : List Int) : Nat → Int := fun i => if addrF k = true then (d.drop (aposF k)).getD i 0 else 0
def mkO (k : Nat) (d : List Int) : OV := if k = 1 then (1, [(d.length : Int)], l16 (fun _ => 0), []) else if k = 2 then (2, [], l16 (fun _ => 0), d) else ((k : Int), numsO k d (sizesF k).length, l16 (addrO k d), [])
def okD (k : Nat) (d : List Int) : Bool := if k = 1 then d.all (fun x => decide (x = 0)) else if k = 2 then true else decide (d.length = plainF k)
/-- The next option: what is wrong, the option, how many bytes. -/
def nextO (b : List Int) : Int × OV × Nat :=
 if 9 < rd b (0 : Int) then (6, zO, 0)
 else if rd b (0 : Int) = 0 then (0, (0, [], l16 (fun _ => 0), []), 1)
 else if b.length < 2 ∨ (b.length : Int) - 2 < rd b (1 : Int) then (4, zO, 0)
 else if okD (rd b (0 : Int)).toNat ((b.drop 2).take (rd b (1 : Int)).toNat) = false then (3, zO, 0)
 else (chkV (mkO (rd b (0 : Int)).toNat ((b.drop 2).take (rd b (1 : Int)).toNat)), mkO (rd b (0 : Int)).toNat ((b.drop 2).take (rd b (1 : Int)).toNat), 2 + (rd b (1 : Int)).toNat)
def decL : Nat → List Int → Int × List OV
 | 0, b => if b = [] then (0, []) else (2, [])
 | m + 1, b => if b = [] then (0, []) else if (nextO b).1 ≠ 0 then ((nextO b).1, []) else if (decL m (b.drop (nextO b).2.2)).1 ≠ 0 then ((decL m (b.drop (nextO b).2.2)).1, []) else (0, (nextO b).2.1 :: (decL m (b.drop (nextO b).2.2)).2)
def decE (b : List Int) : Int := (decL 16 b).1
def decO (b : List Int) : List OV := (decL 16 b).2
theorem kinds9 {Q : Nat → Prop} (h : ∀ k, k ∈ [0, 1, 2, 3, 4, 5, 6, 7, 8, 9] → Q k) (k : Nat) (hk : k ≤ 9) : Q k := h k (by
 match k, hk with
 | 0, _ => decide
 | 1, _ => decide
 | 2, _ => decide
 | 3, _ => decide
 | 4, _ => decide
 | 5, _ => decide
 | 6, _ => decide
 | 7, _ => decide
 | 8, _ => decide
 | 9, _ => decide)
theorem sizes_fits {k : Nat} (hk : k ≤ 9) {j : Nat} (hj : j < (sizesF k).length) : rd (sizesF k) (j : Int) = 1 ∨ rd (sizesF k) (j : Int) = 2 ∨ rd (sizesF k) (j : Int) = 4 := by
 have h : ∀ x ∈ sizesF k, x = 1 ∨ x = 2 ∨ x = 4 := kinds9 (Q := fun k => ∀ x ∈ sizesF k, x = 1 ∨ x = 2 ∨ x = 4) (by decide) k hk
 exact h _ (by simp [rd, rdOf, List.getD_eq_getElem?_getD, hj])
theorem offN_mono (SZ : List Int) (j : Nat) : ∀ d, offN SZ j ≤ offN SZ (j + d)
 | 0 => Nat.le_refl _
 | d + 1 => Nat.le_trans (offN_mono SZ j d) (Nat.le_add_right _ _)
theorem offN_le (SZ : List Int) {j z : Nat} (h : j ≤ z) : offN SZ j ≤ offN SZ z := by
 obtain ⟨d, rfl⟩ : ∃ d, z = j + d := ⟨z - j, by omega⟩
 exact offN_mono SZ j d
theorem at_le (k : Nat) : atF k ≤ (sizesF k).length := by unfold atF; omega
theorem posO_end (k : Nat) (hk : k ≤ 9) (hb : behindF k = 0 ∨ addrF k = true) : (if addrF k = true ∧ behindF k = 0 then posO k (sizesF k).length + 16 else posO k (sizesF k).length) = plainF k := by
 revert hb
 exact kinds9 (Q := fun k => (behindF k = 0 ∨ addrF k = true) → (if addrF k = true ∧ behindF k = 0 then posO k (sizesF k).length + 16 else posO k (sizesF k).length) = plainF k) (by decide) k hk
/-- Digits and numbers. -/
theorem dig_join {s : Int} (hs : s = 1 ∨ s = 2 ∨ s = 4) {l : List Int} (hl : (l.length : Int) = s) (hb : isB l) : digF s (joinF l) = l ∧ 0 ≤ joinF l ∧ joinF l < spanF s := by
 rcases hs with rfl | rfl | rfl
 ·
  match l, hl, hb with
  | [a], _, hb =>
   have := hb a (by simp)
   have e : joinF [a] = a := by simp [joinF]
   have q : spanF 1 = 256 := rfl
   rw [e, q]
   refine ⟨?_, by omega, by omega⟩
   simp [digF]; omega
 ·
  match l, hl, hb with
  | [a, b], _, hb =>
   have h1 := hb a (by simp)
   have h2 := hb b (by simp)
   have e : joinF [a, b] = a * 256 + b := by simp [joinF]
   have q : spanF 2 = 65536 := rfl
   rw [e, q]
   refine ⟨?_, by omega, by omega⟩
   simp [digF]; omega
 ·
  match l, hl, hb with
  | [a, b, c, d], _, hb =>
   have h1 := hb a (by simp)
   have h2 := hb b (by simp)
   have h3 := hb c (by simp)
   have h4 := hb d (by simp)
   have e : joinF [a, b, c, d] = ((a * 256 + b) * 256 + c) * 256 + d := by simp [joinF]
   have q : spanF 4 = 4294967296 := rfl
   rw [e, q]
   refine ⟨?_, by omega, by omega⟩
   simp [digF]; omega
theorem join_dig {s n : Int} (hs : s = 1 ∨ s = 2 ∨ s = 4) (h : 0 ≤ n ∧ n < spanF s) : joinF (digF s n) = n ∧ ((digF s n).length : Int) = s := by
 rcases hs with rfl | rfl | rfl
 ·
  have q : spanF 1 = 256 := rfl
  rw [q] at h
  simp [digF, joinF]; omega
 ·
  have q : spanF 2 = 65536 := rfl
  rw [q] at h
  simp [digF, joinF]; omega
 ·
  have q : spanF 4 = 4294967296 := rfl
  rw [q] at h
  simp [digF, joinF]; omega
theorem put_one (s n : Int) : putF s [n] = digF s n := by simp [putF]
theorem isB_drop {l : List Int} (h : isB l) (n : Nat) : isB (l.drop n) := fun x hx => h x (List.mem_of_mem_drop hx)
theorem isB_take {l : List Int} (h : isB l) (n : Nat) : isB (l.take n) := fun x hx => h x (List.mem_of_mem_take hx)
theorem nums_rd {k n j : Nat} {d : List Int} (h : j < n) : rd (numsO k d n) (j : Int) = numAt k d j := by
 simp [rd, rdOf, numsO, List.getD_eq_getElem?_getD, h]
theorem nums_len (k n : Nat) (d : List Int) : (numsO k d n).length = n := by simp [numsO]
theorem nums_succ (k n : Nat) (d : List Int) : numsO k d (n + 1) = numsO k d n ++ [numAt k d n] := by simp [numsO, List.range_succ]
theorem seg_app {α : Type} (l : List α) (a b c : Nat) (h1 : a ≤ b) (h2 : b ≤ c) : (l.drop a).take (b - a) ++ (l.drop b).take (c - b) = (l.drop a).take (c - a) := by
 have e : l.drop b = (l.drop a).drop (b - a) := by rw [List.drop_drop]; congr 1; omega
 rw [e, ← List.take_add]
 congr 1; omega
/-- The numbers' bytes are the bytes that they were read from. -/
theorem puts_back {k : Nat} (hk : k ≤ 9) {d : List Int} (hb : isB d) (hl : d.length = plainF k) (a : Nat) (sh : Nat) : ∀ z, a ≤ z → z ≤ (sizesF k).length → (∀ j, a ≤ j → j < z → offO k j = offN (sizesF k) j + sh) → offN (sizesF k) z + sh ≤ d.length → putsF (sizesF k) (numsO k d (sizesF k).length) a z = (d.drop (offN (sizesF k) a + sh)).take (offN (sizesF k) z - offN (sizesF k) a)
 | 0, h, _, _, _ => by
  have : a = 0 := by omega
  subst this
  rw [puts_nil]; simp
 | z + 1, h, hz, ho, hd => by
  by_cases hz1 : a = z + 1
  · subst hz1; rw [puts_nil]; simp
  ·
   have haz : a ≤ z := by omega
   have e := puts_succ (SZ := sizesF k) (l := numsO k d (sizesF k).length) haz []
   simp only [List.nil_append] at e
   have hs := offN_le (sizesF k) haz
   have hs2 : offN (sizesF k) (z + 1) = offN (sizesF k) z + (rd (sizesF k) (z : Int)).toNat := rfl
   have ih := puts_back hk hb hl a sh z haz (by omega) (fun j h1 h2 => ho j h1 (by omega)) (by omega)
   rw [← e, ih, put_one, nums_rd (by omega)]
   unfold numAt
   have hf := sizes_fits hk (show z < (sizesF k).length by omega)
   rw [ho z haz (by omega)]
   have hlen : (((d.drop (offN (sizesF k) z + sh)).take (rd (sizesF k) (z : Int)).toNat).length : Int) = rd (sizesF k) (z : Int) := by
    rw [List.length_take, List.length_drop]; omega
   rw [(dig_join hf hlen (isB_take (isB_drop hb _) _)).1]
   have := seg_app d (offN (sizesF k) a + sh) (offN (sizesF k) z + sh) (offN (sizesF k) (z + 1) + sh) (by omega) (by omega)
   rw [show offN (sizesF k) z + sh - (offN (sizesF k) a + sh) = offN (sizesF k) z - offN (sizesF k) a by omega, show offN (sizesF k) (z + 1) + sh - (offN (sizesF k) z + sh) = (rd (sizesF k) (z : Int)).toNat by omega, show offN (sizesF k) (z + 1) + sh - (offN (sizesF k) a + sh) = offN (sizesF k) (z + 1) - offN (sizesF k) a by omega] at this
   exact this
theorem l16_len (f : Nat → Int) : (l16 f).length = 16 := by simp [l16]
theorem l16_getD {l : List Int} (h : l.length = 16) : l16 (fun j => l.getD j 0) = l := by
 match l, h with
 | [a0, a1, a2, a3, a4, a5, a6, a7, a8, a9, a10, a11, a12, a13, a14, a15], _ => rfl
theorem l16_at (f : Nat → Int) {i : Nat} (h : i < 16) : (l16 f).getD i 0 = f i := by
 match i, h with
 | 0, _ => rfl
 | 1, _ => rfl
 | 2, _ => rfl
 | 3, _ => rfl
 | 4, _ => rfl
 | 5, _ => rfl
 | 6, _ => rfl
 | 7, _ => rfl
 | 8, _ => rfl
 | 9, _ => rfl
 | 10, _ => rfl
 | 11, _ => rfl
 | 12, _ => rfl
 | 13, _ => rfl
 | 14, _ => rfl
 | 15, _ => rfl
 | _ + 16, h => omega
theorem l16_ext {f g : Nat → Int} (h : ∀ i, i < 16 → f i = g i) : l16 f = l16 g := by
 unfold l16
 rw [h 0 (by omega), h 1 (by omega), h 2 (by omega), h 3 (by omega), h 4 (by omega), h 5 (by omega), h 6 (by omega), h 7 (by omega), h 8 (by omega), h 9 (by omega), h 10 (by omega), h 11 (by omega), h 12 (by omega), h 13 (by omega), h 14 (by omega), h 15 (by omega)]
theorem off_low {k j : Nat} (h : j < atF k) : offO k j = offN (sizesF k) j + 0 := by unfold offO; rw [if_neg (by omega)]
theorem off_high {k j : Nat} (ha : addrF k = true) (h : atF k ≤ j) : offO k j = offN (sizesF k) j + 16 := by unfold offO; rw [if_pos ⟨ha, h⟩]
theorem off_none {k j : Nat} (ha : ¬ addrF k = true) : offO k j = offN (sizesF k) j + 0 := by unfold offO; rw [if_neg (fun h => ha h.1)]
theorem l16_adr (f : Nat → Int) : l16 (fun j => (l16 f).getD j 0) = l16 f := l16_getD (l16_len f)
theorem pos_succ (k i : Nat) : posO k (i + 1) = posO k i + (if addrF k = true ∧ i = atF k then 16 else 0) + (rd (sizesF k) (i : Int)).toNat := by
 have e : offN (sizesF k) (i + 1) = offN (sizesF k) i + (rd (sizesF k) (i : Int)).toNat := rfl
 unfold posO
 rw [e]
 by_cases ha : addrF k = true
 ·
  rcases Nat.lt_trichotomy (atF k) i with h | h | h
  · rw [if_pos ⟨ha, by omega⟩, if_pos ⟨ha, h⟩, if_neg (by omega)]; omega
  · rw [if_pos ⟨ha, by omega⟩, if_neg (by omega), if_pos ⟨ha, by omega⟩]; omega
  · rw [if_neg (by omega), if_neg (by omega), if_neg (by omega)]; omega
 · rw [if_neg (fun h => ha h.1), if_neg (fun h => ha h.1), if_neg (fun h => ha h.1)]; omega
theorem pos_le (k : Nat) {i : Nat} (h : i ≤ (sizesF k).length) : posO k i ≤ plainF k := by
 have := offN_le (sizesF k) h
 unfold posO plainF
 by_cases ha : addrF k = true
 · rw [if_pos ha]; split <;> omega
 · rw [if_neg ha, if_neg (fun h => ha h.1)]; omega
theorem pos_off (k i : Nat) : posO k i + (if addrF k = true ∧ i = atF k then 16 else 0) = offO k i := by
 unfold posO offO
 by_cases ha : addrF k = true
 ·
  rcases Nat.lt_trichotomy (atF k) i with h | h | h
  · rw [if_pos ⟨ha, h⟩, if_neg (by omega), if_pos ⟨ha, by omega⟩]
  · rw [if_neg (by omega), if_pos ⟨ha, by omega⟩, if_pos ⟨ha, by omega⟩]
  · rw [if_neg (by omega), if_neg (by omega), if_neg (by omega)]
 · rw [if_neg (fun h => ha h.1), if_neg (fun h => ha h.1), if_neg (fun h => ha h.1)]
theorem pos_at (k : Nat) : posO k (atF k) = aposF k := by
 unfold posO aposF
 rw [if_neg (by omega)]; rfl
/-- The address behind i numbers, as it is read on the way. -/
def adrI (k : Nat) (d : List Int) (i : Nat) : Nat → Int := fun j => if addrF k = true ∧ atF k < i then addrO k d j else 0
theorem adrI_zero (k : Nat) (d : List Int) : b16 (adrI k d 0) = b16 (fun _ => 0) := by
 have : adrI k d 0 = fun _ => 0 := by funext j; unfold adrI; rw [if_neg (by omega)]
 rw [this]
theorem adrI_same {k i : Nat} (d : List Int) (h : ¬ (addrF k = true ∧ i = atF k)) : adrI k d (i + 1) = adrI k d i := by
 funext j
 unfold adrI
 by_cases h2 : addrF k = true ∧ atF k < i
 · rw [if_pos h2, if_pos ⟨h2.1, by omega⟩]
 · rw [if_neg h2, if_neg (fun h3 => h2 ⟨h3.1, by have h4 : ¬ i = atF k := fun e => h ⟨h3.1, e⟩; have := h3.2; omega⟩)]
theorem adrI_now {k : Nat} (d : List Int) (ha : addrF k = true) : adrI k d (atF k + 1) = addrO k d := by
 funext j
 unfold adrI
 rw [if_pos ⟨ha, by omega⟩]
theorem adrI_none {k i : Nat} (d : List Int) (ha : ¬ addrF k = true) : adrI k d i = addrO k d := by
 funext j
 unfold adrI addrO
 rw [if_neg (fun h => ha h.1), if_neg ha]
/-- The sixteen bytes of an address, as a list. -/
theorem addr_list {k : Nat} {d : List Int} (ha : addrF k = true) (h : aposF k + 16 ≤ d.length) : (d.drop (aposF k)).take 16 = l16 (addrO k d) := by
 have hlen : ((d.drop (aposF k)).take 16).length = 16 := by rw [List.length_take, List.length_drop]; omega
 rw [← l16_getD hlen]
 refine (l16_ext fun i hi => ?_).symm
 unfold addrO
 rw [if_pos ha]
 simp [List.getD_eq_getElem?_getD, List.getElem?_take, hi]
/-- The body of what was read is the bytes. -/
theorem body_back {k : Nat} (hk : k ≤ 9) (h1 : 1 ≤ k) {d : List Int} (hb : isB d) (hd : okD k d = true) : bodyF k (mkO k d).2.1 (adr (mkO k d)) (mkO k d).2.2.2 = d := by
 by_cases e1 : k = 1
 ·
  subst e1
  unfold mkO okD at *
  rw [if_pos rfl] at hd ⊢
  unfold bodyF
  rw [if_pos rfl]
  have e : (rd [(d.length : Int)] (0 : Int)).toNat = d.length := by simp [rd, rdOf]
  show List.replicate (rd [(d.length : Int)] (0 : Int)).toNat 0 = d
  rw [e]
  refine (List.eq_replicate_of_mem fun x hx => ?_).symm
  simpa using (List.all_eq_true.1 hd) x hx
 by_cases e2 : k = 2
 ·
  subst e2
  unfold mkO
  rw [if_neg (by decide), if_pos rfl]
  unfold bodyF
  rw [if_neg (by decide)]
  show putsF (sizesF 2) [] 0 (atF 2) ++ (if addrF 2 = true then l16 _ else []) ++ putsF (sizesF 2) [] (atF 2) (sizesF 2).length ++ d = d
  rw [if_neg (by decide), show atF 2 = 0 from by decide, show (sizesF 2).length = 0 from by decide, puts_nil]
  rfl
 have hl : d.length = plainF k := by
  unfold okD at hd
  rw [if_neg e1, if_neg e2] at hd
  simpa using hd
 unfold mkO
 rw [if_neg e1, if_neg e2]
 have hat := at_le k
 have hm := offN_le (sizesF k) hat
 unfold bodyF
 rw [if_neg e1]
 show putsF (sizesF k) (numsO k d (sizesF k).length) 0 (atF k) ++ (if addrF k = true then l16 (fun j => (l16 (addrO k d)).getD j 0) else []) ++ putsF (sizesF k) (numsO k d (sizesF k).length) (atF k) (sizesF k).length ++ [] = d
 rw [l16_adr, List.append_nil]
 have hp : plainF k = offN (sizesF k) (sizesF k).length + (if addrF k = true then 16 else 0) := rfl
 by_cases ha : addrF k = true
 ·
  rw [if_pos ha] at hp ⊢
  have q1 := puts_back hk hb hl 0 0 (atF k) (Nat.zero_le _) hat (fun j _ h => off_low h) (by omega)
  have q2 := puts_back hk hb hl (atF k) 16 (sizesF k).length hat (Nat.le_refl _) (fun j h _ => off_high ha h) (by omega)
  rw [q1, q2]
  have q3 : l16 (addrO k d) = (d.drop (aposF k)).take 16 := by
   have hlen : ((d.drop (aposF k)).take 16).length = 16 := by rw [List.length_take, List.length_drop]; unfold aposF; omega
   rw [← l16_getD hlen]
   refine l16_ext fun i hi => ?_
   unfold addrO
   rw [if_pos ha]
   simp [List.getD_eq_getElem?_getD, List.getElem?_take, hi]
  rw [q3]
  have z0 : offN (sizesF k) 0 = 0 := rfl
  unfold aposF
  rw [z0]
  have s1 := seg_app d 0 (offN (sizesF k) (atF k)) (offN (sizesF k) (atF k) + 16) (by omega) (by omega)
  have s2 := seg_app d 0 (offN (sizesF k) (atF k) + 16) (offN (sizesF k) (sizesF k).length + 16) (by omega) (by omega)
  rw [show offN (sizesF k) (atF k) + 16 - offN (sizesF k) (atF k) = 16 by omega] at s1
  rw [show offN (sizesF k) (sizesF k).length + 16 - (offN (sizesF k) (atF k) + 16) = offN (sizesF k) (sizesF k).length - offN (sizesF k) (atF k) by omega] at s2
  rw [show (0 : Nat) + 0 = 0 from rfl, s1, s2, List.drop_zero, List.take_of_length_le (by omega)]
 ·
  rw [if_neg ha] at hp ⊢
  have q1 := puts_back hk hb hl 0 0 (atF k) (Nat.zero_le _) hat (fun j _ h => off_none ha) (by omega)
  have q2 := puts_back hk hb hl (atF k) 0 (sizesF k).length hat (Nat.le_refl _) (fun j h _ => off_none ha) (by omega)
  rw [q1, q2]
  have z0 : offN (sizesF k) 0 = 0 := rfl
  rw [z0]
  have s2 := seg_app d 0 (offN (sizesF k) (atF k)) (offN (sizesF k) (sizesF k).length) (by omega) (by omega)
  rw [show (0 : Nat) + 0 = 0 from rfl, List.append_nil, Nat.add_zero, s2, List.drop_zero, List.take_of_length_le (by omega)]
theorem mkO_kind {k : Nat} (d : List Int) : (mkO k d).1 = (k : Int) := by
 unfold mkO
 by_cases h1 : k = 1
 · rw [if_pos h1, h1]; rfl
 ·
  rw [if_neg h1]
  by_cases h2 : k = 2
  · rw [if_pos h2, h2]; rfl
  · rw [if_neg h2]
theorem rd_head {b : List Int} (h : 0 < b.length) : b.take 1 = [rd b (0 : Int)] := by
 match b, h with
 | x :: _, _ => rfl
theorem rd_two {b : List Int} (h : 2 ≤ b.length) : b.take 2 = [rd b (0 : Int), rd b (1 : Int)] := by
 match b, h with
 | x :: y :: _, _ => rfl
theorem rd_isB {b : List Int} (hb : isB b) {j : Nat} (h : j < b.length) : 0 ≤ rd b (j : Int) ∧ rd b (j : Int) ≤ 255 := hb _ (by simp [rd, rdOf, List.getD_eq_getElem?_getD, h])
theorem rd_drop {l : List Int} (p j : Nat) : rd (l.drop p) (j : Int) = rd l ((p + j : Nat) : Int) := by
 simp only [rd, rdOf, Int.toNat_natCast, List.getD_eq_getElem?_getD, List.getElem?_drop]
theorem lN_one {l : List Int} {p : Nat} (h : p < l.length) : joinF (Cu.lN l p 1 0) = rd l (p : Int) := by
 have hok : Cu.okc l.length p 1 0 := ⟨rfl, h⟩
 rw [show Cu.lN l p 1 0 = (l.drop p).take 1 from if_pos hok, rd_head (by rw [List.length_drop]; omega)]
 have := rd_drop (l := l) p 0
 simp only [Nat.add_zero] at this
 show 0 * 256 + rd (l.drop p) (0 : Int) = _
 rw [show rd (l.drop p) (0 : Int) = rd l (p : Int) from this]; omega
theorem next_six {l : List Int} {p : Nat} (h : ¬ (0 ≤ rd l (p : Int) ∧ rd l (p : Int) ≤ 9)) (hb : isB l) (hp : p < l.length) : (nextO (l.drop p)).1 = 6 := by
 have hk := rd_isB hb hp
 have e : rd (l.drop p) (0 : Int) = rd l (p : Int) := rd_drop p 0
 unfold nextO
 rw [e, if_pos (by omega)]
theorem next_pad {l : List Int} {p : Nat} (h : rd l (p : Int) = 0) : nextO (l.drop p) = (0, (0, [], l16 (fun _ => 0), []), 1) := by
 have e : rd (l.drop p) (0 : Int) = rd l (p : Int) := rd_drop p 0
 unfold nextO
 rw [e, if_neg (by omega), if_pos h]
/-- What the two reads behind a kind bring. -/
theorem next_read {l : List Int} {p k n p2 p3 : Nat} {v r2 r3 : Int} {d : List Int} (hk : rd l (p : Int) = (k : Int)) (h1 : 1 ≤ k) (h9 : k ≤ 9) (hp : p < l.length) (hb : isB l) (hv : joinF (Cu.lN l (p + 1) 1 0) = v) (hn : v = (n : Int)) (hp2 : Cu.pN l.length (p + 1) 1 0 = p2) (hr2 : Cu.rN l.length (p + 1) 1 0 = r2) (hp3 : Cu.pN l.length p2 n r2 = p3) (hr3 : Cu.rN l.length p2 n r2 = r3) (hd : Cu.lN l p2 n r2 = d) :
  (¬ r3 = 0 → (nextO (l.drop p)).1 = r3) ∧ (r3 = 0 → isB d ∧ d.length ≤ 255 ∧ p3 = p + (2 + n) ∧ p3 ≤ l.length ∧ nextO (l.drop p) = if okD k d = false then (3, zO, 0) else (chkV (mkO k d), mkO k d, 2 + n)) := by
 have e0 : rd (l.drop p) (0 : Int) = (k : Int) := (rd_drop p 0).trans hk
 have e1 : rd (l.drop p) (1 : Int) = rd l ((p + 1 : Nat) : Int) := rd_drop p 1
 have en : nextO (l.drop p) = if (l.drop p).length < 2 ∨ ((l.drop p).length : Int) - 2 < rd (l.drop p) (1 : Int) then (4, zO, 0) else if okD k (((l.drop p).drop 2).take (rd (l.drop p) (1 : Int)).toNat) = false then (3, zO, 0) else (chkV (mkO k (((l.drop p).drop 2).take (rd (l.drop p) (1 : Int)).toNat)), mkO k (((l.drop p).drop 2).take (rd (l.drop p) (1 : Int)).toNat), 2 + (rd (l.drop p) (1 : Int)).toNat) := by
  unfold nextO
  rw [e0, if_neg (by omega), if_neg (by omega), Int.toNat_natCast]
 rw [en, e1, List.length_drop]
 by_cases hl : p + 1 + 1 ≤ l.length
 ·
  have hok : Cu.okc l.length (p + 1) 1 0 := ⟨rfl, hl⟩
  have q2 : Cu.pN l.length (p + 1) 1 0 = p + 1 + 1 := if_pos hok
  have q3 : Cu.rN l.length (p + 1) 1 0 = 0 := if_pos hok
  rw [q2] at hp2; rw [q3] at hr2
  subst hp2; subst hr2
  rw [lN_one (by omega)] at hv
  have hvb := rd_isB hb (show p + 1 < l.length by omega)
  rw [hv, hn] at hvb
  rw [hv, hn, Int.toNat_natCast]
  by_cases hl2 : p + 1 + 1 + n ≤ l.length
  ·
   have hok2 : Cu.okc l.length (p + 1 + 1) n 0 := ⟨rfl, hl2⟩
   have q4 : Cu.pN l.length (p + 1 + 1) n 0 = p + 1 + 1 + n := if_pos hok2
   have q5 : Cu.rN l.length (p + 1 + 1) n 0 = 0 := if_pos hok2
   have q6 : Cu.lN l (p + 1 + 1) n 0 = (l.drop (p + 1 + 1)).take n := if_pos hok2
   rw [q4] at hp3; rw [q5] at hr3; rw [q6] at hd
   subst hp3; subst hr3
   refine ⟨fun h => absurd rfl h, fun _ => ?_⟩
   rw [if_neg (by omega), List.drop_drop, show p + 2 = p + 1 + 1 from rfl, hd]
   refine ⟨by rw [← hd]; exact isB_take (isB_drop hb _) _, by rw [← hd, List.length_take]; omega, by omega, hl2, rfl⟩
  ·
   have hno : ¬ Cu.okc l.length (p + 1 + 1) n 0 := fun h => hl2 h.2
   have q5 : Cu.rN l.length (p + 1 + 1) n 0 = 4 := by unfold Cu.rN; rw [if_neg hno]; rfl
   rw [q5] at hr3
   subst hr3
   refine ⟨fun _ => ?_, fun h => by cases h⟩
   rw [if_pos (by omega)]
 ·
  have hno : ¬ Cu.okc l.length (p + 1) 1 0 := fun h => hl h.2
  have q3 : Cu.rN l.length (p + 1) 1 0 = 4 := by unfold Cu.rN; rw [if_neg hno]; rfl
  rw [q3] at hr2
  subst hr2
  have hno2 : ¬ Cu.okc l.length p2 n 4 := fun h => by cases h.1
  have q5 : Cu.rN l.length p2 n 4 = 4 := by unfold Cu.rN; rw [if_neg hno2]; rfl
  rw [q5] at hr3
  subst hr3
  refine ⟨fun _ => ?_, fun h => by cases h⟩
  rw [if_pos (by omega)]
theorem decL_nil (m : Nat) : decL m [] = (0, []) := by cases m <;> rfl
/-- The options so far, and what is to come. -/
def upto (b : List Int) (m : Nat) (xs : List OV) (rest : List Int) : Prop := decE b = (decL m rest).1 ∧ ((decL m rest).1 = 0 → decO b = xs ++ (decL m rest).2)
theorem upto_start (b : List Int) : upto b 16 [] b := ⟨rfl, fun _ => rfl⟩
theorem upto_step {b rest : List Int} {m : Nat} {xs : List OV} (h : upto b (m + 1) xs rest) (hne : rest ≠ []) (h0 : (nextO rest).1 = 0) : upto b m (xs ++ [(nextO rest).2.1]) (rest.drop (nextO rest).2.2) := by
 have e : decL (m + 1) rest = if (decL m (rest.drop (nextO rest).2.2)).1 ≠ 0 then ((decL m (rest.drop (nextO rest).2.2)).1, []) else (0, (nextO rest).2.1 :: (decL m (rest.drop (nextO rest).2.2)).2) := by
  show (if rest = [] then _ else if (nextO rest).1 ≠ 0 then _ else _) = _
  rw [if_neg hne, if_neg (fun h => h h0)]
 unfold upto at h ⊢
 rw [e] at h
 by_cases c : (decL m (rest.drop (nextO rest).2.2)).1 = 0
 ·
  rw [if_neg (fun h => h c)] at h
  rw [c]
  exact ⟨h.1, fun _ => by rw [h.2 rfl, List.append_assoc]; rfl⟩
 ·
  rw [if_pos c] at h
  exact ⟨h.1, fun h2 => absurd h2 c⟩
theorem upto_bad {b rest : List Int} {m : Nat} {xs : List OV} (h : upto b (m + 1) xs rest) (hne : rest ≠ []) (h0 : ¬ (nextO rest).1 = 0) : decE b = (nextO rest).1 := by
 rw [h.1]
 show (if rest = [] then _ else if (nextO rest).1 ≠ 0 then _ else _ : Int × List OV).1 = _
 rw [if_neg hne, if_pos h0]
theorem upto_full {b rest : List Int} {xs : List OV} (h : upto b 0 xs rest) (hne : rest ≠ []) : decE b = 2 := by
 rw [h.1]
 show (if rest = [] then _ else _ : Int × List OV).1 = _
 rw [if_neg hne]
theorem upto_end {b : List Int} {m : Nat} {xs : List OV} (h : upto b m xs []) : decE b = 0 ∧ decO b = xs := by
 unfold upto at h
 rw [decL_nil] at h
 exact ⟨h.1, by rw [h.2 rfl, List.append_nil]⟩
theorem dec_bad_nil : ∀ (m : Nat) (b : List Int), (decL m b).1 ≠ 0 → (decL m b).2 = []
 | 0, b, h => by unfold decL at h ⊢; split <;> rfl
 | m + 1, b, h => by
  unfold decL at h ⊢
  split
  · rfl
  ·
   split
   · rfl
   ·
    split
    · rfl
    · rename_i h1 h2 h3; rw [if_neg h1, if_neg h2, if_neg h3] at h; exact absurd rfl h
theorem decO_bad {b : List Int} (h : decE b ≠ 0) : decO b = [] := dec_bad_nil 16 b h
/-- An option that is read is right, and has the bytes that were read. -/
theorem next_ok {b : List Int} (hb : isB b) (hne : b ≠ []) (h0 : (nextO b).1 = 0) : chkV (nextO b).2.1 = 0 ∧ optB (nextO b).2.1 = b.take (nextO b).2.2 ∧ 0 < (nextO b).2.2 ∧ (nextO b).2.2 ≤ b.length := by
 have hl : 0 < b.length := List.length_pos_iff.2 hne
 have hk := rd_isB hb hl
 have hk' : 0 ≤ rd b (0 : Int) ∧ rd b (0 : Int) ≤ 255 := hk
 unfold nextO at h0 ⊢
 by_cases c1 : 9 < rd b (0 : Int)
 · rw [if_pos c1] at h0; cases h0
 rw [if_neg c1] at h0 ⊢
 by_cases c2 : rd b (0 : Int) = 0
 ·
  rw [if_pos c2] at h0 ⊢
  refine ⟨by decide +kernel, ?_, by decide, hl⟩
  show optB (0, [], l16 (fun _ => 0), []) = b.take 1
  rw [rd_head hl, c2]; rfl
 rw [if_neg c2] at h0 ⊢
 by_cases c3 : b.length < 2 ∨ (b.length : Int) - 2 < rd b (1 : Int)
 · rw [if_pos c3] at h0; cases h0
 rw [if_neg c3] at h0 ⊢
 by_cases c4 : okD (rd b (0 : Int)).toNat ((b.drop 2).take (rd b (1 : Int)).toNat) = false
 · rw [if_pos c4] at h0; cases h0
 rw [if_neg c4] at h0 ⊢
 obtain ⟨k, ek⟩ : ∃ k : Nat, rd b (0 : Int) = (k : Int) := ⟨(rd b (0 : Int)).toNat, by omega⟩
 have hn := rd_isB hb (show 1 < b.length by omega)
 have hn' : 0 ≤ rd b (1 : Int) ∧ rd b (1 : Int) ≤ 255 := hn
 obtain ⟨n, en⟩ : ∃ n : Nat, rd b (1 : Int) = (n : Int) := ⟨(rd b (1 : Int)).toNat, by omega⟩
 rw [ek, en] at h0 c4 ⊢
 rw [en] at c3
 simp only [Int.toNat_natCast] at h0 c4 ⊢
 have hdl : ((b.drop 2).take n).length = n := by rw [List.length_take, List.length_drop]; omega
 refine ⟨h0, ?_, by omega, by omega⟩
 unfold optB
 rw [mkO_kind, Int.toNat_natCast]
 have hbk := body_back (k := k) (by omega) (by omega) (isB_take (isB_drop hb 2) n) (by simpa using c4)
 unfold bytesF
 rw [if_neg (by omega), hbk, hdl]
 have e2 : b.take (2 + n) = b.take 2 ++ (b.drop 2).take n := List.take_add
 rw [e2, rd_two (by omega), ek, en]
 congr 2
 rw [Int.emod_eq_of_lt (by omega) (by omega)]
theorem eqL_l16 {f g : Nat → Int} (h : eqL (b16 f) (b16 g) = true) : l16 f = l16 g := by
 simp [b16, eqL, eqV] at h
 obtain ⟨h0, h1, h2, h3, h4, h5, h6, h7, h8, h9, h10, h11, h12, h13, h14, h15⟩ := h
 unfold l16
 rw [h0, h1, h2, h3, h4, h5, h6, h7, h8, h9, h10, h11, h12, h13, h14, h15]
theorem chk_more {x : OV} (h : chkV x = 0) : (addrF x.1.toNat = true ∨ l16 (adr x) = l16 (fun _ => 0)) ∧ (x.2.2.2 = [] ∨ x.1 = 2) := by
 have hz := chk_zero h
 unfold chkV chkO at h
 rw [if_pos ⟨hz.1, hz.2.1⟩] at h
 unfold chkF at h
 split at h
 · cases h
 ·
  rename_i h1
  constructor
  ·
   by_cases ha : addrF x.1.toNat = true
   · exact .inl ha
   · exact .inr (eqL_l16 (Decidable.byContradiction fun h2 => h1 (.inr (.inl ⟨h2, ha⟩))))
  ·
   by_cases hk : x.1.toNat = 2
   · exact .inr (by omega)
   · exact .inl (List.eq_nil_of_length_eq_zero (Nat.eq_zero_of_not_pos fun h2 => h1 (.inr (.inr ⟨h2, hk⟩))))
theorem puts_split (SZ l : List Int) {a j : Nat} (h : a ≤ j) : ∀ d, putsF SZ l a j ++ putsF SZ l j (j + d) = putsF SZ l a (j + d)
 | 0 => by rw [Nat.add_zero, puts_nil, List.append_nil]
 | d + 1 => by
  have e1 := puts_succ (SZ := SZ) (l := l) (show j ≤ j + d by omega) []
  have e2 := puts_succ (SZ := SZ) (l := l) (show a ≤ j + d by omega) []
  simp only [List.nil_append] at e1 e2
  rw [show j + (d + 1) = j + d + 1 from rfl, ← e1, ← e2, ← puts_split SZ l h d, List.append_assoc]
theorem fit_bd {s n : Int} (h : fitsF s [n] = true) : 0 ≤ n ∧ n < spanF s := by
 simp only [fitsF, Bool.and_eq_true, List.all_eq_true, decide_eq_true_eq] at h
 exact h.2 n (by simp)
theorem puts_size {k : Nat} (hk : k ≤ 9) {l : List Int} (hf : ∀ j, j < (sizesF k).length → fitsF (rd (sizesF k) (j : Int)) [rd l (j : Int)] = true) (a : Nat) : ∀ z, a ≤ z → z ≤ (sizesF k).length → offN (sizesF k) a + (putsF (sizesF k) l a z).length = offN (sizesF k) z
 | 0, h, _ => by
  have : a = 0 := by omega
  subst this
  rw [puts_nil]; rfl
 | z + 1, h, hz => by
  by_cases hz1 : a = z + 1
  · subst hz1; rw [puts_nil]; rfl
  ·
   have e := congrArg List.length (puts_succ (SZ := sizesF k) (l := l) (show a ≤ z by omega) [])
   have ih := puts_size hk hf a z (by omega) (by omega)
   have hd := (join_dig (sizes_fits hk (show z < _ by omega)) (fit_bd (hf z (by omega)))).2
   simp only [List.nil_append, List.length_append, put_one] at e
   have hs2 : offN (sizesF k) (z + 1) = offN (sizesF k) z + (rd (sizesF k) (z : Int)).toNat := rfl
   omega
theorem puts_seg {k : Nat} (hk : k ≤ 9) {l : List Int} (hf : ∀ j, j < (sizesF k).length → fitsF (rd (sizesF k) (j : Int)) [rd l (j : Int)] = true) (X Y : List Int) {a j z o : Nat} (h1 : a ≤ j) (h2 : j < z) (h3 : z ≤ (sizesF k).length) (ho : o + offN (sizesF k) a = X.length + offN (sizesF k) j) : ((X ++ putsF (sizesF k) l a z ++ Y).drop o).take (rd (sizesF k) (j : Int)).toNat = digF (rd (sizesF k) (j : Int)) (rd l (j : Int)) := by
 obtain ⟨d, rfl⟩ : ∃ d, z = j + 1 + d := ⟨z - (j + 1), by omega⟩
 have e1 := puts_succ (SZ := sizesF k) (l := l) h1 []
 simp only [List.nil_append, put_one] at e1
 have hl := puts_size hk hf a j h1 (by omega)
 have hd := (join_dig (sizes_fits hk (show j < _ by omega)) (fit_bd (hf j (by omega)))).2
 rw [← puts_split (sizesF k) l (show a ≤ j + 1 by omega) d, ← e1]
 have e : X ++ (putsF (sizesF k) l a j ++ digF (rd (sizesF k) (j : Int)) (rd l (j : Int)) ++ putsF (sizesF k) l (j + 1) (j + 1 + d)) ++ Y = (X ++ putsF (sizesF k) l a j) ++ (digF (rd (sizesF k) (j : Int)) (rd l (j : Int)) ++ (putsF (sizesF k) l (j + 1) (j + 1 + d) ++ Y)) := by simp [List.append_assoc]
 rw [e, List.drop_append_of_le_length (by rw [List.length_append]; omega), List.drop_of_length_le (by rw [List.length_append]; omega), List.nil_append, List.take_append_of_le_length (by omega), List.take_of_length_le (by omega)]
theorem rd_ext {l l' : List Int} (hn : l.length = l'.length) (h : ∀ j, j < l.length → rd l (j : Int) = rd l' (j : Int)) : l = l' := by
 refine List.ext_getElem hn (fun j h1 h2 => ?_)
 have := h j h1
 simpa [rd, rdOf, List.getD_eq_getElem?_getD, h1, h2] using this
/-- An option that is right: its body is read as it was. -/
theorem body_fore {k : Nat} (hk : k ≤ 9) (h1 : 1 ≤ k) {l tx : List Int} {f : Nat → Int} (hl : l.length = (sizesF k).length) (hn : numB (sizesF k) (lenF k) (zeroF k) l = true) (ha : addrF k = true ∨ l16 f = l16 (fun _ => 0)) (ht : tx = [] ∨ k = 2) : okD k (bodyF k l f tx) = true ∧ mkO k (bodyF k l f tx) = ((k : Int), l, l16 f, tx) := by
 have hf := num_fits hn
 by_cases e1 : k = 1
 ·
  subst e1
  have hp := pads_num hn
  have hb : bodyF 1 l f tx = List.replicate (rd l (0 : Int)).toNat 0 := by unfold bodyF; rw [if_pos rfl]
  have hz : l16 f = l16 (fun _ => 0) := ha.resolve_left (by decide)
  have htx : tx = [] := ht.resolve_right (by decide)
  rw [hb]
  constructor
  ·
   unfold okD
   rw [if_pos rfl, List.all_eq_true]
   intro x hx
   rw [List.eq_of_mem_replicate hx]; rfl
  ·
   unfold mkO
   rw [if_pos rfl, List.length_replicate, hz, htx]
   have : l = [rd l (0 : Int)] := rd_ext hl (fun j hj => by
    have : j = 0 := by rw [hl] at hj; have : (sizesF 1).length = 1 := rfl; omega
    subst this; rfl)
   rw [this]
   have e : rd [rd l (0 : Int)] (0 : Int) = rd l (0 : Int) := rfl
   rw [e, Int.toNat_of_nonneg hp.1]
   rfl
 by_cases e2 : k = 2
 ·
  subst e2
  have hl0 : l = [] := List.eq_nil_of_length_eq_zero hl
  have hz : l16 f = l16 (fun _ => 0) := ha.resolve_left (by decide)
  have hb : bodyF 2 l f tx = tx := by
   unfold bodyF
   rw [if_neg (by decide), if_neg (by decide), show atF 2 = 0 from by decide, show (sizesF 2).length = 0 from by decide, puts_nil]
   rfl
  rw [hb]
  exact ⟨by unfold okD; rw [if_neg (by decide), if_pos rfl], by unfold mkO; rw [if_neg (by decide), if_pos rfl, hl0, hz]; rfl⟩
 have htx : tx = [] := ht.resolve_right e2
 subst htx
 have hat := at_le k
 have s1 := puts_size hk hf 0 (atF k) (Nat.zero_le _) hat
 have s2 := puts_size hk hf (atF k) (sizesF k).length hat (Nat.le_refl _)
 have z0 : offN (sizesF k) 0 = 0 := rfl
 have hb : bodyF k l f [] = putsF (sizesF k) l 0 (atF k) ++ (if addrF k = true then l16 f else []) ++ putsF (sizesF k) l (atF k) (sizesF k).length := by unfold bodyF; rw [if_neg e1, List.append_nil]
 rw [hb]
 constructor
 ·
  unfold okD plainF
  rw [if_neg e1, if_neg e2]
  refine decide_eq_true ?_
  by_cases hA : addrF k = true
  · rw [if_pos hA, if_pos hA, List.length_append, List.length_append, l16_len]; omega
  · rw [if_neg hA, if_neg hA, List.length_append, List.length_append, List.length_nil]; omega
 ·
  unfold mkO
  rw [if_neg e1, if_neg e2]
  have hnum : numsO k (putsF (sizesF k) l 0 (atF k) ++ (if addrF k = true then l16 f else []) ++ putsF (sizesF k) l (atF k) (sizesF k).length) (sizesF k).length = l := by
   refine rd_ext (by rw [nums_len, hl]) fun j hj => ?_
   rw [nums_len] at hj
   rw [nums_rd hj]
   unfold numAt
   have hj1 := join_dig (sizes_fits hk hj) (fit_bd (hf j hj))
   by_cases hlow : j < atF k
   ·
    have := puts_seg hk hf [] ((if addrF k = true then l16 f else []) ++ putsF (sizesF k) l (atF k) (sizesF k).length) (o := offO k j) (Nat.zero_le j) hlow hat (by rw [off_low hlow, z0, List.length_nil]; omega)
    rw [List.nil_append, ← List.append_assoc] at this
    rw [this]; exact hj1.1
   ·
    have := puts_seg hk hf (putsF (sizesF k) l 0 (atF k) ++ (if addrF k = true then l16 f else [])) [] (o := offO k j) (show atF k ≤ j by omega) hj (Nat.le_refl _) (by
     by_cases hA : addrF k = true
     · rw [off_high hA (by omega), if_pos hA, List.length_append, l16_len]; omega
     · rw [off_none hA, if_neg hA, List.length_append, List.length_nil]; omega)
    rw [List.append_nil] at this
    rw [this]; exact hj1.1
  rw [hnum]
  have hadr : l16 (addrO k (putsF (sizesF k) l 0 (atF k) ++ (if addrF k = true then l16 f else []) ++ putsF (sizesF k) l (atF k) (sizesF k).length)) = l16 f := by
   by_cases hA : addrF k = true
   ·
    refine l16_ext fun i hi => ?_
    unfold addrO aposF
    rw [if_pos hA, if_pos hA, List.append_assoc, List.drop_append_of_le_length (by omega), List.drop_of_length_le (by omega), List.nil_append, List.getD_eq_getElem?_getD, List.getElem?_append_left (by rw [l16_len]; exact hi), ← List.getD_eq_getElem?_getD]
    exact l16_at f hi
   ·
    rw [ha.resolve_left hA]
    refine l16_ext fun i hi => ?_
    unfold addrO
    rw [if_neg hA]
  rw [hadr]
/-- What an option has to be, to be read as it was. -/
def fine (x : OV) : Prop := x.2.2.1 = l16 (adr x)
theorem next_enc {x : OV} (hc : chkV x = 0) (hx : fine x) (rest : List Int) : nextO (optB x ++ rest) = (0, x, (optB x).length) := by
 obtain ⟨h0, h9, hl, hN, ht⟩ := chk_zero hc
 obtain ⟨ha, htx⟩ := chk_more hc
 obtain ⟨kk, l, ad, tx⟩ := x
 simp only at h0 h9 hl hN ht ha htx
 obtain ⟨k, rfl⟩ : ∃ k : Nat, kk = (k : Int) := ⟨kk.toNat, by omega⟩
 rw [Int.toNat_natCast] at hl hN ha
 have e3 : ad = l16 (adr ((k : Int), l, ad, tx)) := hx
 by_cases hk0 : k = 0
 ·
  subst hk0
  have hl0 : l = [] := List.eq_nil_of_length_eq_zero hl
  have ht0 : tx = [] := htx.resolve_right (by decide)
  have hz := ha.resolve_left (by decide)
  have eo : optB (((0 : Nat) : Int), l, ad, tx) = [0] := rfl
  rw [eo]
  unfold nextO
  have r0 : rd ([0] ++ rest) (0 : Int) = 0 := rfl
  rw [r0, if_neg (by decide), if_pos rfl]
  show (0, (0, [], l16 (fun _ => 0), []), 1) = (0, (((0 : Nat) : Int), l, ad, tx), 1)
  rw [hl0, ht0, e3, hz]; rfl
 have hbl : (bodyF k l (adr ((k : Int), l, ad, tx)) tx).length ≤ 255 := body_len (k := k) (by omega) (adr ((k : Int), l, ad, tx)) hN ht
 obtain ⟨q1, q2⟩ := body_fore (k := k) (by omega) (by omega) (tx := tx) (f := adr ((k : Int), l, ad, tx)) hl hN ha (htx.imp_right (fun h => by omega))
 have eo : optB ((k : Int), l, ad, tx) = (k : Int) :: ((bodyF k l (adr ((k : Int), l, ad, tx)) tx).length : Int) :: bodyF k l (adr ((k : Int), l, ad, tx)) tx := by
  show (if ((k : Int)).toNat = 0 then [0] else [(((k : Int).toNat : Nat) : Int), ((bodyF (k : Int).toNat l (adr ((k : Int), l, ad, tx)) tx).length : Int) % 256] ++ bodyF (k : Int).toNat l (adr ((k : Int), l, ad, tx)) tx) = _
  rw [Int.toNat_natCast, if_neg hk0, Int.emod_eq_of_lt (by omega) (by omega)]
  rfl
 rw [eo]
 generalize hd : bodyF k l (adr ((k : Int), l, ad, tx)) tx = d at *
 unfold nextO
 have r0 : rd ((k : Int) :: (d.length : Int) :: d ++ rest) (0 : Int) = (k : Int) := rfl
 have r1 : rd ((k : Int) :: (d.length : Int) :: d ++ rest) (1 : Int) = (d.length : Int) := rfl
 have r2 : ((k : Int) :: (d.length : Int) :: d ++ rest).drop 2 = d ++ rest := rfl
 rw [r0, r1, r2, if_neg (by omega), if_neg (by omega), if_neg (by simp only [List.cons_append, List.length_cons, List.length_append]; omega)]
 simp only [Int.toNat_natCast]
 rw [List.take_append_of_le_length (Nat.le_refl _), List.take_of_length_le (Nat.le_refl _), if_neg (by rw [q1]; decide), q2, ← e3]
 rw [hc, List.length_cons, List.length_cons, Nat.add_comm]
theorem dec_fore : ∀ (m : Nat) {xs : List OV}, xs.length ≤ m → (∀ x ∈ xs, chkV x = 0 ∧ fine x) → decL m (allB xs) = (0, xs)
 | 0, xs, h, hc => by
  have : xs = [] := List.eq_nil_of_length_eq_zero (by omega)
  subst this; rfl
 | m + 1, [], h, hc => rfl
 | m + 1, x :: xs, h, hc => by
  have e : allB (x :: xs) = optB x ++ allB xs := rfl
  obtain ⟨c1, c2⟩ := hc x (by simp)
  have hn := next_enc c1 c2 (allB xs)
  have hne : optB x ++ allB xs ≠ [] := by
   unfold optB bytesF
   split <;> simp
  rw [e]
  unfold decL
  rw [if_neg hne, hn]
  have ih := dec_fore m (xs := xs) (by simpa using h) (fun y hy => hc y (by simp [hy]))
  simp only
  rw [List.drop_append_of_le_length (Nat.le_refl _), List.drop_of_length_le (Nat.le_refl _), List.nil_append, ih]
  simp
theorem first_all : ∀ {xs : List OV}, firstBad xs = 0 → ∀ x ∈ xs, chkV x = 0
 | [], _, x, h => by cases h
 | y :: xs, h, x, hx => by
  simp only [firstBad] at h
  by_cases c : chkV y = 0
  ·
   rw [if_pos c] at h
   rcases List.mem_cons.1 hx with rfl | h2
   · exact c
   · exact first_all h x h2
  · rw [if_neg c] at h; exact absurd h c
/-- Encoded and decoded: the options. -/
theorem dec_enc {xs : List OV} (hx : ∀ x ∈ xs, fine x) (h : encE xs = 0) : decE (encB xs) = 0 ∧ decO (encB xs) = xs := by
 have h3 : xs.length ≤ 16 ∧ firstBad xs = 0 := by
  unfold encE at h
  split at h
  · cases h
  ·
   split at h
   · rename_i h2; exact absurd h h2
   · rename_i h1 h2; exact ⟨by omega, Decidable.byContradiction fun h4 => h2 h4⟩
 have e : encB xs = allB xs := if_pos h
 have := dec_fore 16 h3.1 (fun x q => ⟨first_all h3.2 x q, hx x q⟩)
 rw [e]
 unfold decE decO
 rw [this]; exact ⟨rfl, rfl⟩
end Go.Proofs.Ytgpclehnomkbmaa.Opd
