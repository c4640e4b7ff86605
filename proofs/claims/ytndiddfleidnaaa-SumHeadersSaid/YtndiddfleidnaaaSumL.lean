/- SumHeaders: the law's walk. -/
import Derived.Test.YtndiddfleidnaaaSumH
set_option maxRecDepth 100000
set_option linter.unusedVariables false
set_option linter.unusedSimpArgs false
namespace Go.Proofs.Ytndiddfleidnaaa.Sl
open Go.RowKit Go.Proofs.YtndiddfleidnaaaW.PrintWords Go.Proofs.Ytndiddfleidnaaa.Ds Go.Proofs.Ytndiddfleidnaaa.Sh
open Go.Proofs.Ytndiddfleidnaaa.Pk (Kp fitsF spanF putF digF same_any C_take sub_row)
open Go.Proofs.Ytndiddfleidnaaa.Sum (addF addF_tot addF_len F F_range tot tot_nonneg total known_any)
def wt (p : Int) : Int := if p % 2 = 0 then 256 else 1
theorem tot_cons (p x : Int) (l : List Int) : tot p (x :: l) = wt p * x + tot (p + 1) l := by
  unfold wt; simp only [tot]; split <;> omega
theorem tot_append (m : List Int) : ∀ (l : List Int) (p : Int), tot p (l ++ m) = tot p l + tot (p + l.length) m
  | [], p => by simp [tot]
  | x :: l, p => by
    rw [List.cons_append, tot_cons, tot_cons, tot_append m l (p + 1)]
    have e : p + 1 + (l.length : Int) = p + ((x :: l).length : Int) := by simp; omega
    rw [e]; omega
theorem tot_set (v : Int) : ∀ (l : List Int) (i : Nat) (p : Int), i < l.length → tot p (l.set i v) = tot p (l.set i 0) + wt (p + i) * v
  | [], i, p, h => by simp at h
  | x :: l, 0, p, _ => by simp only [List.set_cons_zero, tot_cons]; simp; omega
  | x :: l, i + 1, p, h => by
    simp only [List.set_cons_succ, tot_cons]
    rw [tot_set v l i (p + 1) (by simpa using h)]
    have e : p + 1 + (i : Int) = p + ((i + 1 : Nat) : Int) := by omega
    rw [e]; omega
theorem F_back (T : Int) (h : 0 ≤ T) : F (T + (65535 - F T)) = 65535 := by
  unfold F
  by_cases h0 : T = 0
  · subst h0; decide
  · rw [if_neg h0, if_neg (by omega)]; omega
theorem se_ze (l : List Int) (k : Nat) (a b : Int) : ((((zeF l k).set k a).set (k + 1) 0).set k 0) = zeF l k := by
  apply List.ext_getElem?
  intro i
  simp only [zeF, List.getElem?_set, List.length_set]
  by_cases h1 : k = i <;> by_cases h2 : k + 1 = i <;> simp [h1, h2]
theorem se_tot (l : List Int) (k : Nat) (a b p : Int) (h : k + 2 ≤ l.length) (hp : (p + k) % 2 = 0) : tot p (((zeF l k).set k a).set (k + 1) b) = tot p (zeF l k) + 256 * a + b := by
  have hl := ze_len l k
  rw [tot_set b _ (k + 1) p (by rw [List.length_set, hl]; omega)]
  have e1 : ((zeF l k).set k a).set (k + 1) 0 = ((zeF l k).set (k + 1) 0).set k a := by
    rw [List.set_comm _ _ (by omega)]
  rw [e1, tot_set a _ k p (by rw [List.length_set, hl]; omega)]
  have e2 : ((zeF l k).set (k + 1) 0).set k 0 = zeF l k := by
    have := se_ze l k 0 0
    rw [List.set_comm _ _ (by omega), List.set_set] at this
    rw [List.set_comm _ _ (by omega)]
    exact this
  rw [e2]
  have w1 : wt (p + k) = 256 := by unfold wt; rw [if_pos hp]
  have w2 : wt (p + ((k + 1 : Nat) : Int)) = 1 := by unfold wt; rw [if_neg (by omega)]
  rw [w1, w2]; omega
theorem ps_tot {s d : Nat → Int} {n : Int} {l : List Int} (h : ∀ b ∈ rowsF s d n l, ∀ x ∈ b, 0 ≤ x ∧ x ≤ 255) : psF s d n l = 65535 - F (tot 0 (rowsF s d n l).flatten) := by
  have h3 := addF_tot (rowsF s d n l).flatten 0 0 (by omega) (flat_bd h)
  have e : F 0 = 0 := by unfold F; rw [if_pos rfl]
  rw [e] at h3
  unfold psF
  rw [h3]
  simp
/-- What Set makes is right. -/
theorem set_zero (s d : Nat → Int) (n : Int) (l : List Int) (k : Nat) (hs : ∀ i, i < 16 → 0 ≤ s i ∧ s i ≤ 255) (hd : ∀ i, i < 16 → 0 ≤ d i ∧ d i ≤ 255) (hb : ∀ y ∈ l, 0 ≤ y ∧ y ≤ 255) (hk : k % 2 = 0) (h : k + 2 ≤ l.length) : psF s d n (seF l k (psF s d n (zeF l k))) = 0 := by
  have hz := rows_bd (n := n) hs hd (ze_bd (k := k) hb)
  have hp := ps_bd hz
  have hbs : ∀ y ∈ seF l k (psF s d n (zeF l k)), 0 ≤ y ∧ y ≤ 255 := set_bd (set_bd (ze_bd hb) (by omega)) (by omega)
  rw [ps_tot (rows_bd hs hd hbs)]
  have e : ∀ m : List Int, m.length = l.length → tot 0 (rowsF s d n m).flatten = tot 0 (l16 s ++ (l16 d ++ putF 4 [(l.length : Int), n])) + tot 40 m := fun m hm => by
    have e1 : (rowsF s d n m).flatten = (l16 s ++ (l16 d ++ putF 4 [(l.length : Int), n])) ++ m := by simp [rowsF, hm]
    rw [e1, tot_append]
    congr 1
  have r1 := ps_tot hz
  rw [e _ (ze_len l k)] at r1
  have hnn := tot_nonneg (rowsF s d n (zeF l k)).flatten 0 (flat_bd hz)
  rw [e _ (ze_len l k)] at hnn
  rw [e _ (se_len l k _)]
  have r2 := se_tot l k (psF s d n (zeF l k) / 256) (psF s d n (zeF l k) % 256) 40 h (by omega)
  unfold seF
  rw [r2]
  have hF := F_back _ hnn.1
  rw [← r1] at hF
  rw [show tot 0 (l16 s ++ (l16 d ++ putF 4 [(l.length : Int), n])) + (tot 40 (zeF l k) + 256 * (psF s d n (zeF l k) / 256) + psF s d n (zeF l k) % 256) = tot 0 (l16 s ++ (l16 d ++ putF 4 [(l.length : Int), n])) + tot 40 (zeF l k) + psF s d n (zeF l k) by omega, hF]
  omega
theorem se_bd {s d : Nat → Int} {n : Int} {l : List Int} {k : Nat} (hs : ∀ i, i < 16 → 0 ≤ s i ∧ s i ≤ 255) (hd : ∀ i, i < 16 → 0 ≤ d i ∧ d i ≤ 255) (hb : ∀ y ∈ l, 0 ≤ y ∧ y ≤ 255) : ∀ y ∈ seF l k (psF s d n (zeF l k)), 0 ≤ y ∧ y ≤ 255 := by
  have hp := ps_bd (rows_bd (n := n) hs hd (ze_bd (k := k) hb))
  exact set_bd (set_bd (ze_bd hb) (by omega)) (by omega)
theorem se_take (l : List Int) (k : Nat) (r : Int) : (seF l k r).take k = l.take k := by
  apply List.ext_getElem?
  intro i
  simp only [seF, zeF, List.getElem?_take, List.getElem?_set, List.length_set]
  by_cases h : i < k
  · rw [if_pos h, if_pos h, if_neg (by omega), if_neg (by omega), if_neg (by omega), if_neg (by omega)]
  · rw [if_neg h, if_neg h]
theorem se_drop (l : List Int) (k : Nat) (r : Int) : (seF l k r).drop (k + 2) = l.drop (k + 2) := by
  apply List.ext_getElem?
  intro i
  simp only [seF, zeF, List.getElem?_drop, List.getElem?_set, List.length_set]
  rw [if_neg (by omega), if_neg (by omega), if_neg (by omega), if_neg (by omega)]
theorem cut_rowA {l : List Int} {A A' : Option Addr} {n c m s : Nat} {w : World} (h : Kd.C (Kd.int .u8) w A n l) (hc : n ≤ c) (hm : n = s + m) (h0 : 0 < n) (hA : (if c = s then A else A.map (·.add (s * 1))) = A') : Kd.C (Kd.int .u8) w A' m (l.drop s) := by
  have hl := h.1
  obtain ⟨ad, rfl⟩ : ∃ ad, A = some ad := ⟨_, (C_at h h0).1⟩
  have e : (l.drop s).take m = l.drop s := List.take_of_length_le (by simp; omega)
  by_cases h1 : c = s
  · rw [if_pos h1] at hA; subst hA
    have := sub_row (A' := ad) hl h (p := s) (k := m) (s := n) (by omega) (Nat.le_refl _) (fun hk => by omega)
    rwa [e] at this
  · rw [if_neg h1] at hA; subst hA
    have := sub_row (A' := ad.add (s * 1)) hl h (p := s) (k := m) (s := n) (by omega) (Nat.le_refl _) (fun _ => by rw [Nat.mul_one])
    rwa [e] at this
theorem sameN (A0 A1 : Option Addr) (c0 c1 n0 n1 : Nat) (l0 l1 : List Int) (hr : l0 = l1) (w : World) (h0 : Kd.C (Kd.int .u8) w A0 n0 l0) (h0c : n0 ≤ c0) (h1 : Kd.C (Kd.int .u8) w A1 n1 l1) (h1c : n1 ≤ c1) (hl : n0 ≤ 1000000) : Calls Try.prog 21 #[.slice A0 n0 c0, .slice A1 n1 c1] w fun e w' => e = .returned (.bool true) ∧ Kp w w' (fun _ => False) := by
  have e0 := h0.1
  have e1 := h1.1
  subst e0 e1
  exact (same_any A0 A1 c0 c1 l0 l1 true (by simp [hr]) w h0 h0c h1 h1c hl).mono (by rintro e w' ⟨rfl, hn⟩; exact ⟨rfl, kp_n hn _⟩)
theorem set_bad (s d : Nat → Int) (n : Int) (A : Option Addr) (cap ln : Nat) (l : List Int) (hs : ∀ i, i < 16 → 0 ≤ s i ∧ s i ≤ 255) (hd : ∀ i, i < 16 → 0 ≤ d i ∧ d i ≤ 255) (hby : ∀ y ∈ l, 0 ≤ y ∧ y ≤ 255) (hln : ln = l.length) (hlc : l.length ≤ cap) (hlm : l.length ≤ 9000) (p : Int) (hN : 0 ≤ n ∧ n ≤ 255) (hG : ¬ 1280 < l.length) (hp : p < 0 ∨ ¬ p % 2 = 0 ∨ (l.length : Int) - 2 < p) (w : World) (hC : Kd.C (Kd.int .u8) w A l.length l) : Calls Try.prog 30 #[Value.agg (b16 s).toArray, Value.agg (b16 d).toArray, Value.int .i64 n, .slice A ln cap, .int .i64 p] w fun e w' => e = .returned (.tuple #[.slice none 0 0, .int .i64 1]) ∧ Kp w w' (fun _ => False) :=
  set_R s d n A cap ln l hs hd hby hln hlc hlm p hN hG w hC (fun _ w' hk => ⟨rfl, hk⟩) (fun k h1 h2 h3 => by omega)
theorem set_ok (s d : Nat → Int) (n : Int) (A : Option Addr) (cap ln : Nat) (l : List Int) (hs : ∀ i, i < 16 → 0 ≤ s i ∧ s i ≤ 255) (hd : ∀ i, i < 16 → 0 ≤ d i ∧ d i ≤ 255) (hby : ∀ y ∈ l, 0 ≤ y ∧ y ≤ 255) (hln : ln = l.length) (hlc : l.length ≤ cap) (hlm : l.length ≤ 9000) (k : Nat) (hN : 0 ≤ n ∧ n ≤ 255) (hG : ¬ 1280 < l.length) (hk2 : k % 2 = 0) (hkl : k + 2 ≤ l.length) (w : World) (hC : Kd.C (Kd.int .u8) w A l.length l) : Calls Try.prog 30 #[Value.agg (b16 s).toArray, Value.agg (b16 d).toArray, Value.int .i64 n, .slice A ln cap, .int .i64 (k : Int)] w fun e w' => ∃ A' c', e = .returned (.tuple #[.slice A' l.length c', .int .i64 0]) ∧ w'.ownsRow w.heap.size 5 1 (.slice A' l.length c') l.length (encs (Value.int .u8) (seF l k (psF s d n (zeF l k)))) ∧ Kp w w' (fun _ => False) :=
  set_R s d n A cap ln l hs hd hby hln hlc hlm (k : Int) hN hG w hC (fun h => by omega) (fun k' h1 h2 h3 A' c' w' ho hk => by
    have e : k = k' := by omega
    subst e
    exact ⟨A', c', rfl, ho, hk⟩)
theorem R6_6_l : List.range (regOf Try.f6 6).size = [0, 1, 2, 3, 4, 5, 6, 7, 8, 9, 10] := by kernel_rfl
theorem R6_7_l : List.range (regOf Try.f6 7).size = [0, 1] := by kernel_rfl
theorem R6_8_l : List.range (regOf Try.f6 8).size = [0, 1, 2, 3, 4, 5, 6, 7, 8, 9, 10, 11] := by kernel_rfl
theorem R6_9_l : List.range (regOf Try.f6 9).size = [0, 1, 2, 3, 4, 5, 6, 7, 8, 9, 10, 11, 12, 13] := by kernel_rfl
theorem R6_10_l : List.range (regOf Try.f6 10).size = [0, 1, 2, 3, 4, 5, 6, 7, 8, 9, 10] := by kernel_rfl
theorem R6_11_l : List.range (regOf Try.f6 11).size = [0, 1, 2, 3, 4, 5, 6, 7, 8, 9, 10, 11, 12, 13, 14, 15, 16] := by kernel_rfl
theorem R6_12_l : List.range (regOf Try.f6 12).size = [0] := by kernel_rfl
theorem R6_13_l : List.range (regOf Try.f6 13).size = [0, 1, 2, 3, 4, 5, 6, 7, 8, 9, 10, 11, 12, 13, 14, 15, 16, 17, 18, 19, 20, 21] := by kernel_rfl
theorem p6_6_0 : pj (regOf Try.f6 6) 0 = some (some 61, Op.load 22 (Operand.tmp 5), 22, none) := by kernel_rfl
theorem tA22 : (Try.prog.underlying 22).map aggD = some true := by kernel_rfl
theorem tS22 : (Try.prog.info? 22).map (·.size) = some 16 := by kernel_rfl
theorem p6_6_1 : pj (regOf Try.f6 6) 1 = some (some 62, Op.load 22 (Operand.tmp 6), 22, none) := by kernel_rfl
theorem p6_6_2 : pj (regOf Try.f6 6) 2 = some (some 63, Op.move (Operand.tmp 2), 3, none) := by kernel_rfl
theorem p6_6_3 : pj (regOf Try.f6 6) 3 = some (some 64, Op.move (Operand.tmp 3), 36, none) := by kernel_rfl
theorem p6_6_4 : pj (regOf Try.f6 6) 4 = some (some 65, Op.move (Operand.tmp 4), 3, none) := by kernel_rfl
theorem p6_6_5 : pj (regOf Try.f6 6) 5 = some (some 66, Op.call { callee := Callee.value (Operand.func 30), args := #[Operand.tmp 61, Operand.tmp 62, Operand.tmp 63, Operand.tmp 64, Operand.tmp 65], argTypes := #[25, 25, 3, 36, 3] }, 37, none) := by kernel_rfl
theorem cl30 : callable Try.f30 = true := by kernel_rfl
theorem p6_6_6 : pj (regOf Try.f6 6) 6 = some (some 60, Op.move (Operand.tmp 66), 37, none) := by kernel_rfl
theorem p6_6_7 : pj (regOf Try.f6 6) 7 = some (some 67, Op.extract (Operand.tmp 60) 0, 36, none) := by kernel_rfl
theorem p6_6_8 : pj (regOf Try.f6 6) 8 = some (some 68, Op.extract (Operand.tmp 60) 1, 29, none) := by kernel_rfl
theorem p6_6_9 : pj (regOf Try.f6 6) 9 = some (some 15, Op.assign (Operand.tmp 67), 36, none) := by kernel_rfl
theorem p6_6_10 : pj (regOf Try.f6 6) 10 = some (some 16, Op.assign (Operand.tmp 68), 29, none) := by kernel_rfl
theorem p6_7_0 : pj (regOf Try.f6 7) 0 = some (some 69, Op.move (Operand.tmp 14), 3, none) := by kernel_rfl
theorem p6_7_1 : pj (regOf Try.f6 7) 1 = some (some 70, Op.binOp BinOp.neq 3 (Operand.tmp 69) (Operand.const (Value.int IntKind.i64 0)) 3, 4, none) := by kernel_rfl
theorem p6_9_0 : pj (regOf Try.f6 9) 0 = some (some 82, Op.move (Operand.tmp 4), 3, none) := by kernel_rfl
theorem p6_9_1 : pj (regOf Try.f6 9) 1 = some (some 83, Op.binOp BinOp.lss 3 (Operand.tmp 82) (Operand.const (Value.int IntKind.i64 0)) 3, 4, none) := by kernel_rfl
theorem p6_9_2 : pj (regOf Try.f6 9) 2 = some (some 84, Op.move (Operand.tmp 83), 4, none) := by kernel_rfl
theorem p6_9_3 : pj (regOf Try.f6 9) 3 = some (some 85, Op.move (Operand.tmp 4), 3, some (2, false)) := by kernel_rfl
theorem g6_9_2 : dstOf (regOf Try.f6 9) 2 = some 84 := by kernel_rfl
theorem p6_9_4 : pj (regOf Try.f6 9) 4 = some (some 86, Op.binOp BinOp.rem 3 (Operand.tmp 85) (Operand.const (Value.int IntKind.i64 2)) 3, 3, some (2, false)) := by kernel_rfl
theorem p6_9_5 : pj (regOf Try.f6 9) 5 = some (some 87, Op.binOp BinOp.neq 3 (Operand.tmp 86) (Operand.const (Value.int IntKind.i64 0)) 3, 4, some (2, false)) := by kernel_rfl
theorem p6_9_6 : pj (regOf Try.f6 9) 6 = some (some 88, Op.pick (Operand.tmp 84) (Operand.const (Value.bool true)) (Operand.tmp 87), 4, none) := by kernel_rfl
theorem p6_9_7 : pj (regOf Try.f6 9) 7 = some (some 89, Op.move (Operand.tmp 88), 4, none) := by kernel_rfl
theorem p6_9_8 : pj (regOf Try.f6 9) 8 = some (some 90, Op.move (Operand.tmp 4), 3, some (7, false)) := by kernel_rfl
theorem g6_9_7 : dstOf (regOf Try.f6 9) 7 = some 89 := by kernel_rfl
theorem p6_9_9 : pj (regOf Try.f6 9) 9 = some (some 91, Op.move (Operand.tmp 3), 36, some (7, false)) := by kernel_rfl
theorem p6_9_10 : pj (regOf Try.f6 9) 10 = some (some 92, Op.call { callee := Callee.builtin Builtin.len, args := #[Operand.tmp 91], argTypes := #[36] }, 3, some (7, false)) := by kernel_rfl
theorem p6_9_11 : pj (regOf Try.f6 9) 11 = some (some 93, Op.binOp BinOp.sub 3 (Operand.tmp 92) (Operand.const (Value.int IntKind.i64 2)) 3, 3, some (7, false)) := by kernel_rfl
theorem p6_9_12 : pj (regOf Try.f6 9) 12 = some (some 94, Op.binOp BinOp.gtr 3 (Operand.tmp 90) (Operand.tmp 93) 3, 4, some (7, false)) := by kernel_rfl
theorem p6_9_13 : pj (regOf Try.f6 9) 13 = some (some 95, Op.pick (Operand.tmp 89) (Operand.const (Value.bool true)) (Operand.tmp 94), 4, none) := by kernel_rfl
theorem p6_10_0 : pj (regOf Try.f6 10) 0 = some (some 96, Op.call { callee := Callee.value (Operand.func 31), args := #[], argTypes := #[] }, 4, none) := by kernel_rfl
theorem cl31 : callable Try.f31 = true := by kernel_rfl
theorem p6_10_1 : pj (regOf Try.f6 10) 1 = some (some 97, Op.move (Operand.tmp 96), 4, none) := by kernel_rfl
theorem p6_10_2 : pj (regOf Try.f6 10) 2 = some (some 98, Op.move (Operand.tmp 16), 29, some (1, true)) := by kernel_rfl
theorem g6_10_1 : dstOf (regOf Try.f6 10) 1 = some 97 := by kernel_rfl
theorem p6_10_3 : pj (regOf Try.f6 10) 3 = some (some 99, Op.binOp BinOp.eql 29 (Operand.tmp 98) (Operand.const (Value.int IntKind.i64 1)) 29, 4, some (1, true)) := by kernel_rfl
theorem p6_10_4 : pj (regOf Try.f6 10) 4 = some (some 100, Op.pick (Operand.tmp 97) (Operand.tmp 99) (Operand.const (Value.bool false)), 4, none) := by kernel_rfl
theorem p6_10_5 : pj (regOf Try.f6 10) 5 = some (some 101, Op.move (Operand.tmp 100), 4, none) := by kernel_rfl
theorem p6_10_6 : pj (regOf Try.f6 10) 6 = some (some 102, Op.move (Operand.tmp 15), 36, some (5, true)) := by kernel_rfl
theorem g6_10_5 : dstOf (regOf Try.f6 10) 5 = some 101 := by kernel_rfl
theorem p6_10_7 : pj (regOf Try.f6 10) 7 = some (some 103, Op.call { callee := Callee.builtin Builtin.len, args := #[Operand.tmp 102], argTypes := #[36] }, 3, some (5, true)) := by kernel_rfl
theorem p6_10_8 : pj (regOf Try.f6 10) 8 = some (some 104, Op.binOp BinOp.eql 3 (Operand.tmp 103) (Operand.const (Value.int IntKind.i64 0)) 3, 4, some (5, true)) := by kernel_rfl
theorem p6_10_9 : pj (regOf Try.f6 10) 9 = some (some 105, Op.pick (Operand.tmp 101) (Operand.tmp 104) (Operand.const (Value.bool false)), 4, none) := by kernel_rfl
theorem p6_10_10 : pj (regOf Try.f6 10) 10 = some (some 10, Op.assign (Operand.tmp 105), 4, none) := by kernel_rfl
theorem p6_11_0 : pj (regOf Try.f6 11) 0 = some (some 106, Op.move (Operand.tmp 16), 29, none) := by kernel_rfl
theorem p6_11_1 : pj (regOf Try.f6 11) 1 = some (some 107, Op.binOp BinOp.neq 29 (Operand.tmp 106) (Operand.const (Value.int IntKind.i64 0)) 29, 4, none) := by kernel_rfl
theorem p6_11_2 : pj (regOf Try.f6 11) 2 = some (some 108, Op.move (Operand.tmp 107), 4, none) := by kernel_rfl
theorem p6_11_3 : pj (regOf Try.f6 11) 3 = some (some 109, Op.move (Operand.tmp 15), 36, some (2, false)) := by kernel_rfl
theorem g6_11_2 : dstOf (regOf Try.f6 11) 2 = some 108 := by kernel_rfl
theorem p6_11_4 : pj (regOf Try.f6 11) 4 = some (some 110, Op.call { callee := Callee.builtin Builtin.len, args := #[Operand.tmp 109], argTypes := #[36] }, 3, some (2, false)) := by kernel_rfl
theorem p6_11_5 : pj (regOf Try.f6 11) 5 = some (some 111, Op.move (Operand.tmp 3), 36, some (2, false)) := by kernel_rfl
theorem p6_11_6 : pj (regOf Try.f6 11) 6 = some (some 112, Op.call { callee := Callee.builtin Builtin.len, args := #[Operand.tmp 111], argTypes := #[36] }, 3, some (2, false)) := by kernel_rfl
theorem p6_11_7 : pj (regOf Try.f6 11) 7 = some (some 113, Op.binOp BinOp.neq 3 (Operand.tmp 110) (Operand.tmp 112) 3, 4, some (2, false)) := by kernel_rfl
theorem p6_11_8 : pj (regOf Try.f6 11) 8 = some (some 114, Op.pick (Operand.tmp 108) (Operand.const (Value.bool true)) (Operand.tmp 113), 4, none) := by kernel_rfl
theorem p6_11_9 : pj (regOf Try.f6 11) 9 = some (some 115, Op.move (Operand.tmp 114), 4, none) := by kernel_rfl
theorem p6_11_10 : pj (regOf Try.f6 11) 10 = some (some 116, Op.load 22 (Operand.tmp 5), 22, some (9, false)) := by kernel_rfl
theorem g6_11_9 : dstOf (regOf Try.f6 11) 9 = some 115 := by kernel_rfl
theorem p6_11_11 : pj (regOf Try.f6 11) 11 = some (some 117, Op.load 22 (Operand.tmp 6), 22, some (9, false)) := by kernel_rfl
theorem p6_11_12 : pj (regOf Try.f6 11) 12 = some (some 118, Op.move (Operand.tmp 2), 3, some (9, false)) := by kernel_rfl
theorem p6_11_13 : pj (regOf Try.f6 11) 13 = some (some 119, Op.move (Operand.tmp 15), 36, some (9, false)) := by kernel_rfl
theorem p6_11_14 : pj (regOf Try.f6 11) 14 = some (some 120, Op.call { callee := Callee.value (Operand.func 29), args := #[Operand.tmp 116, Operand.tmp 117, Operand.tmp 118, Operand.tmp 119], argTypes := #[25, 25, 3, 36] }, 4, some (9, false)) := by kernel_rfl
theorem cl29 : callable Try.f29 = true := by kernel_rfl
theorem p6_11_15 : pj (regOf Try.f6 11) 15 = some (some 121, Op.unOp UnOp.not 4 (Operand.tmp 120), 4, some (9, false)) := by kernel_rfl
theorem p6_11_16 : pj (regOf Try.f6 11) 16 = some (some 122, Op.pick (Operand.tmp 115) (Operand.const (Value.bool true)) (Operand.tmp 121), 4, none) := by kernel_rfl
theorem ns6_13 : Region.noSelect (regOf Try.f6 13) = true := by kernel_rfl
theorem p6_13_0 : pj (regOf Try.f6 13) 0 = some (some 123, Op.call { callee := Callee.value (Operand.func 31), args := #[], argTypes := #[] }, 4, none) := by kernel_rfl
theorem p6_13_1 : pj (regOf Try.f6 13) 1 = some (some 124, Op.move (Operand.tmp 123), 4, none) := by kernel_rfl
theorem g6_13_1 : dstOf (regOf Try.f6 13) 1 = some 124 := by kernel_rfl
theorem p6_13_2 : pj (regOf Try.f6 13) 2 = some (some 125, Op.move (Operand.tmp 15), 36, some (1, true)) := by kernel_rfl
theorem p6_13_3 : pj (regOf Try.f6 13) 3 = some (some 126, Op.move (Operand.tmp 4), 3, some (1, true)) := by kernel_rfl
theorem p6_13_4 : pj (regOf Try.f6 13) 4 = some (some 127, Op.slice 36 (Operand.tmp 125) none (some (Operand.tmp 126)) none, 36, some (1, true)) := by kernel_rfl
theorem tS5 : (Try.prog.info? 5).map (·.size) = some 1 := by kernel_rfl
theorem p6_13_5 : pj (regOf Try.f6 13) 5 = some (some 128, Op.move (Operand.tmp 3), 36, some (1, true)) := by kernel_rfl
theorem p6_13_6 : pj (regOf Try.f6 13) 6 = some (some 129, Op.move (Operand.tmp 4), 3, some (1, true)) := by kernel_rfl
theorem p6_13_7 : pj (regOf Try.f6 13) 7 = some (some 130, Op.slice 36 (Operand.tmp 128) none (some (Operand.tmp 129)) none, 36, some (1, true)) := by kernel_rfl
theorem p6_13_8 : pj (regOf Try.f6 13) 8 = some (some 131, Op.call { callee := Callee.value (Operand.func 21), args := #[Operand.tmp 127, Operand.tmp 130], argTypes := #[36, 36] }, 4, some (1, true)) := by kernel_rfl
theorem cl21 : callable Try.f21 = true := by kernel_rfl
theorem p6_13_9 : pj (regOf Try.f6 13) 9 = some (some 132, Op.pick (Operand.tmp 124) (Operand.tmp 131) (Operand.const (Value.bool false)), 4, none) := by kernel_rfl
theorem p6_13_10 : pj (regOf Try.f6 13) 10 = some (some 133, Op.move (Operand.tmp 132), 4, none) := by kernel_rfl
theorem g6_13_10 : dstOf (regOf Try.f6 13) 10 = some 133 := by kernel_rfl
theorem p6_13_11 : pj (regOf Try.f6 13) 11 = some (some 134, Op.move (Operand.tmp 15), 36, some (10, true)) := by kernel_rfl
theorem p6_13_12 : pj (regOf Try.f6 13) 12 = some (some 135, Op.move (Operand.tmp 4), 3, some (10, true)) := by kernel_rfl
theorem p6_13_13 : pj (regOf Try.f6 13) 13 = some (some 136, Op.binOp BinOp.add 3 (Operand.tmp 135) (Operand.const (Value.int IntKind.i64 2)) 3, 3, some (10, true)) := by kernel_rfl
theorem p6_13_14 : pj (regOf Try.f6 13) 14 = some (some 137, Op.slice 36 (Operand.tmp 134) (some (Operand.tmp 136)) none none, 36, some (10, true)) := by kernel_rfl
theorem p6_13_15 : pj (regOf Try.f6 13) 15 = some (some 138, Op.move (Operand.tmp 3), 36, some (10, true)) := by kernel_rfl
theorem p6_13_16 : pj (regOf Try.f6 13) 16 = some (some 139, Op.move (Operand.tmp 4), 3, some (10, true)) := by kernel_rfl
theorem p6_13_17 : pj (regOf Try.f6 13) 17 = some (some 140, Op.binOp BinOp.add 3 (Operand.tmp 139) (Operand.const (Value.int IntKind.i64 2)) 3, 3, some (10, true)) := by kernel_rfl
theorem p6_13_18 : pj (regOf Try.f6 13) 18 = some (some 141, Op.slice 36 (Operand.tmp 138) (some (Operand.tmp 140)) none none, 36, some (10, true)) := by kernel_rfl
theorem p6_13_19 : pj (regOf Try.f6 13) 19 = some (some 142, Op.call { callee := Callee.value (Operand.func 21), args := #[Operand.tmp 137, Operand.tmp 141], argTypes := #[36, 36] }, 4, some (10, true)) := by kernel_rfl
theorem p6_13_20 : pj (regOf Try.f6 13) 20 = some (some 143, Op.pick (Operand.tmp 133) (Operand.tmp 142) (Operand.const (Value.bool false)), 4, none) := by kernel_rfl
theorem p6_13_21 : pj (regOf Try.f6 13) 21 = some (some 10, Op.assign (Operand.tmp 143), 4, none) := by kernel_rfl
set_option maxHeartbeats 4000000 in
theorem tail6 {R : Ending → World → Prop} (s d : Nat → Int) (n : Int) (A : Option Addr) (cap : Nat) (l : List Int) (p : Int) (w W : World) (gS gD : Nat) (B_gS : W.heap[gS]? = some (.cells (b16 s).toArray 22 (0, 0))) (B_gD : W.heap[gD]? = some (.cells (b16 d).toArray 22 (0, 0))) (n_gS_gD : gS ≠ gD) (z_0_gS : w.heap.size ≤ gS) (z_0_gD : w.heap.size ≤ gD) (K_0 : Kp w W (fun _ => False)) (hs : ∀ i, i < 16 → 0 ≤ s i ∧ s i ≤ 255) (hd : ∀ i, i < 16 → 0 ≤ d i ∧ d i ≤ 255) (hby : ∀ y ∈ l, 0 ≤ y ∧ y ≤ 255) (hlc : l.length ≤ cap) (hlm : l.length ≤ 9000) (F_l : ∀ W', Kp w W' (fun _ => False) → Kd.C (Kd.int .u8) W' A l.length l) (hN : 0 ≤ n ∧ n ≤ 255) (hG : ¬ 1280 < l.length) (hR_ : ∀ w', Kp w w' (fun _ => False) → R (.returned (.bool true)) w') (a : Act) (hE : En 144 a [(2, Value.int .i64 n), (3, Value.slice A l.length cap), (4, Value.int .i64 p), (5, Value.pointer (some ⟨gS, 0, none⟩)), (6, Value.pointer (some ⟨gD, 0, none⟩)), (14, Value.int .i64 0)]) : Code.wp Try.prog (.seq (.region 6 (regOf Try.f6 6) false) (.seq (.seq (.region 7 (regOf Try.f6 7) false) (.cond (Operand.tmp 70) (.seq (.region 8 (regOf Try.f6 8) false) (.ret)) (.skip))) (.seq (.seq (.region 9 (regOf Try.f6 9) false) (.cond (Operand.tmp 95) (.seq (.region 10 (regOf Try.f6 10) false) (.ret)) (.skip))) (.seq (.seq (.region 11 (regOf Try.f6 11) false) (.cond (Operand.tmp 122) (.seq (.region 12 (regOf Try.f6 12) false) (.ret)) (.skip))) (.seq (.region 13 (regOf Try.f6 13) true) (.ret)))))) (bodyPost Try.prog Try.f6 R) a W := by
  rcases Decidable.em (p < 0) with hlo | hlo
  ·
    refine c_reg R6_6_l ?_
    refine p_cons (s_still p6_6_0 hE wn_none rfl (st_loadN (off := 0) (k := 16) (vs := b16 s) tA22 tS22 rfl B_gS rfl rfl) ?_)
    clear hE a; intro a hE
    refine p_cons (s_still p6_6_1 hE wn_none rfl (st_loadN (off := 0) (k := 16) (vs := b16 d) tA22 tS22 rfl B_gD rfl rfl) ?_)
    clear hE a; intro a hE
    refine p_cons (s_still p6_6_2 hE wn_none rfl (st_move rfl) ?_)
    clear hE a; intro a hE
    refine p_cons (s_still p6_6_3 hE wn_none rfl (st_move rfl) ?_)
    clear hE a; intro a hE
    refine p_cons (s_still p6_6_4 hE wn_none rfl (st_move rfl) ?_)
    clear hE a; intro a hE
    refine p_cons (s_call (xs := [Operand.tmp 61, Operand.tmp 62, Operand.tmp 63, Operand.tmp 64, Operand.tmp 65]) (args := [Value.agg (b16 s).toArray, Value.agg (b16 d).toArray, Value.int .i64 n, Value.slice A l.length cap, Value.int .i64 p]) p6_6_5 hE wn_none rfl rfl Try.func30 cl30 (set_bad s d n A cap l.length l hs hd hby rfl hlc hlm p hN hG (by omega) _ (F_l _ K_0)) ?_)
    rintro e w1 ⟨rfl, hk⟩
    replace B_gS := kp_blk B_gS hk (fun h => h)
    replace B_gD := kp_blk B_gD hk (fun h => h)
    replace K_0 := K_0.then_ hk (fun _ h => h.elim)
    refine ⟨_, rfl, ?_⟩
    clear hE a; intro a hE
    refine p_cons (s_still p6_6_6 hE wn_none rfl (st_move rfl) ?_)
    clear hE a; intro a hE
    refine p_cons (s_still p6_6_7 hE wn_none rfl (st_extract rfl rfl) ?_)
    clear hE a; intro a hE
    refine p_cons (s_still p6_6_8 hE wn_none rfl (st_extract rfl rfl) ?_)
    clear hE a; intro a hE
    refine p_cons (s_still p6_6_9 hE wn_none rfl (st_assign rfl) ?_)
    clear hE a; intro a hE
    refine p_cons (s_still p6_6_10 hE wn_none rfl (st_assign rfl) ?_)
    clear hE a; intro a hE
    refine p_nil ?_
    refine x_norm ?_
    refine wp_seq ?_
    refine c_reg R6_7_l ?_
    refine p_cons (s_still p6_7_0 hE wn_none rfl (st_move rfl) ?_)
    clear hE a; intro a hE
    refine p_cons (s_still p6_7_1 hE wn_none rfl (st_neq (b := false) rfl rfl (by decide)) ?_)
    clear hE a; intro a hE
    refine p_nil ?_
    refine x_norm ?_
    refine c_cond (t := false) hE rfl ?_
    refine wp_skip ?_
    refine x_norm ?_
    refine wp_seq ?_
    refine c_reg R6_9_l ?_
    refine p_cons (s_still p6_9_0 hE wn_none rfl (st_move rfl) ?_)
    clear hE a; intro a hE
    refine p_cons (s_still p6_9_1 hE wn_none rfl (st_lss (b := true) rfl rfl (decide_eq_true (by omega))) ?_)
    clear hE a; intro a hE
    refine p_cons (s_still p6_9_2 hE wn_none rfl (st_move rfl) ?_)
    clear hE a; intro a hE
    refine p_cons (s_skip p6_9_3 hE (wn_some g6_9_2 rfl rfl) rfl ?_)
    clear hE a; intro a hE
    refine p_cons (s_skip p6_9_4 hE (wn_some g6_9_2 rfl rfl) rfl ?_)
    clear hE a; intro a hE
    refine p_cons (s_skip p6_9_5 hE (wn_some g6_9_2 rfl rfl) rfl ?_)
    clear hE a; intro a hE
    refine p_cons (s_still p6_9_6 hE wn_none rfl (st_pick rfl rfl) ?_)
    clear hE a; intro a hE
    refine p_cons (s_still p6_9_7 hE wn_none rfl (st_move rfl) ?_)
    clear hE a; intro a hE
    refine p_cons (s_skip p6_9_8 hE (wn_some g6_9_7 rfl rfl) rfl ?_)
    clear hE a; intro a hE
    refine p_cons (s_skip p6_9_9 hE (wn_some g6_9_7 rfl rfl) rfl ?_)
    clear hE a; intro a hE
    refine p_cons (s_skip p6_9_10 hE (wn_some g6_9_7 rfl rfl) rfl ?_)
    clear hE a; intro a hE
    refine p_cons (s_skip p6_9_11 hE (wn_some g6_9_7 rfl rfl) rfl ?_)
    clear hE a; intro a hE
    refine p_cons (s_skip p6_9_12 hE (wn_some g6_9_7 rfl rfl) rfl ?_)
    clear hE a; intro a hE
    refine p_cons (s_still p6_9_13 hE wn_none rfl (st_pick rfl rfl) ?_)
    clear hE a; intro a hE
    refine p_nil ?_
    refine x_norm ?_
    refine c_cond (t := true) hE rfl ?_
    refine c_reg R6_10_l ?_
    refine p_cons (s_call (xs := []) (args := []) p6_10_0 hE wn_none rfl rfl Try.func31 cl31 (known_any _) ?_)
    rintro e w2 ⟨rfl, hb⟩
    have hk := Kp.of_below hb (fun _ => False)
    replace B_gS := kp_blk B_gS hk (fun h => h)
    replace B_gD := kp_blk B_gD hk (fun h => h)
    replace K_0 := K_0.then_ hk (fun _ h => h.elim)
    refine ⟨_, rfl, ?_⟩
    clear hE a; intro a hE
    refine p_cons (s_still p6_10_1 hE wn_none rfl (st_move rfl) ?_)
    clear hE a; intro a hE
    refine p_cons (s_still p6_10_2 hE (wn_some g6_10_1 rfl rfl) rfl (st_move rfl) ?_)
    clear hE a; intro a hE
    refine p_cons (s_still p6_10_3 hE (wn_some g6_10_1 rfl rfl) rfl (st_eql (b := true) rfl rfl (by decide)) ?_)
    clear hE a; intro a hE
    refine p_cons (s_still p6_10_4 hE wn_none rfl (st_pick rfl rfl) ?_)
    clear hE a; intro a hE
    refine p_cons (s_still p6_10_5 hE wn_none rfl (st_move rfl) ?_)
    clear hE a; intro a hE
    refine p_cons (s_still p6_10_6 hE (wn_some g6_10_5 rfl rfl) rfl (st_move rfl) ?_)
    clear hE a; intro a hE
    refine p_cons (s_still p6_10_7 hE (wn_some g6_10_5 rfl rfl) rfl (st_len Try.underlying36 rfl) ?_)
    clear hE a; intro a hE
    refine p_cons (s_still p6_10_8 hE (wn_some g6_10_5 rfl rfl) rfl (st_eql (b := true) rfl rfl (by decide)) ?_)
    clear hE a; intro a hE
    refine p_cons (s_still p6_10_9 hE wn_none rfl (st_pick rfl rfl) ?_)
    clear hE a; intro a hE
    refine p_cons (s_still p6_10_10 hE wn_none rfl (st_assign rfl) ?_)
    clear hE a; intro a hE
    refine p_nil ?_
    refine x_norm ?_
    refine wp_ret ?_
    refine x_ret ?_
    refine ret_one (v := Value.bool true) rfl hE (.tmp rfl .nil) ?_
    exact hR_ _ K_0
  ·
    rcases Decidable.em (p % 2 = 0) with hev | hev
    ·
      rcases Decidable.em ((l.length : Int) - 2 < p) with hhi | hhi
      ·
        refine c_reg R6_6_l ?_
        refine p_cons (s_still p6_6_0 hE wn_none rfl (st_loadN (off := 0) (k := 16) (vs := b16 s) tA22 tS22 rfl B_gS rfl rfl) ?_)
        clear hE a; intro a hE
        refine p_cons (s_still p6_6_1 hE wn_none rfl (st_loadN (off := 0) (k := 16) (vs := b16 d) tA22 tS22 rfl B_gD rfl rfl) ?_)
        clear hE a; intro a hE
        refine p_cons (s_still p6_6_2 hE wn_none rfl (st_move rfl) ?_)
        clear hE a; intro a hE
        refine p_cons (s_still p6_6_3 hE wn_none rfl (st_move rfl) ?_)
        clear hE a; intro a hE
        refine p_cons (s_still p6_6_4 hE wn_none rfl (st_move rfl) ?_)
        clear hE a; intro a hE
        refine p_cons (s_call (xs := [Operand.tmp 61, Operand.tmp 62, Operand.tmp 63, Operand.tmp 64, Operand.tmp 65]) (args := [Value.agg (b16 s).toArray, Value.agg (b16 d).toArray, Value.int .i64 n, Value.slice A l.length cap, Value.int .i64 p]) p6_6_5 hE wn_none rfl rfl Try.func30 cl30 (set_bad s d n A cap l.length l hs hd hby rfl hlc hlm p hN hG (by omega) _ (F_l _ K_0)) ?_)
        rintro e w3 ⟨rfl, hk⟩
        replace B_gS := kp_blk B_gS hk (fun h => h)
        replace B_gD := kp_blk B_gD hk (fun h => h)
        replace K_0 := K_0.then_ hk (fun _ h => h.elim)
        refine ⟨_, rfl, ?_⟩
        clear hE a; intro a hE
        refine p_cons (s_still p6_6_6 hE wn_none rfl (st_move rfl) ?_)
        clear hE a; intro a hE
        refine p_cons (s_still p6_6_7 hE wn_none rfl (st_extract rfl rfl) ?_)
        clear hE a; intro a hE
        refine p_cons (s_still p6_6_8 hE wn_none rfl (st_extract rfl rfl) ?_)
        clear hE a; intro a hE
        refine p_cons (s_still p6_6_9 hE wn_none rfl (st_assign rfl) ?_)
        clear hE a; intro a hE
        refine p_cons (s_still p6_6_10 hE wn_none rfl (st_assign rfl) ?_)
        clear hE a; intro a hE
        refine p_nil ?_
        refine x_norm ?_
        refine wp_seq ?_
        refine c_reg R6_7_l ?_
        refine p_cons (s_still p6_7_0 hE wn_none rfl (st_move rfl) ?_)
        clear hE a; intro a hE
        refine p_cons (s_still p6_7_1 hE wn_none rfl (st_neq (b := false) rfl rfl (by decide)) ?_)
        clear hE a; intro a hE
        refine p_nil ?_
        refine x_norm ?_
        refine c_cond (t := false) hE rfl ?_
        refine wp_skip ?_
        refine x_norm ?_
        refine wp_seq ?_
        refine c_reg R6_9_l ?_
        refine p_cons (s_still p6_9_0 hE wn_none rfl (st_move rfl) ?_)
        clear hE a; intro a hE
        refine p_cons (s_still p6_9_1 hE wn_none rfl (st_lss (b := false) rfl rfl (decide_eq_false (by omega))) ?_)
        clear hE a; intro a hE
        refine p_cons (s_still p6_9_2 hE wn_none rfl (st_move rfl) ?_)
        clear hE a; intro a hE
        refine p_cons (s_still p6_9_3 hE (wn_some g6_9_2 rfl rfl) rfl (st_move rfl) ?_)
        clear hE a; intro a hE
        refine p_cons (s_still p6_9_4 hE (wn_some g6_9_2 rfl rfl) rfl (st_rem (z := p % 2) rfl rfl (by decide) (Int.tmod_eq_emod_of_nonneg (by omega))) ?_)
        clear hE a; intro a hE
        refine p_cons (s_still p6_9_5 hE (wn_some g6_9_2 rfl rfl) rfl (st_neq (b := false) rfl rfl (by simp; omega)) ?_)
        clear hE a; intro a hE
        refine p_cons (s_still p6_9_6 hE wn_none rfl (st_pick rfl rfl) ?_)
        clear hE a; intro a hE
        refine p_cons (s_still p6_9_7 hE wn_none rfl (st_move rfl) ?_)
        clear hE a; intro a hE
        refine p_cons (s_still p6_9_8 hE (wn_some g6_9_7 rfl rfl) rfl (st_move rfl) ?_)
        clear hE a; intro a hE
        refine p_cons (s_still p6_9_9 hE (wn_some g6_9_7 rfl rfl) rfl (st_move rfl) ?_)
        clear hE a; intro a hE
        refine p_cons (s_still p6_9_10 hE (wn_some g6_9_7 rfl rfl) rfl (st_len Try.underlying36 rfl) ?_)
        clear hE a; intro a hE
        refine p_cons (s_still p6_9_11 hE (wn_some g6_9_7 rfl rfl) rfl (st_sub (z := (l.length : Int) - 2) rfl rfl (wr_i64 _ (by omega) (by omega))) ?_)
        clear hE a; intro a hE
        refine p_cons (s_still p6_9_12 hE (wn_some g6_9_7 rfl rfl) rfl (st_gtr (b := true) rfl rfl (decide_eq_true (by omega))) ?_)
        clear hE a; intro a hE
        refine p_cons (s_still p6_9_13 hE wn_none rfl (st_pick rfl rfl) ?_)
        clear hE a; intro a hE
        refine p_nil ?_
        refine x_norm ?_
        refine c_cond (t := true) hE rfl ?_
        refine c_reg R6_10_l ?_
        refine p_cons (s_call (xs := []) (args := []) p6_10_0 hE wn_none rfl rfl Try.func31 cl31 (known_any _) ?_)
        rintro e w4 ⟨rfl, hb⟩
        have hk := Kp.of_below hb (fun _ => False)
        replace B_gS := kp_blk B_gS hk (fun h => h)
        replace B_gD := kp_blk B_gD hk (fun h => h)
        replace K_0 := K_0.then_ hk (fun _ h => h.elim)
        refine ⟨_, rfl, ?_⟩
        clear hE a; intro a hE
        refine p_cons (s_still p6_10_1 hE wn_none rfl (st_move rfl) ?_)
        clear hE a; intro a hE
        refine p_cons (s_still p6_10_2 hE (wn_some g6_10_1 rfl rfl) rfl (st_move rfl) ?_)
        clear hE a; intro a hE
        refine p_cons (s_still p6_10_3 hE (wn_some g6_10_1 rfl rfl) rfl (st_eql (b := true) rfl rfl (by decide)) ?_)
        clear hE a; intro a hE
        refine p_cons (s_still p6_10_4 hE wn_none rfl (st_pick rfl rfl) ?_)
        clear hE a; intro a hE
        refine p_cons (s_still p6_10_5 hE wn_none rfl (st_move rfl) ?_)
        clear hE a; intro a hE
        refine p_cons (s_still p6_10_6 hE (wn_some g6_10_5 rfl rfl) rfl (st_move rfl) ?_)
        clear hE a; intro a hE
        refine p_cons (s_still p6_10_7 hE (wn_some g6_10_5 rfl rfl) rfl (st_len Try.underlying36 rfl) ?_)
        clear hE a; intro a hE
        refine p_cons (s_still p6_10_8 hE (wn_some g6_10_5 rfl rfl) rfl (st_eql (b := true) rfl rfl (by decide)) ?_)
        clear hE a; intro a hE
        refine p_cons (s_still p6_10_9 hE wn_none rfl (st_pick rfl rfl) ?_)
        clear hE a; intro a hE
        refine p_cons (s_still p6_10_10 hE wn_none rfl (st_assign rfl) ?_)
        clear hE a; intro a hE
        refine p_nil ?_
        refine x_norm ?_
        refine wp_ret ?_
        refine x_ret ?_
        refine ret_one (v := Value.bool true) rfl hE (.tmp rfl .nil) ?_
        exact hR_ _ K_0
      ·
        obtain ⟨k, rfl⟩ : ∃ k : Nat, p = (k : Int) := ⟨p.toNat, by omega⟩
        have hzb := ze_bd (k := k) hby
        have hpz := ps_bd (rows_bd (n := n) (l := zeF l k) hs hd hzb)
        refine c_reg R6_6_l ?_
        refine p_cons (s_still p6_6_0 hE wn_none rfl (st_loadN (off := 0) (k := 16) (vs := b16 s) tA22 tS22 rfl B_gS rfl rfl) ?_)
        clear hE a; intro a hE
        refine p_cons (s_still p6_6_1 hE wn_none rfl (st_loadN (off := 0) (k := 16) (vs := b16 d) tA22 tS22 rfl B_gD rfl rfl) ?_)
        clear hE a; intro a hE
        refine p_cons (s_still p6_6_2 hE wn_none rfl (st_move rfl) ?_)
        clear hE a; intro a hE
        refine p_cons (s_still p6_6_3 hE wn_none rfl (st_move rfl) ?_)
        clear hE a; intro a hE
        refine p_cons (s_still p6_6_4 hE wn_none rfl (st_move rfl) ?_)
        clear hE a; intro a hE
        have hnb_gS := blk_lt B_gS
        have hnb_gD := blk_lt B_gD
        have hnz_0 := K_0.kept.1
        refine p_cons (s_call (xs := [Operand.tmp 61, Operand.tmp 62, Operand.tmp 63, Operand.tmp 64, Operand.tmp 65]) (args := [Value.agg (b16 s).toArray, Value.agg (b16 d).toArray, Value.int .i64 n, Value.slice A l.length cap, Value.int .i64 (k : Int)]) p6_6_5 hE wn_none rfl rfl Try.func30 cl30 (set_ok s d n A cap l.length l hs hd hby rfl hlc hlm k hN hG (by omega) (by omega) _ (F_l _ K_0)) ?_)
        rintro e w8 ⟨A6, c7, rfl, O_q5, hk⟩
        replace B_gS := kp_blk B_gS hk (fun h => h)
        replace B_gD := kp_blk B_gD hk (fun h => h)
        replace K_0 := K_0.then_ hk (fun _ h => h.elim)
        have Nb_q5_gS : ¬ OB A6 gS := fun h => by have := (own_ob O_q5 h).1; have := hnb_gS; omega
        have Nb_q5_gD : ¬ OB A6 gD := fun h => by have := (own_ob O_q5 h).1; have := hnb_gD; omega
        have Z_0_q5 : ∀ k, OB A6 k → (fun _ => False) k ∨ w.heap.size ≤ k := fun k h => .inr (by have := (own_ob O_q5 h).1; have := hnz_0; omega)
        replace O_q5 := own_lower O_q5 hnz_0
        refine ⟨_, rfl, ?_⟩
        clear hE a; intro a hE
        refine p_cons (s_still p6_6_6 hE wn_none rfl (st_move rfl) ?_)
        clear hE a; intro a hE
        refine p_cons (s_still p6_6_7 hE wn_none rfl (st_extract rfl rfl) ?_)
        clear hE a; intro a hE
        refine p_cons (s_still p6_6_8 hE wn_none rfl (st_extract rfl rfl) ?_)
        clear hE a; intro a hE
        refine p_cons (s_still p6_6_9 hE wn_none rfl (st_assign rfl) ?_)
        clear hE a; intro a hE
        refine p_cons (s_still p6_6_10 hE wn_none rfl (st_assign rfl) ?_)
        clear hE a; intro a hE
        refine p_nil ?_
        refine x_norm ?_
        refine wp_seq ?_
        refine c_reg R6_7_l ?_
        refine p_cons (s_still p6_7_0 hE wn_none rfl (st_move rfl) ?_)
        clear hE a; intro a hE
        refine p_cons (s_still p6_7_1 hE wn_none rfl (st_neq (b := false) rfl rfl (by decide)) ?_)
        clear hE a; intro a hE
        refine p_nil ?_
        refine x_norm ?_
        refine c_cond (t := false) hE rfl ?_
        refine wp_skip ?_
        refine x_norm ?_
        refine wp_seq ?_
        refine c_reg R6_9_l ?_
        refine p_cons (s_still p6_9_0 hE wn_none rfl (st_move rfl) ?_)
        clear hE a; intro a hE
        refine p_cons (s_still p6_9_1 hE wn_none rfl (st_lss (b := false) rfl rfl (decide_eq_false (by omega))) ?_)
        clear hE a; intro a hE
        refine p_cons (s_still p6_9_2 hE wn_none rfl (st_move rfl) ?_)
        clear hE a; intro a hE
        refine p_cons (s_still p6_9_3 hE (wn_some g6_9_2 rfl rfl) rfl (st_move rfl) ?_)
        clear hE a; intro a hE
        refine p_cons (s_still p6_9_4 hE (wn_some g6_9_2 rfl rfl) rfl (st_rem (z := (k : Int) % 2) rfl rfl (by decide) (Int.tmod_eq_emod_of_nonneg (by omega))) ?_)
        clear hE a; intro a hE
        refine p_cons (s_still p6_9_5 hE (wn_some g6_9_2 rfl rfl) rfl (st_neq (b := false) rfl rfl (by simp; omega)) ?_)
        clear hE a; intro a hE
        refine p_cons (s_still p6_9_6 hE wn_none rfl (st_pick rfl rfl) ?_)
        clear hE a; intro a hE
        refine p_cons (s_still p6_9_7 hE wn_none rfl (st_move rfl) ?_)
        clear hE a; intro a hE
        refine p_cons (s_still p6_9_8 hE (wn_some g6_9_7 rfl rfl) rfl (st_move rfl) ?_)
        clear hE a; intro a hE
        refine p_cons (s_still p6_9_9 hE (wn_some g6_9_7 rfl rfl) rfl (st_move rfl) ?_)
        clear hE a; intro a hE
        refine p_cons (s_still p6_9_10 hE (wn_some g6_9_7 rfl rfl) rfl (st_len Try.underlying36 rfl) ?_)
        clear hE a; intro a hE
        refine p_cons (s_still p6_9_11 hE (wn_some g6_9_7 rfl rfl) rfl (st_sub (z := (l.length : Int) - 2) rfl rfl (wr_i64 _ (by omega) (by omega))) ?_)
        clear hE a; intro a hE
        refine p_cons (s_still p6_9_12 hE (wn_some g6_9_7 rfl rfl) rfl (st_gtr (b := false) rfl rfl (decide_eq_false (by omega))) ?_)
        clear hE a; intro a hE
        refine p_cons (s_still p6_9_13 hE wn_none rfl (st_pick rfl rfl) ?_)
        clear hE a; intro a hE
        refine p_nil ?_
        refine x_norm ?_
        refine c_cond (t := false) hE rfl ?_
        refine wp_skip ?_
        refine x_norm ?_
        refine wp_seq ?_
        refine c_reg R6_11_l ?_
        refine p_cons (s_still p6_11_0 hE wn_none rfl (st_move rfl) ?_)
        clear hE a; intro a hE
        refine p_cons (s_still p6_11_1 hE wn_none rfl (st_neq (b := false) rfl rfl (by decide)) ?_)
        clear hE a; intro a hE
        refine p_cons (s_still p6_11_2 hE wn_none rfl (st_move rfl) ?_)
        clear hE a; intro a hE
        refine p_cons (s_still p6_11_3 hE (wn_some g6_11_2 rfl rfl) rfl (st_move rfl) ?_)
        clear hE a; intro a hE
        refine p_cons (s_still p6_11_4 hE (wn_some g6_11_2 rfl rfl) rfl (st_len Try.underlying36 rfl) ?_)
        clear hE a; intro a hE
        refine p_cons (s_still p6_11_5 hE (wn_some g6_11_2 rfl rfl) rfl (st_move rfl) ?_)
        clear hE a; intro a hE
        refine p_cons (s_still p6_11_6 hE (wn_some g6_11_2 rfl rfl) rfl (st_len Try.underlying36 rfl) ?_)
        clear hE a; intro a hE
        refine p_cons (s_still p6_11_7 hE (wn_some g6_11_2 rfl rfl) rfl (st_neq (b := false) rfl rfl (by simp)) ?_)
        clear hE a; intro a hE
        refine p_cons (s_still p6_11_8 hE wn_none rfl (st_pick rfl rfl) ?_)
        clear hE a; intro a hE
        refine p_cons (s_still p6_11_9 hE wn_none rfl (st_move rfl) ?_)
        clear hE a; intro a hE
        refine p_cons (s_still p6_11_10 hE (wn_some g6_11_9 rfl rfl) rfl (st_loadN (off := 0) (k := 16) (vs := b16 s) tA22 tS22 rfl B_gS rfl rfl) ?_)
        clear hE a; intro a hE
        refine p_cons (s_still p6_11_11 hE (wn_some g6_11_9 rfl rfl) rfl (st_loadN (off := 0) (k := 16) (vs := b16 d) tA22 tS22 rfl B_gD rfl rfl) ?_)
        clear hE a; intro a hE
        refine p_cons (s_still p6_11_12 hE (wn_some g6_11_9 rfl rfl) rfl (st_move rfl) ?_)
        clear hE a; intro a hE
        refine p_cons (s_still p6_11_13 hE (wn_some g6_11_9 rfl rfl) rfl (st_move rfl) ?_)
        clear hE a; intro a hE
        refine p_cons (s_call (xs := [Operand.tmp 116, Operand.tmp 117, Operand.tmp 118, Operand.tmp 119]) (args := [Value.agg (b16 s).toArray, Value.agg (b16 d).toArray, Value.int .i64 n, Value.slice A6 l.length c7]) p6_11_14 hE (wn_some g6_11_9 rfl rfl) rfl rfl Try.func29 cl29 (chk_ok s d n A6 c7 l.length (seF l k (psF s d n (zeF l k))) hs hd (se_bd hs hd hby) (se_len l k _).symm (by rw [se_len]; exact (own_caps O_q5).1) (by rw [se_len]; exact hlm) hN (by rw [se_len]; exact hG) true (decide_eq_true (set_zero s d n l k hs hd hby (by omega) (by omega))) _ (by rw [se_len]; exact (own_told O_q5))) ?_)
        rintro e w9 ⟨rfl, hk⟩
        replace B_gS := kp_blk B_gS hk (fun h => h)
        replace B_gD := kp_blk B_gD hk (fun h => h)
        replace O_q5 := own_keep O_q5 hk (fun _ _ h => h)
        replace K_0 := K_0.then_ hk (fun _ h => h.elim)
        refine ⟨_, rfl, ?_⟩
        clear hE a; intro a hE
        refine p_cons (s_still p6_11_15 hE (wn_some g6_11_9 rfl rfl) rfl (st_not rfl rfl) ?_)
        clear hE a; intro a hE
        refine p_cons (s_still p6_11_16 hE wn_none rfl (st_pick rfl rfl) ?_)
        clear hE a; intro a hE
        refine p_nil ?_
        refine x_norm ?_
        refine c_cond (t := false) hE rfl ?_
        refine wp_skip ?_
        refine x_norm ?_
        obtain ⟨A8, hA8⟩ : ∃ A', (if c7 = k + 2 then A6 else A6.map (·.add ((k + 2) * 1))) = A' := ⟨_, rfl⟩
        obtain ⟨A7, hA7⟩ : ∃ A', (if cap = k + 2 then A else A.map (·.add ((k + 2) * 1))) = A' := ⟨_, rfl⟩
        refine c_drawS (S := fun W => W.heap[gS]? = some (.cells (b16 s).toArray 22 (0, 0)) ∧ W.heap[gD]? = some (.cells (b16 d).toArray 22 (0, 0)) ∧ True) rfl rfl (listed := #[false, false, false, false, false, false, false, false, false, false, false, false, false, false, false, false, false, false, false, false, false, false]) rfl ?_
        intro w10 hh hk
        replace B_gS := kp_blk B_gS hk (fun h => h)
        replace B_gD := kp_blk B_gD hk (fun h => h)
        replace O_q5 := own_keep O_q5 hk (fun _ _ h => h)
        replace K_0 := K_0.then_ hk (fun _ h => h.elim)
        clear hh hk
        refine d_one (by kernel_rfl) rfl (s_call (xs := []) (args := []) p6_13_0 hE wn_none rfl rfl Try.func31 cl31 (known_any _) ?_)
        rintro e w11 ⟨rfl, hb⟩
        have hk := Kp.of_below hb (fun _ => False)
        replace B_gS := kp_blk B_gS hk (fun h => h)
        replace B_gD := kp_blk B_gD hk (fun h => h)
        replace O_q5 := own_keep O_q5 hk (fun _ _ h => h)
        replace K_0 := K_0.then_ hk (fun _ h => h.elim)
        refine ⟨_, rfl, ?_⟩
        clear hE a; intro a hE
        refine ⟨⟨B_gS, B_gD, trivial⟩, ?_⟩
        refine d_take (v := Value.bool true) p6_13_1 ns6_13 (by kernel_rfl) (by kernel_rfl) (fun _ _ _ h => h) hE wn_none rfl ⟨B_gS, B_gD, trivial⟩ (fun W hS => (st_move rfl)) rfl ?_
        clear hE a; intro a hE
        refine d_take (v := Value.slice A6 l.length c7) p6_13_2 ns6_13 (by kernel_rfl) (by kernel_rfl) (fun _ _ _ h => h) hE (wn_some g6_13_1 rfl rfl) rfl ⟨B_gS, B_gD, trivial⟩ (fun W hS => (st_move rfl)) rfl ?_
        clear hE a; intro a hE
        refine d_take (v := Value.int .i64 (k : Int)) p6_13_3 ns6_13 (by kernel_rfl) (by kernel_rfl) (fun _ _ _ h => h) hE (wn_some g6_13_1 rfl rfl) rfl ⟨B_gS, B_gD, trivial⟩ (fun W hS => (st_move rfl)) rfl ?_
        clear hE a; intro a hE
        refine d_take (v := Value.slice A6 k c7) p6_13_4 ns6_13 (by kernel_rfl) (by kernel_rfl) (fun _ _ _ h => h) hE (wn_some g6_13_1 rfl rfl) rfl ⟨B_gS, B_gD, trivial⟩ (fun W hS => (st_sliceH (h := k) Try.underlying36 tS5 rfl rfl (by have := (own_caps O_q5).1; omega))) rfl ?_
        clear hE a; intro a hE
        refine d_take (v := Value.slice A l.length cap) p6_13_5 ns6_13 (by kernel_rfl) (by kernel_rfl) (fun _ _ _ h => h) hE (wn_some g6_13_1 rfl rfl) rfl ⟨B_gS, B_gD, trivial⟩ (fun W hS => (st_move rfl)) rfl ?_
        clear hE a; intro a hE
        refine d_take (v := Value.int .i64 (k : Int)) p6_13_6 ns6_13 (by kernel_rfl) (by kernel_rfl) (fun _ _ _ h => h) hE (wn_some g6_13_1 rfl rfl) rfl ⟨B_gS, B_gD, trivial⟩ (fun W hS => (st_move rfl)) rfl ?_
        clear hE a; intro a hE
        refine d_take (v := Value.slice A k cap) p6_13_7 ns6_13 (by kernel_rfl) (by kernel_rfl) (fun _ _ _ h => h) hE (wn_some g6_13_1 rfl rfl) rfl ⟨B_gS, B_gD, trivial⟩ (fun W hS => (st_sliceH (h := k) Try.underlying36 tS5 rfl rfl (by have := hlc; omega))) rfl ?_
        clear hE a; intro a hE
        refine d_one (by kernel_rfl) rfl (s_call (xs := [Operand.tmp 127, Operand.tmp 130]) (args := [Value.slice A6 k c7, Value.slice A k cap]) p6_13_8 hE (wn_some g6_13_1 rfl rfl) rfl rfl Try.func21 cl21 (sameN A6 A c7 cap k k ((seF l k (psF s d n (zeF l k))).take k) (l.take k) (se_take l k _) _ (C_take (own_told O_q5) (by omega)) (by have := (own_caps O_q5).1; omega) (C_take (F_l _ K_0) (by omega)) (by have := hlc; omega) (by omega)) ?_)
        rintro e w12 ⟨rfl, hk⟩
        replace B_gS := kp_blk B_gS hk (fun h => h)
        replace B_gD := kp_blk B_gD hk (fun h => h)
        replace O_q5 := own_keep O_q5 hk (fun _ _ h => h)
        replace K_0 := K_0.then_ hk (fun _ h => h.elim)
        refine ⟨_, rfl, ?_⟩
        clear hE a; intro a hE
        refine ⟨⟨B_gS, B_gD, trivial⟩, ?_⟩
        refine d_take (v := Value.bool true) p6_13_9 ns6_13 (by kernel_rfl) (by kernel_rfl) (fun _ _ _ h => h) hE wn_none rfl ⟨B_gS, B_gD, trivial⟩ (fun W hS => (st_pick rfl rfl)) rfl ?_
        clear hE a; intro a hE
        refine d_take (v := Value.bool true) p6_13_10 ns6_13 (by kernel_rfl) (by kernel_rfl) (fun _ _ _ h => h) hE wn_none rfl ⟨B_gS, B_gD, trivial⟩ (fun W hS => (st_move rfl)) rfl ?_
        clear hE a; intro a hE
        refine d_take (v := Value.slice A6 l.length c7) p6_13_11 ns6_13 (by kernel_rfl) (by kernel_rfl) (fun _ _ _ h => h) hE (wn_some g6_13_10 rfl rfl) rfl ⟨B_gS, B_gD, trivial⟩ (fun W hS => (st_move rfl)) rfl ?_
        clear hE a; intro a hE
        refine d_take (v := Value.int .i64 (k : Int)) p6_13_12 ns6_13 (by kernel_rfl) (by kernel_rfl) (fun _ _ _ h => h) hE (wn_some g6_13_10 rfl rfl) rfl ⟨B_gS, B_gD, trivial⟩ (fun W hS => (st_move rfl)) rfl ?_
        clear hE a; intro a hE
        refine d_take (v := Value.int .i64 ((k : Int) + 2)) p6_13_13 ns6_13 (by kernel_rfl) (by kernel_rfl) (fun _ _ _ h => h) hE (wn_some g6_13_10 rfl rfl) rfl ⟨B_gS, B_gD, trivial⟩ (fun W hS => (st_add (z := (k : Int) + 2) rfl rfl (wr_i64 _ (by omega) (by omega)))) rfl ?_
        clear hE a; intro a hE
        refine d_take (v := Value.slice A8 (l.length - (k + 2)) (c7 - (k + 2))) p6_13_14 ns6_13 (by kernel_rfl) (by kernel_rfl) (fun _ _ _ h => h) hE (wn_some g6_13_10 rfl rfl) rfl ⟨B_gS, B_gD, trivial⟩ (fun W hS => (st_sliceL (lo := k + 2) (r := l.length - (k + 2)) (q := c7 - (k + 2)) (A' := A8) Try.underlying36 tS5 rfl rfl (by omega) rfl rfl hA8)) rfl ?_
        clear hE a; intro a hE
        refine d_take (v := Value.slice A l.length cap) p6_13_15 ns6_13 (by kernel_rfl) (by kernel_rfl) (fun _ _ _ h => h) hE (wn_some g6_13_10 rfl rfl) rfl ⟨B_gS, B_gD, trivial⟩ (fun W hS => (st_move rfl)) rfl ?_
        clear hE a; intro a hE
        refine d_take (v := Value.int .i64 (k : Int)) p6_13_16 ns6_13 (by kernel_rfl) (by kernel_rfl) (fun _ _ _ h => h) hE (wn_some g6_13_10 rfl rfl) rfl ⟨B_gS, B_gD, trivial⟩ (fun W hS => (st_move rfl)) rfl ?_
        clear hE a; intro a hE
        refine d_take (v := Value.int .i64 ((k : Int) + 2)) p6_13_17 ns6_13 (by kernel_rfl) (by kernel_rfl) (fun _ _ _ h => h) hE (wn_some g6_13_10 rfl rfl) rfl ⟨B_gS, B_gD, trivial⟩ (fun W hS => (st_add (z := (k : Int) + 2) rfl rfl (wr_i64 _ (by omega) (by omega)))) rfl ?_
        clear hE a; intro a hE
        refine d_take (v := Value.slice A7 (l.length - (k + 2)) (cap - (k + 2))) p6_13_18 ns6_13 (by kernel_rfl) (by kernel_rfl) (fun _ _ _ h => h) hE (wn_some g6_13_10 rfl rfl) rfl ⟨B_gS, B_gD, trivial⟩ (fun W hS => (st_sliceL (lo := k + 2) (r := l.length - (k + 2)) (q := cap - (k + 2)) (A' := A7) Try.underlying36 tS5 rfl rfl (by omega) rfl rfl hA7)) rfl ?_
        clear hE a; intro a hE
        refine d_one (by kernel_rfl) rfl (s_call (xs := [Operand.tmp 137, Operand.tmp 141]) (args := [Value.slice A8 (l.length - (k + 2)) (c7 - (k + 2)), Value.slice A7 (l.length - (k + 2)) (cap - (k + 2))]) p6_13_19 hE (wn_some g6_13_10 rfl rfl) rfl rfl Try.func21 cl21 (sameN A8 A7 (c7 - (k + 2)) (cap - (k + 2)) (l.length - (k + 2)) (l.length - (k + 2)) ((seF l k (psF s d n (zeF l k))).drop (k + 2)) (l.drop (k + 2)) (se_drop l k _) _ (cut_rowA (own_told O_q5) (own_caps O_q5).1 (by omega) (by omega) hA8) (by have := (own_caps O_q5).1; omega) (cut_rowA (F_l _ K_0) hlc (by omega) (by omega) hA7) (by have := hlc; omega) (by omega)) ?_)
        rintro e w13 ⟨rfl, hk⟩
        replace B_gS := kp_blk B_gS hk (fun h => h)
        replace B_gD := kp_blk B_gD hk (fun h => h)
        replace O_q5 := own_keep O_q5 hk (fun _ _ h => h)
        replace K_0 := K_0.then_ hk (fun _ h => h.elim)
        refine ⟨_, rfl, ?_⟩
        clear hE a; intro a hE
        refine ⟨⟨B_gS, B_gD, trivial⟩, ?_⟩
        refine d_take (v := Value.bool true) p6_13_20 ns6_13 (by kernel_rfl) (by kernel_rfl) (fun _ _ _ h => h) hE wn_none rfl ⟨B_gS, B_gD, trivial⟩ (fun W hS => (st_pick rfl rfl)) rfl ?_
        clear hE a; intro a hE
        refine d_take (v := Value.bool true) p6_13_21 ns6_13 (by kernel_rfl) (by kernel_rfl) (fun _ _ _ h => h) hE wn_none rfl ⟨B_gS, B_gD, trivial⟩ (fun W hS => (st_assign rfl)) rfl ?_
        clear hE a; intro a hE
        refine d_end (by kernel_rfl) ?_
        refine x_norm ?_
        refine wp_ret ?_
        refine ret_one (v := Value.bool true) rfl hE (.tmp rfl .nil) ?_
        exact hR_ _ K_0
    ·
      refine c_reg R6_6_l ?_
      refine p_cons (s_still p6_6_0 hE wn_none rfl (st_loadN (off := 0) (k := 16) (vs := b16 s) tA22 tS22 rfl B_gS rfl rfl) ?_)
      clear hE a; intro a hE
      refine p_cons (s_still p6_6_1 hE wn_none rfl (st_loadN (off := 0) (k := 16) (vs := b16 d) tA22 tS22 rfl B_gD rfl rfl) ?_)
      clear hE a; intro a hE
      refine p_cons (s_still p6_6_2 hE wn_none rfl (st_move rfl) ?_)
      clear hE a; intro a hE
      refine p_cons (s_still p6_6_3 hE wn_none rfl (st_move rfl) ?_)
      clear hE a; intro a hE
      refine p_cons (s_still p6_6_4 hE wn_none rfl (st_move rfl) ?_)
      clear hE a; intro a hE
      refine p_cons (s_call (xs := [Operand.tmp 61, Operand.tmp 62, Operand.tmp 63, Operand.tmp 64, Operand.tmp 65]) (args := [Value.agg (b16 s).toArray, Value.agg (b16 d).toArray, Value.int .i64 n, Value.slice A l.length cap, Value.int .i64 p]) p6_6_5 hE wn_none rfl rfl Try.func30 cl30 (set_bad s d n A cap l.length l hs hd hby rfl hlc hlm p hN hG (by omega) _ (F_l _ K_0)) ?_)
      rintro e w14 ⟨rfl, hk⟩
      replace B_gS := kp_blk B_gS hk (fun h => h)
      replace B_gD := kp_blk B_gD hk (fun h => h)
      replace K_0 := K_0.then_ hk (fun _ h => h.elim)
      refine ⟨_, rfl, ?_⟩
      clear hE a; intro a hE
      refine p_cons (s_still p6_6_6 hE wn_none rfl (st_move rfl) ?_)
      clear hE a; intro a hE
      refine p_cons (s_still p6_6_7 hE wn_none rfl (st_extract rfl rfl) ?_)
      clear hE a; intro a hE
      refine p_cons (s_still p6_6_8 hE wn_none rfl (st_extract rfl rfl) ?_)
      clear hE a; intro a hE
      refine p_cons (s_still p6_6_9 hE wn_none rfl (st_assign rfl) ?_)
      clear hE a; intro a hE
      refine p_cons (s_still p6_6_10 hE wn_none rfl (st_assign rfl) ?_)
      clear hE a; intro a hE
      refine p_nil ?_
      refine x_norm ?_
      refine wp_seq ?_
      refine c_reg R6_7_l ?_
      refine p_cons (s_still p6_7_0 hE wn_none rfl (st_move rfl) ?_)
      clear hE a; intro a hE
      refine p_cons (s_still p6_7_1 hE wn_none rfl (st_neq (b := false) rfl rfl (by decide)) ?_)
      clear hE a; intro a hE
      refine p_nil ?_
      refine x_norm ?_
      refine c_cond (t := false) hE rfl ?_
      refine wp_skip ?_
      refine x_norm ?_
      refine wp_seq ?_
      refine c_reg R6_9_l ?_
      refine p_cons (s_still p6_9_0 hE wn_none rfl (st_move rfl) ?_)
      clear hE a; intro a hE
      refine p_cons (s_still p6_9_1 hE wn_none rfl (st_lss (b := false) rfl rfl (decide_eq_false (by omega))) ?_)
      clear hE a; intro a hE
      refine p_cons (s_still p6_9_2 hE wn_none rfl (st_move rfl) ?_)
      clear hE a; intro a hE
      refine p_cons (s_still p6_9_3 hE (wn_some g6_9_2 rfl rfl) rfl (st_move rfl) ?_)
      clear hE a; intro a hE
      refine p_cons (s_still p6_9_4 hE (wn_some g6_9_2 rfl rfl) rfl (st_rem (z := p % 2) rfl rfl (by decide) (Int.tmod_eq_emod_of_nonneg (by omega))) ?_)
      clear hE a; intro a hE
      refine p_cons (s_still p6_9_5 hE (wn_some g6_9_2 rfl rfl) rfl (st_neq (b := true) rfl rfl (by simp; omega)) ?_)
      clear hE a; intro a hE
      refine p_cons (s_still p6_9_6 hE wn_none rfl (st_pick rfl rfl) ?_)
      clear hE a; intro a hE
      refine p_cons (s_still p6_9_7 hE wn_none rfl (st_move rfl) ?_)
      clear hE a; intro a hE
      refine p_cons (s_skip p6_9_8 hE (wn_some g6_9_7 rfl rfl) rfl ?_)
      clear hE a; intro a hE
      refine p_cons (s_skip p6_9_9 hE (wn_some g6_9_7 rfl rfl) rfl ?_)
      clear hE a; intro a hE
      refine p_cons (s_skip p6_9_10 hE (wn_some g6_9_7 rfl rfl) rfl ?_)
      clear hE a; intro a hE
      refine p_cons (s_skip p6_9_11 hE (wn_some g6_9_7 rfl rfl) rfl ?_)
      clear hE a; intro a hE
      refine p_cons (s_skip p6_9_12 hE (wn_some g6_9_7 rfl rfl) rfl ?_)
      clear hE a; intro a hE
      refine p_cons (s_still p6_9_13 hE wn_none rfl (st_pick rfl rfl) ?_)
      clear hE a; intro a hE
      refine p_nil ?_
      refine x_norm ?_
      refine c_cond (t := true) hE rfl ?_
      refine c_reg R6_10_l ?_
      refine p_cons (s_call (xs := []) (args := []) p6_10_0 hE wn_none rfl rfl Try.func31 cl31 (known_any _) ?_)
      rintro e w15 ⟨rfl, hb⟩
      have hk := Kp.of_below hb (fun _ => False)
      replace B_gS := kp_blk B_gS hk (fun h => h)
      replace B_gD := kp_blk B_gD hk (fun h => h)
      replace K_0 := K_0.then_ hk (fun _ h => h.elim)
      refine ⟨_, rfl, ?_⟩
      clear hE a; intro a hE
      refine p_cons (s_still p6_10_1 hE wn_none rfl (st_move rfl) ?_)
      clear hE a; intro a hE
      refine p_cons (s_still p6_10_2 hE (wn_some g6_10_1 rfl rfl) rfl (st_move rfl) ?_)
      clear hE a; intro a hE
      refine p_cons (s_still p6_10_3 hE (wn_some g6_10_1 rfl rfl) rfl (st_eql (b := true) rfl rfl (by decide)) ?_)
      clear hE a; intro a hE
      refine p_cons (s_still p6_10_4 hE wn_none rfl (st_pick rfl rfl) ?_)
      clear hE a; intro a hE
      refine p_cons (s_still p6_10_5 hE wn_none rfl (st_move rfl) ?_)
      clear hE a; intro a hE
      refine p_cons (s_still p6_10_6 hE (wn_some g6_10_5 rfl rfl) rfl (st_move rfl) ?_)
      clear hE a; intro a hE
      refine p_cons (s_still p6_10_7 hE (wn_some g6_10_5 rfl rfl) rfl (st_len Try.underlying36 rfl) ?_)
      clear hE a; intro a hE
      refine p_cons (s_still p6_10_8 hE (wn_some g6_10_5 rfl rfl) rfl (st_eql (b := true) rfl rfl (by decide)) ?_)
      clear hE a; intro a hE
      refine p_cons (s_still p6_10_9 hE wn_none rfl (st_pick rfl rfl) ?_)
      clear hE a; intro a hE
      refine p_cons (s_still p6_10_10 hE wn_none rfl (st_assign rfl) ?_)
      clear hE a; intro a hE
      refine p_nil ?_
      refine x_norm ?_
      refine wp_ret ?_
      refine x_ret ?_
      refine ret_one (v := Value.bool true) rfl hE (.tmp rfl .nil) ?_
      exact hR_ _ K_0
theorem R6_0_l : List.range (regOf Try.f6 0).size = [0, 1, 2] := by kernel_rfl
theorem R6_1_l : List.range (regOf Try.f6 1).size = [0, 1, 2, 3, 4, 5] := by kernel_rfl
theorem R6_2_l : List.range (regOf Try.f6 2).size = [0, 1, 2, 3, 4, 5, 6, 7, 8, 9] := by kernel_rfl
theorem R6_3_l : List.range (regOf Try.f6 3).size = [0, 1, 2, 3, 4, 5, 6, 7, 8, 9] := by kernel_rfl
theorem R6_4_l : List.range (regOf Try.f6 4).size = [0, 1, 2, 3, 4, 5, 6, 7, 8, 9, 10, 11, 12, 13, 14, 15, 16, 17, 18, 19, 20, 21] := by kernel_rfl
theorem R6_5_l : List.range (regOf Try.f6 5).size = [0] := by kernel_rfl
theorem body6 : Try.f6.body = some (.seq (.region 0 (regOf Try.f6 0) false) (.seq (.region 1 (regOf Try.f6 1) false) (.seq (.region 2 (regOf Try.f6 2) false) (.seq (.region 3 (regOf Try.f6 3) false) (.seq (.seq (.region 4 (regOf Try.f6 4) false) (.cond (Operand.tmp 59) (.seq (.region 5 (regOf Try.f6 5) false) (.ret)) (.skip))) (.seq (.region 6 (regOf Try.f6 6) false) (.seq (.seq (.region 7 (regOf Try.f6 7) false) (.cond (Operand.tmp 70) (.seq (.region 8 (regOf Try.f6 8) false) (.ret)) (.skip))) (.seq (.seq (.region 9 (regOf Try.f6 9) false) (.cond (Operand.tmp 95) (.seq (.region 10 (regOf Try.f6 10) false) (.ret)) (.skip))) (.seq (.seq (.region 11 (regOf Try.f6 11) false) (.cond (Operand.tmp 122) (.seq (.region 12 (regOf Try.f6 12) false) (.ret)) (.skip))) (.seq (.region 13 (regOf Try.f6 13) true) (.ret))))))))))) := by kernel_rfl
theorem p6_0_0 : pj (regOf Try.f6 0) 0 = some (some 5, Op.box 22 (Operand.tmp 0), 0, none) := by kernel_rfl
theorem p6_0_1 : pj (regOf Try.f6 0) 1 = some (some 6, Op.box 22 (Operand.tmp 1), 0, none) := by kernel_rfl
theorem p6_0_2 : pj (regOf Try.f6 0) 2 = some (some 10, Op.assign (Operand.const (Value.bool false)), 4, none) := by kernel_rfl
theorem p6_1_0 : pj (regOf Try.f6 1) 0 = some (some 17, Op.move (Operand.tmp 3), 36, none) := by kernel_rfl
theorem p6_1_1 : pj (regOf Try.f6 1) 1 = some (some 18, Op.move (Operand.tmp 3), 36, none) := by kernel_rfl
theorem p6_1_2 : pj (regOf Try.f6 1) 2 = some (some 19, Op.call { callee := Callee.builtin Builtin.len, args := #[Operand.tmp 18], argTypes := #[36] }, 3, none) := by kernel_rfl
theorem p6_1_3 : pj (regOf Try.f6 1) 3 = some (some 20, Op.call { callee := Callee.builtin Builtin.min, args := #[Operand.tmp 19, Operand.const (Value.int IntKind.i64 1300)], argTypes := #[3, 3] }, 3, none) := by kernel_rfl
theorem p6_1_4 : pj (regOf Try.f6 1) 4 = some (some 21, Op.slice 36 (Operand.tmp 17) none (some (Operand.tmp 20)) none, 36, none) := by kernel_rfl
theorem p6_1_5 : pj (regOf Try.f6 1) 5 = some (some 3, Op.assign (Operand.tmp 21), 36, none) := by kernel_rfl
theorem p6_2_0 : pj (regOf Try.f6 2) 0 = some (some 23, Op.load 22 (Operand.tmp 5), 22, none) := by kernel_rfl
theorem p6_2_1 : pj (regOf Try.f6 2) 1 = some (some 24, Op.load 22 (Operand.tmp 6), 22, none) := by kernel_rfl
theorem p6_2_2 : pj (regOf Try.f6 2) 2 = some (some 25, Op.move (Operand.tmp 2), 3, none) := by kernel_rfl
theorem p6_2_3 : pj (regOf Try.f6 2) 3 = some (some 26, Op.move (Operand.tmp 3), 36, none) := by kernel_rfl
theorem p6_2_4 : pj (regOf Try.f6 2) 4 = some (some 27, Op.call { callee := Callee.value (Operand.func 27), args := #[Operand.tmp 23, Operand.tmp 24, Operand.tmp 25, Operand.tmp 26], argTypes := #[25, 25, 3, 36] }, 50, none) := by kernel_rfl
theorem cl27 : callable Try.f27 = true := by kernel_rfl
theorem p6_2_5 : pj (regOf Try.f6 2) 5 = some (some 22, Op.move (Operand.tmp 27), 50, none) := by kernel_rfl
theorem p6_2_6 : pj (regOf Try.f6 2) 6 = some (some 28, Op.extract (Operand.tmp 22) 0, 3, none) := by kernel_rfl
theorem p6_2_7 : pj (regOf Try.f6 2) 7 = some (some 29, Op.extract (Operand.tmp 22) 1, 29, none) := by kernel_rfl
theorem p6_2_8 : pj (regOf Try.f6 2) 8 = some (some 11, Op.assign (Operand.tmp 28), 3, none) := by kernel_rfl
theorem p6_2_9 : pj (regOf Try.f6 2) 9 = some (some 12, Op.assign (Operand.tmp 29), 29, none) := by kernel_rfl
theorem p6_3_0 : pj (regOf Try.f6 3) 0 = some (some 31, Op.load 22 (Operand.tmp 5), 22, none) := by kernel_rfl
theorem p6_3_1 : pj (regOf Try.f6 3) 1 = some (some 32, Op.load 22 (Operand.tmp 6), 22, none) := by kernel_rfl
theorem p6_3_2 : pj (regOf Try.f6 3) 2 = some (some 33, Op.move (Operand.tmp 2), 3, none) := by kernel_rfl
theorem p6_3_3 : pj (regOf Try.f6 3) 3 = some (some 34, Op.move (Operand.tmp 3), 36, none) := by kernel_rfl
theorem p6_3_4 : pj (regOf Try.f6 3) 4 = some (some 35, Op.call { callee := Callee.value (Operand.func 28), args := #[Operand.tmp 31, Operand.tmp 32, Operand.tmp 33, Operand.tmp 34], argTypes := #[22, 22, 3, 36] }, 52, none) := by kernel_rfl
theorem cl28 : callable Try.f28 = true := by kernel_rfl
theorem p6_3_5 : pj (regOf Try.f6 3) 5 = some (some 30, Op.move (Operand.tmp 35), 52, none) := by kernel_rfl
theorem p6_3_6 : pj (regOf Try.f6 3) 6 = some (some 36, Op.extract (Operand.tmp 30) 0, 3, none) := by kernel_rfl
theorem p6_3_7 : pj (regOf Try.f6 3) 7 = some (some 37, Op.extract (Operand.tmp 30) 1, 3, none) := by kernel_rfl
theorem p6_3_8 : pj (regOf Try.f6 3) 8 = some (some 13, Op.assign (Operand.tmp 36), 3, none) := by kernel_rfl
theorem p6_3_9 : pj (regOf Try.f6 3) 9 = some (some 14, Op.assign (Operand.tmp 37), 3, none) := by kernel_rfl
theorem p6_4_0 : pj (regOf Try.f6 4) 0 = some (some 38, Op.move (Operand.tmp 11), 3, none) := by kernel_rfl
theorem p6_4_1 : pj (regOf Try.f6 4) 1 = some (some 39, Op.move (Operand.tmp 13), 3, none) := by kernel_rfl
theorem p6_4_2 : pj (regOf Try.f6 4) 2 = some (some 40, Op.binOp BinOp.neq 3 (Operand.tmp 38) (Operand.tmp 39) 3, 4, none) := by kernel_rfl
theorem p6_4_3 : pj (regOf Try.f6 4) 3 = some (some 41, Op.move (Operand.tmp 40), 4, none) := by kernel_rfl
theorem p6_4_4 : pj (regOf Try.f6 4) 4 = some (some 42, Op.move (Operand.tmp 12), 29, some (3, false)) := by kernel_rfl
theorem g6_4_3 : dstOf (regOf Try.f6 4) 3 = some 41 := by kernel_rfl
theorem p6_4_5 : pj (regOf Try.f6 4) 5 = some (some 43, Op.move (Operand.tmp 14), 3, some (3, false)) := by kernel_rfl
theorem p6_4_6 : pj (regOf Try.f6 4) 6 = some (some 44, Op.binOp BinOp.neq 3 (Operand.tmp 42) (Operand.tmp 43) 3, 4, some (3, false)) := by kernel_rfl
theorem p6_4_7 : pj (regOf Try.f6 4) 7 = some (some 45, Op.pick (Operand.tmp 41) (Operand.const (Value.bool true)) (Operand.tmp 44), 4, none) := by kernel_rfl
theorem p6_4_8 : pj (regOf Try.f6 4) 8 = some (some 46, Op.move (Operand.tmp 45), 4, none) := by kernel_rfl
theorem p6_4_9 : pj (regOf Try.f6 4) 9 = some (some 47, Op.load 22 (Operand.tmp 5), 22, some (8, false)) := by kernel_rfl
theorem g6_4_8 : dstOf (regOf Try.f6 4) 8 = some 46 := by kernel_rfl
theorem p6_4_10 : pj (regOf Try.f6 4) 10 = some (some 48, Op.load 22 (Operand.tmp 6), 22, some (8, false)) := by kernel_rfl
theorem p6_4_11 : pj (regOf Try.f6 4) 11 = some (some 49, Op.move (Operand.tmp 2), 3, some (8, false)) := by kernel_rfl
theorem p6_4_12 : pj (regOf Try.f6 4) 12 = some (some 50, Op.move (Operand.tmp 3), 36, some (8, false)) := by kernel_rfl
theorem p6_4_13 : pj (regOf Try.f6 4) 13 = some (some 51, Op.call { callee := Callee.value (Operand.func 29), args := #[Operand.tmp 47, Operand.tmp 48, Operand.tmp 49, Operand.tmp 50], argTypes := #[25, 25, 3, 36] }, 4, some (8, false)) := by kernel_rfl
theorem p6_4_14 : pj (regOf Try.f6 4) 14 = some (some 52, Op.move (Operand.tmp 14), 3, some (8, false)) := by kernel_rfl
theorem p6_4_15 : pj (regOf Try.f6 4) 15 = some (some 53, Op.binOp BinOp.eql 3 (Operand.tmp 52) (Operand.const (Value.int IntKind.i64 0)) 3, 4, some (8, false)) := by kernel_rfl
theorem p6_4_16 : pj (regOf Try.f6 4) 16 = some (some 54, Op.move (Operand.tmp 53), 4, some (8, false)) := by kernel_rfl
theorem p6_4_17 : pj (regOf Try.f6 4) 17 = some (some 55, Op.move (Operand.tmp 13), 3, some (16, true)) := by kernel_rfl
theorem g6_4_16 : dstOf (regOf Try.f6 4) 16 = some 54 := by kernel_rfl
theorem p6_4_18 : pj (regOf Try.f6 4) 18 = some (some 56, Op.binOp BinOp.eql 3 (Operand.tmp 55) (Operand.const (Value.int IntKind.i64 0)) 3, 4, some (16, true)) := by kernel_rfl
theorem p6_4_19 : pj (regOf Try.f6 4) 19 = some (some 57, Op.pick (Operand.tmp 54) (Operand.tmp 56) (Operand.const (Value.bool false)), 4, some (8, false)) := by kernel_rfl
theorem p6_4_20 : pj (regOf Try.f6 4) 20 = some (some 58, Op.binOp BinOp.neq 4 (Operand.tmp 51) (Operand.tmp 57) 4, 4, some (8, false)) := by kernel_rfl
theorem p6_4_21 : pj (regOf Try.f6 4) 21 = some (some 59, Op.pick (Operand.tmp 46) (Operand.const (Value.bool true)) (Operand.tmp 58), 4, none) := by kernel_rfl
theorem p6_8_0 : pj (regOf Try.f6 8) 0 = some (some 71, Op.call { callee := Callee.value (Operand.func 31), args := #[], argTypes := #[] }, 4, none) := by kernel_rfl
theorem p6_8_1 : pj (regOf Try.f6 8) 1 = some (some 72, Op.move (Operand.tmp 71), 4, none) := by kernel_rfl
theorem p6_8_2 : pj (regOf Try.f6 8) 2 = some (some 73, Op.move (Operand.tmp 16), 29, some (1, true)) := by kernel_rfl
theorem g6_8_1 : dstOf (regOf Try.f6 8) 1 = some 72 := by kernel_rfl
theorem p6_8_3 : pj (regOf Try.f6 8) 3 = some (some 74, Op.move (Operand.tmp 14), 3, some (1, true)) := by kernel_rfl
theorem p6_8_4 : pj (regOf Try.f6 8) 4 = some (some 75, Op.binOp BinOp.eql 3 (Operand.tmp 73) (Operand.tmp 74) 3, 4, some (1, true)) := by kernel_rfl
theorem p6_8_5 : pj (regOf Try.f6 8) 5 = some (some 76, Op.pick (Operand.tmp 72) (Operand.tmp 75) (Operand.const (Value.bool false)), 4, none) := by kernel_rfl
theorem p6_8_6 : pj (regOf Try.f6 8) 6 = some (some 77, Op.move (Operand.tmp 76), 4, none) := by kernel_rfl
theorem p6_8_7 : pj (regOf Try.f6 8) 7 = some (some 78, Op.move (Operand.tmp 15), 36, some (6, true)) := by kernel_rfl
theorem g6_8_6 : dstOf (regOf Try.f6 8) 6 = some 77 := by kernel_rfl
theorem p6_8_8 : pj (regOf Try.f6 8) 8 = some (some 79, Op.call { callee := Callee.builtin Builtin.len, args := #[Operand.tmp 78], argTypes := #[36] }, 3, some (6, true)) := by kernel_rfl
theorem p6_8_9 : pj (regOf Try.f6 8) 9 = some (some 80, Op.binOp BinOp.eql 3 (Operand.tmp 79) (Operand.const (Value.int IntKind.i64 0)) 3, 4, some (6, true)) := by kernel_rfl
theorem p6_8_10 : pj (regOf Try.f6 8) 10 = some (some 81, Op.pick (Operand.tmp 77) (Operand.tmp 80) (Operand.const (Value.bool false)), 4, none) := by kernel_rfl
theorem p6_8_11 : pj (regOf Try.f6 8) 11 = some (some 10, Op.assign (Operand.tmp 81), 4, none) := by kernel_rfl
set_option maxHeartbeats 4000000 in
theorem law_R {R : Ending → World → Prop} (s d : Nat → Int) (n : Int) (A : Option Addr) (cap : Nat) (l : List Int) (p : Int) (z : List Int) (hx : (if (1300 : Int) < (z.length : Int) then (1300 : Int) else (z.length : Int)) = (l.length : Int)) (hlz : l.length ≤ z.length) (hzc : z.length ≤ cap) (w : World) (hs : ∀ i, i < 16 → 0 ≤ s i ∧ s i ≤ 255) (hd : ∀ i, i < 16 → 0 ≤ d i ∧ d i ≤ 255) (hby : ∀ y ∈ l, 0 ≤ y ∧ y ≤ 255) (hlc : l.length ≤ cap) (hlm : l.length ≤ 9000) (F_l : ∀ W', Kp w W' (fun _ => False) → Kd.C (Kd.int .u8) W' A l.length l) (hR_ : ∀ w', Kp w w' (fun _ => False) → R (.returned (.bool true)) w') : Calls Try.prog 6 #[Value.agg (b16 s).toArray, Value.agg (b16 d).toArray, Value.int .i64 n, .slice A z.length cap, .int .i64 p] w R := by
  have K_0 := Kp.refl w (fun _ => False)
  refine enter (args := [Value.agg (b16 s).toArray, Value.agg (b16 d).toArray, Value.int .i64 n, Value.slice A z.length cap, Value.int .i64 p]) (n := 144) Try.func6 body6 rfl rfl rfl ?_
  intro a hE
  refine c_reg R6_0_l ?_
  refine p_cons (s_box p6_0_0 hE wn_none rfl rfl ?_)
  clear hE a; intro g1 w2 z3 B_g1 hk a hE
  replace B_g1 : w2.heap[g1]? = some (.cells (b16 s).toArray 22 (0, 0)) := B_g1
  have z_0_g1 := Nat.le_trans K_0.kept.1 z3
  replace K_0 := K_0.then_ hk (fun _ h => h.elim)
  clear hk
  refine p_cons (s_box p6_0_1 hE wn_none rfl rfl ?_)
  clear hE a; intro g4 w5 z6 B_g4 hk a hE
  replace B_g4 : w5.heap[g4]? = some (.cells (b16 d).toArray 22 (0, 0)) := B_g4
  have n_g1_g4 : g1 ≠ g4 := ne_new B_g1 z6
  have z_0_g4 := Nat.le_trans K_0.kept.1 z6
  replace B_g1 := kp_blk B_g1 hk (fun h => h)
  replace K_0 := K_0.then_ hk (fun _ h => h.elim)
  clear hk
  refine p_cons (s_still p6_0_2 hE wn_none rfl (st_assign rfl) ?_)
  clear hE a; intro a hE
  refine p_nil ?_
  refine x_norm ?_
  refine c_reg R6_1_l ?_
  refine p_cons (s_still p6_1_0 hE wn_none rfl (st_move rfl) ?_)
  clear hE a; intro a hE
  refine p_cons (s_still p6_1_1 hE wn_none rfl (st_move rfl) ?_)
  clear hE a; intro a hE
  refine p_cons (s_still p6_1_2 hE wn_none rfl (st_len Try.underlying36 rfl) ?_)
  clear hE a; intro a hE
  refine p_cons (s_still p6_1_3 hE wn_none rfl (st_min (z := (l.length : Int)) rfl rfl hx) ?_)
  clear hE a; intro a hE
  refine p_cons (s_still p6_1_4 hE wn_none rfl (st_sliceH (h := l.length) Try.underlying36 tS5 rfl rfl (by omega)) ?_)
  clear hE a; intro a hE
  refine p_cons (s_still p6_1_5 hE wn_none rfl (st_assign rfl) ?_)
  clear hE a; intro a hE
  refine p_nil ?_
  refine x_norm ?_
  rcases Decidable.em (0 ≤ n ∧ n ≤ 255) with hN | hN
  ·
    rcases Decidable.em (1280 < l.length) with hG | hG
    ·
      refine c_reg R6_2_l ?_
      refine p_cons (s_still p6_2_0 hE wn_none rfl (st_loadN (off := 0) (k := 16) (vs := b16 s) tA22 tS22 rfl B_g1 rfl rfl) ?_)
      clear hE a; intro a hE
      refine p_cons (s_still p6_2_1 hE wn_none rfl (st_loadN (off := 0) (k := 16) (vs := b16 d) tA22 tS22 rfl B_g4 rfl rfl) ?_)
      clear hE a; intro a hE
      refine p_cons (s_still p6_2_2 hE wn_none rfl (st_move rfl) ?_)
      clear hE a; intro a hE
      refine p_cons (s_still p6_2_3 hE wn_none rfl (st_move rfl) ?_)
      clear hE a; intro a hE
      refine p_cons (s_call (xs := [Operand.tmp 23, Operand.tmp 24, Operand.tmp 25, Operand.tmp 26]) (args := [Value.agg (b16 s).toArray, Value.agg (b16 d).toArray, Value.int .i64 n, Value.slice A l.length cap]) p6_2_4 hE wn_none rfl rfl Try.func27 cl27 (pse_2 s d n A cap l.length l hs hd hby rfl hlc hlm hN hG _ (F_l _ K_0)) ?_)
      rintro e w7 ⟨rfl, hk⟩
      replace B_g1 := kp_blk B_g1 hk (fun h => h)
      replace B_g4 := kp_blk B_g4 hk (fun h => h)
      replace K_0 := K_0.then_ hk (fun _ h => h.elim)
      refine ⟨_, rfl, ?_⟩
      clear hE a; intro a hE
      refine p_cons (s_still p6_2_5 hE wn_none rfl (st_move rfl) ?_)
      clear hE a; intro a hE
      refine p_cons (s_still p6_2_6 hE wn_none rfl (st_extract rfl rfl) ?_)
      clear hE a; intro a hE
      refine p_cons (s_still p6_2_7 hE wn_none rfl (st_extract rfl rfl) ?_)
      clear hE a; intro a hE
      refine p_cons (s_still p6_2_8 hE wn_none rfl (st_assign rfl) ?_)
      clear hE a; intro a hE
      refine p_cons (s_still p6_2_9 hE wn_none rfl (st_assign rfl) ?_)
      clear hE a; intro a hE
      refine p_nil ?_
      refine x_norm ?_
      refine c_reg R6_3_l ?_
      refine p_cons (s_still p6_3_0 hE wn_none rfl (st_loadN (off := 0) (k := 16) (vs := b16 s) tA22 tS22 rfl B_g1 rfl rfl) ?_)
      clear hE a; intro a hE
      refine p_cons (s_still p6_3_1 hE wn_none rfl (st_loadN (off := 0) (k := 16) (vs := b16 d) tA22 tS22 rfl B_g4 rfl rfl) ?_)
      clear hE a; intro a hE
      refine p_cons (s_still p6_3_2 hE wn_none rfl (st_move rfl) ?_)
      clear hE a; intro a hE
      refine p_cons (s_still p6_3_3 hE wn_none rfl (st_move rfl) ?_)
      clear hE a; intro a hE
      refine p_cons (s_call (xs := [Operand.tmp 31, Operand.tmp 32, Operand.tmp 33, Operand.tmp 34]) (args := [Value.agg (b16 s).toArray, Value.agg (b16 d).toArray, Value.int .i64 n, Value.slice A l.length cap]) p6_3_4 hE wn_none rfl rfl Try.func28 cl28 (rpse_2 s d n A cap l.length l hs hd hby rfl hlc hlm hN hG _ (F_l _ K_0)) ?_)
      rintro e w8 ⟨rfl, hk⟩
      replace B_g1 := kp_blk B_g1 hk (fun h => h)
      replace B_g4 := kp_blk B_g4 hk (fun h => h)
      replace K_0 := K_0.then_ hk (fun _ h => h.elim)
      refine ⟨_, rfl, ?_⟩
      clear hE a; intro a hE
      refine p_cons (s_still p6_3_5 hE wn_none rfl (st_move rfl) ?_)
      clear hE a; intro a hE
      refine p_cons (s_still p6_3_6 hE wn_none rfl (st_extract rfl rfl) ?_)
      clear hE a; intro a hE
      refine p_cons (s_still p6_3_7 hE wn_none rfl (st_extract rfl rfl) ?_)
      clear hE a; intro a hE
      refine p_cons (s_still p6_3_8 hE wn_none rfl (st_assign rfl) ?_)
      clear hE a; intro a hE
      refine p_cons (s_still p6_3_9 hE wn_none rfl (st_assign rfl) ?_)
      clear hE a; intro a hE
      refine p_nil ?_
      refine x_norm ?_
      refine wp_seq ?_
      refine c_reg R6_4_l ?_
      refine p_cons (s_still p6_4_0 hE wn_none rfl (st_move rfl) ?_)
      clear hE a; intro a hE
      refine p_cons (s_still p6_4_1 hE wn_none rfl (st_move rfl) ?_)
      clear hE a; intro a hE
      refine p_cons (s_still p6_4_2 hE wn_none rfl (st_neq (b := false) rfl rfl (by decide)) ?_)
      clear hE a; intro a hE
      refine p_cons (s_still p6_4_3 hE wn_none rfl (st_move rfl) ?_)
      clear hE a; intro a hE
      refine p_cons (s_still p6_4_4 hE (wn_some g6_4_3 rfl rfl) rfl (st_move rfl) ?_)
      clear hE a; intro a hE
      refine p_cons (s_still p6_4_5 hE (wn_some g6_4_3 rfl rfl) rfl (st_move rfl) ?_)
      clear hE a; intro a hE
      refine p_cons (s_still p6_4_6 hE (wn_some g6_4_3 rfl rfl) rfl (st_neq (b := false) rfl rfl (by decide)) ?_)
      clear hE a; intro a hE
      refine p_cons (s_still p6_4_7 hE wn_none rfl (st_pick rfl rfl) ?_)
      clear hE a; intro a hE
      refine p_cons (s_still p6_4_8 hE wn_none rfl (st_move rfl) ?_)
      clear hE a; intro a hE
      refine p_cons (s_still p6_4_9 hE (wn_some g6_4_8 rfl rfl) rfl (st_loadN (off := 0) (k := 16) (vs := b16 s) tA22 tS22 rfl B_g1 rfl rfl) ?_)
      clear hE a; intro a hE
      refine p_cons (s_still p6_4_10 hE (wn_some g6_4_8 rfl rfl) rfl (st_loadN (off := 0) (k := 16) (vs := b16 d) tA22 tS22 rfl B_g4 rfl rfl) ?_)
      clear hE a; intro a hE
      refine p_cons (s_still p6_4_11 hE (wn_some g6_4_8 rfl rfl) rfl (st_move rfl) ?_)
      clear hE a; intro a hE
      refine p_cons (s_still p6_4_12 hE (wn_some g6_4_8 rfl rfl) rfl (st_move rfl) ?_)
      clear hE a; intro a hE
      refine p_cons (s_call (xs := [Operand.tmp 47, Operand.tmp 48, Operand.tmp 49, Operand.tmp 50]) (args := [Value.agg (b16 s).toArray, Value.agg (b16 d).toArray, Value.int .i64 n, Value.slice A l.length cap]) p6_4_13 hE (wn_some g6_4_8 rfl rfl) rfl rfl Try.func29 cl29 (chk_2 s d n A cap l.length l hs hd hby rfl hlc hlm hN hG _ (F_l _ K_0)) ?_)
      rintro e w9 ⟨rfl, hk⟩
      replace B_g1 := kp_blk B_g1 hk (fun h => h)
      replace B_g4 := kp_blk B_g4 hk (fun h => h)
      replace K_0 := K_0.then_ hk (fun _ h => h.elim)
      refine ⟨_, rfl, ?_⟩
      clear hE a; intro a hE
      refine p_cons (s_still p6_4_14 hE (wn_some g6_4_8 rfl rfl) rfl (st_move rfl) ?_)
      clear hE a; intro a hE
      refine p_cons (s_still p6_4_15 hE (wn_some g6_4_8 rfl rfl) rfl (st_eql (b := false) rfl rfl (by decide)) ?_)
      clear hE a; intro a hE
      refine p_cons (s_still p6_4_16 hE (wn_some g6_4_8 rfl rfl) rfl (st_move rfl) ?_)
      clear hE a; intro a hE
      refine p_cons (s_skip p6_4_17 hE (wn_some g6_4_16 rfl rfl) rfl ?_)
      clear hE a; intro a hE
      refine p_cons (s_skip p6_4_18 hE (wn_some g6_4_16 rfl rfl) rfl ?_)
      clear hE a; intro a hE
      refine p_cons (s_still p6_4_19 hE (wn_some g6_4_8 rfl rfl) rfl (st_pick rfl rfl) ?_)
      clear hE a; intro a hE
      refine p_cons (s_still p6_4_20 hE (wn_some g6_4_8 rfl rfl) rfl (st_neqB Try.underlying4 rfl rfl rfl) ?_)
      clear hE a; intro a hE
      refine p_cons (s_still p6_4_21 hE wn_none rfl (st_pick rfl rfl) ?_)
      clear hE a; intro a hE
      refine p_nil ?_
      refine x_norm ?_
      refine c_cond (t := false) hE rfl ?_
      refine wp_skip ?_
      refine x_norm ?_
      refine c_reg R6_6_l ?_
      refine p_cons (s_still p6_6_0 hE wn_none rfl (st_loadN (off := 0) (k := 16) (vs := b16 s) tA22 tS22 rfl B_g1 rfl rfl) ?_)
      clear hE a; intro a hE
      refine p_cons (s_still p6_6_1 hE wn_none rfl (st_loadN (off := 0) (k := 16) (vs := b16 d) tA22 tS22 rfl B_g4 rfl rfl) ?_)
      clear hE a; intro a hE
      refine p_cons (s_still p6_6_2 hE wn_none rfl (st_move rfl) ?_)
      clear hE a; intro a hE
      refine p_cons (s_still p6_6_3 hE wn_none rfl (st_move rfl) ?_)
      clear hE a; intro a hE
      refine p_cons (s_still p6_6_4 hE wn_none rfl (st_move rfl) ?_)
      clear hE a; intro a hE
      refine p_cons (s_call (xs := [Operand.tmp 61, Operand.tmp 62, Operand.tmp 63, Operand.tmp 64, Operand.tmp 65]) (args := [Value.agg (b16 s).toArray, Value.agg (b16 d).toArray, Value.int .i64 n, Value.slice A l.length cap, Value.int .i64 p]) p6_6_5 hE wn_none rfl rfl Try.func30 cl30 (set_2 s d n A cap l.length l hs hd hby rfl hlc hlm p hN hG _ (F_l _ K_0)) ?_)
      rintro e w10 ⟨rfl, hk⟩
      replace B_g1 := kp_blk B_g1 hk (fun h => h)
      replace B_g4 := kp_blk B_g4 hk (fun h => h)
      replace K_0 := K_0.then_ hk (fun _ h => h.elim)
      refine ⟨_, rfl, ?_⟩
      clear hE a; intro a hE
      refine p_cons (s_still p6_6_6 hE wn_none rfl (st_move rfl) ?_)
      clear hE a; intro a hE
      refine p_cons (s_still p6_6_7 hE wn_none rfl (st_extract rfl rfl) ?_)
      clear hE a; intro a hE
      refine p_cons (s_still p6_6_8 hE wn_none rfl (st_extract rfl rfl) ?_)
      clear hE a; intro a hE
      refine p_cons (s_still p6_6_9 hE wn_none rfl (st_assign rfl) ?_)
      clear hE a; intro a hE
      refine p_cons (s_still p6_6_10 hE wn_none rfl (st_assign rfl) ?_)
      clear hE a; intro a hE
      refine p_nil ?_
      refine x_norm ?_
      refine wp_seq ?_
      refine c_reg R6_7_l ?_
      refine p_cons (s_still p6_7_0 hE wn_none rfl (st_move rfl) ?_)
      clear hE a; intro a hE
      refine p_cons (s_still p6_7_1 hE wn_none rfl (st_neq (b := true) rfl rfl (by decide)) ?_)
      clear hE a; intro a hE
      refine p_nil ?_
      refine x_norm ?_
      refine c_cond (t := true) hE rfl ?_
      refine c_reg R6_8_l ?_
      refine p_cons (s_call (xs := []) (args := []) p6_8_0 hE wn_none rfl rfl Try.func31 cl31 (known_any _) ?_)
      rintro e w11 ⟨rfl, hb⟩
      have hk := Kp.of_below hb (fun _ => False)
      replace B_g1 := kp_blk B_g1 hk (fun h => h)
      replace B_g4 := kp_blk B_g4 hk (fun h => h)
      replace K_0 := K_0.then_ hk (fun _ h => h.elim)
      refine ⟨_, rfl, ?_⟩
      clear hE a; intro a hE
      refine p_cons (s_still p6_8_1 hE wn_none rfl (st_move rfl) ?_)
      clear hE a; intro a hE
      refine p_cons (s_still p6_8_2 hE (wn_some g6_8_1 rfl rfl) rfl (st_move rfl) ?_)
      clear hE a; intro a hE
      refine p_cons (s_still p6_8_3 hE (wn_some g6_8_1 rfl rfl) rfl (st_move rfl) ?_)
      clear hE a; intro a hE
      refine p_cons (s_still p6_8_4 hE (wn_some g6_8_1 rfl rfl) rfl (st_eql (b := true) rfl rfl (by decide)) ?_)
      clear hE a; intro a hE
      refine p_cons (s_still p6_8_5 hE wn_none rfl (st_pick rfl rfl) ?_)
      clear hE a; intro a hE
      refine p_cons (s_still p6_8_6 hE wn_none rfl (st_move rfl) ?_)
      clear hE a; intro a hE
      refine p_cons (s_still p6_8_7 hE (wn_some g6_8_6 rfl rfl) rfl (st_move rfl) ?_)
      clear hE a; intro a hE
      refine p_cons (s_still p6_8_8 hE (wn_some g6_8_6 rfl rfl) rfl (st_len Try.underlying36 rfl) ?_)
      clear hE a; intro a hE
      refine p_cons (s_still p6_8_9 hE (wn_some g6_8_6 rfl rfl) rfl (st_eql (b := true) rfl rfl (by decide)) ?_)
      clear hE a; intro a hE
      refine p_cons (s_still p6_8_10 hE wn_none rfl (st_pick rfl rfl) ?_)
      clear hE a; intro a hE
      refine p_cons (s_still p6_8_11 hE wn_none rfl (st_assign rfl) ?_)
      clear hE a; intro a hE
      refine p_nil ?_
      refine x_norm ?_
      refine wp_ret ?_
      refine x_ret ?_
      refine ret_one (v := Value.bool true) rfl hE (.tmp rfl .nil) ?_
      exact hR_ _ K_0
    ·
      rcases Decidable.em (psF s d n l = 0) with hZ | hZ
      ·
        refine c_reg R6_2_l ?_
        refine p_cons (s_still p6_2_0 hE wn_none rfl (st_loadN (off := 0) (k := 16) (vs := b16 s) tA22 tS22 rfl B_g1 rfl rfl) ?_)
        clear hE a; intro a hE
        refine p_cons (s_still p6_2_1 hE wn_none rfl (st_loadN (off := 0) (k := 16) (vs := b16 d) tA22 tS22 rfl B_g4 rfl rfl) ?_)
        clear hE a; intro a hE
        refine p_cons (s_still p6_2_2 hE wn_none rfl (st_move rfl) ?_)
        clear hE a; intro a hE
        refine p_cons (s_still p6_2_3 hE wn_none rfl (st_move rfl) ?_)
        clear hE a; intro a hE
        refine p_cons (s_call (xs := [Operand.tmp 23, Operand.tmp 24, Operand.tmp 25, Operand.tmp 26]) (args := [Value.agg (b16 s).toArray, Value.agg (b16 d).toArray, Value.int .i64 n, Value.slice A l.length cap]) p6_2_4 hE wn_none rfl rfl Try.func27 cl27 (pse_ok s d n A cap l.length l hs hd hby rfl hlc hlm hN hG _ (F_l _ K_0)) ?_)
        rintro e w12 ⟨rfl, hk⟩
        replace B_g1 := kp_blk B_g1 hk (fun h => h)
        replace B_g4 := kp_blk B_g4 hk (fun h => h)
        replace K_0 := K_0.then_ hk (fun _ h => h.elim)
        refine ⟨_, rfl, ?_⟩
        clear hE a; intro a hE
        refine p_cons (s_still p6_2_5 hE wn_none rfl (st_move rfl) ?_)
        clear hE a; intro a hE
        refine p_cons (s_still p6_2_6 hE wn_none rfl (st_extract rfl rfl) ?_)
        clear hE a; intro a hE
        refine p_cons (s_still p6_2_7 hE wn_none rfl (st_extract rfl rfl) ?_)
        clear hE a; intro a hE
        refine p_cons (s_still p6_2_8 hE wn_none rfl (st_assign rfl) ?_)
        clear hE a; intro a hE
        refine p_cons (s_still p6_2_9 hE wn_none rfl (st_assign rfl) ?_)
        clear hE a; intro a hE
        refine p_nil ?_
        refine x_norm ?_
        refine c_reg R6_3_l ?_
        refine p_cons (s_still p6_3_0 hE wn_none rfl (st_loadN (off := 0) (k := 16) (vs := b16 s) tA22 tS22 rfl B_g1 rfl rfl) ?_)
        clear hE a; intro a hE
        refine p_cons (s_still p6_3_1 hE wn_none rfl (st_loadN (off := 0) (k := 16) (vs := b16 d) tA22 tS22 rfl B_g4 rfl rfl) ?_)
        clear hE a; intro a hE
        refine p_cons (s_still p6_3_2 hE wn_none rfl (st_move rfl) ?_)
        clear hE a; intro a hE
        refine p_cons (s_still p6_3_3 hE wn_none rfl (st_move rfl) ?_)
        clear hE a; intro a hE
        refine p_cons (s_call (xs := [Operand.tmp 31, Operand.tmp 32, Operand.tmp 33, Operand.tmp 34]) (args := [Value.agg (b16 s).toArray, Value.agg (b16 d).toArray, Value.int .i64 n, Value.slice A l.length cap]) p6_3_4 hE wn_none rfl rfl Try.func28 cl28 (rpse_ok s d n A cap l.length l hs hd hby rfl hlc hlm hN hG _ (F_l _ K_0)) ?_)
        rintro e w13 ⟨rfl, hk⟩
        replace B_g1 := kp_blk B_g1 hk (fun h => h)
        replace B_g4 := kp_blk B_g4 hk (fun h => h)
        replace K_0 := K_0.then_ hk (fun _ h => h.elim)
        refine ⟨_, rfl, ?_⟩
        clear hE a; intro a hE
        refine p_cons (s_still p6_3_5 hE wn_none rfl (st_move rfl) ?_)
        clear hE a; intro a hE
        refine p_cons (s_still p6_3_6 hE wn_none rfl (st_extract rfl rfl) ?_)
        clear hE a; intro a hE
        refine p_cons (s_still p6_3_7 hE wn_none rfl (st_extract rfl rfl) ?_)
        clear hE a; intro a hE
        refine p_cons (s_still p6_3_8 hE wn_none rfl (st_assign rfl) ?_)
        clear hE a; intro a hE
        refine p_cons (s_still p6_3_9 hE wn_none rfl (st_assign rfl) ?_)
        clear hE a; intro a hE
        refine p_nil ?_
        refine x_norm ?_
        refine wp_seq ?_
        refine c_reg R6_4_l ?_
        refine p_cons (s_still p6_4_0 hE wn_none rfl (st_move rfl) ?_)
        clear hE a; intro a hE
        refine p_cons (s_still p6_4_1 hE wn_none rfl (st_move rfl) ?_)
        clear hE a; intro a hE
        refine p_cons (s_still p6_4_2 hE wn_none rfl (st_neq (b := false) rfl rfl (by simp)) ?_)
        clear hE a; intro a hE
        refine p_cons (s_still p6_4_3 hE wn_none rfl (st_move rfl) ?_)
        clear hE a; intro a hE
        refine p_cons (s_still p6_4_4 hE (wn_some g6_4_3 rfl rfl) rfl (st_move rfl) ?_)
        clear hE a; intro a hE
        refine p_cons (s_still p6_4_5 hE (wn_some g6_4_3 rfl rfl) rfl (st_move rfl) ?_)
        clear hE a; intro a hE
        refine p_cons (s_still p6_4_6 hE (wn_some g6_4_3 rfl rfl) rfl (st_neq (b := false) rfl rfl (by decide)) ?_)
        clear hE a; intro a hE
        refine p_cons (s_still p6_4_7 hE wn_none rfl (st_pick rfl rfl) ?_)
        clear hE a; intro a hE
        refine p_cons (s_still p6_4_8 hE wn_none rfl (st_move rfl) ?_)
        clear hE a; intro a hE
        refine p_cons (s_still p6_4_9 hE (wn_some g6_4_8 rfl rfl) rfl (st_loadN (off := 0) (k := 16) (vs := b16 s) tA22 tS22 rfl B_g1 rfl rfl) ?_)
        clear hE a; intro a hE
        refine p_cons (s_still p6_4_10 hE (wn_some g6_4_8 rfl rfl) rfl (st_loadN (off := 0) (k := 16) (vs := b16 d) tA22 tS22 rfl B_g4 rfl rfl) ?_)
        clear hE a; intro a hE
        refine p_cons (s_still p6_4_11 hE (wn_some g6_4_8 rfl rfl) rfl (st_move rfl) ?_)
        clear hE a; intro a hE
        refine p_cons (s_still p6_4_12 hE (wn_some g6_4_8 rfl rfl) rfl (st_move rfl) ?_)
        clear hE a; intro a hE
        refine p_cons (s_call (xs := [Operand.tmp 47, Operand.tmp 48, Operand.tmp 49, Operand.tmp 50]) (args := [Value.agg (b16 s).toArray, Value.agg (b16 d).toArray, Value.int .i64 n, Value.slice A l.length cap]) p6_4_13 hE (wn_some g6_4_8 rfl rfl) rfl rfl Try.func29 cl29 (chk_ok s d n A cap l.length l hs hd hby rfl hlc hlm hN hG true (decide_eq_true hZ) _ (F_l _ K_0)) ?_)
        rintro e w14 ⟨rfl, hk⟩
        replace B_g1 := kp_blk B_g1 hk (fun h => h)
        replace B_g4 := kp_blk B_g4 hk (fun h => h)
        replace K_0 := K_0.then_ hk (fun _ h => h.elim)
        refine ⟨_, rfl, ?_⟩
        clear hE a; intro a hE
        refine p_cons (s_still p6_4_14 hE (wn_some g6_4_8 rfl rfl) rfl (st_move rfl) ?_)
        clear hE a; intro a hE
        refine p_cons (s_still p6_4_15 hE (wn_some g6_4_8 rfl rfl) rfl (st_eql (b := true) rfl rfl (by decide)) ?_)
        clear hE a; intro a hE
        refine p_cons (s_still p6_4_16 hE (wn_some g6_4_8 rfl rfl) rfl (st_move rfl) ?_)
        clear hE a; intro a hE
        refine p_cons (s_still p6_4_17 hE (wn_some g6_4_16 rfl rfl) rfl (st_move rfl) ?_)
        clear hE a; intro a hE
        refine p_cons (s_still p6_4_18 hE (wn_some g6_4_16 rfl rfl) rfl (st_eql (b := true) rfl rfl (decide_eq_true hZ)) ?_)
        clear hE a; intro a hE
        refine p_cons (s_still p6_4_19 hE (wn_some g6_4_8 rfl rfl) rfl (st_pick rfl rfl) ?_)
        clear hE a; intro a hE
        refine p_cons (s_still p6_4_20 hE (wn_some g6_4_8 rfl rfl) rfl (st_neqB Try.underlying4 rfl rfl rfl) ?_)
        clear hE a; intro a hE
        refine p_cons (s_still p6_4_21 hE wn_none rfl (st_pick rfl rfl) ?_)
        clear hE a; intro a hE
        refine p_nil ?_
        refine x_norm ?_
        refine c_cond (t := false) hE rfl ?_
        refine wp_skip ?_
        refine x_norm ?_
        exact tail6 s d n A cap l p w w14 g1 g4 B_g1 B_g4 n_g1_g4 z_0_g1 z_0_g4 K_0 hs hd hby hlc hlm F_l hN hG hR_ a (En.sub hE ⟨rfl, rfl, rfl, rfl, rfl, rfl, trivial⟩)
      ·
        refine c_reg R6_2_l ?_
        refine p_cons (s_still p6_2_0 hE wn_none rfl (st_loadN (off := 0) (k := 16) (vs := b16 s) tA22 tS22 rfl B_g1 rfl rfl) ?_)
        clear hE a; intro a hE
        refine p_cons (s_still p6_2_1 hE wn_none rfl (st_loadN (off := 0) (k := 16) (vs := b16 d) tA22 tS22 rfl B_g4 rfl rfl) ?_)
        clear hE a; intro a hE
        refine p_cons (s_still p6_2_2 hE wn_none rfl (st_move rfl) ?_)
        clear hE a; intro a hE
        refine p_cons (s_still p6_2_3 hE wn_none rfl (st_move rfl) ?_)
        clear hE a; intro a hE
        refine p_cons (s_call (xs := [Operand.tmp 23, Operand.tmp 24, Operand.tmp 25, Operand.tmp 26]) (args := [Value.agg (b16 s).toArray, Value.agg (b16 d).toArray, Value.int .i64 n, Value.slice A l.length cap]) p6_2_4 hE wn_none rfl rfl Try.func27 cl27 (pse_ok s d n A cap l.length l hs hd hby rfl hlc hlm hN hG _ (F_l _ K_0)) ?_)
        rintro e w15 ⟨rfl, hk⟩
        replace B_g1 := kp_blk B_g1 hk (fun h => h)
        replace B_g4 := kp_blk B_g4 hk (fun h => h)
        replace K_0 := K_0.then_ hk (fun _ h => h.elim)
        refine ⟨_, rfl, ?_⟩
        clear hE a; intro a hE
        refine p_cons (s_still p6_2_5 hE wn_none rfl (st_move rfl) ?_)
        clear hE a; intro a hE
        refine p_cons (s_still p6_2_6 hE wn_none rfl (st_extract rfl rfl) ?_)
        clear hE a; intro a hE
        refine p_cons (s_still p6_2_7 hE wn_none rfl (st_extract rfl rfl) ?_)
        clear hE a; intro a hE
        refine p_cons (s_still p6_2_8 hE wn_none rfl (st_assign rfl) ?_)
        clear hE a; intro a hE
        refine p_cons (s_still p6_2_9 hE wn_none rfl (st_assign rfl) ?_)
        clear hE a; intro a hE
        refine p_nil ?_
        refine x_norm ?_
        refine c_reg R6_3_l ?_
        refine p_cons (s_still p6_3_0 hE wn_none rfl (st_loadN (off := 0) (k := 16) (vs := b16 s) tA22 tS22 rfl B_g1 rfl rfl) ?_)
        clear hE a; intro a hE
        refine p_cons (s_still p6_3_1 hE wn_none rfl (st_loadN (off := 0) (k := 16) (vs := b16 d) tA22 tS22 rfl B_g4 rfl rfl) ?_)
        clear hE a; intro a hE
        refine p_cons (s_still p6_3_2 hE wn_none rfl (st_move rfl) ?_)
        clear hE a; intro a hE
        refine p_cons (s_still p6_3_3 hE wn_none rfl (st_move rfl) ?_)
        clear hE a; intro a hE
        refine p_cons (s_call (xs := [Operand.tmp 31, Operand.tmp 32, Operand.tmp 33, Operand.tmp 34]) (args := [Value.agg (b16 s).toArray, Value.agg (b16 d).toArray, Value.int .i64 n, Value.slice A l.length cap]) p6_3_4 hE wn_none rfl rfl Try.func28 cl28 (rpse_ok s d n A cap l.length l hs hd hby rfl hlc hlm hN hG _ (F_l _ K_0)) ?_)
        rintro e w16 ⟨rfl, hk⟩
        replace B_g1 := kp_blk B_g1 hk (fun h => h)
        replace B_g4 := kp_blk B_g4 hk (fun h => h)
        replace K_0 := K_0.then_ hk (fun _ h => h.elim)
        refine ⟨_, rfl, ?_⟩
        clear hE a; intro a hE
        refine p_cons (s_still p6_3_5 hE wn_none rfl (st_move rfl) ?_)
        clear hE a; intro a hE
        refine p_cons (s_still p6_3_6 hE wn_none rfl (st_extract rfl rfl) ?_)
        clear hE a; intro a hE
        refine p_cons (s_still p6_3_7 hE wn_none rfl (st_extract rfl rfl) ?_)
        clear hE a; intro a hE
        refine p_cons (s_still p6_3_8 hE wn_none rfl (st_assign rfl) ?_)
        clear hE a; intro a hE
        refine p_cons (s_still p6_3_9 hE wn_none rfl (st_assign rfl) ?_)
        clear hE a; intro a hE
        refine p_nil ?_
        refine x_norm ?_
        refine wp_seq ?_
        refine c_reg R6_4_l ?_
        refine p_cons (s_still p6_4_0 hE wn_none rfl (st_move rfl) ?_)
        clear hE a; intro a hE
        refine p_cons (s_still p6_4_1 hE wn_none rfl (st_move rfl) ?_)
        clear hE a; intro a hE
        refine p_cons (s_still p6_4_2 hE wn_none rfl (st_neq (b := false) rfl rfl (by simp)) ?_)
        clear hE a; intro a hE
        refine p_cons (s_still p6_4_3 hE wn_none rfl (st_move rfl) ?_)
        clear hE a; intro a hE
        refine p_cons (s_still p6_4_4 hE (wn_some g6_4_3 rfl rfl) rfl (st_move rfl) ?_)
        clear hE a; intro a hE
        refine p_cons (s_still p6_4_5 hE (wn_some g6_4_3 rfl rfl) rfl (st_move rfl) ?_)
        clear hE a; intro a hE
        refine p_cons (s_still p6_4_6 hE (wn_some g6_4_3 rfl rfl) rfl (st_neq (b := false) rfl rfl (by decide)) ?_)
        clear hE a; intro a hE
        refine p_cons (s_still p6_4_7 hE wn_none rfl (st_pick rfl rfl) ?_)
        clear hE a; intro a hE
        refine p_cons (s_still p6_4_8 hE wn_none rfl (st_move rfl) ?_)
        clear hE a; intro a hE
        refine p_cons (s_still p6_4_9 hE (wn_some g6_4_8 rfl rfl) rfl (st_loadN (off := 0) (k := 16) (vs := b16 s) tA22 tS22 rfl B_g1 rfl rfl) ?_)
        clear hE a; intro a hE
        refine p_cons (s_still p6_4_10 hE (wn_some g6_4_8 rfl rfl) rfl (st_loadN (off := 0) (k := 16) (vs := b16 d) tA22 tS22 rfl B_g4 rfl rfl) ?_)
        clear hE a; intro a hE
        refine p_cons (s_still p6_4_11 hE (wn_some g6_4_8 rfl rfl) rfl (st_move rfl) ?_)
        clear hE a; intro a hE
        refine p_cons (s_still p6_4_12 hE (wn_some g6_4_8 rfl rfl) rfl (st_move rfl) ?_)
        clear hE a; intro a hE
        refine p_cons (s_call (xs := [Operand.tmp 47, Operand.tmp 48, Operand.tmp 49, Operand.tmp 50]) (args := [Value.agg (b16 s).toArray, Value.agg (b16 d).toArray, Value.int .i64 n, Value.slice A l.length cap]) p6_4_13 hE (wn_some g6_4_8 rfl rfl) rfl rfl Try.func29 cl29 (chk_ok s d n A cap l.length l hs hd hby rfl hlc hlm hN hG false (decide_eq_false hZ) _ (F_l _ K_0)) ?_)
        rintro e w17 ⟨rfl, hk⟩
        replace B_g1 := kp_blk B_g1 hk (fun h => h)
        replace B_g4 := kp_blk B_g4 hk (fun h => h)
        replace K_0 := K_0.then_ hk (fun _ h => h.elim)
        refine ⟨_, rfl, ?_⟩
        clear hE a; intro a hE
        refine p_cons (s_still p6_4_14 hE (wn_some g6_4_8 rfl rfl) rfl (st_move rfl) ?_)
        clear hE a; intro a hE
        refine p_cons (s_still p6_4_15 hE (wn_some g6_4_8 rfl rfl) rfl (st_eql (b := true) rfl rfl (by decide)) ?_)
        clear hE a; intro a hE
        refine p_cons (s_still p6_4_16 hE (wn_some g6_4_8 rfl rfl) rfl (st_move rfl) ?_)
        clear hE a; intro a hE
        refine p_cons (s_still p6_4_17 hE (wn_some g6_4_16 rfl rfl) rfl (st_move rfl) ?_)
        clear hE a; intro a hE
        refine p_cons (s_still p6_4_18 hE (wn_some g6_4_16 rfl rfl) rfl (st_eql (b := false) rfl rfl (decide_eq_false hZ)) ?_)
        clear hE a; intro a hE
        refine p_cons (s_still p6_4_19 hE (wn_some g6_4_8 rfl rfl) rfl (st_pick rfl rfl) ?_)
        clear hE a; intro a hE
        refine p_cons (s_still p6_4_20 hE (wn_some g6_4_8 rfl rfl) rfl (st_neqB Try.underlying4 rfl rfl rfl) ?_)
        clear hE a; intro a hE
        refine p_cons (s_still p6_4_21 hE wn_none rfl (st_pick rfl rfl) ?_)
        clear hE a; intro a hE
        refine p_nil ?_
        refine x_norm ?_
        refine c_cond (t := false) hE rfl ?_
        refine wp_skip ?_
        refine x_norm ?_
        exact tail6 s d n A cap l p w w17 g1 g4 B_g1 B_g4 n_g1_g4 z_0_g1 z_0_g4 K_0 hs hd hby hlc hlm F_l hN hG hR_ a (En.sub hE ⟨rfl, rfl, rfl, rfl, rfl, rfl, trivial⟩)
  ·
    refine c_reg R6_2_l ?_
    refine p_cons (s_still p6_2_0 hE wn_none rfl (st_loadN (off := 0) (k := 16) (vs := b16 s) tA22 tS22 rfl B_g1 rfl rfl) ?_)
    clear hE a; intro a hE
    refine p_cons (s_still p6_2_1 hE wn_none rfl (st_loadN (off := 0) (k := 16) (vs := b16 d) tA22 tS22 rfl B_g4 rfl rfl) ?_)
    clear hE a; intro a hE
    refine p_cons (s_still p6_2_2 hE wn_none rfl (st_move rfl) ?_)
    clear hE a; intro a hE
    refine p_cons (s_still p6_2_3 hE wn_none rfl (st_move rfl) ?_)
    clear hE a; intro a hE
    refine p_cons (s_call (xs := [Operand.tmp 23, Operand.tmp 24, Operand.tmp 25, Operand.tmp 26]) (args := [Value.agg (b16 s).toArray, Value.agg (b16 d).toArray, Value.int .i64 n, Value.slice A l.length cap]) p6_2_4 hE wn_none rfl rfl Try.func27 cl27 (pse_1 s d n A cap l.length l hs hd hby rfl hlc hlm hN _ (F_l _ K_0)) ?_)
    rintro e w18 ⟨rfl, hk⟩
    replace B_g1 := kp_blk B_g1 hk (fun h => h)
    replace B_g4 := kp_blk B_g4 hk (fun h => h)
    replace K_0 := K_0.then_ hk (fun _ h => h.elim)
    refine ⟨_, rfl, ?_⟩
    clear hE a; intro a hE
    refine p_cons (s_still p6_2_5 hE wn_none rfl (st_move rfl) ?_)
    clear hE a; intro a hE
    refine p_cons (s_still p6_2_6 hE wn_none rfl (st_extract rfl rfl) ?_)
    clear hE a; intro a hE
    refine p_cons (s_still p6_2_7 hE wn_none rfl (st_extract rfl rfl) ?_)
    clear hE a; intro a hE
    refine p_cons (s_still p6_2_8 hE wn_none rfl (st_assign rfl) ?_)
    clear hE a; intro a hE
    refine p_cons (s_still p6_2_9 hE wn_none rfl (st_assign rfl) ?_)
    clear hE a; intro a hE
    refine p_nil ?_
    refine x_norm ?_
    refine c_reg R6_3_l ?_
    refine p_cons (s_still p6_3_0 hE wn_none rfl (st_loadN (off := 0) (k := 16) (vs := b16 s) tA22 tS22 rfl B_g1 rfl rfl) ?_)
    clear hE a; intro a hE
    refine p_cons (s_still p6_3_1 hE wn_none rfl (st_loadN (off := 0) (k := 16) (vs := b16 d) tA22 tS22 rfl B_g4 rfl rfl) ?_)
    clear hE a; intro a hE
    refine p_cons (s_still p6_3_2 hE wn_none rfl (st_move rfl) ?_)
    clear hE a; intro a hE
    refine p_cons (s_still p6_3_3 hE wn_none rfl (st_move rfl) ?_)
    clear hE a; intro a hE
    refine p_cons (s_call (xs := [Operand.tmp 31, Operand.tmp 32, Operand.tmp 33, Operand.tmp 34]) (args := [Value.agg (b16 s).toArray, Value.agg (b16 d).toArray, Value.int .i64 n, Value.slice A l.length cap]) p6_3_4 hE wn_none rfl rfl Try.func28 cl28 (rpse_1 s d n A cap l.length l hs hd hby rfl hlc hlm hN _ (F_l _ K_0)) ?_)
    rintro e w19 ⟨rfl, hk⟩
    replace B_g1 := kp_blk B_g1 hk (fun h => h)
    replace B_g4 := kp_blk B_g4 hk (fun h => h)
    replace K_0 := K_0.then_ hk (fun _ h => h.elim)
    refine ⟨_, rfl, ?_⟩
    clear hE a; intro a hE
    refine p_cons (s_still p6_3_5 hE wn_none rfl (st_move rfl) ?_)
    clear hE a; intro a hE
    refine p_cons (s_still p6_3_6 hE wn_none rfl (st_extract rfl rfl) ?_)
    clear hE a; intro a hE
    refine p_cons (s_still p6_3_7 hE wn_none rfl (st_extract rfl rfl) ?_)
    clear hE a; intro a hE
    refine p_cons (s_still p6_3_8 hE wn_none rfl (st_assign rfl) ?_)
    clear hE a; intro a hE
    refine p_cons (s_still p6_3_9 hE wn_none rfl (st_assign rfl) ?_)
    clear hE a; intro a hE
    refine p_nil ?_
    refine x_norm ?_
    refine wp_seq ?_
    refine c_reg R6_4_l ?_
    refine p_cons (s_still p6_4_0 hE wn_none rfl (st_move rfl) ?_)
    clear hE a; intro a hE
    refine p_cons (s_still p6_4_1 hE wn_none rfl (st_move rfl) ?_)
    clear hE a; intro a hE
    refine p_cons (s_still p6_4_2 hE wn_none rfl (st_neq (b := false) rfl rfl (by decide)) ?_)
    clear hE a; intro a hE
    refine p_cons (s_still p6_4_3 hE wn_none rfl (st_move rfl) ?_)
    clear hE a; intro a hE
    refine p_cons (s_still p6_4_4 hE (wn_some g6_4_3 rfl rfl) rfl (st_move rfl) ?_)
    clear hE a; intro a hE
    refine p_cons (s_still p6_4_5 hE (wn_some g6_4_3 rfl rfl) rfl (st_move rfl) ?_)
    clear hE a; intro a hE
    refine p_cons (s_still p6_4_6 hE (wn_some g6_4_3 rfl rfl) rfl (st_neq (b := false) rfl rfl (by decide)) ?_)
    clear hE a; intro a hE
    refine p_cons (s_still p6_4_7 hE wn_none rfl (st_pick rfl rfl) ?_)
    clear hE a; intro a hE
    refine p_cons (s_still p6_4_8 hE wn_none rfl (st_move rfl) ?_)
    clear hE a; intro a hE
    refine p_cons (s_still p6_4_9 hE (wn_some g6_4_8 rfl rfl) rfl (st_loadN (off := 0) (k := 16) (vs := b16 s) tA22 tS22 rfl B_g1 rfl rfl) ?_)
    clear hE a; intro a hE
    refine p_cons (s_still p6_4_10 hE (wn_some g6_4_8 rfl rfl) rfl (st_loadN (off := 0) (k := 16) (vs := b16 d) tA22 tS22 rfl B_g4 rfl rfl) ?_)
    clear hE a; intro a hE
    refine p_cons (s_still p6_4_11 hE (wn_some g6_4_8 rfl rfl) rfl (st_move rfl) ?_)
    clear hE a; intro a hE
    refine p_cons (s_still p6_4_12 hE (wn_some g6_4_8 rfl rfl) rfl (st_move rfl) ?_)
    clear hE a; intro a hE
    refine p_cons (s_call (xs := [Operand.tmp 47, Operand.tmp 48, Operand.tmp 49, Operand.tmp 50]) (args := [Value.agg (b16 s).toArray, Value.agg (b16 d).toArray, Value.int .i64 n, Value.slice A l.length cap]) p6_4_13 hE (wn_some g6_4_8 rfl rfl) rfl rfl Try.func29 cl29 (chk_1 s d n A cap l.length l hs hd hby rfl hlc hlm hN _ (F_l _ K_0)) ?_)
    rintro e w20 ⟨rfl, hk⟩
    replace B_g1 := kp_blk B_g1 hk (fun h => h)
    replace B_g4 := kp_blk B_g4 hk (fun h => h)
    replace K_0 := K_0.then_ hk (fun _ h => h.elim)
    refine ⟨_, rfl, ?_⟩
    clear hE a; intro a hE
    refine p_cons (s_still p6_4_14 hE (wn_some g6_4_8 rfl rfl) rfl (st_move rfl) ?_)
    clear hE a; intro a hE
    refine p_cons (s_still p6_4_15 hE (wn_some g6_4_8 rfl rfl) rfl (st_eql (b := false) rfl rfl (by decide)) ?_)
    clear hE a; intro a hE
    refine p_cons (s_still p6_4_16 hE (wn_some g6_4_8 rfl rfl) rfl (st_move rfl) ?_)
    clear hE a; intro a hE
    refine p_cons (s_skip p6_4_17 hE (wn_some g6_4_16 rfl rfl) rfl ?_)
    clear hE a; intro a hE
    refine p_cons (s_skip p6_4_18 hE (wn_some g6_4_16 rfl rfl) rfl ?_)
    clear hE a; intro a hE
    refine p_cons (s_still p6_4_19 hE (wn_some g6_4_8 rfl rfl) rfl (st_pick rfl rfl) ?_)
    clear hE a; intro a hE
    refine p_cons (s_still p6_4_20 hE (wn_some g6_4_8 rfl rfl) rfl (st_neqB Try.underlying4 rfl rfl rfl) ?_)
    clear hE a; intro a hE
    refine p_cons (s_still p6_4_21 hE wn_none rfl (st_pick rfl rfl) ?_)
    clear hE a; intro a hE
    refine p_nil ?_
    refine x_norm ?_
    refine c_cond (t := false) hE rfl ?_
    refine wp_skip ?_
    refine x_norm ?_
    refine c_reg R6_6_l ?_
    refine p_cons (s_still p6_6_0 hE wn_none rfl (st_loadN (off := 0) (k := 16) (vs := b16 s) tA22 tS22 rfl B_g1 rfl rfl) ?_)
    clear hE a; intro a hE
    refine p_cons (s_still p6_6_1 hE wn_none rfl (st_loadN (off := 0) (k := 16) (vs := b16 d) tA22 tS22 rfl B_g4 rfl rfl) ?_)
    clear hE a; intro a hE
    refine p_cons (s_still p6_6_2 hE wn_none rfl (st_move rfl) ?_)
    clear hE a; intro a hE
    refine p_cons (s_still p6_6_3 hE wn_none rfl (st_move rfl) ?_)
    clear hE a; intro a hE
    refine p_cons (s_still p6_6_4 hE wn_none rfl (st_move rfl) ?_)
    clear hE a; intro a hE
    refine p_cons (s_call (xs := [Operand.tmp 61, Operand.tmp 62, Operand.tmp 63, Operand.tmp 64, Operand.tmp 65]) (args := [Value.agg (b16 s).toArray, Value.agg (b16 d).toArray, Value.int .i64 n, Value.slice A l.length cap, Value.int .i64 p]) p6_6_5 hE wn_none rfl rfl Try.func30 cl30 (set_1 s d n A cap l.length l hs hd hby rfl hlc hlm p hN _ (F_l _ K_0)) ?_)
    rintro e w21 ⟨rfl, hk⟩
    replace B_g1 := kp_blk B_g1 hk (fun h => h)
    replace B_g4 := kp_blk B_g4 hk (fun h => h)
    replace K_0 := K_0.then_ hk (fun _ h => h.elim)
    refine ⟨_, rfl, ?_⟩
    clear hE a; intro a hE
    refine p_cons (s_still p6_6_6 hE wn_none rfl (st_move rfl) ?_)
    clear hE a; intro a hE
    refine p_cons (s_still p6_6_7 hE wn_none rfl (st_extract rfl rfl) ?_)
    clear hE a; intro a hE
    refine p_cons (s_still p6_6_8 hE wn_none rfl (st_extract rfl rfl) ?_)
    clear hE a; intro a hE
    refine p_cons (s_still p6_6_9 hE wn_none rfl (st_assign rfl) ?_)
    clear hE a; intro a hE
    refine p_cons (s_still p6_6_10 hE wn_none rfl (st_assign rfl) ?_)
    clear hE a; intro a hE
    refine p_nil ?_
    refine x_norm ?_
    refine wp_seq ?_
    refine c_reg R6_7_l ?_
    refine p_cons (s_still p6_7_0 hE wn_none rfl (st_move rfl) ?_)
    clear hE a; intro a hE
    refine p_cons (s_still p6_7_1 hE wn_none rfl (st_neq (b := true) rfl rfl (by decide)) ?_)
    clear hE a; intro a hE
    refine p_nil ?_
    refine x_norm ?_
    refine c_cond (t := true) hE rfl ?_
    refine c_reg R6_8_l ?_
    refine p_cons (s_call (xs := []) (args := []) p6_8_0 hE wn_none rfl rfl Try.func31 cl31 (known_any _) ?_)
    rintro e w22 ⟨rfl, hb⟩
    have hk := Kp.of_below hb (fun _ => False)
    replace B_g1 := kp_blk B_g1 hk (fun h => h)
    replace B_g4 := kp_blk B_g4 hk (fun h => h)
    replace K_0 := K_0.then_ hk (fun _ h => h.elim)
    refine ⟨_, rfl, ?_⟩
    clear hE a; intro a hE
    refine p_cons (s_still p6_8_1 hE wn_none rfl (st_move rfl) ?_)
    clear hE a; intro a hE
    refine p_cons (s_still p6_8_2 hE (wn_some g6_8_1 rfl rfl) rfl (st_move rfl) ?_)
    clear hE a; intro a hE
    refine p_cons (s_still p6_8_3 hE (wn_some g6_8_1 rfl rfl) rfl (st_move rfl) ?_)
    clear hE a; intro a hE
    refine p_cons (s_still p6_8_4 hE (wn_some g6_8_1 rfl rfl) rfl (st_eql (b := true) rfl rfl (by decide)) ?_)
    clear hE a; intro a hE
    refine p_cons (s_still p6_8_5 hE wn_none rfl (st_pick rfl rfl) ?_)
    clear hE a; intro a hE
    refine p_cons (s_still p6_8_6 hE wn_none rfl (st_move rfl) ?_)
    clear hE a; intro a hE
    refine p_cons (s_still p6_8_7 hE (wn_some g6_8_6 rfl rfl) rfl (st_move rfl) ?_)
    clear hE a; intro a hE
    refine p_cons (s_still p6_8_8 hE (wn_some g6_8_6 rfl rfl) rfl (st_len Try.underlying36 rfl) ?_)
    clear hE a; intro a hE
    refine p_cons (s_still p6_8_9 hE (wn_some g6_8_6 rfl rfl) rfl (st_eql (b := true) rfl rfl (by decide)) ?_)
    clear hE a; intro a hE
    refine p_cons (s_still p6_8_10 hE wn_none rfl (st_pick rfl rfl) ?_)
    clear hE a; intro a hE
    refine p_cons (s_still p6_8_11 hE wn_none rfl (st_assign rfl) ?_)
    clear hE a; intro a hE
    refine p_nil ?_
    refine x_norm ?_
    refine wp_ret ?_
    refine x_ret ?_
    refine ret_one (v := Value.bool true) rfl hE (.tmp rfl .nil) ?_
    exact hR_ _ K_0
theorem reps_one {α : Type} {f : α → Value} {R : α → List Value → Prop} (hR : ∀ p c, R p c → c = [f p]) {z : List α} {cs : List Value} (h : Reps R 1 z cs) : cs = z.map f := by
  apply List.ext_getElem?
  intro i
  by_cases hi : i < z.length
  · have h2 := hR _ _ (h.2 i _ (List.getElem?_eq_getElem hi))
    have h3 := congrArg (fun l => l[0]?) h2
    simp only [Nat.mul_one, List.getElem?_take, List.getElem?_drop] at h3
    simp only [List.getElem?_map, List.getElem?_eq_getElem hi]
    simpa using h3
  · have h1 := h.1
    rw [List.getElem?_eq_none (by omega), List.getElem?_eq_none (by simp; omega)]
theorem arr16 {w : World} {z : List Int} {cs : List Value} {hs : 0 < (Kd.int .u8).sz} (h : (Kd.arr 16 (Kd.int .u8) hs).K w z cs) : cs = b16 (fun i => z.getD i 0) := by
  obtain ⟨hl, hr⟩ := h
  have e := reps_one (f := Value.int .u8) (fun p c hc => by exact hc) hr
  match z, hl with
  | [a0, a1, a2, a3, a4, a5, a6, a7, a8, a9, a10, a11, a12, a13, a14, a15], _ => rw [e]; rfl
theorem walk (l0 : List Value) (z0 : List (Int)) (l1 : List Value) (z1 : List (Int)) (a2 : Int) (a3 : Option Addr) (cap3 : Nat) (z3 : List (Int)) (a4 : Int) (w : World) (w0 : Kd.K (Kd.arr 16 (Kd.int .u8) (by decide)) w z0 l0) (o0 : (z0.length = 16 ∧ ∀ x0 ∈ z0, (Lit.int .u8 x0).wf = true)) (w1 : Kd.K (Kd.arr 16 (Kd.int .u8) (by decide)) w z1 l1) (o1 : (z1.length = 16 ∧ ∀ x0 ∈ z1, (Lit.int .u8 x0).wf = true)) (w2 : (Lit.int .i64 a2).wf = true) (w3 : Kd.C (Kd.int .u8) w a3 z3.length z3) (m3 : z3.length ≤ cap3) (o3 : (z3.length ≤ maxLen ∧ ∀ x0 ∈ z3, (Lit.int .u8 x0).wf = true)) (y3 : z3.length * Try.prog.bytesOf 5 ≤ 140737488351232) (c3 : cap3 ≤ maxLen ∧ (a3 = none → cap3 = 0)) (w4 : (Lit.int .i64 a4).wf = true) :
    Calls Try.prog 6 #[.agg ⟨l0⟩, .agg ⟨l1⟩, .int .i64 a2, .slice a3 z3.length cap3, .int .i64 a4] w fun e w' => e = .returned (.bool true) ∧ Below w.heap.size w w' := by
  have es := arr16 w0
  have ed := arr16 w1
  subst es ed
  have wf8 : ∀ y : Int, (Lit.int .u8 y).wf = true → 0 ≤ y ∧ y ≤ 255 := fun y hy => by simp [Lit.wf, IntKind.min, IntKind.max, IntKind.signed, IntKind.bits] at hy; omega
  have bd : ∀ (q : List Int), (∀ y ∈ q, (Lit.int .u8 y).wf = true) → ∀ i : Nat, 0 ≤ q.getD i 0 ∧ q.getD i 0 ≤ 255 := fun q hq i => by
    rw [List.getD_eq_getElem?_getD]
    by_cases hi : i < q.length
    · rw [List.getElem?_eq_getElem hi]; exact wf8 _ (hq _ (List.getElem_mem hi))
    · rw [List.getElem?_eq_none (by omega)]; simp
  have hby : ∀ x ∈ z3, 0 ≤ x ∧ x ≤ 255 := fun x hx => wf8 _ (o3.2 x hx)
  obtain ⟨x, hx⟩ : ∃ x : Nat, (if (1300 : Int) < (z3.length : Int) then (1300 : Int) else (z3.length : Int)) = (x : Int) := by split; exact ⟨1300, rfl⟩; exact ⟨_, rfl⟩
  have hxl : x ≤ z3.length := by split at hx <;> omega
  have hx13 : x ≤ 1300 := by split at hx <;> omega
  have hlen : (z3.take x).length = x := by simp; omega
  have hx' : (if (1300 : Int) < (z3.length : Int) then (1300 : Int) else (z3.length : Int)) = ((z3.take x).length : Int) := by rw [hx, hlen]
  have hl : Kd.C (Kd.int .u8) w a3 (z3.take x).length (z3.take x) := by rw [hlen]; exact C_take w3 hxl
  exact law_R (fun i => z0.getD i 0) (fun i => z1.getD i 0) a2 a3 cap3 (z3.take x) a4 z3 hx' (by omega) m3 w (fun i _ => bd z0 o0.2 i) (fun i _ => bd z1 o1.2 i) (fun y hy => hby y (List.mem_of_mem_take hy)) (by omega) (by omega) (fun W' hk => Kd.C_below hl (hk.to (Nat.le_refl _) (fun _ h => h.elim))) (fun w' hk => ⟨rfl, hk.to (Nat.le_refl _) (fun _ h => h.elim)⟩)
end Go.Proofs.Ytndiddfleidnaaa.Sl
