/- Layer 4: Digits, both Pseudo, Check, Set. -/
import Derived.Test.YtndiddfleidnaaaDs
import Derived.Test.YtndiddfleidnaaaPackMore
import Derived.Test.YtndiddfleidnaaaPackPut
import Derived.Test.YtndiddfleidnaaaSumPlain
import Derived.LoopN
set_option maxRecDepth 100000
set_option linter.unusedVariables false
set_option linter.unusedSimpArgs false
namespace Go.Proofs.Ytndiddfleidnaaa.Sh
open Go.RowKit Go.Proofs.YtndiddfleidnaaaW.PrintWords Go.Proofs.Ytndiddfleidnaaa.Ds
open Go.Proofs.Ytndiddfleidnaaa.Pk (Kp fitsF spanF putF digF fits_any put_ok put_bd clone_all)
open Go.Proofs.Ytndiddfleidnaaa.Sum (addF of_any refsum_f addF_tot addF_len F F_range tot tot_nonneg total)
open Go.Proofs.Ytndiddfleidnaaa.PSumHeaders (rivuletref04_Sum.calls)
theorem kp_eq {w w' : World} (h : w' = w) (S : Nat → Prop) : Kp w w' S := by rw [h]; exact Kp.refl _ _
theorem kp_n {w w' : World} (h : ∃ n, w' = w.drewN n) (S : Nat → Prop) : Kp w w' S := by obtain ⟨n, rfl⟩ := h; exact (Kp.refl _ _).drewN n
theorem own_blk {w : World} {g base : Nat} {T : TypeId} {cs : Array Value} {k : IntKind} {l : List Int} (hb : w.heap[g]? = some (.cells cs T (0, 0))) (hg : base ≤ g) (hc : cs.toList = encs (Value.int k) l) (hl : l.length ≤ maxLen) : w.ownsRow base T 1 (.slice (some ⟨g, 0, none⟩) l.length l.length) l.length (encs (Value.int k) l) := by
  have e : (encs (Value.int k) l).length = l.length := by simp [encs]
  refine ⟨by rw [e, Nat.mul_one], .inr ⟨g, l.length, cs, rfl, hg, hb, Nat.le_refl _, hl, ?_, ?_⟩⟩
  · rw [← Array.length_toList, hc, e, Nat.mul_one]
  · rw [hc, Nat.mul_one, List.take_of_length_le (Nat.le_of_eq e)]
theorem s_storeO {P : Program} {R : Array Oper} {Q : Exit → Act → World → Prop} {K : Act → World → Prop} {i nn : Nat} {a : Act} {w : World} {m : List (Nat × Value)} {T T1 : TypeId} {g : Option (Nat × Bool)} {X Y : Operand} {A : Option Addr} {c n base e j : Nat} {k : IntKind} {xs : List Int} {v : Int}
    (hp : pj R i = some (none, .store T1 X Y, T, g)) (hE : En nn a m) (hw : Wn R m g true) (hs : (P.info? T1).map (·.size) = some 1) (hx : ev m X = some (.pointer (some (ea A j)))) (hy : ev m Y = some (.int k v)) (ho : w.ownsRow base e 1 (.slice A n c) n (encs (Value.int k) xs)) (hj : j < n)
    (h : ∀ w', w'.ownsRow base e 1 (.slice A n c) n (encs (Value.int k) (xs.set j v)) → Kp w w' (OB A) → K a w') : wpOp P R Q i K a w := by
  have ho1 := ho.1
  rcases ho.2 with ⟨_, h0⟩ | ⟨b, cap, cur, hv, hb, hg, hle, hm, hsz, htk⟩
  · omega
  · injection hv with hA _ hc
    subst hA hc
    have hea : ea (some (⟨b, 0, none⟩ : Addr)) j = ⟨b, j, none⟩ := by simp [ea, add_mk]
    rw [hea] at hx
    refine s_store (off := j) (k := 1) (v := .int k v) (cs' := (cur.toList.set j (.int k v)).toArray) hp hE hw hs hx hy rfl rfl hg (by omega) ?_ ?_
    · have hlt : j < cur.toList.length := by rw [Array.length_toList]; omega
      show _ ++ [Value.int k v] ++ _ = _
      rw [List.set_eq_take_append_cons_drop, if_pos hlt]
      simp
    · intro w' hg' hk
      refine h w' ⟨by simpa [encs] using ho1, .inr ⟨b, c, _, rfl, hb, hg', hle, hm, ?_, ?_⟩⟩ (hk.mono (fun k hk => by rw [hk]; exact ⟨_, rfl, rfl⟩))
      · simpa using hsz
      · show ((cur.toList.set j (.int k v)).take (n * 1)) = _
        rw [List.take_set, htk]
        simp [encs, List.map_set]
theorem four {a b c d a' b' c' d' : Int} (h1 : a = a') (h2 : b = b') (h3 : c = c') (h4 : d = d') : [a, b, c, d] = [a', b', c', d'] := by subst h1 h2 h3 h4; rfl
theorem put4 (y : Int) : putF 4 [y] = [y / 16777216 % 256, y / 65536 % 256, y / 256 % 256, y % 256] := rfl
theorem fits1n {n : Int} (h : 0 ≤ n ∧ n ≤ 255) : fitsF 1 [n] = true := by
  simp only [fitsF, Bool.and_eq_true, List.all_eq_true, decide_eq_true_eq]
  have e : spanF 1 = 256 := rfl
  exact ⟨by omega, fun y hy => by simp at hy; omega⟩
theorem fits1x {n : Int} (h : ¬ (0 ≤ n ∧ n ≤ 255)) : fitsF 1 [n] = false := by
  cases h2 : fitsF 1 [n] with
  | false => rfl
  | true =>
    simp only [fitsF, Bool.and_eq_true, List.all_eq_true, decide_eq_true_eq] at h2
    have e : spanF 1 = 256 := rfl
    have := h2.2 n (by simp)
    omega
theorem fits4n {x y : Int} (hx : 0 ≤ x ∧ x < 4294967296) (hy : 0 ≤ y ∧ y < 4294967296) : fitsF 4 [x, y] = true := by
  simp only [fitsF, Bool.and_eq_true, List.all_eq_true, decide_eq_true_eq]
  have e : spanF 4 = 4294967296 := rfl
  exact ⟨by omega, fun z hz => by simp at hz; omega⟩
theorem put8 (B : Option Addr) (cl : Nat) (x y : Int) (hf : fitsF 4 [x, y] = true) (w : World) (h : Kd.C (Kd.int .i64) w B 2 [x, y]) (hc : 2 ≤ cl) : Calls Try.prog 77 #[.slice none 0 0, .int .i64 4, .slice B 2 cl] w fun e w' => ∃ A' c', e = .returned (.tuple #[.slice A' 8 c', .int .i64 0]) ∧ w'.ownsRow w.heap.size 5 1 (.slice A' 8 c') 8 (encs (Value.int .u8) (putF 4 [x, y])) ∧ Kp w w' (fun _ => False) := by
  refine (put_ok none B 0 cl 4 [] [x, y] 2 rfl hf w (Kd.C_nil _ _) h hc (Nat.le_of_ble_eq_true rfl)).mono ?_
  rintro e w' ⟨v, rfl, ho, hb⟩
  obtain ⟨A', c', rfl⟩ := own_sl ho
  exact ⟨A', c', rfl, ho, Kp.of_below hb _⟩
/-- All that is summed. -/
def rowsF (s d : Nat → Int) (n : Int) (l : List Int) : List (List Int) := [l16 s, l16 d, putF 4 [(l.length : Int), n], l]
def psF (s d : Nat → Int) (n : Int) (l : List Int) : Int := 65535 - (addF (0, 0) (rowsF s d n l).flatten).1
theorem l16_bd {g : Nat → Int} (hg : ∀ i, i < 16 → 0 ≤ g i ∧ g i ≤ 255) : ∀ y ∈ l16 g, 0 ≤ y ∧ y ≤ 255 := by
  intro y hy
  have e : l16 g = (List.range 16).map g := rfl
  rw [e] at hy
  obtain ⟨i, hi, rfl⟩ := List.mem_map.1 hy
  exact hg i (List.mem_range.1 hi)
theorem rows_bd {s d : Nat → Int} {n : Int} {l : List Int} (hs : ∀ i, i < 16 → 0 ≤ s i ∧ s i ≤ 255) (hd : ∀ i, i < 16 → 0 ≤ d i ∧ d i ≤ 255) (hb : ∀ y ∈ l, 0 ≤ y ∧ y ≤ 255) : ∀ b ∈ rowsF s d n l, ∀ x ∈ b, 0 ≤ x ∧ x ≤ 255 := by
  intro b hm
  simp only [rowsF, List.mem_cons, List.not_mem_nil, or_false] at hm
  rcases hm with rfl | rfl | rfl | rfl
  · exact l16_bd hs
  · exact l16_bd hd
  · exact put_bd _ _
  · exact hb
theorem flat_bd {ls : List (List Int)} (h : ∀ b ∈ ls, ∀ x ∈ b, 0 ≤ x ∧ x ≤ 255) : ∀ x ∈ ls.flatten, 0 ≤ x ∧ x ≤ 255 := by
  intro x hx
  obtain ⟨b, h1, h2⟩ := List.mem_flatten.1 hx
  exact h b h1 x h2
theorem rows_len (s d : Nat → Int) (n : Int) (l : List Int) : (rowsF s d n l).flatten.length = 40 + l.length := by
  have e : (rowsF s d n l).flatten = l16 s ++ (l16 d ++ (putF 4 [(l.length : Int), n] ++ l)) := by simp [rowsF]
  rw [e]
  simp only [List.length_append]
  show 16 + (16 + (8 + l.length)) = _
  omega
theorem ps_bd {s d : Nat → Int} {n : Int} {l : List Int} (h : ∀ b ∈ rowsF s d n l, ∀ x ∈ b, 0 ≤ x ∧ x ≤ 255) : 0 ≤ psF s d n l ∧ psF s d n l ≤ 65535 := by
  have := addF_len _ (flat_bd h)
  unfold psF; omega
/-- The document's order of the same bytes. -/
theorem big_eq (s d : Nat → Int) (n : Int) (l : List Int) (hn : 0 ≤ n ∧ n ≤ 255) : (((((l16 s) ++ (l16 d)) ++ (putF 4 [(l.length : Int)])) ++ [0, 0, 0, n]) ++ l) = (rowsF s d n l).flatten := by
  have e : putF 4 [(l.length : Int), n] = putF 4 [(l.length : Int)] ++ [0, 0, 0, n] := by
    show putF 4 [(l.length : Int)] ++ [n / 16777216 % 256, n / 65536 % 256, n / 256 % 256, n % 256] = _
    rw [show n / 16777216 % 256 = 0 by omega, show n / 65536 % 256 = 0 by omega, show n / 256 % 256 = 0 by omega, show n % 256 = n by omega]
  simp [rowsF, e]
theorem refsumN (A : Option Addr) (c n : Nat) (X L : List Int) (hX : X = L) (w : World) (h : Kd.C (Kd.int .u8) w A n X) (hc : n ≤ c) (hb : ∀ x ∈ L, 0 ≤ x ∧ x ≤ 255) (hl : L.length ≤ 10000) : Calls Try.prog 80 #[.slice A n c] w fun e w' => e = .returned (.int .i64 (addF (0, 0) L).1) ∧ Kp w w' (fun _ => False) := by
  subst hX
  have hn := h.1
  subst hn
  exact (rivuletref04_Sum.calls 30000 A c X _ w h hc (refsum_f X hb hl)).mono (by rintro e w' ⟨rfl, hd⟩; exact ⟨rfl, Kp.of_below hd.below _⟩)
theorem set_bd {l : List Int} {i : Nat} {v : Int} (h : ∀ y ∈ l, 0 ≤ y ∧ y ≤ 255) (hv : 0 ≤ v ∧ v ≤ 255) : ∀ y ∈ l.set i v, 0 ≤ y ∧ y ≤ 255 := by
  intro y hy
  rcases List.mem_or_eq_of_mem_set hy with h2 | h2
  · exact h y h2
  · rw [h2]; exact hv
/-- The text with 0 at the pair. -/
def zeF (l : List Int) (k : Nat) : List Int := (l.set k 0).set (k + 1) 0
def seF (l : List Int) (k : Nat) (r : Int) : List Int := ((zeF l k).set k (r / 256)).set (k + 1) (r % 256)
theorem ze_bd {l : List Int} {k : Nat} (h : ∀ y ∈ l, 0 ≤ y ∧ y ≤ 255) : ∀ y ∈ zeF l k, 0 ≤ y ∧ y ≤ 255 := set_bd (set_bd h (by omega)) (by omega)
theorem ze_len (l : List Int) (k : Nat) : (zeF l k).length = l.length := by simp [zeF]
theorem se_len (l : List Int) (k : Nat) (r : Int) : (seF l k r).length = l.length := by simp [seF, ze_len]
theorem R79_0_l : List.range (regOf Try.f79 0).size = [0, 1] := by kernel_rfl
theorem R79_1_l : List.range (regOf Try.f79 1).size = [0, 1, 2] := by kernel_rfl
theorem R79_2_l : List.range (regOf Try.f79 2).size = [0, 1] := by kernel_rfl
theorem R79_3_l : List.range (regOf Try.f79 3).size = [0, 1] := by kernel_rfl
theorem R79_4_l : List.range (regOf Try.f79 4).size = [0, 1, 2] := by kernel_rfl
theorem R79_5_l : List.range (regOf Try.f79 5).size = [0, 1] := by kernel_rfl
theorem R79_7_l : List.range (regOf Try.f79 7).size = [0, 1, 2, 3, 4, 5, 6] := by kernel_rfl
theorem R79_8_l : List.range (regOf Try.f79 8).size = [0, 1, 2] := by kernel_rfl
theorem R79_6_l : List.range (regOf Try.f79 6).size = [0, 1, 2] := by kernel_rfl
theorem R79_9_l : List.range (regOf Try.f79 9).size = [0, 1, 2, 3, 4] := by kernel_rfl
theorem body79 : Try.f79.body = some (.seq (.region 0 (regOf Try.f79 0) false) (.seq (.region 1 (regOf Try.f79 1) false) (.seq (.seq (.region 2 (regOf Try.f79 2) false) (.cond (Operand.tmp 11) (.seq (.region 3 (regOf Try.f79 3) false) (.ret)) (.skip))) (.seq (.seq (.region 4 (regOf Try.f79 4) false) (.block 0 (.loop (.seq (.seq (.region 5 (regOf Try.f79 5) false) (.cond (Operand.tmp 15) (.skip) (.exit 0))) (.seq (.block 1 (.seq (.region 7 (regOf Try.f79 7) false) (.region 8 (regOf Try.f79 8) false))) (.region 6 (regOf Try.f79 6) false)))))) (.seq (.region 9 (regOf Try.f79 9) false) (.ret)))))) := by kernel_rfl
theorem p79_0_0 : pj (regOf Try.f79 0) 0 = some (some 4, Op.assign (Operand.const (Value.slice none 0 0)), 36, none) := by kernel_rfl
theorem p79_0_1 : pj (regOf Try.f79 0) 1 = some (some 5, Op.assign (Operand.const (Value.bool false)), 4, none) := by kernel_rfl
theorem p79_1_0 : pj (regOf Try.f79 1) 0 = some (some 8, Op.move (Operand.tmp 0), 3, none) := by kernel_rfl
theorem p79_1_1 : pj (regOf Try.f79 1) 1 = some (some 9, Op.makeSlice 36 (Operand.tmp 8) (Operand.tmp 8), 36, none) := by kernel_rfl
theorem eD5 : elemD Try.prog 5 = some (1, 1, 1) := by kernel_rfl
theorem tZ5 : (Try.prog.info? 5).bind (·.zero) = some (Value.int .u8 0) := by kernel_rfl
theorem p79_1_2 : pj (regOf Try.f79 1) 2 = some (some 6, Op.assign (Operand.tmp 9), 36, none) := by kernel_rfl
theorem p79_2_0 : pj (regOf Try.f79 2) 0 = some (some 10, Op.move (Operand.tmp 1), 3, none) := by kernel_rfl
theorem p79_2_1 : pj (regOf Try.f79 2) 1 = some (some 11, Op.binOp BinOp.lss 3 (Operand.tmp 10) (Operand.const (Value.int IntKind.i64 0)) 3, 4, none) := by kernel_rfl
theorem p79_4_0 : pj (regOf Try.f79 4) 0 = some (some 12, Op.move (Operand.tmp 0), 3, none) := by kernel_rfl
theorem p79_4_1 : pj (regOf Try.f79 4) 1 = some (some 13, Op.binOp BinOp.sub 3 (Operand.tmp 12) (Operand.const (Value.int IntKind.i64 1)) 3, 3, none) := by kernel_rfl
theorem p79_4_2 : pj (regOf Try.f79 4) 2 = some (some 7, Op.assign (Operand.tmp 13), 3, none) := by kernel_rfl
theorem p79_5_0 : pj (regOf Try.f79 5) 0 = some (some 14, Op.move (Operand.tmp 7), 3, none) := by kernel_rfl
theorem p79_5_1 : pj (regOf Try.f79 5) 1 = some (some 15, Op.binOp BinOp.geq 3 (Operand.tmp 14) (Operand.const (Value.int IntKind.i64 0)) 3, 4, none) := by kernel_rfl
theorem p79_7_0 : pj (regOf Try.f79 7) 0 = some (some 18, Op.move (Operand.tmp 6), 36, none) := by kernel_rfl
theorem p79_7_1 : pj (regOf Try.f79 7) 1 = some (some 19, Op.move (Operand.tmp 7), 3, none) := by kernel_rfl
theorem p79_7_2 : pj (regOf Try.f79 7) 2 = some (some 20, Op.move (Operand.tmp 1), 3, none) := by kernel_rfl
theorem p79_7_3 : pj (regOf Try.f79 7) 3 = some (some 21, Op.binOp BinOp.rem 3 (Operand.tmp 20) (Operand.const (Value.int IntKind.i64 256)) 3, 3, none) := by kernel_rfl
theorem p79_7_4 : pj (regOf Try.f79 7) 4 = some (some 22, Op.convert 3 5 (Operand.tmp 21), 5, none) := by kernel_rfl
theorem p79_7_5 : pj (regOf Try.f79 7) 5 = some (some 23, Op.indexAddr 36 (Operand.tmp 18) (Operand.tmp 19), 0, none) := by kernel_rfl
theorem tS5 : (Try.prog.info? 5).map (·.size) = some 1 := by kernel_rfl
theorem p79_7_6 : pj (regOf Try.f79 7) 6 = some (none, Op.store 5 (Operand.tmp 23) (Operand.tmp 22), 0, none) := by kernel_rfl
theorem p79_8_0 : pj (regOf Try.f79 8) 0 = some (some 24, Op.move (Operand.tmp 1), 3, none) := by kernel_rfl
theorem p79_8_1 : pj (regOf Try.f79 8) 1 = some (some 25, Op.binOp BinOp.quo 3 (Operand.tmp 24) (Operand.const (Value.int IntKind.i64 256)) 3, 3, none) := by kernel_rfl
theorem p79_8_2 : pj (regOf Try.f79 8) 2 = some (some 1, Op.assign (Operand.tmp 25), 3, none) := by kernel_rfl
theorem p79_6_0 : pj (regOf Try.f79 6) 0 = some (some 16, Op.move (Operand.tmp 7), 3, none) := by kernel_rfl
theorem p79_6_1 : pj (regOf Try.f79 6) 1 = some (some 17, Op.binOp BinOp.sub 3 (Operand.tmp 16) (Operand.const (Value.int IntKind.i64 1)) 3, 3, none) := by kernel_rfl
theorem p79_6_2 : pj (regOf Try.f79 6) 2 = some (some 7, Op.assign (Operand.tmp 17), 3, none) := by kernel_rfl
theorem p79_9_0 : pj (regOf Try.f79 9) 0 = some (some 26, Op.move (Operand.tmp 6), 36, none) := by kernel_rfl
theorem p79_9_1 : pj (regOf Try.f79 9) 1 = some (some 27, Op.move (Operand.tmp 1), 3, none) := by kernel_rfl
theorem p79_9_2 : pj (regOf Try.f79 9) 2 = some (some 28, Op.binOp BinOp.eql 3 (Operand.tmp 27) (Operand.const (Value.int IntKind.i64 0)) 3, 4, none) := by kernel_rfl
theorem p79_9_3 : pj (regOf Try.f79 9) 3 = some (some 4, Op.assign (Operand.tmp 26), 36, none) := by kernel_rfl
theorem p79_9_4 : pj (regOf Try.f79 9) 4 = some (some 5, Op.assign (Operand.tmp 28), 4, none) := by kernel_rfl
set_option maxHeartbeats 4000000 in
theorem dig_ok (y : Int) (hy : 0 ≤ y ∧ y < 4294967296) (w : World) : Calls Try.prog 79 #[.int .i64 4, .int .i64 y] w fun e w' => ∃ A c, e = .returned (.tuple #[.slice A 4 c, .bool true]) ∧ w'.ownsRow w.heap.size 5 1 (.slice A 4 c) 4 (encs (Value.int .u8) (putF 4 [y])) ∧ Kp w w' (fun _ => False) := by
  have K_0 := Kp.refl w (fun _ => False)
  refine enter (args := [Value.int .i64 4, Value.int .i64 y]) (n := 29) Try.func79 body79 rfl rfl rfl ?_
  intro a hE
  refine c_reg R79_0_l ?_
  refine p_cons (s_still p79_0_0 hE wn_none rfl (st_assign rfl) ?_)
  clear hE a; intro a hE
  refine p_cons (s_still p79_0_1 hE wn_none rfl (st_assign rfl) ?_)
  clear hE a; intro a hE
  refine p_nil ?_
  refine x_norm ?_
  refine c_reg R79_1_l ?_
  refine p_cons (s_still p79_1_0 hE wn_none rfl (st_move rfl) ?_)
  clear hE a; intro a hE
  refine p_cons (s_make (s := 1) (q := 4) p79_1_1 hE wn_none rfl Try.underlying36 tZ5 eD5 rfl rfl (by decide) (by decide) rfl ?_)
  clear hE a; intro g1 w2 z3 B_g1 hk a hE
  replace B_g1 : w2.heap[g1]? = some (.cells #[Value.int .u8 0, Value.int .u8 0, Value.int .u8 0, Value.int .u8 0] 5 (0, 0)) := B_g1
  have z_0_g1 := Nat.le_trans K_0.kept.1 z3
  replace K_0 := K_0.then_ hk (fun _ h => h.elim)
  clear hk
  refine p_cons (s_still p79_1_2 hE wn_none rfl (st_assign rfl) ?_)
  clear hE a; intro a hE
  refine p_nil ?_
  refine x_norm ?_
  refine wp_seq ?_
  refine c_reg R79_2_l ?_
  refine p_cons (s_still p79_2_0 hE wn_none rfl (st_move rfl) ?_)
  clear hE a; intro a hE
  refine p_cons (s_still p79_2_1 hE wn_none rfl (st_lss (b := false) rfl rfl (decide_eq_false (by omega))) ?_)
  clear hE a; intro a hE
  refine p_nil ?_
  refine x_norm ?_
  refine c_cond (t := false) hE rfl ?_
  refine wp_skip ?_
  refine x_norm ?_
  refine wp_seq ?_
  refine c_reg R79_4_l ?_
  refine p_cons (s_still p79_4_0 hE wn_none rfl (st_move rfl) ?_)
  clear hE a; intro a hE
  refine p_cons (s_still p79_4_1 hE wn_none rfl (st_sub (z := 3) rfl rfl (by decide)) ?_)
  clear hE a; intro a hE
  refine p_cons (s_still p79_4_2 hE wn_none rfl (st_assign rfl) ?_)
  clear hE a; intro a hE
  refine p_nil ?_
  refine x_norm ?_
  refine wp_block ?_
  refine wp_loop_rounds 5 ?_
  refine (Eq.mpr (rounds_succ (n := 4)) ?_)
  refine wp_seq ?_
  refine c_reg R79_5_l ?_
  refine p_cons (s_still p79_5_0 hE wn_none rfl (st_move rfl) ?_)
  clear hE a; intro a hE
  refine p_cons (s_still p79_5_1 hE wn_none rfl (st_geq (b := true) rfl rfl (by decide)) ?_)
  clear hE a; intro a hE
  refine p_nil ?_
  refine x_norm ?_
  refine c_cond (t := true) hE rfl ?_
  refine wp_skip ?_
  refine x_norm ?_
  refine wp_seq ?_
  refine wp_block ?_
  refine c_reg R79_7_l ?_
  refine p_cons (s_still p79_7_0 hE wn_none rfl (st_move rfl) ?_)
  clear hE a; intro a hE
  refine p_cons (s_still p79_7_1 hE wn_none rfl (st_move rfl) ?_)
  clear hE a; intro a hE
  refine p_cons (s_still p79_7_2 hE wn_none rfl (st_move rfl) ?_)
  clear hE a; intro a hE
  refine p_cons (s_still p79_7_3 hE wn_none rfl (st_rem (z := y % 256) rfl rfl (by decide) (Int.tmod_eq_emod_of_nonneg (by omega))) ?_)
  clear hE a; intro a hE
  refine p_cons (s_still p79_7_4 hE wn_none rfl (st_conv (z := (y % 256)) (by kernel_rfl) Try.underlying5 rfl (wr_u8 _ (by omega) (by omega))) ?_)
  clear hE a; intro a hE
  refine p_cons (s_still p79_7_5 hE wn_none rfl (st_indexAddr (i := 3) Try.underlying36 tS5 rfl rfl (by decide) rfl) ?_)
  clear hE a; intro a hE
  refine p_cons (s_store (off := 3) (k := 1) (cs' := #[Value.int .u8 0, Value.int .u8 0, Value.int .u8 0, Value.int .u8 (y % 256)]) p79_7_6 hE wn_none tS5 rfl rfl rfl rfl B_g1 (Nat.le_of_ble_eq_true rfl) rfl ?_)
  intro w4 B_g1' hk
  replace K_0 := K_0.then_ hk (fun k h => by rw [show k = g1 from h]; exact Or.inr z_0_g1)
  replace B_g1 := B_g1'
  clear hk
  refine p_nil ?_
  refine x_norm ?_
  refine c_regL R79_8_l ?_
  refine p_cons (s_still p79_8_0 hE wn_none rfl (st_move rfl) ?_)
  clear hE a; intro a hE
  refine p_cons (s_still p79_8_1 hE wn_none rfl (st_quo (z := y / 256) rfl rfl (by decide) (by rw [Int.tdiv_eq_ediv_of_nonneg (by omega)]; exact wr_i64 _ (by omega) (by omega))) ?_)
  clear hE a; intro a hE
  refine p_cons (s_still p79_8_2 hE wn_none rfl (st_assign rfl) ?_)
  clear hE a; intro a hE
  refine p_nil ?_
  refine x_normB ?_
  refine x_norm ?_
  refine c_regL R79_6_l ?_
  refine p_cons (s_still p79_6_0 hE wn_none rfl (st_move rfl) ?_)
  clear hE a; intro a hE
  refine p_cons (s_still p79_6_1 hE wn_none rfl (st_sub (z := 2) rfl rfl (by decide)) ?_)
  clear hE a; intro a hE
  refine p_cons (s_still p79_6_2 hE wn_none rfl (st_assign rfl) ?_)
  clear hE a; intro a hE
  refine p_nil ?_
  refine x_norm ?_
  refine (Eq.mpr (rounds_succ (n := 3)) ?_)
  refine wp_seq ?_
  refine c_reg R79_5_l ?_
  refine p_cons (s_still p79_5_0 hE wn_none rfl (st_move rfl) ?_)
  clear hE a; intro a hE
  refine p_cons (s_still p79_5_1 hE wn_none rfl (st_geq (b := true) rfl rfl (by decide)) ?_)
  clear hE a; intro a hE
  refine p_nil ?_
  refine x_norm ?_
  refine c_cond (t := true) hE rfl ?_
  refine wp_skip ?_
  refine x_norm ?_
  refine wp_seq ?_
  refine wp_block ?_
  refine c_reg R79_7_l ?_
  refine p_cons (s_still p79_7_0 hE wn_none rfl (st_move rfl) ?_)
  clear hE a; intro a hE
  refine p_cons (s_still p79_7_1 hE wn_none rfl (st_move rfl) ?_)
  clear hE a; intro a hE
  refine p_cons (s_still p79_7_2 hE wn_none rfl (st_move rfl) ?_)
  clear hE a; intro a hE
  refine p_cons (s_still p79_7_3 hE wn_none rfl (st_rem (z := (y / 256) % 256) rfl rfl (by decide) (Int.tmod_eq_emod_of_nonneg (by omega))) ?_)
  clear hE a; intro a hE
  refine p_cons (s_still p79_7_4 hE wn_none rfl (st_conv (z := ((y / 256) % 256)) (by kernel_rfl) Try.underlying5 rfl (wr_u8 _ (by omega) (by omega))) ?_)
  clear hE a; intro a hE
  refine p_cons (s_still p79_7_5 hE wn_none rfl (st_indexAddr (i := 2) Try.underlying36 tS5 rfl rfl (by decide) rfl) ?_)
  clear hE a; intro a hE
  refine p_cons (s_store (off := 2) (k := 1) (cs' := #[Value.int .u8 0, Value.int .u8 0, Value.int .u8 ((y / 256) % 256), Value.int .u8 (y % 256)]) p79_7_6 hE wn_none tS5 rfl rfl rfl rfl B_g1 (Nat.le_of_ble_eq_true rfl) rfl ?_)
  intro w5 B_g1' hk
  replace K_0 := K_0.then_ hk (fun k h => by rw [show k = g1 from h]; exact Or.inr z_0_g1)
  replace B_g1 := B_g1'
  clear hk
  refine p_nil ?_
  refine x_norm ?_
  refine c_regL R79_8_l ?_
  refine p_cons (s_still p79_8_0 hE wn_none rfl (st_move rfl) ?_)
  clear hE a; intro a hE
  refine p_cons (s_still p79_8_1 hE wn_none rfl (st_quo (z := (y / 256) / 256) rfl rfl (by decide) (by rw [Int.tdiv_eq_ediv_of_nonneg (by omega)]; exact wr_i64 _ (by omega) (by omega))) ?_)
  clear hE a; intro a hE
  refine p_cons (s_still p79_8_2 hE wn_none rfl (st_assign rfl) ?_)
  clear hE a; intro a hE
  refine p_nil ?_
  refine x_normB ?_
  refine x_norm ?_
  refine c_regL R79_6_l ?_
  refine p_cons (s_still p79_6_0 hE wn_none rfl (st_move rfl) ?_)
  clear hE a; intro a hE
  refine p_cons (s_still p79_6_1 hE wn_none rfl (st_sub (z := 1) rfl rfl (by decide)) ?_)
  clear hE a; intro a hE
  refine p_cons (s_still p79_6_2 hE wn_none rfl (st_assign rfl) ?_)
  clear hE a; intro a hE
  refine p_nil ?_
  refine x_norm ?_
  refine (Eq.mpr (rounds_succ (n := 2)) ?_)
  refine wp_seq ?_
  refine c_reg R79_5_l ?_
  refine p_cons (s_still p79_5_0 hE wn_none rfl (st_move rfl) ?_)
  clear hE a; intro a hE
  refine p_cons (s_still p79_5_1 hE wn_none rfl (st_geq (b := true) rfl rfl (by decide)) ?_)
  clear hE a; intro a hE
  refine p_nil ?_
  refine x_norm ?_
  refine c_cond (t := true) hE rfl ?_
  refine wp_skip ?_
  refine x_norm ?_
  refine wp_seq ?_
  refine wp_block ?_
  refine c_reg R79_7_l ?_
  refine p_cons (s_still p79_7_0 hE wn_none rfl (st_move rfl) ?_)
  clear hE a; intro a hE
  refine p_cons (s_still p79_7_1 hE wn_none rfl (st_move rfl) ?_)
  clear hE a; intro a hE
  refine p_cons (s_still p79_7_2 hE wn_none rfl (st_move rfl) ?_)
  clear hE a; intro a hE
  refine p_cons (s_still p79_7_3 hE wn_none rfl (st_rem (z := ((y / 256) / 256) % 256) rfl rfl (by decide) (Int.tmod_eq_emod_of_nonneg (by omega))) ?_)
  clear hE a; intro a hE
  refine p_cons (s_still p79_7_4 hE wn_none rfl (st_conv (z := (((y / 256) / 256) % 256)) (by kernel_rfl) Try.underlying5 rfl (wr_u8 _ (by omega) (by omega))) ?_)
  clear hE a; intro a hE
  refine p_cons (s_still p79_7_5 hE wn_none rfl (st_indexAddr (i := 1) Try.underlying36 tS5 rfl rfl (by decide) rfl) ?_)
  clear hE a; intro a hE
  refine p_cons (s_store (off := 1) (k := 1) (cs' := #[Value.int .u8 0, Value.int .u8 (((y / 256) / 256) % 256), Value.int .u8 ((y / 256) % 256), Value.int .u8 (y % 256)]) p79_7_6 hE wn_none tS5 rfl rfl rfl rfl B_g1 (Nat.le_of_ble_eq_true rfl) rfl ?_)
  intro w6 B_g1' hk
  replace K_0 := K_0.then_ hk (fun k h => by rw [show k = g1 from h]; exact Or.inr z_0_g1)
  replace B_g1 := B_g1'
  clear hk
  refine p_nil ?_
  refine x_norm ?_
  refine c_regL R79_8_l ?_
  refine p_cons (s_still p79_8_0 hE wn_none rfl (st_move rfl) ?_)
  clear hE a; intro a hE
  refine p_cons (s_still p79_8_1 hE wn_none rfl (st_quo (z := ((y / 256) / 256) / 256) rfl rfl (by decide) (by rw [Int.tdiv_eq_ediv_of_nonneg (by omega)]; exact wr_i64 _ (by omega) (by omega))) ?_)
  clear hE a; intro a hE
  refine p_cons (s_still p79_8_2 hE wn_none rfl (st_assign rfl) ?_)
  clear hE a; intro a hE
  refine p_nil ?_
  refine x_normB ?_
  refine x_norm ?_
  refine c_regL R79_6_l ?_
  refine p_cons (s_still p79_6_0 hE wn_none rfl (st_move rfl) ?_)
  clear hE a; intro a hE
  refine p_cons (s_still p79_6_1 hE wn_none rfl (st_sub (z := 0) rfl rfl (by decide)) ?_)
  clear hE a; intro a hE
  refine p_cons (s_still p79_6_2 hE wn_none rfl (st_assign rfl) ?_)
  clear hE a; intro a hE
  refine p_nil ?_
  refine x_norm ?_
  refine (Eq.mpr (rounds_succ (n := 1)) ?_)
  refine wp_seq ?_
  refine c_reg R79_5_l ?_
  refine p_cons (s_still p79_5_0 hE wn_none rfl (st_move rfl) ?_)
  clear hE a; intro a hE
  refine p_cons (s_still p79_5_1 hE wn_none rfl (st_geq (b := true) rfl rfl (by decide)) ?_)
  clear hE a; intro a hE
  refine p_nil ?_
  refine x_norm ?_
  refine c_cond (t := true) hE rfl ?_
  refine wp_skip ?_
  refine x_norm ?_
  refine wp_seq ?_
  refine wp_block ?_
  refine c_reg R79_7_l ?_
  refine p_cons (s_still p79_7_0 hE wn_none rfl (st_move rfl) ?_)
  clear hE a; intro a hE
  refine p_cons (s_still p79_7_1 hE wn_none rfl (st_move rfl) ?_)
  clear hE a; intro a hE
  refine p_cons (s_still p79_7_2 hE wn_none rfl (st_move rfl) ?_)
  clear hE a; intro a hE
  refine p_cons (s_still p79_7_3 hE wn_none rfl (st_rem (z := (((y / 256) / 256) / 256) % 256) rfl rfl (by decide) (Int.tmod_eq_emod_of_nonneg (by omega))) ?_)
  clear hE a; intro a hE
  refine p_cons (s_still p79_7_4 hE wn_none rfl (st_conv (z := ((((y / 256) / 256) / 256) % 256)) (by kernel_rfl) Try.underlying5 rfl (wr_u8 _ (by omega) (by omega))) ?_)
  clear hE a; intro a hE
  refine p_cons (s_still p79_7_5 hE wn_none rfl (st_indexAddr (i := 0) Try.underlying36 tS5 rfl rfl (by decide) rfl) ?_)
  clear hE a; intro a hE
  refine p_cons (s_store (off := 0) (k := 1) (cs' := #[Value.int .u8 ((((y / 256) / 256) / 256) % 256), Value.int .u8 (((y / 256) / 256) % 256), Value.int .u8 ((y / 256) % 256), Value.int .u8 (y % 256)]) p79_7_6 hE wn_none tS5 rfl rfl rfl rfl B_g1 (Nat.le_of_ble_eq_true rfl) rfl ?_)
  intro w7 B_g1' hk
  replace K_0 := K_0.then_ hk (fun k h => by rw [show k = g1 from h]; exact Or.inr z_0_g1)
  replace B_g1 := B_g1'
  clear hk
  refine p_nil ?_
  refine x_norm ?_
  refine c_regL R79_8_l ?_
  refine p_cons (s_still p79_8_0 hE wn_none rfl (st_move rfl) ?_)
  clear hE a; intro a hE
  refine p_cons (s_still p79_8_1 hE wn_none rfl (st_quo (z := (((y / 256) / 256) / 256) / 256) rfl rfl (by decide) (by rw [Int.tdiv_eq_ediv_of_nonneg (by omega)]; exact wr_i64 _ (by omega) (by omega))) ?_)
  clear hE a; intro a hE
  refine p_cons (s_still p79_8_2 hE wn_none rfl (st_assign rfl) ?_)
  clear hE a; intro a hE
  refine p_nil ?_
  refine x_normB ?_
  refine x_norm ?_
  refine c_regL R79_6_l ?_
  refine p_cons (s_still p79_6_0 hE wn_none rfl (st_move rfl) ?_)
  clear hE a; intro a hE
  refine p_cons (s_still p79_6_1 hE wn_none rfl (st_sub (z := -1) rfl rfl (by decide)) ?_)
  clear hE a; intro a hE
  refine p_cons (s_still p79_6_2 hE wn_none rfl (st_assign rfl) ?_)
  clear hE a; intro a hE
  refine p_nil ?_
  refine x_norm ?_
  refine (Eq.mpr (rounds_succ (n := 0)) ?_)
  refine wp_seq ?_
  refine c_reg R79_5_l ?_
  refine p_cons (s_still p79_5_0 hE wn_none rfl (st_move rfl) ?_)
  clear hE a; intro a hE
  refine p_cons (s_still p79_5_1 hE wn_none rfl (st_geq (b := false) rfl rfl (by decide)) ?_)
  clear hE a; intro a hE
  refine p_nil ?_
  refine x_norm ?_
  refine c_cond (t := false) hE rfl ?_
  refine wp_exit ?_
  refine x_exit ?_
  refine x_exit ?_
  refine x_in ?_
  refine x_norm ?_
  refine c_reg R79_9_l ?_
  refine p_cons (s_still p79_9_0 hE wn_none rfl (st_move rfl) ?_)
  clear hE a; intro a hE
  refine p_cons (s_still p79_9_1 hE wn_none rfl (st_move rfl) ?_)
  clear hE a; intro a hE
  refine p_cons (s_still p79_9_2 hE wn_none rfl (st_eql (b := true) rfl rfl (decide_eq_true (by omega))) ?_)
  clear hE a; intro a hE
  refine p_cons (s_still p79_9_3 hE wn_none rfl (st_assign rfl) ?_)
  clear hE a; intro a hE
  refine p_cons (s_still p79_9_4 hE wn_none rfl (st_assign rfl) ?_)
  clear hE a; intro a hE
  refine p_nil ?_
  refine x_norm ?_
  refine wp_ret ?_
  refine ret_list (rs := [.tmp 4, .tmp 5]) (vs := [Value.slice (some ⟨g1, 0, none⟩) 4 4, Value.bool true]) rfl hE (.tmp rfl (.tmp rfl .nil)) rfl ?_
  have e9 : [((((y / 256) / 256) / 256) % 256), (((y / 256) / 256) % 256), ((y / 256) % 256), (y % 256)] = putF 4 [y] := by
    rw [put4]
    exact four (by omega) (by omega) (by omega) (by omega)
  have O_ := own_blk (k := .u8) (l := [((((y / 256) / 256) / 256) % 256), (((y / 256) / 256) % 256), ((y / 256) % 256), (y % 256)]) B_g1 z_0_g1 rfl (Nat.le_of_ble_eq_true rfl)
  rw [e9] at O_
  exact ⟨_, _, rfl, O_, K_0⟩
theorem R27_0_l : List.range (regOf Try.f27 0).size = [0, 1, 2, 3] := by kernel_rfl
theorem R27_1_l : List.range (regOf Try.f27 1).size = [0, 1, 2, 3, 4] := by kernel_rfl
theorem R27_2_l : List.range (regOf Try.f27 2).size = [0, 1] := by kernel_rfl
theorem R27_3_l : List.range (regOf Try.f27 3).size = [0, 1, 2, 3] := by kernel_rfl
theorem R27_4_l : List.range (regOf Try.f27 4).size = [0, 1] := by kernel_rfl
theorem R27_5_l : List.range (regOf Try.f27 5).size = [0, 1, 2, 3, 4, 5, 6, 7, 8, 9] := by kernel_rfl
theorem R27_6_l : List.range (regOf Try.f27 6).size = [0, 1] := by kernel_rfl
theorem R27_7_l : List.range (regOf Try.f27 7).size = [0, 1, 2] := by kernel_rfl
theorem R27_8_l : List.range (regOf Try.f27 8).size = [0, 1, 2, 3, 4, 5, 6, 7] := by kernel_rfl
theorem body27 : Try.f27.body = some (.seq (.region 0 (regOf Try.f27 0) false) (.seq (.block 0 (.seq (.region 1 (regOf Try.f27 1) false) (.cond (Operand.tmp 12) (.seq (.region 2 (regOf Try.f27 2) false) (.ret)) (.seq (.region 3 (regOf Try.f27 3) false) (.cond (Operand.tmp 17) (.seq (.region 4 (regOf Try.f27 4) false) (.ret)) (.skip)))))) (.seq (.region 5 (regOf Try.f27 5) false) (.seq (.seq (.region 6 (regOf Try.f27 6) false) (.cond (Operand.tmp 30) (.seq (.region 7 (regOf Try.f27 7) false) (.ret)) (.skip))) (.seq (.region 8 (regOf Try.f27 8) true) (.ret)))))) := by kernel_rfl
theorem p27_0_0 : pj (regOf Try.f27 0) 0 = some (some 4, Op.box 25 (Operand.tmp 0), 0, none) := by kernel_rfl
theorem p27_0_1 : pj (regOf Try.f27 0) 1 = some (some 5, Op.box 25 (Operand.tmp 1), 0, none) := by kernel_rfl
theorem p27_0_2 : pj (regOf Try.f27 0) 2 = some (some 8, Op.assign (Operand.const (Value.int IntKind.i64 0)), 3, none) := by kernel_rfl
theorem p27_0_3 : pj (regOf Try.f27 0) 3 = some (some 9, Op.assign (Operand.const (Value.int IntKind.i64 0)), 29, none) := by kernel_rfl
theorem p27_1_0 : pj (regOf Try.f27 1) 0 = some (some 13, Op.move (Operand.tmp 2), 3, none) := by kernel_rfl
theorem p27_1_1 : pj (regOf Try.f27 1) 1 = some (some 14, Op.buildSlice 62 1 #[(0, Operand.tmp 13)], 62, none) := by kernel_rfl
theorem p27_1_2 : pj (regOf Try.f27 1) 2 = some (some 15, Op.call { callee := Callee.value (Operand.func 69), args := #[Operand.const (Value.int IntKind.i64 1), Operand.tmp 14], argTypes := #[3, 62] }, 4, none) := by kernel_rfl
theorem cl69 : callable Try.f69 = true := by kernel_rfl
theorem p27_1_3 : pj (regOf Try.f27 1) 3 = some (some 16, Op.unOp UnOp.not 4 (Operand.tmp 15), 4, none) := by kernel_rfl
theorem p27_1_4 : pj (regOf Try.f27 1) 4 = some (some 12, Op.assign (Operand.tmp 16), 4, none) := by kernel_rfl
theorem p27_3_0 : pj (regOf Try.f27 3) 0 = some (some 18, Op.move (Operand.tmp 3), 36, none) := by kernel_rfl
theorem p27_3_1 : pj (regOf Try.f27 3) 1 = some (some 19, Op.call { callee := Callee.builtin Builtin.len, args := #[Operand.tmp 18], argTypes := #[36] }, 3, none) := by kernel_rfl
theorem p27_3_2 : pj (regOf Try.f27 3) 2 = some (some 20, Op.binOp BinOp.gtr 3 (Operand.tmp 19) (Operand.const (Value.int IntKind.i64 1280)) 3, 4, none) := by kernel_rfl
theorem p27_3_3 : pj (regOf Try.f27 3) 3 = some (some 17, Op.assign (Operand.tmp 20), 4, none) := by kernel_rfl
theorem p27_4_0 : pj (regOf Try.f27 4) 0 = some (some 8, Op.assign (Operand.const (Value.int IntKind.i64 0)), 3, none) := by kernel_rfl
theorem p27_4_1 : pj (regOf Try.f27 4) 1 = some (some 9, Op.assign (Operand.const (Value.int IntKind.i64 2)), 29, none) := by kernel_rfl
theorem p27_5_0 : pj (regOf Try.f27 5) 0 = some (some 22, Op.move (Operand.tmp 3), 36, none) := by kernel_rfl
theorem p27_5_1 : pj (regOf Try.f27 5) 1 = some (some 23, Op.call { callee := Callee.builtin Builtin.len, args := #[Operand.tmp 22], argTypes := #[36] }, 3, none) := by kernel_rfl
theorem p27_5_2 : pj (regOf Try.f27 5) 2 = some (some 24, Op.move (Operand.tmp 2), 3, none) := by kernel_rfl
theorem p27_5_3 : pj (regOf Try.f27 5) 3 = some (some 25, Op.buildSlice 62 2 #[(0, Operand.tmp 23), (1, Operand.tmp 24)], 62, none) := by kernel_rfl
theorem p27_5_4 : pj (regOf Try.f27 5) 4 = some (some 26, Op.call { callee := Callee.value (Operand.func 77), args := #[Operand.const (Value.slice none 0 0), Operand.const (Value.int IntKind.i64 4), Operand.tmp 25], argTypes := #[36, 3, 62] }, 37, none) := by kernel_rfl
theorem cl77 : callable Try.f77 = true := by kernel_rfl
theorem p27_5_5 : pj (regOf Try.f27 5) 5 = some (some 21, Op.move (Operand.tmp 26), 37, none) := by kernel_rfl
theorem p27_5_6 : pj (regOf Try.f27 5) 6 = some (some 27, Op.extract (Operand.tmp 21) 0, 36, none) := by kernel_rfl
theorem p27_5_7 : pj (regOf Try.f27 5) 7 = some (some 28, Op.extract (Operand.tmp 21) 1, 29, none) := by kernel_rfl
theorem p27_5_8 : pj (regOf Try.f27 5) 8 = some (some 10, Op.assign (Operand.tmp 27), 36, none) := by kernel_rfl
theorem p27_5_9 : pj (regOf Try.f27 5) 9 = some (some 11, Op.assign (Operand.tmp 28), 29, none) := by kernel_rfl
theorem p27_6_0 : pj (regOf Try.f27 6) 0 = some (some 29, Op.move (Operand.tmp 11), 29, none) := by kernel_rfl
theorem p27_6_1 : pj (regOf Try.f27 6) 1 = some (some 30, Op.binOp BinOp.neq 29 (Operand.tmp 29) (Operand.const (Value.int IntKind.i64 0)) 29, 4, none) := by kernel_rfl
theorem ns27_8 : Region.noSelect (regOf Try.f27 8) = true := by kernel_rfl
theorem p27_8_0 : pj (regOf Try.f27 8) 0 = some (some 32, Op.slice 25 (Operand.tmp 4) none none none, 36, none) := by kernel_rfl
theorem p27_8_1 : pj (regOf Try.f27 8) 1 = some (some 33, Op.slice 25 (Operand.tmp 5) none none none, 36, none) := by kernel_rfl
theorem p27_8_2 : pj (regOf Try.f27 8) 2 = some (some 34, Op.move (Operand.tmp 10), 36, none) := by kernel_rfl
theorem p27_8_3 : pj (regOf Try.f27 8) 3 = some (some 35, Op.move (Operand.tmp 3), 36, none) := by kernel_rfl
theorem p27_8_4 : pj (regOf Try.f27 8) 4 = some (some 36, Op.buildSlice 35 4 #[(0, Operand.tmp 32), (1, Operand.tmp 33), (2, Operand.tmp 34), (3, Operand.tmp 35)], 35, none) := by kernel_rfl
theorem p27_8_5 : pj (regOf Try.f27 8) 5 = some (some 37, Op.call { callee := Callee.value (Operand.func 78), args := #[Operand.tmp 36], argTypes := #[35] }, 3, none) := by kernel_rfl
theorem cl78 : callable Try.f78 = true := by kernel_rfl
theorem p27_8_6 : pj (regOf Try.f27 8) 6 = some (some 8, Op.assign (Operand.tmp 37), 3, none) := by kernel_rfl
theorem p27_8_7 : pj (regOf Try.f27 8) 7 = some (some 9, Op.assign (Operand.const (Value.int IntKind.i64 0)), 29, none) := by kernel_rfl
theorem p27_2_0 : pj (regOf Try.f27 2) 0 = some (some 8, Op.assign (Operand.const (Value.int IntKind.i64 0)), 3, none) := by kernel_rfl
theorem p27_2_1 : pj (regOf Try.f27 2) 1 = some (some 9, Op.assign (Operand.const (Value.int IntKind.i64 1)), 29, none) := by kernel_rfl
set_option maxHeartbeats 4000000 in
theorem pse_R {R : Ending → World → Prop} (s d : Nat → Int) (n : Int) (A : Option Addr) (cap ln : Nat) (l : List Int) (hs : ∀ i, i < 16 → 0 ≤ s i ∧ s i ≤ 255) (hd : ∀ i, i < 16 → 0 ≤ d i ∧ d i ≤ 255) (hby : ∀ y ∈ l, 0 ≤ y ∧ y ≤ 255) (hln : ln = l.length) (hlc : l.length ≤ cap) (hlm : l.length ≤ 9000) (w : World) (hC : Kd.C (Kd.int .u8) w A l.length l) (h1 : ¬ (0 ≤ n ∧ n ≤ 255) → ∀ w', Kp w w' (fun _ => False) → R (.returned (.tuple #[.int .i64 0, .int .i64 1])) w') (h2 : 0 ≤ n ∧ n ≤ 255 → 1280 < l.length → ∀ w', Kp w w' (fun _ => False) → R (.returned (.tuple #[.int .i64 0, .int .i64 2])) w') (h3 : 0 ≤ n ∧ n ≤ 255 → ¬ 1280 < l.length → ∀ w', Kp w w' (fun _ => False) → R (.returned (.tuple #[.int .i64 (psF s d n l), .int .i64 0])) w') : Calls Try.prog 27 #[Value.agg (b16 s).toArray, Value.agg (b16 d).toArray, Value.int .i64 n, .slice A ln cap] w R := by
  have K_0 := Kp.refl w (fun _ => False)
  subst hln
  have hbd := rows_bd (n := n) hs hd hby
  have hps := ps_bd hbd
  have F_l : ∀ W', Kp w W' (fun _ => False) → Kd.C (Kd.int .u8) W' A l.length l := fun W' hk => Kd.C_below hC (hk.to (Nat.le_refl _) (fun _ h => h.elim))
  refine enter (args := [Value.agg (b16 s).toArray, Value.agg (b16 d).toArray, Value.int .i64 n, Value.slice A l.length cap]) (n := 38) Try.func27 body27 rfl rfl rfl ?_
  intro a hE
  refine c_reg R27_0_l ?_
  refine p_cons (s_box p27_0_0 hE wn_none rfl rfl ?_)
  clear hE a; intro g1 w2 z3 B_g1 hk a hE
  replace B_g1 : w2.heap[g1]? = some (.cells (b16 s).toArray 25 (0, 0)) := B_g1
  have z_0_g1 := Nat.le_trans K_0.kept.1 z3
  replace K_0 := K_0.then_ hk (fun _ h => h.elim)
  clear hk
  refine p_cons (s_box p27_0_1 hE wn_none rfl rfl ?_)
  clear hE a; intro g4 w5 z6 B_g4 hk a hE
  replace B_g4 : w5.heap[g4]? = some (.cells (b16 d).toArray 25 (0, 0)) := B_g4
  have n_g1_g4 : g1 ≠ g4 := ne_new B_g1 z6
  have z_0_g4 := Nat.le_trans K_0.kept.1 z6
  replace B_g1 := kp_blk B_g1 hk (fun h => h)
  replace K_0 := K_0.then_ hk (fun _ h => h.elim)
  clear hk
  refine p_cons (s_still p27_0_2 hE wn_none rfl (st_assign rfl) ?_)
  clear hE a; intro a hE
  refine p_cons (s_still p27_0_3 hE wn_none rfl (st_assign rfl) ?_)
  clear hE a; intro a hE
  refine p_nil ?_
  refine x_norm ?_
  refine wp_seq ?_
  refine wp_block ?_
  rcases Decidable.em (0 ≤ n ∧ n ≤ 255) with hN | hN
  ·
    refine c_reg R27_1_l ?_
    refine p_cons (s_still p27_1_0 hE wn_none rfl (st_move rfl) ?_)
    clear hE a; intro a hE
    refine p_cons (s_row (xs := [(0, Operand.tmp 13)]) (vs := [(0, Value.int .i64 n)]) (cs := #[Value.int .i64 n]) p27_1_1 hE wn_none rfl Try.underlying62 rfl (by kernel_rfl) ?_)
    clear hE a; intro g7 w8 z9 B_g7 hk a hE
    have n_g1_g7 : g1 ≠ g7 := ne_new B_g1 z9
    have n_g4_g7 : g4 ≠ g7 := ne_new B_g4 z9
    have z_0_g7 := Nat.le_trans K_0.kept.1 z9
    replace B_g1 := kp_blk B_g1 hk (fun h => h)
    replace B_g4 := kp_blk B_g4 hk (fun h => h)
    replace K_0 := K_0.then_ hk (fun _ h => h.elim)
    clear hk
    refine p_cons (s_call (xs := [Operand.const (Value.int IntKind.i64 1), Operand.tmp 14]) (args := [Value.int .i64 1, Value.slice (some ⟨g7, 0, none⟩) 1 1]) p27_1_2 hE wn_none rfl rfl Try.func69 cl69 (fits_any (some ⟨g7, 0, none⟩) 1 1 [n] true (fits1n hN) _ (C_blk (k := .i64) (l := [n]) (off := 0) B_g7 ⟨rfl, Nat.le_of_ble_eq_true rfl⟩ rfl) (Nat.le_of_ble_eq_true rfl)) ?_)
    rintro e w10 ⟨rfl, hw⟩
    have hk := kp_eq hw (fun _ => False)
    replace B_g1 := kp_blk B_g1 hk (fun h => h)
    replace B_g4 := kp_blk B_g4 hk (fun h => h)
    replace B_g7 := kp_blk B_g7 hk (fun h => h)
    replace K_0 := K_0.then_ hk (fun _ h => h.elim)
    refine ⟨_, rfl, ?_⟩
    clear hE a; intro a hE
    refine p_cons (s_still p27_1_3 hE wn_none rfl (st_not rfl rfl) ?_)
    clear hE a; intro a hE
    refine p_cons (s_still p27_1_4 hE wn_none rfl (st_assign rfl) ?_)
    clear hE a; intro a hE
    refine p_nil ?_
    refine x_norm ?_
    refine c_cond (t := false) hE rfl ?_
    rcases Decidable.em (1280 < l.length) with hG | hG
    ·
      refine c_reg R27_3_l ?_
      refine p_cons (s_still p27_3_0 hE wn_none rfl (st_move rfl) ?_)
      clear hE a; intro a hE
      refine p_cons (s_still p27_3_1 hE wn_none rfl (st_len Try.underlying36 rfl) ?_)
      clear hE a; intro a hE
      refine p_cons (s_still p27_3_2 hE wn_none rfl (st_gtr (b := true) rfl rfl (decide_eq_true (by omega))) ?_)
      clear hE a; intro a hE
      refine p_cons (s_still p27_3_3 hE wn_none rfl (st_assign rfl) ?_)
      clear hE a; intro a hE
      refine p_nil ?_
      refine x_norm ?_
      refine c_cond (t := true) hE rfl ?_
      refine c_reg R27_4_l ?_
      refine p_cons (s_still p27_4_0 hE wn_none rfl (st_assign rfl) ?_)
      clear hE a; intro a hE
      refine p_cons (s_still p27_4_1 hE wn_none rfl (st_assign rfl) ?_)
      clear hE a; intro a hE
      refine p_nil ?_
      refine x_norm ?_
      refine wp_ret ?_
      refine x_retB ?_
      refine x_ret ?_
      refine ret_list (rs := [.tmp 8, .tmp 9]) (vs := [Value.int .i64 0, Value.int .i64 2]) rfl hE (.tmp rfl (.tmp rfl .nil)) rfl ?_
      exact h2 (by omega) (by omega) _ K_0
    ·
      refine c_reg R27_3_l ?_
      refine p_cons (s_still p27_3_0 hE wn_none rfl (st_move rfl) ?_)
      clear hE a; intro a hE
      refine p_cons (s_still p27_3_1 hE wn_none rfl (st_len Try.underlying36 rfl) ?_)
      clear hE a; intro a hE
      refine p_cons (s_still p27_3_2 hE wn_none rfl (st_gtr (b := false) rfl rfl (decide_eq_false (by omega))) ?_)
      clear hE a; intro a hE
      refine p_cons (s_still p27_3_3 hE wn_none rfl (st_assign rfl) ?_)
      clear hE a; intro a hE
      refine p_nil ?_
      refine x_norm ?_
      refine c_cond (t := false) hE rfl ?_
      refine wp_skip ?_
      refine x_normB ?_
      refine x_norm ?_
      refine c_reg R27_5_l ?_
      refine p_cons (s_still p27_5_0 hE wn_none rfl (st_move rfl) ?_)
      clear hE a; intro a hE
      refine p_cons (s_still p27_5_1 hE wn_none rfl (st_len Try.underlying36 rfl) ?_)
      clear hE a; intro a hE
      refine p_cons (s_still p27_5_2 hE wn_none rfl (st_move rfl) ?_)
      clear hE a; intro a hE
      refine p_cons (s_row (xs := [(0, Operand.tmp 23), (1, Operand.tmp 24)]) (vs := [(0, Value.int .i64 (l.length : Int)), (1, Value.int .i64 n)]) (cs := #[Value.int .i64 (l.length : Int), Value.int .i64 n]) p27_5_3 hE wn_none rfl Try.underlying62 rfl (by kernel_rfl) ?_)
      clear hE a; intro g11 w12 z13 B_g11 hk a hE
      have n_g1_g11 : g1 ≠ g11 := ne_new B_g1 z13
      have n_g4_g11 : g4 ≠ g11 := ne_new B_g4 z13
      have n_g7_g11 : g7 ≠ g11 := ne_new B_g7 z13
      have z_0_g11 := Nat.le_trans K_0.kept.1 z13
      replace B_g1 := kp_blk B_g1 hk (fun h => h)
      replace B_g4 := kp_blk B_g4 hk (fun h => h)
      replace B_g7 := kp_blk B_g7 hk (fun h => h)
      replace K_0 := K_0.then_ hk (fun _ h => h.elim)
      clear hk
      have hnb_g1 := blk_lt B_g1
      have hnb_g4 := blk_lt B_g4
      have hnb_g7 := blk_lt B_g7
      have hnb_g11 := blk_lt B_g11
      have hnz_0 := K_0.kept.1
      refine p_cons (s_call (xs := [Operand.const (Value.slice none 0 0), Operand.const (Value.int IntKind.i64 4), Operand.tmp 25]) (args := [Value.slice none 0 0, Value.int .i64 4, Value.slice (some ⟨g11, 0, none⟩) 2 2]) p27_5_4 hE wn_none rfl rfl Try.func77 cl77 (put8 (some ⟨g11, 0, none⟩) 2 (l.length : Int) n (fits4n (by omega) (by omega)) _ (C_blk (k := .i64) (l := [(l.length : Int), n]) (off := 0) B_g11 ⟨rfl, Nat.le_of_ble_eq_true rfl⟩ rfl) (Nat.le_of_ble_eq_true rfl)) ?_)
      rintro e w17 ⟨A15, c16, rfl, O_q14, hk⟩
      replace B_g1 := kp_blk B_g1 hk (fun h => h)
      replace B_g4 := kp_blk B_g4 hk (fun h => h)
      replace B_g7 := kp_blk B_g7 hk (fun h => h)
      replace B_g11 := kp_blk B_g11 hk (fun h => h)
      replace K_0 := K_0.then_ hk (fun _ h => h.elim)
      have Nb_q14_g1 : ¬ OB A15 g1 := fun h => by have := (own_ob O_q14 h).1; have := hnb_g1; omega
      have Nb_q14_g4 : ¬ OB A15 g4 := fun h => by have := (own_ob O_q14 h).1; have := hnb_g4; omega
      have Nb_q14_g7 : ¬ OB A15 g7 := fun h => by have := (own_ob O_q14 h).1; have := hnb_g7; omega
      have Nb_q14_g11 : ¬ OB A15 g11 := fun h => by have := (own_ob O_q14 h).1; have := hnb_g11; omega
      have Z_0_q14 : ∀ k, OB A15 k → (fun _ => False) k ∨ w.heap.size ≤ k := fun k h => .inr (by have := (own_ob O_q14 h).1; have := hnz_0; omega)
      replace O_q14 := own_lower O_q14 hnz_0
      refine ⟨_, rfl, ?_⟩
      clear hE a; intro a hE
      refine p_cons (s_still p27_5_5 hE wn_none rfl (st_move rfl) ?_)
      clear hE a; intro a hE
      refine p_cons (s_still p27_5_6 hE wn_none rfl (st_extract rfl rfl) ?_)
      clear hE a; intro a hE
      refine p_cons (s_still p27_5_7 hE wn_none rfl (st_extract rfl rfl) ?_)
      clear hE a; intro a hE
      refine p_cons (s_still p27_5_8 hE wn_none rfl (st_assign rfl) ?_)
      clear hE a; intro a hE
      refine p_cons (s_still p27_5_9 hE wn_none rfl (st_assign rfl) ?_)
      clear hE a; intro a hE
      refine p_nil ?_
      refine x_norm ?_
      refine wp_seq ?_
      refine c_reg R27_6_l ?_
      refine p_cons (s_still p27_6_0 hE wn_none rfl (st_move rfl) ?_)
      clear hE a; intro a hE
      refine p_cons (s_still p27_6_1 hE wn_none rfl (st_neq (b := false) rfl rfl (by decide)) ?_)
      clear hE a; intro a hE
      refine p_nil ?_
      refine x_norm ?_
      refine c_cond (t := false) hE rfl ?_
      refine wp_skip ?_
      refine x_norm ?_
      refine c_drawS (S := fun W => W.heap[g1]? = some (.cells (b16 s).toArray 25 (0, 0)) ∧ W.heap[g4]? = some (.cells (b16 d).toArray 25 (0, 0)) ∧ W.heap[g7]? = some (.cells #[Value.int .i64 n] 3 (0, 0)) ∧ W.heap[g11]? = some (.cells #[Value.int .i64 (l.length : Int), Value.int .i64 n] 3 (0, 0)) ∧ True) rfl rfl (listed := #[false, false, false, false, false, false, false, false]) rfl ?_
      intro w18 hh hk
      replace B_g1 := kp_blk B_g1 hk (fun h => h)
      replace B_g4 := kp_blk B_g4 hk (fun h => h)
      replace B_g7 := kp_blk B_g7 hk (fun h => h)
      replace B_g11 := kp_blk B_g11 hk (fun h => h)
      replace O_q14 := own_keep O_q14 hk (fun _ _ h => h)
      replace K_0 := K_0.then_ hk (fun _ h => h.elim)
      clear hh hk
      refine d_take (v := Value.slice (some ⟨g1, 0, none⟩) 16 16) p27_8_0 ns27_8 (by kernel_rfl) (by kernel_rfl) (fun _ _ _ h => h) hE wn_none rfl ⟨B_g1, B_g4, B_g7, B_g11, trivial⟩ (fun W hS => (st_sliceA Try.underlying25 tS5 rfl)) rfl ?_
      clear hE a; intro a hE
      refine d_take (v := Value.slice (some ⟨g4, 0, none⟩) 16 16) p27_8_1 ns27_8 (by kernel_rfl) (by kernel_rfl) (fun _ _ _ h => h) hE wn_none rfl ⟨B_g1, B_g4, B_g7, B_g11, trivial⟩ (fun W hS => (st_sliceA Try.underlying25 tS5 rfl)) rfl ?_
      clear hE a; intro a hE
      refine d_take (v := Value.slice A15 8 c16) p27_8_2 ns27_8 (by kernel_rfl) (by kernel_rfl) (fun _ _ _ h => h) hE wn_none rfl ⟨B_g1, B_g4, B_g7, B_g11, trivial⟩ (fun W hS => (st_move rfl)) rfl ?_
      clear hE a; intro a hE
      refine d_take (v := Value.slice A l.length cap) p27_8_3 ns27_8 (by kernel_rfl) (by kernel_rfl) (fun _ _ _ h => h) hE wn_none rfl ⟨B_g1, B_g4, B_g7, B_g11, trivial⟩ (fun W hS => (st_move rfl)) rfl ?_
      clear hE a; intro a hE
      refine d_one (by kernel_rfl) rfl (s_row (xs := [(0, Operand.tmp 32), (1, Operand.tmp 33), (2, Operand.tmp 34), (3, Operand.tmp 35)]) (vs := [(0, Value.slice (some ⟨g1, 0, none⟩) 16 16), (1, Value.slice (some ⟨g4, 0, none⟩) 16 16), (2, Value.slice A15 8 c16), (3, Value.slice A l.length cap)]) (cs := #[Value.slice (some ⟨g1, 0, none⟩) 16 16, Value.slice (some ⟨g4, 0, none⟩) 16 16, Value.slice A15 8 c16, Value.slice A l.length cap]) p27_8_4 hE wn_none rfl Try.underlying35 rfl (by kernel_rfl) ?_)
      clear hE a; intro g19 w20 z21 B_g19 hk a hE
      have n_g1_g19 : g1 ≠ g19 := ne_new B_g1 z21
      have n_g4_g19 : g4 ≠ g19 := ne_new B_g4 z21
      have n_g7_g19 : g7 ≠ g19 := ne_new B_g7 z21
      have n_g11_g19 : g11 ≠ g19 := ne_new B_g11 z21
      have z_0_g19 := Nat.le_trans K_0.kept.1 z21
      have Nb_q14_g19 : ¬ OB A15 g19 := fun h => by have := (own_ob O_q14 h).2; omega
      replace B_g1 := kp_blk B_g1 hk (fun h => h)
      replace B_g4 := kp_blk B_g4 hk (fun h => h)
      replace B_g7 := kp_blk B_g7 hk (fun h => h)
      replace B_g11 := kp_blk B_g11 hk (fun h => h)
      replace O_q14 := own_keep O_q14 hk (fun _ _ h => h)
      replace K_0 := K_0.then_ hk (fun _ h => h.elim)
      clear hk
      refine ⟨⟨B_g1, B_g4, B_g7, B_g11, trivial⟩, ?_⟩
      have hrows := C_rows (e := 5) [(some ⟨g1, 0, none⟩, 16, (l16 s)), (some ⟨g4, 0, none⟩, 16, (l16 d)), (A15, c16, (putF 4 [(l.length : Int), n])), (A, cap, l)] B_g19 rfl (Nat.le_of_ble_eq_true rfl) (by intro r hr; simp only [List.mem_cons, List.not_mem_nil, or_false] at hr; rcases hr with rfl | rfl | rfl | rfl; exact ⟨Nat.le_of_ble_eq_true rfl, (C_blk (k := .u8) (l := (l16 s)) (off := 0) B_g1 ⟨rfl, Nat.le_of_ble_eq_true rfl⟩ rfl)⟩; exact ⟨Nat.le_of_ble_eq_true rfl, (C_blk (k := .u8) (l := (l16 d)) (off := 0) B_g4 ⟨rfl, Nat.le_of_ble_eq_true rfl⟩ rfl)⟩; exact ⟨(own_caps O_q14).1, (own_told O_q14)⟩; exact ⟨hlc, (F_l _ K_0)⟩)
      refine d_one (by kernel_rfl) rfl (s_call (xs := [Operand.tmp 36]) (args := [Value.slice (some ⟨g19, 0, none⟩) 4 4]) p27_8_5 hE wn_none rfl rfl Try.func78 cl78 (of_any (some ⟨g19, 0, none⟩) 4 (rowsF s d n l) (psF s d n l) rfl _ hrows hbd (by unfold total; rw [rows_len]; omega) (Nat.le_of_ble_eq_true rfl) hps) ?_)
      rintro e w22 ⟨rfl, hb⟩
      have hk := Kp.of_below hb (fun _ => False)
      replace B_g1 := kp_blk B_g1 hk (fun h => h)
      replace B_g4 := kp_blk B_g4 hk (fun h => h)
      replace B_g7 := kp_blk B_g7 hk (fun h => h)
      replace B_g11 := kp_blk B_g11 hk (fun h => h)
      replace B_g19 := kp_blk B_g19 hk (fun h => h)
      replace O_q14 := own_keep O_q14 hk (fun _ _ h => h)
      replace K_0 := K_0.then_ hk (fun _ h => h.elim)
      refine ⟨_, rfl, ?_⟩
      clear hE a; intro a hE
      refine ⟨⟨B_g1, B_g4, B_g7, B_g11, trivial⟩, ?_⟩
      refine d_take (v := Value.int .i64 (psF s d n l)) p27_8_6 ns27_8 (by kernel_rfl) (by kernel_rfl) (fun _ _ _ h => h) hE wn_none rfl ⟨B_g1, B_g4, B_g7, B_g11, trivial⟩ (fun W hS => (st_assign rfl)) rfl ?_
      clear hE a; intro a hE
      refine d_take (v := Value.int .i64 0) p27_8_7 ns27_8 (by kernel_rfl) (by kernel_rfl) (fun _ _ _ h => h) hE wn_none rfl ⟨B_g1, B_g4, B_g7, B_g11, trivial⟩ (fun W hS => (st_assign rfl)) rfl ?_
      clear hE a; intro a hE
      refine d_end (by kernel_rfl) ?_
      refine x_norm ?_
      refine wp_ret ?_
      refine ret_list (rs := [.tmp 8, .tmp 9]) (vs := [Value.int .i64 (psF s d n l), Value.int .i64 0]) rfl hE (.tmp rfl (.tmp rfl .nil)) rfl ?_
      exact h3 (by omega) (by omega) _ K_0
  ·
    refine c_reg R27_1_l ?_
    refine p_cons (s_still p27_1_0 hE wn_none rfl (st_move rfl) ?_)
    clear hE a; intro a hE
    refine p_cons (s_row (xs := [(0, Operand.tmp 13)]) (vs := [(0, Value.int .i64 n)]) (cs := #[Value.int .i64 n]) p27_1_1 hE wn_none rfl Try.underlying62 rfl (by kernel_rfl) ?_)
    clear hE a; intro g23 w24 z25 B_g23 hk a hE
    have n_g1_g23 : g1 ≠ g23 := ne_new B_g1 z25
    have n_g4_g23 : g4 ≠ g23 := ne_new B_g4 z25
    have z_0_g23 := Nat.le_trans K_0.kept.1 z25
    replace B_g1 := kp_blk B_g1 hk (fun h => h)
    replace B_g4 := kp_blk B_g4 hk (fun h => h)
    replace K_0 := K_0.then_ hk (fun _ h => h.elim)
    clear hk
    refine p_cons (s_call (xs := [Operand.const (Value.int IntKind.i64 1), Operand.tmp 14]) (args := [Value.int .i64 1, Value.slice (some ⟨g23, 0, none⟩) 1 1]) p27_1_2 hE wn_none rfl rfl Try.func69 cl69 (fits_any (some ⟨g23, 0, none⟩) 1 1 [n] false (fits1x hN) _ (C_blk (k := .i64) (l := [n]) (off := 0) B_g23 ⟨rfl, Nat.le_of_ble_eq_true rfl⟩ rfl) (Nat.le_of_ble_eq_true rfl)) ?_)
    rintro e w26 ⟨rfl, hw⟩
    have hk := kp_eq hw (fun _ => False)
    replace B_g1 := kp_blk B_g1 hk (fun h => h)
    replace B_g4 := kp_blk B_g4 hk (fun h => h)
    replace B_g23 := kp_blk B_g23 hk (fun h => h)
    replace K_0 := K_0.then_ hk (fun _ h => h.elim)
    refine ⟨_, rfl, ?_⟩
    clear hE a; intro a hE
    refine p_cons (s_still p27_1_3 hE wn_none rfl (st_not rfl rfl) ?_)
    clear hE a; intro a hE
    refine p_cons (s_still p27_1_4 hE wn_none rfl (st_assign rfl) ?_)
    clear hE a; intro a hE
    refine p_nil ?_
    refine x_norm ?_
    refine c_cond (t := true) hE rfl ?_
    refine c_reg R27_2_l ?_
    refine p_cons (s_still p27_2_0 hE wn_none rfl (st_assign rfl) ?_)
    clear hE a; intro a hE
    refine p_cons (s_still p27_2_1 hE wn_none rfl (st_assign rfl) ?_)
    clear hE a; intro a hE
    refine p_nil ?_
    refine x_norm ?_
    refine wp_ret ?_
    refine x_retB ?_
    refine x_ret ?_
    refine ret_list (rs := [.tmp 8, .tmp 9]) (vs := [Value.int .i64 0, Value.int .i64 1]) rfl hE (.tmp rfl (.tmp rfl .nil)) rfl ?_
    exact h1 (by omega) _ K_0
theorem R28_0_l : List.range (regOf Try.f28 0).size = [0, 1, 2, 3] := by kernel_rfl
theorem R28_1_l : List.range (regOf Try.f28 1).size = [0, 1, 2, 3, 4, 5] := by kernel_rfl
theorem R28_2_l : List.range (regOf Try.f28 2).size = [0, 1] := by kernel_rfl
theorem R28_3_l : List.range (regOf Try.f28 3).size = [0, 1, 2] := by kernel_rfl
theorem R28_4_l : List.range (regOf Try.f28 4).size = [0, 1] := by kernel_rfl
theorem R28_5_l : List.range (regOf Try.f28 5).size = [0, 1, 2, 3, 4, 5] := by kernel_rfl
theorem R28_6_l : List.range (regOf Try.f28 6).size = [0, 1, 2, 3, 4, 5, 6, 7] := by kernel_rfl
theorem R28_7_l : List.range (regOf Try.f28 7).size = [0, 1, 2, 3] := by kernel_rfl
theorem R28_8_l : List.range (regOf Try.f28 8).size = [0, 1, 2, 3, 4, 5] := by kernel_rfl
theorem R28_9_l : List.range (regOf Try.f28 9).size = [0, 1, 2, 3, 4, 5, 6] := by kernel_rfl
theorem body28 : Try.f28.body = some (.seq (.region 0 (regOf Try.f28 0) false) (.seq (.seq (.region 1 (regOf Try.f28 1) false) (.cond (Operand.tmp 18) (.seq (.region 2 (regOf Try.f28 2) false) (.ret)) (.skip))) (.seq (.seq (.region 3 (regOf Try.f28 3) false) (.cond (Operand.tmp 21) (.seq (.region 4 (regOf Try.f28 4) false) (.ret)) (.skip))) (.seq (.region 5 (regOf Try.f28 5) true) (.seq (.region 6 (regOf Try.f28 6) false) (.seq (.region 7 (regOf Try.f28 7) false) (.seq (.region 8 (regOf Try.f28 8) false) (.seq (.region 9 (regOf Try.f28 9) false) (.ret))))))))) := by kernel_rfl
theorem p28_0_0 : pj (regOf Try.f28 0) 0 = some (some 4, Op.box 22 (Operand.tmp 0), 0, none) := by kernel_rfl
theorem p28_0_1 : pj (regOf Try.f28 0) 1 = some (some 5, Op.box 22 (Operand.tmp 1), 0, none) := by kernel_rfl
theorem p28_0_2 : pj (regOf Try.f28 0) 2 = some (some 8, Op.assign (Operand.const (Value.int IntKind.i64 0)), 3, none) := by kernel_rfl
theorem p28_0_3 : pj (regOf Try.f28 0) 3 = some (some 9, Op.assign (Operand.const (Value.int IntKind.i64 0)), 3, none) := by kernel_rfl
theorem p28_1_0 : pj (regOf Try.f28 1) 0 = some (some 13, Op.move (Operand.tmp 2), 3, none) := by kernel_rfl
theorem p28_1_1 : pj (regOf Try.f28 1) 1 = some (some 14, Op.binOp BinOp.lss 3 (Operand.tmp 13) (Operand.const (Value.int IntKind.i64 0)) 3, 4, none) := by kernel_rfl
theorem p28_1_2 : pj (regOf Try.f28 1) 2 = some (some 15, Op.move (Operand.tmp 14), 4, none) := by kernel_rfl
theorem p28_1_3 : pj (regOf Try.f28 1) 3 = some (some 16, Op.move (Operand.tmp 2), 3, some (2, false)) := by kernel_rfl
theorem g28_1_2 : dstOf (regOf Try.f28 1) 2 = some 15 := by kernel_rfl
theorem p28_1_4 : pj (regOf Try.f28 1) 4 = some (some 17, Op.binOp BinOp.gtr 3 (Operand.tmp 16) (Operand.const (Value.int IntKind.i64 255)) 3, 4, some (2, false)) := by kernel_rfl
theorem p28_1_5 : pj (regOf Try.f28 1) 5 = some (some 18, Op.pick (Operand.tmp 15) (Operand.const (Value.bool true)) (Operand.tmp 17), 4, none) := by kernel_rfl
theorem p28_2_0 : pj (regOf Try.f28 2) 0 = some (some 8, Op.assign (Operand.const (Value.int IntKind.i64 0)), 3, none) := by kernel_rfl
theorem p28_2_1 : pj (regOf Try.f28 2) 1 = some (some 9, Op.assign (Operand.const (Value.int IntKind.i64 1)), 3, none) := by kernel_rfl
theorem p28_3_0 : pj (regOf Try.f28 3) 0 = some (some 19, Op.move (Operand.tmp 3), 36, none) := by kernel_rfl
theorem p28_3_1 : pj (regOf Try.f28 3) 1 = some (some 20, Op.call { callee := Callee.builtin Builtin.len, args := #[Operand.tmp 19], argTypes := #[36] }, 3, none) := by kernel_rfl
theorem p28_3_2 : pj (regOf Try.f28 3) 2 = some (some 21, Op.binOp BinOp.gtr 3 (Operand.tmp 20) (Operand.const (Value.int IntKind.i64 1280)) 3, 4, none) := by kernel_rfl
theorem p28_4_0 : pj (regOf Try.f28 4) 0 = some (some 8, Op.assign (Operand.const (Value.int IntKind.i64 0)), 3, none) := by kernel_rfl
theorem p28_4_1 : pj (regOf Try.f28 4) 1 = some (some 9, Op.assign (Operand.const (Value.int IntKind.i64 2)), 3, none) := by kernel_rfl
theorem ns28_5 : Region.noSelect (regOf Try.f28 5) = true := by kernel_rfl
theorem p28_5_1 : pj (regOf Try.f28 5) 1 = some (some 23, Op.slice 22 (Operand.tmp 4) none none none, 36, none) := by kernel_rfl
theorem p28_5_3 : pj (regOf Try.f28 5) 3 = some (some 25, Op.slice 22 (Operand.tmp 5) none none none, 36, none) := by kernel_rfl
theorem p28_5_0 : pj (regOf Try.f28 5) 0 = some (some 22, Op.buildSlice 36 0 #[], 36, none) := by kernel_rfl
theorem p28_5_2 : pj (regOf Try.f28 5) 2 = some (some 24, Op.call { callee := Callee.builtin Builtin.append, args := #[Operand.tmp 22, Operand.tmp 23], argTypes := #[36, 36] }, 36, none) := by kernel_rfl
theorem p28_5_4 : pj (regOf Try.f28 5) 4 = some (some 26, Op.call { callee := Callee.builtin Builtin.append, args := #[Operand.tmp 24, Operand.tmp 25], argTypes := #[36, 36] }, 36, none) := by kernel_rfl
theorem p28_5_5 : pj (regOf Try.f28 5) 5 = some (some 10, Op.assign (Operand.tmp 26), 36, none) := by kernel_rfl
theorem p28_6_0 : pj (regOf Try.f28 6) 0 = some (some 28, Op.move (Operand.tmp 3), 36, none) := by kernel_rfl
theorem p28_6_1 : pj (regOf Try.f28 6) 1 = some (some 29, Op.call { callee := Callee.builtin Builtin.len, args := #[Operand.tmp 28], argTypes := #[36] }, 3, none) := by kernel_rfl
theorem p28_6_2 : pj (regOf Try.f28 6) 2 = some (some 30, Op.call { callee := Callee.value (Operand.func 79), args := #[Operand.const (Value.int IntKind.i64 4), Operand.tmp 29], argTypes := #[3, 3] }, 135, none) := by kernel_rfl
theorem cl79 : callable Try.f79 = true := by kernel_rfl
theorem p28_6_3 : pj (regOf Try.f28 6) 3 = some (some 27, Op.move (Operand.tmp 30), 135, none) := by kernel_rfl
theorem p28_6_4 : pj (regOf Try.f28 6) 4 = some (some 31, Op.extract (Operand.tmp 27) 0, 36, none) := by kernel_rfl
theorem p28_6_5 : pj (regOf Try.f28 6) 5 = some (some 32, Op.extract (Operand.tmp 27) 1, 4, none) := by kernel_rfl
theorem p28_6_6 : pj (regOf Try.f28 6) 6 = some (some 11, Op.assign (Operand.tmp 31), 36, none) := by kernel_rfl
theorem p28_6_7 : pj (regOf Try.f28 6) 7 = some (some 12, Op.assign (Operand.tmp 32), 4, none) := by kernel_rfl
theorem p28_7_0 : pj (regOf Try.f28 7) 0 = some (some 33, Op.move (Operand.tmp 10), 36, none) := by kernel_rfl
theorem p28_7_1 : pj (regOf Try.f28 7) 1 = some (some 34, Op.move (Operand.tmp 11), 36, none) := by kernel_rfl
theorem p28_7_2 : pj (regOf Try.f28 7) 2 = some (some 35, Op.call { callee := Callee.builtin Builtin.append, args := #[Operand.tmp 33, Operand.tmp 34], argTypes := #[36, 36] }, 36, none) := by kernel_rfl
theorem p28_7_3 : pj (regOf Try.f28 7) 3 = some (some 10, Op.assign (Operand.tmp 35), 36, none) := by kernel_rfl
theorem p28_8_0 : pj (regOf Try.f28 8) 0 = some (some 36, Op.move (Operand.tmp 10), 36, none) := by kernel_rfl
theorem p28_8_1 : pj (regOf Try.f28 8) 1 = some (some 37, Op.move (Operand.tmp 2), 3, none) := by kernel_rfl
theorem p28_8_2 : pj (regOf Try.f28 8) 2 = some (some 38, Op.convert 3 5 (Operand.tmp 37), 5, none) := by kernel_rfl
theorem p28_8_3 : pj (regOf Try.f28 8) 3 = some (some 39, Op.buildSlice 36 4 #[(0, Operand.const (Value.int IntKind.u8 0)), (1, Operand.const (Value.int IntKind.u8 0)), (2, Operand.const (Value.int IntKind.u8 0)), (3, Operand.tmp 38)], 36, none) := by kernel_rfl
theorem p28_8_4 : pj (regOf Try.f28 8) 4 = some (some 40, Op.call { callee := Callee.builtin Builtin.append, args := #[Operand.tmp 36, Operand.tmp 39], argTypes := #[36, 36] }, 36, none) := by kernel_rfl
theorem p28_8_5 : pj (regOf Try.f28 8) 5 = some (some 10, Op.assign (Operand.tmp 40), 36, none) := by kernel_rfl
theorem p28_9_0 : pj (regOf Try.f28 9) 0 = some (some 41, Op.move (Operand.tmp 10), 36, none) := by kernel_rfl
theorem p28_9_1 : pj (regOf Try.f28 9) 1 = some (some 42, Op.move (Operand.tmp 3), 36, none) := by kernel_rfl
theorem p28_9_2 : pj (regOf Try.f28 9) 2 = some (some 43, Op.call { callee := Callee.builtin Builtin.append, args := #[Operand.tmp 41, Operand.tmp 42], argTypes := #[36, 36] }, 36, none) := by kernel_rfl
theorem p28_9_3 : pj (regOf Try.f28 9) 3 = some (some 44, Op.call { callee := Callee.value (Operand.func 80), args := #[Operand.tmp 43], argTypes := #[36] }, 3, none) := by kernel_rfl
theorem cl80 : callable Try.f80 = true := by kernel_rfl
theorem p28_9_4 : pj (regOf Try.f28 9) 4 = some (some 45, Op.binOp BinOp.sub 3 (Operand.const (Value.int IntKind.i64 65535)) (Operand.tmp 44) 3, 3, none) := by kernel_rfl
theorem p28_9_5 : pj (regOf Try.f28 9) 5 = some (some 8, Op.assign (Operand.tmp 45), 3, none) := by kernel_rfl
theorem p28_9_6 : pj (regOf Try.f28 9) 6 = some (some 9, Op.assign (Operand.const (Value.int IntKind.i64 0)), 3, none) := by kernel_rfl
set_option maxHeartbeats 4000000 in
theorem rpse_R {R : Ending → World → Prop} (s d : Nat → Int) (n : Int) (A : Option Addr) (cap ln : Nat) (l : List Int) (hs : ∀ i, i < 16 → 0 ≤ s i ∧ s i ≤ 255) (hd : ∀ i, i < 16 → 0 ≤ d i ∧ d i ≤ 255) (hby : ∀ y ∈ l, 0 ≤ y ∧ y ≤ 255) (hln : ln = l.length) (hlc : l.length ≤ cap) (hlm : l.length ≤ 9000) (w : World) (hC : Kd.C (Kd.int .u8) w A l.length l) (h1 : ¬ (0 ≤ n ∧ n ≤ 255) → ∀ w', Kp w w' (fun _ => False) → R (.returned (.tuple #[.int .i64 0, .int .i64 1])) w') (h2 : 0 ≤ n ∧ n ≤ 255 → 1280 < l.length → ∀ w', Kp w w' (fun _ => False) → R (.returned (.tuple #[.int .i64 0, .int .i64 2])) w') (h3 : 0 ≤ n ∧ n ≤ 255 → ¬ 1280 < l.length → ∀ w', Kp w w' (fun _ => False) → R (.returned (.tuple #[.int .i64 (psF s d n l), .int .i64 0])) w') : Calls Try.prog 28 #[Value.agg (b16 s).toArray, Value.agg (b16 d).toArray, Value.int .i64 n, .slice A ln cap] w R := by
  have K_0 := Kp.refl w (fun _ => False)
  subst hln
  have hbd := rows_bd (n := n) hs hd hby
  have hps := ps_bd hbd
  have F_l : ∀ W', Kp w W' (fun _ => False) → Kd.C (Kd.int .u8) W' A l.length l := fun W' hk => Kd.C_below hC (hk.to (Nat.le_refl _) (fun _ h => h.elim))
  refine enter (args := [Value.agg (b16 s).toArray, Value.agg (b16 d).toArray, Value.int .i64 n, Value.slice A l.length cap]) (n := 46) Try.func28 body28 rfl rfl rfl ?_
  intro a hE
  refine c_reg R28_0_l ?_
  refine p_cons (s_box p28_0_0 hE wn_none rfl rfl ?_)
  clear hE a; intro g1 w2 z3 B_g1 hk a hE
  replace B_g1 : w2.heap[g1]? = some (.cells (b16 s).toArray 22 (0, 0)) := B_g1
  have z_0_g1 := Nat.le_trans K_0.kept.1 z3
  replace K_0 := K_0.then_ hk (fun _ h => h.elim)
  clear hk
  refine p_cons (s_box p28_0_1 hE wn_none rfl rfl ?_)
  clear hE a; intro g4 w5 z6 B_g4 hk a hE
  replace B_g4 : w5.heap[g4]? = some (.cells (b16 d).toArray 22 (0, 0)) := B_g4
  have n_g1_g4 : g1 ≠ g4 := ne_new B_g1 z6
  have z_0_g4 := Nat.le_trans K_0.kept.1 z6
  replace B_g1 := kp_blk B_g1 hk (fun h => h)
  replace K_0 := K_0.then_ hk (fun _ h => h.elim)
  clear hk
  refine p_cons (s_still p28_0_2 hE wn_none rfl (st_assign rfl) ?_)
  clear hE a; intro a hE
  refine p_cons (s_still p28_0_3 hE wn_none rfl (st_assign rfl) ?_)
  clear hE a; intro a hE
  refine p_nil ?_
  refine x_norm ?_
  refine wp_seq ?_
  rcases Decidable.em (n < 0) with hlo | hlo
  ·
    refine c_reg R28_1_l ?_
    refine p_cons (s_still p28_1_0 hE wn_none rfl (st_move rfl) ?_)
    clear hE a; intro a hE
    refine p_cons (s_still p28_1_1 hE wn_none rfl (st_lss (b := true) rfl rfl (decide_eq_true (by omega))) ?_)
    clear hE a; intro a hE
    refine p_cons (s_still p28_1_2 hE wn_none rfl (st_move rfl) ?_)
    clear hE a; intro a hE
    refine p_cons (s_skip p28_1_3 hE (wn_some g28_1_2 rfl rfl) rfl ?_)
    clear hE a; intro a hE
    refine p_cons (s_skip p28_1_4 hE (wn_some g28_1_2 rfl rfl) rfl ?_)
    clear hE a; intro a hE
    refine p_cons (s_still p28_1_5 hE wn_none rfl (st_pick rfl rfl) ?_)
    clear hE a; intro a hE
    refine p_nil ?_
    refine x_norm ?_
    refine c_cond (t := true) hE rfl ?_
    refine c_reg R28_2_l ?_
    refine p_cons (s_still p28_2_0 hE wn_none rfl (st_assign rfl) ?_)
    clear hE a; intro a hE
    refine p_cons (s_still p28_2_1 hE wn_none rfl (st_assign rfl) ?_)
    clear hE a; intro a hE
    refine p_nil ?_
    refine x_norm ?_
    refine wp_ret ?_
    refine x_ret ?_
    refine ret_list (rs := [.tmp 8, .tmp 9]) (vs := [Value.int .i64 0, Value.int .i64 1]) rfl hE (.tmp rfl (.tmp rfl .nil)) rfl ?_
    exact h1 (by omega) _ K_0
  ·
    rcases Decidable.em (255 < n) with hhi | hhi
    ·
      refine c_reg R28_1_l ?_
      refine p_cons (s_still p28_1_0 hE wn_none rfl (st_move rfl) ?_)
      clear hE a; intro a hE
      refine p_cons (s_still p28_1_1 hE wn_none rfl (st_lss (b := false) rfl rfl (decide_eq_false (by omega))) ?_)
      clear hE a; intro a hE
      refine p_cons (s_still p28_1_2 hE wn_none rfl (st_move rfl) ?_)
      clear hE a; intro a hE
      refine p_cons (s_still p28_1_3 hE (wn_some g28_1_2 rfl rfl) rfl (st_move rfl) ?_)
      clear hE a; intro a hE
      refine p_cons (s_still p28_1_4 hE (wn_some g28_1_2 rfl rfl) rfl (st_gtr (b := true) rfl rfl (decide_eq_true (by omega))) ?_)
      clear hE a; intro a hE
      refine p_cons (s_still p28_1_5 hE wn_none rfl (st_pick rfl rfl) ?_)
      clear hE a; intro a hE
      refine p_nil ?_
      refine x_norm ?_
      refine c_cond (t := true) hE rfl ?_
      refine c_reg R28_2_l ?_
      refine p_cons (s_still p28_2_0 hE wn_none rfl (st_assign rfl) ?_)
      clear hE a; intro a hE
      refine p_cons (s_still p28_2_1 hE wn_none rfl (st_assign rfl) ?_)
      clear hE a; intro a hE
      refine p_nil ?_
      refine x_norm ?_
      refine wp_ret ?_
      refine x_ret ?_
      refine ret_list (rs := [.tmp 8, .tmp 9]) (vs := [Value.int .i64 0, Value.int .i64 1]) rfl hE (.tmp rfl (.tmp rfl .nil)) rfl ?_
      exact h1 (by omega) _ K_0
    ·
      refine c_reg R28_1_l ?_
      refine p_cons (s_still p28_1_0 hE wn_none rfl (st_move rfl) ?_)
      clear hE a; intro a hE
      refine p_cons (s_still p28_1_1 hE wn_none rfl (st_lss (b := false) rfl rfl (decide_eq_false (by omega))) ?_)
      clear hE a; intro a hE
      refine p_cons (s_still p28_1_2 hE wn_none rfl (st_move rfl) ?_)
      clear hE a; intro a hE
      refine p_cons (s_still p28_1_3 hE (wn_some g28_1_2 rfl rfl) rfl (st_move rfl) ?_)
      clear hE a; intro a hE
      refine p_cons (s_still p28_1_4 hE (wn_some g28_1_2 rfl rfl) rfl (st_gtr (b := false) rfl rfl (decide_eq_false (by omega))) ?_)
      clear hE a; intro a hE
      refine p_cons (s_still p28_1_5 hE wn_none rfl (st_pick rfl rfl) ?_)
      clear hE a; intro a hE
      refine p_nil ?_
      refine x_norm ?_
      refine c_cond (t := false) hE rfl ?_
      refine wp_skip ?_
      refine x_norm ?_
      refine wp_seq ?_
      rcases Decidable.em (1280 < l.length) with hG | hG
      ·
        refine c_reg R28_3_l ?_
        refine p_cons (s_still p28_3_0 hE wn_none rfl (st_move rfl) ?_)
        clear hE a; intro a hE
        refine p_cons (s_still p28_3_1 hE wn_none rfl (st_len Try.underlying36 rfl) ?_)
        clear hE a; intro a hE
        refine p_cons (s_still p28_3_2 hE wn_none rfl (st_gtr (b := true) rfl rfl (decide_eq_true (by omega))) ?_)
        clear hE a; intro a hE
        refine p_nil ?_
        refine x_norm ?_
        refine c_cond (t := true) hE rfl ?_
        refine c_reg R28_4_l ?_
        refine p_cons (s_still p28_4_0 hE wn_none rfl (st_assign rfl) ?_)
        clear hE a; intro a hE
        refine p_cons (s_still p28_4_1 hE wn_none rfl (st_assign rfl) ?_)
        clear hE a; intro a hE
        refine p_nil ?_
        refine x_norm ?_
        refine wp_ret ?_
        refine x_ret ?_
        refine ret_list (rs := [.tmp 8, .tmp 9]) (vs := [Value.int .i64 0, Value.int .i64 2]) rfl hE (.tmp rfl (.tmp rfl .nil)) rfl ?_
        exact h2 (by omega) (by omega) _ K_0
      ·
        refine c_reg R28_3_l ?_
        refine p_cons (s_still p28_3_0 hE wn_none rfl (st_move rfl) ?_)
        clear hE a; intro a hE
        refine p_cons (s_still p28_3_1 hE wn_none rfl (st_len Try.underlying36 rfl) ?_)
        clear hE a; intro a hE
        refine p_cons (s_still p28_3_2 hE wn_none rfl (st_gtr (b := false) rfl rfl (decide_eq_false (by omega))) ?_)
        clear hE a; intro a hE
        refine p_nil ?_
        refine x_norm ?_
        refine c_cond (t := false) hE rfl ?_
        refine wp_skip ?_
        refine x_norm ?_
        refine c_drawS (S := fun W => W.heap[g1]? = some (.cells (b16 s).toArray 22 (0, 0)) ∧ W.heap[g4]? = some (.cells (b16 d).toArray 22 (0, 0)) ∧ True) rfl rfl (listed := #[false, false, false, false, false, false]) rfl ?_
        intro w7 hh hk
        replace B_g1 := kp_blk B_g1 hk (fun h => h)
        replace B_g4 := kp_blk B_g4 hk (fun h => h)
        replace K_0 := K_0.then_ hk (fun _ h => h.elim)
        clear hh hk
        refine d_take (v := Value.slice (some ⟨g1, 0, none⟩) 16 16) p28_5_1 ns28_5 (by kernel_rfl) (by kernel_rfl) (fun _ _ _ h => h) hE wn_none rfl ⟨B_g1, B_g4, trivial⟩ (fun W hS => (st_sliceA Try.underlying22 tS5 rfl)) rfl ?_
        clear hE a; intro a hE
        refine d_take (v := Value.slice (some ⟨g4, 0, none⟩) 16 16) p28_5_3 ns28_5 (by kernel_rfl) (by kernel_rfl) (fun _ _ _ h => h) hE wn_none rfl ⟨B_g1, B_g4, trivial⟩ (fun W hS => (st_sliceA Try.underlying22 tS5 rfl)) rfl ?_
        clear hE a; intro a hE
        refine d_one (by kernel_rfl) rfl (s_row (xs := []) (vs := []) (cs := #[]) p28_5_0 hE wn_none rfl Try.underlying36 rfl (by kernel_rfl) ?_)
        clear hE a; intro g8 w9 z10 B_g8 hk a hE
        have n_g1_g8 : g1 ≠ g8 := ne_new B_g1 z10
        have n_g4_g8 : g4 ≠ g8 := ne_new B_g4 z10
        have z_0_g8 := Nat.le_trans K_0.kept.1 z10
        replace B_g1 := kp_blk B_g1 hk (fun h => h)
        replace B_g4 := kp_blk B_g4 hk (fun h => h)
        replace K_0 := K_0.then_ hk (fun _ h => h.elim)
        clear hk
        refine ⟨⟨B_g1, B_g4, trivial⟩, ?_⟩
        have O_q11 := own_blk (k := .u8) (l := []) B_g8 (show w.heap.size ≤ g8 from z_0_g8) rfl (Nat.le_of_ble_eq_true rfl)
        have Nb_q11_g1 : ¬ OB (some ⟨g8, 0, none⟩) g1 := fun h => by have h := ob_blk.1 h; exact (Ne.symm n_g1_g8) h
        have Nb_q11_g4 : ¬ OB (some ⟨g8, 0, none⟩) g4 := fun h => by have h := ob_blk.1 h; exact (Ne.symm n_g4_g8) h
        have Z_0_q11 : ∀ k, OB (some ⟨g8, 0, none⟩) k → (fun _ => False) k ∨ w.heap.size ≤ k := fun k h => by have h := ob_blk.1 h; subst h; exact Or.inr z_0_g8
        refine d_one (by kernel_rfl) rfl (s_appendC (xs := []) (ys := (l16 s)) p28_5_2 hE wn_none rfl Try.underlying36 eD5 rfl O_q11 rfl (C_blk (k := .u8) (l := (l16 s)) (off := 0) B_g1 ⟨rfl, Nat.le_of_ble_eq_true rfl⟩ rfl) (by omega) (by omega) K_0.kept.1 ?_)
        clear hE a; intro Aq1112 cq1113 w14 O_q11' hk hat a hE
        have Nb_q11_g1' := grow_n Nb_q11_g1 (blk_lt B_g1) hat
        have Nb_q11_g4' := grow_n Nb_q11_g4 (blk_lt B_g4) hat
        have Z_0_q11' := grow_z Z_0_q11 K_0.kept.1 hat
        replace B_g1 := kp_blk B_g1 hk Nb_q11_g1
        replace B_g4 := kp_blk B_g4 hk Nb_q11_g4
        replace K_0 := K_0.then_ hk Z_0_q11
        replace Nb_q11_g1 := Nb_q11_g1'
        replace Nb_q11_g4 := Nb_q11_g4'
        replace Z_0_q11 := Z_0_q11'
        replace O_q11 : w14.ownsRow _ 5 1 (.slice Aq1112 16 cq1113) 16 (encs (Value.int .u8) (l16 s)) := O_q11'
        clear O_q11' hk hat
        refine ⟨⟨B_g1, B_g4, trivial⟩, ?_⟩
        refine d_one (by kernel_rfl) rfl (s_appendC (xs := (l16 s)) (ys := (l16 d)) p28_5_4 hE wn_none rfl Try.underlying36 eD5 rfl O_q11 rfl (C_blk (k := .u8) (l := (l16 d)) (off := 0) B_g4 ⟨rfl, Nat.le_of_ble_eq_true rfl⟩ rfl) (by omega) (by omega) K_0.kept.1 ?_)
        clear hE a; intro Aq1115 cq1116 w17 O_q11' hk hat a hE
        have Nb_q11_g1' := grow_n Nb_q11_g1 (blk_lt B_g1) hat
        have Nb_q11_g4' := grow_n Nb_q11_g4 (blk_lt B_g4) hat
        have Z_0_q11' := grow_z Z_0_q11 K_0.kept.1 hat
        replace B_g1 := kp_blk B_g1 hk Nb_q11_g1
        replace B_g4 := kp_blk B_g4 hk Nb_q11_g4
        replace K_0 := K_0.then_ hk Z_0_q11
        replace Nb_q11_g1 := Nb_q11_g1'
        replace Nb_q11_g4 := Nb_q11_g4'
        replace Z_0_q11 := Z_0_q11'
        replace O_q11 : w17.ownsRow _ 5 1 (.slice Aq1115 32 cq1116) 32 (encs (Value.int .u8) ((l16 s) ++ (l16 d))) := O_q11'
        clear O_q11' hk hat
        refine ⟨⟨B_g1, B_g4, trivial⟩, ?_⟩
        refine d_take (v := Value.slice Aq1115 32 cq1116) p28_5_5 ns28_5 (by kernel_rfl) (by kernel_rfl) (fun _ _ _ h => h) hE wn_none rfl ⟨B_g1, B_g4, trivial⟩ (fun W hS => (st_assign rfl)) rfl ?_
        clear hE a; intro a hE
        refine d_end (by kernel_rfl) ?_
        refine x_norm ?_
        refine c_reg R28_6_l ?_
        refine p_cons (s_still p28_6_0 hE wn_none rfl (st_move rfl) ?_)
        clear hE a; intro a hE
        refine p_cons (s_still p28_6_1 hE wn_none rfl (st_len Try.underlying36 rfl) ?_)
        clear hE a; intro a hE
        have hnb_g1 := blk_lt B_g1
        have hnb_g4 := blk_lt B_g4
        have hnz_0 := K_0.kept.1
        have hno_q11 := fun k (h : OB Aq1115 k) => (own_ob O_q11 h).2
        refine p_cons (s_call (xs := [Operand.const (Value.int IntKind.i64 4), Operand.tmp 29]) (args := [Value.int .i64 4, Value.int .i64 (l.length : Int)]) p28_6_2 hE wn_none rfl rfl Try.func79 cl79 (dig_ok (l.length : Int) (by omega) _) ?_)
        rintro e w21 ⟨A19, c20, rfl, O_q18, hk⟩
        replace B_g1 := kp_blk B_g1 hk (fun h => h)
        replace B_g4 := kp_blk B_g4 hk (fun h => h)
        replace O_q11 := own_keep O_q11 hk (fun _ _ h => h)
        replace K_0 := K_0.then_ hk (fun _ h => h.elim)
        have Nb_q18_g1 : ¬ OB A19 g1 := fun h => by have := (own_ob O_q18 h).1; have := hnb_g1; omega
        have Nb_q18_g4 : ¬ OB A19 g4 := fun h => by have := (own_ob O_q18 h).1; have := hnb_g4; omega
        have Z_0_q18 : ∀ k, OB A19 k → (fun _ => False) k ∨ w.heap.size ≤ k := fun k h => .inr (by have := (own_ob O_q18 h).1; have := hnz_0; omega)
        have NN_q18_q11 : ∀ k, OB A19 k → ¬ OB Aq1115 k := fun k h h2 => by have := (own_ob O_q18 h).1; have := hno_q11 k h2; omega
        have NN_q11_q18 : ∀ k, OB Aq1115 k → ¬ OB A19 k := fun k h h2 => NN_q18_q11 k h2 h
        replace O_q18 := own_lower O_q18 hnz_0
        refine ⟨_, rfl, ?_⟩
        clear hE a; intro a hE
        refine p_cons (s_still p28_6_3 hE wn_none rfl (st_move rfl) ?_)
        clear hE a; intro a hE
        refine p_cons (s_still p28_6_4 hE wn_none rfl (st_extract rfl rfl) ?_)
        clear hE a; intro a hE
        refine p_cons (s_still p28_6_5 hE wn_none rfl (st_extract rfl rfl) ?_)
        clear hE a; intro a hE
        refine p_cons (s_still p28_6_6 hE wn_none rfl (st_assign rfl) ?_)
        clear hE a; intro a hE
        refine p_cons (s_still p28_6_7 hE wn_none rfl (st_assign rfl) ?_)
        clear hE a; intro a hE
        refine p_nil ?_
        refine x_norm ?_
        refine c_reg R28_7_l ?_
        refine p_cons (s_still p28_7_0 hE wn_none rfl (st_move rfl) ?_)
        clear hE a; intro a hE
        refine p_cons (s_still p28_7_1 hE wn_none rfl (st_move rfl) ?_)
        clear hE a; intro a hE
        refine p_cons (s_appendC (xs := ((l16 s) ++ (l16 d))) (ys := (putF 4 [(l.length : Int)])) p28_7_2 hE wn_none rfl Try.underlying36 eD5 rfl O_q11 rfl (own_told O_q18) (by omega) (by omega) K_0.kept.1 ?_)
        clear hE a; intro Aq1122 cq1123 w24 O_q11' hk hat a hE
        have Nb_q11_g1' := grow_n Nb_q11_g1 (blk_lt B_g1) hat
        have Nb_q11_g4' := grow_n Nb_q11_g4 (blk_lt B_g4) hat
        have NN_q18_q11' : ∀ k, OB A19 k → ¬ OB Aq1122 k := fun k h h2 => (hat k h2).elim (NN_q18_q11 k h) (fun h3 => by have := (own_ob O_q18 h).2; omega)
        have Z_0_q11' := grow_z Z_0_q11 K_0.kept.1 hat
        replace B_g1 := kp_blk B_g1 hk Nb_q11_g1
        replace B_g4 := kp_blk B_g4 hk Nb_q11_g4
        replace O_q18 := own_keep O_q18 hk NN_q18_q11
        replace K_0 := K_0.then_ hk Z_0_q11
        replace Nb_q11_g1 := Nb_q11_g1'
        replace Nb_q11_g4 := Nb_q11_g4'
        replace NN_q18_q11 := NN_q18_q11'
        replace NN_q11_q18 : ∀ k, OB Aq1122 k → ¬ OB A19 k := fun k h h2 => NN_q18_q11 k h2 h
        replace Z_0_q11 := Z_0_q11'
        replace O_q11 : w24.ownsRow _ 5 1 (.slice Aq1122 36 cq1123) 36 (encs (Value.int .u8) (((l16 s) ++ (l16 d)) ++ (putF 4 [(l.length : Int)]))) := O_q11'
        clear O_q11' hk hat
        refine p_cons (s_still p28_7_3 hE wn_none rfl (st_assign rfl) ?_)
        clear hE a; intro a hE
        refine p_nil ?_
        refine x_norm ?_
        refine c_reg R28_8_l ?_
        refine p_cons (s_still p28_8_0 hE wn_none rfl (st_move rfl) ?_)
        clear hE a; intro a hE
        refine p_cons (s_still p28_8_1 hE wn_none rfl (st_move rfl) ?_)
        clear hE a; intro a hE
        refine p_cons (s_still p28_8_2 hE wn_none rfl (st_conv (z := n) (by kernel_rfl) Try.underlying5 rfl (wr_u8 _ (by omega) (by omega))) ?_)
        clear hE a; intro a hE
        refine p_cons (s_row (xs := [(0, Operand.const (Value.int IntKind.u8 0)), (1, Operand.const (Value.int IntKind.u8 0)), (2, Operand.const (Value.int IntKind.u8 0)), (3, Operand.tmp 38)]) (vs := [(0, Value.int .u8 0), (1, Value.int .u8 0), (2, Value.int .u8 0), (3, Value.int .u8 n)]) (cs := #[Value.int .u8 0, Value.int .u8 0, Value.int .u8 0, Value.int .u8 n]) p28_8_3 hE wn_none rfl Try.underlying36 rfl (by kernel_rfl) ?_)
        clear hE a; intro g25 w26 z27 B_g25 hk a hE
        have n_g1_g25 : g1 ≠ g25 := ne_new B_g1 z27
        have n_g4_g25 : g4 ≠ g25 := ne_new B_g4 z27
        have z_0_g25 := Nat.le_trans K_0.kept.1 z27
        have Nb_q11_g25 : ¬ OB Aq1122 g25 := fun h => by have := (own_ob O_q11 h).2; omega
        have Nb_q18_g25 : ¬ OB A19 g25 := fun h => by have := (own_ob O_q18 h).2; omega
        replace B_g1 := kp_blk B_g1 hk (fun h => h)
        replace B_g4 := kp_blk B_g4 hk (fun h => h)
        replace O_q11 := own_keep O_q11 hk (fun _ _ h => h)
        replace O_q18 := own_keep O_q18 hk (fun _ _ h => h)
        replace K_0 := K_0.then_ hk (fun _ h => h.elim)
        clear hk
        refine p_cons (s_appendC (xs := (((l16 s) ++ (l16 d)) ++ (putF 4 [(l.length : Int)]))) (ys := [0, 0, 0, n]) p28_8_4 hE wn_none rfl Try.underlying36 eD5 rfl O_q11 rfl (C_blk (k := .u8) (l := [0, 0, 0, n]) (off := 0) B_g25 ⟨rfl, Nat.le_of_ble_eq_true rfl⟩ rfl) (by omega) (by omega) K_0.kept.1 ?_)
        clear hE a; intro Aq1128 cq1129 w30 O_q11' hk hat a hE
        have Nb_q11_g1' := grow_n Nb_q11_g1 (blk_lt B_g1) hat
        have Nb_q11_g4' := grow_n Nb_q11_g4 (blk_lt B_g4) hat
        have Nb_q11_g25' := grow_n Nb_q11_g25 (blk_lt B_g25) hat
        have NN_q18_q11' : ∀ k, OB A19 k → ¬ OB Aq1128 k := fun k h h2 => (hat k h2).elim (NN_q18_q11 k h) (fun h3 => by have := (own_ob O_q18 h).2; omega)
        have Z_0_q11' := grow_z Z_0_q11 K_0.kept.1 hat
        replace B_g1 := kp_blk B_g1 hk Nb_q11_g1
        replace B_g4 := kp_blk B_g4 hk Nb_q11_g4
        replace B_g25 := kp_blk B_g25 hk Nb_q11_g25
        replace O_q18 := own_keep O_q18 hk NN_q18_q11
        replace K_0 := K_0.then_ hk Z_0_q11
        replace Nb_q11_g1 := Nb_q11_g1'
        replace Nb_q11_g4 := Nb_q11_g4'
        replace Nb_q11_g25 := Nb_q11_g25'
        replace NN_q18_q11 := NN_q18_q11'
        replace NN_q11_q18 : ∀ k, OB Aq1128 k → ¬ OB A19 k := fun k h h2 => NN_q18_q11 k h2 h
        replace Z_0_q11 := Z_0_q11'
        replace O_q11 : w30.ownsRow _ 5 1 (.slice Aq1128 40 cq1129) 40 (encs (Value.int .u8) ((((l16 s) ++ (l16 d)) ++ (putF 4 [(l.length : Int)])) ++ [0, 0, 0, n])) := O_q11'
        clear O_q11' hk hat
        refine p_cons (s_still p28_8_5 hE wn_none rfl (st_assign rfl) ?_)
        clear hE a; intro a hE
        refine p_nil ?_
        refine x_norm ?_
        refine c_reg R28_9_l ?_
        refine p_cons (s_still p28_9_0 hE wn_none rfl (st_move rfl) ?_)
        clear hE a; intro a hE
        refine p_cons (s_still p28_9_1 hE wn_none rfl (st_move rfl) ?_)
        clear hE a; intro a hE
        refine p_cons (s_appendC (xs := ((((l16 s) ++ (l16 d)) ++ (putF 4 [(l.length : Int)])) ++ [0, 0, 0, n])) (ys := l) p28_9_2 hE wn_none rfl Try.underlying36 eD5 rfl O_q11 rfl (F_l _ K_0) (by omega) (by omega) K_0.kept.1 ?_)
        clear hE a; intro Aq1131 cq1132 w33 O_q11' hk hat a hE
        have Nb_q11_g1' := grow_n Nb_q11_g1 (blk_lt B_g1) hat
        have Nb_q11_g4' := grow_n Nb_q11_g4 (blk_lt B_g4) hat
        have Nb_q11_g25' := grow_n Nb_q11_g25 (blk_lt B_g25) hat
        have NN_q18_q11' : ∀ k, OB A19 k → ¬ OB Aq1131 k := fun k h h2 => (hat k h2).elim (NN_q18_q11 k h) (fun h3 => by have := (own_ob O_q18 h).2; omega)
        have Z_0_q11' := grow_z Z_0_q11 K_0.kept.1 hat
        replace B_g1 := kp_blk B_g1 hk Nb_q11_g1
        replace B_g4 := kp_blk B_g4 hk Nb_q11_g4
        replace B_g25 := kp_blk B_g25 hk Nb_q11_g25
        replace O_q18 := own_keep O_q18 hk NN_q18_q11
        replace K_0 := K_0.then_ hk Z_0_q11
        replace Nb_q11_g1 := Nb_q11_g1'
        replace Nb_q11_g4 := Nb_q11_g4'
        replace Nb_q11_g25 := Nb_q11_g25'
        replace NN_q18_q11 := NN_q18_q11'
        replace NN_q11_q18 : ∀ k, OB Aq1131 k → ¬ OB A19 k := fun k h h2 => NN_q18_q11 k h2 h
        replace Z_0_q11 := Z_0_q11'
        replace O_q11 : w33.ownsRow _ 5 1 (.slice Aq1131 (40 + l.length) cq1132) (40 + l.length) (encs (Value.int .u8) (((((l16 s) ++ (l16 d)) ++ (putF 4 [(l.length : Int)])) ++ [0, 0, 0, n]) ++ l)) := O_q11'
        clear O_q11' hk hat
        refine p_cons (s_call (xs := [Operand.tmp 43]) (args := [Value.slice Aq1131 (40 + l.length) cq1132]) p28_9_3 hE wn_none rfl rfl Try.func80 cl80 (refsumN Aq1131 cq1132 (40 + l.length) (((((l16 s) ++ (l16 d)) ++ (putF 4 [(l.length : Int)])) ++ [0, 0, 0, n]) ++ l) _ (big_eq s d n l (by omega)) _ (own_told O_q11) (own_caps O_q11).1 (flat_bd hbd) (by rw [rows_len]; omega)) ?_)
        rintro e w34 ⟨rfl, hk⟩
        replace B_g1 := kp_blk B_g1 hk (fun h => h)
        replace B_g4 := kp_blk B_g4 hk (fun h => h)
        replace B_g25 := kp_blk B_g25 hk (fun h => h)
        replace O_q11 := own_keep O_q11 hk (fun _ _ h => h)
        replace O_q18 := own_keep O_q18 hk (fun _ _ h => h)
        replace K_0 := K_0.then_ hk (fun _ h => h.elim)
        refine ⟨_, rfl, ?_⟩
        clear hE a; intro a hE
        refine p_cons (s_still p28_9_4 hE wn_none rfl (st_sub (z := (psF s d n l)) rfl rfl (by unfold psF at hps ⊢; exact wr_i64 _ (by omega) (by omega))) ?_)
        clear hE a; intro a hE
        refine p_cons (s_still p28_9_5 hE wn_none rfl (st_assign rfl) ?_)
        clear hE a; intro a hE
        refine p_cons (s_still p28_9_6 hE wn_none rfl (st_assign rfl) ?_)
        clear hE a; intro a hE
        refine p_nil ?_
        refine x_norm ?_
        refine wp_ret ?_
        refine ret_list (rs := [.tmp 8, .tmp 9]) (vs := [Value.int .i64 (psF s d n l), Value.int .i64 0]) rfl hE (.tmp rfl (.tmp rfl .nil)) rfl ?_
        exact h3 (by omega) (by omega) _ K_0
theorem pse_1 (s d : Nat → Int) (n : Int) (A : Option Addr) (cap ln : Nat) (l : List Int) (hs : ∀ i, i < 16 → 0 ≤ s i ∧ s i ≤ 255) (hd : ∀ i, i < 16 → 0 ≤ d i ∧ d i ≤ 255) (hby : ∀ y ∈ l, 0 ≤ y ∧ y ≤ 255) (hln : ln = l.length) (hlc : l.length ≤ cap) (hlm : l.length ≤ 9000) (hN : ¬ (0 ≤ n ∧ n ≤ 255)) (w : World) (hC : Kd.C (Kd.int .u8) w A l.length l) : Calls Try.prog 27 #[Value.agg (b16 s).toArray, Value.agg (b16 d).toArray, Value.int .i64 n, .slice A ln cap] w fun e w' => e = .returned (.tuple #[.int .i64 0, .int .i64 1]) ∧ Kp w w' (fun _ => False) := pse_R s d n A cap ln l hs hd hby hln hlc hlm w hC (fun _ w' hk => ⟨rfl, hk⟩) (fun h => absurd h hN) (fun h => absurd h hN)
theorem pse_2 (s d : Nat → Int) (n : Int) (A : Option Addr) (cap ln : Nat) (l : List Int) (hs : ∀ i, i < 16 → 0 ≤ s i ∧ s i ≤ 255) (hd : ∀ i, i < 16 → 0 ≤ d i ∧ d i ≤ 255) (hby : ∀ y ∈ l, 0 ≤ y ∧ y ≤ 255) (hln : ln = l.length) (hlc : l.length ≤ cap) (hlm : l.length ≤ 9000) (hN : 0 ≤ n ∧ n ≤ 255) (hG : 1280 < l.length) (w : World) (hC : Kd.C (Kd.int .u8) w A l.length l) : Calls Try.prog 27 #[Value.agg (b16 s).toArray, Value.agg (b16 d).toArray, Value.int .i64 n, .slice A ln cap] w fun e w' => e = .returned (.tuple #[.int .i64 0, .int .i64 2]) ∧ Kp w w' (fun _ => False) := pse_R s d n A cap ln l hs hd hby hln hlc hlm w hC (fun h => absurd hN h) (fun _ _ w' hk => ⟨rfl, hk⟩) (fun _ h => absurd hG h)
theorem pse_ok (s d : Nat → Int) (n : Int) (A : Option Addr) (cap ln : Nat) (l : List Int) (hs : ∀ i, i < 16 → 0 ≤ s i ∧ s i ≤ 255) (hd : ∀ i, i < 16 → 0 ≤ d i ∧ d i ≤ 255) (hby : ∀ y ∈ l, 0 ≤ y ∧ y ≤ 255) (hln : ln = l.length) (hlc : l.length ≤ cap) (hlm : l.length ≤ 9000) (hN : 0 ≤ n ∧ n ≤ 255) (hG : ¬ 1280 < l.length) (w : World) (hC : Kd.C (Kd.int .u8) w A l.length l) : Calls Try.prog 27 #[Value.agg (b16 s).toArray, Value.agg (b16 d).toArray, Value.int .i64 n, .slice A ln cap] w fun e w' => e = .returned (.tuple #[.int .i64 (psF s d n l), .int .i64 0]) ∧ Kp w w' (fun _ => False) := pse_R s d n A cap ln l hs hd hby hln hlc hlm w hC (fun h => absurd hN h) (fun _ h => absurd h hG) (fun _ _ w' hk => ⟨rfl, hk⟩)
theorem rpse_1 (s d : Nat → Int) (n : Int) (A : Option Addr) (cap ln : Nat) (l : List Int) (hs : ∀ i, i < 16 → 0 ≤ s i ∧ s i ≤ 255) (hd : ∀ i, i < 16 → 0 ≤ d i ∧ d i ≤ 255) (hby : ∀ y ∈ l, 0 ≤ y ∧ y ≤ 255) (hln : ln = l.length) (hlc : l.length ≤ cap) (hlm : l.length ≤ 9000) (hN : ¬ (0 ≤ n ∧ n ≤ 255)) (w : World) (hC : Kd.C (Kd.int .u8) w A l.length l) : Calls Try.prog 28 #[Value.agg (b16 s).toArray, Value.agg (b16 d).toArray, Value.int .i64 n, .slice A ln cap] w fun e w' => e = .returned (.tuple #[.int .i64 0, .int .i64 1]) ∧ Kp w w' (fun _ => False) := rpse_R s d n A cap ln l hs hd hby hln hlc hlm w hC (fun _ w' hk => ⟨rfl, hk⟩) (fun h => absurd h hN) (fun h => absurd h hN)
theorem rpse_2 (s d : Nat → Int) (n : Int) (A : Option Addr) (cap ln : Nat) (l : List Int) (hs : ∀ i, i < 16 → 0 ≤ s i ∧ s i ≤ 255) (hd : ∀ i, i < 16 → 0 ≤ d i ∧ d i ≤ 255) (hby : ∀ y ∈ l, 0 ≤ y ∧ y ≤ 255) (hln : ln = l.length) (hlc : l.length ≤ cap) (hlm : l.length ≤ 9000) (hN : 0 ≤ n ∧ n ≤ 255) (hG : 1280 < l.length) (w : World) (hC : Kd.C (Kd.int .u8) w A l.length l) : Calls Try.prog 28 #[Value.agg (b16 s).toArray, Value.agg (b16 d).toArray, Value.int .i64 n, .slice A ln cap] w fun e w' => e = .returned (.tuple #[.int .i64 0, .int .i64 2]) ∧ Kp w w' (fun _ => False) := rpse_R s d n A cap ln l hs hd hby hln hlc hlm w hC (fun h => absurd hN h) (fun _ _ w' hk => ⟨rfl, hk⟩) (fun _ h => absurd hG h)
theorem rpse_ok (s d : Nat → Int) (n : Int) (A : Option Addr) (cap ln : Nat) (l : List Int) (hs : ∀ i, i < 16 → 0 ≤ s i ∧ s i ≤ 255) (hd : ∀ i, i < 16 → 0 ≤ d i ∧ d i ≤ 255) (hby : ∀ y ∈ l, 0 ≤ y ∧ y ≤ 255) (hln : ln = l.length) (hlc : l.length ≤ cap) (hlm : l.length ≤ 9000) (hN : 0 ≤ n ∧ n ≤ 255) (hG : ¬ 1280 < l.length) (w : World) (hC : Kd.C (Kd.int .u8) w A l.length l) : Calls Try.prog 28 #[Value.agg (b16 s).toArray, Value.agg (b16 d).toArray, Value.int .i64 n, .slice A ln cap] w fun e w' => e = .returned (.tuple #[.int .i64 (psF s d n l), .int .i64 0]) ∧ Kp w w' (fun _ => False) := rpse_R s d n A cap ln l hs hd hby hln hlc hlm w hC (fun h => absurd hN h) (fun _ h => absurd h hG) (fun _ _ w' hk => ⟨rfl, hk⟩)
theorem R29_0_l : List.range (regOf Try.f29 0).size = [0, 1, 2] := by kernel_rfl
theorem R29_1_l : List.range (regOf Try.f29 1).size = [0, 1, 2, 3, 4, 5, 6, 7, 8, 9] := by kernel_rfl
theorem R29_2_l : List.range (regOf Try.f29 2).size = [0, 1, 2, 3, 4, 5, 6] := by kernel_rfl
theorem body29 : Try.f29.body = some (.seq (.region 0 (regOf Try.f29 0) false) (.seq (.region 1 (regOf Try.f29 1) false) (.seq (.region 2 (regOf Try.f29 2) false) (.ret)))) := by kernel_rfl
theorem p29_0_0 : pj (regOf Try.f29 0) 0 = some (some 4, Op.box 25 (Operand.tmp 0), 0, none) := by kernel_rfl
theorem p29_0_1 : pj (regOf Try.f29 0) 1 = some (some 5, Op.box 25 (Operand.tmp 1), 0, none) := by kernel_rfl
theorem p29_0_2 : pj (regOf Try.f29 0) 2 = some (some 8, Op.assign (Operand.const (Value.bool false)), 4, none) := by kernel_rfl
theorem p29_1_0 : pj (regOf Try.f29 1) 0 = some (some 12, Op.load 25 (Operand.tmp 4), 25, none) := by kernel_rfl
theorem tA25 : (Try.prog.underlying 25).map aggD = some true := by kernel_rfl
theorem tS25 : (Try.prog.info? 25).map (·.size) = some 16 := by kernel_rfl
theorem p29_1_1 : pj (regOf Try.f29 1) 1 = some (some 13, Op.load 25 (Operand.tmp 5), 25, none) := by kernel_rfl
theorem p29_1_2 : pj (regOf Try.f29 1) 2 = some (some 14, Op.move (Operand.tmp 2), 3, none) := by kernel_rfl
theorem p29_1_3 : pj (regOf Try.f29 1) 3 = some (some 15, Op.move (Operand.tmp 3), 36, none) := by kernel_rfl
theorem p29_1_4 : pj (regOf Try.f29 1) 4 = some (some 16, Op.call { callee := Callee.value (Operand.func 27), args := #[Operand.tmp 12, Operand.tmp 13, Operand.tmp 14, Operand.tmp 15], argTypes := #[25, 25, 3, 36] }, 50, none) := by kernel_rfl
theorem cl27 : callable Try.f27 = true := by kernel_rfl
theorem p29_1_5 : pj (regOf Try.f29 1) 5 = some (some 11, Op.move (Operand.tmp 16), 50, none) := by kernel_rfl
theorem p29_1_6 : pj (regOf Try.f29 1) 6 = some (some 17, Op.extract (Operand.tmp 11) 0, 3, none) := by kernel_rfl
theorem p29_1_7 : pj (regOf Try.f29 1) 7 = some (some 18, Op.extract (Operand.tmp 11) 1, 29, none) := by kernel_rfl
theorem p29_1_8 : pj (regOf Try.f29 1) 8 = some (some 9, Op.assign (Operand.tmp 17), 3, none) := by kernel_rfl
theorem p29_1_9 : pj (regOf Try.f29 1) 9 = some (some 10, Op.assign (Operand.tmp 18), 29, none) := by kernel_rfl
theorem p29_2_0 : pj (regOf Try.f29 2) 0 = some (some 19, Op.move (Operand.tmp 10), 29, none) := by kernel_rfl
theorem p29_2_1 : pj (regOf Try.f29 2) 1 = some (some 20, Op.binOp BinOp.eql 29 (Operand.tmp 19) (Operand.const (Value.int IntKind.i64 0)) 29, 4, none) := by kernel_rfl
theorem p29_2_2 : pj (regOf Try.f29 2) 2 = some (some 21, Op.move (Operand.tmp 20), 4, none) := by kernel_rfl
theorem p29_2_3 : pj (regOf Try.f29 2) 3 = some (some 22, Op.move (Operand.tmp 9), 3, some (2, true)) := by kernel_rfl
theorem g29_2_2 : dstOf (regOf Try.f29 2) 2 = some 21 := by kernel_rfl
theorem p29_2_4 : pj (regOf Try.f29 2) 4 = some (some 23, Op.binOp BinOp.eql 3 (Operand.tmp 22) (Operand.const (Value.int IntKind.i64 0)) 3, 4, some (2, true)) := by kernel_rfl
theorem p29_2_5 : pj (regOf Try.f29 2) 5 = some (some 24, Op.pick (Operand.tmp 21) (Operand.tmp 23) (Operand.const (Value.bool false)), 4, none) := by kernel_rfl
theorem p29_2_6 : pj (regOf Try.f29 2) 6 = some (some 8, Op.assign (Operand.tmp 24), 4, none) := by kernel_rfl
set_option maxHeartbeats 4000000 in
theorem chk_1 (s d : Nat → Int) (n : Int) (A : Option Addr) (cap ln : Nat) (l : List Int) (hs : ∀ i, i < 16 → 0 ≤ s i ∧ s i ≤ 255) (hd : ∀ i, i < 16 → 0 ≤ d i ∧ d i ≤ 255) (hby : ∀ y ∈ l, 0 ≤ y ∧ y ≤ 255) (hln : ln = l.length) (hlc : l.length ≤ cap) (hlm : l.length ≤ 9000) (hN : ¬ (0 ≤ n ∧ n ≤ 255)) (w : World) (hC : Kd.C (Kd.int .u8) w A l.length l) : Calls Try.prog 29 #[Value.agg (b16 s).toArray, Value.agg (b16 d).toArray, Value.int .i64 n, .slice A ln cap] w fun e w' => e = .returned (.bool false) ∧ Kp w w' (fun _ => False) := by
  have K_0 := Kp.refl w (fun _ => False)
  subst hln
  have F_l : ∀ W', Kp w W' (fun _ => False) → Kd.C (Kd.int .u8) W' A l.length l := fun W' hk => Kd.C_below hC (hk.to (Nat.le_refl _) (fun _ h => h.elim))
  refine enter (args := [Value.agg (b16 s).toArray, Value.agg (b16 d).toArray, Value.int .i64 n, Value.slice A l.length cap]) (n := 25) Try.func29 body29 rfl rfl rfl ?_
  intro a hE
  refine c_reg R29_0_l ?_
  refine p_cons (s_box p29_0_0 hE wn_none rfl rfl ?_)
  clear hE a; intro g1 w2 z3 B_g1 hk a hE
  replace B_g1 : w2.heap[g1]? = some (.cells (b16 s).toArray 25 (0, 0)) := B_g1
  have z_0_g1 := Nat.le_trans K_0.kept.1 z3
  replace K_0 := K_0.then_ hk (fun _ h => h.elim)
  clear hk
  refine p_cons (s_box p29_0_1 hE wn_none rfl rfl ?_)
  clear hE a; intro g4 w5 z6 B_g4 hk a hE
  replace B_g4 : w5.heap[g4]? = some (.cells (b16 d).toArray 25 (0, 0)) := B_g4
  have n_g1_g4 : g1 ≠ g4 := ne_new B_g1 z6
  have z_0_g4 := Nat.le_trans K_0.kept.1 z6
  replace B_g1 := kp_blk B_g1 hk (fun h => h)
  replace K_0 := K_0.then_ hk (fun _ h => h.elim)
  clear hk
  refine p_cons (s_still p29_0_2 hE wn_none rfl (st_assign rfl) ?_)
  clear hE a; intro a hE
  refine p_nil ?_
  refine x_norm ?_
  refine c_reg R29_1_l ?_
  refine p_cons (s_still p29_1_0 hE wn_none rfl (st_loadN (off := 0) (k := 16) (vs := b16 s) tA25 tS25 rfl B_g1 rfl rfl) ?_)
  clear hE a; intro a hE
  refine p_cons (s_still p29_1_1 hE wn_none rfl (st_loadN (off := 0) (k := 16) (vs := b16 d) tA25 tS25 rfl B_g4 rfl rfl) ?_)
  clear hE a; intro a hE
  refine p_cons (s_still p29_1_2 hE wn_none rfl (st_move rfl) ?_)
  clear hE a; intro a hE
  refine p_cons (s_still p29_1_3 hE wn_none rfl (st_move rfl) ?_)
  clear hE a; intro a hE
  refine p_cons (s_call (xs := [Operand.tmp 12, Operand.tmp 13, Operand.tmp 14, Operand.tmp 15]) (args := [Value.agg (b16 s).toArray, Value.agg (b16 d).toArray, Value.int .i64 n, Value.slice A l.length cap]) p29_1_4 hE wn_none rfl rfl Try.func27 cl27 (pse_1 s d n A cap l.length l hs hd hby rfl hlc hlm hN _ (F_l _ K_0)) ?_)
  rintro e w7 ⟨rfl, hk⟩
  replace B_g1 := kp_blk B_g1 hk (fun h => h)
  replace B_g4 := kp_blk B_g4 hk (fun h => h)
  replace K_0 := K_0.then_ hk (fun _ h => h.elim)
  refine ⟨_, rfl, ?_⟩
  clear hE a; intro a hE
  refine p_cons (s_still p29_1_5 hE wn_none rfl (st_move rfl) ?_)
  clear hE a; intro a hE
  refine p_cons (s_still p29_1_6 hE wn_none rfl (st_extract rfl rfl) ?_)
  clear hE a; intro a hE
  refine p_cons (s_still p29_1_7 hE wn_none rfl (st_extract rfl rfl) ?_)
  clear hE a; intro a hE
  refine p_cons (s_still p29_1_8 hE wn_none rfl (st_assign rfl) ?_)
  clear hE a; intro a hE
  refine p_cons (s_still p29_1_9 hE wn_none rfl (st_assign rfl) ?_)
  clear hE a; intro a hE
  refine p_nil ?_
  refine x_norm ?_
  refine c_reg R29_2_l ?_
  refine p_cons (s_still p29_2_0 hE wn_none rfl (st_move rfl) ?_)
  clear hE a; intro a hE
  refine p_cons (s_still p29_2_1 hE wn_none rfl (st_eql (b := false) rfl rfl (by decide)) ?_)
  clear hE a; intro a hE
  refine p_cons (s_still p29_2_2 hE wn_none rfl (st_move rfl) ?_)
  clear hE a; intro a hE
  refine p_cons (s_skip p29_2_3 hE (wn_some g29_2_2 rfl rfl) rfl ?_)
  clear hE a; intro a hE
  refine p_cons (s_skip p29_2_4 hE (wn_some g29_2_2 rfl rfl) rfl ?_)
  clear hE a; intro a hE
  refine p_cons (s_still p29_2_5 hE wn_none rfl (st_pick rfl rfl) ?_)
  clear hE a; intro a hE
  refine p_cons (s_still p29_2_6 hE wn_none rfl (st_assign rfl) ?_)
  clear hE a; intro a hE
  refine p_nil ?_
  refine x_norm ?_
  refine wp_ret ?_
  refine ret_one (v := Value.bool false) rfl hE (.tmp rfl .nil) ?_
  exact ⟨rfl, K_0⟩

set_option maxHeartbeats 4000000 in
theorem chk_2 (s d : Nat → Int) (n : Int) (A : Option Addr) (cap ln : Nat) (l : List Int) (hs : ∀ i, i < 16 → 0 ≤ s i ∧ s i ≤ 255) (hd : ∀ i, i < 16 → 0 ≤ d i ∧ d i ≤ 255) (hby : ∀ y ∈ l, 0 ≤ y ∧ y ≤ 255) (hln : ln = l.length) (hlc : l.length ≤ cap) (hlm : l.length ≤ 9000) (hN : 0 ≤ n ∧ n ≤ 255) (hG : 1280 < l.length) (w : World) (hC : Kd.C (Kd.int .u8) w A l.length l) : Calls Try.prog 29 #[Value.agg (b16 s).toArray, Value.agg (b16 d).toArray, Value.int .i64 n, .slice A ln cap] w fun e w' => e = .returned (.bool false) ∧ Kp w w' (fun _ => False) := by
  have K_0 := Kp.refl w (fun _ => False)
  subst hln
  have F_l : ∀ W', Kp w W' (fun _ => False) → Kd.C (Kd.int .u8) W' A l.length l := fun W' hk => Kd.C_below hC (hk.to (Nat.le_refl _) (fun _ h => h.elim))
  refine enter (args := [Value.agg (b16 s).toArray, Value.agg (b16 d).toArray, Value.int .i64 n, Value.slice A l.length cap]) (n := 25) Try.func29 body29 rfl rfl rfl ?_
  intro a hE
  refine c_reg R29_0_l ?_
  refine p_cons (s_box p29_0_0 hE wn_none rfl rfl ?_)
  clear hE a; intro g1 w2 z3 B_g1 hk a hE
  replace B_g1 : w2.heap[g1]? = some (.cells (b16 s).toArray 25 (0, 0)) := B_g1
  have z_0_g1 := Nat.le_trans K_0.kept.1 z3
  replace K_0 := K_0.then_ hk (fun _ h => h.elim)
  clear hk
  refine p_cons (s_box p29_0_1 hE wn_none rfl rfl ?_)
  clear hE a; intro g4 w5 z6 B_g4 hk a hE
  replace B_g4 : w5.heap[g4]? = some (.cells (b16 d).toArray 25 (0, 0)) := B_g4
  have n_g1_g4 : g1 ≠ g4 := ne_new B_g1 z6
  have z_0_g4 := Nat.le_trans K_0.kept.1 z6
  replace B_g1 := kp_blk B_g1 hk (fun h => h)
  replace K_0 := K_0.then_ hk (fun _ h => h.elim)
  clear hk
  refine p_cons (s_still p29_0_2 hE wn_none rfl (st_assign rfl) ?_)
  clear hE a; intro a hE
  refine p_nil ?_
  refine x_norm ?_
  refine c_reg R29_1_l ?_
  refine p_cons (s_still p29_1_0 hE wn_none rfl (st_loadN (off := 0) (k := 16) (vs := b16 s) tA25 tS25 rfl B_g1 rfl rfl) ?_)
  clear hE a; intro a hE
  refine p_cons (s_still p29_1_1 hE wn_none rfl (st_loadN (off := 0) (k := 16) (vs := b16 d) tA25 tS25 rfl B_g4 rfl rfl) ?_)
  clear hE a; intro a hE
  refine p_cons (s_still p29_1_2 hE wn_none rfl (st_move rfl) ?_)
  clear hE a; intro a hE
  refine p_cons (s_still p29_1_3 hE wn_none rfl (st_move rfl) ?_)
  clear hE a; intro a hE
  refine p_cons (s_call (xs := [Operand.tmp 12, Operand.tmp 13, Operand.tmp 14, Operand.tmp 15]) (args := [Value.agg (b16 s).toArray, Value.agg (b16 d).toArray, Value.int .i64 n, Value.slice A l.length cap]) p29_1_4 hE wn_none rfl rfl Try.func27 cl27 (pse_2 s d n A cap l.length l hs hd hby rfl hlc hlm hN hG _ (F_l _ K_0)) ?_)
  rintro e w7 ⟨rfl, hk⟩
  replace B_g1 := kp_blk B_g1 hk (fun h => h)
  replace B_g4 := kp_blk B_g4 hk (fun h => h)
  replace K_0 := K_0.then_ hk (fun _ h => h.elim)
  refine ⟨_, rfl, ?_⟩
  clear hE a; intro a hE
  refine p_cons (s_still p29_1_5 hE wn_none rfl (st_move rfl) ?_)
  clear hE a; intro a hE
  refine p_cons (s_still p29_1_6 hE wn_none rfl (st_extract rfl rfl) ?_)
  clear hE a; intro a hE
  refine p_cons (s_still p29_1_7 hE wn_none rfl (st_extract rfl rfl) ?_)
  clear hE a; intro a hE
  refine p_cons (s_still p29_1_8 hE wn_none rfl (st_assign rfl) ?_)
  clear hE a; intro a hE
  refine p_cons (s_still p29_1_9 hE wn_none rfl (st_assign rfl) ?_)
  clear hE a; intro a hE
  refine p_nil ?_
  refine x_norm ?_
  refine c_reg R29_2_l ?_
  refine p_cons (s_still p29_2_0 hE wn_none rfl (st_move rfl) ?_)
  clear hE a; intro a hE
  refine p_cons (s_still p29_2_1 hE wn_none rfl (st_eql (b := false) rfl rfl (by decide)) ?_)
  clear hE a; intro a hE
  refine p_cons (s_still p29_2_2 hE wn_none rfl (st_move rfl) ?_)
  clear hE a; intro a hE
  refine p_cons (s_skip p29_2_3 hE (wn_some g29_2_2 rfl rfl) rfl ?_)
  clear hE a; intro a hE
  refine p_cons (s_skip p29_2_4 hE (wn_some g29_2_2 rfl rfl) rfl ?_)
  clear hE a; intro a hE
  refine p_cons (s_still p29_2_5 hE wn_none rfl (st_pick rfl rfl) ?_)
  clear hE a; intro a hE
  refine p_cons (s_still p29_2_6 hE wn_none rfl (st_assign rfl) ?_)
  clear hE a; intro a hE
  refine p_nil ?_
  refine x_norm ?_
  refine wp_ret ?_
  refine ret_one (v := Value.bool false) rfl hE (.tmp rfl .nil) ?_
  exact ⟨rfl, K_0⟩

set_option maxHeartbeats 4000000 in
theorem chk_ok (s d : Nat → Int) (n : Int) (A : Option Addr) (cap ln : Nat) (l : List Int) (hs : ∀ i, i < 16 → 0 ≤ s i ∧ s i ≤ 255) (hd : ∀ i, i < 16 → 0 ≤ d i ∧ d i ≤ 255) (hby : ∀ y ∈ l, 0 ≤ y ∧ y ≤ 255) (hln : ln = l.length) (hlc : l.length ≤ cap) (hlm : l.length ≤ 9000) (hN : 0 ≤ n ∧ n ≤ 255) (hG : ¬ 1280 < l.length) (b : Bool) (hb : decide (psF s d n l = 0) = b) (w : World) (hC : Kd.C (Kd.int .u8) w A l.length l) : Calls Try.prog 29 #[Value.agg (b16 s).toArray, Value.agg (b16 d).toArray, Value.int .i64 n, .slice A ln cap] w fun e w' => e = .returned (.bool b) ∧ Kp w w' (fun _ => False) := by
  have K_0 := Kp.refl w (fun _ => False)
  subst hln
  have F_l : ∀ W', Kp w W' (fun _ => False) → Kd.C (Kd.int .u8) W' A l.length l := fun W' hk => Kd.C_below hC (hk.to (Nat.le_refl _) (fun _ h => h.elim))
  refine enter (args := [Value.agg (b16 s).toArray, Value.agg (b16 d).toArray, Value.int .i64 n, Value.slice A l.length cap]) (n := 25) Try.func29 body29 rfl rfl rfl ?_
  intro a hE
  refine c_reg R29_0_l ?_
  refine p_cons (s_box p29_0_0 hE wn_none rfl rfl ?_)
  clear hE a; intro g1 w2 z3 B_g1 hk a hE
  replace B_g1 : w2.heap[g1]? = some (.cells (b16 s).toArray 25 (0, 0)) := B_g1
  have z_0_g1 := Nat.le_trans K_0.kept.1 z3
  replace K_0 := K_0.then_ hk (fun _ h => h.elim)
  clear hk
  refine p_cons (s_box p29_0_1 hE wn_none rfl rfl ?_)
  clear hE a; intro g4 w5 z6 B_g4 hk a hE
  replace B_g4 : w5.heap[g4]? = some (.cells (b16 d).toArray 25 (0, 0)) := B_g4
  have n_g1_g4 : g1 ≠ g4 := ne_new B_g1 z6
  have z_0_g4 := Nat.le_trans K_0.kept.1 z6
  replace B_g1 := kp_blk B_g1 hk (fun h => h)
  replace K_0 := K_0.then_ hk (fun _ h => h.elim)
  clear hk
  refine p_cons (s_still p29_0_2 hE wn_none rfl (st_assign rfl) ?_)
  clear hE a; intro a hE
  refine p_nil ?_
  refine x_norm ?_
  refine c_reg R29_1_l ?_
  refine p_cons (s_still p29_1_0 hE wn_none rfl (st_loadN (off := 0) (k := 16) (vs := b16 s) tA25 tS25 rfl B_g1 rfl rfl) ?_)
  clear hE a; intro a hE
  refine p_cons (s_still p29_1_1 hE wn_none rfl (st_loadN (off := 0) (k := 16) (vs := b16 d) tA25 tS25 rfl B_g4 rfl rfl) ?_)
  clear hE a; intro a hE
  refine p_cons (s_still p29_1_2 hE wn_none rfl (st_move rfl) ?_)
  clear hE a; intro a hE
  refine p_cons (s_still p29_1_3 hE wn_none rfl (st_move rfl) ?_)
  clear hE a; intro a hE
  refine p_cons (s_call (xs := [Operand.tmp 12, Operand.tmp 13, Operand.tmp 14, Operand.tmp 15]) (args := [Value.agg (b16 s).toArray, Value.agg (b16 d).toArray, Value.int .i64 n, Value.slice A l.length cap]) p29_1_4 hE wn_none rfl rfl Try.func27 cl27 (pse_ok s d n A cap l.length l hs hd hby rfl hlc hlm hN hG _ (F_l _ K_0)) ?_)
  rintro e w7 ⟨rfl, hk⟩
  replace B_g1 := kp_blk B_g1 hk (fun h => h)
  replace B_g4 := kp_blk B_g4 hk (fun h => h)
  replace K_0 := K_0.then_ hk (fun _ h => h.elim)
  refine ⟨_, rfl, ?_⟩
  clear hE a; intro a hE
  refine p_cons (s_still p29_1_5 hE wn_none rfl (st_move rfl) ?_)
  clear hE a; intro a hE
  refine p_cons (s_still p29_1_6 hE wn_none rfl (st_extract rfl rfl) ?_)
  clear hE a; intro a hE
  refine p_cons (s_still p29_1_7 hE wn_none rfl (st_extract rfl rfl) ?_)
  clear hE a; intro a hE
  refine p_cons (s_still p29_1_8 hE wn_none rfl (st_assign rfl) ?_)
  clear hE a; intro a hE
  refine p_cons (s_still p29_1_9 hE wn_none rfl (st_assign rfl) ?_)
  clear hE a; intro a hE
  refine p_nil ?_
  refine x_norm ?_
  refine c_reg R29_2_l ?_
  refine p_cons (s_still p29_2_0 hE wn_none rfl (st_move rfl) ?_)
  clear hE a; intro a hE
  refine p_cons (s_still p29_2_1 hE wn_none rfl (st_eql (b := true) rfl rfl (by decide)) ?_)
  clear hE a; intro a hE
  refine p_cons (s_still p29_2_2 hE wn_none rfl (st_move rfl) ?_)
  clear hE a; intro a hE
  refine p_cons (s_still p29_2_3 hE (wn_some g29_2_2 rfl rfl) rfl (st_move rfl) ?_)
  clear hE a; intro a hE
  refine p_cons (s_still p29_2_4 hE (wn_some g29_2_2 rfl rfl) rfl (st_eql (b := b) rfl rfl hb) ?_)
  clear hE a; intro a hE
  refine p_cons (s_still p29_2_5 hE wn_none rfl (st_pick rfl rfl) ?_)
  clear hE a; intro a hE
  refine p_cons (s_still p29_2_6 hE wn_none rfl (st_assign rfl) ?_)
  clear hE a; intro a hE
  refine p_nil ?_
  refine x_norm ?_
  refine wp_ret ?_
  refine ret_one (v := Value.bool b) rfl hE (.tmp rfl .nil) ?_
  exact ⟨rfl, K_0⟩
theorem R30_0_l : List.range (regOf Try.f30 0).size = [0, 1, 2, 3] := by kernel_rfl
theorem R30_1_l : List.range (regOf Try.f30 1).size = [0, 1, 2, 3, 4, 5, 6, 7, 8, 9] := by kernel_rfl
theorem R30_2_l : List.range (regOf Try.f30 2).size = [0, 1] := by kernel_rfl
theorem R30_3_l : List.range (regOf Try.f30 3).size = [0, 1, 2] := by kernel_rfl
theorem R30_4_l : List.range (regOf Try.f30 4).size = [0, 1, 2, 3, 4, 5, 6, 7, 8, 9, 10, 11, 12, 13] := by kernel_rfl
theorem R30_5_l : List.range (regOf Try.f30 5).size = [0, 1] := by kernel_rfl
theorem R30_6_l : List.range (regOf Try.f30 6).size = [0, 1, 2] := by kernel_rfl
theorem R30_7_l : List.range (regOf Try.f30 7).size = [0, 1, 2, 3, 4, 5, 6, 7, 8] := by kernel_rfl
theorem R30_8_l : List.range (regOf Try.f30 8).size = [0, 1, 2, 3, 4, 5, 6, 7, 8, 9] := by kernel_rfl
theorem R30_9_l : List.range (regOf Try.f30 9).size = [0, 1] := by kernel_rfl
theorem R30_10_l : List.range (regOf Try.f30 10).size = [0, 1, 2] := by kernel_rfl
theorem R30_11_l : List.range (regOf Try.f30 11).size = [0, 1, 2, 3, 4, 5, 6, 7, 8, 9, 10, 11, 12, 13] := by kernel_rfl
theorem R30_12_l : List.range (regOf Try.f30 12).size = [0, 1, 2] := by kernel_rfl
theorem body30 : Try.f30.body = some (.seq (.region 0 (regOf Try.f30 0) false) (.seq (.seq (.region 1 (regOf Try.f30 1) false) (.seq (.region 2 (regOf Try.f30 2) false) (.cond (Operand.tmp 26) (.seq (.region 3 (regOf Try.f30 3) false) (.ret)) (.skip)))) (.seq (.seq (.region 4 (regOf Try.f30 4) false) (.cond (Operand.tmp 41) (.seq (.region 5 (regOf Try.f30 5) false) (.ret)) (.skip))) (.seq (.region 6 (regOf Try.f30 6) false) (.seq (.region 7 (regOf Try.f30 7) false) (.seq (.region 8 (regOf Try.f30 8) false) (.seq (.seq (.region 9 (regOf Try.f30 9) false) (.cond (Operand.tmp 60) (.seq (.region 10 (regOf Try.f30 10) false) (.ret)) (.skip))) (.seq (.region 11 (regOf Try.f30 11) false) (.seq (.region 12 (regOf Try.f30 12) false) (.ret)))))))))) := by kernel_rfl
theorem p30_0_0 : pj (regOf Try.f30 0) 0 = some (some 5, Op.box 25 (Operand.tmp 0), 0, none) := by kernel_rfl
theorem p30_0_1 : pj (regOf Try.f30 0) 1 = some (some 6, Op.box 25 (Operand.tmp 1), 0, none) := by kernel_rfl
theorem p30_0_2 : pj (regOf Try.f30 0) 2 = some (some 10, Op.assign (Operand.const (Value.slice none 0 0)), 36, none) := by kernel_rfl
theorem p30_0_3 : pj (regOf Try.f30 0) 3 = some (some 11, Op.assign (Operand.const (Value.int IntKind.i64 0)), 29, none) := by kernel_rfl
theorem p30_1_0 : pj (regOf Try.f30 1) 0 = some (some 18, Op.load 25 (Operand.tmp 5), 25, none) := by kernel_rfl
theorem p30_1_1 : pj (regOf Try.f30 1) 1 = some (some 19, Op.load 25 (Operand.tmp 6), 25, none) := by kernel_rfl
theorem p30_1_2 : pj (regOf Try.f30 1) 2 = some (some 20, Op.move (Operand.tmp 2), 3, none) := by kernel_rfl
theorem p30_1_3 : pj (regOf Try.f30 1) 3 = some (some 21, Op.move (Operand.tmp 3), 36, none) := by kernel_rfl
theorem p30_1_4 : pj (regOf Try.f30 1) 4 = some (some 22, Op.call { callee := Callee.value (Operand.func 27), args := #[Operand.tmp 18, Operand.tmp 19, Operand.tmp 20, Operand.tmp 21], argTypes := #[25, 25, 3, 36] }, 50, none) := by kernel_rfl
theorem p30_1_5 : pj (regOf Try.f30 1) 5 = some (some 17, Op.move (Operand.tmp 22), 50, none) := by kernel_rfl
theorem p30_1_6 : pj (regOf Try.f30 1) 6 = some (some 23, Op.extract (Operand.tmp 17) 0, 3, none) := by kernel_rfl
theorem p30_1_7 : pj (regOf Try.f30 1) 7 = some (some 24, Op.extract (Operand.tmp 17) 1, 29, none) := by kernel_rfl
theorem p30_1_8 : pj (regOf Try.f30 1) 8 = some (some 12, Op.assign (Operand.tmp 23), 3, none) := by kernel_rfl
theorem p30_1_9 : pj (regOf Try.f30 1) 9 = some (some 13, Op.assign (Operand.tmp 24), 29, none) := by kernel_rfl
theorem p30_2_0 : pj (regOf Try.f30 2) 0 = some (some 25, Op.move (Operand.tmp 13), 29, none) := by kernel_rfl
theorem p30_2_1 : pj (regOf Try.f30 2) 1 = some (some 26, Op.binOp BinOp.neq 29 (Operand.tmp 25) (Operand.const (Value.int IntKind.i64 0)) 29, 4, none) := by kernel_rfl
theorem p30_3_0 : pj (regOf Try.f30 3) 0 = some (some 27, Op.move (Operand.tmp 13), 29, none) := by kernel_rfl
theorem p30_3_1 : pj (regOf Try.f30 3) 1 = some (some 10, Op.assign (Operand.const (Value.slice none 0 0)), 36, none) := by kernel_rfl
theorem p30_3_2 : pj (regOf Try.f30 3) 2 = some (some 11, Op.assign (Operand.tmp 27), 29, none) := by kernel_rfl
set_option maxHeartbeats 4000000 in
theorem set_1 (s d : Nat → Int) (n : Int) (A : Option Addr) (cap ln : Nat) (l : List Int) (hs : ∀ i, i < 16 → 0 ≤ s i ∧ s i ≤ 255) (hd : ∀ i, i < 16 → 0 ≤ d i ∧ d i ≤ 255) (hby : ∀ y ∈ l, 0 ≤ y ∧ y ≤ 255) (hln : ln = l.length) (hlc : l.length ≤ cap) (hlm : l.length ≤ 9000) (p : Int) (hN : ¬ (0 ≤ n ∧ n ≤ 255)) (w : World) (hC : Kd.C (Kd.int .u8) w A l.length l) : Calls Try.prog 30 #[Value.agg (b16 s).toArray, Value.agg (b16 d).toArray, Value.int .i64 n, .slice A ln cap, .int .i64 p] w fun e w' => e = .returned (.tuple #[.slice none 0 0, .int .i64 1]) ∧ Kp w w' (fun _ => False) := by
  have K_0 := Kp.refl w (fun _ => False)
  subst hln
  have F_l : ∀ W', Kp w W' (fun _ => False) → Kd.C (Kd.int .u8) W' A l.length l := fun W' hk => Kd.C_below hC (hk.to (Nat.le_refl _) (fun _ h => h.elim))
  refine enter (args := [Value.agg (b16 s).toArray, Value.agg (b16 d).toArray, Value.int .i64 n, Value.slice A l.length cap, Value.int .i64 p]) (n := 75) Try.func30 body30 rfl rfl rfl ?_
  intro a hE
  refine c_reg R30_0_l ?_
  refine p_cons (s_box p30_0_0 hE wn_none rfl rfl ?_)
  clear hE a; intro g1 w2 z3 B_g1 hk a hE
  replace B_g1 : w2.heap[g1]? = some (.cells (b16 s).toArray 25 (0, 0)) := B_g1
  have z_0_g1 := Nat.le_trans K_0.kept.1 z3
  replace K_0 := K_0.then_ hk (fun _ h => h.elim)
  clear hk
  refine p_cons (s_box p30_0_1 hE wn_none rfl rfl ?_)
  clear hE a; intro g4 w5 z6 B_g4 hk a hE
  replace B_g4 : w5.heap[g4]? = some (.cells (b16 d).toArray 25 (0, 0)) := B_g4
  have n_g1_g4 : g1 ≠ g4 := ne_new B_g1 z6
  have z_0_g4 := Nat.le_trans K_0.kept.1 z6
  replace B_g1 := kp_blk B_g1 hk (fun h => h)
  replace K_0 := K_0.then_ hk (fun _ h => h.elim)
  clear hk
  refine p_cons (s_still p30_0_2 hE wn_none rfl (st_assign rfl) ?_)
  clear hE a; intro a hE
  refine p_cons (s_still p30_0_3 hE wn_none rfl (st_assign rfl) ?_)
  clear hE a; intro a hE
  refine p_nil ?_
  refine x_norm ?_
  refine wp_seq ?_
  refine c_reg R30_1_l ?_
  refine p_cons (s_still p30_1_0 hE wn_none rfl (st_loadN (off := 0) (k := 16) (vs := b16 s) tA25 tS25 rfl B_g1 rfl rfl) ?_)
  clear hE a; intro a hE
  refine p_cons (s_still p30_1_1 hE wn_none rfl (st_loadN (off := 0) (k := 16) (vs := b16 d) tA25 tS25 rfl B_g4 rfl rfl) ?_)
  clear hE a; intro a hE
  refine p_cons (s_still p30_1_2 hE wn_none rfl (st_move rfl) ?_)
  clear hE a; intro a hE
  refine p_cons (s_still p30_1_3 hE wn_none rfl (st_move rfl) ?_)
  clear hE a; intro a hE
  refine p_cons (s_call (xs := [Operand.tmp 18, Operand.tmp 19, Operand.tmp 20, Operand.tmp 21]) (args := [Value.agg (b16 s).toArray, Value.agg (b16 d).toArray, Value.int .i64 n, Value.slice A l.length cap]) p30_1_4 hE wn_none rfl rfl Try.func27 cl27 (pse_1 s d n A cap l.length l hs hd hby rfl hlc hlm hN _ (F_l _ K_0)) ?_)
  rintro e w7 ⟨rfl, hk⟩
  replace B_g1 := kp_blk B_g1 hk (fun h => h)
  replace B_g4 := kp_blk B_g4 hk (fun h => h)
  replace K_0 := K_0.then_ hk (fun _ h => h.elim)
  refine ⟨_, rfl, ?_⟩
  clear hE a; intro a hE
  refine p_cons (s_still p30_1_5 hE wn_none rfl (st_move rfl) ?_)
  clear hE a; intro a hE
  refine p_cons (s_still p30_1_6 hE wn_none rfl (st_extract rfl rfl) ?_)
  clear hE a; intro a hE
  refine p_cons (s_still p30_1_7 hE wn_none rfl (st_extract rfl rfl) ?_)
  clear hE a; intro a hE
  refine p_cons (s_still p30_1_8 hE wn_none rfl (st_assign rfl) ?_)
  clear hE a; intro a hE
  refine p_cons (s_still p30_1_9 hE wn_none rfl (st_assign rfl) ?_)
  clear hE a; intro a hE
  refine p_nil ?_
  refine x_norm ?_
  refine c_reg R30_2_l ?_
  refine p_cons (s_still p30_2_0 hE wn_none rfl (st_move rfl) ?_)
  clear hE a; intro a hE
  refine p_cons (s_still p30_2_1 hE wn_none rfl (st_neq (b := true) rfl rfl (by decide)) ?_)
  clear hE a; intro a hE
  refine p_nil ?_
  refine x_norm ?_
  refine c_cond (t := true) hE rfl ?_
  refine c_reg R30_3_l ?_
  refine p_cons (s_still p30_3_0 hE wn_none rfl (st_move rfl) ?_)
  clear hE a; intro a hE
  refine p_cons (s_still p30_3_1 hE wn_none rfl (st_assign rfl) ?_)
  clear hE a; intro a hE
  refine p_cons (s_still p30_3_2 hE wn_none rfl (st_assign rfl) ?_)
  clear hE a; intro a hE
  refine p_nil ?_
  refine x_norm ?_
  refine wp_ret ?_
  refine x_ret ?_
  refine ret_list (rs := [.tmp 10, .tmp 11]) (vs := [Value.slice none 0 0, Value.int .i64 1]) rfl hE (.tmp rfl (.tmp rfl .nil)) rfl ?_
  exact ⟨rfl, K_0⟩

set_option maxHeartbeats 4000000 in
theorem set_2 (s d : Nat → Int) (n : Int) (A : Option Addr) (cap ln : Nat) (l : List Int) (hs : ∀ i, i < 16 → 0 ≤ s i ∧ s i ≤ 255) (hd : ∀ i, i < 16 → 0 ≤ d i ∧ d i ≤ 255) (hby : ∀ y ∈ l, 0 ≤ y ∧ y ≤ 255) (hln : ln = l.length) (hlc : l.length ≤ cap) (hlm : l.length ≤ 9000) (p : Int) (hN : 0 ≤ n ∧ n ≤ 255) (hG : 1280 < l.length) (w : World) (hC : Kd.C (Kd.int .u8) w A l.length l) : Calls Try.prog 30 #[Value.agg (b16 s).toArray, Value.agg (b16 d).toArray, Value.int .i64 n, .slice A ln cap, .int .i64 p] w fun e w' => e = .returned (.tuple #[.slice none 0 0, .int .i64 2]) ∧ Kp w w' (fun _ => False) := by
  have K_0 := Kp.refl w (fun _ => False)
  subst hln
  have F_l : ∀ W', Kp w W' (fun _ => False) → Kd.C (Kd.int .u8) W' A l.length l := fun W' hk => Kd.C_below hC (hk.to (Nat.le_refl _) (fun _ h => h.elim))
  refine enter (args := [Value.agg (b16 s).toArray, Value.agg (b16 d).toArray, Value.int .i64 n, Value.slice A l.length cap, Value.int .i64 p]) (n := 75) Try.func30 body30 rfl rfl rfl ?_
  intro a hE
  refine c_reg R30_0_l ?_
  refine p_cons (s_box p30_0_0 hE wn_none rfl rfl ?_)
  clear hE a; intro g1 w2 z3 B_g1 hk a hE
  replace B_g1 : w2.heap[g1]? = some (.cells (b16 s).toArray 25 (0, 0)) := B_g1
  have z_0_g1 := Nat.le_trans K_0.kept.1 z3
  replace K_0 := K_0.then_ hk (fun _ h => h.elim)
  clear hk
  refine p_cons (s_box p30_0_1 hE wn_none rfl rfl ?_)
  clear hE a; intro g4 w5 z6 B_g4 hk a hE
  replace B_g4 : w5.heap[g4]? = some (.cells (b16 d).toArray 25 (0, 0)) := B_g4
  have n_g1_g4 : g1 ≠ g4 := ne_new B_g1 z6
  have z_0_g4 := Nat.le_trans K_0.kept.1 z6
  replace B_g1 := kp_blk B_g1 hk (fun h => h)
  replace K_0 := K_0.then_ hk (fun _ h => h.elim)
  clear hk
  refine p_cons (s_still p30_0_2 hE wn_none rfl (st_assign rfl) ?_)
  clear hE a; intro a hE
  refine p_cons (s_still p30_0_3 hE wn_none rfl (st_assign rfl) ?_)
  clear hE a; intro a hE
  refine p_nil ?_
  refine x_norm ?_
  refine wp_seq ?_
  refine c_reg R30_1_l ?_
  refine p_cons (s_still p30_1_0 hE wn_none rfl (st_loadN (off := 0) (k := 16) (vs := b16 s) tA25 tS25 rfl B_g1 rfl rfl) ?_)
  clear hE a; intro a hE
  refine p_cons (s_still p30_1_1 hE wn_none rfl (st_loadN (off := 0) (k := 16) (vs := b16 d) tA25 tS25 rfl B_g4 rfl rfl) ?_)
  clear hE a; intro a hE
  refine p_cons (s_still p30_1_2 hE wn_none rfl (st_move rfl) ?_)
  clear hE a; intro a hE
  refine p_cons (s_still p30_1_3 hE wn_none rfl (st_move rfl) ?_)
  clear hE a; intro a hE
  refine p_cons (s_call (xs := [Operand.tmp 18, Operand.tmp 19, Operand.tmp 20, Operand.tmp 21]) (args := [Value.agg (b16 s).toArray, Value.agg (b16 d).toArray, Value.int .i64 n, Value.slice A l.length cap]) p30_1_4 hE wn_none rfl rfl Try.func27 cl27 (pse_2 s d n A cap l.length l hs hd hby rfl hlc hlm hN hG _ (F_l _ K_0)) ?_)
  rintro e w7 ⟨rfl, hk⟩
  replace B_g1 := kp_blk B_g1 hk (fun h => h)
  replace B_g4 := kp_blk B_g4 hk (fun h => h)
  replace K_0 := K_0.then_ hk (fun _ h => h.elim)
  refine ⟨_, rfl, ?_⟩
  clear hE a; intro a hE
  refine p_cons (s_still p30_1_5 hE wn_none rfl (st_move rfl) ?_)
  clear hE a; intro a hE
  refine p_cons (s_still p30_1_6 hE wn_none rfl (st_extract rfl rfl) ?_)
  clear hE a; intro a hE
  refine p_cons (s_still p30_1_7 hE wn_none rfl (st_extract rfl rfl) ?_)
  clear hE a; intro a hE
  refine p_cons (s_still p30_1_8 hE wn_none rfl (st_assign rfl) ?_)
  clear hE a; intro a hE
  refine p_cons (s_still p30_1_9 hE wn_none rfl (st_assign rfl) ?_)
  clear hE a; intro a hE
  refine p_nil ?_
  refine x_norm ?_
  refine c_reg R30_2_l ?_
  refine p_cons (s_still p30_2_0 hE wn_none rfl (st_move rfl) ?_)
  clear hE a; intro a hE
  refine p_cons (s_still p30_2_1 hE wn_none rfl (st_neq (b := true) rfl rfl (by decide)) ?_)
  clear hE a; intro a hE
  refine p_nil ?_
  refine x_norm ?_
  refine c_cond (t := true) hE rfl ?_
  refine c_reg R30_3_l ?_
  refine p_cons (s_still p30_3_0 hE wn_none rfl (st_move rfl) ?_)
  clear hE a; intro a hE
  refine p_cons (s_still p30_3_1 hE wn_none rfl (st_assign rfl) ?_)
  clear hE a; intro a hE
  refine p_cons (s_still p30_3_2 hE wn_none rfl (st_assign rfl) ?_)
  clear hE a; intro a hE
  refine p_nil ?_
  refine x_norm ?_
  refine wp_ret ?_
  refine x_ret ?_
  refine ret_list (rs := [.tmp 10, .tmp 11]) (vs := [Value.slice none 0 0, Value.int .i64 2]) rfl hE (.tmp rfl (.tmp rfl .nil)) rfl ?_
  exact ⟨rfl, K_0⟩
theorem p30_4_0 : pj (regOf Try.f30 4) 0 = some (some 28, Op.move (Operand.tmp 4), 3, none) := by kernel_rfl
theorem p30_4_1 : pj (regOf Try.f30 4) 1 = some (some 29, Op.binOp BinOp.lss 3 (Operand.tmp 28) (Operand.const (Value.int IntKind.i64 0)) 3, 4, none) := by kernel_rfl
theorem p30_4_2 : pj (regOf Try.f30 4) 2 = some (some 30, Op.move (Operand.tmp 29), 4, none) := by kernel_rfl
theorem p30_4_3 : pj (regOf Try.f30 4) 3 = some (some 31, Op.move (Operand.tmp 4), 3, some (2, false)) := by kernel_rfl
theorem g30_4_2 : dstOf (regOf Try.f30 4) 2 = some 30 := by kernel_rfl
theorem p30_4_4 : pj (regOf Try.f30 4) 4 = some (some 32, Op.binOp BinOp.rem 3 (Operand.tmp 31) (Operand.const (Value.int IntKind.i64 2)) 3, 3, some (2, false)) := by kernel_rfl
theorem p30_4_5 : pj (regOf Try.f30 4) 5 = some (some 33, Op.binOp BinOp.neq 3 (Operand.tmp 32) (Operand.const (Value.int IntKind.i64 0)) 3, 4, some (2, false)) := by kernel_rfl
theorem p30_4_6 : pj (regOf Try.f30 4) 6 = some (some 34, Op.pick (Operand.tmp 30) (Operand.const (Value.bool true)) (Operand.tmp 33), 4, none) := by kernel_rfl
theorem p30_4_7 : pj (regOf Try.f30 4) 7 = some (some 35, Op.move (Operand.tmp 34), 4, none) := by kernel_rfl
theorem p30_4_8 : pj (regOf Try.f30 4) 8 = some (some 36, Op.move (Operand.tmp 4), 3, some (7, false)) := by kernel_rfl
theorem g30_4_7 : dstOf (regOf Try.f30 4) 7 = some 35 := by kernel_rfl
theorem p30_4_9 : pj (regOf Try.f30 4) 9 = some (some 37, Op.move (Operand.tmp 3), 36, some (7, false)) := by kernel_rfl
theorem p30_4_10 : pj (regOf Try.f30 4) 10 = some (some 38, Op.call { callee := Callee.builtin Builtin.len, args := #[Operand.tmp 37], argTypes := #[36] }, 3, some (7, false)) := by kernel_rfl
theorem p30_4_11 : pj (regOf Try.f30 4) 11 = some (some 39, Op.binOp BinOp.sub 3 (Operand.tmp 38) (Operand.const (Value.int IntKind.i64 2)) 3, 3, some (7, false)) := by kernel_rfl
theorem p30_4_12 : pj (regOf Try.f30 4) 12 = some (some 40, Op.binOp BinOp.gtr 3 (Operand.tmp 36) (Operand.tmp 39) 3, 4, some (7, false)) := by kernel_rfl
theorem p30_4_13 : pj (regOf Try.f30 4) 13 = some (some 41, Op.pick (Operand.tmp 35) (Operand.const (Value.bool true)) (Operand.tmp 40), 4, none) := by kernel_rfl
theorem p30_5_0 : pj (regOf Try.f30 5) 0 = some (some 10, Op.assign (Operand.const (Value.slice none 0 0)), 36, none) := by kernel_rfl
theorem p30_5_1 : pj (regOf Try.f30 5) 1 = some (some 11, Op.assign (Operand.const (Value.int IntKind.i64 1)), 29, none) := by kernel_rfl
theorem p30_6_0 : pj (regOf Try.f30 6) 0 = some (some 42, Op.move (Operand.tmp 3), 36, none) := by kernel_rfl
theorem p30_6_1 : pj (regOf Try.f30 6) 1 = some (some 43, Op.call { callee := Callee.value (Operand.func 81), args := #[Operand.tmp 42], argTypes := #[36] }, 36, none) := by kernel_rfl
theorem cl81 : callable Try.f81 = true := by kernel_rfl
theorem p30_6_2 : pj (regOf Try.f30 6) 2 = some (some 14, Op.assign (Operand.tmp 43), 36, none) := by kernel_rfl
theorem p30_7_0 : pj (regOf Try.f30 7) 0 = some (some 44, Op.move (Operand.tmp 14), 36, none) := by kernel_rfl
theorem p30_7_1 : pj (regOf Try.f30 7) 1 = some (some 45, Op.move (Operand.tmp 4), 3, none) := by kernel_rfl
theorem p30_7_2 : pj (regOf Try.f30 7) 2 = some (some 46, Op.move (Operand.tmp 14), 36, none) := by kernel_rfl
theorem p30_7_3 : pj (regOf Try.f30 7) 3 = some (some 47, Op.move (Operand.tmp 4), 3, none) := by kernel_rfl
theorem p30_7_4 : pj (regOf Try.f30 7) 4 = some (some 48, Op.binOp BinOp.add 3 (Operand.tmp 47) (Operand.const (Value.int IntKind.i64 1)) 3, 3, none) := by kernel_rfl
theorem p30_7_5 : pj (regOf Try.f30 7) 5 = some (some 49, Op.indexAddr 36 (Operand.tmp 44) (Operand.tmp 45), 0, none) := by kernel_rfl
theorem p30_7_6 : pj (regOf Try.f30 7) 6 = some (none, Op.store 5 (Operand.tmp 49) (Operand.const (Value.int IntKind.u8 0)), 0, none) := by kernel_rfl
theorem p30_7_7 : pj (regOf Try.f30 7) 7 = some (some 50, Op.indexAddr 36 (Operand.tmp 46) (Operand.tmp 48), 0, none) := by kernel_rfl
theorem p30_7_8 : pj (regOf Try.f30 7) 8 = some (none, Op.store 5 (Operand.tmp 50) (Operand.const (Value.int IntKind.u8 0)), 0, none) := by kernel_rfl
theorem p30_8_0 : pj (regOf Try.f30 8) 0 = some (some 52, Op.load 25 (Operand.tmp 5), 25, none) := by kernel_rfl
theorem p30_8_1 : pj (regOf Try.f30 8) 1 = some (some 53, Op.load 25 (Operand.tmp 6), 25, none) := by kernel_rfl
theorem p30_8_2 : pj (regOf Try.f30 8) 2 = some (some 54, Op.move (Operand.tmp 2), 3, none) := by kernel_rfl
theorem p30_8_3 : pj (regOf Try.f30 8) 3 = some (some 55, Op.move (Operand.tmp 14), 36, none) := by kernel_rfl
theorem p30_8_4 : pj (regOf Try.f30 8) 4 = some (some 56, Op.call { callee := Callee.value (Operand.func 27), args := #[Operand.tmp 52, Operand.tmp 53, Operand.tmp 54, Operand.tmp 55], argTypes := #[25, 25, 3, 36] }, 50, none) := by kernel_rfl
theorem p30_8_5 : pj (regOf Try.f30 8) 5 = some (some 51, Op.move (Operand.tmp 56), 50, none) := by kernel_rfl
theorem p30_8_6 : pj (regOf Try.f30 8) 6 = some (some 57, Op.extract (Operand.tmp 51) 0, 3, none) := by kernel_rfl
theorem p30_8_7 : pj (regOf Try.f30 8) 7 = some (some 58, Op.extract (Operand.tmp 51) 1, 29, none) := by kernel_rfl
theorem p30_8_8 : pj (regOf Try.f30 8) 8 = some (some 15, Op.assign (Operand.tmp 57), 3, none) := by kernel_rfl
theorem p30_8_9 : pj (regOf Try.f30 8) 9 = some (some 16, Op.assign (Operand.tmp 58), 29, none) := by kernel_rfl
theorem p30_9_0 : pj (regOf Try.f30 9) 0 = some (some 59, Op.move (Operand.tmp 16), 29, none) := by kernel_rfl
theorem p30_9_1 : pj (regOf Try.f30 9) 1 = some (some 60, Op.binOp BinOp.neq 29 (Operand.tmp 59) (Operand.const (Value.int IntKind.i64 0)) 29, 4, none) := by kernel_rfl
theorem p30_11_0 : pj (regOf Try.f30 11) 0 = some (some 62, Op.move (Operand.tmp 14), 36, none) := by kernel_rfl
theorem p30_11_1 : pj (regOf Try.f30 11) 1 = some (some 63, Op.move (Operand.tmp 4), 3, none) := by kernel_rfl
theorem p30_11_2 : pj (regOf Try.f30 11) 2 = some (some 64, Op.move (Operand.tmp 14), 36, none) := by kernel_rfl
theorem p30_11_3 : pj (regOf Try.f30 11) 3 = some (some 65, Op.move (Operand.tmp 4), 3, none) := by kernel_rfl
theorem p30_11_4 : pj (regOf Try.f30 11) 4 = some (some 66, Op.binOp BinOp.add 3 (Operand.tmp 65) (Operand.const (Value.int IntKind.i64 1)) 3, 3, none) := by kernel_rfl
theorem p30_11_5 : pj (regOf Try.f30 11) 5 = some (some 67, Op.move (Operand.tmp 15), 3, none) := by kernel_rfl
theorem p30_11_6 : pj (regOf Try.f30 11) 6 = some (some 68, Op.binOp BinOp.shr 3 (Operand.tmp 67) (Operand.const (Value.int IntKind.u64 8)) 139, 3, none) := by kernel_rfl
theorem p30_11_7 : pj (regOf Try.f30 11) 7 = some (some 69, Op.convert 3 5 (Operand.tmp 68), 5, none) := by kernel_rfl
theorem p30_11_8 : pj (regOf Try.f30 11) 8 = some (some 70, Op.move (Operand.tmp 15), 3, none) := by kernel_rfl
theorem p30_11_9 : pj (regOf Try.f30 11) 9 = some (some 71, Op.convert 3 5 (Operand.tmp 70), 5, none) := by kernel_rfl
theorem p30_11_10 : pj (regOf Try.f30 11) 10 = some (some 72, Op.indexAddr 36 (Operand.tmp 62) (Operand.tmp 63), 0, none) := by kernel_rfl
theorem p30_11_11 : pj (regOf Try.f30 11) 11 = some (none, Op.store 5 (Operand.tmp 72) (Operand.tmp 69), 0, none) := by kernel_rfl
theorem p30_11_12 : pj (regOf Try.f30 11) 12 = some (some 73, Op.indexAddr 36 (Operand.tmp 64) (Operand.tmp 66), 0, none) := by kernel_rfl
theorem p30_11_13 : pj (regOf Try.f30 11) 13 = some (none, Op.store 5 (Operand.tmp 73) (Operand.tmp 71), 0, none) := by kernel_rfl
theorem p30_12_0 : pj (regOf Try.f30 12) 0 = some (some 74, Op.move (Operand.tmp 14), 36, none) := by kernel_rfl
theorem p30_12_1 : pj (regOf Try.f30 12) 1 = some (some 10, Op.assign (Operand.tmp 74), 36, none) := by kernel_rfl
theorem p30_12_2 : pj (regOf Try.f30 12) 2 = some (some 11, Op.assign (Operand.const (Value.int IntKind.i64 0)), 29, none) := by kernel_rfl
set_option maxHeartbeats 4000000 in
theorem set_R {R : Ending → World → Prop} (s d : Nat → Int) (n : Int) (A : Option Addr) (cap ln : Nat) (l : List Int) (hs : ∀ i, i < 16 → 0 ≤ s i ∧ s i ≤ 255) (hd : ∀ i, i < 16 → 0 ≤ d i ∧ d i ≤ 255) (hby : ∀ y ∈ l, 0 ≤ y ∧ y ≤ 255) (hln : ln = l.length) (hlc : l.length ≤ cap) (hlm : l.length ≤ 9000) (p : Int) (hN : 0 ≤ n ∧ n ≤ 255) (hG : ¬ 1280 < l.length) (w : World) (hC : Kd.C (Kd.int .u8) w A l.length l) (h1 : (p < 0 ∨ ¬ p % 2 = 0 ∨ (l.length : Int) - 2 < p) → ∀ w', Kp w w' (fun _ => False) → R (.returned (.tuple #[.slice none 0 0, .int .i64 1])) w') (h2 : ∀ k : Nat, p = (k : Int) → k % 2 = 0 → k + 2 ≤ l.length → ∀ A' c' w', w'.ownsRow w.heap.size 5 1 (.slice A' l.length c') l.length (encs (Value.int .u8) (seF l k (psF s d n (zeF l k)))) → Kp w w' (fun _ => False) → R (.returned (.tuple #[.slice A' l.length c', .int .i64 0])) w') : Calls Try.prog 30 #[Value.agg (b16 s).toArray, Value.agg (b16 d).toArray, Value.int .i64 n, .slice A ln cap, .int .i64 p] w R := by
  have K_0 := Kp.refl w (fun _ => False)
  subst hln
  have F_l : ∀ W', Kp w W' (fun _ => False) → Kd.C (Kd.int .u8) W' A l.length l := fun W' hk => Kd.C_below hC (hk.to (Nat.le_refl _) (fun _ h => h.elim))
  refine enter (args := [Value.agg (b16 s).toArray, Value.agg (b16 d).toArray, Value.int .i64 n, Value.slice A l.length cap, Value.int .i64 p]) (n := 75) Try.func30 body30 rfl rfl rfl ?_
  intro a hE
  refine c_reg R30_0_l ?_
  refine p_cons (s_box p30_0_0 hE wn_none rfl rfl ?_)
  clear hE a; intro g1 w2 z3 B_g1 hk a hE
  replace B_g1 : w2.heap[g1]? = some (.cells (b16 s).toArray 25 (0, 0)) := B_g1
  have z_0_g1 := Nat.le_trans K_0.kept.1 z3
  replace K_0 := K_0.then_ hk (fun _ h => h.elim)
  clear hk
  refine p_cons (s_box p30_0_1 hE wn_none rfl rfl ?_)
  clear hE a; intro g4 w5 z6 B_g4 hk a hE
  replace B_g4 : w5.heap[g4]? = some (.cells (b16 d).toArray 25 (0, 0)) := B_g4
  have n_g1_g4 : g1 ≠ g4 := ne_new B_g1 z6
  have z_0_g4 := Nat.le_trans K_0.kept.1 z6
  replace B_g1 := kp_blk B_g1 hk (fun h => h)
  replace K_0 := K_0.then_ hk (fun _ h => h.elim)
  clear hk
  refine p_cons (s_still p30_0_2 hE wn_none rfl (st_assign rfl) ?_)
  clear hE a; intro a hE
  refine p_cons (s_still p30_0_3 hE wn_none rfl (st_assign rfl) ?_)
  clear hE a; intro a hE
  refine p_nil ?_
  refine x_norm ?_
  refine wp_seq ?_
  refine c_reg R30_1_l ?_
  refine p_cons (s_still p30_1_0 hE wn_none rfl (st_loadN (off := 0) (k := 16) (vs := b16 s) tA25 tS25 rfl B_g1 rfl rfl) ?_)
  clear hE a; intro a hE
  refine p_cons (s_still p30_1_1 hE wn_none rfl (st_loadN (off := 0) (k := 16) (vs := b16 d) tA25 tS25 rfl B_g4 rfl rfl) ?_)
  clear hE a; intro a hE
  refine p_cons (s_still p30_1_2 hE wn_none rfl (st_move rfl) ?_)
  clear hE a; intro a hE
  refine p_cons (s_still p30_1_3 hE wn_none rfl (st_move rfl) ?_)
  clear hE a; intro a hE
  refine p_cons (s_call (xs := [Operand.tmp 18, Operand.tmp 19, Operand.tmp 20, Operand.tmp 21]) (args := [Value.agg (b16 s).toArray, Value.agg (b16 d).toArray, Value.int .i64 n, Value.slice A l.length cap]) p30_1_4 hE wn_none rfl rfl Try.func27 cl27 (pse_ok s d n A cap l.length l hs hd hby rfl hlc hlm hN hG _ (F_l _ K_0)) ?_)
  rintro e w7 ⟨rfl, hk⟩
  replace B_g1 := kp_blk B_g1 hk (fun h => h)
  replace B_g4 := kp_blk B_g4 hk (fun h => h)
  replace K_0 := K_0.then_ hk (fun _ h => h.elim)
  refine ⟨_, rfl, ?_⟩
  clear hE a; intro a hE
  refine p_cons (s_still p30_1_5 hE wn_none rfl (st_move rfl) ?_)
  clear hE a; intro a hE
  refine p_cons (s_still p30_1_6 hE wn_none rfl (st_extract rfl rfl) ?_)
  clear hE a; intro a hE
  refine p_cons (s_still p30_1_7 hE wn_none rfl (st_extract rfl rfl) ?_)
  clear hE a; intro a hE
  refine p_cons (s_still p30_1_8 hE wn_none rfl (st_assign rfl) ?_)
  clear hE a; intro a hE
  refine p_cons (s_still p30_1_9 hE wn_none rfl (st_assign rfl) ?_)
  clear hE a; intro a hE
  refine p_nil ?_
  refine x_norm ?_
  refine c_reg R30_2_l ?_
  refine p_cons (s_still p30_2_0 hE wn_none rfl (st_move rfl) ?_)
  clear hE a; intro a hE
  refine p_cons (s_still p30_2_1 hE wn_none rfl (st_neq (b := false) rfl rfl (by decide)) ?_)
  clear hE a; intro a hE
  refine p_nil ?_
  refine x_norm ?_
  refine c_cond (t := false) hE rfl ?_
  refine wp_skip ?_
  refine x_norm ?_
  refine wp_seq ?_
  rcases Decidable.em (p < 0) with hlo | hlo
  ·
    refine c_reg R30_4_l ?_
    refine p_cons (s_still p30_4_0 hE wn_none rfl (st_move rfl) ?_)
    clear hE a; intro a hE
    refine p_cons (s_still p30_4_1 hE wn_none rfl (st_lss (b := true) rfl rfl (decide_eq_true (by omega))) ?_)
    clear hE a; intro a hE
    refine p_cons (s_still p30_4_2 hE wn_none rfl (st_move rfl) ?_)
    clear hE a; intro a hE
    refine p_cons (s_skip p30_4_3 hE (wn_some g30_4_2 rfl rfl) rfl ?_)
    clear hE a; intro a hE
    refine p_cons (s_skip p30_4_4 hE (wn_some g30_4_2 rfl rfl) rfl ?_)
    clear hE a; intro a hE
    refine p_cons (s_skip p30_4_5 hE (wn_some g30_4_2 rfl rfl) rfl ?_)
    clear hE a; intro a hE
    refine p_cons (s_still p30_4_6 hE wn_none rfl (st_pick rfl rfl) ?_)
    clear hE a; intro a hE
    refine p_cons (s_still p30_4_7 hE wn_none rfl (st_move rfl) ?_)
    clear hE a; intro a hE
    refine p_cons (s_skip p30_4_8 hE (wn_some g30_4_7 rfl rfl) rfl ?_)
    clear hE a; intro a hE
    refine p_cons (s_skip p30_4_9 hE (wn_some g30_4_7 rfl rfl) rfl ?_)
    clear hE a; intro a hE
    refine p_cons (s_skip p30_4_10 hE (wn_some g30_4_7 rfl rfl) rfl ?_)
    clear hE a; intro a hE
    refine p_cons (s_skip p30_4_11 hE (wn_some g30_4_7 rfl rfl) rfl ?_)
    clear hE a; intro a hE
    refine p_cons (s_skip p30_4_12 hE (wn_some g30_4_7 rfl rfl) rfl ?_)
    clear hE a; intro a hE
    refine p_cons (s_still p30_4_13 hE wn_none rfl (st_pick rfl rfl) ?_)
    clear hE a; intro a hE
    refine p_nil ?_
    refine x_norm ?_
    refine c_cond (t := true) hE rfl ?_
    refine c_reg R30_5_l ?_
    refine p_cons (s_still p30_5_0 hE wn_none rfl (st_assign rfl) ?_)
    clear hE a; intro a hE
    refine p_cons (s_still p30_5_1 hE wn_none rfl (st_assign rfl) ?_)
    clear hE a; intro a hE
    refine p_nil ?_
    refine x_norm ?_
    refine wp_ret ?_
    refine x_ret ?_
    refine ret_list (rs := [.tmp 10, .tmp 11]) (vs := [Value.slice none 0 0, Value.int .i64 1]) rfl hE (.tmp rfl (.tmp rfl .nil)) rfl ?_
    exact h1 (by omega) _ K_0
  ·
    rcases Decidable.em (p % 2 = 0) with hev | hev
    ·
      rcases Decidable.em ((l.length : Int) - 2 < p) with hhi | hhi
      ·
        refine c_reg R30_4_l ?_
        refine p_cons (s_still p30_4_0 hE wn_none rfl (st_move rfl) ?_)
        clear hE a; intro a hE
        refine p_cons (s_still p30_4_1 hE wn_none rfl (st_lss (b := false) rfl rfl (decide_eq_false (by omega))) ?_)
        clear hE a; intro a hE
        refine p_cons (s_still p30_4_2 hE wn_none rfl (st_move rfl) ?_)
        clear hE a; intro a hE
        refine p_cons (s_still p30_4_3 hE (wn_some g30_4_2 rfl rfl) rfl (st_move rfl) ?_)
        clear hE a; intro a hE
        refine p_cons (s_still p30_4_4 hE (wn_some g30_4_2 rfl rfl) rfl (st_rem (z := p % 2) rfl rfl (by decide) (Int.tmod_eq_emod_of_nonneg (by omega))) ?_)
        clear hE a; intro a hE
        refine p_cons (s_still p30_4_5 hE (wn_some g30_4_2 rfl rfl) rfl (st_neq (b := false) rfl rfl (by simp; omega)) ?_)
        clear hE a; intro a hE
        refine p_cons (s_still p30_4_6 hE wn_none rfl (st_pick rfl rfl) ?_)
        clear hE a; intro a hE
        refine p_cons (s_still p30_4_7 hE wn_none rfl (st_move rfl) ?_)
        clear hE a; intro a hE
        refine p_cons (s_still p30_4_8 hE (wn_some g30_4_7 rfl rfl) rfl (st_move rfl) ?_)
        clear hE a; intro a hE
        refine p_cons (s_still p30_4_9 hE (wn_some g30_4_7 rfl rfl) rfl (st_move rfl) ?_)
        clear hE a; intro a hE
        refine p_cons (s_still p30_4_10 hE (wn_some g30_4_7 rfl rfl) rfl (st_len Try.underlying36 rfl) ?_)
        clear hE a; intro a hE
        refine p_cons (s_still p30_4_11 hE (wn_some g30_4_7 rfl rfl) rfl (st_sub (z := (l.length : Int) - 2) rfl rfl (wr_i64 _ (by omega) (by omega))) ?_)
        clear hE a; intro a hE
        refine p_cons (s_still p30_4_12 hE (wn_some g30_4_7 rfl rfl) rfl (st_gtr (b := true) rfl rfl (decide_eq_true (by omega))) ?_)
        clear hE a; intro a hE
        refine p_cons (s_still p30_4_13 hE wn_none rfl (st_pick rfl rfl) ?_)
        clear hE a; intro a hE
        refine p_nil ?_
        refine x_norm ?_
        refine c_cond (t := true) hE rfl ?_
        refine c_reg R30_5_l ?_
        refine p_cons (s_still p30_5_0 hE wn_none rfl (st_assign rfl) ?_)
        clear hE a; intro a hE
        refine p_cons (s_still p30_5_1 hE wn_none rfl (st_assign rfl) ?_)
        clear hE a; intro a hE
        refine p_nil ?_
        refine x_norm ?_
        refine wp_ret ?_
        refine x_ret ?_
        refine ret_list (rs := [.tmp 10, .tmp 11]) (vs := [Value.slice none 0 0, Value.int .i64 1]) rfl hE (.tmp rfl (.tmp rfl .nil)) rfl ?_
        exact h1 (by omega) _ K_0
      ·
        obtain ⟨k, rfl⟩ : ∃ k : Nat, p = (k : Int) := ⟨p.toNat, by omega⟩
        have hzb := ze_bd (k := k) hby
        have hpz := ps_bd (rows_bd (n := n) (l := zeF l k) hs hd hzb)
        refine c_reg R30_4_l ?_
        refine p_cons (s_still p30_4_0 hE wn_none rfl (st_move rfl) ?_)
        clear hE a; intro a hE
        refine p_cons (s_still p30_4_1 hE wn_none rfl (st_lss (b := false) rfl rfl (decide_eq_false (by omega))) ?_)
        clear hE a; intro a hE
        refine p_cons (s_still p30_4_2 hE wn_none rfl (st_move rfl) ?_)
        clear hE a; intro a hE
        refine p_cons (s_still p30_4_3 hE (wn_some g30_4_2 rfl rfl) rfl (st_move rfl) ?_)
        clear hE a; intro a hE
        refine p_cons (s_still p30_4_4 hE (wn_some g30_4_2 rfl rfl) rfl (st_rem (z := (k : Int) % 2) rfl rfl (by decide) (Int.tmod_eq_emod_of_nonneg (by omega))) ?_)
        clear hE a; intro a hE
        refine p_cons (s_still p30_4_5 hE (wn_some g30_4_2 rfl rfl) rfl (st_neq (b := false) rfl rfl (by simp; omega)) ?_)
        clear hE a; intro a hE
        refine p_cons (s_still p30_4_6 hE wn_none rfl (st_pick rfl rfl) ?_)
        clear hE a; intro a hE
        refine p_cons (s_still p30_4_7 hE wn_none rfl (st_move rfl) ?_)
        clear hE a; intro a hE
        refine p_cons (s_still p30_4_8 hE (wn_some g30_4_7 rfl rfl) rfl (st_move rfl) ?_)
        clear hE a; intro a hE
        refine p_cons (s_still p30_4_9 hE (wn_some g30_4_7 rfl rfl) rfl (st_move rfl) ?_)
        clear hE a; intro a hE
        refine p_cons (s_still p30_4_10 hE (wn_some g30_4_7 rfl rfl) rfl (st_len Try.underlying36 rfl) ?_)
        clear hE a; intro a hE
        refine p_cons (s_still p30_4_11 hE (wn_some g30_4_7 rfl rfl) rfl (st_sub (z := (l.length : Int) - 2) rfl rfl (wr_i64 _ (by omega) (by omega))) ?_)
        clear hE a; intro a hE
        refine p_cons (s_still p30_4_12 hE (wn_some g30_4_7 rfl rfl) rfl (st_gtr (b := false) rfl rfl (decide_eq_false (by omega))) ?_)
        clear hE a; intro a hE
        refine p_cons (s_still p30_4_13 hE wn_none rfl (st_pick rfl rfl) ?_)
        clear hE a; intro a hE
        refine p_nil ?_
        refine x_norm ?_
        refine c_cond (t := false) hE rfl ?_
        refine wp_skip ?_
        refine x_norm ?_
        refine c_reg R30_6_l ?_
        refine p_cons (s_still p30_6_0 hE wn_none rfl (st_move rfl) ?_)
        clear hE a; intro a hE
        have hnb_g1 := blk_lt B_g1
        have hnb_g4 := blk_lt B_g4
        have hnz_0 := K_0.kept.1
        refine p_cons (s_call (xs := [Operand.tmp 42]) (args := [Value.slice A l.length cap]) p30_6_1 hE wn_none rfl rfl Try.func81 cl81 (clone_all A cap l _ (F_l _ K_0) (by omega)) ?_)
        rintro e w11 ⟨v, rfl, O_q8, hb⟩
        have hk := Kp.of_below hb (fun _ => False)
        obtain ⟨A9, c10, rfl⟩ := own_sl O_q8
        replace B_g1 := kp_blk B_g1 hk (fun h => h)
        replace B_g4 := kp_blk B_g4 hk (fun h => h)
        replace K_0 := K_0.then_ hk (fun _ h => h.elim)
        have Nb_q8_g1 : ¬ OB A9 g1 := fun h => by have := (own_ob O_q8 h).1; have := hnb_g1; omega
        have Nb_q8_g4 : ¬ OB A9 g4 := fun h => by have := (own_ob O_q8 h).1; have := hnb_g4; omega
        have Z_0_q8 : ∀ k, OB A9 k → (fun _ => False) k ∨ w.heap.size ≤ k := fun k h => .inr (by have := (own_ob O_q8 h).1; have := hnz_0; omega)
        replace O_q8 := own_lower O_q8 hnz_0
        refine ⟨_, rfl, ?_⟩
        clear hE a; intro a hE
        refine p_cons (s_still p30_6_2 hE wn_none rfl (st_assign rfl) ?_)
        clear hE a; intro a hE
        refine p_nil ?_
        refine x_norm ?_
        refine c_reg R30_7_l ?_
        refine p_cons (s_still p30_7_0 hE wn_none rfl (st_move rfl) ?_)
        clear hE a; intro a hE
        refine p_cons (s_still p30_7_1 hE wn_none rfl (st_move rfl) ?_)
        clear hE a; intro a hE
        refine p_cons (s_still p30_7_2 hE wn_none rfl (st_move rfl) ?_)
        clear hE a; intro a hE
        refine p_cons (s_still p30_7_3 hE wn_none rfl (st_move rfl) ?_)
        clear hE a; intro a hE
        refine p_cons (s_still p30_7_4 hE wn_none rfl (st_add (z := (k : Int) + 1) rfl rfl (wr_i64 _ (by omega) (by omega))) ?_)
        clear hE a; intro a hE
        refine p_cons (s_still p30_7_5 hE wn_none rfl (st_indexAddrC (i := k) Try.underlying36 tS5 (own_told O_q8) rfl rfl (by omega)) ?_)
        clear hE a; intro a hE
        refine p_cons (s_storeO (j := k) (v := 0) p30_7_6 hE wn_none tS5 rfl rfl O_q8 (by omega) ?_)
        intro w12 O_q8' hk
        replace B_g1 := kp_blk B_g1 hk Nb_q8_g1
        replace B_g4 := kp_blk B_g4 hk Nb_q8_g4
        replace K_0 := K_0.then_ hk Z_0_q8
        replace O_q8 := O_q8'
        clear hk
        refine p_cons (s_still p30_7_7 hE wn_none rfl (st_indexAddrC (i := (k + 1)) Try.underlying36 tS5 (own_told O_q8) rfl rfl (by omega)) ?_)
        clear hE a; intro a hE
        refine p_cons (s_storeO (j := (k + 1)) (v := 0) p30_7_8 hE wn_none tS5 rfl rfl O_q8 (by omega) ?_)
        intro w13 O_q8' hk
        replace B_g1 := kp_blk B_g1 hk Nb_q8_g1
        replace B_g4 := kp_blk B_g4 hk Nb_q8_g4
        replace K_0 := K_0.then_ hk Z_0_q8
        replace O_q8 := O_q8'
        clear hk
        refine p_nil ?_
        refine x_norm ?_
        refine c_reg R30_8_l ?_
        refine p_cons (s_still p30_8_0 hE wn_none rfl (st_loadN (off := 0) (k := 16) (vs := b16 s) tA25 tS25 rfl B_g1 rfl rfl) ?_)
        clear hE a; intro a hE
        refine p_cons (s_still p30_8_1 hE wn_none rfl (st_loadN (off := 0) (k := 16) (vs := b16 d) tA25 tS25 rfl B_g4 rfl rfl) ?_)
        clear hE a; intro a hE
        refine p_cons (s_still p30_8_2 hE wn_none rfl (st_move rfl) ?_)
        clear hE a; intro a hE
        refine p_cons (s_still p30_8_3 hE wn_none rfl (st_move rfl) ?_)
        clear hE a; intro a hE
        refine p_cons (s_call (xs := [Operand.tmp 52, Operand.tmp 53, Operand.tmp 54, Operand.tmp 55]) (args := [Value.agg (b16 s).toArray, Value.agg (b16 d).toArray, Value.int .i64 n, Value.slice A9 l.length c10]) p30_8_4 hE wn_none rfl rfl Try.func27 cl27 (pse_ok s d n A9 c10 l.length (zeF l k) hs hd hzb (ze_len l k).symm (by rw [ze_len]; exact (own_caps O_q8).1) (by rw [ze_len]; exact hlm) hN (by rw [ze_len]; exact hG) _ (by rw [ze_len]; exact (own_told O_q8))) ?_)
        rintro e w14 ⟨rfl, hk⟩
        replace B_g1 := kp_blk B_g1 hk (fun h => h)
        replace B_g4 := kp_blk B_g4 hk (fun h => h)
        replace O_q8 := own_keep O_q8 hk (fun _ _ h => h)
        replace K_0 := K_0.then_ hk (fun _ h => h.elim)
        refine ⟨_, rfl, ?_⟩
        clear hE a; intro a hE
        refine p_cons (s_still p30_8_5 hE wn_none rfl (st_move rfl) ?_)
        clear hE a; intro a hE
        refine p_cons (s_still p30_8_6 hE wn_none rfl (st_extract rfl rfl) ?_)
        clear hE a; intro a hE
        refine p_cons (s_still p30_8_7 hE wn_none rfl (st_extract rfl rfl) ?_)
        clear hE a; intro a hE
        refine p_cons (s_still p30_8_8 hE wn_none rfl (st_assign rfl) ?_)
        clear hE a; intro a hE
        refine p_cons (s_still p30_8_9 hE wn_none rfl (st_assign rfl) ?_)
        clear hE a; intro a hE
        refine p_nil ?_
        refine x_norm ?_
        refine wp_seq ?_
        refine c_reg R30_9_l ?_
        refine p_cons (s_still p30_9_0 hE wn_none rfl (st_move rfl) ?_)
        clear hE a; intro a hE
        refine p_cons (s_still p30_9_1 hE wn_none rfl (st_neq (b := false) rfl rfl (by decide)) ?_)
        clear hE a; intro a hE
        refine p_nil ?_
        refine x_norm ?_
        refine c_cond (t := false) hE rfl ?_
        refine wp_skip ?_
        refine x_norm ?_
        refine c_reg R30_11_l ?_
        refine p_cons (s_still p30_11_0 hE wn_none rfl (st_move rfl) ?_)
        clear hE a; intro a hE
        refine p_cons (s_still p30_11_1 hE wn_none rfl (st_move rfl) ?_)
        clear hE a; intro a hE
        refine p_cons (s_still p30_11_2 hE wn_none rfl (st_move rfl) ?_)
        clear hE a; intro a hE
        refine p_cons (s_still p30_11_3 hE wn_none rfl (st_move rfl) ?_)
        clear hE a; intro a hE
        refine p_cons (s_still p30_11_4 hE wn_none rfl (st_add (z := (k : Int) + 1) rfl rfl (wr_i64 _ (by omega) (by omega))) ?_)
        clear hE a; intro a hE
        refine p_cons (s_still p30_11_5 hE wn_none rfl (st_move rfl) ?_)
        clear hE a; intro a hE
        refine p_cons (s_still p30_11_6 hE wn_none rfl (st_shr (z := (psF s d n (zeF l k)) / 256) rfl rfl (by decide) (by decide) rfl) ?_)
        clear hE a; intro a hE
        refine p_cons (s_still p30_11_7 hE wn_none rfl (st_conv (z := ((psF s d n (zeF l k)) / 256)) (by kernel_rfl) Try.underlying5 rfl (wr_u8 _ (by omega) (by omega))) ?_)
        clear hE a; intro a hE
        refine p_cons (s_still p30_11_8 hE wn_none rfl (st_move rfl) ?_)
        clear hE a; intro a hE
        refine p_cons (s_still p30_11_9 hE wn_none rfl (st_conv (z := ((psF s d n (zeF l k)) % 256)) (by kernel_rfl) Try.underlying5 rfl (by rw [IntKind.wrap_u8])) ?_)
        clear hE a; intro a hE
        refine p_cons (s_still p30_11_10 hE wn_none rfl (st_indexAddrC (i := k) Try.underlying36 tS5 (own_told O_q8) rfl rfl (by omega)) ?_)
        clear hE a; intro a hE
        refine p_cons (s_storeO (j := k) (v := ((psF s d n (zeF l k)) / 256)) p30_11_11 hE wn_none tS5 rfl rfl O_q8 (by omega) ?_)
        intro w15 O_q8' hk
        replace B_g1 := kp_blk B_g1 hk Nb_q8_g1
        replace B_g4 := kp_blk B_g4 hk Nb_q8_g4
        replace K_0 := K_0.then_ hk Z_0_q8
        replace O_q8 := O_q8'
        clear hk
        refine p_cons (s_still p30_11_12 hE wn_none rfl (st_indexAddrC (i := (k + 1)) Try.underlying36 tS5 (own_told O_q8) rfl rfl (by omega)) ?_)
        clear hE a; intro a hE
        refine p_cons (s_storeO (j := (k + 1)) (v := ((psF s d n (zeF l k)) % 256)) p30_11_13 hE wn_none tS5 rfl rfl O_q8 (by omega) ?_)
        intro w16 O_q8' hk
        replace B_g1 := kp_blk B_g1 hk Nb_q8_g1
        replace B_g4 := kp_blk B_g4 hk Nb_q8_g4
        replace K_0 := K_0.then_ hk Z_0_q8
        replace O_q8 := O_q8'
        clear hk
        refine p_nil ?_
        refine x_norm ?_
        refine c_reg R30_12_l ?_
        refine p_cons (s_still p30_12_0 hE wn_none rfl (st_move rfl) ?_)
        clear hE a; intro a hE
        refine p_cons (s_still p30_12_1 hE wn_none rfl (st_assign rfl) ?_)
        clear hE a; intro a hE
        refine p_cons (s_still p30_12_2 hE wn_none rfl (st_assign rfl) ?_)
        clear hE a; intro a hE
        refine p_nil ?_
        refine x_norm ?_
        refine wp_ret ?_
        refine ret_list (rs := [.tmp 10, .tmp 11]) (vs := [Value.slice A9 l.length c10, Value.int .i64 0]) rfl hE (.tmp rfl (.tmp rfl .nil)) rfl ?_
        exact h2 k rfl (by omega) (by omega) _ _ _ O_q8 K_0
    ·
      refine c_reg R30_4_l ?_
      refine p_cons (s_still p30_4_0 hE wn_none rfl (st_move rfl) ?_)
      clear hE a; intro a hE
      refine p_cons (s_still p30_4_1 hE wn_none rfl (st_lss (b := false) rfl rfl (decide_eq_false (by omega))) ?_)
      clear hE a; intro a hE
      refine p_cons (s_still p30_4_2 hE wn_none rfl (st_move rfl) ?_)
      clear hE a; intro a hE
      refine p_cons (s_still p30_4_3 hE (wn_some g30_4_2 rfl rfl) rfl (st_move rfl) ?_)
      clear hE a; intro a hE
      refine p_cons (s_still p30_4_4 hE (wn_some g30_4_2 rfl rfl) rfl (st_rem (z := p % 2) rfl rfl (by decide) (Int.tmod_eq_emod_of_nonneg (by omega))) ?_)
      clear hE a; intro a hE
      refine p_cons (s_still p30_4_5 hE (wn_some g30_4_2 rfl rfl) rfl (st_neq (b := true) rfl rfl (by simp; omega)) ?_)
      clear hE a; intro a hE
      refine p_cons (s_still p30_4_6 hE wn_none rfl (st_pick rfl rfl) ?_)
      clear hE a; intro a hE
      refine p_cons (s_still p30_4_7 hE wn_none rfl (st_move rfl) ?_)
      clear hE a; intro a hE
      refine p_cons (s_skip p30_4_8 hE (wn_some g30_4_7 rfl rfl) rfl ?_)
      clear hE a; intro a hE
      refine p_cons (s_skip p30_4_9 hE (wn_some g30_4_7 rfl rfl) rfl ?_)
      clear hE a; intro a hE
      refine p_cons (s_skip p30_4_10 hE (wn_some g30_4_7 rfl rfl) rfl ?_)
      clear hE a; intro a hE
      refine p_cons (s_skip p30_4_11 hE (wn_some g30_4_7 rfl rfl) rfl ?_)
      clear hE a; intro a hE
      refine p_cons (s_skip p30_4_12 hE (wn_some g30_4_7 rfl rfl) rfl ?_)
      clear hE a; intro a hE
      refine p_cons (s_still p30_4_13 hE wn_none rfl (st_pick rfl rfl) ?_)
      clear hE a; intro a hE
      refine p_nil ?_
      refine x_norm ?_
      refine c_cond (t := true) hE rfl ?_
      refine c_reg R30_5_l ?_
      refine p_cons (s_still p30_5_0 hE wn_none rfl (st_assign rfl) ?_)
      clear hE a; intro a hE
      refine p_cons (s_still p30_5_1 hE wn_none rfl (st_assign rfl) ?_)
      clear hE a; intro a hE
      refine p_nil ?_
      refine x_norm ?_
      refine wp_ret ?_
      refine x_ret ?_
      refine ret_list (rs := [.tmp 10, .tmp 11]) (vs := [Value.slice none 0 0, Value.int .i64 1]) rfl hE (.tmp rfl (.tmp rfl .nil)) rfl ?_
      exact h1 (by omega) _ K_0
end Go.Proofs.Ytndiddfleidnaaa.Sh
