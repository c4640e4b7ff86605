/- The document's Decode of a header, case by case. -/
import Derived.Test.YtndiddfleidnaaaHdr
set_option maxRecDepth 100000
set_option linter.unusedVariables false
set_option linter.unusedSimpArgs false
namespace Go.Proofs.Ytndiddfleidnaaa.Rdec
open Go.RowKit Go.Proofs.YtndiddfleidnaaaW.PrintWords Go.Proofs.Ytndiddfleidnaaa.Ds Go.Proofs.Ytndiddfleidnaaa.Cc Go.Proofs.Ytndiddfleidnaaa.Hd
open Go.Proofs.Ytndiddfleidnaaa.Pk (Kp fitsF spanF putF digF joinF)
/-- The first k of 16 bytes from o on. -/
def Sf (o : Nat) (l : List Int) (k i : Nat) : Int := if i < k then rd l ((o : Int) + (i : Int)) else 0
theorem Sf_new (o : Nat) (l : List Int) (k : Nat) : Sf o l (k + 1) k = rd l ((o : Int) + (k : Int)) := by unfold Sf; rw [if_pos (by omega)]
theorem Sf_old (o : Nat) (l : List Int) (k i : Nat) (h : i ≠ k) : Sf o l (k + 1) i = Sf o l k i := by
  unfold Sf
  by_cases h2 : i < k
  · rw [if_pos h2, if_pos (by omega)]
  · rw [if_neg h2, if_neg (by omega)]
theorem upto16 {k : Nat} (h : k < 16) : k = 0 ∨ k = 1 ∨ k = 2 ∨ k = 3 ∨ k = 4 ∨ k = 5 ∨ k = 6 ∨ k = 7 ∨ k = 8 ∨ k = 9 ∨ k = 10 ∨ k = 11 ∨ k = 12 ∨ k = 13 ∨ k = 14 ∨ k = 15 := by omega
theorem set_a {c f m x h : Value} {F G D : Nat → Int} {k : Nat} (hk : k < 16) (hG : ∀ i, i ≠ k → G i = F i) {v : Int} (hv : G k = v) : (([c, f, m, x, h] ++ b16 F ++ b16 D).toArray.toList.take (5 + k)) ++ [Value.int .u8 v] ++ (([c, f, m, x, h] ++ b16 F ++ b16 D).toArray.toList.drop (5 + k + 1)) = ([c, f, m, x, h] ++ b16 G ++ b16 D).toArray.toList := by
  subst hv
  rcases upto16 hk with rfl | rfl | rfl | rfl | rfl | rfl | rfl | rfl | rfl | rfl | rfl | rfl | rfl | rfl | rfl | rfl <;> simp [b16, hG]
theorem set_b {c f m x h : Value} {F G D : Nat → Int} {k : Nat} (hk : k < 16) (hG : ∀ i, i ≠ k → G i = F i) {v : Int} (hv : G k = v) : (([c, f, m, x, h] ++ b16 D ++ b16 F).toArray.toList.take (21 + k)) ++ [Value.int .u8 v] ++ (([c, f, m, x, h] ++ b16 D ++ b16 F).toArray.toList.drop (21 + k + 1)) = ([c, f, m, x, h] ++ b16 D ++ b16 G).toArray.toList := by
  subst hv
  rcases upto16 hk with rfl | rfl | rfl | rfl | rfl | rfl | rfl | rfl | rfl | rfl | rfl | rfl | rfl | rfl | rfl | rfl <;> simp [b16, hG]
theorem sf_list (l : List Int) (o : Nat) (h : o + 16 ≤ l.length) : (l.drop o).take 16 = l16 (Sf o l 16) := by
  show _ = (List.range 16).map (fun i => Sf o l 16 i)
  apply List.ext_getElem
  · simp; omega
  · intro i h1 h2
    have hi : i < 16 := by simpa using h2
    have e : Sf o l 16 i = l.getD (o + i) 0 := by unfold Sf rd; rw [if_pos hi]; congr 1
    rw [List.getElem_map, List.getElem_range, e, List.getElem_take, List.getElem_drop, List.getD_eq_getElem?_getD, List.getElem?_eq_getElem (by omega)]
    rfl
theorem cut_row {ad : Addr} {l : List Int} {c m s : Nat} {A' : Option Addr} {w : World} (h : Kd.C (Kd.int .u8) w (some ad) l.length l) (hc : l.length ≤ c) (hm : l.length = s + m) (hA : (if c = s then some ad else (some ad).map (·.add (s * 1))) = A') : Kd.C (Kd.int .u8) w A' m (l.drop s) := by
  have e : (l.drop s).take m = l.drop s := List.take_of_length_le (by simp; omega)
  by_cases h0 : c = s
  · rw [if_pos h0] at hA; subst hA
    have := Go.Proofs.Ytndiddfleidnaaa.Pk.sub_row (A' := ad) rfl h (p := s) (k := m) (s := l.length) (by omega) (Nat.le_refl _) (fun hk => by omega)
    rwa [e] at this
  · rw [if_neg h0] at hA; subst hA
    have := Go.Proofs.Ytndiddfleidnaaa.Pk.sub_row (A' := ad.add (s * 1)) rfl h (p := s) (k := m) (s := l.length) (by omega) (Nat.le_refl _) (fun _ => by rw [Nat.mul_one])
    rwa [e] at this
theorem rd_bd {l : List Int} (h : ∀ x ∈ l, 0 ≤ x ∧ x ≤ 255) (i : Int) : 0 ≤ rd l i ∧ rd l i ≤ 255 := by
  unfold rd
  by_cases hi : i.toNat < l.length
  · rw [List.getD_eq_getElem?_getD, List.getElem?_eq_getElem hi]; exact h _ (List.getElem_mem hi)
  · rw [List.getD_eq_getElem?_getD, List.getElem?_eq_none (by omega)]; simp
theorem R26_0_l : List.range (regOf Try.f26 0).size = [0, 1, 2] := by kernel_rfl
theorem R26_1_l : List.range (regOf Try.f26 1).size = [0, 1, 2] := by kernel_rfl
theorem R26_2_l : List.range (regOf Try.f26 2).size = [0, 1, 2, 3] := by kernel_rfl
theorem R26_3_l : List.range (regOf Try.f26 3).size = [0, 1, 2, 3, 4] := by kernel_rfl
theorem R26_4_l : List.range (regOf Try.f26 4).size = [0, 1, 2, 3] := by kernel_rfl
theorem R26_5_l : List.range (regOf Try.f26 5).size = [0, 1, 2] := by kernel_rfl
theorem R26_6_l : List.range (regOf Try.f26 6).size = [0, 1, 2, 3] := by kernel_rfl
theorem R26_7_l : List.range (regOf Try.f26 7).size = [0] := by kernel_rfl
theorem R26_8_l : List.range (regOf Try.f26 8).size = [0, 1, 2, 3, 4, 5, 6, 7, 8, 9, 10, 11, 12, 13] := by kernel_rfl
theorem R26_9_l : List.range (regOf Try.f26 9).size = [0, 1, 2, 3, 4, 5, 6, 7, 8, 9, 10, 11, 12, 13, 14, 15, 16, 17, 18] := by kernel_rfl
theorem R26_10_l : List.range (regOf Try.f26 10).size = [0, 1, 2, 3, 4, 5, 6, 7, 8, 9, 10, 11] := by kernel_rfl
theorem R26_11_l : List.range (regOf Try.f26 11).size = [0, 1, 2, 3, 4, 5, 6, 7, 8, 9, 10, 11] := by kernel_rfl
theorem R26_12_l : List.range (regOf Try.f26 12).size = [0] := by kernel_rfl
theorem R26_13_l : List.range (regOf Try.f26 13).size = [0, 1] := by kernel_rfl
theorem R26_15_l : List.range (regOf Try.f26 15).size = [0, 1, 2, 3, 4, 5, 6, 7, 8, 9, 10, 11, 12, 13, 14, 15, 16, 17] := by kernel_rfl
theorem R26_14_l : List.range (regOf Try.f26 14).size = [0, 1, 2] := by kernel_rfl
theorem R26_16_l : List.range (regOf Try.f26 16).size = [0, 1, 2, 3, 4, 5] := by kernel_rfl
theorem R26_17_l : List.range (regOf Try.f26 17).size = [0, 1, 2, 3] := by kernel_rfl
theorem R26_18_l : List.range (regOf Try.f26 18).size = [0, 1, 2, 3, 4, 5] := by kernel_rfl
theorem R26_19_l : List.range (regOf Try.f26 19).size = [0, 1, 2, 3] := by kernel_rfl
theorem R26_20_l : List.range (regOf Try.f26 20).size = [0, 1, 2, 3, 4, 5] := by kernel_rfl
theorem body26 : Try.f26.body = some (.seq (.region 0 (regOf Try.f26 0) false) (.seq (.seq (.region 1 (regOf Try.f26 1) false) (.cond (Operand.tmp 9) (.seq (.region 2 (regOf Try.f26 2) false) (.ret)) (.skip))) (.seq (.seq (.region 3 (regOf Try.f26 3) false) (.cond (Operand.tmp 15) (.seq (.region 4 (regOf Try.f26 4) false) (.ret)) (.skip))) (.seq (.seq (.region 5 (regOf Try.f26 5) false) (.cond (Operand.tmp 19) (.seq (.region 6 (regOf Try.f26 6) false) (.ret)) (.skip))) (.seq (.region 7 (regOf Try.f26 7) false) (.seq (.region 8 (regOf Try.f26 8) true) (.seq (.region 9 (regOf Try.f26 9) true) (.seq (.region 10 (regOf Try.f26 10) true) (.seq (.region 11 (regOf Try.f26 11) true) (.seq (.seq (.region 12 (regOf Try.f26 12) false) (.block 0 (.loop (.seq (.seq (.region 13 (regOf Try.f26 13) false) (.cond (Operand.tmp 74) (.skip) (.exit 0))) (.seq (.block 1 (.region 15 (regOf Try.f26 15) true)) (.region 14 (regOf Try.f26 14) false)))))) (.seq (.seq (.region 16 (regOf Try.f26 16) false) (.cond (Operand.tmp 98) (.seq (.region 17 (regOf Try.f26 17) false) (.ret)) (.skip))) (.seq (.seq (.region 18 (regOf Try.f26 18) false) (.cond (Operand.tmp 105) (.seq (.region 19 (regOf Try.f26 19) false) (.ret)) (.skip))) (.seq (.region 20 (regOf Try.f26 20) true) (.ret)))))))))))))) := by kernel_rfl
theorem p26_0_0 : pj (regOf Try.f26 0) 0 = some (some 2, Op.alloc 24, 0, none) := by kernel_rfl
theorem tZ24 : (Try.prog.info? 24).bind (·.zero) = some (Value.agg (([Value.int .i64 0, Value.int .i64 0, Value.int .i64 0, Value.int .i64 0, Value.int .i64 0] ++ b16 (fun _ => 0) ++ b16 (fun _ => 0))).toArray) := by kernel_rfl
theorem p26_0_1 : pj (regOf Try.f26 0) 1 = some (some 3, Op.assign (Operand.const (Value.slice none 0 0)), 36, none) := by kernel_rfl
theorem p26_0_2 : pj (regOf Try.f26 0) 2 = some (some 4, Op.assign (Operand.const (Value.int IntKind.i64 0)), 3, none) := by kernel_rfl
theorem p26_1_0 : pj (regOf Try.f26 1) 0 = some (some 7, Op.move (Operand.tmp 0), 36, none) := by kernel_rfl
theorem p26_1_1 : pj (regOf Try.f26 1) 1 = some (some 8, Op.call { callee := Callee.builtin Builtin.len, args := #[Operand.tmp 7], argTypes := #[36] }, 3, none) := by kernel_rfl
theorem p26_1_2 : pj (regOf Try.f26 1) 2 = some (some 9, Op.binOp BinOp.lss 3 (Operand.tmp 8) (Operand.const (Value.int IntKind.i64 40)) 3, 4, none) := by kernel_rfl
theorem p26_2_0 : pj (regOf Try.f26 2) 0 = some (some 10, Op.build 24 #[], 24, none) := by kernel_rfl
theorem p26_2_1 : pj (regOf Try.f26 2) 1 = some (none, Op.store 24 (Operand.tmp 2) (Operand.tmp 10), 0, none) := by kernel_rfl
theorem tS24 : (Try.prog.info? 24).map (·.size) = some 37 := by kernel_rfl
theorem p26_2_2 : pj (regOf Try.f26 2) 2 = some (some 3, Op.assign (Operand.const (Value.slice none 0 0)), 36, none) := by kernel_rfl
theorem p26_2_3 : pj (regOf Try.f26 2) 3 = some (some 4, Op.assign (Operand.const (Value.int IntKind.i64 4)), 3, none) := by kernel_rfl
theorem tA24 : (Try.prog.underlying 24).map aggD = some true := by kernel_rfl
set_option maxHeartbeats 4000000 in
theorem rdec_short (A : Option Addr) (c : Nat) (l : List Int) (hby : ∀ x ∈ l, 0 ≤ x ∧ x ≤ 255) (hlc : l.length ≤ c) (hcm : c ≤ 9223372036854775807) (hlm : l.length ≤ 140737488355328) (hhi : l.length < 40) (w : World) : Calls Try.prog 26 #[Value.slice A l.length c] w fun e w' => e = .returned (.tuple #[Value.agg (([Value.int .i64 0, Value.int .i64 0, Value.int .i64 0, Value.int .i64 0, Value.int .i64 0] ++ b16 (fun _ => 0) ++ b16 (fun _ => 0))).toArray, .slice none 0 0, .int .i64 4]) ∧ Kp w w' (fun _ => False) := by
  have K_0 := Kp.refl w (fun _ => False)
  refine enter (args := [Value.slice A l.length c]) (n := 110) Try.func26 body26 rfl rfl rfl ?_
  intro a hE
  refine c_reg R26_0_l ?_
  refine p_cons (s_alloc p26_0_0 hE wn_none rfl tZ24 ?_)
  clear hE a; intro g1 w2 z3 B_g1 hk a hE
  replace B_g1 : w2.heap[g1]? = some (.cells (([Value.int .i64 0, Value.int .i64 0, Value.int .i64 0, Value.int .i64 0, Value.int .i64 0] ++ b16 (fun _ => 0) ++ b16 (fun _ => 0))).toArray 24 (0, 0)) := B_g1
  have z_0_g1 := Nat.le_trans K_0.kept.1 z3
  replace K_0 := K_0.then_ hk (fun _ h => h.elim)
  clear hk
  refine p_cons (s_still p26_0_1 hE wn_none rfl (st_assign rfl) ?_)
  clear hE a; intro a hE
  refine p_cons (s_still p26_0_2 hE wn_none rfl (st_assign rfl) ?_)
  clear hE a; intro a hE
  refine p_nil ?_
  refine x_norm ?_
  refine wp_seq ?_
  refine c_reg R26_1_l ?_
  refine p_cons (s_still p26_1_0 hE wn_none rfl (st_move rfl) ?_)
  clear hE a; intro a hE
  refine p_cons (s_still p26_1_1 hE wn_none rfl (st_len Try.underlying36 rfl) ?_)
  clear hE a; intro a hE
  refine p_cons (s_still p26_1_2 hE wn_none rfl (st_lss (b := true) rfl rfl (decide_eq_true (by omega))) ?_)
  clear hE a; intro a hE
  refine p_nil ?_
  refine x_norm ?_
  refine c_cond (t := true) hE rfl ?_
  refine c_reg R26_2_l ?_
  refine p_cons (s_still p26_2_0 hE wn_none rfl (st_build (xs := []) (vs := []) (cs := (([Value.int .i64 0, Value.int .i64 0, Value.int .i64 0, Value.int .i64 0, Value.int .i64 0] ++ b16 (fun _ => 0) ++ b16 (fun _ => 0))).toArray) rfl (by kernel_rfl)) ?_)
  clear hE a; intro a hE
  refine p_cons (s_store (off := 0) (k := 37) (cs' := (([Value.int .i64 0, Value.int .i64 0, Value.int .i64 0, Value.int .i64 0, Value.int .i64 0] ++ b16 (fun _ => 0) ++ b16 (fun _ => 0))).toArray) p26_2_1 hE wn_none tS24 rfl rfl rfl rfl B_g1 (Nat.le_of_ble_eq_true rfl) rfl ?_)
  intro w4 B_g1' hk
  replace K_0 := K_0.then_ hk (fun k h => by rw [show k = g1 from h]; exact Or.inr z_0_g1)
  replace B_g1 := B_g1'
  clear hk
  refine p_cons (s_still p26_2_2 hE wn_none rfl (st_assign rfl) ?_)
  clear hE a; intro a hE
  refine p_cons (s_still p26_2_3 hE wn_none rfl (st_assign rfl) ?_)
  clear hE a; intro a hE
  refine p_nil ?_
  refine x_norm ?_
  refine wp_ret ?_
  refine x_ret ?_
  refine ret_list (rs := [.cell 2 24, .tmp 3, .tmp 4]) (vs := [Value.agg (([Value.int .i64 0, Value.int .i64 0, Value.int .i64 0, Value.int .i64 0, Value.int .i64 0] ++ b16 (fun _ => 0) ++ b16 (fun _ => 0))).toArray, Value.slice none 0 0, Value.int .i64 4]) rfl hE (.cellN (us := ([Value.int .i64 0, Value.int .i64 0, Value.int .i64 0, Value.int .i64 0, Value.int .i64 0] ++ b16 (fun _ => 0) ++ b16 (fun _ => 0))) tA24 tS24 rfl B_g1 rfl (.tmp rfl (.tmp rfl .nil))) rfl ?_
  exact ⟨rfl, K_0⟩
theorem p26_3_0 : pj (regOf Try.f26 3) 0 = some (some 11, Op.move (Operand.tmp 0), 36, none) := by kernel_rfl
theorem p26_3_1 : pj (regOf Try.f26 3) 1 = some (some 12, Op.indexAddr 36 (Operand.tmp 11) (Operand.const (Value.int IntKind.i64 0)), 0, none) := by kernel_rfl
theorem tS5 : (Try.prog.info? 5).map (·.size) = some 1 := by kernel_rfl
theorem p26_3_2 : pj (regOf Try.f26 3) 2 = some (some 13, Op.load 5 (Operand.tmp 12), 5, none) := by kernel_rfl
theorem tA5 : (Try.prog.underlying 5).map aggD = some false := by kernel_rfl
theorem p26_3_3 : pj (regOf Try.f26 3) 3 = some (some 14, Op.binOp BinOp.quo 5 (Operand.tmp 13) (Operand.const (Value.int IntKind.u8 16)) 5, 5, none) := by kernel_rfl
theorem p26_3_4 : pj (regOf Try.f26 3) 4 = some (some 15, Op.binOp BinOp.neq 5 (Operand.tmp 14) (Operand.const (Value.int IntKind.u8 6)) 5, 4, none) := by kernel_rfl
theorem p26_5_0 : pj (regOf Try.f26 5) 0 = some (some 17, Op.move (Operand.tmp 0), 36, none) := by kernel_rfl
theorem p26_5_1 : pj (regOf Try.f26 5) 1 = some (some 18, Op.call { callee := Callee.builtin Builtin.len, args := #[Operand.tmp 17], argTypes := #[36] }, 3, none) := by kernel_rfl
theorem p26_5_2 : pj (regOf Try.f26 5) 2 = some (some 19, Op.binOp BinOp.gtr 3 (Operand.tmp 18) (Operand.const (Value.int IntKind.i64 1280)) 3, 4, none) := by kernel_rfl
theorem p26_6_0 : pj (regOf Try.f26 6) 0 = some (some 20, Op.build 24 #[], 24, none) := by kernel_rfl
theorem p26_6_1 : pj (regOf Try.f26 6) 1 = some (none, Op.store 24 (Operand.tmp 2) (Operand.tmp 20), 0, none) := by kernel_rfl
theorem p26_6_2 : pj (regOf Try.f26 6) 2 = some (some 3, Op.assign (Operand.const (Value.slice none 0 0)), 36, none) := by kernel_rfl
theorem p26_6_3 : pj (regOf Try.f26 6) 3 = some (some 4, Op.assign (Operand.const (Value.int IntKind.i64 2)), 3, none) := by kernel_rfl
theorem p26_7_0 : pj (regOf Try.f26 7) 0 = some (some 5, Op.alloc 24, 0, none) := by kernel_rfl
theorem ns26_8 : Region.noSelect (regOf Try.f26 8) = true := by kernel_rfl
theorem p26_8_0 : pj (regOf Try.f26 8) 0 = some (some 21, Op.move (Operand.tmp 0), 36, none) := by kernel_rfl
theorem p26_8_1 : pj (regOf Try.f26 8) 1 = some (some 22, Op.indexAddr 36 (Operand.tmp 21) (Operand.const (Value.int IntKind.i64 0)), 0, none) := by kernel_rfl
theorem p26_8_2 : pj (regOf Try.f26 8) 2 = some (some 23, Op.load 5 (Operand.tmp 22), 5, none) := by kernel_rfl
theorem p26_8_3 : pj (regOf Try.f26 8) 3 = some (some 24, Op.binOp BinOp.rem 5 (Operand.tmp 23) (Operand.const (Value.int IntKind.u8 16)) 5, 5, none) := by kernel_rfl
theorem p26_8_4 : pj (regOf Try.f26 8) 4 = some (some 25, Op.convert 5 3 (Operand.tmp 24), 3, none) := by kernel_rfl
theorem p26_8_5 : pj (regOf Try.f26 8) 5 = some (some 26, Op.binOp BinOp.mul 3 (Operand.tmp 25) (Operand.const (Value.int IntKind.i64 16)) 3, 3, none) := by kernel_rfl
theorem p26_8_6 : pj (regOf Try.f26 8) 6 = some (some 27, Op.move (Operand.tmp 0), 36, none) := by kernel_rfl
theorem p26_8_7 : pj (regOf Try.f26 8) 7 = some (some 28, Op.indexAddr 36 (Operand.tmp 27) (Operand.const (Value.int IntKind.i64 1)), 0, none) := by kernel_rfl
theorem p26_8_8 : pj (regOf Try.f26 8) 8 = some (some 29, Op.load 5 (Operand.tmp 28), 5, none) := by kernel_rfl
theorem p26_8_9 : pj (regOf Try.f26 8) 9 = some (some 30, Op.binOp BinOp.quo 5 (Operand.tmp 29) (Operand.const (Value.int IntKind.u8 16)) 5, 5, none) := by kernel_rfl
theorem p26_8_10 : pj (regOf Try.f26 8) 10 = some (some 31, Op.convert 5 3 (Operand.tmp 30), 3, none) := by kernel_rfl
theorem p26_8_11 : pj (regOf Try.f26 8) 11 = some (some 32, Op.binOp BinOp.add 3 (Operand.tmp 26) (Operand.tmp 31) 3, 3, none) := by kernel_rfl
theorem p26_8_12 : pj (regOf Try.f26 8) 12 = some (some 33, Op.fieldAddr 24 (Operand.tmp 5) 0, 0, none) := by kernel_rfl
theorem tS3 : (Try.prog.info? 3).map (·.size) = some 1 := by kernel_rfl
theorem p26_8_13 : pj (regOf Try.f26 8) 13 = some (none, Op.store 3 (Operand.tmp 33) (Operand.tmp 32), 0, none) := by kernel_rfl
theorem ns26_9 : Region.noSelect (regOf Try.f26 9) = true := by kernel_rfl
theorem p26_9_0 : pj (regOf Try.f26 9) 0 = some (some 34, Op.move (Operand.tmp 0), 36, none) := by kernel_rfl
theorem p26_9_1 : pj (regOf Try.f26 9) 1 = some (some 35, Op.indexAddr 36 (Operand.tmp 34) (Operand.const (Value.int IntKind.i64 1)), 0, none) := by kernel_rfl
theorem p26_9_2 : pj (regOf Try.f26 9) 2 = some (some 36, Op.load 5 (Operand.tmp 35), 5, none) := by kernel_rfl
theorem p26_9_3 : pj (regOf Try.f26 9) 3 = some (some 37, Op.binOp BinOp.rem 5 (Operand.tmp 36) (Operand.const (Value.int IntKind.u8 16)) 5, 5, none) := by kernel_rfl
theorem p26_9_4 : pj (regOf Try.f26 9) 4 = some (some 38, Op.convert 5 3 (Operand.tmp 37), 3, none) := by kernel_rfl
theorem p26_9_5 : pj (regOf Try.f26 9) 5 = some (some 39, Op.binOp BinOp.mul 3 (Operand.tmp 38) (Operand.const (Value.int IntKind.i64 65536)) 3, 3, none) := by kernel_rfl
theorem p26_9_6 : pj (regOf Try.f26 9) 6 = some (some 40, Op.move (Operand.tmp 0), 36, none) := by kernel_rfl
theorem p26_9_7 : pj (regOf Try.f26 9) 7 = some (some 41, Op.indexAddr 36 (Operand.tmp 40) (Operand.const (Value.int IntKind.i64 2)), 0, none) := by kernel_rfl
theorem p26_9_8 : pj (regOf Try.f26 9) 8 = some (some 42, Op.load 5 (Operand.tmp 41), 5, none) := by kernel_rfl
theorem p26_9_9 : pj (regOf Try.f26 9) 9 = some (some 43, Op.convert 5 3 (Operand.tmp 42), 3, none) := by kernel_rfl
theorem p26_9_10 : pj (regOf Try.f26 9) 10 = some (some 44, Op.binOp BinOp.mul 3 (Operand.tmp 43) (Operand.const (Value.int IntKind.i64 256)) 3, 3, none) := by kernel_rfl
theorem p26_9_11 : pj (regOf Try.f26 9) 11 = some (some 45, Op.binOp BinOp.add 3 (Operand.tmp 39) (Operand.tmp 44) 3, 3, none) := by kernel_rfl
theorem p26_9_12 : pj (regOf Try.f26 9) 12 = some (some 46, Op.move (Operand.tmp 0), 36, none) := by kernel_rfl
theorem p26_9_13 : pj (regOf Try.f26 9) 13 = some (some 47, Op.indexAddr 36 (Operand.tmp 46) (Operand.const (Value.int IntKind.i64 3)), 0, none) := by kernel_rfl
theorem p26_9_14 : pj (regOf Try.f26 9) 14 = some (some 48, Op.load 5 (Operand.tmp 47), 5, none) := by kernel_rfl
theorem p26_9_15 : pj (regOf Try.f26 9) 15 = some (some 49, Op.convert 5 3 (Operand.tmp 48), 3, none) := by kernel_rfl
theorem p26_9_16 : pj (regOf Try.f26 9) 16 = some (some 50, Op.binOp BinOp.add 3 (Operand.tmp 45) (Operand.tmp 49) 3, 3, none) := by kernel_rfl
theorem p26_9_17 : pj (regOf Try.f26 9) 17 = some (some 51, Op.fieldAddr 24 (Operand.tmp 5) 1, 0, none) := by kernel_rfl
theorem p26_9_18 : pj (regOf Try.f26 9) 18 = some (none, Op.store 3 (Operand.tmp 51) (Operand.tmp 50), 0, none) := by kernel_rfl
theorem ns26_10 : Region.noSelect (regOf Try.f26 10) = true := by kernel_rfl
theorem p26_10_0 : pj (regOf Try.f26 10) 0 = some (some 52, Op.move (Operand.tmp 0), 36, none) := by kernel_rfl
theorem p26_10_1 : pj (regOf Try.f26 10) 1 = some (some 53, Op.indexAddr 36 (Operand.tmp 52) (Operand.const (Value.int IntKind.i64 4)), 0, none) := by kernel_rfl
theorem p26_10_2 : pj (regOf Try.f26 10) 2 = some (some 54, Op.load 5 (Operand.tmp 53), 5, none) := by kernel_rfl
theorem p26_10_3 : pj (regOf Try.f26 10) 3 = some (some 55, Op.convert 5 3 (Operand.tmp 54), 3, none) := by kernel_rfl
theorem p26_10_4 : pj (regOf Try.f26 10) 4 = some (some 56, Op.binOp BinOp.mul 3 (Operand.tmp 55) (Operand.const (Value.int IntKind.i64 256)) 3, 3, none) := by kernel_rfl
theorem p26_10_5 : pj (regOf Try.f26 10) 5 = some (some 57, Op.move (Operand.tmp 0), 36, none) := by kernel_rfl
theorem p26_10_6 : pj (regOf Try.f26 10) 6 = some (some 58, Op.indexAddr 36 (Operand.tmp 57) (Operand.const (Value.int IntKind.i64 5)), 0, none) := by kernel_rfl
theorem p26_10_7 : pj (regOf Try.f26 10) 7 = some (some 59, Op.load 5 (Operand.tmp 58), 5, none) := by kernel_rfl
theorem p26_10_8 : pj (regOf Try.f26 10) 8 = some (some 60, Op.convert 5 3 (Operand.tmp 59), 3, none) := by kernel_rfl
theorem p26_10_9 : pj (regOf Try.f26 10) 9 = some (some 61, Op.binOp BinOp.add 3 (Operand.tmp 56) (Operand.tmp 60) 3, 3, none) := by kernel_rfl
theorem p26_10_10 : pj (regOf Try.f26 10) 10 = some (some 62, Op.fieldAddr 24 (Operand.tmp 5) 2, 0, none) := by kernel_rfl
theorem p26_10_11 : pj (regOf Try.f26 10) 11 = some (none, Op.store 3 (Operand.tmp 62) (Operand.tmp 61), 0, none) := by kernel_rfl
theorem ns26_11 : Region.noSelect (regOf Try.f26 11) = true := by kernel_rfl
theorem p26_11_0 : pj (regOf Try.f26 11) 0 = some (some 63, Op.move (Operand.tmp 0), 36, none) := by kernel_rfl
theorem p26_11_1 : pj (regOf Try.f26 11) 1 = some (some 64, Op.indexAddr 36 (Operand.tmp 63) (Operand.const (Value.int IntKind.i64 6)), 0, none) := by kernel_rfl
theorem p26_11_2 : pj (regOf Try.f26 11) 2 = some (some 65, Op.load 5 (Operand.tmp 64), 5, none) := by kernel_rfl
theorem p26_11_3 : pj (regOf Try.f26 11) 3 = some (some 66, Op.convert 5 3 (Operand.tmp 65), 3, none) := by kernel_rfl
theorem p26_11_4 : pj (regOf Try.f26 11) 4 = some (some 67, Op.move (Operand.tmp 0), 36, none) := by kernel_rfl
theorem p26_11_5 : pj (regOf Try.f26 11) 5 = some (some 68, Op.indexAddr 36 (Operand.tmp 67) (Operand.const (Value.int IntKind.i64 7)), 0, none) := by kernel_rfl
theorem p26_11_6 : pj (regOf Try.f26 11) 6 = some (some 69, Op.load 5 (Operand.tmp 68), 5, none) := by kernel_rfl
theorem p26_11_7 : pj (regOf Try.f26 11) 7 = some (some 70, Op.convert 5 3 (Operand.tmp 69), 3, none) := by kernel_rfl
theorem p26_11_8 : pj (regOf Try.f26 11) 8 = some (some 71, Op.fieldAddr 24 (Operand.tmp 5) 3, 0, none) := by kernel_rfl
theorem p26_11_9 : pj (regOf Try.f26 11) 9 = some (none, Op.store 3 (Operand.tmp 71) (Operand.tmp 66), 0, none) := by kernel_rfl
theorem p26_11_10 : pj (regOf Try.f26 11) 10 = some (some 72, Op.fieldAddr 24 (Operand.tmp 5) 4, 0, none) := by kernel_rfl
theorem p26_11_11 : pj (regOf Try.f26 11) 11 = some (none, Op.store 3 (Operand.tmp 72) (Operand.tmp 70), 0, none) := by kernel_rfl
theorem p26_12_0 : pj (regOf Try.f26 12) 0 = some (some 6, Op.assign (Operand.const (Value.int IntKind.i64 0)), 3, none) := by kernel_rfl
theorem p26_13_0 : pj (regOf Try.f26 13) 0 = some (some 73, Op.move (Operand.tmp 6), 3, none) := by kernel_rfl
theorem p26_13_1 : pj (regOf Try.f26 13) 1 = some (some 74, Op.binOp BinOp.lss 3 (Operand.tmp 73) (Operand.const (Value.int IntKind.i64 16)) 3, 4, none) := by kernel_rfl
theorem ns26_15 : Region.noSelect (regOf Try.f26 15) = true := by kernel_rfl
theorem p26_15_0 : pj (regOf Try.f26 15) 0 = some (some 77, Op.move (Operand.tmp 6), 3, none) := by kernel_rfl
theorem p26_15_1 : pj (regOf Try.f26 15) 1 = some (some 78, Op.move (Operand.tmp 6), 3, none) := by kernel_rfl
theorem p26_15_2 : pj (regOf Try.f26 15) 2 = some (some 79, Op.move (Operand.tmp 0), 36, none) := by kernel_rfl
theorem p26_15_3 : pj (regOf Try.f26 15) 3 = some (some 80, Op.move (Operand.tmp 6), 3, none) := by kernel_rfl
theorem p26_15_4 : pj (regOf Try.f26 15) 4 = some (some 81, Op.binOp BinOp.add 3 (Operand.const (Value.int IntKind.i64 8)) (Operand.tmp 80) 3, 3, none) := by kernel_rfl
theorem p26_15_5 : pj (regOf Try.f26 15) 5 = some (some 82, Op.indexAddr 36 (Operand.tmp 79) (Operand.tmp 81), 0, none) := by kernel_rfl
theorem p26_15_6 : pj (regOf Try.f26 15) 6 = some (some 83, Op.load 5 (Operand.tmp 82), 5, none) := by kernel_rfl
theorem p26_15_7 : pj (regOf Try.f26 15) 7 = some (some 84, Op.move (Operand.tmp 0), 36, none) := by kernel_rfl
theorem p26_15_8 : pj (regOf Try.f26 15) 8 = some (some 85, Op.move (Operand.tmp 6), 3, none) := by kernel_rfl
theorem p26_15_9 : pj (regOf Try.f26 15) 9 = some (some 86, Op.binOp BinOp.add 3 (Operand.const (Value.int IntKind.i64 24)) (Operand.tmp 85) 3, 3, none) := by kernel_rfl
theorem p26_15_10 : pj (regOf Try.f26 15) 10 = some (some 87, Op.indexAddr 36 (Operand.tmp 84) (Operand.tmp 86), 0, none) := by kernel_rfl
theorem p26_15_11 : pj (regOf Try.f26 15) 11 = some (some 88, Op.load 5 (Operand.tmp 87), 5, none) := by kernel_rfl
theorem p26_15_12 : pj (regOf Try.f26 15) 12 = some (some 89, Op.fieldAddr 24 (Operand.tmp 5) 5, 0, none) := by kernel_rfl
theorem tS22 : (Try.prog.info? 22).map (·.size) = some 16 := by kernel_rfl
theorem p26_15_13 : pj (regOf Try.f26 15) 13 = some (some 90, Op.indexAddr 22 (Operand.tmp 89) (Operand.tmp 77), 0, none) := by kernel_rfl
theorem p26_15_15 : pj (regOf Try.f26 15) 15 = some (some 91, Op.fieldAddr 24 (Operand.tmp 5) 6, 0, none) := by kernel_rfl
theorem p26_15_14 : pj (regOf Try.f26 15) 14 = some (none, Op.store 5 (Operand.tmp 90) (Operand.tmp 83), 0, none) := by kernel_rfl
theorem p26_15_16 : pj (regOf Try.f26 15) 16 = some (some 92, Op.indexAddr 22 (Operand.tmp 91) (Operand.tmp 78), 0, none) := by kernel_rfl
theorem p26_15_17 : pj (regOf Try.f26 15) 17 = some (none, Op.store 5 (Operand.tmp 92) (Operand.tmp 88), 0, none) := by kernel_rfl
theorem p26_14_0 : pj (regOf Try.f26 14) 0 = some (some 75, Op.move (Operand.tmp 6), 3, none) := by kernel_rfl
theorem p26_14_1 : pj (regOf Try.f26 14) 1 = some (some 76, Op.binOp BinOp.add 3 (Operand.tmp 75) (Operand.const (Value.int IntKind.i64 1)) 3, 3, none) := by kernel_rfl
theorem p26_14_2 : pj (regOf Try.f26 14) 2 = some (some 6, Op.assign (Operand.tmp 76), 3, none) := by kernel_rfl
theorem p26_16_0 : pj (regOf Try.f26 16) 0 = some (some 93, Op.move (Operand.tmp 0), 36, none) := by kernel_rfl
theorem p26_16_1 : pj (regOf Try.f26 16) 1 = some (some 94, Op.call { callee := Callee.builtin Builtin.len, args := #[Operand.tmp 93], argTypes := #[36] }, 3, none) := by kernel_rfl
theorem p26_16_2 : pj (regOf Try.f26 16) 2 = some (some 95, Op.binOp BinOp.sub 3 (Operand.tmp 94) (Operand.const (Value.int IntKind.i64 40)) 3, 3, none) := by kernel_rfl
theorem p26_16_3 : pj (regOf Try.f26 16) 3 = some (some 96, Op.fieldAddr 24 (Operand.tmp 5) 2, 0, none) := by kernel_rfl
theorem p26_16_4 : pj (regOf Try.f26 16) 4 = some (some 97, Op.load 3 (Operand.tmp 96), 3, none) := by kernel_rfl
theorem tA3 : (Try.prog.underlying 3).map aggD = some false := by kernel_rfl
theorem p26_16_5 : pj (regOf Try.f26 16) 5 = some (some 98, Op.binOp BinOp.lss 3 (Operand.tmp 95) (Operand.tmp 97) 3, 4, none) := by kernel_rfl
theorem p26_17_0 : pj (regOf Try.f26 17) 0 = some (some 99, Op.build 24 #[], 24, none) := by kernel_rfl
theorem p26_17_1 : pj (regOf Try.f26 17) 1 = some (none, Op.store 24 (Operand.tmp 2) (Operand.tmp 99), 0, none) := by kernel_rfl
theorem p26_17_2 : pj (regOf Try.f26 17) 2 = some (some 3, Op.assign (Operand.const (Value.slice none 0 0)), 36, none) := by kernel_rfl
theorem p26_17_3 : pj (regOf Try.f26 17) 3 = some (some 4, Op.assign (Operand.const (Value.int IntKind.i64 4)), 3, none) := by kernel_rfl
theorem p26_18_0 : pj (regOf Try.f26 18) 0 = some (some 100, Op.move (Operand.tmp 0), 36, none) := by kernel_rfl
theorem p26_18_1 : pj (regOf Try.f26 18) 1 = some (some 101, Op.call { callee := Callee.builtin Builtin.len, args := #[Operand.tmp 100], argTypes := #[36] }, 3, none) := by kernel_rfl
theorem p26_18_2 : pj (regOf Try.f26 18) 2 = some (some 102, Op.binOp BinOp.sub 3 (Operand.tmp 101) (Operand.const (Value.int IntKind.i64 40)) 3, 3, none) := by kernel_rfl
theorem p26_18_3 : pj (regOf Try.f26 18) 3 = some (some 103, Op.fieldAddr 24 (Operand.tmp 5) 2, 0, none) := by kernel_rfl
theorem p26_18_4 : pj (regOf Try.f26 18) 4 = some (some 104, Op.load 3 (Operand.tmp 103), 3, none) := by kernel_rfl
theorem p26_18_5 : pj (regOf Try.f26 18) 5 = some (some 105, Op.binOp BinOp.gtr 3 (Operand.tmp 102) (Operand.tmp 104) 3, 4, none) := by kernel_rfl
theorem p26_19_0 : pj (regOf Try.f26 19) 0 = some (some 106, Op.build 24 #[], 24, none) := by kernel_rfl
theorem p26_19_1 : pj (regOf Try.f26 19) 1 = some (none, Op.store 24 (Operand.tmp 2) (Operand.tmp 106), 0, none) := by kernel_rfl
theorem p26_19_2 : pj (regOf Try.f26 19) 2 = some (some 3, Op.assign (Operand.const (Value.slice none 0 0)), 36, none) := by kernel_rfl
theorem p26_19_3 : pj (regOf Try.f26 19) 3 = some (some 4, Op.assign (Operand.const (Value.int IntKind.i64 3)), 3, none) := by kernel_rfl
theorem ns26_20 : Region.noSelect (regOf Try.f26 20) = true := by kernel_rfl
theorem p26_20_0 : pj (regOf Try.f26 20) 0 = some (some 107, Op.load 24 (Operand.tmp 5), 24, none) := by kernel_rfl
theorem p26_20_1 : pj (regOf Try.f26 20) 1 = some (some 108, Op.move (Operand.tmp 0), 36, none) := by kernel_rfl
theorem p26_20_2 : pj (regOf Try.f26 20) 2 = some (some 109, Op.slice 36 (Operand.tmp 108) (some (Operand.const (Value.int IntKind.i64 40))) none none, 36, none) := by kernel_rfl
theorem p26_20_3 : pj (regOf Try.f26 20) 3 = some (none, Op.store 24 (Operand.tmp 2) (Operand.tmp 107), 0, none) := by kernel_rfl
theorem p26_20_4 : pj (regOf Try.f26 20) 4 = some (some 3, Op.assign (Operand.tmp 109), 36, none) := by kernel_rfl
theorem p26_20_5 : pj (regOf Try.f26 20) 5 = some (some 4, Op.assign (Operand.const (Value.int IntKind.i64 0)), 3, none) := by kernel_rfl
theorem p26_4_0 : pj (regOf Try.f26 4) 0 = some (some 16, Op.build 24 #[], 24, none) := by kernel_rfl
theorem p26_4_1 : pj (regOf Try.f26 4) 1 = some (none, Op.store 24 (Operand.tmp 2) (Operand.tmp 16), 0, none) := by kernel_rfl
theorem p26_4_2 : pj (regOf Try.f26 4) 2 = some (some 3, Op.assign (Operand.const (Value.slice none 0 0)), 36, none) := by kernel_rfl
theorem p26_4_3 : pj (regOf Try.f26 4) 3 = some (some 4, Op.assign (Operand.const (Value.int IntKind.i64 3)), 3, none) := by kernel_rfl
set_option maxHeartbeats 4000000 in
theorem rdec_rest {R : Ending → World → Prop} (ad : Addr) (c : Nat) (l : List Int) (hby : ∀ x ∈ l, 0 ≤ x ∧ x ≤ 255) (hlc : l.length ≤ c) (hcm : c ≤ 9223372036854775807) (hlm : l.length ≤ 140737488355328) (hlo : 40 ≤ l.length) (w : World) (hC : Kd.C (Kd.int .u8) w (some ad) l.length l) (hver : ¬ rd l (0 : Int) / 16 = 6 → ∀ w', Kp w w' (fun _ => False) → R (.returned (.tuple #[Value.agg (([Value.int .i64 0, Value.int .i64 0, Value.int .i64 0, Value.int .i64 0, Value.int .i64 0] ++ b16 (fun _ => 0) ++ b16 (fun _ => 0))).toArray, .slice none 0 0, .int .i64 3])) w') (hlong : rd l (0 : Int) / 16 = 6 → 1280 < l.length → ∀ w', Kp w w' (fun _ => False) → R (.returned (.tuple #[Value.agg (([Value.int .i64 0, Value.int .i64 0, Value.int .i64 0, Value.int .i64 0, Value.int .i64 0] ++ b16 (fun _ => 0) ++ b16 (fun _ => 0))).toArray, .slice none 0 0, .int .i64 2])) w') (hfew : rd l (0 : Int) / 16 = 6 → ¬ 1280 < l.length → (l.length : Int) - 40 < ((rd l (4 : Int)) * 256 + (rd l (5 : Int))) → ∀ w', Kp w w' (fun _ => False) → R (.returned (.tuple #[Value.agg (([Value.int .i64 0, Value.int .i64 0, Value.int .i64 0, Value.int .i64 0, Value.int .i64 0] ++ b16 (fun _ => 0) ++ b16 (fun _ => 0))).toArray, .slice none 0 0, .int .i64 4])) w') (hmany : rd l (0 : Int) / 16 = 6 → ¬ 1280 < l.length → ((rd l (4 : Int)) * 256 + (rd l (5 : Int))) < (l.length : Int) - 40 → ∀ w', Kp w w' (fun _ => False) → R (.returned (.tuple #[Value.agg (([Value.int .i64 0, Value.int .i64 0, Value.int .i64 0, Value.int .i64 0, Value.int .i64 0] ++ b16 (fun _ => 0) ++ b16 (fun _ => 0))).toArray, .slice none 0 0, .int .i64 3])) w') (hok : rd l (0 : Int) / 16 = 6 → ¬ 1280 < l.length → (l.length : Int) - 40 = ((rd l (4 : Int)) * 256 + (rd l (5 : Int))) → ∀ A' c' w', l.length - 40 ≤ c' → c' ≤ c → Kd.C (Kd.int .u8) w' A' (l.length - 40) (l.drop 40) → Kp w w' (fun _ => False) → R (.returned (.tuple #[Value.agg (([Value.int .i64 ((rd l (0 : Int)) % 16 * 16 + (rd l (1 : Int)) / 16), Value.int .i64 ((rd l (1 : Int)) % 16 * 65536 + (rd l (2 : Int)) * 256 + (rd l (3 : Int))), Value.int .i64 ((rd l (4 : Int)) * 256 + (rd l (5 : Int))), Value.int .i64 (rd l (6 : Int)), Value.int .i64 (rd l (7 : Int))] ++ b16 (Sf 8 l 16) ++ b16 (Sf 24 l 16))).toArray, .slice A' (l.length - 40) c', .int .i64 0])) w') : Calls Try.prog 26 #[Value.slice (some ad) l.length c] w R := by
  have K_0 := Kp.refl w (fun _ => False)
  have F_l : ∀ W', Kp w W' (fun _ => False) → Kd.C (Kd.int .u8) W' (some ad) l.length l := fun W' hk => Kd.C_below hC (hk.to (Nat.le_refl _) (fun _ h => h.elim))
  have hb0 := rd_bd hby 0
  have hb1 := rd_bd hby 1
  have hb2 := rd_bd hby 2
  have hb3 := rd_bd hby 3
  have hb4 := rd_bd hby 4
  have hb5 := rd_bd hby 5
  have hb6 := rd_bd hby 6
  have hb7 := rd_bd hby 7
  obtain ⟨A9, hA9⟩ : ∃ A9, (if c = 40 then some ad else (some ad).map (·.add (40 * 1))) = A9 := ⟨_, rfl⟩
  refine enter (args := [Value.slice (some ad) l.length c]) (n := 110) Try.func26 body26 rfl rfl rfl ?_
  intro a hE
  refine c_reg R26_0_l ?_
  refine p_cons (s_alloc p26_0_0 hE wn_none rfl tZ24 ?_)
  clear hE a; intro g1 w2 z3 B_g1 hk a hE
  replace B_g1 : w2.heap[g1]? = some (.cells (([Value.int .i64 0, Value.int .i64 0, Value.int .i64 0, Value.int .i64 0, Value.int .i64 0] ++ b16 (fun _ => 0) ++ b16 (fun _ => 0))).toArray 24 (0, 0)) := B_g1
  have z_0_g1 := Nat.le_trans K_0.kept.1 z3
  replace K_0 := K_0.then_ hk (fun _ h => h.elim)
  clear hk
  refine p_cons (s_still p26_0_1 hE wn_none rfl (st_assign rfl) ?_)
  clear hE a; intro a hE
  refine p_cons (s_still p26_0_2 hE wn_none rfl (st_assign rfl) ?_)
  clear hE a; intro a hE
  refine p_nil ?_
  refine x_norm ?_
  refine wp_seq ?_
  refine c_reg R26_1_l ?_
  refine p_cons (s_still p26_1_0 hE wn_none rfl (st_move rfl) ?_)
  clear hE a; intro a hE
  refine p_cons (s_still p26_1_1 hE wn_none rfl (st_len Try.underlying36 rfl) ?_)
  clear hE a; intro a hE
  refine p_cons (s_still p26_1_2 hE wn_none rfl (st_lss (b := false) rfl rfl (decide_eq_false (by omega))) ?_)
  clear hE a; intro a hE
  refine p_nil ?_
  refine x_norm ?_
  refine c_cond (t := false) hE rfl ?_
  refine wp_skip ?_
  refine x_norm ?_
  refine wp_seq ?_
  refine c_reg R26_3_l ?_
  refine p_cons (s_still p26_3_0 hE wn_none rfl (st_move rfl) ?_)
  clear hE a; intro a hE
  refine p_cons (s_still p26_3_1 hE wn_none rfl (st_indexAddrC (i := 0) Try.underlying36 tS5 (F_l _ K_0) rfl rfl (by omega)) ?_)
  clear hE a; intro a hE
  refine p_cons (s_still (v := Value.int .u8 (rd l (0 : Int))) p26_3_2 hE wn_none rfl (st_loadC (i := 0) tA5 (F_l _ K_0) (by omega) rfl) ?_)
  clear hE a; intro a hE
  refine p_cons (s_still p26_3_3 hE wn_none rfl (st_quo (z := (rd l (0 : Int)) / 16) rfl rfl (by decide) (by rw [Int.tdiv_eq_ediv_of_nonneg (by omega)]; exact wr_u8 _ (by omega) (by omega))) ?_)
  clear hE a; intro a hE
  rcases Decidable.em (((rd l (0 : Int)) / 16) = 6) with hc4 | hc4
  ·
    refine p_cons (s_still (v := Value.bool false) p26_3_4 hE wn_none rfl (st_neq rfl rfl (by simp [hc4])) ?_)
    clear hE a; intro a hE
    refine p_nil ?_
    refine x_norm ?_
    refine c_cond (t := false) hE rfl ?_
    refine wp_skip ?_
    refine x_norm ?_
    refine wp_seq ?_
    refine c_reg R26_5_l ?_
    refine p_cons (s_still p26_5_0 hE wn_none rfl (st_move rfl) ?_)
    clear hE a; intro a hE
    refine p_cons (s_still p26_5_1 hE wn_none rfl (st_len Try.underlying36 rfl) ?_)
    clear hE a; intro a hE
    rcases Decidable.em (1280 < (l.length : Int)) with hc5 | hc5
    ·
      refine p_cons (s_still (v := Value.bool true) p26_5_2 hE wn_none rfl (st_gtr rfl rfl (decide_eq_true hc5)) ?_)
      clear hE a; intro a hE
      refine p_nil ?_
      refine x_norm ?_
      refine c_cond (t := true) hE rfl ?_
      refine c_reg R26_6_l ?_
      refine p_cons (s_still p26_6_0 hE wn_none rfl (st_build (xs := []) (vs := []) (cs := (([Value.int .i64 0, Value.int .i64 0, Value.int .i64 0, Value.int .i64 0, Value.int .i64 0] ++ b16 (fun _ => 0) ++ b16 (fun _ => 0))).toArray) rfl (by kernel_rfl)) ?_)
      clear hE a; intro a hE
      refine p_cons (s_store (off := 0) (k := 37) (cs' := (([Value.int .i64 0, Value.int .i64 0, Value.int .i64 0, Value.int .i64 0, Value.int .i64 0] ++ b16 (fun _ => 0) ++ b16 (fun _ => 0))).toArray) p26_6_1 hE wn_none tS24 rfl rfl rfl rfl B_g1 (Nat.le_of_ble_eq_true rfl) rfl ?_)
      intro w6 B_g1' hk
      replace K_0 := K_0.then_ hk (fun k h => by rw [show k = g1 from h]; exact Or.inr z_0_g1)
      replace B_g1 := B_g1'
      clear hk
      refine p_cons (s_still p26_6_2 hE wn_none rfl (st_assign rfl) ?_)
      clear hE a; intro a hE
      refine p_cons (s_still p26_6_3 hE wn_none rfl (st_assign rfl) ?_)
      clear hE a; intro a hE
      refine p_nil ?_
      refine x_norm ?_
      refine wp_ret ?_
      refine x_ret ?_
      refine ret_list (rs := [.cell 2 24, .tmp 3, .tmp 4]) (vs := [Value.agg (([Value.int .i64 0, Value.int .i64 0, Value.int .i64 0, Value.int .i64 0, Value.int .i64 0] ++ b16 (fun _ => 0) ++ b16 (fun _ => 0))).toArray, Value.slice none 0 0, Value.int .i64 2]) rfl hE (.cellN (us := ([Value.int .i64 0, Value.int .i64 0, Value.int .i64 0, Value.int .i64 0, Value.int .i64 0] ++ b16 (fun _ => 0) ++ b16 (fun _ => 0))) tA24 tS24 rfl B_g1 rfl (.tmp rfl (.tmp rfl .nil))) rfl ?_
      exact hlong (by omega) (by omega) _ K_0
    ·
      refine p_cons (s_still (v := Value.bool false) p26_5_2 hE wn_none rfl (st_gtr rfl rfl (decide_eq_false hc5)) ?_)
      clear hE a; intro a hE
      refine p_nil ?_
      refine x_norm ?_
      refine c_cond (t := false) hE rfl ?_
      refine wp_skip ?_
      refine x_norm ?_
      refine c_reg R26_7_l ?_
      refine p_cons (s_alloc p26_7_0 hE wn_none rfl tZ24 ?_)
      clear hE a; intro g7 w8 z9 B_g7 hk a hE
      replace B_g7 : w8.heap[g7]? = some (.cells (([Value.int .i64 0, Value.int .i64 0, Value.int .i64 0, Value.int .i64 0, Value.int .i64 0] ++ b16 (fun _ => 0) ++ b16 (fun _ => 0))).toArray 24 (0, 0)) := B_g7
      have n_g1_g7 : g1 ≠ g7 := ne_new B_g1 z9
      have z_0_g7 := Nat.le_trans K_0.kept.1 z9
      replace B_g1 := kp_blk B_g1 hk (fun h => h)
      replace K_0 := K_0.then_ hk (fun _ h => h.elim)
      clear hk
      refine p_nil ?_
      refine x_norm ?_
      refine c_drawS (S := fun W => Kd.C (Kd.int .u8) W (some ad) l.length l ∧ True) rfl rfl (listed := #[false, false, false, false, false, false, false, false, false, false, false, false, false, false]) rfl ?_
      intro w10 hh hk
      replace B_g1 := kp_blk B_g1 hk (fun h => h)
      replace B_g7 := kp_blk B_g7 hk (fun h => h)
      replace K_0 := K_0.then_ hk (fun _ h => h.elim)
      clear hh hk
      refine d_take (v := Value.slice (some ad) l.length c) p26_8_0 ns26_8 (by kernel_rfl) (by kernel_rfl) (fun _ _ _ h => h) hE wn_none rfl ⟨(F_l _ K_0), trivial⟩ (fun W hS => (st_move rfl)) rfl ?_
      clear hE a; intro a hE
      refine d_take (v := Value.pointer (some (ea (some ad) 0))) p26_8_1 ns26_8 (by kernel_rfl) (by kernel_rfl) (fun _ _ _ h => h) hE wn_none rfl ⟨(F_l _ K_0), trivial⟩ (fun W hS => (st_indexAddrS (i := 0) Try.underlying36 tS5 (C_at (F_l _ K_0) (show 0 < _ by omega)).1 rfl rfl (by omega))) rfl ?_
      clear hE a; intro a hE
      refine d_take (v := Value.int .u8 (rd l (0 : Int))) p26_8_2 ns26_8 (by kernel_rfl) (by kernel_rfl) (fun _ _ _ h => h) hE wn_none rfl ⟨(F_l _ K_0), trivial⟩ (fun W hS => (st_loadC (i := 0) tA5 (hS.1) (by omega) rfl)) rfl ?_
      clear hE a; intro a hE
      refine d_take (v := Value.int .u8 ((rd l (0 : Int)) % 16)) p26_8_3 ns26_8 (by kernel_rfl) (by kernel_rfl) (fun _ _ _ h => h) hE wn_none rfl ⟨(F_l _ K_0), trivial⟩ (fun W hS => (st_rem (z := (rd l (0 : Int)) % 16) rfl rfl (by decide) (Int.tmod_eq_emod_of_nonneg (by omega)))) rfl ?_
      clear hE a; intro a hE
      refine d_take (v := Value.int .i64 ((rd l (0 : Int)) % 16)) p26_8_4 ns26_8 (by kernel_rfl) (by kernel_rfl) (fun _ _ _ h => h) hE wn_none rfl ⟨(F_l _ K_0), trivial⟩ (fun W hS => (st_conv (z := ((rd l (0 : Int)) % 16)) (by kernel_rfl) Try.underlying3 rfl (wr_i64 _ (by omega) (by omega)))) rfl ?_
      clear hE a; intro a hE
      refine d_take (v := Value.int .i64 (((rd l (0 : Int)) % 16) * 16)) p26_8_5 ns26_8 (by kernel_rfl) (by kernel_rfl) (fun _ _ _ h => h) hE wn_none rfl ⟨(F_l _ K_0), trivial⟩ (fun W hS => (st_mul (z := ((rd l (0 : Int)) % 16) * 16) rfl rfl (wr_i64 _ (by omega) (by omega)))) rfl ?_
      clear hE a; intro a hE
      refine d_take (v := Value.slice (some ad) l.length c) p26_8_6 ns26_8 (by kernel_rfl) (by kernel_rfl) (fun _ _ _ h => h) hE wn_none rfl ⟨(F_l _ K_0), trivial⟩ (fun W hS => (st_move rfl)) rfl ?_
      clear hE a; intro a hE
      refine d_take (v := Value.pointer (some (ea (some ad) 1))) p26_8_7 ns26_8 (by kernel_rfl) (by kernel_rfl) (fun _ _ _ h => h) hE wn_none rfl ⟨(F_l _ K_0), trivial⟩ (fun W hS => (st_indexAddrS (i := 1) Try.underlying36 tS5 (C_at (F_l _ K_0) (show 1 < _ by omega)).1 rfl rfl (by omega))) rfl ?_
      clear hE a; intro a hE
      refine d_take (v := Value.int .u8 (rd l (1 : Int))) p26_8_8 ns26_8 (by kernel_rfl) (by kernel_rfl) (fun _ _ _ h => h) hE wn_none rfl ⟨(F_l _ K_0), trivial⟩ (fun W hS => (st_loadC (i := 1) tA5 (hS.1) (by omega) rfl)) rfl ?_
      clear hE a; intro a hE
      refine d_take (v := Value.int .u8 ((rd l (1 : Int)) / 16)) p26_8_9 ns26_8 (by kernel_rfl) (by kernel_rfl) (fun _ _ _ h => h) hE wn_none rfl ⟨(F_l _ K_0), trivial⟩ (fun W hS => (st_quo (z := (rd l (1 : Int)) / 16) rfl rfl (by decide) (by rw [Int.tdiv_eq_ediv_of_nonneg (by omega)]; exact wr_u8 _ (by omega) (by omega)))) rfl ?_
      clear hE a; intro a hE
      refine d_take (v := Value.int .i64 ((rd l (1 : Int)) / 16)) p26_8_10 ns26_8 (by kernel_rfl) (by kernel_rfl) (fun _ _ _ h => h) hE wn_none rfl ⟨(F_l _ K_0), trivial⟩ (fun W hS => (st_conv (z := ((rd l (1 : Int)) / 16)) (by kernel_rfl) Try.underlying3 rfl (wr_i64 _ (by omega) (by omega)))) rfl ?_
      clear hE a; intro a hE
      refine d_take (v := Value.int .i64 ((((rd l (0 : Int)) % 16) * 16) + ((rd l (1 : Int)) / 16))) p26_8_11 ns26_8 (by kernel_rfl) (by kernel_rfl) (fun _ _ _ h => h) hE wn_none rfl ⟨(F_l _ K_0), trivial⟩ (fun W hS => (st_add (z := (((rd l (0 : Int)) % 16) * 16) + ((rd l (1 : Int)) / 16)) rfl rfl (wr_i64 _ (by omega) (by omega)))) rfl ?_
      clear hE a; intro a hE
      refine d_take (v := Value.pointer (some ⟨g7, 0, none⟩)) p26_8_12 ns26_8 (by kernel_rfl) (by kernel_rfl) (fun _ _ _ h => h) hE wn_none rfl ⟨(F_l _ K_0), trivial⟩ (fun W hS => (st_fieldAddr Try.underlying24 rfl tS3 rfl rfl)) rfl ?_
      clear hE a; intro a hE
      refine d_one (by kernel_rfl) rfl (s_store (off := 0) (k := 1) (cs' := (([Value.int .i64 ((((rd l (0 : Int)) % 16) * 16) + ((rd l (1 : Int)) / 16)), Value.int .i64 0, Value.int .i64 0, Value.int .i64 0, Value.int .i64 0] ++ b16 (fun _ => 0) ++ b16 (fun _ => 0))).toArray) p26_8_13 hE wn_none tS3 rfl rfl rfl rfl B_g7 (Nat.le_of_ble_eq_true rfl) rfl ?_)
      intro w11 B_g7' hk
      replace B_g1 := kp_blk B_g1 hk n_g1_g7
      replace K_0 := K_0.then_ hk (fun k h => by rw [show k = g7 from h]; exact Or.inr z_0_g7)
      replace B_g7 := B_g7'
      clear hk
      refine ⟨⟨(F_l _ K_0), trivial⟩, ?_⟩
      refine d_end (by kernel_rfl) ?_
      refine x_norm ?_
      refine c_drawS (S := fun W => Kd.C (Kd.int .u8) W (some ad) l.length l ∧ True) rfl rfl (listed := #[false, false, false, false, false, false, false, false, false, false, false, false, false, false, false, false, false, false, false]) rfl ?_
      intro w12 hh hk
      replace B_g1 := kp_blk B_g1 hk (fun h => h)
      replace B_g7 := kp_blk B_g7 hk (fun h => h)
      replace K_0 := K_0.then_ hk (fun _ h => h.elim)
      clear hh hk
      refine d_take (v := Value.slice (some ad) l.length c) p26_9_0 ns26_9 (by kernel_rfl) (by kernel_rfl) (fun _ _ _ h => h) hE wn_none rfl ⟨(F_l _ K_0), trivial⟩ (fun W hS => (st_move rfl)) rfl ?_
      clear hE a; intro a hE
      refine d_take (v := Value.pointer (some (ea (some ad) 1))) p26_9_1 ns26_9 (by kernel_rfl) (by kernel_rfl) (fun _ _ _ h => h) hE wn_none rfl ⟨(F_l _ K_0), trivial⟩ (fun W hS => (st_indexAddrS (i := 1) Try.underlying36 tS5 (C_at (F_l _ K_0) (show 1 < _ by omega)).1 rfl rfl (by omega))) rfl ?_
      clear hE a; intro a hE
      refine d_take (v := Value.int .u8 (rd l (1 : Int))) p26_9_2 ns26_9 (by kernel_rfl) (by kernel_rfl) (fun _ _ _ h => h) hE wn_none rfl ⟨(F_l _ K_0), trivial⟩ (fun W hS => (st_loadC (i := 1) tA5 (hS.1) (by omega) rfl)) rfl ?_
      clear hE a; intro a hE
      refine d_take (v := Value.int .u8 ((rd l (1 : Int)) % 16)) p26_9_3 ns26_9 (by kernel_rfl) (by kernel_rfl) (fun _ _ _ h => h) hE wn_none rfl ⟨(F_l _ K_0), trivial⟩ (fun W hS => (st_rem (z := (rd l (1 : Int)) % 16) rfl rfl (by decide) (Int.tmod_eq_emod_of_nonneg (by omega)))) rfl ?_
      clear hE a; intro a hE
      refine d_take (v := Value.int .i64 ((rd l (1 : Int)) % 16)) p26_9_4 ns26_9 (by kernel_rfl) (by kernel_rfl) (fun _ _ _ h => h) hE wn_none rfl ⟨(F_l _ K_0), trivial⟩ (fun W hS => (st_conv (z := ((rd l (1 : Int)) % 16)) (by kernel_rfl) Try.underlying3 rfl (wr_i64 _ (by omega) (by omega)))) rfl ?_
      clear hE a; intro a hE
      refine d_take (v := Value.int .i64 (((rd l (1 : Int)) % 16) * 65536)) p26_9_5 ns26_9 (by kernel_rfl) (by kernel_rfl) (fun _ _ _ h => h) hE wn_none rfl ⟨(F_l _ K_0), trivial⟩ (fun W hS => (st_mul (z := ((rd l (1 : Int)) % 16) * 65536) rfl rfl (wr_i64 _ (by omega) (by omega)))) rfl ?_
      clear hE a; intro a hE
      refine d_take (v := Value.slice (some ad) l.length c) p26_9_6 ns26_9 (by kernel_rfl) (by kernel_rfl) (fun _ _ _ h => h) hE wn_none rfl ⟨(F_l _ K_0), trivial⟩ (fun W hS => (st_move rfl)) rfl ?_
      clear hE a; intro a hE
      refine d_take (v := Value.pointer (some (ea (some ad) 2))) p26_9_7 ns26_9 (by kernel_rfl) (by kernel_rfl) (fun _ _ _ h => h) hE wn_none rfl ⟨(F_l _ K_0), trivial⟩ (fun W hS => (st_indexAddrS (i := 2) Try.underlying36 tS5 (C_at (F_l _ K_0) (show 2 < _ by omega)).1 rfl rfl (by omega))) rfl ?_
      clear hE a; intro a hE
      refine d_take (v := Value.int .u8 (rd l (2 : Int))) p26_9_8 ns26_9 (by kernel_rfl) (by kernel_rfl) (fun _ _ _ h => h) hE wn_none rfl ⟨(F_l _ K_0), trivial⟩ (fun W hS => (st_loadC (i := 2) tA5 (hS.1) (by omega) rfl)) rfl ?_
      clear hE a; intro a hE
      refine d_take (v := Value.int .i64 (rd l (2 : Int))) p26_9_9 ns26_9 (by kernel_rfl) (by kernel_rfl) (fun _ _ _ h => h) hE wn_none rfl ⟨(F_l _ K_0), trivial⟩ (fun W hS => (st_conv (z := (rd l (2 : Int))) (by kernel_rfl) Try.underlying3 rfl (wr_i64 _ (by omega) (by omega)))) rfl ?_
      clear hE a; intro a hE
      refine d_take (v := Value.int .i64 ((rd l (2 : Int)) * 256)) p26_9_10 ns26_9 (by kernel_rfl) (by kernel_rfl) (fun _ _ _ h => h) hE wn_none rfl ⟨(F_l _ K_0), trivial⟩ (fun W hS => (st_mul (z := (rd l (2 : Int)) * 256) rfl rfl (wr_i64 _ (by omega) (by omega)))) rfl ?_
      clear hE a; intro a hE
      refine d_take (v := Value.int .i64 ((((rd l (1 : Int)) % 16) * 65536) + ((rd l (2 : Int)) * 256))) p26_9_11 ns26_9 (by kernel_rfl) (by kernel_rfl) (fun _ _ _ h => h) hE wn_none rfl ⟨(F_l _ K_0), trivial⟩ (fun W hS => (st_add (z := (((rd l (1 : Int)) % 16) * 65536) + ((rd l (2 : Int)) * 256)) rfl rfl (wr_i64 _ (by omega) (by omega)))) rfl ?_
      clear hE a; intro a hE
      refine d_take (v := Value.slice (some ad) l.length c) p26_9_12 ns26_9 (by kernel_rfl) (by kernel_rfl) (fun _ _ _ h => h) hE wn_none rfl ⟨(F_l _ K_0), trivial⟩ (fun W hS => (st_move rfl)) rfl ?_
      clear hE a; intro a hE
      refine d_take (v := Value.pointer (some (ea (some ad) 3))) p26_9_13 ns26_9 (by kernel_rfl) (by kernel_rfl) (fun _ _ _ h => h) hE wn_none rfl ⟨(F_l _ K_0), trivial⟩ (fun W hS => (st_indexAddrS (i := 3) Try.underlying36 tS5 (C_at (F_l _ K_0) (show 3 < _ by omega)).1 rfl rfl (by omega))) rfl ?_
      clear hE a; intro a hE
      refine d_take (v := Value.int .u8 (rd l (3 : Int))) p26_9_14 ns26_9 (by kernel_rfl) (by kernel_rfl) (fun _ _ _ h => h) hE wn_none rfl ⟨(F_l _ K_0), trivial⟩ (fun W hS => (st_loadC (i := 3) tA5 (hS.1) (by omega) rfl)) rfl ?_
      clear hE a; intro a hE
      refine d_take (v := Value.int .i64 (rd l (3 : Int))) p26_9_15 ns26_9 (by kernel_rfl) (by kernel_rfl) (fun _ _ _ h => h) hE wn_none rfl ⟨(F_l _ K_0), trivial⟩ (fun W hS => (st_conv (z := (rd l (3 : Int))) (by kernel_rfl) Try.underlying3 rfl (wr_i64 _ (by omega) (by omega)))) rfl ?_
      clear hE a; intro a hE
      refine d_take (v := Value.int .i64 (((((rd l (1 : Int)) % 16) * 65536) + ((rd l (2 : Int)) * 256)) + (rd l (3 : Int)))) p26_9_16 ns26_9 (by kernel_rfl) (by kernel_rfl) (fun _ _ _ h => h) hE wn_none rfl ⟨(F_l _ K_0), trivial⟩ (fun W hS => (st_add (z := ((((rd l (1 : Int)) % 16) * 65536) + ((rd l (2 : Int)) * 256)) + (rd l (3 : Int))) rfl rfl (wr_i64 _ (by omega) (by omega)))) rfl ?_
      clear hE a; intro a hE
      refine d_take (v := Value.pointer (some ⟨g7, 1, none⟩)) p26_9_17 ns26_9 (by kernel_rfl) (by kernel_rfl) (fun _ _ _ h => h) hE wn_none rfl ⟨(F_l _ K_0), trivial⟩ (fun W hS => (st_fieldAddr Try.underlying24 rfl tS3 rfl rfl)) rfl ?_
      clear hE a; intro a hE
      refine d_one (by kernel_rfl) rfl (s_store (off := 1) (k := 1) (cs' := (([Value.int .i64 ((((rd l (0 : Int)) % 16) * 16) + ((rd l (1 : Int)) / 16)), Value.int .i64 (((((rd l (1 : Int)) % 16) * 65536) + ((rd l (2 : Int)) * 256)) + (rd l (3 : Int))), Value.int .i64 0, Value.int .i64 0, Value.int .i64 0] ++ b16 (fun _ => 0) ++ b16 (fun _ => 0))).toArray) p26_9_18 hE wn_none tS3 rfl rfl rfl rfl B_g7 (Nat.le_of_ble_eq_true rfl) rfl ?_)
      intro w13 B_g7' hk
      replace B_g1 := kp_blk B_g1 hk n_g1_g7
      replace K_0 := K_0.then_ hk (fun k h => by rw [show k = g7 from h]; exact Or.inr z_0_g7)
      replace B_g7 := B_g7'
      clear hk
      refine ⟨⟨(F_l _ K_0), trivial⟩, ?_⟩
      refine d_end (by kernel_rfl) ?_
      refine x_norm ?_
      refine c_drawS (S := fun W => Kd.C (Kd.int .u8) W (some ad) l.length l ∧ True) rfl rfl (listed := #[false, false, false, false, false, false, false, false, false, false, false, false]) rfl ?_
      intro w14 hh hk
      replace B_g1 := kp_blk B_g1 hk (fun h => h)
      replace B_g7 := kp_blk B_g7 hk (fun h => h)
      replace K_0 := K_0.then_ hk (fun _ h => h.elim)
      clear hh hk
      refine d_take (v := Value.slice (some ad) l.length c) p26_10_0 ns26_10 (by kernel_rfl) (by kernel_rfl) (fun _ _ _ h => h) hE wn_none rfl ⟨(F_l _ K_0), trivial⟩ (fun W hS => (st_move rfl)) rfl ?_
      clear hE a; intro a hE
      refine d_take (v := Value.pointer (some (ea (some ad) 4))) p26_10_1 ns26_10 (by kernel_rfl) (by kernel_rfl) (fun _ _ _ h => h) hE wn_none rfl ⟨(F_l _ K_0), trivial⟩ (fun W hS => (st_indexAddrS (i := 4) Try.underlying36 tS5 (C_at (F_l _ K_0) (show 4 < _ by omega)).1 rfl rfl (by omega))) rfl ?_
      clear hE a; intro a hE
      refine d_take (v := Value.int .u8 (rd l (4 : Int))) p26_10_2 ns26_10 (by kernel_rfl) (by kernel_rfl) (fun _ _ _ h => h) hE wn_none rfl ⟨(F_l _ K_0), trivial⟩ (fun W hS => (st_loadC (i := 4) tA5 (hS.1) (by omega) rfl)) rfl ?_
      clear hE a; intro a hE
      refine d_take (v := Value.int .i64 (rd l (4 : Int))) p26_10_3 ns26_10 (by kernel_rfl) (by kernel_rfl) (fun _ _ _ h => h) hE wn_none rfl ⟨(F_l _ K_0), trivial⟩ (fun W hS => (st_conv (z := (rd l (4 : Int))) (by kernel_rfl) Try.underlying3 rfl (wr_i64 _ (by omega) (by omega)))) rfl ?_
      clear hE a; intro a hE
      refine d_take (v := Value.int .i64 ((rd l (4 : Int)) * 256)) p26_10_4 ns26_10 (by kernel_rfl) (by kernel_rfl) (fun _ _ _ h => h) hE wn_none rfl ⟨(F_l _ K_0), trivial⟩ (fun W hS => (st_mul (z := (rd l (4 : Int)) * 256) rfl rfl (wr_i64 _ (by omega) (by omega)))) rfl ?_
      clear hE a; intro a hE
      refine d_take (v := Value.slice (some ad) l.length c) p26_10_5 ns26_10 (by kernel_rfl) (by kernel_rfl) (fun _ _ _ h => h) hE wn_none rfl ⟨(F_l _ K_0), trivial⟩ (fun W hS => (st_move rfl)) rfl ?_
      clear hE a; intro a hE
      refine d_take (v := Value.pointer (some (ea (some ad) 5))) p26_10_6 ns26_10 (by kernel_rfl) (by kernel_rfl) (fun _ _ _ h => h) hE wn_none rfl ⟨(F_l _ K_0), trivial⟩ (fun W hS => (st_indexAddrS (i := 5) Try.underlying36 tS5 (C_at (F_l _ K_0) (show 5 < _ by omega)).1 rfl rfl (by omega))) rfl ?_
      clear hE a; intro a hE
      refine d_take (v := Value.int .u8 (rd l (5 : Int))) p26_10_7 ns26_10 (by kernel_rfl) (by kernel_rfl) (fun _ _ _ h => h) hE wn_none rfl ⟨(F_l _ K_0), trivial⟩ (fun W hS => (st_loadC (i := 5) tA5 (hS.1) (by omega) rfl)) rfl ?_
      clear hE a; intro a hE
      refine d_take (v := Value.int .i64 (rd l (5 : Int))) p26_10_8 ns26_10 (by kernel_rfl) (by kernel_rfl) (fun _ _ _ h => h) hE wn_none rfl ⟨(F_l _ K_0), trivial⟩ (fun W hS => (st_conv (z := (rd l (5 : Int))) (by kernel_rfl) Try.underlying3 rfl (wr_i64 _ (by omega) (by omega)))) rfl ?_
      clear hE a; intro a hE
      refine d_take (v := Value.int .i64 (((rd l (4 : Int)) * 256) + (rd l (5 : Int)))) p26_10_9 ns26_10 (by kernel_rfl) (by kernel_rfl) (fun _ _ _ h => h) hE wn_none rfl ⟨(F_l _ K_0), trivial⟩ (fun W hS => (st_add (z := ((rd l (4 : Int)) * 256) + (rd l (5 : Int))) rfl rfl (wr_i64 _ (by omega) (by omega)))) rfl ?_
      clear hE a; intro a hE
      refine d_take (v := Value.pointer (some ⟨g7, 2, none⟩)) p26_10_10 ns26_10 (by kernel_rfl) (by kernel_rfl) (fun _ _ _ h => h) hE wn_none rfl ⟨(F_l _ K_0), trivial⟩ (fun W hS => (st_fieldAddr Try.underlying24 rfl tS3 rfl rfl)) rfl ?_
      clear hE a; intro a hE
      refine d_one (by kernel_rfl) rfl (s_store (off := 2) (k := 1) (cs' := (([Value.int .i64 ((((rd l (0 : Int)) % 16) * 16) + ((rd l (1 : Int)) / 16)), Value.int .i64 (((((rd l (1 : Int)) % 16) * 65536) + ((rd l (2 : Int)) * 256)) + (rd l (3 : Int))), Value.int .i64 (((rd l (4 : Int)) * 256) + (rd l (5 : Int))), Value.int .i64 0, Value.int .i64 0] ++ b16 (fun _ => 0) ++ b16 (fun _ => 0))).toArray) p26_10_11 hE wn_none tS3 rfl rfl rfl rfl B_g7 (Nat.le_of_ble_eq_true rfl) rfl ?_)
      intro w15 B_g7' hk
      replace B_g1 := kp_blk B_g1 hk n_g1_g7
      replace K_0 := K_0.then_ hk (fun k h => by rw [show k = g7 from h]; exact Or.inr z_0_g7)
      replace B_g7 := B_g7'
      clear hk
      refine ⟨⟨(F_l _ K_0), trivial⟩, ?_⟩
      refine d_end (by kernel_rfl) ?_
      refine x_norm ?_
      refine c_drawS (S := fun W => Kd.C (Kd.int .u8) W (some ad) l.length l ∧ True) rfl rfl (listed := #[false, false, false, false, false, false, false, false, false, false, false, false]) rfl ?_
      intro w16 hh hk
      replace B_g1 := kp_blk B_g1 hk (fun h => h)
      replace B_g7 := kp_blk B_g7 hk (fun h => h)
      replace K_0 := K_0.then_ hk (fun _ h => h.elim)
      clear hh hk
      refine d_take (v := Value.slice (some ad) l.length c) p26_11_0 ns26_11 (by kernel_rfl) (by kernel_rfl) (fun _ _ _ h => h) hE wn_none rfl ⟨(F_l _ K_0), trivial⟩ (fun W hS => (st_move rfl)) rfl ?_
      clear hE a; intro a hE
      refine d_take (v := Value.pointer (some (ea (some ad) 6))) p26_11_1 ns26_11 (by kernel_rfl) (by kernel_rfl) (fun _ _ _ h => h) hE wn_none rfl ⟨(F_l _ K_0), trivial⟩ (fun W hS => (st_indexAddrS (i := 6) Try.underlying36 tS5 (C_at (F_l _ K_0) (show 6 < _ by omega)).1 rfl rfl (by omega))) rfl ?_
      clear hE a; intro a hE
      refine d_take (v := Value.int .u8 (rd l (6 : Int))) p26_11_2 ns26_11 (by kernel_rfl) (by kernel_rfl) (fun _ _ _ h => h) hE wn_none rfl ⟨(F_l _ K_0), trivial⟩ (fun W hS => (st_loadC (i := 6) tA5 (hS.1) (by omega) rfl)) rfl ?_
      clear hE a; intro a hE
      refine d_take (v := Value.int .i64 (rd l (6 : Int))) p26_11_3 ns26_11 (by kernel_rfl) (by kernel_rfl) (fun _ _ _ h => h) hE wn_none rfl ⟨(F_l _ K_0), trivial⟩ (fun W hS => (st_conv (z := (rd l (6 : Int))) (by kernel_rfl) Try.underlying3 rfl (wr_i64 _ (by omega) (by omega)))) rfl ?_
      clear hE a; intro a hE
      refine d_take (v := Value.slice (some ad) l.length c) p26_11_4 ns26_11 (by kernel_rfl) (by kernel_rfl) (fun _ _ _ h => h) hE wn_none rfl ⟨(F_l _ K_0), trivial⟩ (fun W hS => (st_move rfl)) rfl ?_
      clear hE a; intro a hE
      refine d_take (v := Value.pointer (some (ea (some ad) 7))) p26_11_5 ns26_11 (by kernel_rfl) (by kernel_rfl) (fun _ _ _ h => h) hE wn_none rfl ⟨(F_l _ K_0), trivial⟩ (fun W hS => (st_indexAddrS (i := 7) Try.underlying36 tS5 (C_at (F_l _ K_0) (show 7 < _ by omega)).1 rfl rfl (by omega))) rfl ?_
      clear hE a; intro a hE
      refine d_take (v := Value.int .u8 (rd l (7 : Int))) p26_11_6 ns26_11 (by kernel_rfl) (by kernel_rfl) (fun _ _ _ h => h) hE wn_none rfl ⟨(F_l _ K_0), trivial⟩ (fun W hS => (st_loadC (i := 7) tA5 (hS.1) (by omega) rfl)) rfl ?_
      clear hE a; intro a hE
      refine d_take (v := Value.int .i64 (rd l (7 : Int))) p26_11_7 ns26_11 (by kernel_rfl) (by kernel_rfl) (fun _ _ _ h => h) hE wn_none rfl ⟨(F_l _ K_0), trivial⟩ (fun W hS => (st_conv (z := (rd l (7 : Int))) (by kernel_rfl) Try.underlying3 rfl (wr_i64 _ (by omega) (by omega)))) rfl ?_
      clear hE a; intro a hE
      refine d_take (v := Value.pointer (some ⟨g7, 3, none⟩)) p26_11_8 ns26_11 (by kernel_rfl) (by kernel_rfl) (fun _ _ _ h => h) hE wn_none rfl ⟨(F_l _ K_0), trivial⟩ (fun W hS => (st_fieldAddr Try.underlying24 rfl tS3 rfl rfl)) rfl ?_
      clear hE a; intro a hE
      refine d_one (by kernel_rfl) rfl (s_store (off := 3) (k := 1) (cs' := (([Value.int .i64 ((((rd l (0 : Int)) % 16) * 16) + ((rd l (1 : Int)) / 16)), Value.int .i64 (((((rd l (1 : Int)) % 16) * 65536) + ((rd l (2 : Int)) * 256)) + (rd l (3 : Int))), Value.int .i64 (((rd l (4 : Int)) * 256) + (rd l (5 : Int))), Value.int .i64 (rd l (6 : Int)), Value.int .i64 0] ++ b16 (fun _ => 0) ++ b16 (fun _ => 0))).toArray) p26_11_9 hE wn_none tS3 rfl rfl rfl rfl B_g7 (Nat.le_of_ble_eq_true rfl) rfl ?_)
      intro w17 B_g7' hk
      replace B_g1 := kp_blk B_g1 hk n_g1_g7
      replace K_0 := K_0.then_ hk (fun k h => by rw [show k = g7 from h]; exact Or.inr z_0_g7)
      replace B_g7 := B_g7'
      clear hk
      refine ⟨⟨(F_l _ K_0), trivial⟩, ?_⟩
      refine d_take (v := Value.pointer (some ⟨g7, 4, none⟩)) p26_11_10 ns26_11 (by kernel_rfl) (by kernel_rfl) (fun _ _ _ h => h) hE wn_none rfl ⟨(F_l _ K_0), trivial⟩ (fun W hS => (st_fieldAddr Try.underlying24 rfl tS3 rfl rfl)) rfl ?_
      clear hE a; intro a hE
      refine d_one (by kernel_rfl) rfl (s_store (off := 4) (k := 1) (cs' := (([Value.int .i64 ((((rd l (0 : Int)) % 16) * 16) + ((rd l (1 : Int)) / 16)), Value.int .i64 (((((rd l (1 : Int)) % 16) * 65536) + ((rd l (2 : Int)) * 256)) + (rd l (3 : Int))), Value.int .i64 (((rd l (4 : Int)) * 256) + (rd l (5 : Int))), Value.int .i64 (rd l (6 : Int)), Value.int .i64 (rd l (7 : Int))] ++ b16 (fun _ => 0) ++ b16 (fun _ => 0))).toArray) p26_11_11 hE wn_none tS3 rfl rfl rfl rfl B_g7 (Nat.le_of_ble_eq_true rfl) rfl ?_)
      intro w18 B_g7' hk
      replace B_g1 := kp_blk B_g1 hk n_g1_g7
      replace K_0 := K_0.then_ hk (fun k h => by rw [show k = g7 from h]; exact Or.inr z_0_g7)
      replace B_g7 := B_g7'
      clear hk
      refine ⟨⟨(F_l _ K_0), trivial⟩, ?_⟩
      refine d_end (by kernel_rfl) ?_
      refine x_norm ?_
      refine wp_seq ?_
      refine c_reg R26_12_l ?_
      refine p_cons (s_still p26_12_0 hE wn_none rfl (st_assign rfl) ?_)
      clear hE a; intro a hE
      refine p_nil ?_
      refine x_norm ?_
      refine wp_block ?_
      refine c_loop (α := Nat) (fun k a W => En 110 a [(0, Value.slice (some ad) l.length c), (2, Value.pointer (some ⟨g1, 0, none⟩)), (3, Value.slice none 0 0), (4, Value.int .i64 0), (9, Value.bool false), (15, Value.bool false), (19, Value.bool false), (5, Value.pointer (some ⟨g7, 0, none⟩)), (6, Value.int .i64 (k : Int))] ∧ k ≤ 16 ∧ W.heap[g1]? = some (.cells (([Value.int .i64 0, Value.int .i64 0, Value.int .i64 0, Value.int .i64 0, Value.int .i64 0] ++ b16 (fun _ => 0) ++ b16 (fun _ => 0))).toArray 24 (0, 0)) ∧ W.heap[g7]? = some (.cells (([Value.int .i64 ((((rd l (0 : Int)) % 16) * 16) + ((rd l (1 : Int)) / 16)), Value.int .i64 (((((rd l (1 : Int)) % 16) * 65536) + ((rd l (2 : Int)) * 256)) + (rd l (3 : Int))), Value.int .i64 (((rd l (4 : Int)) * 256) + (rd l (5 : Int))), Value.int .i64 (rd l (6 : Int)), Value.int .i64 (rd l (7 : Int))] ++ b16 (Sf 8 l k) ++ b16 (Sf 24 l k))).toArray 24 (0, 0)) ∧ Kp w W (fun _ => False)) (fun k => 16 - k) (0) ?_ ?_
      ·
        exact ⟨En.sub hE ⟨rfl, rfl, rfl, rfl, rfl, rfl, rfl, rfl, rfl, trivial⟩, Nat.zero_le _, B_g1, B_g7, K_0⟩
      ·
        clear hE a
        rintro k a w19 ⟨hE, hk9, B_g1, B_g7, K_0⟩
        have hba := rd_bd hby ((8 : Int) + (k : Int))
        have hbb := rd_bd hby ((24 : Int) + (k : Int))
        refine wp_seq ?_
        refine c_reg R26_13_l ?_
        refine p_cons (s_still p26_13_0 hE wn_none rfl (st_move rfl) ?_)
        clear hE a; intro a hE
        rcases Decidable.em ((k : Int) < 16) with hc20 | hc20
        ·
          refine p_cons (s_still (v := Value.bool true) p26_13_1 hE wn_none rfl (st_lss rfl rfl (decide_eq_true hc20)) ?_)
          clear hE a; intro a hE
          refine p_nil ?_
          refine x_norm ?_
          refine c_cond (t := true) hE rfl ?_
          refine wp_skip ?_
          refine x_norm ?_
          refine wp_seq ?_
          refine wp_block ?_
          refine c_draw (S := fun W => Kd.C (Kd.int .u8) W (some ad) l.length l ∧ True) rfl rfl (listed := #[false, false, false, false, false, false, false, false, false, false, false, false, false, false, false, false, false, false]) rfl ?_
          intro w21 hh hk
          replace B_g1 := kp_blk B_g1 hk (fun h => h)
          replace B_g7 := kp_blk B_g7 hk (fun h => h)
          replace K_0 := K_0.then_ hk (fun _ h => h.elim)
          clear hh hk
          refine d_take (v := Value.int .i64 (k : Int)) p26_15_0 ns26_15 (by kernel_rfl) (by kernel_rfl) (fun _ _ _ h => h) hE wn_none rfl ⟨(F_l _ K_0), trivial⟩ (fun W hS => (st_move rfl)) rfl ?_
          clear hE a; intro a hE
          refine d_take (v := Value.int .i64 (k : Int)) p26_15_1 ns26_15 (by kernel_rfl) (by kernel_rfl) (fun _ _ _ h => h) hE wn_none rfl ⟨(F_l _ K_0), trivial⟩ (fun W hS => (st_move rfl)) rfl ?_
          clear hE a; intro a hE
          refine d_take (v := Value.slice (some ad) l.length c) p26_15_2 ns26_15 (by kernel_rfl) (by kernel_rfl) (fun _ _ _ h => h) hE wn_none rfl ⟨(F_l _ K_0), trivial⟩ (fun W hS => (st_move rfl)) rfl ?_
          clear hE a; intro a hE
          refine d_take (v := Value.int .i64 (k : Int)) p26_15_3 ns26_15 (by kernel_rfl) (by kernel_rfl) (fun _ _ _ h => h) hE wn_none rfl ⟨(F_l _ K_0), trivial⟩ (fun W hS => (st_move rfl)) rfl ?_
          clear hE a; intro a hE
          refine d_take (v := Value.int .i64 (8 + (k : Int))) p26_15_4 ns26_15 (by kernel_rfl) (by kernel_rfl) (fun _ _ _ h => h) hE wn_none rfl ⟨(F_l _ K_0), trivial⟩ (fun W hS => (st_add (z := 8 + (k : Int)) rfl rfl (wr_i64 _ (by omega) (by omega)))) rfl ?_
          clear hE a; intro a hE
          refine d_take (v := Value.pointer (some (ea (some ad) (8 + k)))) p26_15_5 ns26_15 (by kernel_rfl) (by kernel_rfl) (fun _ _ _ h => h) hE wn_none rfl ⟨(F_l _ K_0), trivial⟩ (fun W hS => (st_indexAddrS (i := (8 + k)) Try.underlying36 tS5 (C_at (F_l _ K_0) (show (8 + k) < _ by omega)).1 rfl rfl (by omega))) rfl ?_
          clear hE a; intro a hE
          refine d_take (v := Value.int .u8 (rd l ((8 + k) : Int))) p26_15_6 ns26_15 (by kernel_rfl) (by kernel_rfl) (fun _ _ _ h => h) hE wn_none rfl ⟨(F_l _ K_0), trivial⟩ (fun W hS => (st_loadC (i := (8 + k)) tA5 (hS.1) (by omega) rfl)) rfl ?_
          clear hE a; intro a hE
          refine d_take (v := Value.slice (some ad) l.length c) p26_15_7 ns26_15 (by kernel_rfl) (by kernel_rfl) (fun _ _ _ h => h) hE wn_none rfl ⟨(F_l _ K_0), trivial⟩ (fun W hS => (st_move rfl)) rfl ?_
          clear hE a; intro a hE
          refine d_take (v := Value.int .i64 (k : Int)) p26_15_8 ns26_15 (by kernel_rfl) (by kernel_rfl) (fun _ _ _ h => h) hE wn_none rfl ⟨(F_l _ K_0), trivial⟩ (fun W hS => (st_move rfl)) rfl ?_
          clear hE a; intro a hE
          refine d_take (v := Value.int .i64 (24 + (k : Int))) p26_15_9 ns26_15 (by kernel_rfl) (by kernel_rfl) (fun _ _ _ h => h) hE wn_none rfl ⟨(F_l _ K_0), trivial⟩ (fun W hS => (st_add (z := 24 + (k : Int)) rfl rfl (wr_i64 _ (by omega) (by omega)))) rfl ?_
          clear hE a; intro a hE
          refine d_take (v := Value.pointer (some (ea (some ad) (24 + k)))) p26_15_10 ns26_15 (by kernel_rfl) (by kernel_rfl) (fun _ _ _ h => h) hE wn_none rfl ⟨(F_l _ K_0), trivial⟩ (fun W hS => (st_indexAddrS (i := (24 + k)) Try.underlying36 tS5 (C_at (F_l _ K_0) (show (24 + k) < _ by omega)).1 rfl rfl (by omega))) rfl ?_
          clear hE a; intro a hE
          refine d_take (v := Value.int .u8 (rd l ((24 + k) : Int))) p26_15_11 ns26_15 (by kernel_rfl) (by kernel_rfl) (fun _ _ _ h => h) hE wn_none rfl ⟨(F_l _ K_0), trivial⟩ (fun W hS => (st_loadC (i := (24 + k)) tA5 (hS.1) (by omega) rfl)) rfl ?_
          clear hE a; intro a hE
          refine d_take (v := Value.pointer (some ⟨g7, 5, none⟩)) p26_15_12 ns26_15 (by kernel_rfl) (by kernel_rfl) (fun _ _ _ h => h) hE wn_none rfl ⟨(F_l _ K_0), trivial⟩ (fun W hS => (st_fieldAddr Try.underlying24 rfl tS22 rfl rfl)) rfl ?_
          clear hE a; intro a hE
          refine d_take (v := Value.pointer (some ⟨g7, (5 + k), none⟩)) p26_15_13 ns26_15 (by kernel_rfl) (by kernel_rfl) (fun _ _ _ h => h) hE wn_none rfl ⟨(F_l _ K_0), trivial⟩ (fun W hS => (st_indexAddrA (l := 16) (i := k) Try.underlying22 tS5 rfl rfl (by omega) (by omega))) rfl ?_
          clear hE a; intro a hE
          refine d_take (v := Value.pointer (some ⟨g7, 21, none⟩)) p26_15_15 ns26_15 (by kernel_rfl) (by kernel_rfl) (fun _ _ _ h => h) hE wn_none rfl ⟨(F_l _ K_0), trivial⟩ (fun W hS => (st_fieldAddr Try.underlying24 rfl tS22 rfl rfl)) rfl ?_
          clear hE a; intro a hE
          refine d_one (by kernel_rfl) rfl (s_store (off := (5 + k)) (k := 1) (cs' := (([Value.int .i64 ((((rd l (0 : Int)) % 16) * 16) + ((rd l (1 : Int)) / 16)), Value.int .i64 (((((rd l (1 : Int)) % 16) * 65536) + ((rd l (2 : Int)) * 256)) + (rd l (3 : Int))), Value.int .i64 (((rd l (4 : Int)) * 256) + (rd l (5 : Int))), Value.int .i64 (rd l (6 : Int)), Value.int .i64 (rd l (7 : Int))] ++ b16 (Sf 8 l (k + 1)) ++ b16 (Sf 24 l k))).toArray) p26_15_14 hE wn_none tS5 rfl rfl rfl rfl B_g7 (by show 5 + k + 1 ≤ 37; omega) (set_a (by omega) (fun i hi => Sf_old 8 l k i hi) (Sf_new 8 l k)) ?_)
          intro w22 B_g7' hk
          replace B_g1 := kp_blk B_g1 hk n_g1_g7
          replace K_0 := K_0.then_ hk (fun k h => by rw [show k = g7 from h]; exact Or.inr z_0_g7)
          replace B_g7 := B_g7'
          clear hk
          refine ⟨⟨(F_l _ K_0), trivial⟩, ?_⟩
          refine d_take (v := Value.pointer (some ⟨g7, (21 + k), none⟩)) p26_15_16 ns26_15 (by kernel_rfl) (by kernel_rfl) (fun _ _ _ h => h) hE wn_none rfl ⟨(F_l _ K_0), trivial⟩ (fun W hS => (st_indexAddrA (l := 16) (i := k) Try.underlying22 tS5 rfl rfl (by omega) (by omega))) rfl ?_
          clear hE a; intro a hE
          refine d_one (by kernel_rfl) rfl (s_store (off := (21 + k)) (k := 1) (cs' := (([Value.int .i64 ((((rd l (0 : Int)) % 16) * 16) + ((rd l (1 : Int)) / 16)), Value.int .i64 (((((rd l (1 : Int)) % 16) * 65536) + ((rd l (2 : Int)) * 256)) + (rd l (3 : Int))), Value.int .i64 (((rd l (4 : Int)) * 256) + (rd l (5 : Int))), Value.int .i64 (rd l (6 : Int)), Value.int .i64 (rd l (7 : Int))] ++ b16 (Sf 8 l (k + 1)) ++ b16 (Sf 24 l (k + 1)))).toArray) p26_15_17 hE wn_none tS5 rfl rfl rfl rfl B_g7 (by show 21 + k + 1 ≤ 37; omega) (set_b (by omega) (fun i hi => Sf_old 24 l k i hi) (Sf_new 24 l k)) ?_)
          intro w23 B_g7' hk
          replace B_g1 := kp_blk B_g1 hk n_g1_g7
          replace K_0 := K_0.then_ hk (fun k h => by rw [show k = g7 from h]; exact Or.inr z_0_g7)
          replace B_g7 := B_g7'
          clear hk
          refine ⟨⟨(F_l _ K_0), trivial⟩, ?_⟩
          refine d_end (by kernel_rfl) ?_
          refine x_normB ?_
          refine x_norm ?_
          refine c_regL R26_14_l ?_
          refine p_cons (s_still p26_14_0 hE wn_none rfl (st_move rfl) ?_)
          clear hE a; intro a hE
          refine p_cons (s_still p26_14_1 hE wn_none rfl (st_add (z := (k : Int) + 1) rfl rfl (wr_i64 _ (by omega) (by omega))) ?_)
          clear hE a; intro a hE
          refine p_cons (s_still p26_14_2 hE wn_none rfl (st_assign rfl) ?_)
          clear hE a; intro a hE
          refine p_nil ?_
          refine x_norm ?_
          exact ⟨k + 1, by omega, En.sub hE ⟨rfl, rfl, rfl, rfl, rfl, rfl, rfl, rfl, rfl, trivial⟩, by omega, B_g1, B_g7, K_0⟩
        ·
          refine p_cons (s_still (v := Value.bool false) p26_13_1 hE wn_none rfl (st_lss rfl rfl (decide_eq_false hc20)) ?_)
          clear hE a; intro a hE
          refine p_nil ?_
          refine x_norm ?_
          refine c_cond (t := false) hE rfl ?_
          refine wp_exit ?_
          refine x_exit ?_
          refine x_exit ?_
          obtain rfl : k = 16 := by omega
          refine x_in ?_
          refine x_norm ?_
          refine wp_seq ?_
          refine c_reg R26_16_l ?_
          refine p_cons (s_still p26_16_0 hE wn_none rfl (st_move rfl) ?_)
          clear hE a; intro a hE
          refine p_cons (s_still p26_16_1 hE wn_none rfl (st_len Try.underlying36 rfl) ?_)
          clear hE a; intro a hE
          refine p_cons (s_still p26_16_2 hE wn_none rfl (st_sub (z := (l.length : Int) - 40) rfl rfl (wr_i64 _ (by omega) (by omega))) ?_)
          clear hE a; intro a hE
          refine p_cons (s_still p26_16_3 hE wn_none rfl (st_fieldAddr Try.underlying24 rfl tS3 rfl rfl) ?_)
          clear hE a; intro a hE
          refine p_cons (s_still (v := Value.int .i64 (((rd l (4 : Int)) * 256) + (rd l (5 : Int)))) p26_16_4 hE wn_none rfl (st_load1 tA3 rfl ((blk_cell B_g7 2).trans rfl)) ?_)
          clear hE a; intro a hE
          rcases Decidable.em ((l.length : Int) - 40 < ((rd l (4 : Int)) * 256) + (rd l (5 : Int))) with hc24 | hc24
          ·
            refine p_cons (s_still (v := Value.bool true) p26_16_5 hE wn_none rfl (st_lss rfl rfl (decide_eq_true hc24)) ?_)
            clear hE a; intro a hE
            refine p_nil ?_
            refine x_norm ?_
            refine c_cond (t := true) hE rfl ?_
            refine c_reg R26_17_l ?_
            refine p_cons (s_still p26_17_0 hE wn_none rfl (st_build (xs := []) (vs := []) (cs := (([Value.int .i64 0, Value.int .i64 0, Value.int .i64 0, Value.int .i64 0, Value.int .i64 0] ++ b16 (fun _ => 0) ++ b16 (fun _ => 0))).toArray) rfl (by kernel_rfl)) ?_)
            clear hE a; intro a hE
            refine p_cons (s_store (off := 0) (k := 37) (cs' := (([Value.int .i64 0, Value.int .i64 0, Value.int .i64 0, Value.int .i64 0, Value.int .i64 0] ++ b16 (fun _ => 0) ++ b16 (fun _ => 0))).toArray) p26_17_1 hE wn_none tS24 rfl rfl rfl rfl B_g1 (Nat.le_of_ble_eq_true rfl) rfl ?_)
            intro w25 B_g1' hk
            replace B_g7 := kp_blk B_g7 hk (Ne.symm n_g1_g7)
            replace K_0 := K_0.then_ hk (fun k h => by rw [show k = g1 from h]; exact Or.inr z_0_g1)
            replace B_g1 := B_g1'
            clear hk
            refine p_cons (s_still p26_17_2 hE wn_none rfl (st_assign rfl) ?_)
            clear hE a; intro a hE
            refine p_cons (s_still p26_17_3 hE wn_none rfl (st_assign rfl) ?_)
            clear hE a; intro a hE
            refine p_nil ?_
            refine x_norm ?_
            refine wp_ret ?_
            refine x_ret ?_
            refine ret_list (rs := [.cell 2 24, .tmp 3, .tmp 4]) (vs := [Value.agg (([Value.int .i64 0, Value.int .i64 0, Value.int .i64 0, Value.int .i64 0, Value.int .i64 0] ++ b16 (fun _ => 0) ++ b16 (fun _ => 0))).toArray, Value.slice none 0 0, Value.int .i64 4]) rfl hE (.cellN (us := ([Value.int .i64 0, Value.int .i64 0, Value.int .i64 0, Value.int .i64 0, Value.int .i64 0] ++ b16 (fun _ => 0) ++ b16 (fun _ => 0))) tA24 tS24 rfl B_g1 rfl (.tmp rfl (.tmp rfl .nil))) rfl ?_
            exact hfew (by omega) (by omega) (by omega) _ K_0
          ·
            refine p_cons (s_still (v := Value.bool false) p26_16_5 hE wn_none rfl (st_lss rfl rfl (decide_eq_false hc24)) ?_)
            clear hE a; intro a hE
            refine p_nil ?_
            refine x_norm ?_
            refine c_cond (t := false) hE rfl ?_
            refine wp_skip ?_
            refine x_norm ?_
            refine wp_seq ?_
            refine c_reg R26_18_l ?_
            refine p_cons (s_still p26_18_0 hE wn_none rfl (st_move rfl) ?_)
            clear hE a; intro a hE
            refine p_cons (s_still p26_18_1 hE wn_none rfl (st_len Try.underlying36 rfl) ?_)
            clear hE a; intro a hE
            refine p_cons (s_still p26_18_2 hE wn_none rfl (st_sub (z := (l.length : Int) - 40) rfl rfl (wr_i64 _ (by omega) (by omega))) ?_)
            clear hE a; intro a hE
            refine p_cons (s_still p26_18_3 hE wn_none rfl (st_fieldAddr Try.underlying24 rfl tS3 rfl rfl) ?_)
            clear hE a; intro a hE
            refine p_cons (s_still (v := Value.int .i64 (((rd l (4 : Int)) * 256) + (rd l (5 : Int)))) p26_18_4 hE wn_none rfl (st_load1 tA3 rfl ((blk_cell B_g7 2).trans rfl)) ?_)
            clear hE a; intro a hE
            rcases Decidable.em (((rd l (4 : Int)) * 256) + (rd l (5 : Int)) < (l.length : Int) - 40) with hc26 | hc26
            ·
              refine p_cons (s_still (v := Value.bool true) p26_18_5 hE wn_none rfl (st_gtr rfl rfl (decide_eq_true hc26)) ?_)
              clear hE a; intro a hE
              refine p_nil ?_
              refine x_norm ?_
              refine c_cond (t := true) hE rfl ?_
              refine c_reg R26_19_l ?_
              refine p_cons (s_still p26_19_0 hE wn_none rfl (st_build (xs := []) (vs := []) (cs := (([Value.int .i64 0, Value.int .i64 0, Value.int .i64 0, Value.int .i64 0, Value.int .i64 0] ++ b16 (fun _ => 0) ++ b16 (fun _ => 0))).toArray) rfl (by kernel_rfl)) ?_)
              clear hE a; intro a hE
              refine p_cons (s_store (off := 0) (k := 37) (cs' := (([Value.int .i64 0, Value.int .i64 0, Value.int .i64 0, Value.int .i64 0, Value.int .i64 0] ++ b16 (fun _ => 0) ++ b16 (fun _ => 0))).toArray) p26_19_1 hE wn_none tS24 rfl rfl rfl rfl B_g1 (Nat.le_of_ble_eq_true rfl) rfl ?_)
              intro w27 B_g1' hk
              replace B_g7 := kp_blk B_g7 hk (Ne.symm n_g1_g7)
              replace K_0 := K_0.then_ hk (fun k h => by rw [show k = g1 from h]; exact Or.inr z_0_g1)
              replace B_g1 := B_g1'
              clear hk
              refine p_cons (s_still p26_19_2 hE wn_none rfl (st_assign rfl) ?_)
              clear hE a; intro a hE
              refine p_cons (s_still p26_19_3 hE wn_none rfl (st_assign rfl) ?_)
              clear hE a; intro a hE
              refine p_nil ?_
              refine x_norm ?_
              refine wp_ret ?_
              refine x_ret ?_
              refine ret_list (rs := [.cell 2 24, .tmp 3, .tmp 4]) (vs := [Value.agg (([Value.int .i64 0, Value.int .i64 0, Value.int .i64 0, Value.int .i64 0, Value.int .i64 0] ++ b16 (fun _ => 0) ++ b16 (fun _ => 0))).toArray, Value.slice none 0 0, Value.int .i64 3]) rfl hE (.cellN (us := ([Value.int .i64 0, Value.int .i64 0, Value.int .i64 0, Value.int .i64 0, Value.int .i64 0] ++ b16 (fun _ => 0) ++ b16 (fun _ => 0))) tA24 tS24 rfl B_g1 rfl (.tmp rfl (.tmp rfl .nil))) rfl ?_
              first | exact hver (by omega) _ K_0 | exact hmany (by omega) (by omega) (by omega) _ K_0
            ·
              refine p_cons (s_still (v := Value.bool false) p26_18_5 hE wn_none rfl (st_gtr rfl rfl (decide_eq_false hc26)) ?_)
              clear hE a; intro a hE
              refine p_nil ?_
              refine x_norm ?_
              refine c_cond (t := false) hE rfl ?_
              refine wp_skip ?_
              refine x_norm ?_
              refine c_drawS (S := fun W => W.heap[g7]? = some (.cells (([Value.int .i64 ((((rd l (0 : Int)) % 16) * 16) + ((rd l (1 : Int)) / 16)), Value.int .i64 (((((rd l (1 : Int)) % 16) * 65536) + ((rd l (2 : Int)) * 256)) + (rd l (3 : Int))), Value.int .i64 (((rd l (4 : Int)) * 256) + (rd l (5 : Int))), Value.int .i64 (rd l (6 : Int)), Value.int .i64 (rd l (7 : Int))] ++ b16 (Sf 8 l 16) ++ b16 (Sf 24 l 16))).toArray 24 (0, 0)) ∧ True) rfl rfl (listed := #[false, false, false, false, false, false]) rfl ?_
              intro w28 hh hk
              replace B_g1 := kp_blk B_g1 hk (fun h => h)
              replace B_g7 := kp_blk B_g7 hk (fun h => h)
              replace K_0 := K_0.then_ hk (fun _ h => h.elim)
              clear hh hk
              refine d_take (v := Value.agg (([Value.int .i64 ((((rd l (0 : Int)) % 16) * 16) + ((rd l (1 : Int)) / 16)), Value.int .i64 (((((rd l (1 : Int)) % 16) * 65536) + ((rd l (2 : Int)) * 256)) + (rd l (3 : Int))), Value.int .i64 (((rd l (4 : Int)) * 256) + (rd l (5 : Int))), Value.int .i64 (rd l (6 : Int)), Value.int .i64 (rd l (7 : Int))] ++ b16 (Sf 8 l 16) ++ b16 (Sf 24 l 16))).toArray) p26_20_0 ns26_20 (by kernel_rfl) (by kernel_rfl) (fun _ _ _ h => h) hE wn_none rfl ⟨B_g7, trivial⟩ (fun W hS => (st_loadN (off := 0) (k := 37) (vs := ([Value.int .i64 ((((rd l (0 : Int)) % 16) * 16) + ((rd l (1 : Int)) / 16)), Value.int .i64 (((((rd l (1 : Int)) % 16) * 65536) + ((rd l (2 : Int)) * 256)) + (rd l (3 : Int))), Value.int .i64 (((rd l (4 : Int)) * 256) + (rd l (5 : Int))), Value.int .i64 (rd l (6 : Int)), Value.int .i64 (rd l (7 : Int))] ++ b16 (Sf 8 l 16) ++ b16 (Sf 24 l 16))) tA24 tS24 rfl hS.1 rfl rfl)) rfl ?_
              clear hE a; intro a hE
              refine d_take (v := Value.slice (some ad) l.length c) p26_20_1 ns26_20 (by kernel_rfl) (by kernel_rfl) (fun _ _ _ h => h) hE wn_none rfl ⟨B_g7, trivial⟩ (fun W hS => (st_move rfl)) rfl ?_
              clear hE a; intro a hE
              refine d_take (v := Value.slice A9 (l.length - 40) (c - 40)) p26_20_2 ns26_20 (by kernel_rfl) (by kernel_rfl) (fun _ _ _ h => h) hE wn_none rfl ⟨B_g7, trivial⟩ (fun W hS => (st_sliceL (lo := 40) (r := l.length - 40) (q := c - 40) (A' := A9) Try.underlying36 tS5 rfl rfl (by omega) rfl rfl hA9)) rfl ?_
              clear hE a; intro a hE
              refine d_one (by kernel_rfl) rfl (s_store (off := 0) (k := 37) (cs' := (([Value.int .i64 ((((rd l (0 : Int)) % 16) * 16) + ((rd l (1 : Int)) / 16)), Value.int .i64 (((((rd l (1 : Int)) % 16) * 65536) + ((rd l (2 : Int)) * 256)) + (rd l (3 : Int))), Value.int .i64 (((rd l (4 : Int)) * 256) + (rd l (5 : Int))), Value.int .i64 (rd l (6 : Int)), Value.int .i64 (rd l (7 : Int))] ++ b16 (Sf 8 l 16) ++ b16 (Sf 24 l 16))).toArray) p26_20_3 hE wn_none tS24 rfl rfl rfl rfl B_g1 (Nat.le_of_ble_eq_true rfl) rfl ?_)
              intro w29 B_g1' hk
              replace B_g7 := kp_blk B_g7 hk (Ne.symm n_g1_g7)
              replace K_0 := K_0.then_ hk (fun k h => by rw [show k = g1 from h]; exact Or.inr z_0_g1)
              replace B_g1 := B_g1'
              clear hk
              refine ⟨⟨B_g7, trivial⟩, ?_⟩
              refine d_take (v := Value.slice A9 (l.length - 40) (c - 40)) p26_20_4 ns26_20 (by kernel_rfl) (by kernel_rfl) (fun _ _ _ h => h) hE wn_none rfl ⟨B_g7, trivial⟩ (fun W hS => (st_assign rfl)) rfl ?_
              clear hE a; intro a hE
              refine d_take (v := Value.int .i64 0) p26_20_5 ns26_20 (by kernel_rfl) (by kernel_rfl) (fun _ _ _ h => h) hE wn_none rfl ⟨B_g7, trivial⟩ (fun W hS => (st_assign rfl)) rfl ?_
              clear hE a; intro a hE
              refine d_end (by kernel_rfl) ?_
              refine x_norm ?_
              refine wp_ret ?_
              refine ret_list (rs := [.cell 2 24, .tmp 3, .tmp 4]) (vs := [Value.agg (([Value.int .i64 ((((rd l (0 : Int)) % 16) * 16) + ((rd l (1 : Int)) / 16)), Value.int .i64 (((((rd l (1 : Int)) % 16) * 65536) + ((rd l (2 : Int)) * 256)) + (rd l (3 : Int))), Value.int .i64 (((rd l (4 : Int)) * 256) + (rd l (5 : Int))), Value.int .i64 (rd l (6 : Int)), Value.int .i64 (rd l (7 : Int))] ++ b16 (Sf 8 l 16) ++ b16 (Sf 24 l 16))).toArray, Value.slice A9 (l.length - 40) (c - 40), Value.int .i64 0]) rfl hE (.cellN (us := ([Value.int .i64 ((((rd l (0 : Int)) % 16) * 16) + ((rd l (1 : Int)) / 16)), Value.int .i64 (((((rd l (1 : Int)) % 16) * 65536) + ((rd l (2 : Int)) * 256)) + (rd l (3 : Int))), Value.int .i64 (((rd l (4 : Int)) * 256) + (rd l (5 : Int))), Value.int .i64 (rd l (6 : Int)), Value.int .i64 (rd l (7 : Int))] ++ b16 (Sf 8 l 16) ++ b16 (Sf 24 l 16))) tA24 tS24 rfl B_g1 rfl (.tmp rfl (.tmp rfl .nil))) rfl ?_
              exact hok (by omega) (by omega) (by omega) _ _ _ (by omega) (by omega) (cut_row (F_l _ K_0) hlc (by omega) hA9) K_0
  ·
    refine p_cons (s_still (v := Value.bool true) p26_3_4 hE wn_none rfl (st_neq rfl rfl (by simp [hc4])) ?_)
    clear hE a; intro a hE
    refine p_nil ?_
    refine x_norm ?_
    refine c_cond (t := true) hE rfl ?_
    refine c_reg R26_4_l ?_
    refine p_cons (s_still p26_4_0 hE wn_none rfl (st_build (xs := []) (vs := []) (cs := (([Value.int .i64 0, Value.int .i64 0, Value.int .i64 0, Value.int .i64 0, Value.int .i64 0] ++ b16 (fun _ => 0) ++ b16 (fun _ => 0))).toArray) rfl (by kernel_rfl)) ?_)
    clear hE a; intro a hE
    refine p_cons (s_store (off := 0) (k := 37) (cs' := (([Value.int .i64 0, Value.int .i64 0, Value.int .i64 0, Value.int .i64 0, Value.int .i64 0] ++ b16 (fun _ => 0) ++ b16 (fun _ => 0))).toArray) p26_4_1 hE wn_none tS24 rfl rfl rfl rfl B_g1 (Nat.le_of_ble_eq_true rfl) rfl ?_)
    intro w30 B_g1' hk
    replace K_0 := K_0.then_ hk (fun k h => by rw [show k = g1 from h]; exact Or.inr z_0_g1)
    replace B_g1 := B_g1'
    clear hk
    refine p_cons (s_still p26_4_2 hE wn_none rfl (st_assign rfl) ?_)
    clear hE a; intro a hE
    refine p_cons (s_still p26_4_3 hE wn_none rfl (st_assign rfl) ?_)
    clear hE a; intro a hE
    refine p_nil ?_
    refine x_norm ?_
    refine wp_ret ?_
    refine x_ret ?_
    refine ret_list (rs := [.cell 2 24, .tmp 3, .tmp 4]) (vs := [Value.agg (([Value.int .i64 0, Value.int .i64 0, Value.int .i64 0, Value.int .i64 0, Value.int .i64 0] ++ b16 (fun _ => 0) ++ b16 (fun _ => 0))).toArray, Value.slice none 0 0, Value.int .i64 3]) rfl hE (.cellN (us := ([Value.int .i64 0, Value.int .i64 0, Value.int .i64 0, Value.int .i64 0, Value.int .i64 0] ++ b16 (fun _ => 0) ++ b16 (fun _ => 0))) tA24 tS24 rfl B_g1 rfl (.tmp rfl (.tmp rfl .nil))) rfl ?_
    first | exact hver (by omega) _ K_0 | exact hmany (by omega) (by omega) (by omega) _ K_0
theorem rdec_ver (ad : Addr) (c : Nat) (l : List Int) (hby : ∀ x ∈ l, 0 ≤ x ∧ x ≤ 255) (hlc : l.length ≤ c) (hcm : c ≤ 9223372036854775807) (hlm : l.length ≤ 140737488355328) (hlo : 40 ≤ l.length) (h0 : ¬ rd l (0 : Int) / 16 = 6) (w : World) (hC : Kd.C (Kd.int .u8) w (some ad) l.length l) : Calls Try.prog 26 #[.slice (some ad) l.length c] w (fun e w' => e = .returned (.tuple #[Value.agg (([Value.int .i64 0, Value.int .i64 0, Value.int .i64 0, Value.int .i64 0, Value.int .i64 0] ++ b16 (fun _ => 0) ++ b16 (fun _ => 0))).toArray, .slice none 0 0, .int .i64 3]) ∧ Kp w w' (fun _ => False)) :=
  rdec_rest ad c l hby hlc hcm hlm hlo w hC (fun _ w' hk => ⟨rfl, hk⟩) (fun g0 g1 => absurd h0 (by omega)) (fun g0 g1 g2 => absurd h0 (by omega)) (fun g0 g1 g2 => absurd h0 (by omega)) (fun g0 g1 g2 => absurd h0 (by omega))
theorem rdec_long (ad : Addr) (c : Nat) (l : List Int) (hby : ∀ x ∈ l, 0 ≤ x ∧ x ≤ 255) (hlc : l.length ≤ c) (hcm : c ≤ 9223372036854775807) (hlm : l.length ≤ 140737488355328) (hlo : 40 ≤ l.length) (h0 : rd l (0 : Int) / 16 = 6) (h1 : 1280 < l.length) (w : World) (hC : Kd.C (Kd.int .u8) w (some ad) l.length l) : Calls Try.prog 26 #[.slice (some ad) l.length c] w (fun e w' => e = .returned (.tuple #[Value.agg (([Value.int .i64 0, Value.int .i64 0, Value.int .i64 0, Value.int .i64 0, Value.int .i64 0] ++ b16 (fun _ => 0) ++ b16 (fun _ => 0))).toArray, .slice none 0 0, .int .i64 2]) ∧ Kp w w' (fun _ => False)) :=
  rdec_rest ad c l hby hlc hcm hlm hlo w hC (fun g0 => absurd h1 (by omega)) (fun _ _ w' hk => ⟨rfl, hk⟩) (fun g0 g1 g2 => absurd h1 (by omega)) (fun g0 g1 g2 => absurd h1 (by omega)) (fun g0 g1 g2 => absurd h1 (by omega))
theorem rdec_few (ad : Addr) (c : Nat) (l : List Int) (hby : ∀ x ∈ l, 0 ≤ x ∧ x ≤ 255) (hlc : l.length ≤ c) (hcm : c ≤ 9223372036854775807) (hlm : l.length ≤ 140737488355328) (hlo : 40 ≤ l.length) (h0 : rd l (0 : Int) / 16 = 6) (h1 : ¬ 1280 < l.length) (h2 : (l.length : Int) - 40 < ((rd l (4 : Int)) * 256 + (rd l (5 : Int)))) (w : World) (hC : Kd.C (Kd.int .u8) w (some ad) l.length l) : Calls Try.prog 26 #[.slice (some ad) l.length c] w (fun e w' => e = .returned (.tuple #[Value.agg (([Value.int .i64 0, Value.int .i64 0, Value.int .i64 0, Value.int .i64 0, Value.int .i64 0] ++ b16 (fun _ => 0) ++ b16 (fun _ => 0))).toArray, .slice none 0 0, .int .i64 4]) ∧ Kp w w' (fun _ => False)) :=
  rdec_rest ad c l hby hlc hcm hlm hlo w hC (fun g0 => absurd h2 (by omega)) (fun g0 g1 => absurd h2 (by omega)) (fun _ _ _ w' hk => ⟨rfl, hk⟩) (fun g0 g1 g2 => absurd h2 (by omega)) (fun g0 g1 g2 => absurd h2 (by omega))
theorem rdec_many (ad : Addr) (c : Nat) (l : List Int) (hby : ∀ x ∈ l, 0 ≤ x ∧ x ≤ 255) (hlc : l.length ≤ c) (hcm : c ≤ 9223372036854775807) (hlm : l.length ≤ 140737488355328) (hlo : 40 ≤ l.length) (h0 : rd l (0 : Int) / 16 = 6) (h1 : ¬ 1280 < l.length) (h2 : ((rd l (4 : Int)) * 256 + (rd l (5 : Int))) < (l.length : Int) - 40) (w : World) (hC : Kd.C (Kd.int .u8) w (some ad) l.length l) : Calls Try.prog 26 #[.slice (some ad) l.length c] w (fun e w' => e = .returned (.tuple #[Value.agg (([Value.int .i64 0, Value.int .i64 0, Value.int .i64 0, Value.int .i64 0, Value.int .i64 0] ++ b16 (fun _ => 0) ++ b16 (fun _ => 0))).toArray, .slice none 0 0, .int .i64 3]) ∧ Kp w w' (fun _ => False)) :=
  rdec_rest ad c l hby hlc hcm hlm hlo w hC (fun g0 => absurd h2 (by omega)) (fun g0 g1 => absurd h2 (by omega)) (fun g0 g1 g2 => absurd h2 (by omega)) (fun _ _ _ w' hk => ⟨rfl, hk⟩) (fun g0 g1 g2 => absurd h2 (by omega))
theorem rdec_ok (ad : Addr) (c : Nat) (l : List Int) (hby : ∀ x ∈ l, 0 ≤ x ∧ x ≤ 255) (hlc : l.length ≤ c) (hcm : c ≤ 9223372036854775807) (hlm : l.length ≤ 140737488355328) (hlo : 40 ≤ l.length) (h0 : rd l (0 : Int) / 16 = 6) (h1 : ¬ 1280 < l.length) (h2 : (l.length : Int) - 40 = ((rd l (4 : Int)) * 256 + (rd l (5 : Int)))) (w : World) (hC : Kd.C (Kd.int .u8) w (some ad) l.length l) : Calls Try.prog 26 #[.slice (some ad) l.length c] w fun e w' => ∃ A' c', e = .returned (.tuple #[Value.agg (([Value.int .i64 ((rd l (0 : Int)) % 16 * 16 + (rd l (1 : Int)) / 16), Value.int .i64 ((rd l (1 : Int)) % 16 * 65536 + (rd l (2 : Int)) * 256 + (rd l (3 : Int))), Value.int .i64 ((rd l (4 : Int)) * 256 + (rd l (5 : Int))), Value.int .i64 (rd l (6 : Int)), Value.int .i64 (rd l (7 : Int))] ++ b16 (Sf 8 l 16) ++ b16 (Sf 24 l 16))).toArray, .slice A' (l.length - 40) c', .int .i64 0]) ∧ l.length - 40 ≤ c' ∧ c' ≤ c ∧ Kd.C (Kd.int .u8) w' A' (l.length - 40) (l.drop 40) ∧ Kp w w' (fun _ => False) :=
  rdec_rest ad c l hby hlc hcm hlm hlo w hC (fun g0 => absurd g0 (by omega)) (fun g0 g1 => absurd g1 (by omega)) (fun g0 g1 g2 => absurd g2 (by omega)) (fun g0 g1 g2 => absurd g2 (by omega)) (fun _ _ _ A' c' w' x1 x2 x3 hk => ⟨A', c', rfl, x1, x2, x3, hk⟩)
end Go.Proofs.Ytndiddfleidnaaa.Rdec
