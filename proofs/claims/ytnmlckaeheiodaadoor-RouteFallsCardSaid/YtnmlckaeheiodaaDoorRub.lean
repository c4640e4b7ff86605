/- Layer 21: Word; Trace at the chapter's example; known. -/
import Derived.Test.YtnmlckaeheiodaaDoorRua
import Derived.Test.YtnmlckaeheiodaaDoorShn
import Derived.LoopN
set_option maxRecDepth 100000
set_option linter.unusedVariables false
set_option linter.unusedSimpArgs false
namespace Go.Proofs.YtnmlckaeheiodaaDoor.Rw
open Go.RowKit Go.Proofs.YtnmlckaeheiodaaDoorW.PrintWords Go.Proofs.YtnmlckaeheiodaaDoor.Ds Go.Proofs.YtnmlckaeheiodaaDoor.Lol Go.Proofs.YtnmlckaeheiodaaDoor.Ra Go.Proofs.YtnmlckaeheiodaaDoor.Rd19 Go.Proofs.YtnmlckaeheiodaaDoor.Rg Go.Proofs.YtnmlckaeheiodaaDoor.Rt Go.Proofs.YtnmlckaeheiodaaDoor.Ru
open Go.Proofs.YtnmlckaeheiodaaDoor.Pk (Kp)
open Go.Proofs.YtnmlckaeheiodaaDoor.Mi (st_eqlP x_retS MapI getI putI)
/-- The library's table of spaces holds what it was laid with. -/
def Tx (w : World) : Prop := Lib.TabIs Tryd.prog w "strings.asciiSpace" .u8 Lib.asciiSpaceTab
theorem tx_keep {w W : World} (h : Tx w) (hk : Kp w W (fun _ => False)) : Tx W := by
 unfold Tx Lib.TabIs World.var? at *
 cases hg : Tryd.prog.globalNamed "strings.asciiSpace" with
 | none => rw [hg] at h; exact h
 | some g =>
  rw [hg] at h
  have h2 : (match w.heap[g]? with | some (.cells cs _ _) => some cs | _ => none) = some (Lib.asciiSpaceTab.map fun z => Value.int .u8 z).toArray := h
  show (match W.heap[g]? with | some (.cells cs _ _) => some cs | _ => none) = some (Lib.asciiSpaceTab.map fun z => Value.int .u8 z).toArray
  rcases Nat.lt_or_ge g w.heap.size with q | q
  · rw [hk.kept.2 g q (fun h => h)]; exact h2
  · rw [Array.getElem?_eq_none q] at h2; cases h2
def wordsB : ByteArray := { data := #[104, 101, 114, 101, 32, 100, 111, 119, 110, 32, 117, 112, 32, 98, 97, 99, 107, 32, 110, 111, 119, 104, 101, 114, 101] }
theorem words_f : Lib.fields wordsB.data.toList = [[104, 101, 114, 101], [100, 111, 119, 110], [117, 112], [98, 97, 99, 107], [110, 111, 119, 104, 101, 114, 101]] := by decide +kernel
theorem words_fields : (Lib.fields wordsB.data.toList).map (fun l => Value.string ⟨l.toArray⟩) = [.string ({ data := #[104, 101, 114, 101] } : ByteArray), .string ({ data := #[100, 111, 119, 110] } : ByteArray), .string ({ data := #[117, 112] } : ByteArray), .string ({ data := #[98, 97, 99, 107] } : ByteArray), .string ({ data := #[110, 111, 119, 104, 101, 114, 101] } : ByteArray)] := by rw [words_f]; rfl
theorem words_a : ∀ b ∈ wordsB.data.toList, b.toNat < 128 := by decide +kernel
theorem words_len : (Lib.fields wordsB.data.toList).length = 5 := by decide +kernel
theorem fields_w (w : World) (hT : Tx w) : Calls Tryd.prog 25 #[.string wordsB] w fun e w' => ∃ g, e = .returned (.slice (some ⟨g, 0, none⟩) 5 5) ∧ w.heap.size ≤ g ∧ w'.heap[g]? = some (.cells #[.string ({ data := #[104, 101, 114, 101] } : ByteArray), .string ({ data := #[100, 111, 119, 110] } : ByteArray), .string ({ data := #[117, 112] } : ByteArray), .string ({ data := #[98, 97, 99, 107] } : ByteArray), .string ({ data := #[110, 111, 119, 104, 101, 114, 101] } : ByteArray)] 9 (0, 0)) ∧ Kp w w' (fun _ => False) := by
 refine (Any.strings_Fields_laid Tryd.fieldsA wordsB w (by decide) (fun j b h => words_a b (List.mem_of_getElem? h)) hT).mono ?_
 rintro e w' ⟨rfl, rfl⟩
 rw [words_len, words_fields]
 exact ⟨_, rfl, Nat.le_refl _, Pk.blk_new _ _ _, Kp.of_below (Pk.below_new _ _) _⟩
def wordF (k : Int) : ByteArray := if k = 0 then { data := #[104, 101, 114, 101] } else if k = 1 then { data := #[100, 111, 119, 110] } else if k = 2 then { data := #[117, 112] } else if k = 3 then { data := #[98, 97, 99, 107] } else if k = 4 then { data := #[110, 111, 119, 104, 101, 114, 101] } else { data := #[] }
theorem word_no {k : Int} (h : ¬ (0 ≤ k ∧ k < 5)) : wordF k = { data := #[] } := by
 unfold wordF
 rw [if_neg (by omega), if_neg (by omega), if_neg (by omega), if_neg (by omega), if_neg (by omega)]
section
variable {P : Program} {T1 T2 T : TypeId} {m : List (Nat × Value)} {w : World} {X Y : Operand}
end
theorem R10_0_l : List.range (regOf Tryd.f10 0).size = [0] := by kernel_rfl
theorem R10_1_l : List.range (regOf Tryd.f10 1).size = [0, 1] := by kernel_rfl
theorem R10_2_l : List.range (regOf Tryd.f10 2).size = [0, 1, 2, 3, 4, 5, 6, 7] := by kernel_rfl
theorem R10_3_l : List.range (regOf Tryd.f10 3).size = [0] := by kernel_rfl
theorem R10_4_l : List.range (regOf Tryd.f10 4).size = [0, 1, 2, 3, 4] := by kernel_rfl
theorem body10 : Tryd.f10.body = some (.seq (.region 0 (regOf Tryd.f10 0) false) (.seq (.region 1 (regOf Tryd.f10 1) false) (.seq (.seq (.region 2 (regOf Tryd.f10 2) false) (.cond (Operand.tmp 12) (.seq (.region 3 (regOf Tryd.f10 3) false) (.ret)) (.skip))) (.seq (.region 4 (regOf Tryd.f10 4) false) (.ret))))) := by kernel_rfl
theorem p10_0_0 : pj (regOf Tryd.f10 0) 0 = some (some 2, .assign (.const (.string { data := #[] })), 9, none) := by kernel_rfl
theorem P10_1 : (List.range (regOf Tryd.f10 1).size).map (pj (regOf Tryd.f10 1)) = [some (some 4, .call { callee := .value (.func 25), args := #[.const (.string { data := #[104, 101, 114, 101, 32, 100, 111, 119, 110, 32, 117, 112, 32, 98, 97, 99, 107, 32, 110, 111, 119, 104, 101, 114, 101] })], argTypes := #[9] }, 69, none), some (some 3, .assign (.tmp 4), 69, none)] := by kernel_rfl
theorem cl25 : callable Tryd.f25 = true := by kernel_rfl
theorem P10_2 : (List.range (regOf Tryd.f10 2).size).map (pj (regOf Tryd.f10 2)) = [some (some 5, .move (.tmp 0), 3, none), some (some 6, .binOp .lss 3 (.tmp 5) (.const (.int .i64 0)) 3, 4, none), some (some 7, .move (.tmp 6), 4, none), some (some 8, .move (.tmp 0), 3, some (2, false)), some (some 9, .move (.tmp 3), 69, some (2, false)), some (some 10, .call { callee := .builtin .len, args := #[.tmp 9], argTypes := #[69] }, 3, some (2, false)), some (some 11, .binOp .geq 3 (.tmp 8) (.tmp 10) 3, 4, some (2, false)), some (some 12, .pick (.tmp 7) (.const (.bool true)) (.tmp 11), 4, none)] := by kernel_rfl
theorem g10_2_2 : dstOf (regOf Tryd.f10 2) 2 = some 7 := by kernel_rfl
theorem p10_3_0 : pj (regOf Tryd.f10 3) 0 = some (some 2, .assign (.const (.string { data := #[] })), 9, none) := by kernel_rfl
theorem P10_4 : (List.range (regOf Tryd.f10 4).size).map (pj (regOf Tryd.f10 4)) = [some (some 13, .move (.tmp 3), 69, none), some (some 14, .move (.tmp 0), 3, none), some (some 15, .indexAddr 69 (.tmp 13) (.tmp 14), 0, none), some (some 16, .load 9 (.tmp 15), 9, none), some (some 2, .assign (.tmp 16), 9, none)] := by kernel_rfl
theorem tS9 : (Tryd.prog.info? 9).map (·.size) = some 1 := by kernel_rfl
theorem tA9 : (Tryd.prog.underlying 9).map aggD = some false := by kernel_rfl
set_option maxHeartbeats 4000000 in
theorem word_any (kk : Int) (w : World) (hT : Tx w) : Calls Tryd.prog 10 #[.int .i64 kk] w fun e w' => e = .returned (.string (wordF kk)) ∧ Kp w w' (fun _ => False) := by
 have K_0 := Kp.refl w (fun _ => False)
 refine enter (args := [Value.int .i64 kk]) (n := 17) Tryd.func10 body10 rfl rfl rfl ?_
 intro a hE
 refine c_reg R10_0_l ?_
 refine q0 p10_0_0 hE (st_assign rfl) ?_; clear hE a; intro a hE
 refine p_nil (x_norm (c_reg R10_1_l ?_))
 refine p_cons (s_call (xs := [Operand.const (Value.string { data := #[104, 101, 114, 101, 32, 100, 111, 119, 110, 32, 117, 112, 32, 98, 97, 99, 107, 32, 110, 111, 119, 104, 101, 114, 101] })]) (args := [(Value.string { data := #[104, 101, 114, 101, 32, 100, 111, 119, 110, 32, 117, 112, 32, 98, 97, 99, 107, 32, 110, 111, 119, 104, 101, 114, 101] })]) (pl P10_1 0) hE wn_none rfl rfl Tryd.func25 cl25 (fields_w _ (tx_keep hT K_0)) ?_)
 rintro e w3 ⟨g1, rfl, z2, B_g1, hk⟩
 have z_0_g1 := Nat.le_trans K_0.kept.1 z2
 replace K_0 := K_0.then_ hk (fun _ h => h.elim)
 refine ⟨_, rfl, ?_⟩; clear hE a; intro a hE
 refine q0 (pl P10_1 1) hE (st_assign rfl) ?_; clear hE a; intro a hE
 refine p_nil (x_norm (wp_seq (c_reg R10_2_l ?_)))
 refine q0 (pl P10_2 0) hE (st_move rfl) ?_; clear hE a; intro a hE
 rcases Decidable.em (kk < 0) with hc4 | hc4
 ·
  refine qn hE (rg (v := Value.bool true) (pl P10_2 1) wn_none (st_lss rfl rfl (decide_eq_true hc4)) (rc (pl P10_2 2) (st_move rfl) (rk (pl P10_2 3) (wn_some g10_2_2 rfl rfl) (rk (pl P10_2 4) (wn_some g10_2_2 rfl rfl) (rk (pl P10_2 5) (wn_some g10_2_2 rfl rfl) (rk (pl P10_2 6) (wn_some g10_2_2 rfl rfl) (rc (pl P10_2 7) (st_pick rfl rfl) rn))))))) ?_; clear hE a; intro a hE
  refine p_nil (x_norm ?_)
  refine c_cond (t := true) hE rfl ?_
  refine c_reg R10_3_l ?_
  refine q0 p10_3_0 hE (st_assign rfl) ?_; clear hE a; intro a hE
  refine p_nil (x_norm (wp_ret (x_ret ?_)))
  refine ret_one (v := (Value.string { data := #[] })) rfl hE (.tmp rfl .nil) ?_
  exact ⟨by rw [word_no (by omega)], K_0⟩
 ·
  refine qn hE (rg (v := Value.bool false) (pl P10_2 1) wn_none (st_lss rfl rfl (decide_eq_false hc4)) (rc (pl P10_2 2) (st_move rfl) (rg (pl P10_2 3) (wn_some g10_2_2 rfl rfl) (st_move rfl) (rg (pl P10_2 4) (wn_some g10_2_2 rfl rfl) (st_move rfl) (rg (pl P10_2 5) (wn_some g10_2_2 rfl rfl) (st_len Tryd.underlying69 rfl) rn))))) ?_; clear hE a; intro a hE
  rcases Decidable.em (5 ≤ kk) with hc5 | hc5
  ·
   refine qn hE (rg (v := Value.bool true) (pl P10_2 6) (wn_some g10_2_2 rfl rfl) (st_geq rfl rfl (decide_eq_true hc5)) (rc (pl P10_2 7) (st_pick rfl rfl) rn)) ?_; clear hE a; intro a hE
   refine p_nil (x_norm ?_)
   refine c_cond (t := true) hE rfl ?_
   refine c_reg R10_3_l ?_
   refine q0 p10_3_0 hE (st_assign rfl) ?_; clear hE a; intro a hE
   refine p_nil (x_norm (wp_ret (x_ret ?_)))
   refine ret_one (v := (Value.string { data := #[] })) rfl hE (.tmp rfl .nil) ?_
   exact ⟨by rw [word_no (by omega)], K_0⟩
  ·
   refine qn hE (rg (v := Value.bool false) (pl P10_2 6) (wn_some g10_2_2 rfl rfl) (st_geq rfl rfl (decide_eq_false hc5)) (rc (pl P10_2 7) (st_pick rfl rfl) rn)) ?_; clear hE a; intro a hE
   refine p_nil (x_norm ?_)
   refine c_cond (t := false) hE rfl ?_
   refine wp_skip (x_norm ?_)
   rcases Decidable.em (kk = 0) with hk0 | hk0
   ·
    subst hk0
    refine c_reg R10_4_l ?_
    refine qn hE (rc (pl P10_4 0) (st_move rfl) (rc (pl P10_4 1) (st_move rfl) (rc (pl P10_4 2) (st_indexAddr (i := 0) Tryd.underlying69 tS9 rfl rfl (by decide) rfl) (rc (pl P10_4 3) (st_load1 tA9 rfl ((blk_cell B_g1 0).trans rfl)) (rc (pl P10_4 4) (st_assign rfl) rn))))) ?_; clear hE a; intro a hE
    refine p_nil (x_norm (wp_ret ?_))
    refine ret_one (v := Value.string ({ data := #[104, 101, 114, 101] } : ByteArray)) rfl hE (.tmp rfl .nil) ?_
    exact ⟨rfl, K_0⟩
   ·
    rcases Decidable.em (kk = 1) with hk1 | hk1
    ·
     subst hk1
     refine c_reg R10_4_l ?_
     refine qn hE (rc (pl P10_4 0) (st_move rfl) (rc (pl P10_4 1) (st_move rfl) (rc (pl P10_4 2) (st_indexAddr (i := 1) Tryd.underlying69 tS9 rfl rfl (by decide) rfl) (rc (pl P10_4 3) (st_load1 tA9 rfl ((blk_cell B_g1 1).trans rfl)) (rc (pl P10_4 4) (st_assign rfl) rn))))) ?_; clear hE a; intro a hE
     refine p_nil (x_norm (wp_ret ?_))
     refine ret_one (v := Value.string ({ data := #[100, 111, 119, 110] } : ByteArray)) rfl hE (.tmp rfl .nil) ?_
     exact ⟨rfl, K_0⟩
    ·
     rcases Decidable.em (kk = 2) with hk2 | hk2
     ·
      subst hk2
      refine c_reg R10_4_l ?_
      refine qn hE (rc (pl P10_4 0) (st_move rfl) (rc (pl P10_4 1) (st_move rfl) (rc (pl P10_4 2) (st_indexAddr (i := 2) Tryd.underlying69 tS9 rfl rfl (by decide) rfl) (rc (pl P10_4 3) (st_load1 tA9 rfl ((blk_cell B_g1 2).trans rfl)) (rc (pl P10_4 4) (st_assign rfl) rn))))) ?_; clear hE a; intro a hE
      refine p_nil (x_norm (wp_ret ?_))
      refine ret_one (v := Value.string ({ data := #[117, 112] } : ByteArray)) rfl hE (.tmp rfl .nil) ?_
      exact ⟨rfl, K_0⟩
     ·
      rcases Decidable.em (kk = 3) with hk3 | hk3
      ·
       subst hk3
       refine c_reg R10_4_l ?_
       refine qn hE (rc (pl P10_4 0) (st_move rfl) (rc (pl P10_4 1) (st_move rfl) (rc (pl P10_4 2) (st_indexAddr (i := 3) Tryd.underlying69 tS9 rfl rfl (by decide) rfl) (rc (pl P10_4 3) (st_load1 tA9 rfl ((blk_cell B_g1 3).trans rfl)) (rc (pl P10_4 4) (st_assign rfl) rn))))) ?_; clear hE a; intro a hE
       refine p_nil (x_norm (wp_ret ?_))
       refine ret_one (v := Value.string ({ data := #[98, 97, 99, 107] } : ByteArray)) rfl hE (.tmp rfl .nil) ?_
       exact ⟨rfl, K_0⟩
      ·
       obtain rfl : kk = 4 := by omega
       refine c_reg R10_4_l ?_
       refine qn hE (rc (pl P10_4 0) (st_move rfl) (rc (pl P10_4 1) (st_move rfl) (rc (pl P10_4 2) (st_indexAddr (i := 4) Tryd.underlying69 tS9 rfl rfl (by decide) rfl) (rc (pl P10_4 3) (st_load1 tA9 rfl ((blk_cell B_g1 4).trans rfl)) (rc (pl P10_4 4) (st_assign rfl) rn))))) ?_; clear hE a; intro a hE
       refine p_nil (x_norm (wp_ret ?_))
       refine ret_one (v := Value.string ({ data := #[110, 111, 119, 104, 101, 114, 101] } : ByteArray)) rfl hE (.tmp rfl .nil) ?_
       exact ⟨rfl, K_0⟩
theorem R45_0_l : List.range (regOf Tryd.f45 0).size = [0] := by kernel_rfl
theorem R45_1_l : List.range (regOf Tryd.f45 1).size = [0] := by kernel_rfl
theorem R45_2_l : List.range (regOf Tryd.f45 2).size = [0, 1] := by kernel_rfl
theorem R45_5_l : List.range (regOf Tryd.f45 5).size = [0, 1, 2, 3] := by kernel_rfl
theorem body45 : Tryd.f45.body = some (.seq (.region 0 (regOf Tryd.f45 0) false) (.seq (.seq (.region 1 (regOf Tryd.f45 1) false) (.block 0 (.seq (.seq (.region 2 (regOf Tryd.f45 2) false) (.cond (Operand.tmp 4) (.skip) (.seq (.region 3 (regOf Tryd.f45 3) false) (.cond (Operand.tmp 4) (.skip) (.region 4 (regOf Tryd.f45 4) false))))) (.cond (Operand.tmp 4) (.seq (.region 5 (regOf Tryd.f45 5) false) (.ret)) (.skip))))) (.seq (.region 6 (regOf Tryd.f45 6) false) (.ret)))) := by kernel_rfl
theorem p45_0_0 : pj (regOf Tryd.f45 0) 0 = some (some 2, .assign (.const (.int .i64 0)), 3, none) := by kernel_rfl
theorem p45_1_0 : pj (regOf Tryd.f45 1) 0 = some (some 3, .move (.tmp 0), 3, none) := by kernel_rfl
theorem P45_2 : (List.range (regOf Tryd.f45 2).size).map (pj (regOf Tryd.f45 2)) = [some (some 5, .binOp .eql 3 (.tmp 3) (.const (.int .i64 1)) 3, 4, none), some (some 4, .assign (.tmp 5), 4, none)] := by kernel_rfl
theorem P45_5 : (List.range (regOf Tryd.f45 5).size).map (pj (regOf Tryd.f45 5)) = [some (some 8, .move (.tmp 0), 3, none), some (some 9, .binOp .mul 3 (.const (.int .i64 8)) (.tmp 8) 3, 3, none), some (some 10, .binOp .shl 3 (.const (.int .i64 1)) (.tmp 9) 3, 3, none), some (some 2, .assign (.tmp 10), 3, none)] := by kernel_rfl
set_option maxHeartbeats 4000000 in
theorem span1 (w : World) : Calls Tryd.prog 45 #[.int .i64 1] w fun e w' => e = .returned (.int .i64 256) ∧ Kp w w' (fun _ => False) := by
 have K_0 := Kp.refl w (fun _ => False)
 refine enter (args := [Value.int .i64 1]) (n := 11) Tryd.func45 body45 rfl rfl rfl ?_
 intro a hE
 refine c_reg R45_0_l ?_
 refine q0 p45_0_0 hE (st_assign rfl) ?_; clear hE a; intro a hE
 refine p_nil (x_norm (wp_seq (c_reg R45_1_l ?_)))
 refine q0 p45_1_0 hE (st_move rfl) ?_; clear hE a; intro a hE
 refine p_nil (x_norm (wp_block (wp_seq (c_reg R45_2_l ?_))))
 refine qn hE (rc (pl P45_2 0) (st_eql (b := true) rfl rfl (by decide)) (rc (pl P45_2 1) (st_assign rfl) rn)) ?_; clear hE a; intro a hE
 refine p_nil (x_norm ?_)
 refine c_cond (t := true) hE rfl ?_
 refine wp_skip (x_norm ?_)
 refine c_cond (t := true) hE rfl ?_
 refine c_reg R45_5_l ?_
 refine qn hE (rc (pl P45_5 0) (st_move rfl) (rc (pl P45_5 1) (st_mul (z := 8) rfl rfl (by decide)) (rc (pl P45_5 2) (st_shl (z := 256) rfl rfl (by decide) (by decide) (by decide)) (rc (pl P45_5 3) (st_assign rfl) rn)))) ?_; clear hE a; intro a hE
 refine p_nil (x_norm (wp_ret (x_retB (x_ret ?_))))
 refine ret_one (v := Value.int .i64 256) rfl hE (.tmp rfl .nil) ?_
 exact ⟨rfl, K_0⟩
theorem R33_0_l : List.range (regOf Tryd.f33 0).size = [0] := by kernel_rfl
theorem R33_1_l : List.range (regOf Tryd.f33 1).size = [0, 1, 2] := by kernel_rfl
theorem R33_2_l : List.range (regOf Tryd.f33 2).size = [0, 1, 2] := by kernel_rfl
theorem R33_3_l : List.range (regOf Tryd.f33 3).size = [0] := by kernel_rfl
theorem R33_4_l : List.range (regOf Tryd.f33 4).size = [0, 1, 2] := by kernel_rfl
theorem R33_5_l : List.range (regOf Tryd.f33 5).size = [0, 1, 2, 3, 4, 5, 6] := by kernel_rfl
theorem R33_7_l : List.range (regOf Tryd.f33 7).size = [0, 1] := by kernel_rfl
theorem R33_8_l : List.range (regOf Tryd.f33 8).size = [0, 1, 2] := by kernel_rfl
theorem body33 : Tryd.f33.body = some (.seq (.region 0 (regOf Tryd.f33 0) false) (.seq (.region 1 (regOf Tryd.f33 1) false) (.seq (.seq (.region 2 (regOf Tryd.f33 2) false) (.block 0 (.loop (.seq (.region 3 (regOf Tryd.f33 3) false) (.seq (.cond (Operand.tmp 13) (.skip) (.exit 0)) (.seq (.block 1 (.seq (.region 4 (regOf Tryd.f33 4) false) (.seq (.region 5 (regOf Tryd.f33 5) false) (.cond (Operand.tmp 22) (.seq (.region 6 (regOf Tryd.f33 6) false) (.ret)) (.skip))))) (.region 7 (regOf Tryd.f33 7) false))))))) (.seq (.region 8 (regOf Tryd.f33 8) false) (.ret))))) := by kernel_rfl
theorem p33_0_0 : pj (regOf Tryd.f33 0) 0 = some (some 4, .assign (.const (.bool false)), 4, none) := by kernel_rfl
theorem P33_1 : (List.range (regOf Tryd.f33 1).size).map (pj (regOf Tryd.f33 1)) = [some (some 8, .move (.tmp 0), 3, none), some (some 9, .call { callee := .value (.func 45), args := #[.tmp 8], argTypes := #[3] }, 3, none), some (some 5, .assign (.tmp 9), 3, none)] := by kernel_rfl
theorem cl45 : callable Tryd.f45 = true := by kernel_rfl
theorem P33_2 : (List.range (regOf Tryd.f33 2).size).map (pj (regOf Tryd.f33 2)) = [some (some 10, .move (.tmp 1), 45, none), some (some 11, .call { callee := .builtin .len, args := #[.tmp 10], argTypes := #[45] }, 3, none), some (some 12, .move (.const (.int .i64 0)), 3, none)] := by kernel_rfl
theorem p33_3_0 : pj (regOf Tryd.f33 3) 0 = some (some 13, .binOp .lss 3 (.tmp 12) (.tmp 11) 3, 0, none) := by kernel_rfl
theorem P33_4 : (List.range (regOf Tryd.f33 4).size).map (pj (regOf Tryd.f33 4)) = [some (some 14, .indexAddr 45 (.tmp 10) (.tmp 12), 0, none), some (some 15, .load 3 (.tmp 14), 3, none), some (some 7, .assign (.tmp 15), 3, none)] := by kernel_rfl
theorem tS3 : (Tryd.prog.info? 3).map (·.size) = some 1 := by kernel_rfl
theorem tA3 : (Tryd.prog.underlying 3).map aggD = some false := by kernel_rfl
theorem P33_5 : (List.range (regOf Tryd.f33 5).size).map (pj (regOf Tryd.f33 5)) = [some (some 16, .move (.tmp 7), 3, none), some (some 17, .binOp .lss 3 (.tmp 16) (.const (.int .i64 0)) 3, 4, none), some (some 18, .move (.tmp 17), 4, none), some (some 19, .move (.tmp 7), 3, some (2, false)), some (some 20, .move (.tmp 5), 3, some (2, false)), some (some 21, .binOp .geq 3 (.tmp 19) (.tmp 20) 3, 4, some (2, false)), some (some 22, .pick (.tmp 18) (.const (.bool true)) (.tmp 21), 4, none)] := by kernel_rfl
theorem g33_5_2 : dstOf (regOf Tryd.f33 5) 2 = some 18 := by kernel_rfl
theorem P33_7 : (List.range (regOf Tryd.f33 7).size).map (pj (regOf Tryd.f33 7)) = [some (some 23, .binOp .add 3 (.tmp 12) (.const (.int .i64 1)) 3, 3, none), some (some 12, .move (.tmp 23), 3, none)] := by kernel_rfl
theorem P33_8 : (List.range (regOf Tryd.f33 8).size).map (pj (regOf Tryd.f33 8)) = [some (some 24, .move (.tmp 5), 3, none), some (some 25, .binOp .gtr 3 (.tmp 24) (.const (.int .i64 0)) 3, 4, none), some (some 4, .assign (.tmp 25), 4, none)] := by kernel_rfl
set_option maxHeartbeats 4000000 in
theorem fits9 (b : Nat) (w : World) (hb9 : w.heap[b]? = some (.cells #[.int .i64 9] 3 (0, 0))) : Calls Tryd.prog 33 #[.int .i64 1, .slice (some ⟨b, 0, none⟩) 1 1] w fun e w' => e = .returned (.bool true) ∧ Kp w w' (fun _ => False) := by
 have K_0 := Kp.refl w (fun _ => False)
 have B_b := hb9
 refine enter (args := [Value.int .i64 1, Value.slice (some ⟨b, 0, none⟩) 1 1]) (n := 26) Tryd.func33 body33 rfl rfl rfl ?_
 intro a hE
 refine c_reg R33_0_l ?_
 refine q0 p33_0_0 hE (st_assign rfl) ?_; clear hE a; intro a hE
 refine p_nil (x_norm (c_reg R33_1_l ?_))
 refine q0 (pl P33_1 0) hE (st_move rfl) ?_; clear hE a; intro a hE
 refine p_cons (s_call (xs := [Operand.tmp 8]) (args := [Value.int .i64 1]) (pl P33_1 1) hE wn_none rfl rfl Tryd.func45 cl45 (span1  _) ?_)
 rintro e w1 ⟨rfl, hk⟩
 replace B_b := kp_blk B_b hk (fun h => h)
 replace K_0 := K_0.then_ hk (fun _ h => h.elim)
 refine ⟨_, rfl, ?_⟩; clear hE a; intro a hE
 refine q0 (pl P33_1 2) hE (st_assign rfl) ?_; clear hE a; intro a hE
 refine p_nil (x_norm (wp_seq (c_reg R33_2_l ?_)))
 refine qn hE (rc (pl P33_2 0) (st_move rfl) (rc (pl P33_2 1) (st_len Tryd.underlying45 rfl) (rc (pl P33_2 2) (st_move rfl) rn))) ?_; clear hE a; intro a hE
 refine p_nil (x_norm (wp_block ?_))
 refine wp_loop_rounds 2 ?_
 refine (Eq.mpr (rounds_succ (n := 1)) ?_)
 refine c_reg R33_3_l ?_
 refine q0 p33_3_0 hE (st_lss (b := true) rfl rfl (by decide)) ?_; clear hE a; intro a hE
 refine p_nil (x_norm (wp_seq ?_))
 refine c_cond (t := true) hE rfl ?_
 refine wp_skip (x_norm (wp_seq (wp_block (c_reg R33_4_l ?_))))
 refine qn hE (rc (pl P33_4 0) (st_indexAddr (i := 0) Tryd.underlying45 tS3 rfl rfl (by decide) rfl) (rc (pl P33_4 1) (st_load1 tA3 rfl ((blk_cell B_b 0).trans rfl)) (rc (pl P33_4 2) (st_assign rfl) rn))) ?_; clear hE a; intro a hE
 refine p_nil (x_norm (c_reg R33_5_l ?_))
 refine qn hE (rc (pl P33_5 0) (st_move rfl) (rc (pl P33_5 1) (st_lss (b := false) rfl rfl (by decide)) (rc (pl P33_5 2) (st_move rfl) (rg (pl P33_5 3) (wn_some g33_5_2 rfl rfl) (st_move rfl) (rg (pl P33_5 4) (wn_some g33_5_2 rfl rfl) (st_move rfl) (rg (pl P33_5 5) (wn_some g33_5_2 rfl rfl) (st_geq (b := false) rfl rfl (by decide)) (rc (pl P33_5 6) (st_pick rfl rfl) rn))))))) ?_; clear hE a; intro a hE
 refine p_nil (x_norm ?_)
 refine c_cond (t := false) hE rfl ?_
 refine wp_skip (x_normB (x_norm (c_regL R33_7_l ?_)))
 refine qn hE (rc (pl P33_7 0) (st_add (z := 1) rfl rfl (by decide)) (rc (pl P33_7 1) (st_move rfl) rn)) ?_; clear hE a; intro a hE
 refine p_nil (x_norm ?_)
 refine (Eq.mpr (rounds_succ (n := 0)) ?_)
 refine c_reg R33_3_l ?_
 refine q0 p33_3_0 hE (st_lss (b := false) rfl rfl (by decide)) ?_; clear hE a; intro a hE
 refine p_nil (x_norm (wp_seq ?_))
 refine c_cond (t := false) hE rfl ?_
 refine wp_exit (x_exit (x_exit (x_in (x_norm (c_reg R33_8_l ?_)))))
 refine qn hE (rc (pl P33_8 0) (st_move rfl) (rc (pl P33_8 1) (st_gtr (b := true) rfl rfl (by decide)) (rc (pl P33_8 2) (st_assign rfl) rn))) ?_; clear hE a; intro a hE
 refine p_nil (x_norm (wp_ret ?_))
 refine ret_one (v := Value.bool true) rfl hE (.tmp rfl .nil) ?_
 exact ⟨rfl, K_0⟩
theorem R24_0_l : List.range (regOf Tryd.f24 0).size = [0] := by kernel_rfl
theorem R24_1_l : List.range (regOf Tryd.f24 1).size = [0, 1, 2, 3, 4] := by kernel_rfl
theorem R24_3_l : List.range (regOf Tryd.f24 3).size = [0] := by kernel_rfl
theorem R24_4_l : List.range (regOf Tryd.f24 4).size = [0, 1, 2, 3] := by kernel_rfl
theorem R24_5_l : List.range (regOf Tryd.f24 5).size = [0, 1, 2] := by kernel_rfl
theorem R24_8_l : List.range (regOf Tryd.f24 8).size = [0] := by kernel_rfl
theorem body24 : Tryd.f24.body = some (.seq (.region 0 (regOf Tryd.f24 0) false) (.seq (.seq (.region 1 (regOf Tryd.f24 1) false) (.cond (Operand.tmp 10) (.seq (.region 2 (regOf Tryd.f24 2) false) (.ret)) (.skip))) (.seq (.seq (.region 3 (regOf Tryd.f24 3) false) (.block 0 (.loop (.seq (.seq (.region 4 (regOf Tryd.f24 4) false) (.cond (Operand.tmp 14) (.skip) (.exit 0))) (.seq (.block 1 (.seq (.region 6 (regOf Tryd.f24 6) true) (.cond (Operand.tmp 25) (.seq (.region 7 (regOf Tryd.f24 7) false) (.ret)) (.skip)))) (.region 5 (regOf Tryd.f24 5) false)))))) (.seq (.region 8 (regOf Tryd.f24 8) false) (.ret))))) := by kernel_rfl
theorem p24_0_0 : pj (regOf Tryd.f24 0) 0 = some (some 4, .assign (.const (.bool false)), 4, none) := by kernel_rfl
theorem P24_1 : (List.range (regOf Tryd.f24 1).size).map (pj (regOf Tryd.f24 1)) = [some (some 6, .move (.tmp 0), 45, none), some (some 7, .call { callee := .builtin .len, args := #[.tmp 6], argTypes := #[45] }, 3, none), some (some 8, .move (.tmp 1), 45, none), some (some 9, .call { callee := .builtin .len, args := #[.tmp 8], argTypes := #[45] }, 3, none), some (some 10, .binOp .neq 3 (.tmp 7) (.tmp 9) 3, 4, none)] := by kernel_rfl
theorem p24_3_0 : pj (regOf Tryd.f24 3) 0 = some (some 5, .assign (.const (.int .i64 0)), 3, none) := by kernel_rfl
theorem P24_4 : (List.range (regOf Tryd.f24 4).size).map (pj (regOf Tryd.f24 4)) = [some (some 11, .move (.tmp 5), 3, none), some (some 12, .move (.tmp 0), 45, none), some (some 13, .call { callee := .builtin .len, args := #[.tmp 12], argTypes := #[45] }, 3, none), some (some 14, .binOp .lss 3 (.tmp 11) (.tmp 13) 3, 4, none)] := by kernel_rfl
theorem ns24_6 : Region.noSelect (regOf Tryd.f24 6) = true := by kernel_rfl
theorem p24_6_0 : pj (regOf Tryd.f24 6) 0 = some (some 17, .move (.tmp 0), 45, none) := by kernel_rfl
theorem p24_6_1 : pj (regOf Tryd.f24 6) 1 = some (some 18, .move (.tmp 5), 3, none) := by kernel_rfl
theorem p24_6_2 : pj (regOf Tryd.f24 6) 2 = some (some 19, .indexAddr 45 (.tmp 17) (.tmp 18), 0, none) := by kernel_rfl
theorem p24_6_3 : pj (regOf Tryd.f24 6) 3 = some (some 20, .load 3 (.tmp 19), 3, none) := by kernel_rfl
theorem p24_6_4 : pj (regOf Tryd.f24 6) 4 = some (some 21, .move (.tmp 1), 45, none) := by kernel_rfl
theorem p24_6_5 : pj (regOf Tryd.f24 6) 5 = some (some 22, .move (.tmp 5), 3, none) := by kernel_rfl
theorem p24_6_6 : pj (regOf Tryd.f24 6) 6 = some (some 23, .indexAddr 45 (.tmp 21) (.tmp 22), 0, none) := by kernel_rfl
theorem p24_6_7 : pj (regOf Tryd.f24 6) 7 = some (some 24, .load 3 (.tmp 23), 3, none) := by kernel_rfl
theorem p24_6_8 : pj (regOf Tryd.f24 6) 8 = some (some 25, .binOp .neq 3 (.tmp 20) (.tmp 24) 3, 4, none) := by kernel_rfl
theorem P24_5 : (List.range (regOf Tryd.f24 5).size).map (pj (regOf Tryd.f24 5)) = [some (some 15, .move (.tmp 5), 3, none), some (some 16, .binOp .add 3 (.tmp 15) (.const (.int .i64 1)) 3, 3, none), some (some 5, .assign (.tmp 16), 3, none)] := by kernel_rfl
theorem p24_8_0 : pj (regOf Tryd.f24 8) 0 = some (some 4, .assign (.const (.bool true)), 4, none) := by kernel_rfl
set_option maxHeartbeats 4000000 in
theorem same_i (A B : Option Addr) (c cb : Nat) (l : List Int) (w : World) (hl : l.length ≤ 1000000) (hF : ∀ W', Kp w W' (fun _ => False) → Kd.C (Kd.int .i64) W' A l.length l) (hG : ∀ W', Kp w W' (fun _ => False) → Kd.C (Kd.int .i64) W' B l.length l) : Calls Tryd.prog 24 #[.slice A l.length c, .slice B l.length cb] w fun e w' => e = .returned (.bool true) ∧ Kp w w' (fun _ => False) := by
 have K_0 := Kp.refl w (fun _ => False)
 refine enter (args := [Value.slice A l.length c, Value.slice B l.length cb]) (n := 26) Tryd.func24 body24 rfl rfl rfl ?_
 intro a hE
 refine c_reg R24_0_l ?_
 refine q0 p24_0_0 hE (st_assign rfl) ?_; clear hE a; intro a hE
 refine p_nil (x_norm (wp_seq (c_reg R24_1_l ?_)))
 refine qn hE (rc (pl P24_1 0) (st_move rfl) (rc (pl P24_1 1) (st_len Tryd.underlying45 rfl) (rc (pl P24_1 2) (st_move rfl) (rc (pl P24_1 3) (st_len Tryd.underlying45 rfl) (rc (pl P24_1 4) (st_neq (b := false) rfl rfl (by simp)) rn))))) ?_; clear hE a; intro a hE
 refine p_nil (x_norm ?_)
 refine c_cond (t := false) hE rfl ?_
 refine wp_skip (x_norm (wp_seq (c_reg R24_3_l ?_)))
 refine q0 p24_3_0 hE (st_assign rfl) ?_; clear hE a; intro a hE
 refine p_nil (x_norm (wp_block ?_))
 refine c_loop (α := Nat) (fun j a W => En 26 a [(0, Value.slice A l.length c), (1, Value.slice B l.length cb), (10, Value.bool false), (5, Value.int .i64 (j : Int))] ∧ j ≤ l.length ∧ Kp w W (fun _ => False)) (fun j => l.length - j) (0) ?_ ?_
 ·
  exact ⟨En.sub hE ⟨rfl, rfl, rfl, rfl, trivial⟩, Nat.zero_le _, K_0⟩
 ·
  clear hE a
  rintro j a w1 ⟨hE, hj9, K_0⟩
  refine wp_seq ?_
  rcases Decidable.em ((j : Int) < (l.length : Int)) with hK1 | hK1
  ·
   refine c_reg R24_4_l ?_
   refine qn hE (rc (pl P24_4 0) (st_move rfl) (rc (pl P24_4 1) (st_move rfl) (rc (pl P24_4 2) (st_len Tryd.underlying45 rfl) (rc (pl P24_4 3) (st_lss (b := true) rfl rfl (decide_eq_true hK1)) rn)))) ?_; clear hE a; intro a hE
   refine p_nil (x_norm ?_)
   refine c_cond (t := true) hE rfl ?_
   refine wp_skip (x_norm (wp_seq (wp_block ?_)))
   refine c_drawS (S := fun W => Kd.C (Kd.int .i64) W A l.length l ∧ Kd.C (Kd.int .i64) W B l.length l ∧ True) rfl rfl (listed := #[false, false, false, false, false, false, false, false, false]) rfl ?_
   intro w2 hh hk
   replace K_0 := K_0.then_ hk (fun _ h => h.elim)
   clear hh hk
   refine Rv.dq (v := Value.slice A l.length c) p24_6_0 ns24_6 hE wn_none ⟨(hF _ K_0), (hG _ K_0), trivial⟩ (fun W hS => (st_move rfl)) ?_; clear hE a; intro a hE
   refine Rv.dq (v := Value.int .i64 (j : Int)) p24_6_1 ns24_6 hE wn_none ⟨(hF _ K_0), (hG _ K_0), trivial⟩ (fun W hS => (st_move rfl)) ?_; clear hE a; intro a hE
   refine Rv.dq (v := Value.pointer (some (ea A j))) p24_6_2 ns24_6 hE wn_none ⟨(hF _ K_0), (hG _ K_0), trivial⟩ (fun W hS => (st_indexAddrS (i := j) Tryd.underlying45 tS3 (C_at (hF _ K_0) (show j < _ by omega)).1 rfl rfl (by omega))) ?_; clear hE a; intro a hE
   refine Rv.dq (v := Value.int .i64 (rd l (j : Int))) p24_6_3 ns24_6 hE wn_none ⟨(hF _ K_0), (hG _ K_0), trivial⟩ (fun W hS => (st_loadC (i := j) tA3 (hS.1) (by omega) rfl)) ?_; clear hE a; intro a hE
   refine Rv.dq (v := Value.slice B l.length cb) p24_6_4 ns24_6 hE wn_none ⟨(hF _ K_0), (hG _ K_0), trivial⟩ (fun W hS => (st_move rfl)) ?_; clear hE a; intro a hE
   refine Rv.dq (v := Value.int .i64 (j : Int)) p24_6_5 ns24_6 hE wn_none ⟨(hF _ K_0), (hG _ K_0), trivial⟩ (fun W hS => (st_move rfl)) ?_; clear hE a; intro a hE
   refine Rv.dq (v := Value.pointer (some (ea B j))) p24_6_6 ns24_6 hE wn_none ⟨(hF _ K_0), (hG _ K_0), trivial⟩ (fun W hS => (st_indexAddrS (i := j) Tryd.underlying45 tS3 (C_at (hG _ K_0) (show j < _ by omega)).1 rfl rfl (by omega))) ?_; clear hE a; intro a hE
   refine Rv.dq (v := Value.int .i64 (rd l (j : Int))) p24_6_7 ns24_6 hE wn_none ⟨(hF _ K_0), (hG _ K_0), trivial⟩ (fun W hS => (st_loadC (i := j) tA3 (hS.2.1) (by omega) rfl)) ?_; clear hE a; intro a hE
   refine Rv.dq (v := Value.bool false) p24_6_8 ns24_6 hE wn_none ⟨(hF _ K_0), (hG _ K_0), trivial⟩ (fun W hS => (st_neq (b := false) rfl rfl (by simp))) ?_; clear hE a; intro a hE
   refine d_end (by kernel_rfl) ?_
   refine x_norm ?_
   refine c_cond (t := false) hE rfl ?_
   refine wp_skip (x_normB (x_norm (c_regL R24_5_l ?_)))
   refine qn hE (rc (pl P24_5 0) (st_move rfl) (rc (pl P24_5 1) (st_add (z := (j : Int) + 1) rfl rfl (wr_i64 _ (by omega) (by omega))) (rc (pl P24_5 2) (st_assign rfl) rn))) ?_; clear hE a; intro a hE
   refine p_nil (x_norm ?_)
   exact ⟨j + 1, by omega, En.sub hE ⟨rfl, rfl, rfl, rfl, trivial⟩, by omega, K_0⟩
  ·
   refine c_reg R24_4_l ?_
   refine qn hE (rc (pl P24_4 0) (st_move rfl) (rc (pl P24_4 1) (st_move rfl) (rc (pl P24_4 2) (st_len Tryd.underlying45 rfl) (rc (pl P24_4 3) (st_lss (b := false) rfl rfl (decide_eq_false hK1)) rn)))) ?_; clear hE a; intro a hE
   refine p_nil (x_norm ?_)
   refine c_cond (t := false) hE rfl ?_
   refine wp_exit (x_exit (x_exit (x_in (x_norm (c_reg R24_8_l ?_)))))
   refine q0 p24_8_0 hE (st_assign rfl) ?_; clear hE a; intro a hE
   refine p_nil (x_norm (wp_ret ?_))
   refine ret_one (v := Value.bool true) rfl hE (.tmp rfl .nil) ?_
   exact ⟨rfl, K_0⟩
theorem ok_all {ls : List R4} {x : Int} {o : R4} (h : getI (allL ls) x = some o) : okR o = true := (rel_all ls).okl h
theorem nx0 : hopV (nextF 0 (-1) true (viaL (allL [(2, 1, 0, 0)]) 2) 2 (-1) false) = .tuple #[.agg #[.int .i64 1, .int .i64 1, .bool true], .int .i64 0] := by rw [show nextF 0 (-1) true (viaL (allL [(2, 1, 0, 0)]) 2) 2 (-1) false = (1, 1, true, 0) by decide +kernel]; rfl
theorem nx1 : hopV (nextF 1 0 false (viaL (allL [(2, 2, 0, 0)]) 2) 2 0 true) = .tuple #[.agg #[.int .i64 1, .int .i64 2, .bool true], .int .i64 0] := by rw [show nextF 1 0 false (viaL (allL [(2, 2, 0, 0)]) 2) 2 0 true = (1, 2, true, 0) by decide +kernel]; rfl
theorem nx2 (fr : Int) (dn : Bool) (h : perB fr = true) : hopV (nextF 2 1 false (viaL (allL []) 2) 2 fr dn) = .tuple #[.agg #[.int .i64 0, .int .i64 (-1), .bool false], .int .i64 0] := by
 have : nextF 2 1 false (viaL (allL []) 2) 2 fr dn = (0, -1, false, 0) := by
  unfold nextF
  rw [h, if_pos (by decide), if_pos rfl]
 rw [this]; rfl
theorem R23_0_l : List.range (regOf Tryd.f23 0).size = [0, 1] := by kernel_rfl
theorem R23_1_l : List.range (regOf Tryd.f23 1).size = [0, 1, 2, 3, 4, 5, 6, 7, 8] := by kernel_rfl
theorem R23_2_l : List.range (regOf Tryd.f23 2).size = [0, 1] := by kernel_rfl
theorem R23_4_l : List.range (regOf Tryd.f23 4).size = [0, 1, 2, 3, 4, 5, 6, 7] := by kernel_rfl
theorem R23_6_l : List.range (regOf Tryd.f23 6).size = [0] := by kernel_rfl
theorem R23_7_l : List.range (regOf Tryd.f23 7).size = [0, 1, 2, 3] := by kernel_rfl
theorem R23_8_l : List.range (regOf Tryd.f23 8).size = [0, 1, 2, 3] := by kernel_rfl
theorem R23_9_l : List.range (regOf Tryd.f23 9).size = [0, 1, 2, 3, 4, 5, 6, 7, 8] := by kernel_rfl
theorem R23_10_l : List.range (regOf Tryd.f23 10).size = [0, 1] := by kernel_rfl
theorem R23_12_l : List.range (regOf Tryd.f23 12).size = [0, 1, 2] := by kernel_rfl
theorem R23_13_l : List.range (regOf Tryd.f23 13).size = [0, 1, 2, 3, 4, 5, 6, 7, 8, 9, 10] := by kernel_rfl
theorem R23_14_l : List.range (regOf Tryd.f23 14).size = [0, 1] := by kernel_rfl
theorem R23_16_l : List.range (regOf Tryd.f23 16).size = [0, 1, 2, 3, 4] := by kernel_rfl
theorem R23_17_l : List.range (regOf Tryd.f23 17).size = [0, 1] := by kernel_rfl
theorem R23_18_l : List.range (regOf Tryd.f23 18).size = [0, 1] := by kernel_rfl
theorem R23_19_l : List.range (regOf Tryd.f23 19).size = [0, 1, 2] := by kernel_rfl
theorem R23_20_l : List.range (regOf Tryd.f23 20).size = [0, 1] := by kernel_rfl
theorem body23 : Tryd.f23.body = some (.seq (.region 0 (regOf Tryd.f23 0) false) (.scope (.seq (.seq (.region 1 (regOf Tryd.f23 1) false) (.seq (.region 2 (regOf Tryd.f23 2) false) (.cond (Operand.tmp 27) (.seq (.region 3 (regOf Tryd.f23 3) false) (.ret)) (.skip)))) (.seq (.seq (.region 4 (regOf Tryd.f23 4) false) (.cond (Operand.tmp 35) (.seq (.region 5 (regOf Tryd.f23 5) false) (.ret)) (.skip))) (.seq (.region 6 (regOf Tryd.f23 6) false) (.seq (.region 7 (regOf Tryd.f23 7) false) (.seq (.label 0) (.seq (.block 0 (.loop (.seq (.seq (.region 8 (regOf Tryd.f23 8) false) (.cond (Operand.tmp 40) (.skip) (.exit 0))) (.block 1 (.seq (.region 9 (regOf Tryd.f23 9) false) (.seq (.seq (.region 10 (regOf Tryd.f23 10) false) (.cond (Operand.tmp 48) (.seq (.region 11 (regOf Tryd.f23 11) false) (.ret)) (.skip))) (.seq (.region 12 (regOf Tryd.f23 12) false) (.seq (.region 13 (regOf Tryd.f23 13) false) (.seq (.seq (.region 14 (regOf Tryd.f23 14) false) (.cond (Operand.tmp 60) (.seq (.region 15 (regOf Tryd.f23 15) false) (.ret)) (.skip))) (.seq (.region 16 (regOf Tryd.f23 16) false) (.seq (.seq (.region 17 (regOf Tryd.f23 17) false) (.block 2 (.seq (.region 18 (regOf Tryd.f23 18) false) (.cond (Operand.tmp 68) (.seq (.region 19 (regOf Tryd.f23 19) false) (.ret)) (.seq (.seq (.region 20 (regOf Tryd.f23 20) false) (.cond (Operand.tmp 71) (.skip) (.region 21 (regOf Tryd.f23 21) false))) (.cond (Operand.tmp 71) (.seq (.region 22 (regOf Tryd.f23 22) true) (.exit 1)) (.skip))))))) (.seq (.region 23 (regOf Tryd.f23 23) false) (.ret))))))))))))) (.seq (.region 24 (regOf Tryd.f23 24) false) (.ret)))))))))) := by kernel_rfl
theorem P23_0 : (List.range (regOf Tryd.f23 0).size).map (pj (regOf Tryd.f23 0)) = [some (some 8, .assign (.const (.slice none 0 0)), 45, none), some (some 9, .assign (.const (.int .i64 0)), 32, none)] := by kernel_rfl
theorem P23_1 : (List.range (regOf Tryd.f23 1).size).map (pj (regOf Tryd.f23 1)) = [some (some 21, .move (.tmp 0), 46, none), some (some 22, .move (.tmp 1), 3, none), some (some 23, .lookup 46 (.tmp 21) (.tmp 22) true, 75, none), some (some 20, .move (.tmp 23), 75, none), some (some 24, .extract (.tmp 20) 0, 27, none), some (some 25, .extract (.tmp 20) 1, 4, none), some (some 10, .alloc 27, 0, none), some (none, .store 27 (.tmp 10) (.tmp 24), 0, none), some (some 11, .assign (.tmp 25), 4, none)] := by kernel_rfl
theorem tZ27 : (Tryd.prog.info? 27).bind (·.zero) = some (Value.agg #[Value.int .i64 0, Value.int .i64 0, Value.bool false, Value.pointer none]) := by kernel_rfl
theorem tS27 : (Tryd.prog.info? 27).map (·.size) = some 4 := by kernel_rfl
theorem P23_2 : (List.range (regOf Tryd.f23 2).size).map (pj (regOf Tryd.f23 2)) = [some (some 26, .move (.tmp 11), 4, none), some (some 27, .unOp .not 4 (.tmp 26), 4, none)] := by kernel_rfl
theorem P23_4 : (List.range (regOf Tryd.f23 4).size).map (pj (regOf Tryd.f23 4)) = [some (some 28, .move (.tmp 3), 3, none), some (some 29, .buildSlice 45 1 #[(0, .tmp 28)], 45, none), some (some 30, .call { callee := .value (.func 33), args := #[.const (.int .i64 1), .tmp 29], argTypes := #[3, 45] }, 4, none), some (some 31, .unOp .not 4 (.tmp 30), 4, none), some (some 32, .move (.tmp 31), 4, none), some (some 33, .move (.tmp 3), 3, some (4, false)), some (some 34, .binOp .eql 3 (.tmp 33) (.const (.int .i64 0)) 3, 4, some (4, false)), some (some 35, .pick (.tmp 32) (.const (.bool true)) (.tmp 34), 4, none)] := by kernel_rfl
theorem cl33 : callable Tryd.f33 = true := by kernel_rfl
theorem g23_4_4 : dstOf (regOf Tryd.f23 4) 4 = some 32 := by kernel_rfl
theorem p23_6_0 : pj (regOf Tryd.f23 6) 0 = some (some 12, .assign (.const (.slice none 0 0)), 45, none) := by kernel_rfl
theorem P23_7 : (List.range (regOf Tryd.f23 7).size).map (pj (regOf Tryd.f23 7)) = [some (some 36, .move (.tmp 1), 3, none), some (some 13, .assign (.tmp 36), 3, none), some (some 14, .assign (.const (.int .i64 (-1))), 3, none), some (some 15, .assign (.const (.bool false)), 4, none)] := by kernel_rfl
theorem P23_8 : (List.range (regOf Tryd.f23 8).size).map (pj (regOf Tryd.f23 8)) = [some (some 37, .move (.tmp 12), 45, none), some (some 38, .call { callee := .builtin .len, args := #[.tmp 37], argTypes := #[45] }, 3, none), some (some 39, .move (.tmp 3), 3, none), some (some 40, .binOp .lss 3 (.tmp 38) (.tmp 39) 3, 4, none)] := by kernel_rfl
theorem P23_9 : (List.range (regOf Tryd.f23 9).size).map (pj (regOf Tryd.f23 9)) = [some (some 42, .move (.tmp 0), 46, none), some (some 43, .move (.tmp 13), 3, none), some (some 44, .lookup 46 (.tmp 42) (.tmp 43) true, 75, none), some (some 41, .move (.tmp 44), 75, none), some (some 45, .extract (.tmp 41) 0, 27, none), some (some 46, .extract (.tmp 41) 1, 4, none), some (some 16, .alloc 27, 0, none), some (none, .store 27 (.tmp 16) (.tmp 45), 0, none), some (some 17, .assign (.tmp 46), 4, none)] := by kernel_rfl
theorem P23_10 : (List.range (regOf Tryd.f23 10).size).map (pj (regOf Tryd.f23 10)) = [some (some 47, .move (.tmp 17), 4, none), some (some 48, .unOp .not 4 (.tmp 47), 4, none)] := by kernel_rfl
theorem P23_12 : (List.range (regOf Tryd.f23 12).size).map (pj (regOf Tryd.f23 12)) = [some (some 49, .move (.tmp 13), 3, none), some (some 50, .fieldAddr 27 (.tmp 16) 0, 0, none), some (none, .store 3 (.tmp 50) (.tmp 49), 0, none)] := by kernel_rfl
theorem P23_13 : (List.range (regOf Tryd.f23 13).size).map (pj (regOf Tryd.f23 13)) = [some (some 52, .load 27 (.tmp 16), 27, none), some (some 53, .move (.tmp 2), 3, none), some (some 54, .move (.tmp 14), 3, none), some (some 55, .move (.tmp 15), 4, none), some (some 56, .call { callee := .value (.func 6), args := #[.tmp 52, .tmp 53, .tmp 54, .tmp 55], argTypes := #[27, 3, 3, 4] }, 33, none), some (some 51, .move (.tmp 56), 33, none), some (some 57, .extract (.tmp 51) 0, 31, none), some (some 58, .extract (.tmp 51) 1, 32, none), some (some 18, .alloc 31, 0, none), some (none, .store 31 (.tmp 18) (.tmp 57), 0, none), some (some 19, .assign (.tmp 58), 32, none)] := by kernel_rfl
theorem tA27 : (Tryd.prog.underlying 27).map aggD = some true := by kernel_rfl
theorem cl6 : callable Tryd.f6 = true := by kernel_rfl
theorem tZ31 : (Tryd.prog.info? 31).bind (·.zero) = some (Value.agg #[Value.int .i64 0, Value.int .i64 0, Value.bool false]) := by kernel_rfl
theorem tS31 : (Tryd.prog.info? 31).map (·.size) = some 3 := by kernel_rfl
theorem P23_14 : (List.range (regOf Tryd.f23 14).size).map (pj (regOf Tryd.f23 14)) = [some (some 59, .move (.tmp 19), 32, none), some (some 60, .binOp .neq 32 (.tmp 59) (.const (.int .i64 0)) 32, 4, none)] := by kernel_rfl
theorem P23_16 : (List.range (regOf Tryd.f23 16).size).map (pj (regOf Tryd.f23 16)) = [some (some 62, .move (.tmp 12), 45, none), some (some 63, .move (.tmp 13), 3, none), some (some 64, .buildSlice 45 1 #[(0, .tmp 63)], 45, none), some (some 65, .call { callee := .builtin .append, args := #[.tmp 62, .tmp 64], argTypes := #[45, 45] }, 45, none), some (some 12, .assign (.tmp 65), 45, none)] := by kernel_rfl
theorem eD3 : elemD Tryd.prog 3 = some (1, 1, 8) := by kernel_rfl
theorem P23_17 : (List.range (regOf Tryd.f23 17).size).map (pj (regOf Tryd.f23 17)) = [some (some 66, .fieldAddr 31 (.tmp 18) 0, 0, none), some (some 67, .load 3 (.tmp 66), 3, none)] := by kernel_rfl
theorem P23_18 : (List.range (regOf Tryd.f23 18).size).map (pj (regOf Tryd.f23 18)) = [some (some 69, .binOp .eql 3 (.tmp 67) (.const (.int .i64 0)) 3, 4, none), some (some 68, .assign (.tmp 69), 4, none)] := by kernel_rfl
theorem P23_19 : (List.range (regOf Tryd.f23 19).size).map (pj (regOf Tryd.f23 19)) = [some (some 70, .move (.tmp 12), 45, none), some (some 8, .assign (.tmp 70), 45, none), some (some 9, .assign (.const (.int .i64 0)), 32, none)] := by kernel_rfl
set_option maxHeartbeats 4000000 in
theorem trace_a (gV ck h0 h1 h2 : Nat) (es : Array MapEntry) (m2 ck2 : Nat) (es2 : Array MapEntry) (w : World) (hgV : w.heap[gV]? = some (.map es ck)) (hFV : MapI encV es ck [(0, (0, -1, true, h0)), (1, (1, 0, false, h1)), (2, (2, 1, false, h2))]) (hb2 : w.heap[h2]? = some (.cells #[.int .i64 32, .map (some m2)] 79 (0, 0))) (hm2 : w.heap[m2]? = some (.map es2 ck2)) (hF2 : MapI encR es2 ck2 (allL [])) : Calls Tryd.prog 23 #[.map (some gV), .int .i64 2, .int .i64 2, .int .i64 9] w fun e w' => ∃ A c, e = .returned (.tuple #[.slice A 1 c, .int .i64 0]) ∧ w'.ownsRow w.heap.size 3 1 (.slice A 1 c) 1 (encs (Value.int .i64) [2]) ∧ Kp w w' (fun _ => False) := by
 have K_0 := Kp.refl w (fun _ => False)
 have B_h2 := hb2
 have B_m2 := hm2
 have B_gV := hgV
 refine enter (args := [Value.map (some gV), Value.int .i64 2, Value.int .i64 2, Value.int .i64 9]) (n := 79) Tryd.func23 body23 rfl rfl rfl ?_
 intro a hE
 refine c_reg R23_0_l ?_
 refine qn hE (rc (pl P23_0 0) (st_assign rfl) (rc (pl P23_0 1) (st_assign rfl) rn)) ?_; clear hE a; intro a hE
 refine p_nil (x_norm (wp_scope_straight (wp_seq (c_reg R23_1_l ?_))))
 refine qn hE (rc (pl P23_1 0) (st_move rfl) (rc (pl P23_1 1) (st_move rfl) (rg (v := Value.tuple #[Value.agg #[Value.int .i64 2, Value.int .i64 1, Value.bool false, Value.pointer (some ⟨h2, 0, none⟩)], Value.bool true]) (pl P23_1 2) wn_none (Mi.st_look2 Tryd.underlying46 Tryd.underlying3 tZ27 rfl rfl hFV B_gV (by rfl) (by rfl)) (rc (pl P23_1 3) (st_move rfl) (rc (pl P23_1 4) (st_extract rfl rfl) (rc (pl P23_1 5) (st_extract rfl rfl) rn)))))) ?_; clear hE a; intro a hE
 refine p_cons (s_alloc (pl P23_1 6) hE wn_none rfl tZ27 ?_)
 clear hE a; intro g1 w2 z3 B_g1 hk a hE
 replace B_g1 : w2.heap[g1]? = some (.cells #[Value.int .i64 0, Value.int .i64 0, Value.bool false, Value.pointer none] 27 (0, 0)) := B_g1
 have n_h2_g1 : h2 ≠ g1 := ne_new B_h2 z3
 have n_m2_g1 : m2 ≠ g1 := ne_new B_m2 z3
 have n_gV_g1 : gV ≠ g1 := ne_new B_gV z3
 have z_0_g1 := Nat.le_trans K_0.kept.1 z3
 replace B_h2 := kp_blk B_h2 hk (fun h => h)
 replace B_m2 := kp_blk B_m2 hk (fun h => h)
 replace B_gV := kp_blk B_gV hk (fun h => h)
 replace K_0 := K_0.then_ hk (fun _ h => h.elim)
 clear hk
 refine p_cons (s_store (off := 0) (k := 4) (cs' := #[Value.int .i64 2, Value.int .i64 1, Value.bool false, Value.pointer (some ⟨h2, 0, none⟩)]) (pl P23_1 7) hE wn_none tS27 rfl rfl rfl rfl B_g1 (Nat.le_of_ble_eq_true rfl) rfl ?_)
 intro w4 B_g1' hk
 replace B_h2 := kp_blk B_h2 hk n_h2_g1
 replace B_m2 := kp_blk B_m2 hk n_m2_g1
 replace B_gV := kp_blk B_gV hk n_gV_g1
 replace K_0 := K_0.then_ hk (fun k h => by rw [show k = g1 from h]; exact Or.inr z_0_g1)
 replace B_g1 := B_g1'
 clear hk
 refine q0 (pl P23_1 8) hE (st_assign rfl) ?_; clear hE a; intro a hE
 refine p_nil (x_norm (c_reg R23_2_l ?_))
 refine qn hE (rc (pl P23_2 0) (st_move rfl) (rc (pl P23_2 1) (st_not rfl rfl) rn)) ?_; clear hE a; intro a hE
 refine p_nil (x_norm ?_)
 refine c_cond (t := false) hE rfl ?_
 refine wp_skip (x_norm (wp_seq (c_reg R23_4_l ?_)))
 refine q0 (pl P23_4 0) hE (st_move rfl) ?_; clear hE a; intro a hE
 refine p_cons (s_row (xs := [(0, Operand.tmp 28)]) (vs := [(0, Value.int .i64 9)]) (cs := #[Value.int .i64 9]) (pl P23_4 1) hE wn_none rfl Tryd.underlying45 rfl (by kernel_rfl) ?_)
 clear hE a; intro g5 w6 z7 B_g5 hk a hE
 have n_h2_g5 : h2 ≠ g5 := ne_new B_h2 z7
 have n_m2_g5 : m2 ≠ g5 := ne_new B_m2 z7
 have n_gV_g5 : gV ≠ g5 := ne_new B_gV z7
 have n_g1_g5 : g1 ≠ g5 := ne_new B_g1 z7
 have z_0_g5 := Nat.le_trans K_0.kept.1 z7
 replace B_h2 := kp_blk B_h2 hk (fun h => h)
 replace B_m2 := kp_blk B_m2 hk (fun h => h)
 replace B_gV := kp_blk B_gV hk (fun h => h)
 replace B_g1 := kp_blk B_g1 hk (fun h => h)
 replace K_0 := K_0.then_ hk (fun _ h => h.elim)
 clear hk
 refine p_cons (s_call (xs := [Operand.const (Value.int IntKind.i64 1), Operand.tmp 29]) (args := [Value.int .i64 1, Value.slice (some ⟨g5, 0, none⟩) 1 1]) (pl P23_4 2) hE wn_none rfl rfl Tryd.func33 cl33 (fits9 g5 _ B_g5) ?_)
 rintro e w8 ⟨rfl, hk⟩
 replace B_h2 := kp_blk B_h2 hk (fun h => h)
 replace B_m2 := kp_blk B_m2 hk (fun h => h)
 replace B_gV := kp_blk B_gV hk (fun h => h)
 replace B_g1 := kp_blk B_g1 hk (fun h => h)
 replace B_g5 := kp_blk B_g5 hk (fun h => h)
 replace K_0 := K_0.then_ hk (fun _ h => h.elim)
 refine ⟨_, rfl, ?_⟩; clear hE a; intro a hE
 refine qn hE (rc (pl P23_4 3) (st_not rfl rfl) (rc (pl P23_4 4) (st_move rfl) (rg (pl P23_4 5) (wn_some g23_4_4 rfl rfl) (st_move rfl) (rg (pl P23_4 6) (wn_some g23_4_4 rfl rfl) (st_eql (b := false) rfl rfl (by decide)) (rc (pl P23_4 7) (st_pick rfl rfl) rn))))) ?_; clear hE a; intro a hE
 refine p_nil (x_norm ?_)
 refine c_cond (t := false) hE rfl ?_
 refine wp_skip (x_norm (c_reg R23_6_l ?_))
 refine q0 p23_6_0 hE (st_assign rfl) ?_; clear hE a; intro a hE
 refine p_nil (x_norm (c_reg R23_7_l ?_))
 refine qn hE (rc (pl P23_7 0) (st_move rfl) (rc (pl P23_7 1) (st_assign rfl) (rc (pl P23_7 2) (st_assign rfl) (rc (pl P23_7 3) (st_assign rfl) rn)))) ?_; clear hE a; intro a hE
 refine p_nil (x_norm (wp_seq (wp_label (x_norm (wp_seq (wp_block ?_))))))
 refine wp_loop_rounds 1 ?_
 refine (Eq.mpr (rounds_succ (n := 0)) ?_)
 refine wp_seq (c_reg R23_8_l ?_)
 refine qn hE (rc (pl P23_8 0) (st_move rfl) (rc (pl P23_8 1) (st_len Tryd.underlying45 rfl) (rc (pl P23_8 2) (st_move rfl) (rc (pl P23_8 3) (st_lss (b := true) rfl rfl (by decide)) rn)))) ?_; clear hE a; intro a hE
 refine p_nil (x_norm ?_)
 refine c_cond (t := true) hE rfl ?_
 refine wp_skip (x_norm (wp_block (c_reg R23_9_l ?_)))
 refine qn hE (rc (pl P23_9 0) (st_move rfl) (rc (pl P23_9 1) (st_move rfl) (rg (v := Value.tuple #[Value.agg #[Value.int .i64 2, Value.int .i64 1, Value.bool false, Value.pointer (some ⟨h2, 0, none⟩)], Value.bool true]) (pl P23_9 2) wn_none (Mi.st_look2 Tryd.underlying46 Tryd.underlying3 tZ27 rfl rfl hFV B_gV (by rfl) (by rfl)) (rc (pl P23_9 3) (st_move rfl) (rc (pl P23_9 4) (st_extract rfl rfl) (rc (pl P23_9 5) (st_extract rfl rfl) rn)))))) ?_; clear hE a; intro a hE
 refine p_cons (s_alloc (pl P23_9 6) hE wn_none rfl tZ27 ?_)
 clear hE a; intro g9 w10 z11 B_g9 hk a hE
 replace B_g9 : w10.heap[g9]? = some (.cells #[Value.int .i64 0, Value.int .i64 0, Value.bool false, Value.pointer none] 27 (0, 0)) := B_g9
 have n_h2_g9 : h2 ≠ g9 := ne_new B_h2 z11
 have n_m2_g9 : m2 ≠ g9 := ne_new B_m2 z11
 have n_gV_g9 : gV ≠ g9 := ne_new B_gV z11
 have n_g1_g9 : g1 ≠ g9 := ne_new B_g1 z11
 have n_g5_g9 : g5 ≠ g9 := ne_new B_g5 z11
 have z_0_g9 := Nat.le_trans K_0.kept.1 z11
 replace B_h2 := kp_blk B_h2 hk (fun h => h)
 replace B_m2 := kp_blk B_m2 hk (fun h => h)
 replace B_gV := kp_blk B_gV hk (fun h => h)
 replace B_g1 := kp_blk B_g1 hk (fun h => h)
 replace B_g5 := kp_blk B_g5 hk (fun h => h)
 replace K_0 := K_0.then_ hk (fun _ h => h.elim)
 clear hk
 refine p_cons (s_store (off := 0) (k := 4) (cs' := #[Value.int .i64 2, Value.int .i64 1, Value.bool false, Value.pointer (some ⟨h2, 0, none⟩)]) (pl P23_9 7) hE wn_none tS27 rfl rfl rfl rfl B_g9 (Nat.le_of_ble_eq_true rfl) rfl ?_)
 intro w12 B_g9' hk
 replace B_h2 := kp_blk B_h2 hk n_h2_g9
 replace B_m2 := kp_blk B_m2 hk n_m2_g9
 replace B_gV := kp_blk B_gV hk n_gV_g9
 replace B_g1 := kp_blk B_g1 hk n_g1_g9
 replace B_g5 := kp_blk B_g5 hk n_g5_g9
 replace K_0 := K_0.then_ hk (fun k h => by rw [show k = g9 from h]; exact Or.inr z_0_g9)
 replace B_g9 := B_g9'
 clear hk
 refine q0 (pl P23_9 8) hE (st_assign rfl) ?_; clear hE a; intro a hE
 refine p_nil (x_norm (wp_seq (c_reg R23_10_l ?_)))
 refine qn hE (rc (pl P23_10 0) (st_move rfl) (rc (pl P23_10 1) (st_not rfl rfl) rn)) ?_; clear hE a; intro a hE
 refine p_nil (x_norm ?_)
 refine c_cond (t := false) hE rfl ?_
 refine wp_skip (x_norm (c_reg R23_12_l ?_))
 refine qn hE (rc (pl P23_12 0) (st_move rfl) (rc (pl P23_12 1) (st_fieldAddr Tryd.underlying27 rfl tS3 rfl rfl) rn)) ?_; clear hE a; intro a hE
 refine p_cons (s_store (off := 0) (k := 1) (cs' := #[Value.int .i64 2, Value.int .i64 1, Value.bool false, Value.pointer (some ⟨h2, 0, none⟩)]) (pl P23_12 2) hE wn_none tS3 rfl rfl rfl rfl B_g9 (Nat.le_of_ble_eq_true rfl) rfl ?_)
 intro w13 B_g9' hk
 replace B_h2 := kp_blk B_h2 hk n_h2_g9
 replace B_m2 := kp_blk B_m2 hk n_m2_g9
 replace B_gV := kp_blk B_gV hk n_gV_g9
 replace B_g1 := kp_blk B_g1 hk n_g1_g9
 replace B_g5 := kp_blk B_g5 hk n_g5_g9
 replace K_0 := K_0.then_ hk (fun k h => by rw [show k = g9 from h]; exact Or.inr z_0_g9)
 replace B_g9 := B_g9'
 clear hk
 refine p_nil (x_norm (c_reg R23_13_l ?_))
 refine qn hE (rc (pl P23_13 0) (st_loadN (off := 0) (k := 4) (vs := [Value.int .i64 2, Value.int .i64 1, Value.bool false, Value.pointer (some ⟨h2, 0, none⟩)]) tA27 tS27 rfl B_g9 rfl rfl) (rc (pl P23_13 1) (st_move rfl) (rc (pl P23_13 2) (st_move rfl) (rc (pl P23_13 3) (st_move rfl) rn)))) ?_; clear hE a; intro a hE
 have hct := next_any h2 m2 ck2 es2 (allL []) 2 1 false 2 (-1) false w13 ok_all B_h2 B_m2 hF2
 rw [nx2 (-1) false (by decide)] at hct
 refine p_cons (s_call (xs := [Operand.tmp 52, Operand.tmp 53, Operand.tmp 54, Operand.tmp 55]) (args := [Value.agg #[Value.int .i64 2, Value.int .i64 1, Value.bool false, Value.pointer (some ⟨h2, 0, none⟩)], Value.int .i64 2, Value.int .i64 (-1), Value.bool false]) (pl P23_13 4) hE wn_none rfl rfl Tryd.func6 cl6 (hct) ?_)
 rintro e w14 ⟨rfl, hk⟩
 replace B_h2 := kp_blk B_h2 hk (fun h => h)
 replace B_m2 := kp_blk B_m2 hk (fun h => h)
 replace B_gV := kp_blk B_gV hk (fun h => h)
 replace B_g1 := kp_blk B_g1 hk (fun h => h)
 replace B_g5 := kp_blk B_g5 hk (fun h => h)
 replace B_g9 := kp_blk B_g9 hk (fun h => h)
 replace K_0 := K_0.then_ hk (fun _ h => h.elim)
 refine ⟨_, rfl, ?_⟩; clear hE a; intro a hE
 refine qn hE (rc (pl P23_13 5) (st_move rfl) (rc (pl P23_13 6) (st_extract rfl rfl) (rc (pl P23_13 7) (st_extract rfl rfl) rn))) ?_; clear hE a; intro a hE
 refine p_cons (s_alloc (pl P23_13 8) hE wn_none rfl tZ31 ?_)
 clear hE a; intro g15 w16 z17 B_g15 hk a hE
 replace B_g15 : w16.heap[g15]? = some (.cells #[Value.int .i64 0, Value.int .i64 0, Value.bool false] 31 (0, 0)) := B_g15
 have n_h2_g15 : h2 ≠ g15 := ne_new B_h2 z17
 have n_m2_g15 : m2 ≠ g15 := ne_new B_m2 z17
 have n_gV_g15 : gV ≠ g15 := ne_new B_gV z17
 have n_g1_g15 : g1 ≠ g15 := ne_new B_g1 z17
 have n_g5_g15 : g5 ≠ g15 := ne_new B_g5 z17
 have n_g9_g15 : g9 ≠ g15 := ne_new B_g9 z17
 have z_0_g15 := Nat.le_trans K_0.kept.1 z17
 replace B_h2 := kp_blk B_h2 hk (fun h => h)
 replace B_m2 := kp_blk B_m2 hk (fun h => h)
 replace B_gV := kp_blk B_gV hk (fun h => h)
 replace B_g1 := kp_blk B_g1 hk (fun h => h)
 replace B_g5 := kp_blk B_g5 hk (fun h => h)
 replace B_g9 := kp_blk B_g9 hk (fun h => h)
 replace K_0 := K_0.then_ hk (fun _ h => h.elim)
 clear hk
 refine p_cons (s_store (off := 0) (k := 3) (cs' := #[Value.int .i64 0, Value.int .i64 (-1), Value.bool false]) (pl P23_13 9) hE wn_none tS31 rfl rfl rfl rfl B_g15 (Nat.le_of_ble_eq_true rfl) rfl ?_)
 intro w18 B_g15' hk
 replace B_h2 := kp_blk B_h2 hk n_h2_g15
 replace B_m2 := kp_blk B_m2 hk n_m2_g15
 replace B_gV := kp_blk B_gV hk n_gV_g15
 replace B_g1 := kp_blk B_g1 hk n_g1_g15
 replace B_g5 := kp_blk B_g5 hk n_g5_g15
 replace B_g9 := kp_blk B_g9 hk n_g9_g15
 replace K_0 := K_0.then_ hk (fun k h => by rw [show k = g15 from h]; exact Or.inr z_0_g15)
 replace B_g15 := B_g15'
 clear hk
 refine q0 (pl P23_13 10) hE (st_assign rfl) ?_; clear hE a; intro a hE
 refine p_nil (x_norm (wp_seq (c_reg R23_14_l ?_)))
 refine qn hE (rc (pl P23_14 0) (st_move rfl) (rc (pl P23_14 1) (st_neq (b := false) rfl rfl (by decide)) rn)) ?_; clear hE a; intro a hE
 refine p_nil (x_norm ?_)
 refine c_cond (t := false) hE rfl ?_
 refine wp_skip (x_norm (c_reg R23_16_l ?_))
 refine qn hE (rc (pl P23_16 0) (st_move rfl) (rc (pl P23_16 1) (st_move rfl) rn)) ?_; clear hE a; intro a hE
 refine p_cons (s_row (xs := [(0, Operand.tmp 63)]) (vs := [(0, Value.int .i64 2)]) (cs := #[Value.int .i64 2]) (pl P23_16 2) hE wn_none rfl Tryd.underlying45 rfl (by kernel_rfl) ?_)
 clear hE a; intro g19 w20 z21 B_g19 hk a hE
 have n_h2_g19 : h2 ≠ g19 := ne_new B_h2 z21
 have n_m2_g19 : m2 ≠ g19 := ne_new B_m2 z21
 have n_gV_g19 : gV ≠ g19 := ne_new B_gV z21
 have n_g1_g19 : g1 ≠ g19 := ne_new B_g1 z21
 have n_g5_g19 : g5 ≠ g19 := ne_new B_g5 z21
 have n_g9_g19 : g9 ≠ g19 := ne_new B_g9 z21
 have n_g15_g19 : g15 ≠ g19 := ne_new B_g15 z21
 have z_0_g19 := Nat.le_trans K_0.kept.1 z21
 replace B_h2 := kp_blk B_h2 hk (fun h => h)
 replace B_m2 := kp_blk B_m2 hk (fun h => h)
 replace B_gV := kp_blk B_gV hk (fun h => h)
 replace B_g1 := kp_blk B_g1 hk (fun h => h)
 replace B_g5 := kp_blk B_g5 hk (fun h => h)
 replace B_g9 := kp_blk B_g9 hk (fun h => h)
 replace B_g15 := kp_blk B_g15 hk (fun h => h)
 replace K_0 := K_0.then_ hk (fun _ h => h.elim)
 clear hk
 have O_l := own_none w20 w.heap.size 3 1
 have Nb_l_h2 : ¬ OB none h2 := ob_nil
 have Nb_l_m2 : ¬ OB none m2 := ob_nil
 have Nb_l_gV : ¬ OB none gV := ob_nil
 have Nb_l_g1 : ¬ OB none g1 := ob_nil
 have Nb_l_g5 : ¬ OB none g5 := ob_nil
 have Nb_l_g9 : ¬ OB none g9 := ob_nil
 have Nb_l_g15 : ¬ OB none g15 := ob_nil
 have Nb_l_g19 : ¬ OB none g19 := ob_nil
 have Z_0_l : ∀ k, OB none k → (fun _ => False) k ∨ w.heap.size ≤ k := fun k h => absurd h ob_nil
 refine p_cons (s_appendC (xs := []) (ys := [2]) (pl P23_16 3) hE wn_none rfl Tryd.underlying45 eD3 rfl O_l rfl (C_blk (k := .i64) (l := [2]) (off := 0) B_g19 ⟨rfl, Nat.le_of_ble_eq_true rfl⟩ rfl) (by omega) (by omega) K_0.kept.1 ?_)
 clear hE a; intro Al22 cl23 w24 O_l' hk hat a hE
 have Nb_l_h2' := grow_n Nb_l_h2 (blk_lt B_h2) hat
 have Nb_l_m2' := grow_n Nb_l_m2 (blk_lt B_m2) hat
 have Nb_l_gV' := grow_n Nb_l_gV (blk_lt B_gV) hat
 have Nb_l_g1' := grow_n Nb_l_g1 (blk_lt B_g1) hat
 have Nb_l_g5' := grow_n Nb_l_g5 (blk_lt B_g5) hat
 have Nb_l_g9' := grow_n Nb_l_g9 (blk_lt B_g9) hat
 have Nb_l_g15' := grow_n Nb_l_g15 (blk_lt B_g15) hat
 have Nb_l_g19' := grow_n Nb_l_g19 (blk_lt B_g19) hat
 have Z_0_l' := grow_z Z_0_l K_0.kept.1 hat
 replace B_h2 := kp_blk B_h2 hk Nb_l_h2
 replace B_m2 := kp_blk B_m2 hk Nb_l_m2
 replace B_gV := kp_blk B_gV hk Nb_l_gV
 replace B_g1 := kp_blk B_g1 hk Nb_l_g1
 replace B_g5 := kp_blk B_g5 hk Nb_l_g5
 replace B_g9 := kp_blk B_g9 hk Nb_l_g9
 replace B_g15 := kp_blk B_g15 hk Nb_l_g15
 replace B_g19 := kp_blk B_g19 hk Nb_l_g19
 replace K_0 := K_0.then_ hk Z_0_l
 replace Nb_l_h2 := Nb_l_h2'
 replace Nb_l_m2 := Nb_l_m2'
 replace Nb_l_gV := Nb_l_gV'
 replace Nb_l_g1 := Nb_l_g1'
 replace Nb_l_g5 := Nb_l_g5'
 replace Nb_l_g9 := Nb_l_g9'
 replace Nb_l_g15 := Nb_l_g15'
 replace Nb_l_g19 := Nb_l_g19'
 replace Z_0_l := Z_0_l'
 replace O_l : w24.ownsRow _ 3 1 (.slice Al22 1 cl23) 1 (encs (Value.int .i64) [2]) := O_l'
 clear O_l' hk hat
 refine q0 (pl P23_16 4) hE (st_assign rfl) ?_; clear hE a; intro a hE
 refine p_nil (x_norm (wp_seq (c_reg R23_17_l ?_)))
 refine qn hE (rc (pl P23_17 0) (st_fieldAddr Tryd.underlying31 rfl tS3 rfl rfl) (rc (pl P23_17 1) (st_load1 tA3 rfl ((blk_cell B_g15 0).trans rfl)) rn)) ?_; clear hE a; intro a hE
 refine p_nil (x_norm (wp_block (c_reg R23_18_l ?_)))
 refine qn hE (rc (pl P23_18 0) (st_eql (b := true) rfl rfl (by decide)) (rc (pl P23_18 1) (st_assign rfl) rn)) ?_; clear hE a; intro a hE
 refine p_nil (x_norm ?_)
 refine c_cond (t := true) hE rfl ?_
 refine c_reg R23_19_l ?_
 refine qn hE (rc (pl P23_19 0) (st_move rfl) (rc (pl P23_19 1) (st_assign rfl) (rc (pl P23_19 2) (st_assign rfl) rn))) ?_; clear hE a; intro a hE
 refine p_nil (x_norm (wp_ret (x_retB (x_ret (x_retB (x_ret (x_retB (x_ret (x_retS ?_)))))))))
 refine ret_list (rs := [.tmp 8, .tmp 9]) (vs := [Value.slice Al22 1 cl23, Value.int .i64 0]) rfl hE (.tmp rfl (.tmp rfl .nil)) rfl ?_
 exact ⟨_, _, rfl, O_l, K_0⟩
theorem P23_20 : (List.range (regOf Tryd.f23 20).size).map (pj (regOf Tryd.f23 20)) = [some (some 72, .binOp .eql 3 (.tmp 67) (.const (.int .i64 1)) 3, 4, none), some (some 71, .assign (.tmp 72), 4, none)] := by kernel_rfl
theorem ns23_22 : Region.noSelect (regOf Tryd.f23 22) = true := by kernel_rfl
theorem p23_22_0 : pj (regOf Tryd.f23 22) 0 = some (some 74, .move (.tmp 13), 3, none) := by kernel_rfl
theorem p23_22_1 : pj (regOf Tryd.f23 22) 1 = some (some 75, .fieldAddr 31 (.tmp 18) 1, 0, none) := by kernel_rfl
theorem p23_22_2 : pj (regOf Tryd.f23 22) 2 = some (some 76, .load 3 (.tmp 75), 3, none) := by kernel_rfl
theorem p23_22_3 : pj (regOf Tryd.f23 22) 3 = some (some 77, .fieldAddr 31 (.tmp 18) 2, 0, none) := by kernel_rfl
theorem tS4 : (Tryd.prog.info? 4).map (·.size) = some 1 := by kernel_rfl
theorem p23_22_4 : pj (regOf Tryd.f23 22) 4 = some (some 78, .load 4 (.tmp 77), 4, none) := by kernel_rfl
theorem tA4 : (Tryd.prog.underlying 4).map aggD = some false := by kernel_rfl
theorem p23_22_5 : pj (regOf Tryd.f23 22) 5 = some (some 14, .assign (.tmp 74), 3, none) := by kernel_rfl
theorem p23_22_6 : pj (regOf Tryd.f23 22) 6 = some (some 13, .assign (.tmp 76), 3, none) := by kernel_rfl
theorem p23_22_7 : pj (regOf Tryd.f23 22) 7 = some (some 15, .assign (.tmp 78), 4, none) := by kernel_rfl
set_option maxHeartbeats 4000000 in
theorem trace_b (gV ck h0 h1 h2 : Nat) (es : Array MapEntry) (m0 ck0 : Nat) (es0 : Array MapEntry) (m1 ck1 : Nat) (es1 : Array MapEntry) (m2 ck2 : Nat) (es2 : Array MapEntry) (w : World) (hgV : w.heap[gV]? = some (.map es ck)) (hFV : MapI encV es ck [(0, (0, -1, true, h0)), (1, (1, 0, false, h1)), (2, (2, 1, false, h2))]) (hb0 : w.heap[h0]? = some (.cells #[.int .i64 32, .map (some m0)] 79 (0, 0))) (hm0 : w.heap[m0]? = some (.map es0 ck0)) (hF0 : MapI encR es0 ck0 (allL [(2, 1, 0, 0)])) (hb1 : w.heap[h1]? = some (.cells #[.int .i64 32, .map (some m1)] 79 (0, 0))) (hm1 : w.heap[m1]? = some (.map es1 ck1)) (hF1 : MapI encR es1 ck1 (allL [(2, 2, 0, 0)])) (hb2 : w.heap[h2]? = some (.cells #[.int .i64 32, .map (some m2)] 79 (0, 0))) (hm2 : w.heap[m2]? = some (.map es2 ck2)) (hF2 : MapI encR es2 ck2 (allL [])) : Calls Tryd.prog 23 #[.map (some gV), .int .i64 0, .int .i64 2, .int .i64 9] w fun e w' => ∃ A c, e = .returned (.tuple #[.slice A 3 c, .int .i64 0]) ∧ w'.ownsRow w.heap.size 3 1 (.slice A 3 c) 3 (encs (Value.int .i64) [0, 1, 2]) ∧ Kp w w' (fun _ => False) := by
 have K_0 := Kp.refl w (fun _ => False)
 have B_h0 := hb0
 have B_m0 := hm0
 have B_h1 := hb1
 have B_m1 := hm1
 have B_h2 := hb2
 have B_m2 := hm2
 have B_gV := hgV
 refine enter (args := [Value.map (some gV), Value.int .i64 0, Value.int .i64 2, Value.int .i64 9]) (n := 79) Tryd.func23 body23 rfl rfl rfl ?_
 intro a hE
 refine c_reg R23_0_l ?_
 refine qn hE (rc (pl P23_0 0) (st_assign rfl) (rc (pl P23_0 1) (st_assign rfl) rn)) ?_; clear hE a; intro a hE
 refine p_nil (x_norm (wp_scope_straight (wp_seq (c_reg R23_1_l ?_))))
 refine qn hE (rc (pl P23_1 0) (st_move rfl) (rc (pl P23_1 1) (st_move rfl) (rg (v := Value.tuple #[Value.agg #[Value.int .i64 0, Value.int .i64 (-1), Value.bool true, Value.pointer (some ⟨h0, 0, none⟩)], Value.bool true]) (pl P23_1 2) wn_none (Mi.st_look2 Tryd.underlying46 Tryd.underlying3 tZ27 rfl rfl hFV B_gV (by rfl) (by rfl)) (rc (pl P23_1 3) (st_move rfl) (rc (pl P23_1 4) (st_extract rfl rfl) (rc (pl P23_1 5) (st_extract rfl rfl) rn)))))) ?_; clear hE a; intro a hE
 refine p_cons (s_alloc (pl P23_1 6) hE wn_none rfl tZ27 ?_)
 clear hE a; intro g1 w2 z3 B_g1 hk a hE
 replace B_g1 : w2.heap[g1]? = some (.cells #[Value.int .i64 0, Value.int .i64 0, Value.bool false, Value.pointer none] 27 (0, 0)) := B_g1
 have n_h0_g1 : h0 ≠ g1 := ne_new B_h0 z3
 have n_m0_g1 : m0 ≠ g1 := ne_new B_m0 z3
 have n_h1_g1 : h1 ≠ g1 := ne_new B_h1 z3
 have n_m1_g1 : m1 ≠ g1 := ne_new B_m1 z3
 have n_h2_g1 : h2 ≠ g1 := ne_new B_h2 z3
 have n_m2_g1 : m2 ≠ g1 := ne_new B_m2 z3
 have n_gV_g1 : gV ≠ g1 := ne_new B_gV z3
 have z_0_g1 := Nat.le_trans K_0.kept.1 z3
 replace B_h0 := kp_blk B_h0 hk (fun h => h)
 replace B_m0 := kp_blk B_m0 hk (fun h => h)
 replace B_h1 := kp_blk B_h1 hk (fun h => h)
 replace B_m1 := kp_blk B_m1 hk (fun h => h)
 replace B_h2 := kp_blk B_h2 hk (fun h => h)
 replace B_m2 := kp_blk B_m2 hk (fun h => h)
 replace B_gV := kp_blk B_gV hk (fun h => h)
 replace K_0 := K_0.then_ hk (fun _ h => h.elim)
 clear hk
 refine p_cons (s_store (off := 0) (k := 4) (cs' := #[Value.int .i64 0, Value.int .i64 (-1), Value.bool true, Value.pointer (some ⟨h0, 0, none⟩)]) (pl P23_1 7) hE wn_none tS27 rfl rfl rfl rfl B_g1 (Nat.le_of_ble_eq_true rfl) rfl ?_)
 intro w4 B_g1' hk
 replace B_h0 := kp_blk B_h0 hk n_h0_g1
 replace B_m0 := kp_blk B_m0 hk n_m0_g1
 replace B_h1 := kp_blk B_h1 hk n_h1_g1
 replace B_m1 := kp_blk B_m1 hk n_m1_g1
 replace B_h2 := kp_blk B_h2 hk n_h2_g1
 replace B_m2 := kp_blk B_m2 hk n_m2_g1
 replace B_gV := kp_blk B_gV hk n_gV_g1
 replace K_0 := K_0.then_ hk (fun k h => by rw [show k = g1 from h]; exact Or.inr z_0_g1)
 replace B_g1 := B_g1'
 clear hk
 refine q0 (pl P23_1 8) hE (st_assign rfl) ?_; clear hE a; intro a hE
 refine p_nil (x_norm (c_reg R23_2_l ?_))
 refine qn hE (rc (pl P23_2 0) (st_move rfl) (rc (pl P23_2 1) (st_not rfl rfl) rn)) ?_; clear hE a; intro a hE
 refine p_nil (x_norm ?_)
 refine c_cond (t := false) hE rfl ?_
 refine wp_skip (x_norm (wp_seq (c_reg R23_4_l ?_)))
 refine q0 (pl P23_4 0) hE (st_move rfl) ?_; clear hE a; intro a hE
 refine p_cons (s_row (xs := [(0, Operand.tmp 28)]) (vs := [(0, Value.int .i64 9)]) (cs := #[Value.int .i64 9]) (pl P23_4 1) hE wn_none rfl Tryd.underlying45 rfl (by kernel_rfl) ?_)
 clear hE a; intro g5 w6 z7 B_g5 hk a hE
 have n_h0_g5 : h0 ≠ g5 := ne_new B_h0 z7
 have n_m0_g5 : m0 ≠ g5 := ne_new B_m0 z7
 have n_h1_g5 : h1 ≠ g5 := ne_new B_h1 z7
 have n_m1_g5 : m1 ≠ g5 := ne_new B_m1 z7
 have n_h2_g5 : h2 ≠ g5 := ne_new B_h2 z7
 have n_m2_g5 : m2 ≠ g5 := ne_new B_m2 z7
 have n_gV_g5 : gV ≠ g5 := ne_new B_gV z7
 have n_g1_g5 : g1 ≠ g5 := ne_new B_g1 z7
 have z_0_g5 := Nat.le_trans K_0.kept.1 z7
 replace B_h0 := kp_blk B_h0 hk (fun h => h)
 replace B_m0 := kp_blk B_m0 hk (fun h => h)
 replace B_h1 := kp_blk B_h1 hk (fun h => h)
 replace B_m1 := kp_blk B_m1 hk (fun h => h)
 replace B_h2 := kp_blk B_h2 hk (fun h => h)
 replace B_m2 := kp_blk B_m2 hk (fun h => h)
 replace B_gV := kp_blk B_gV hk (fun h => h)
 replace B_g1 := kp_blk B_g1 hk (fun h => h)
 replace K_0 := K_0.then_ hk (fun _ h => h.elim)
 clear hk
 refine p_cons (s_call (xs := [Operand.const (Value.int IntKind.i64 1), Operand.tmp 29]) (args := [Value.int .i64 1, Value.slice (some ⟨g5, 0, none⟩) 1 1]) (pl P23_4 2) hE wn_none rfl rfl Tryd.func33 cl33 (fits9 g5 _ B_g5) ?_)
 rintro e w8 ⟨rfl, hk⟩
 replace B_h0 := kp_blk B_h0 hk (fun h => h)
 replace B_m0 := kp_blk B_m0 hk (fun h => h)
 replace B_h1 := kp_blk B_h1 hk (fun h => h)
 replace B_m1 := kp_blk B_m1 hk (fun h => h)
 replace B_h2 := kp_blk B_h2 hk (fun h => h)
 replace B_m2 := kp_blk B_m2 hk (fun h => h)
 replace B_gV := kp_blk B_gV hk (fun h => h)
 replace B_g1 := kp_blk B_g1 hk (fun h => h)
 replace B_g5 := kp_blk B_g5 hk (fun h => h)
 replace K_0 := K_0.then_ hk (fun _ h => h.elim)
 refine ⟨_, rfl, ?_⟩; clear hE a; intro a hE
 refine qn hE (rc (pl P23_4 3) (st_not rfl rfl) (rc (pl P23_4 4) (st_move rfl) (rg (pl P23_4 5) (wn_some g23_4_4 rfl rfl) (st_move rfl) (rg (pl P23_4 6) (wn_some g23_4_4 rfl rfl) (st_eql (b := false) rfl rfl (by decide)) (rc (pl P23_4 7) (st_pick rfl rfl) rn))))) ?_; clear hE a; intro a hE
 refine p_nil (x_norm ?_)
 refine c_cond (t := false) hE rfl ?_
 refine wp_skip (x_norm (c_reg R23_6_l ?_))
 refine q0 p23_6_0 hE (st_assign rfl) ?_; clear hE a; intro a hE
 refine p_nil (x_norm (c_reg R23_7_l ?_))
 refine qn hE (rc (pl P23_7 0) (st_move rfl) (rc (pl P23_7 1) (st_assign rfl) (rc (pl P23_7 2) (st_assign rfl) (rc (pl P23_7 3) (st_assign rfl) rn)))) ?_; clear hE a; intro a hE
 refine p_nil (x_norm (wp_seq (wp_label (x_norm (wp_seq (wp_block ?_))))))
 refine wp_loop_rounds 3 ?_
 refine (Eq.mpr (rounds_succ (n := 2)) ?_)
 refine wp_seq (c_reg R23_8_l ?_)
 refine qn hE (rc (pl P23_8 0) (st_move rfl) (rc (pl P23_8 1) (st_len Tryd.underlying45 rfl) (rc (pl P23_8 2) (st_move rfl) (rc (pl P23_8 3) (st_lss (b := true) rfl rfl (by decide)) rn)))) ?_; clear hE a; intro a hE
 refine p_nil (x_norm ?_)
 refine c_cond (t := true) hE rfl ?_
 refine wp_skip (x_norm (wp_block (c_reg R23_9_l ?_)))
 refine qn hE (rc (pl P23_9 0) (st_move rfl) (rc (pl P23_9 1) (st_move rfl) (rg (v := Value.tuple #[Value.agg #[Value.int .i64 0, Value.int .i64 (-1), Value.bool true, Value.pointer (some ⟨h0, 0, none⟩)], Value.bool true]) (pl P23_9 2) wn_none (Mi.st_look2 Tryd.underlying46 Tryd.underlying3 tZ27 rfl rfl hFV B_gV (by rfl) (by rfl)) (rc (pl P23_9 3) (st_move rfl) (rc (pl P23_9 4) (st_extract rfl rfl) (rc (pl P23_9 5) (st_extract rfl rfl) rn)))))) ?_; clear hE a; intro a hE
 refine p_cons (s_alloc (pl P23_9 6) hE wn_none rfl tZ27 ?_)
 clear hE a; intro g9 w10 z11 B_g9 hk a hE
 replace B_g9 : w10.heap[g9]? = some (.cells #[Value.int .i64 0, Value.int .i64 0, Value.bool false, Value.pointer none] 27 (0, 0)) := B_g9
 have n_h0_g9 : h0 ≠ g9 := ne_new B_h0 z11
 have n_m0_g9 : m0 ≠ g9 := ne_new B_m0 z11
 have n_h1_g9 : h1 ≠ g9 := ne_new B_h1 z11
 have n_m1_g9 : m1 ≠ g9 := ne_new B_m1 z11
 have n_h2_g9 : h2 ≠ g9 := ne_new B_h2 z11
 have n_m2_g9 : m2 ≠ g9 := ne_new B_m2 z11
 have n_gV_g9 : gV ≠ g9 := ne_new B_gV z11
 have n_g1_g9 : g1 ≠ g9 := ne_new B_g1 z11
 have n_g5_g9 : g5 ≠ g9 := ne_new B_g5 z11
 have z_0_g9 := Nat.le_trans K_0.kept.1 z11
 replace B_h0 := kp_blk B_h0 hk (fun h => h)
 replace B_m0 := kp_blk B_m0 hk (fun h => h)
 replace B_h1 := kp_blk B_h1 hk (fun h => h)
 replace B_m1 := kp_blk B_m1 hk (fun h => h)
 replace B_h2 := kp_blk B_h2 hk (fun h => h)
 replace B_m2 := kp_blk B_m2 hk (fun h => h)
 replace B_gV := kp_blk B_gV hk (fun h => h)
 replace B_g1 := kp_blk B_g1 hk (fun h => h)
 replace B_g5 := kp_blk B_g5 hk (fun h => h)
 replace K_0 := K_0.then_ hk (fun _ h => h.elim)
 clear hk
 refine p_cons (s_store (off := 0) (k := 4) (cs' := #[Value.int .i64 0, Value.int .i64 (-1), Value.bool true, Value.pointer (some ⟨h0, 0, none⟩)]) (pl P23_9 7) hE wn_none tS27 rfl rfl rfl rfl B_g9 (Nat.le_of_ble_eq_true rfl) rfl ?_)
 intro w12 B_g9' hk
 replace B_h0 := kp_blk B_h0 hk n_h0_g9
 replace B_m0 := kp_blk B_m0 hk n_m0_g9
 replace B_h1 := kp_blk B_h1 hk n_h1_g9
 replace B_m1 := kp_blk B_m1 hk n_m1_g9
 replace B_h2 := kp_blk B_h2 hk n_h2_g9
 replace B_m2 := kp_blk B_m2 hk n_m2_g9
 replace B_gV := kp_blk B_gV hk n_gV_g9
 replace B_g1 := kp_blk B_g1 hk n_g1_g9
 replace B_g5 := kp_blk B_g5 hk n_g5_g9
 replace K_0 := K_0.then_ hk (fun k h => by rw [show k = g9 from h]; exact Or.inr z_0_g9)
 replace B_g9 := B_g9'
 clear hk
 refine q0 (pl P23_9 8) hE (st_assign rfl) ?_; clear hE a; intro a hE
 refine p_nil (x_norm (wp_seq (c_reg R23_10_l ?_)))
 refine qn hE (rc (pl P23_10 0) (st_move rfl) (rc (pl P23_10 1) (st_not rfl rfl) rn)) ?_; clear hE a; intro a hE
 refine p_nil (x_norm ?_)
 refine c_cond (t := false) hE rfl ?_
 refine wp_skip (x_norm (c_reg R23_12_l ?_))
 refine qn hE (rc (pl P23_12 0) (st_move rfl) (rc (pl P23_12 1) (st_fieldAddr Tryd.underlying27 rfl tS3 rfl rfl) rn)) ?_; clear hE a; intro a hE
 refine p_cons (s_store (off := 0) (k := 1) (cs' := #[Value.int .i64 0, Value.int .i64 (-1), Value.bool true, Value.pointer (some ⟨h0, 0, none⟩)]) (pl P23_12 2) hE wn_none tS3 rfl rfl rfl rfl B_g9 (Nat.le_of_ble_eq_true rfl) rfl ?_)
 intro w13 B_g9' hk
 replace B_h0 := kp_blk B_h0 hk n_h0_g9
 replace B_m0 := kp_blk B_m0 hk n_m0_g9
 replace B_h1 := kp_blk B_h1 hk n_h1_g9
 replace B_m1 := kp_blk B_m1 hk n_m1_g9
 replace B_h2 := kp_blk B_h2 hk n_h2_g9
 replace B_m2 := kp_blk B_m2 hk n_m2_g9
 replace B_gV := kp_blk B_gV hk n_gV_g9
 replace B_g1 := kp_blk B_g1 hk n_g1_g9
 replace B_g5 := kp_blk B_g5 hk n_g5_g9
 replace K_0 := K_0.then_ hk (fun k h => by rw [show k = g9 from h]; exact Or.inr z_0_g9)
 replace B_g9 := B_g9'
 clear hk
 refine p_nil (x_norm (c_reg R23_13_l ?_))
 refine qn hE (rc (pl P23_13 0) (st_loadN (off := 0) (k := 4) (vs := [Value.int .i64 0, Value.int .i64 (-1), Value.bool true, Value.pointer (some ⟨h0, 0, none⟩)]) tA27 tS27 rfl B_g9 rfl rfl) (rc (pl P23_13 1) (st_move rfl) (rc (pl P23_13 2) (st_move rfl) (rc (pl P23_13 3) (st_move rfl) rn)))) ?_; clear hE a; intro a hE
 have hct := next_any h0 m0 ck0 es0 (allL [(2, 1, 0, 0)]) 0 (-1) true 2 (-1) false w13 ok_all B_h0 B_m0 hF0
 rw [nx0] at hct
 refine p_cons (s_call (xs := [Operand.tmp 52, Operand.tmp 53, Operand.tmp 54, Operand.tmp 55]) (args := [Value.agg #[Value.int .i64 0, Value.int .i64 (-1), Value.bool true, Value.pointer (some ⟨h0, 0, none⟩)], Value.int .i64 2, Value.int .i64 (-1), Value.bool false]) (pl P23_13 4) hE wn_none rfl rfl Tryd.func6 cl6 (hct) ?_)
 rintro e w14 ⟨rfl, hk⟩
 replace B_h0 := kp_blk B_h0 hk (fun h => h)
 replace B_m0 := kp_blk B_m0 hk (fun h => h)
 replace B_h1 := kp_blk B_h1 hk (fun h => h)
 replace B_m1 := kp_blk B_m1 hk (fun h => h)
 replace B_h2 := kp_blk B_h2 hk (fun h => h)
 replace B_m2 := kp_blk B_m2 hk (fun h => h)
 replace B_gV := kp_blk B_gV hk (fun h => h)
 replace B_g1 := kp_blk B_g1 hk (fun h => h)
 replace B_g5 := kp_blk B_g5 hk (fun h => h)
 replace B_g9 := kp_blk B_g9 hk (fun h => h)
 replace K_0 := K_0.then_ hk (fun _ h => h.elim)
 refine ⟨_, rfl, ?_⟩; clear hE a; intro a hE
 refine qn hE (rc (pl P23_13 5) (st_move rfl) (rc (pl P23_13 6) (st_extract rfl rfl) (rc (pl P23_13 7) (st_extract rfl rfl) rn))) ?_; clear hE a; intro a hE
 refine p_cons (s_alloc (pl P23_13 8) hE wn_none rfl tZ31 ?_)
 clear hE a; intro g15 w16 z17 B_g15 hk a hE
 replace B_g15 : w16.heap[g15]? = some (.cells #[Value.int .i64 0, Value.int .i64 0, Value.bool false] 31 (0, 0)) := B_g15
 have n_h0_g15 : h0 ≠ g15 := ne_new B_h0 z17
 have n_m0_g15 : m0 ≠ g15 := ne_new B_m0 z17
 have n_h1_g15 : h1 ≠ g15 := ne_new B_h1 z17
 have n_m1_g15 : m1 ≠ g15 := ne_new B_m1 z17
 have n_h2_g15 : h2 ≠ g15 := ne_new B_h2 z17
 have n_m2_g15 : m2 ≠ g15 := ne_new B_m2 z17
 have n_gV_g15 : gV ≠ g15 := ne_new B_gV z17
 have n_g1_g15 : g1 ≠ g15 := ne_new B_g1 z17
 have n_g5_g15 : g5 ≠ g15 := ne_new B_g5 z17
 have n_g9_g15 : g9 ≠ g15 := ne_new B_g9 z17
 have z_0_g15 := Nat.le_trans K_0.kept.1 z17
 replace B_h0 := kp_blk B_h0 hk (fun h => h)
 replace B_m0 := kp_blk B_m0 hk (fun h => h)
 replace B_h1 := kp_blk B_h1 hk (fun h => h)
 replace B_m1 := kp_blk B_m1 hk (fun h => h)
 replace B_h2 := kp_blk B_h2 hk (fun h => h)
 replace B_m2 := kp_blk B_m2 hk (fun h => h)
 replace B_gV := kp_blk B_gV hk (fun h => h)
 replace B_g1 := kp_blk B_g1 hk (fun h => h)
 replace B_g5 := kp_blk B_g5 hk (fun h => h)
 replace B_g9 := kp_blk B_g9 hk (fun h => h)
 replace K_0 := K_0.then_ hk (fun _ h => h.elim)
 clear hk
 refine p_cons (s_store (off := 0) (k := 3) (cs' := #[Value.int .i64 1, Value.int .i64 1, Value.bool true]) (pl P23_13 9) hE wn_none tS31 rfl rfl rfl rfl B_g15 (Nat.le_of_ble_eq_true rfl) rfl ?_)
 intro w18 B_g15' hk
 replace B_h0 := kp_blk B_h0 hk n_h0_g15
 replace B_m0 := kp_blk B_m0 hk n_m0_g15
 replace B_h1 := kp_blk B_h1 hk n_h1_g15
 replace B_m1 := kp_blk B_m1 hk n_m1_g15
 replace B_h2 := kp_blk B_h2 hk n_h2_g15
 replace B_m2 := kp_blk B_m2 hk n_m2_g15
 replace B_gV := kp_blk B_gV hk n_gV_g15
 replace B_g1 := kp_blk B_g1 hk n_g1_g15
 replace B_g5 := kp_blk B_g5 hk n_g5_g15
 replace B_g9 := kp_blk B_g9 hk n_g9_g15
 replace K_0 := K_0.then_ hk (fun k h => by rw [show k = g15 from h]; exact Or.inr z_0_g15)
 replace B_g15 := B_g15'
 clear hk
 refine q0 (pl P23_13 10) hE (st_assign rfl) ?_; clear hE a; intro a hE
 refine p_nil (x_norm (wp_seq (c_reg R23_14_l ?_)))
 refine qn hE (rc (pl P23_14 0) (st_move rfl) (rc (pl P23_14 1) (st_neq (b := false) rfl rfl (by decide)) rn)) ?_; clear hE a; intro a hE
 refine p_nil (x_norm ?_)
 refine c_cond (t := false) hE rfl ?_
 refine wp_skip (x_norm (c_reg R23_16_l ?_))
 refine qn hE (rc (pl P23_16 0) (st_move rfl) (rc (pl P23_16 1) (st_move rfl) rn)) ?_; clear hE a; intro a hE
 refine p_cons (s_row (xs := [(0, Operand.tmp 63)]) (vs := [(0, Value.int .i64 0)]) (cs := #[Value.int .i64 0]) (pl P23_16 2) hE wn_none rfl Tryd.underlying45 rfl (by kernel_rfl) ?_)
 clear hE a; intro g19 w20 z21 B_g19 hk a hE
 have n_h0_g19 : h0 ≠ g19 := ne_new B_h0 z21
 have n_m0_g19 : m0 ≠ g19 := ne_new B_m0 z21
 have n_h1_g19 : h1 ≠ g19 := ne_new B_h1 z21
 have n_m1_g19 : m1 ≠ g19 := ne_new B_m1 z21
 have n_h2_g19 : h2 ≠ g19 := ne_new B_h2 z21
 have n_m2_g19 : m2 ≠ g19 := ne_new B_m2 z21
 have n_gV_g19 : gV ≠ g19 := ne_new B_gV z21
 have n_g1_g19 : g1 ≠ g19 := ne_new B_g1 z21
 have n_g5_g19 : g5 ≠ g19 := ne_new B_g5 z21
 have n_g9_g19 : g9 ≠ g19 := ne_new B_g9 z21
 have n_g15_g19 : g15 ≠ g19 := ne_new B_g15 z21
 have z_0_g19 := Nat.le_trans K_0.kept.1 z21
 replace B_h0 := kp_blk B_h0 hk (fun h => h)
 replace B_m0 := kp_blk B_m0 hk (fun h => h)
 replace B_h1 := kp_blk B_h1 hk (fun h => h)
 replace B_m1 := kp_blk B_m1 hk (fun h => h)
 replace B_h2 := kp_blk B_h2 hk (fun h => h)
 replace B_m2 := kp_blk B_m2 hk (fun h => h)
 replace B_gV := kp_blk B_gV hk (fun h => h)
 replace B_g1 := kp_blk B_g1 hk (fun h => h)
 replace B_g5 := kp_blk B_g5 hk (fun h => h)
 replace B_g9 := kp_blk B_g9 hk (fun h => h)
 replace B_g15 := kp_blk B_g15 hk (fun h => h)
 replace K_0 := K_0.then_ hk (fun _ h => h.elim)
 clear hk
 have O_l := own_none w20 w.heap.size 3 1
 have Nb_l_h0 : ¬ OB none h0 := ob_nil
 have Nb_l_m0 : ¬ OB none m0 := ob_nil
 have Nb_l_h1 : ¬ OB none h1 := ob_nil
 have Nb_l_m1 : ¬ OB none m1 := ob_nil
 have Nb_l_h2 : ¬ OB none h2 := ob_nil
 have Nb_l_m2 : ¬ OB none m2 := ob_nil
 have Nb_l_gV : ¬ OB none gV := ob_nil
 have Nb_l_g1 : ¬ OB none g1 := ob_nil
 have Nb_l_g5 : ¬ OB none g5 := ob_nil
 have Nb_l_g9 : ¬ OB none g9 := ob_nil
 have Nb_l_g15 : ¬ OB none g15 := ob_nil
 have Nb_l_g19 : ¬ OB none g19 := ob_nil
 have Z_0_l : ∀ k, OB none k → (fun _ => False) k ∨ w.heap.size ≤ k := fun k h => absurd h ob_nil
 refine p_cons (s_appendC (xs := []) (ys := [0]) (pl P23_16 3) hE wn_none rfl Tryd.underlying45 eD3 rfl O_l rfl (C_blk (k := .i64) (l := [0]) (off := 0) B_g19 ⟨rfl, Nat.le_of_ble_eq_true rfl⟩ rfl) (by omega) (by omega) K_0.kept.1 ?_)
 clear hE a; intro Al22 cl23 w24 O_l' hk hat a hE
 have Nb_l_h0' := grow_n Nb_l_h0 (blk_lt B_h0) hat
 have Nb_l_m0' := grow_n Nb_l_m0 (blk_lt B_m0) hat
 have Nb_l_h1' := grow_n Nb_l_h1 (blk_lt B_h1) hat
 have Nb_l_m1' := grow_n Nb_l_m1 (blk_lt B_m1) hat
 have Nb_l_h2' := grow_n Nb_l_h2 (blk_lt B_h2) hat
 have Nb_l_m2' := grow_n Nb_l_m2 (blk_lt B_m2) hat
 have Nb_l_gV' := grow_n Nb_l_gV (blk_lt B_gV) hat
 have Nb_l_g1' := grow_n Nb_l_g1 (blk_lt B_g1) hat
 have Nb_l_g5' := grow_n Nb_l_g5 (blk_lt B_g5) hat
 have Nb_l_g9' := grow_n Nb_l_g9 (blk_lt B_g9) hat
 have Nb_l_g15' := grow_n Nb_l_g15 (blk_lt B_g15) hat
 have Nb_l_g19' := grow_n Nb_l_g19 (blk_lt B_g19) hat
 have Z_0_l' := grow_z Z_0_l K_0.kept.1 hat
 replace B_h0 := kp_blk B_h0 hk Nb_l_h0
 replace B_m0 := kp_blk B_m0 hk Nb_l_m0
 replace B_h1 := kp_blk B_h1 hk Nb_l_h1
 replace B_m1 := kp_blk B_m1 hk Nb_l_m1
 replace B_h2 := kp_blk B_h2 hk Nb_l_h2
 replace B_m2 := kp_blk B_m2 hk Nb_l_m2
 replace B_gV := kp_blk B_gV hk Nb_l_gV
 replace B_g1 := kp_blk B_g1 hk Nb_l_g1
 replace B_g5 := kp_blk B_g5 hk Nb_l_g5
 replace B_g9 := kp_blk B_g9 hk Nb_l_g9
 replace B_g15 := kp_blk B_g15 hk Nb_l_g15
 replace B_g19 := kp_blk B_g19 hk Nb_l_g19
 replace K_0 := K_0.then_ hk Z_0_l
 replace Nb_l_h0 := Nb_l_h0'
 replace Nb_l_m0 := Nb_l_m0'
 replace Nb_l_h1 := Nb_l_h1'
 replace Nb_l_m1 := Nb_l_m1'
 replace Nb_l_h2 := Nb_l_h2'
 replace Nb_l_m2 := Nb_l_m2'
 replace Nb_l_gV := Nb_l_gV'
 replace Nb_l_g1 := Nb_l_g1'
 replace Nb_l_g5 := Nb_l_g5'
 replace Nb_l_g9 := Nb_l_g9'
 replace Nb_l_g15 := Nb_l_g15'
 replace Nb_l_g19 := Nb_l_g19'
 replace Z_0_l := Z_0_l'
 replace O_l : w24.ownsRow _ 3 1 (.slice Al22 1 cl23) 1 (encs (Value.int .i64) [0]) := O_l'
 clear O_l' hk hat
 refine q0 (pl P23_16 4) hE (st_assign rfl) ?_; clear hE a; intro a hE
 refine p_nil (x_norm (wp_seq (c_reg R23_17_l ?_)))
 refine qn hE (rc (pl P23_17 0) (st_fieldAddr Tryd.underlying31 rfl tS3 rfl rfl) (rc (pl P23_17 1) (st_load1 tA3 rfl ((blk_cell B_g15 0).trans rfl)) rn)) ?_; clear hE a; intro a hE
 refine p_nil (x_norm (wp_block (c_reg R23_18_l ?_)))
 refine qn hE (rc (pl P23_18 0) (st_eql (b := false) rfl rfl (by decide)) (rc (pl P23_18 1) (st_assign rfl) rn)) ?_; clear hE a; intro a hE
 refine p_nil (x_norm ?_)
 refine c_cond (t := false) hE rfl ?_
 refine wp_seq (c_reg R23_20_l ?_)
 refine qn hE (rc (pl P23_20 0) (st_eql (b := true) rfl rfl (by decide)) (rc (pl P23_20 1) (st_assign rfl) rn)) ?_; clear hE a; intro a hE
 refine p_nil (x_norm ?_)
 refine c_cond (t := true) hE rfl ?_
 refine wp_skip (x_norm ?_)
 refine c_cond (t := true) hE rfl ?_
 refine c_drawS (S := fun W => W.heap[g15]? = some (.cells #[Value.int .i64 1, Value.int .i64 1, Value.bool true] 31 (0, 0)) ∧ True) rfl rfl (listed := #[false, false, false, false, false, false, false, false]) rfl ?_
 intro w25 hh hk
 replace B_h0 := kp_blk B_h0 hk (fun h => h)
 replace B_m0 := kp_blk B_m0 hk (fun h => h)
 replace B_h1 := kp_blk B_h1 hk (fun h => h)
 replace B_m1 := kp_blk B_m1 hk (fun h => h)
 replace B_h2 := kp_blk B_h2 hk (fun h => h)
 replace B_m2 := kp_blk B_m2 hk (fun h => h)
 replace B_gV := kp_blk B_gV hk (fun h => h)
 replace B_g1 := kp_blk B_g1 hk (fun h => h)
 replace B_g5 := kp_blk B_g5 hk (fun h => h)
 replace B_g9 := kp_blk B_g9 hk (fun h => h)
 replace B_g15 := kp_blk B_g15 hk (fun h => h)
 replace B_g19 := kp_blk B_g19 hk (fun h => h)
 replace O_l := own_keep O_l hk (fun _ _ h => h)
 replace K_0 := K_0.then_ hk (fun _ h => h.elim)
 clear hh hk
 refine Rv.dq (v := Value.int .i64 0) p23_22_0 ns23_22 hE wn_none ⟨B_g15, trivial⟩ (fun W hS => (st_move rfl)) ?_; clear hE a; intro a hE
 refine Rv.dq (v := Value.pointer (some ⟨g15, 1, none⟩)) p23_22_1 ns23_22 hE wn_none ⟨B_g15, trivial⟩ (fun W hS => (st_fieldAddr Tryd.underlying31 rfl tS3 rfl rfl)) ?_; clear hE a; intro a hE
 refine Rv.dq (v := Value.int .i64 1) p23_22_2 ns23_22 hE wn_none ⟨B_g15, trivial⟩ (fun W hS => (st_load1 tA3 rfl ((blk_cell hS.1 1).trans rfl))) ?_; clear hE a; intro a hE
 refine Rv.dq (v := Value.pointer (some ⟨g15, 2, none⟩)) p23_22_3 ns23_22 hE wn_none ⟨B_g15, trivial⟩ (fun W hS => (st_fieldAddr Tryd.underlying31 rfl tS4 rfl rfl)) ?_; clear hE a; intro a hE
 refine Rv.dq (v := Value.bool true) p23_22_4 ns23_22 hE wn_none ⟨B_g15, trivial⟩ (fun W hS => (st_load1 tA4 rfl ((blk_cell hS.1 2).trans rfl))) ?_; clear hE a; intro a hE
 refine Rv.dq (v := Value.int .i64 0) p23_22_5 ns23_22 hE wn_none ⟨B_g15, trivial⟩ (fun W hS => (st_assign rfl)) ?_; clear hE a; intro a hE
 refine Rv.dq (v := Value.int .i64 1) p23_22_6 ns23_22 hE wn_none ⟨B_g15, trivial⟩ (fun W hS => (st_assign rfl)) ?_; clear hE a; intro a hE
 refine Rv.dq (v := Value.bool true) p23_22_7 ns23_22 hE wn_none ⟨B_g15, trivial⟩ (fun W hS => (st_assign rfl)) ?_; clear hE a; intro a hE
 refine d_end (by kernel_rfl) ?_
 refine x_norm (wp_exit (x_out rfl (x_exit (x_in (x_norm ?_)))))
 refine (Eq.mpr (rounds_succ (n := 1)) ?_)
 refine wp_seq (c_reg R23_8_l ?_)
 refine qn hE (rc (pl P23_8 0) (st_move rfl) (rc (pl P23_8 1) (st_len Tryd.underlying45 rfl) (rc (pl P23_8 2) (st_move rfl) (rc (pl P23_8 3) (st_lss (b := true) rfl rfl (by decide)) rn)))) ?_; clear hE a; intro a hE
 refine p_nil (x_norm ?_)
 refine c_cond (t := true) hE rfl ?_
 refine wp_skip (x_norm (wp_block (c_reg R23_9_l ?_)))
 refine qn hE (rc (pl P23_9 0) (st_move rfl) (rc (pl P23_9 1) (st_move rfl) (rg (v := Value.tuple #[Value.agg #[Value.int .i64 1, Value.int .i64 0, Value.bool false, Value.pointer (some ⟨h1, 0, none⟩)], Value.bool true]) (pl P23_9 2) wn_none (Mi.st_look2 Tryd.underlying46 Tryd.underlying3 tZ27 rfl rfl hFV B_gV (by rfl) (by rfl)) (rc (pl P23_9 3) (st_move rfl) (rc (pl P23_9 4) (st_extract rfl rfl) (rc (pl P23_9 5) (st_extract rfl rfl) rn)))))) ?_; clear hE a; intro a hE
 refine p_cons (s_alloc (pl P23_9 6) hE wn_none rfl tZ27 ?_)
 clear hE a; intro g26 w27 z28 B_g26 hk a hE
 replace B_g26 : w27.heap[g26]? = some (.cells #[Value.int .i64 0, Value.int .i64 0, Value.bool false, Value.pointer none] 27 (0, 0)) := B_g26
 have n_h0_g26 : h0 ≠ g26 := ne_new B_h0 z28
 have n_m0_g26 : m0 ≠ g26 := ne_new B_m0 z28
 have n_h1_g26 : h1 ≠ g26 := ne_new B_h1 z28
 have n_m1_g26 : m1 ≠ g26 := ne_new B_m1 z28
 have n_h2_g26 : h2 ≠ g26 := ne_new B_h2 z28
 have n_m2_g26 : m2 ≠ g26 := ne_new B_m2 z28
 have n_gV_g26 : gV ≠ g26 := ne_new B_gV z28
 have n_g1_g26 : g1 ≠ g26 := ne_new B_g1 z28
 have n_g5_g26 : g5 ≠ g26 := ne_new B_g5 z28
 have n_g9_g26 : g9 ≠ g26 := ne_new B_g9 z28
 have n_g15_g26 : g15 ≠ g26 := ne_new B_g15 z28
 have n_g19_g26 : g19 ≠ g26 := ne_new B_g19 z28
 have z_0_g26 := Nat.le_trans K_0.kept.1 z28
 have Nb_l_g26 : ¬ OB Al22 g26 := fun h => by have := (own_ob O_l h).2; omega
 replace B_h0 := kp_blk B_h0 hk (fun h => h)
 replace B_m0 := kp_blk B_m0 hk (fun h => h)
 replace B_h1 := kp_blk B_h1 hk (fun h => h)
 replace B_m1 := kp_blk B_m1 hk (fun h => h)
 replace B_h2 := kp_blk B_h2 hk (fun h => h)
 replace B_m2 := kp_blk B_m2 hk (fun h => h)
 replace B_gV := kp_blk B_gV hk (fun h => h)
 replace B_g1 := kp_blk B_g1 hk (fun h => h)
 replace B_g5 := kp_blk B_g5 hk (fun h => h)
 replace B_g9 := kp_blk B_g9 hk (fun h => h)
 replace B_g15 := kp_blk B_g15 hk (fun h => h)
 replace B_g19 := kp_blk B_g19 hk (fun h => h)
 replace O_l := own_keep O_l hk (fun _ _ h => h)
 replace K_0 := K_0.then_ hk (fun _ h => h.elim)
 clear hk
 refine p_cons (s_store (off := 0) (k := 4) (cs' := #[Value.int .i64 1, Value.int .i64 0, Value.bool false, Value.pointer (some ⟨h1, 0, none⟩)]) (pl P23_9 7) hE wn_none tS27 rfl rfl rfl rfl B_g26 (Nat.le_of_ble_eq_true rfl) rfl ?_)
 intro w29 B_g26' hk
 replace B_h0 := kp_blk B_h0 hk n_h0_g26
 replace B_m0 := kp_blk B_m0 hk n_m0_g26
 replace B_h1 := kp_blk B_h1 hk n_h1_g26
 replace B_m1 := kp_blk B_m1 hk n_m1_g26
 replace B_h2 := kp_blk B_h2 hk n_h2_g26
 replace B_m2 := kp_blk B_m2 hk n_m2_g26
 replace B_gV := kp_blk B_gV hk n_gV_g26
 replace B_g1 := kp_blk B_g1 hk n_g1_g26
 replace B_g5 := kp_blk B_g5 hk n_g5_g26
 replace B_g9 := kp_blk B_g9 hk n_g9_g26
 replace B_g15 := kp_blk B_g15 hk n_g15_g26
 replace B_g19 := kp_blk B_g19 hk n_g19_g26
 replace O_l := own_keep O_l hk (fun k hk2 h2 => Nb_l_g26 (by rw [show k = g26 from h2] at hk2; exact hk2))
 replace K_0 := K_0.then_ hk (fun k h => by rw [show k = g26 from h]; exact Or.inr z_0_g26)
 replace B_g26 := B_g26'
 clear hk
 refine q0 (pl P23_9 8) hE (st_assign rfl) ?_; clear hE a; intro a hE
 refine p_nil (x_norm (wp_seq (c_reg R23_10_l ?_)))
 refine qn hE (rc (pl P23_10 0) (st_move rfl) (rc (pl P23_10 1) (st_not rfl rfl) rn)) ?_; clear hE a; intro a hE
 refine p_nil (x_norm ?_)
 refine c_cond (t := false) hE rfl ?_
 refine wp_skip (x_norm (c_reg R23_12_l ?_))
 refine qn hE (rc (pl P23_12 0) (st_move rfl) (rc (pl P23_12 1) (st_fieldAddr Tryd.underlying27 rfl tS3 rfl rfl) rn)) ?_; clear hE a; intro a hE
 refine p_cons (s_store (off := 0) (k := 1) (cs' := #[Value.int .i64 1, Value.int .i64 0, Value.bool false, Value.pointer (some ⟨h1, 0, none⟩)]) (pl P23_12 2) hE wn_none tS3 rfl rfl rfl rfl B_g26 (Nat.le_of_ble_eq_true rfl) rfl ?_)
 intro w30 B_g26' hk
 replace B_h0 := kp_blk B_h0 hk n_h0_g26
 replace B_m0 := kp_blk B_m0 hk n_m0_g26
 replace B_h1 := kp_blk B_h1 hk n_h1_g26
 replace B_m1 := kp_blk B_m1 hk n_m1_g26
 replace B_h2 := kp_blk B_h2 hk n_h2_g26
 replace B_m2 := kp_blk B_m2 hk n_m2_g26
 replace B_gV := kp_blk B_gV hk n_gV_g26
 replace B_g1 := kp_blk B_g1 hk n_g1_g26
 replace B_g5 := kp_blk B_g5 hk n_g5_g26
 replace B_g9 := kp_blk B_g9 hk n_g9_g26
 replace B_g15 := kp_blk B_g15 hk n_g15_g26
 replace B_g19 := kp_blk B_g19 hk n_g19_g26
 replace O_l := own_keep O_l hk (fun k hk2 h2 => Nb_l_g26 (by rw [show k = g26 from h2] at hk2; exact hk2))
 replace K_0 := K_0.then_ hk (fun k h => by rw [show k = g26 from h]; exact Or.inr z_0_g26)
 replace B_g26 := B_g26'
 clear hk
 refine p_nil (x_norm (c_reg R23_13_l ?_))
 refine qn hE (rc (pl P23_13 0) (st_loadN (off := 0) (k := 4) (vs := [Value.int .i64 1, Value.int .i64 0, Value.bool false, Value.pointer (some ⟨h1, 0, none⟩)]) tA27 tS27 rfl B_g26 rfl rfl) (rc (pl P23_13 1) (st_move rfl) (rc (pl P23_13 2) (st_move rfl) (rc (pl P23_13 3) (st_move rfl) rn)))) ?_; clear hE a; intro a hE
 have hct := next_any h1 m1 ck1 es1 (allL [(2, 2, 0, 0)]) 1 0 false 2 0 true w30 ok_all B_h1 B_m1 hF1
 rw [nx1] at hct
 refine p_cons (s_call (xs := [Operand.tmp 52, Operand.tmp 53, Operand.tmp 54, Operand.tmp 55]) (args := [Value.agg #[Value.int .i64 1, Value.int .i64 0, Value.bool false, Value.pointer (some ⟨h1, 0, none⟩)], Value.int .i64 2, Value.int .i64 0, Value.bool true]) (pl P23_13 4) hE wn_none rfl rfl Tryd.func6 cl6 (hct) ?_)
 rintro e w31 ⟨rfl, hk⟩
 replace B_h0 := kp_blk B_h0 hk (fun h => h)
 replace B_m0 := kp_blk B_m0 hk (fun h => h)
 replace B_h1 := kp_blk B_h1 hk (fun h => h)
 replace B_m1 := kp_blk B_m1 hk (fun h => h)
 replace B_h2 := kp_blk B_h2 hk (fun h => h)
 replace B_m2 := kp_blk B_m2 hk (fun h => h)
 replace B_gV := kp_blk B_gV hk (fun h => h)
 replace B_g1 := kp_blk B_g1 hk (fun h => h)
 replace B_g5 := kp_blk B_g5 hk (fun h => h)
 replace B_g9 := kp_blk B_g9 hk (fun h => h)
 replace B_g15 := kp_blk B_g15 hk (fun h => h)
 replace B_g19 := kp_blk B_g19 hk (fun h => h)
 replace B_g26 := kp_blk B_g26 hk (fun h => h)
 replace O_l := own_keep O_l hk (fun _ _ h => h)
 replace K_0 := K_0.then_ hk (fun _ h => h.elim)
 refine ⟨_, rfl, ?_⟩; clear hE a; intro a hE
 refine qn hE (rc (pl P23_13 5) (st_move rfl) (rc (pl P23_13 6) (st_extract rfl rfl) (rc (pl P23_13 7) (st_extract rfl rfl) rn))) ?_; clear hE a; intro a hE
 refine p_cons (s_alloc (pl P23_13 8) hE wn_none rfl tZ31 ?_)
 clear hE a; intro g32 w33 z34 B_g32 hk a hE
 replace B_g32 : w33.heap[g32]? = some (.cells #[Value.int .i64 0, Value.int .i64 0, Value.bool false] 31 (0, 0)) := B_g32
 have n_h0_g32 : h0 ≠ g32 := ne_new B_h0 z34
 have n_m0_g32 : m0 ≠ g32 := ne_new B_m0 z34
 have n_h1_g32 : h1 ≠ g32 := ne_new B_h1 z34
 have n_m1_g32 : m1 ≠ g32 := ne_new B_m1 z34
 have n_h2_g32 : h2 ≠ g32 := ne_new B_h2 z34
 have n_m2_g32 : m2 ≠ g32 := ne_new B_m2 z34
 have n_gV_g32 : gV ≠ g32 := ne_new B_gV z34
 have n_g1_g32 : g1 ≠ g32 := ne_new B_g1 z34
 have n_g5_g32 : g5 ≠ g32 := ne_new B_g5 z34
 have n_g9_g32 : g9 ≠ g32 := ne_new B_g9 z34
 have n_g15_g32 : g15 ≠ g32 := ne_new B_g15 z34
 have n_g19_g32 : g19 ≠ g32 := ne_new B_g19 z34
 have n_g26_g32 : g26 ≠ g32 := ne_new B_g26 z34
 have z_0_g32 := Nat.le_trans K_0.kept.1 z34
 have Nb_l_g32 : ¬ OB Al22 g32 := fun h => by have := (own_ob O_l h).2; omega
 replace B_h0 := kp_blk B_h0 hk (fun h => h)
 replace B_m0 := kp_blk B_m0 hk (fun h => h)
 replace B_h1 := kp_blk B_h1 hk (fun h => h)
 replace B_m1 := kp_blk B_m1 hk (fun h => h)
 replace B_h2 := kp_blk B_h2 hk (fun h => h)
 replace B_m2 := kp_blk B_m2 hk (fun h => h)
 replace B_gV := kp_blk B_gV hk (fun h => h)
 replace B_g1 := kp_blk B_g1 hk (fun h => h)
 replace B_g5 := kp_blk B_g5 hk (fun h => h)
 replace B_g9 := kp_blk B_g9 hk (fun h => h)
 replace B_g15 := kp_blk B_g15 hk (fun h => h)
 replace B_g19 := kp_blk B_g19 hk (fun h => h)
 replace B_g26 := kp_blk B_g26 hk (fun h => h)
 replace O_l := own_keep O_l hk (fun _ _ h => h)
 replace K_0 := K_0.then_ hk (fun _ h => h.elim)
 clear hk
 refine p_cons (s_store (off := 0) (k := 3) (cs' := #[Value.int .i64 1, Value.int .i64 2, Value.bool true]) (pl P23_13 9) hE wn_none tS31 rfl rfl rfl rfl B_g32 (Nat.le_of_ble_eq_true rfl) rfl ?_)
 intro w35 B_g32' hk
 replace B_h0 := kp_blk B_h0 hk n_h0_g32
 replace B_m0 := kp_blk B_m0 hk n_m0_g32
 replace B_h1 := kp_blk B_h1 hk n_h1_g32
 replace B_m1 := kp_blk B_m1 hk n_m1_g32
 replace B_h2 := kp_blk B_h2 hk n_h2_g32
 replace B_m2 := kp_blk B_m2 hk n_m2_g32
 replace B_gV := kp_blk B_gV hk n_gV_g32
 replace B_g1 := kp_blk B_g1 hk n_g1_g32
 replace B_g5 := kp_blk B_g5 hk n_g5_g32
 replace B_g9 := kp_blk B_g9 hk n_g9_g32
 replace B_g15 := kp_blk B_g15 hk n_g15_g32
 replace B_g19 := kp_blk B_g19 hk n_g19_g32
 replace B_g26 := kp_blk B_g26 hk n_g26_g32
 replace O_l := own_keep O_l hk (fun k hk2 h2 => Nb_l_g32 (by rw [show k = g32 from h2] at hk2; exact hk2))
 replace K_0 := K_0.then_ hk (fun k h => by rw [show k = g32 from h]; exact Or.inr z_0_g32)
 replace B_g32 := B_g32'
 clear hk
 refine q0 (pl P23_13 10) hE (st_assign rfl) ?_; clear hE a; intro a hE
 refine p_nil (x_norm (wp_seq (c_reg R23_14_l ?_)))
 refine qn hE (rc (pl P23_14 0) (st_move rfl) (rc (pl P23_14 1) (st_neq (b := false) rfl rfl (by decide)) rn)) ?_; clear hE a; intro a hE
 refine p_nil (x_norm ?_)
 refine c_cond (t := false) hE rfl ?_
 refine wp_skip (x_norm (c_reg R23_16_l ?_))
 refine qn hE (rc (pl P23_16 0) (st_move rfl) (rc (pl P23_16 1) (st_move rfl) rn)) ?_; clear hE a; intro a hE
 refine p_cons (s_row (xs := [(0, Operand.tmp 63)]) (vs := [(0, Value.int .i64 1)]) (cs := #[Value.int .i64 1]) (pl P23_16 2) hE wn_none rfl Tryd.underlying45 rfl (by kernel_rfl) ?_)
 clear hE a; intro g36 w37 z38 B_g36 hk a hE
 have n_h0_g36 : h0 ≠ g36 := ne_new B_h0 z38
 have n_m0_g36 : m0 ≠ g36 := ne_new B_m0 z38
 have n_h1_g36 : h1 ≠ g36 := ne_new B_h1 z38
 have n_m1_g36 : m1 ≠ g36 := ne_new B_m1 z38
 have n_h2_g36 : h2 ≠ g36 := ne_new B_h2 z38
 have n_m2_g36 : m2 ≠ g36 := ne_new B_m2 z38
 have n_gV_g36 : gV ≠ g36 := ne_new B_gV z38
 have n_g1_g36 : g1 ≠ g36 := ne_new B_g1 z38
 have n_g5_g36 : g5 ≠ g36 := ne_new B_g5 z38
 have n_g9_g36 : g9 ≠ g36 := ne_new B_g9 z38
 have n_g15_g36 : g15 ≠ g36 := ne_new B_g15 z38
 have n_g19_g36 : g19 ≠ g36 := ne_new B_g19 z38
 have n_g26_g36 : g26 ≠ g36 := ne_new B_g26 z38
 have n_g32_g36 : g32 ≠ g36 := ne_new B_g32 z38
 have z_0_g36 := Nat.le_trans K_0.kept.1 z38
 have Nb_l_g36 : ¬ OB Al22 g36 := fun h => by have := (own_ob O_l h).2; omega
 replace B_h0 := kp_blk B_h0 hk (fun h => h)
 replace B_m0 := kp_blk B_m0 hk (fun h => h)
 replace B_h1 := kp_blk B_h1 hk (fun h => h)
 replace B_m1 := kp_blk B_m1 hk (fun h => h)
 replace B_h2 := kp_blk B_h2 hk (fun h => h)
 replace B_m2 := kp_blk B_m2 hk (fun h => h)
 replace B_gV := kp_blk B_gV hk (fun h => h)
 replace B_g1 := kp_blk B_g1 hk (fun h => h)
 replace B_g5 := kp_blk B_g5 hk (fun h => h)
 replace B_g9 := kp_blk B_g9 hk (fun h => h)
 replace B_g15 := kp_blk B_g15 hk (fun h => h)
 replace B_g19 := kp_blk B_g19 hk (fun h => h)
 replace B_g26 := kp_blk B_g26 hk (fun h => h)
 replace B_g32 := kp_blk B_g32 hk (fun h => h)
 replace O_l := own_keep O_l hk (fun _ _ h => h)
 replace K_0 := K_0.then_ hk (fun _ h => h.elim)
 clear hk
 refine p_cons (s_appendC (xs := [0]) (ys := [1]) (pl P23_16 3) hE wn_none rfl Tryd.underlying45 eD3 rfl O_l rfl (C_blk (k := .i64) (l := [1]) (off := 0) B_g36 ⟨rfl, Nat.le_of_ble_eq_true rfl⟩ rfl) (by omega) (by omega) K_0.kept.1 ?_)
 clear hE a; intro Al39 cl40 w41 O_l' hk hat a hE
 have Nb_l_h0' := grow_n Nb_l_h0 (blk_lt B_h0) hat
 have Nb_l_m0' := grow_n Nb_l_m0 (blk_lt B_m0) hat
 have Nb_l_h1' := grow_n Nb_l_h1 (blk_lt B_h1) hat
 have Nb_l_m1' := grow_n Nb_l_m1 (blk_lt B_m1) hat
 have Nb_l_h2' := grow_n Nb_l_h2 (blk_lt B_h2) hat
 have Nb_l_m2' := grow_n Nb_l_m2 (blk_lt B_m2) hat
 have Nb_l_gV' := grow_n Nb_l_gV (blk_lt B_gV) hat
 have Nb_l_g1' := grow_n Nb_l_g1 (blk_lt B_g1) hat
 have Nb_l_g5' := grow_n Nb_l_g5 (blk_lt B_g5) hat
 have Nb_l_g9' := grow_n Nb_l_g9 (blk_lt B_g9) hat
 have Nb_l_g15' := grow_n Nb_l_g15 (blk_lt B_g15) hat
 have Nb_l_g19' := grow_n Nb_l_g19 (blk_lt B_g19) hat
 have Nb_l_g26' := grow_n Nb_l_g26 (blk_lt B_g26) hat
 have Nb_l_g32' := grow_n Nb_l_g32 (blk_lt B_g32) hat
 have Nb_l_g36' := grow_n Nb_l_g36 (blk_lt B_g36) hat
 have Z_0_l' := grow_z Z_0_l K_0.kept.1 hat
 replace B_h0 := kp_blk B_h0 hk Nb_l_h0
 replace B_m0 := kp_blk B_m0 hk Nb_l_m0
 replace B_h1 := kp_blk B_h1 hk Nb_l_h1
 replace B_m1 := kp_blk B_m1 hk Nb_l_m1
 replace B_h2 := kp_blk B_h2 hk Nb_l_h2
 replace B_m2 := kp_blk B_m2 hk Nb_l_m2
 replace B_gV := kp_blk B_gV hk Nb_l_gV
 replace B_g1 := kp_blk B_g1 hk Nb_l_g1
 replace B_g5 := kp_blk B_g5 hk Nb_l_g5
 replace B_g9 := kp_blk B_g9 hk Nb_l_g9
 replace B_g15 := kp_blk B_g15 hk Nb_l_g15
 replace B_g19 := kp_blk B_g19 hk Nb_l_g19
 replace B_g26 := kp_blk B_g26 hk Nb_l_g26
 replace B_g32 := kp_blk B_g32 hk Nb_l_g32
 replace B_g36 := kp_blk B_g36 hk Nb_l_g36
 replace K_0 := K_0.then_ hk Z_0_l
 replace Nb_l_h0 := Nb_l_h0'
 replace Nb_l_m0 := Nb_l_m0'
 replace Nb_l_h1 := Nb_l_h1'
 replace Nb_l_m1 := Nb_l_m1'
 replace Nb_l_h2 := Nb_l_h2'
 replace Nb_l_m2 := Nb_l_m2'
 replace Nb_l_gV := Nb_l_gV'
 replace Nb_l_g1 := Nb_l_g1'
 replace Nb_l_g5 := Nb_l_g5'
 replace Nb_l_g9 := Nb_l_g9'
 replace Nb_l_g15 := Nb_l_g15'
 replace Nb_l_g19 := Nb_l_g19'
 replace Nb_l_g26 := Nb_l_g26'
 replace Nb_l_g32 := Nb_l_g32'
 replace Nb_l_g36 := Nb_l_g36'
 replace Z_0_l := Z_0_l'
 replace O_l : w41.ownsRow _ 3 1 (.slice Al39 2 cl40) 2 (encs (Value.int .i64) ([0] ++ [1])) := O_l'
 clear O_l' hk hat
 refine q0 (pl P23_16 4) hE (st_assign rfl) ?_; clear hE a; intro a hE
 refine p_nil (x_norm (wp_seq (c_reg R23_17_l ?_)))
 refine qn hE (rc (pl P23_17 0) (st_fieldAddr Tryd.underlying31 rfl tS3 rfl rfl) (rc (pl P23_17 1) (st_load1 tA3 rfl ((blk_cell B_g32 0).trans rfl)) rn)) ?_; clear hE a; intro a hE
 refine p_nil (x_norm (wp_block (c_reg R23_18_l ?_)))
 refine qn hE (rc (pl P23_18 0) (st_eql (b := false) rfl rfl (by decide)) (rc (pl P23_18 1) (st_assign rfl) rn)) ?_; clear hE a; intro a hE
 refine p_nil (x_norm ?_)
 refine c_cond (t := false) hE rfl ?_
 refine wp_seq (c_reg R23_20_l ?_)
 refine qn hE (rc (pl P23_20 0) (st_eql (b := true) rfl rfl (by decide)) (rc (pl P23_20 1) (st_assign rfl) rn)) ?_; clear hE a; intro a hE
 refine p_nil (x_norm ?_)
 refine c_cond (t := true) hE rfl ?_
 refine wp_skip (x_norm ?_)
 refine c_cond (t := true) hE rfl ?_
 refine c_drawS (S := fun W => W.heap[g32]? = some (.cells #[Value.int .i64 1, Value.int .i64 2, Value.bool true] 31 (0, 0)) ∧ True) rfl rfl (listed := #[false, false, false, false, false, false, false, false]) rfl ?_
 intro w42 hh hk
 replace B_h0 := kp_blk B_h0 hk (fun h => h)
 replace B_m0 := kp_blk B_m0 hk (fun h => h)
 replace B_h1 := kp_blk B_h1 hk (fun h => h)
 replace B_m1 := kp_blk B_m1 hk (fun h => h)
 replace B_h2 := kp_blk B_h2 hk (fun h => h)
 replace B_m2 := kp_blk B_m2 hk (fun h => h)
 replace B_gV := kp_blk B_gV hk (fun h => h)
 replace B_g1 := kp_blk B_g1 hk (fun h => h)
 replace B_g5 := kp_blk B_g5 hk (fun h => h)
 replace B_g9 := kp_blk B_g9 hk (fun h => h)
 replace B_g15 := kp_blk B_g15 hk (fun h => h)
 replace B_g19 := kp_blk B_g19 hk (fun h => h)
 replace B_g26 := kp_blk B_g26 hk (fun h => h)
 replace B_g32 := kp_blk B_g32 hk (fun h => h)
 replace B_g36 := kp_blk B_g36 hk (fun h => h)
 replace O_l := own_keep O_l hk (fun _ _ h => h)
 replace K_0 := K_0.then_ hk (fun _ h => h.elim)
 clear hh hk
 refine Rv.dq (v := Value.int .i64 1) p23_22_0 ns23_22 hE wn_none ⟨B_g32, trivial⟩ (fun W hS => (st_move rfl)) ?_; clear hE a; intro a hE
 refine Rv.dq (v := Value.pointer (some ⟨g32, 1, none⟩)) p23_22_1 ns23_22 hE wn_none ⟨B_g32, trivial⟩ (fun W hS => (st_fieldAddr Tryd.underlying31 rfl tS3 rfl rfl)) ?_; clear hE a; intro a hE
 refine Rv.dq (v := Value.int .i64 2) p23_22_2 ns23_22 hE wn_none ⟨B_g32, trivial⟩ (fun W hS => (st_load1 tA3 rfl ((blk_cell hS.1 1).trans rfl))) ?_; clear hE a; intro a hE
 refine Rv.dq (v := Value.pointer (some ⟨g32, 2, none⟩)) p23_22_3 ns23_22 hE wn_none ⟨B_g32, trivial⟩ (fun W hS => (st_fieldAddr Tryd.underlying31 rfl tS4 rfl rfl)) ?_; clear hE a; intro a hE
 refine Rv.dq (v := Value.bool true) p23_22_4 ns23_22 hE wn_none ⟨B_g32, trivial⟩ (fun W hS => (st_load1 tA4 rfl ((blk_cell hS.1 2).trans rfl))) ?_; clear hE a; intro a hE
 refine Rv.dq (v := Value.int .i64 1) p23_22_5 ns23_22 hE wn_none ⟨B_g32, trivial⟩ (fun W hS => (st_assign rfl)) ?_; clear hE a; intro a hE
 refine Rv.dq (v := Value.int .i64 2) p23_22_6 ns23_22 hE wn_none ⟨B_g32, trivial⟩ (fun W hS => (st_assign rfl)) ?_; clear hE a; intro a hE
 refine Rv.dq (v := Value.bool true) p23_22_7 ns23_22 hE wn_none ⟨B_g32, trivial⟩ (fun W hS => (st_assign rfl)) ?_; clear hE a; intro a hE
 refine d_end (by kernel_rfl) ?_
 refine x_norm (wp_exit (x_out rfl (x_exit (x_in (x_norm ?_)))))
 refine (Eq.mpr (rounds_succ (n := 0)) ?_)
 refine wp_seq (c_reg R23_8_l ?_)
 refine qn hE (rc (pl P23_8 0) (st_move rfl) (rc (pl P23_8 1) (st_len Tryd.underlying45 rfl) (rc (pl P23_8 2) (st_move rfl) (rc (pl P23_8 3) (st_lss (b := true) rfl rfl (by decide)) rn)))) ?_; clear hE a; intro a hE
 refine p_nil (x_norm ?_)
 refine c_cond (t := true) hE rfl ?_
 refine wp_skip (x_norm (wp_block (c_reg R23_9_l ?_)))
 refine qn hE (rc (pl P23_9 0) (st_move rfl) (rc (pl P23_9 1) (st_move rfl) (rg (v := Value.tuple #[Value.agg #[Value.int .i64 2, Value.int .i64 1, Value.bool false, Value.pointer (some ⟨h2, 0, none⟩)], Value.bool true]) (pl P23_9 2) wn_none (Mi.st_look2 Tryd.underlying46 Tryd.underlying3 tZ27 rfl rfl hFV B_gV (by rfl) (by rfl)) (rc (pl P23_9 3) (st_move rfl) (rc (pl P23_9 4) (st_extract rfl rfl) (rc (pl P23_9 5) (st_extract rfl rfl) rn)))))) ?_; clear hE a; intro a hE
 refine p_cons (s_alloc (pl P23_9 6) hE wn_none rfl tZ27 ?_)
 clear hE a; intro g43 w44 z45 B_g43 hk a hE
 replace B_g43 : w44.heap[g43]? = some (.cells #[Value.int .i64 0, Value.int .i64 0, Value.bool false, Value.pointer none] 27 (0, 0)) := B_g43
 have n_h0_g43 : h0 ≠ g43 := ne_new B_h0 z45
 have n_m0_g43 : m0 ≠ g43 := ne_new B_m0 z45
 have n_h1_g43 : h1 ≠ g43 := ne_new B_h1 z45
 have n_m1_g43 : m1 ≠ g43 := ne_new B_m1 z45
 have n_h2_g43 : h2 ≠ g43 := ne_new B_h2 z45
 have n_m2_g43 : m2 ≠ g43 := ne_new B_m2 z45
 have n_gV_g43 : gV ≠ g43 := ne_new B_gV z45
 have n_g1_g43 : g1 ≠ g43 := ne_new B_g1 z45
 have n_g5_g43 : g5 ≠ g43 := ne_new B_g5 z45
 have n_g9_g43 : g9 ≠ g43 := ne_new B_g9 z45
 have n_g15_g43 : g15 ≠ g43 := ne_new B_g15 z45
 have n_g19_g43 : g19 ≠ g43 := ne_new B_g19 z45
 have n_g26_g43 : g26 ≠ g43 := ne_new B_g26 z45
 have n_g32_g43 : g32 ≠ g43 := ne_new B_g32 z45
 have n_g36_g43 : g36 ≠ g43 := ne_new B_g36 z45
 have z_0_g43 := Nat.le_trans K_0.kept.1 z45
 have Nb_l_g43 : ¬ OB Al39 g43 := fun h => by have := (own_ob O_l h).2; omega
 replace B_h0 := kp_blk B_h0 hk (fun h => h)
 replace B_m0 := kp_blk B_m0 hk (fun h => h)
 replace B_h1 := kp_blk B_h1 hk (fun h => h)
 replace B_m1 := kp_blk B_m1 hk (fun h => h)
 replace B_h2 := kp_blk B_h2 hk (fun h => h)
 replace B_m2 := kp_blk B_m2 hk (fun h => h)
 replace B_gV := kp_blk B_gV hk (fun h => h)
 replace B_g1 := kp_blk B_g1 hk (fun h => h)
 replace B_g5 := kp_blk B_g5 hk (fun h => h)
 replace B_g9 := kp_blk B_g9 hk (fun h => h)
 replace B_g15 := kp_blk B_g15 hk (fun h => h)
 replace B_g19 := kp_blk B_g19 hk (fun h => h)
 replace B_g26 := kp_blk B_g26 hk (fun h => h)
 replace B_g32 := kp_blk B_g32 hk (fun h => h)
 replace B_g36 := kp_blk B_g36 hk (fun h => h)
 replace O_l := own_keep O_l hk (fun _ _ h => h)
 replace K_0 := K_0.then_ hk (fun _ h => h.elim)
 clear hk
 refine p_cons (s_store (off := 0) (k := 4) (cs' := #[Value.int .i64 2, Value.int .i64 1, Value.bool false, Value.pointer (some ⟨h2, 0, none⟩)]) (pl P23_9 7) hE wn_none tS27 rfl rfl rfl rfl B_g43 (Nat.le_of_ble_eq_true rfl) rfl ?_)
 intro w46 B_g43' hk
 replace B_h0 := kp_blk B_h0 hk n_h0_g43
 replace B_m0 := kp_blk B_m0 hk n_m0_g43
 replace B_h1 := kp_blk B_h1 hk n_h1_g43
 replace B_m1 := kp_blk B_m1 hk n_m1_g43
 replace B_h2 := kp_blk B_h2 hk n_h2_g43
 replace B_m2 := kp_blk B_m2 hk n_m2_g43
 replace B_gV := kp_blk B_gV hk n_gV_g43
 replace B_g1 := kp_blk B_g1 hk n_g1_g43
 replace B_g5 := kp_blk B_g5 hk n_g5_g43
 replace B_g9 := kp_blk B_g9 hk n_g9_g43
 replace B_g15 := kp_blk B_g15 hk n_g15_g43
 replace B_g19 := kp_blk B_g19 hk n_g19_g43
 replace B_g26 := kp_blk B_g26 hk n_g26_g43
 replace B_g32 := kp_blk B_g32 hk n_g32_g43
 replace B_g36 := kp_blk B_g36 hk n_g36_g43
 replace O_l := own_keep O_l hk (fun k hk2 h2 => Nb_l_g43 (by rw [show k = g43 from h2] at hk2; exact hk2))
 replace K_0 := K_0.then_ hk (fun k h => by rw [show k = g43 from h]; exact Or.inr z_0_g43)
 replace B_g43 := B_g43'
 clear hk
 refine q0 (pl P23_9 8) hE (st_assign rfl) ?_; clear hE a; intro a hE
 refine p_nil (x_norm (wp_seq (c_reg R23_10_l ?_)))
 refine qn hE (rc (pl P23_10 0) (st_move rfl) (rc (pl P23_10 1) (st_not rfl rfl) rn)) ?_; clear hE a; intro a hE
 refine p_nil (x_norm ?_)
 refine c_cond (t := false) hE rfl ?_
 refine wp_skip (x_norm (c_reg R23_12_l ?_))
 refine qn hE (rc (pl P23_12 0) (st_move rfl) (rc (pl P23_12 1) (st_fieldAddr Tryd.underlying27 rfl tS3 rfl rfl) rn)) ?_; clear hE a; intro a hE
 refine p_cons (s_store (off := 0) (k := 1) (cs' := #[Value.int .i64 2, Value.int .i64 1, Value.bool false, Value.pointer (some ⟨h2, 0, none⟩)]) (pl P23_12 2) hE wn_none tS3 rfl rfl rfl rfl B_g43 (Nat.le_of_ble_eq_true rfl) rfl ?_)
 intro w47 B_g43' hk
 replace B_h0 := kp_blk B_h0 hk n_h0_g43
 replace B_m0 := kp_blk B_m0 hk n_m0_g43
 replace B_h1 := kp_blk B_h1 hk n_h1_g43
 replace B_m1 := kp_blk B_m1 hk n_m1_g43
 replace B_h2 := kp_blk B_h2 hk n_h2_g43
 replace B_m2 := kp_blk B_m2 hk n_m2_g43
 replace B_gV := kp_blk B_gV hk n_gV_g43
 replace B_g1 := kp_blk B_g1 hk n_g1_g43
 replace B_g5 := kp_blk B_g5 hk n_g5_g43
 replace B_g9 := kp_blk B_g9 hk n_g9_g43
 replace B_g15 := kp_blk B_g15 hk n_g15_g43
 replace B_g19 := kp_blk B_g19 hk n_g19_g43
 replace B_g26 := kp_blk B_g26 hk n_g26_g43
 replace B_g32 := kp_blk B_g32 hk n_g32_g43
 replace B_g36 := kp_blk B_g36 hk n_g36_g43
 replace O_l := own_keep O_l hk (fun k hk2 h2 => Nb_l_g43 (by rw [show k = g43 from h2] at hk2; exact hk2))
 replace K_0 := K_0.then_ hk (fun k h => by rw [show k = g43 from h]; exact Or.inr z_0_g43)
 replace B_g43 := B_g43'
 clear hk
 refine p_nil (x_norm (c_reg R23_13_l ?_))
 refine qn hE (rc (pl P23_13 0) (st_loadN (off := 0) (k := 4) (vs := [Value.int .i64 2, Value.int .i64 1, Value.bool false, Value.pointer (some ⟨h2, 0, none⟩)]) tA27 tS27 rfl B_g43 rfl rfl) (rc (pl P23_13 1) (st_move rfl) (rc (pl P23_13 2) (st_move rfl) (rc (pl P23_13 3) (st_move rfl) rn)))) ?_; clear hE a; intro a hE
 have hct := next_any h2 m2 ck2 es2 (allL []) 2 1 false 2 1 true w47 ok_all B_h2 B_m2 hF2
 rw [nx2 1 true (by decide)] at hct
 refine p_cons (s_call (xs := [Operand.tmp 52, Operand.tmp 53, Operand.tmp 54, Operand.tmp 55]) (args := [Value.agg #[Value.int .i64 2, Value.int .i64 1, Value.bool false, Value.pointer (some ⟨h2, 0, none⟩)], Value.int .i64 2, Value.int .i64 1, Value.bool true]) (pl P23_13 4) hE wn_none rfl rfl Tryd.func6 cl6 (hct) ?_)
 rintro e w48 ⟨rfl, hk⟩
 replace B_h0 := kp_blk B_h0 hk (fun h => h)
 replace B_m0 := kp_blk B_m0 hk (fun h => h)
 replace B_h1 := kp_blk B_h1 hk (fun h => h)
 replace B_m1 := kp_blk B_m1 hk (fun h => h)
 replace B_h2 := kp_blk B_h2 hk (fun h => h)
 replace B_m2 := kp_blk B_m2 hk (fun h => h)
 replace B_gV := kp_blk B_gV hk (fun h => h)
 replace B_g1 := kp_blk B_g1 hk (fun h => h)
 replace B_g5 := kp_blk B_g5 hk (fun h => h)
 replace B_g9 := kp_blk B_g9 hk (fun h => h)
 replace B_g15 := kp_blk B_g15 hk (fun h => h)
 replace B_g19 := kp_blk B_g19 hk (fun h => h)
 replace B_g26 := kp_blk B_g26 hk (fun h => h)
 replace B_g32 := kp_blk B_g32 hk (fun h => h)
 replace B_g36 := kp_blk B_g36 hk (fun h => h)
 replace B_g43 := kp_blk B_g43 hk (fun h => h)
 replace O_l := own_keep O_l hk (fun _ _ h => h)
 replace K_0 := K_0.then_ hk (fun _ h => h.elim)
 refine ⟨_, rfl, ?_⟩; clear hE a; intro a hE
 refine qn hE (rc (pl P23_13 5) (st_move rfl) (rc (pl P23_13 6) (st_extract rfl rfl) (rc (pl P23_13 7) (st_extract rfl rfl) rn))) ?_; clear hE a; intro a hE
 refine p_cons (s_alloc (pl P23_13 8) hE wn_none rfl tZ31 ?_)
 clear hE a; intro g49 w50 z51 B_g49 hk a hE
 replace B_g49 : w50.heap[g49]? = some (.cells #[Value.int .i64 0, Value.int .i64 0, Value.bool false] 31 (0, 0)) := B_g49
 have n_h0_g49 : h0 ≠ g49 := ne_new B_h0 z51
 have n_m0_g49 : m0 ≠ g49 := ne_new B_m0 z51
 have n_h1_g49 : h1 ≠ g49 := ne_new B_h1 z51
 have n_m1_g49 : m1 ≠ g49 := ne_new B_m1 z51
 have n_h2_g49 : h2 ≠ g49 := ne_new B_h2 z51
 have n_m2_g49 : m2 ≠ g49 := ne_new B_m2 z51
 have n_gV_g49 : gV ≠ g49 := ne_new B_gV z51
 have n_g1_g49 : g1 ≠ g49 := ne_new B_g1 z51
 have n_g5_g49 : g5 ≠ g49 := ne_new B_g5 z51
 have n_g9_g49 : g9 ≠ g49 := ne_new B_g9 z51
 have n_g15_g49 : g15 ≠ g49 := ne_new B_g15 z51
 have n_g19_g49 : g19 ≠ g49 := ne_new B_g19 z51
 have n_g26_g49 : g26 ≠ g49 := ne_new B_g26 z51
 have n_g32_g49 : g32 ≠ g49 := ne_new B_g32 z51
 have n_g36_g49 : g36 ≠ g49 := ne_new B_g36 z51
 have n_g43_g49 : g43 ≠ g49 := ne_new B_g43 z51
 have z_0_g49 := Nat.le_trans K_0.kept.1 z51
 have Nb_l_g49 : ¬ OB Al39 g49 := fun h => by have := (own_ob O_l h).2; omega
 replace B_h0 := kp_blk B_h0 hk (fun h => h)
 replace B_m0 := kp_blk B_m0 hk (fun h => h)
 replace B_h1 := kp_blk B_h1 hk (fun h => h)
 replace B_m1 := kp_blk B_m1 hk (fun h => h)
 replace B_h2 := kp_blk B_h2 hk (fun h => h)
 replace B_m2 := kp_blk B_m2 hk (fun h => h)
 replace B_gV := kp_blk B_gV hk (fun h => h)
 replace B_g1 := kp_blk B_g1 hk (fun h => h)
 replace B_g5 := kp_blk B_g5 hk (fun h => h)
 replace B_g9 := kp_blk B_g9 hk (fun h => h)
 replace B_g15 := kp_blk B_g15 hk (fun h => h)
 replace B_g19 := kp_blk B_g19 hk (fun h => h)
 replace B_g26 := kp_blk B_g26 hk (fun h => h)
 replace B_g32 := kp_blk B_g32 hk (fun h => h)
 replace B_g36 := kp_blk B_g36 hk (fun h => h)
 replace B_g43 := kp_blk B_g43 hk (fun h => h)
 replace O_l := own_keep O_l hk (fun _ _ h => h)
 replace K_0 := K_0.then_ hk (fun _ h => h.elim)
 clear hk
 refine p_cons (s_store (off := 0) (k := 3) (cs' := #[Value.int .i64 0, Value.int .i64 (-1), Value.bool false]) (pl P23_13 9) hE wn_none tS31 rfl rfl rfl rfl B_g49 (Nat.le_of_ble_eq_true rfl) rfl ?_)
 intro w52 B_g49' hk
 replace B_h0 := kp_blk B_h0 hk n_h0_g49
 replace B_m0 := kp_blk B_m0 hk n_m0_g49
 replace B_h1 := kp_blk B_h1 hk n_h1_g49
 replace B_m1 := kp_blk B_m1 hk n_m1_g49
 replace B_h2 := kp_blk B_h2 hk n_h2_g49
 replace B_m2 := kp_blk B_m2 hk n_m2_g49
 replace B_gV := kp_blk B_gV hk n_gV_g49
 replace B_g1 := kp_blk B_g1 hk n_g1_g49
 replace B_g5 := kp_blk B_g5 hk n_g5_g49
 replace B_g9 := kp_blk B_g9 hk n_g9_g49
 replace B_g15 := kp_blk B_g15 hk n_g15_g49
 replace B_g19 := kp_blk B_g19 hk n_g19_g49
 replace B_g26 := kp_blk B_g26 hk n_g26_g49
 replace B_g32 := kp_blk B_g32 hk n_g32_g49
 replace B_g36 := kp_blk B_g36 hk n_g36_g49
 replace B_g43 := kp_blk B_g43 hk n_g43_g49
 replace O_l := own_keep O_l hk (fun k hk2 h2 => Nb_l_g49 (by rw [show k = g49 from h2] at hk2; exact hk2))
 replace K_0 := K_0.then_ hk (fun k h => by rw [show k = g49 from h]; exact Or.inr z_0_g49)
 replace B_g49 := B_g49'
 clear hk
 refine q0 (pl P23_13 10) hE (st_assign rfl) ?_; clear hE a; intro a hE
 refine p_nil (x_norm (wp_seq (c_reg R23_14_l ?_)))
 refine qn hE (rc (pl P23_14 0) (st_move rfl) (rc (pl P23_14 1) (st_neq (b := false) rfl rfl (by decide)) rn)) ?_; clear hE a; intro a hE
 refine p_nil (x_norm ?_)
 refine c_cond (t := false) hE rfl ?_
 refine wp_skip (x_norm (c_reg R23_16_l ?_))
 refine qn hE (rc (pl P23_16 0) (st_move rfl) (rc (pl P23_16 1) (st_move rfl) rn)) ?_; clear hE a; intro a hE
 refine p_cons (s_row (xs := [(0, Operand.tmp 63)]) (vs := [(0, Value.int .i64 2)]) (cs := #[Value.int .i64 2]) (pl P23_16 2) hE wn_none rfl Tryd.underlying45 rfl (by kernel_rfl) ?_)
 clear hE a; intro g53 w54 z55 B_g53 hk a hE
 have n_h0_g53 : h0 ≠ g53 := ne_new B_h0 z55
 have n_m0_g53 : m0 ≠ g53 := ne_new B_m0 z55
 have n_h1_g53 : h1 ≠ g53 := ne_new B_h1 z55
 have n_m1_g53 : m1 ≠ g53 := ne_new B_m1 z55
 have n_h2_g53 : h2 ≠ g53 := ne_new B_h2 z55
 have n_m2_g53 : m2 ≠ g53 := ne_new B_m2 z55
 have n_gV_g53 : gV ≠ g53 := ne_new B_gV z55
 have n_g1_g53 : g1 ≠ g53 := ne_new B_g1 z55
 have n_g5_g53 : g5 ≠ g53 := ne_new B_g5 z55
 have n_g9_g53 : g9 ≠ g53 := ne_new B_g9 z55
 have n_g15_g53 : g15 ≠ g53 := ne_new B_g15 z55
 have n_g19_g53 : g19 ≠ g53 := ne_new B_g19 z55
 have n_g26_g53 : g26 ≠ g53 := ne_new B_g26 z55
 have n_g32_g53 : g32 ≠ g53 := ne_new B_g32 z55
 have n_g36_g53 : g36 ≠ g53 := ne_new B_g36 z55
 have n_g43_g53 : g43 ≠ g53 := ne_new B_g43 z55
 have n_g49_g53 : g49 ≠ g53 := ne_new B_g49 z55
 have z_0_g53 := Nat.le_trans K_0.kept.1 z55
 have Nb_l_g53 : ¬ OB Al39 g53 := fun h => by have := (own_ob O_l h).2; omega
 replace B_h0 := kp_blk B_h0 hk (fun h => h)
 replace B_m0 := kp_blk B_m0 hk (fun h => h)
 replace B_h1 := kp_blk B_h1 hk (fun h => h)
 replace B_m1 := kp_blk B_m1 hk (fun h => h)
 replace B_h2 := kp_blk B_h2 hk (fun h => h)
 replace B_m2 := kp_blk B_m2 hk (fun h => h)
 replace B_gV := kp_blk B_gV hk (fun h => h)
 replace B_g1 := kp_blk B_g1 hk (fun h => h)
 replace B_g5 := kp_blk B_g5 hk (fun h => h)
 replace B_g9 := kp_blk B_g9 hk (fun h => h)
 replace B_g15 := kp_blk B_g15 hk (fun h => h)
 replace B_g19 := kp_blk B_g19 hk (fun h => h)
 replace B_g26 := kp_blk B_g26 hk (fun h => h)
 replace B_g32 := kp_blk B_g32 hk (fun h => h)
 replace B_g36 := kp_blk B_g36 hk (fun h => h)
 replace B_g43 := kp_blk B_g43 hk (fun h => h)
 replace B_g49 := kp_blk B_g49 hk (fun h => h)
 replace O_l := own_keep O_l hk (fun _ _ h => h)
 replace K_0 := K_0.then_ hk (fun _ h => h.elim)
 clear hk
 refine p_cons (s_appendC (xs := ([0] ++ [1])) (ys := [2]) (pl P23_16 3) hE wn_none rfl Tryd.underlying45 eD3 rfl O_l rfl (C_blk (k := .i64) (l := [2]) (off := 0) B_g53 ⟨rfl, Nat.le_of_ble_eq_true rfl⟩ rfl) (by omega) (by omega) K_0.kept.1 ?_)
 clear hE a; intro Al56 cl57 w58 O_l' hk hat a hE
 have Nb_l_h0' := grow_n Nb_l_h0 (blk_lt B_h0) hat
 have Nb_l_m0' := grow_n Nb_l_m0 (blk_lt B_m0) hat
 have Nb_l_h1' := grow_n Nb_l_h1 (blk_lt B_h1) hat
 have Nb_l_m1' := grow_n Nb_l_m1 (blk_lt B_m1) hat
 have Nb_l_h2' := grow_n Nb_l_h2 (blk_lt B_h2) hat
 have Nb_l_m2' := grow_n Nb_l_m2 (blk_lt B_m2) hat
 have Nb_l_gV' := grow_n Nb_l_gV (blk_lt B_gV) hat
 have Nb_l_g1' := grow_n Nb_l_g1 (blk_lt B_g1) hat
 have Nb_l_g5' := grow_n Nb_l_g5 (blk_lt B_g5) hat
 have Nb_l_g9' := grow_n Nb_l_g9 (blk_lt B_g9) hat
 have Nb_l_g15' := grow_n Nb_l_g15 (blk_lt B_g15) hat
 have Nb_l_g19' := grow_n Nb_l_g19 (blk_lt B_g19) hat
 have Nb_l_g26' := grow_n Nb_l_g26 (blk_lt B_g26) hat
 have Nb_l_g32' := grow_n Nb_l_g32 (blk_lt B_g32) hat
 have Nb_l_g36' := grow_n Nb_l_g36 (blk_lt B_g36) hat
 have Nb_l_g43' := grow_n Nb_l_g43 (blk_lt B_g43) hat
 have Nb_l_g49' := grow_n Nb_l_g49 (blk_lt B_g49) hat
 have Nb_l_g53' := grow_n Nb_l_g53 (blk_lt B_g53) hat
 have Z_0_l' := grow_z Z_0_l K_0.kept.1 hat
 replace B_h0 := kp_blk B_h0 hk Nb_l_h0
 replace B_m0 := kp_blk B_m0 hk Nb_l_m0
 replace B_h1 := kp_blk B_h1 hk Nb_l_h1
 replace B_m1 := kp_blk B_m1 hk Nb_l_m1
 replace B_h2 := kp_blk B_h2 hk Nb_l_h2
 replace B_m2 := kp_blk B_m2 hk Nb_l_m2
 replace B_gV := kp_blk B_gV hk Nb_l_gV
 replace B_g1 := kp_blk B_g1 hk Nb_l_g1
 replace B_g5 := kp_blk B_g5 hk Nb_l_g5
 replace B_g9 := kp_blk B_g9 hk Nb_l_g9
 replace B_g15 := kp_blk B_g15 hk Nb_l_g15
 replace B_g19 := kp_blk B_g19 hk Nb_l_g19
 replace B_g26 := kp_blk B_g26 hk Nb_l_g26
 replace B_g32 := kp_blk B_g32 hk Nb_l_g32
 replace B_g36 := kp_blk B_g36 hk Nb_l_g36
 replace B_g43 := kp_blk B_g43 hk Nb_l_g43
 replace B_g49 := kp_blk B_g49 hk Nb_l_g49
 replace B_g53 := kp_blk B_g53 hk Nb_l_g53
 replace K_0 := K_0.then_ hk Z_0_l
 replace Nb_l_h0 := Nb_l_h0'
 replace Nb_l_m0 := Nb_l_m0'
 replace Nb_l_h1 := Nb_l_h1'
 replace Nb_l_m1 := Nb_l_m1'
 replace Nb_l_h2 := Nb_l_h2'
 replace Nb_l_m2 := Nb_l_m2'
 replace Nb_l_gV := Nb_l_gV'
 replace Nb_l_g1 := Nb_l_g1'
 replace Nb_l_g5 := Nb_l_g5'
 replace Nb_l_g9 := Nb_l_g9'
 replace Nb_l_g15 := Nb_l_g15'
 replace Nb_l_g19 := Nb_l_g19'
 replace Nb_l_g26 := Nb_l_g26'
 replace Nb_l_g32 := Nb_l_g32'
 replace Nb_l_g36 := Nb_l_g36'
 replace Nb_l_g43 := Nb_l_g43'
 replace Nb_l_g49 := Nb_l_g49'
 replace Nb_l_g53 := Nb_l_g53'
 replace Z_0_l := Z_0_l'
 replace O_l : w58.ownsRow _ 3 1 (.slice Al56 3 cl57) 3 (encs (Value.int .i64) (([0] ++ [1]) ++ [2])) := O_l'
 clear O_l' hk hat
 refine q0 (pl P23_16 4) hE (st_assign rfl) ?_; clear hE a; intro a hE
 refine p_nil (x_norm (wp_seq (c_reg R23_17_l ?_)))
 refine qn hE (rc (pl P23_17 0) (st_fieldAddr Tryd.underlying31 rfl tS3 rfl rfl) (rc (pl P23_17 1) (st_load1 tA3 rfl ((blk_cell B_g49 0).trans rfl)) rn)) ?_; clear hE a; intro a hE
 refine p_nil (x_norm (wp_block (c_reg R23_18_l ?_)))
 refine qn hE (rc (pl P23_18 0) (st_eql (b := true) rfl rfl (by decide)) (rc (pl P23_18 1) (st_assign rfl) rn)) ?_; clear hE a; intro a hE
 refine p_nil (x_norm ?_)
 refine c_cond (t := true) hE rfl ?_
 refine c_reg R23_19_l ?_
 refine qn hE (rc (pl P23_19 0) (st_move rfl) (rc (pl P23_19 1) (st_assign rfl) (rc (pl P23_19 2) (st_assign rfl) rn))) ?_; clear hE a; intro a hE
 refine p_nil (x_norm (wp_ret (x_retB (x_ret (x_retB (x_ret (x_retB (x_ret (x_retS ?_)))))))))
 refine ret_list (rs := [.tmp 8, .tmp 9]) (vs := [Value.slice Al56 3 cl57, Value.int .i64 0]) rfl hE (.tmp rfl (.tmp rfl .nil)) rfl ?_
 exact ⟨_, _, rfl, O_l, K_0⟩
theorem blk_C {α : Type} {d : Kd α} {w : World} {b T n : Nat} {cs : Array Value} {xs : List α} (hb : w.heap[b]? = some (.cells cs T (0, 0))) (hr : Reps (d.K w) d.sz xs cs.toList) (hn : xs.length = n) (hm : n ≤ 9223372036854775807) : d.C w (some ⟨b, 0, none⟩) n xs :=
 ⟨hn, hm, fun _ => ⟨_, rfl, fun j p hp => ⟨(cs.toList.drop (j * d.sz)).take d.sz, by
  have h1 := (List.getElem?_eq_some_iff.1 hp).1
  have h2 := hr.1
  rw [List.length_take, List.length_drop, h2]
  have := Nat.mul_le_mul_right d.sz (show j + 1 ≤ xs.length from h1)
  rw [Nat.add_mul, Nat.one_mul] at this
  omega, hr.2 j p hp, fun i u hu => by
  rw [List.getElem?_take] at hu
  split at hu
  ·
   rw [List.getElem?_drop] at hu
   rw [add_mk, Nat.zero_add, cell_of_row w b _ cs T (0, 0) hb, ← Array.getElem?_toList]
   exact hu
  · cases hu⟩⟩⟩
theorem r_mk (w : World) (o : R4) : Kd.K dR w o [.int .i64 o.1, .int .i64 o.2.1, .int .i64 o.2.2.1, .int .i64 o.2.2.2] := ⟨[_], _, rfl, rfl, [_], _, rfl, rfl, [_], _, rfl, rfl, rfl⟩
theorem v_mk {w : World} (v : V4) {A : Option Addr} {n c : Nat} (hn : v.2.2.2.length = n) (hc : n ≤ c) (h : Kd.C dR w A n v.2.2.2) : Kd.K dV w v [.int .i64 v.1, .int .i64 v.2.1, .bool v.2.2.1, .slice A n c] := by
 subst hn
 exact ⟨[_], _, rfl, rfl, [_], _, rfl, rfl, [_], _, rfl, rfl, A, c, rfl, hc, h⟩
def exV : List V4 := [(0, -1, true, [(2, 1, 0, 0)]), (1, 0, false, [(2, 2, 0, 0)]), (2, 1, false, [])]
theorem ex_keep : keepL exV = exV := by kernel_rfl
theorem ex_C {w : World} {b0 b1 bV T0 T1 TV : Nat} (h0 : w.heap[b0]? = some (.cells #[.int .i64 2, .int .i64 1, .int .i64 0, .int .i64 0] T0 (0, 0))) (h1 : w.heap[b1]? = some (.cells #[.int .i64 2, .int .i64 2, .int .i64 0, .int .i64 0] T1 (0, 0))) (hV : w.heap[bV]? = some (.cells #[.int .i64 0, .int .i64 (-1), .bool true, .slice (some ⟨b0, 0, none⟩) 1 1, .int .i64 1, .int .i64 0, .bool false, .slice (some ⟨b1, 0, none⟩) 1 1, .int .i64 2, .int .i64 1, .bool false, .slice none 0 0] TV (0, 0))) : Kd.C dV w (some ⟨bV, 0, none⟩) 3 exV := by
 refine blk_C hV ?_ rfl (by decide)
 exact (((Reps.none _ _).snoc (v_mk (0, -1, true, [(2, 1, 0, 0)]) rfl (Nat.le_refl _) (blk_C h0 ((Reps.none _ _).snoc (r_mk w (2, 1, 0, 0)) rfl) rfl (by decide))) rfl).snoc (v_mk (1, 0, false, [(2, 2, 0, 0)]) rfl (Nat.le_refl _) (blk_C h1 ((Reps.none _ _).snoc (r_mk w (2, 2, 0, 0)) rfl) rfl (by decide))) rfl).snoc (v_mk (2, 1, false, []) rfl (Nat.le_refl _) (Kd.C_nil _ _)) rfl
theorem ex_wf : ∀ v ∈ exV, (Lit.int .i64 v.1).wf = true ∧ v.2.2.2.length ≤ 9223372036854775807 := by decide +kernel
theorem vs3 {W : World} {l : List (Int × V5)} (h : Vs W l exV) : ∃ h0 h1 h2, l = [(0, (0, -1, true, h0)), (1, (1, 0, false, h1)), (2, (2, 1, false, h2))] ∧ Tab W h0 (allL [(2, 1, 0, 0)]) ∧ Tab W h1 (allL [(2, 2, 0, 0)]) ∧ Tab W h2 (allL []) := by
 match l, h with
 | [p0, p1, p2], h =>
  obtain ⟨⟨e0, t0⟩, ⟨e1, t1⟩, ⟨e2, t2⟩, _⟩ := h
  exact ⟨_, _, _, by rw [e0, e1, e2], t0, t1, t2⟩
 | [], h => exact h.elim
 | [_], h => exact h.2.elim
 | [_, _], h => exact h.2.2.elim
 | _ :: _ :: _ :: _ :: _, h => exact h.2.2.2.elim
theorem R9_0_l : List.range (regOf Tryd.f9 0).size = [0] := by kernel_rfl
theorem R9_1_l : List.range (regOf Tryd.f9 1).size = [0, 1, 2, 3, 4, 5, 6, 7, 8, 9, 10, 11, 12, 13] := by kernel_rfl
theorem R9_2_l : List.range (regOf Tryd.f9 2).size = [0, 1, 2, 3, 4, 5, 6] := by kernel_rfl
theorem R9_3_l : List.range (regOf Tryd.f9 3).size = [0, 1, 2, 3, 4, 5, 6] := by kernel_rfl
theorem R9_4_l : List.range (regOf Tryd.f9 4).size = [0, 1, 2, 3, 4, 5, 6, 7, 8, 9, 10, 11, 12, 13, 14, 15, 16, 17, 18, 19, 20] := by kernel_rfl
theorem body9 : Tryd.f9.body = some (.seq (.region 0 (regOf Tryd.f9 0) false) (.seq (.region 1 (regOf Tryd.f9 1) false) (.seq (.region 2 (regOf Tryd.f9 2) false) (.seq (.region 3 (regOf Tryd.f9 3) false) (.seq (.region 4 (regOf Tryd.f9 4) false) (.ret)))))) := by kernel_rfl
theorem p9_0_0 : pj (regOf Tryd.f9 0) 0 = some (some 0, .assign (.const (.bool false)), 4, none) := by kernel_rfl
theorem P9_1 : (List.range (regOf Tryd.f9 1).size).map (pj (regOf Tryd.f9 1)) = [some (some 8, .build 61 #[(0, .const (.int .i64 2)), (1, .const (.int .i64 1))], 61, none), some (some 9, .buildSlice 22 1 #[(0, .tmp 8)], 22, none), some (some 10, .build 24 #[(0, .const (.int .i64 0)), (1, .const (.int .i64 (-1))), (2, .const (.bool true)), (3, .tmp 9)], 24, none), some (some 11, .build 61 #[(0, .const (.int .i64 2)), (1, .const (.int .i64 2))], 61, none), some (some 12, .buildSlice 22 1 #[(0, .tmp 11)], 22, none), some (some 13, .build 24 #[(0, .const (.int .i64 1)), (1, .const (.int .i64 0)), (3, .tmp 12)], 24, none), some (some 14, .build 24 #[(0, .const (.int .i64 2)), (1, .const (.int .i64 1))], 24, none), some (some 15, .buildSlice 44 3 #[(0, .tmp 10), (1, .tmp 13), (2, .tmp 14)], 44, none), some (some 16, .call { callee := .value (.func 12), args := #[.tmp 15], argTypes := #[44] }, 47, none), some (some 7, .move (.tmp 16), 47, none), some (some 17, .extract (.tmp 7) 0, 46, none), some (some 18, .extract (.tmp 7) 1, 44, none), some (some 1, .assign (.tmp 17), 46, none), some (some 2, .assign (.tmp 18), 44, none)] := by kernel_rfl
theorem cl12 : callable Tryd.f12 = true := by kernel_rfl
theorem P9_2 : (List.range (regOf Tryd.f9 2).size).map (pj (regOf Tryd.f9 2)) = [some (some 20, .move (.tmp 1), 46, none), some (some 21, .call { callee := .value (.func 23), args := #[.tmp 20, .const (.int .i64 2), .const (.int .i64 2), .const (.int .i64 9)], argTypes := #[46, 3, 3, 3] }, 66, none), some (some 19, .move (.tmp 21), 66, none), some (some 22, .extract (.tmp 19) 0, 45, none), some (some 23, .extract (.tmp 19) 1, 32, none), some (some 3, .assign (.tmp 22), 45, none), some (some 4, .assign (.tmp 23), 32, none)] := by kernel_rfl
theorem cl23 : callable Tryd.f23 = true := by kernel_rfl
theorem P9_3 : (List.range (regOf Tryd.f9 3).size).map (pj (regOf Tryd.f9 3)) = [some (some 25, .move (.tmp 1), 46, none), some (some 26, .call { callee := .value (.func 23), args := #[.tmp 25, .const (.int .i64 0), .const (.int .i64 2), .const (.int .i64 9)], argTypes := #[46, 3, 3, 3] }, 66, none), some (some 24, .move (.tmp 26), 66, none), some (some 27, .extract (.tmp 24) 0, 45, none), some (some 28, .extract (.tmp 24) 1, 32, none), some (some 5, .assign (.tmp 27), 45, none), some (some 6, .assign (.tmp 28), 32, none)] := by kernel_rfl
theorem P9_4 : (List.range (regOf Tryd.f9 4).size).map (pj (regOf Tryd.f9 4)) = [some (some 29, .move (.tmp 4), 32, none), some (some 30, .binOp .eql 32 (.tmp 29) (.const (.int .i64 0)) 32, 4, none), some (some 31, .move (.tmp 30), 4, none), some (some 32, .move (.tmp 6), 32, some (2, true)), some (some 33, .binOp .eql 32 (.tmp 32) (.const (.int .i64 0)) 32, 4, some (2, true)), some (some 34, .pick (.tmp 31) (.tmp 33) (.const (.bool false)), 4, none), some (some 35, .move (.tmp 34), 4, none), some (some 36, .move (.tmp 3), 45, some (6, true)), some (some 37, .buildSlice 45 1 #[(0, .const (.int .i64 2))], 45, some (6, true)), some (some 38, .call { callee := .value (.func 24), args := #[.tmp 36, .tmp 37], argTypes := #[45, 45] }, 4, some (6, true)), some (some 39, .pick (.tmp 35) (.tmp 38) (.const (.bool false)), 4, none), some (some 40, .move (.tmp 39), 4, none), some (some 41, .move (.tmp 5), 45, some (11, true)), some (some 42, .buildSlice 45 3 #[(0, .const (.int .i64 0)), (1, .const (.int .i64 1)), (2, .const (.int .i64 2))], 45, some (11, true)), some (some 43, .call { callee := .value (.func 24), args := #[.tmp 41, .tmp 42], argTypes := #[45, 45] }, 4, some (11, true)), some (some 44, .pick (.tmp 40) (.tmp 43) (.const (.bool false)), 4, none), some (some 45, .move (.tmp 44), 4, none), some (some 46, .call { callee := .value (.func 10), args := #[.const (.int .i64 3)], argTypes := #[3] }, 9, some (16, true)), some (some 47, .binOp .eql 9 (.tmp 46) (.const (.string { data := #[98, 97, 99, 107] })) 9, 4, some (16, true)), some (some 48, .pick (.tmp 45) (.tmp 47) (.const (.bool false)), 4, none), some (some 0, .assign (.tmp 48), 4, none)] := by kernel_rfl
theorem g9_4_2 : dstOf (regOf Tryd.f9 4) 2 = some 31 := by kernel_rfl
theorem g9_4_6 : dstOf (regOf Tryd.f9 4) 6 = some 35 := by kernel_rfl
theorem cl24 : callable Tryd.f24 = true := by kernel_rfl
theorem g9_4_11 : dstOf (regOf Tryd.f9 4) 11 = some 40 := by kernel_rfl
theorem g9_4_16 : dstOf (regOf Tryd.f9 4) 16 = some 45 := by kernel_rfl
theorem cl10 : callable Tryd.f10 = true := by kernel_rfl
set_option maxHeartbeats 4000000 in
theorem kn21 (w : World) (hT : Tx w) : Calls Tryd.prog 9 #[] w fun e w' => e = .returned (.bool true) ∧ Kp w w' (fun _ => False) := by
 have K_0 := Kp.refl w (fun _ => False)
 refine enter (args := []) (n := 49) Tryd.func9 body9 rfl rfl rfl ?_
 intro a hE
 refine c_reg R9_0_l ?_
 refine q0 p9_0_0 hE (st_assign rfl) ?_; clear hE a; intro a hE
 refine p_nil (x_norm (c_reg R9_1_l ?_))
 refine q0 (pl P9_1 0) hE (st_build (xs := [(0, Operand.const (Value.int IntKind.i64 2)), (1, Operand.const (Value.int IntKind.i64 1))]) (vs := [(0, Value.int .i64 2), (1, Value.int .i64 1)]) (cs := #[Value.int .i64 2, Value.int .i64 1, Value.int .i64 0, Value.int .i64 0]) rfl (by kernel_rfl)) ?_; clear hE a; intro a hE
 refine p_cons (s_row (xs := [(0, Operand.tmp 8)]) (vs := [(0, Value.agg #[Value.int .i64 2, Value.int .i64 1, Value.int .i64 0, Value.int .i64 0])]) (cs := #[Value.int .i64 2, Value.int .i64 1, Value.int .i64 0, Value.int .i64 0]) (pl P9_1 1) hE wn_none rfl Tryd.underlying22 rfl (by kernel_rfl) ?_)
 clear hE a; intro g1 w2 z3 B_g1 hk a hE
 have z_0_g1 := Nat.le_trans K_0.kept.1 z3
 replace K_0 := K_0.then_ hk (fun _ h => h.elim)
 clear hk
 refine qn hE (rc (pl P9_1 2) (st_build (xs := [(0, Operand.const (Value.int IntKind.i64 0)), (1, Operand.const (Value.int IntKind.i64 (-1))), (2, Operand.const (Value.bool true)), (3, Operand.tmp 9)]) (vs := [(0, Value.int .i64 0), (1, Value.int .i64 (-1)), (2, Value.bool true), (3, Value.slice (some ⟨g1, 0, none⟩) 1 1)]) (cs := #[Value.int .i64 0, Value.int .i64 (-1), Value.bool true, Value.slice (some ⟨g1, 0, none⟩) 1 1]) rfl (by kernel_rfl)) (rc (pl P9_1 3) (st_build (xs := [(0, Operand.const (Value.int IntKind.i64 2)), (1, Operand.const (Value.int IntKind.i64 2))]) (vs := [(0, Value.int .i64 2), (1, Value.int .i64 2)]) (cs := #[Value.int .i64 2, Value.int .i64 2, Value.int .i64 0, Value.int .i64 0]) rfl (by kernel_rfl)) rn)) ?_; clear hE a; intro a hE
 refine p_cons (s_row (xs := [(0, Operand.tmp 11)]) (vs := [(0, Value.agg #[Value.int .i64 2, Value.int .i64 2, Value.int .i64 0, Value.int .i64 0])]) (cs := #[Value.int .i64 2, Value.int .i64 2, Value.int .i64 0, Value.int .i64 0]) (pl P9_1 4) hE wn_none rfl Tryd.underlying22 rfl (by kernel_rfl) ?_)
 clear hE a; intro g4 w5 z6 B_g4 hk a hE
 have n_g1_g4 : g1 ≠ g4 := ne_new B_g1 z6
 have z_0_g4 := Nat.le_trans K_0.kept.1 z6
 replace B_g1 := kp_blk B_g1 hk (fun h => h)
 replace K_0 := K_0.then_ hk (fun _ h => h.elim)
 clear hk
 refine qn hE (rc (pl P9_1 5) (st_build (xs := [(0, Operand.const (Value.int IntKind.i64 1)), (1, Operand.const (Value.int IntKind.i64 0)), (3, Operand.tmp 12)]) (vs := [(0, Value.int .i64 1), (1, Value.int .i64 0), (3, Value.slice (some ⟨g4, 0, none⟩) 1 1)]) (cs := #[Value.int .i64 1, Value.int .i64 0, Value.bool false, Value.slice (some ⟨g4, 0, none⟩) 1 1]) rfl (by kernel_rfl)) (rc (pl P9_1 6) (st_build (xs := [(0, Operand.const (Value.int IntKind.i64 2)), (1, Operand.const (Value.int IntKind.i64 1))]) (vs := [(0, Value.int .i64 2), (1, Value.int .i64 1)]) (cs := #[Value.int .i64 2, Value.int .i64 1, Value.bool false, Value.slice none 0 0]) rfl (by kernel_rfl)) rn)) ?_; clear hE a; intro a hE
 refine p_cons (s_row (xs := [(0, Operand.tmp 10), (1, Operand.tmp 13), (2, Operand.tmp 14)]) (vs := [(0, Value.agg #[Value.int .i64 0, Value.int .i64 (-1), Value.bool true, Value.slice (some ⟨g1, 0, none⟩) 1 1]), (1, Value.agg #[Value.int .i64 1, Value.int .i64 0, Value.bool false, Value.slice (some ⟨g4, 0, none⟩) 1 1]), (2, Value.agg #[Value.int .i64 2, Value.int .i64 1, Value.bool false, Value.slice none 0 0])]) (cs := #[Value.int .i64 0, Value.int .i64 (-1), Value.bool true, Value.slice (some ⟨g1, 0, none⟩) 1 1, Value.int .i64 1, Value.int .i64 0, Value.bool false, Value.slice (some ⟨g4, 0, none⟩) 1 1, Value.int .i64 2, Value.int .i64 1, Value.bool false, Value.slice none 0 0]) (pl P9_1 7) hE wn_none rfl Tryd.underlying44 rfl (by kernel_rfl) ?_)
 clear hE a; intro g7 w8 z9 B_g7 hk a hE
 have n_g1_g7 : g1 ≠ g7 := ne_new B_g1 z9
 have n_g4_g7 : g4 ≠ g7 := ne_new B_g4 z9
 have z_0_g7 := Nat.le_trans K_0.kept.1 z9
 replace B_g1 := kp_blk B_g1 hk (fun h => h)
 replace B_g4 := kp_blk B_g4 hk (fun h => h)
 replace K_0 := K_0.then_ hk (fun _ h => h.elim)
 clear hk
 refine p_cons (s_call (xs := [Operand.tmp 15]) (args := [Value.slice (some ⟨g7, 0, none⟩) 3 3]) (pl P9_1 8) hE wn_none rfl rfl Tryd.func12 cl12 (all_any (some ⟨g7, 0, none⟩) 3 exV ex_wf _ (fun W' hk => ex_C (kp_blk B_g1 hk (fun h => h)) (kp_blk B_g4 hk (fun h => h)) (kp_blk B_g7 hk (fun h => h)))) ?_)
 rintro e w10 ⟨gV, ckV, esV, lV, osV, AV, cV, rfl, B_gV, MFV, hVs, hRV, hosV, hoV, hl12, zV9, hk⟩
 replace B_g1 := kp_blk B_g1 hk (fun h => h)
 replace B_g4 := kp_blk B_g4 hk (fun h => h)
 replace B_g7 := kp_blk B_g7 hk (fun h => h)
 replace K_0 := K_0.then_ hk (fun _ h => h.elim)
 have hvx := hVs _ (Kp.refl _ _)
 rw [ex_keep] at hvx
 obtain ⟨h0, h1, h2, rfl, ⟨m0, ck0, es0, B_h0, B_m0, hF0⟩, ⟨m1, ck1, es1, B_h1, B_m1, hF1⟩, ⟨m2, ck2, es2, B_h2, B_m2, hF2⟩⟩ := vs3 hvx
 refine ⟨_, rfl, ?_⟩; clear hE a; intro a hE
 refine qn hE (rc (pl P9_1 9) (st_move rfl) (rc (pl P9_1 10) (st_extract rfl rfl) (rc (pl P9_1 11) (st_extract rfl rfl) (rc (pl P9_1 12) (st_assign rfl) (rc (pl P9_1 13) (st_assign rfl) rn))))) ?_; clear hE a; intro a hE
 refine p_nil (x_norm (c_reg R9_2_l ?_))
 refine q0 (pl P9_2 0) hE (st_move rfl) ?_; clear hE a; intro a hE
 have hnb_g1 := blk_lt B_g1
 have hnb_g4 := blk_lt B_g4
 have hnb_g7 := blk_lt B_g7
 have hnb_h0 := blk_lt B_h0
 have hnb_m0 := blk_lt B_m0
 have hnb_h1 := blk_lt B_h1
 have hnb_m1 := blk_lt B_m1
 have hnb_h2 := blk_lt B_h2
 have hnb_m2 := blk_lt B_m2
 have hnb_gV := blk_lt B_gV
 have hnz_0 := K_0.kept.1
 refine p_cons (s_call (xs := [Operand.tmp 20, Operand.const (Value.int IntKind.i64 2), Operand.const (Value.int IntKind.i64 2), Operand.const (Value.int IntKind.i64 9)]) (args := [Value.map (some gV), Value.int .i64 2, Value.int .i64 2, Value.int .i64 9]) (pl P9_2 1) hE wn_none rfl rfl Tryd.func23 cl23 (trace_a gV ckV h0 h1 h2 esV m2 ck2 es2 _ B_gV MFV B_h2 B_m2 hF2) ?_)
 rintro e w14 ⟨A12, c13, rfl, O_q11, hk⟩
 replace B_g1 := kp_blk B_g1 hk (fun h => h)
 replace B_g4 := kp_blk B_g4 hk (fun h => h)
 replace B_g7 := kp_blk B_g7 hk (fun h => h)
 replace B_h0 := kp_blk B_h0 hk (fun h => h)
 replace B_m0 := kp_blk B_m0 hk (fun h => h)
 replace B_h1 := kp_blk B_h1 hk (fun h => h)
 replace B_m1 := kp_blk B_m1 hk (fun h => h)
 replace B_h2 := kp_blk B_h2 hk (fun h => h)
 replace B_m2 := kp_blk B_m2 hk (fun h => h)
 replace B_gV := kp_blk B_gV hk (fun h => h)
 replace K_0 := K_0.then_ hk (fun _ h => h.elim)
 have Nb_q11_g1 : ¬ OB A12 g1 := fun h => by have := (own_ob O_q11 h).1; have := hnb_g1; omega
 have Nb_q11_g4 : ¬ OB A12 g4 := fun h => by have := (own_ob O_q11 h).1; have := hnb_g4; omega
 have Nb_q11_g7 : ¬ OB A12 g7 := fun h => by have := (own_ob O_q11 h).1; have := hnb_g7; omega
 have Nb_q11_h0 : ¬ OB A12 h0 := fun h => by have := (own_ob O_q11 h).1; have := hnb_h0; omega
 have Nb_q11_m0 : ¬ OB A12 m0 := fun h => by have := (own_ob O_q11 h).1; have := hnb_m0; omega
 have Nb_q11_h1 : ¬ OB A12 h1 := fun h => by have := (own_ob O_q11 h).1; have := hnb_h1; omega
 have Nb_q11_m1 : ¬ OB A12 m1 := fun h => by have := (own_ob O_q11 h).1; have := hnb_m1; omega
 have Nb_q11_h2 : ¬ OB A12 h2 := fun h => by have := (own_ob O_q11 h).1; have := hnb_h2; omega
 have Nb_q11_m2 : ¬ OB A12 m2 := fun h => by have := (own_ob O_q11 h).1; have := hnb_m2; omega
 have Nb_q11_gV : ¬ OB A12 gV := fun h => by have := (own_ob O_q11 h).1; have := hnb_gV; omega
 have Z_0_q11 : ∀ k, OB A12 k → (fun _ => False) k ∨ w.heap.size ≤ k := fun k h => .inr (by have := (own_ob O_q11 h).1; have := hnz_0; omega)
 replace O_q11 := own_lower O_q11 hnz_0
 refine ⟨_, rfl, ?_⟩; clear hE a; intro a hE
 refine qn hE (rc (pl P9_2 2) (st_move rfl) (rc (pl P9_2 3) (st_extract rfl rfl) (rc (pl P9_2 4) (st_extract rfl rfl) (rc (pl P9_2 5) (st_assign rfl) (rc (pl P9_2 6) (st_assign rfl) rn))))) ?_; clear hE a; intro a hE
 refine p_nil (x_norm (c_reg R9_3_l ?_))
 refine q0 (pl P9_3 0) hE (st_move rfl) ?_; clear hE a; intro a hE
 have hnb_g1 := blk_lt B_g1
 have hnb_g4 := blk_lt B_g4
 have hnb_g7 := blk_lt B_g7
 have hnb_h0 := blk_lt B_h0
 have hnb_m0 := blk_lt B_m0
 have hnb_h1 := blk_lt B_h1
 have hnb_m1 := blk_lt B_m1
 have hnb_h2 := blk_lt B_h2
 have hnb_m2 := blk_lt B_m2
 have hnb_gV := blk_lt B_gV
 have hnz_0 := K_0.kept.1
 have hno_q11 := fun k (h : OB A12 k) => (own_ob O_q11 h).2
 refine p_cons (s_call (xs := [Operand.tmp 25, Operand.const (Value.int IntKind.i64 0), Operand.const (Value.int IntKind.i64 2), Operand.const (Value.int IntKind.i64 9)]) (args := [Value.map (some gV), Value.int .i64 0, Value.int .i64 2, Value.int .i64 9]) (pl P9_3 1) hE wn_none rfl rfl Tryd.func23 cl23 (trace_b gV ckV h0 h1 h2 esV m0 ck0 es0 m1 ck1 es1 m2 ck2 es2 _ B_gV MFV B_h0 B_m0 hF0 B_h1 B_m1 hF1 B_h2 B_m2 hF2) ?_)
 rintro e w18 ⟨A16, c17, rfl, O_q15, hk⟩
 replace B_g1 := kp_blk B_g1 hk (fun h => h)
 replace B_g4 := kp_blk B_g4 hk (fun h => h)
 replace B_g7 := kp_blk B_g7 hk (fun h => h)
 replace B_h0 := kp_blk B_h0 hk (fun h => h)
 replace B_m0 := kp_blk B_m0 hk (fun h => h)
 replace B_h1 := kp_blk B_h1 hk (fun h => h)
 replace B_m1 := kp_blk B_m1 hk (fun h => h)
 replace B_h2 := kp_blk B_h2 hk (fun h => h)
 replace B_m2 := kp_blk B_m2 hk (fun h => h)
 replace B_gV := kp_blk B_gV hk (fun h => h)
 replace O_q11 := own_keep O_q11 hk (fun _ _ h => h)
 replace K_0 := K_0.then_ hk (fun _ h => h.elim)
 have Nb_q15_g1 : ¬ OB A16 g1 := fun h => by have := (own_ob O_q15 h).1; have := hnb_g1; omega
 have Nb_q15_g4 : ¬ OB A16 g4 := fun h => by have := (own_ob O_q15 h).1; have := hnb_g4; omega
 have Nb_q15_g7 : ¬ OB A16 g7 := fun h => by have := (own_ob O_q15 h).1; have := hnb_g7; omega
 have Nb_q15_h0 : ¬ OB A16 h0 := fun h => by have := (own_ob O_q15 h).1; have := hnb_h0; omega
 have Nb_q15_m0 : ¬ OB A16 m0 := fun h => by have := (own_ob O_q15 h).1; have := hnb_m0; omega
 have Nb_q15_h1 : ¬ OB A16 h1 := fun h => by have := (own_ob O_q15 h).1; have := hnb_h1; omega
 have Nb_q15_m1 : ¬ OB A16 m1 := fun h => by have := (own_ob O_q15 h).1; have := hnb_m1; omega
 have Nb_q15_h2 : ¬ OB A16 h2 := fun h => by have := (own_ob O_q15 h).1; have := hnb_h2; omega
 have Nb_q15_m2 : ¬ OB A16 m2 := fun h => by have := (own_ob O_q15 h).1; have := hnb_m2; omega
 have Nb_q15_gV : ¬ OB A16 gV := fun h => by have := (own_ob O_q15 h).1; have := hnb_gV; omega
 have Z_0_q15 : ∀ k, OB A16 k → (fun _ => False) k ∨ w.heap.size ≤ k := fun k h => .inr (by have := (own_ob O_q15 h).1; have := hnz_0; omega)
 have NN_q15_q11 : ∀ k, OB A16 k → ¬ OB A12 k := fun k h h2 => by have := (own_ob O_q15 h).1; have := hno_q11 k h2; omega
 have NN_q11_q15 : ∀ k, OB A12 k → ¬ OB A16 k := fun k h h2 => NN_q15_q11 k h2 h
 replace O_q15 := own_lower O_q15 hnz_0
 refine ⟨_, rfl, ?_⟩; clear hE a; intro a hE
 refine qn hE (rc (pl P9_3 2) (st_move rfl) (rc (pl P9_3 3) (st_extract rfl rfl) (rc (pl P9_3 4) (st_extract rfl rfl) (rc (pl P9_3 5) (st_assign rfl) (rc (pl P9_3 6) (st_assign rfl) rn))))) ?_; clear hE a; intro a hE
 refine p_nil (x_norm (c_reg R9_4_l ?_))
 refine qn hE (rc (pl P9_4 0) (st_move rfl) (rc (pl P9_4 1) (st_eql (b := true) rfl rfl (by decide)) (rc (pl P9_4 2) (st_move rfl) (rg (pl P9_4 3) (wn_some g9_4_2 rfl rfl) (st_move rfl) (rg (pl P9_4 4) (wn_some g9_4_2 rfl rfl) (st_eql (b := true) rfl rfl (by decide)) (rc (pl P9_4 5) (st_pick rfl rfl) (rc (pl P9_4 6) (st_move rfl) (rg (pl P9_4 7) (wn_some g9_4_6 rfl rfl) (st_move rfl) rn)))))))) ?_; clear hE a; intro a hE
 refine p_cons (s_row (xs := [(0, Operand.const (Value.int IntKind.i64 2))]) (vs := [(0, Value.int .i64 2)]) (cs := #[Value.int .i64 2]) (pl P9_4 8) hE (wn_some g9_4_6 rfl rfl) rfl Tryd.underlying45 rfl (by kernel_rfl) ?_)
 clear hE a; intro g19 w20 z21 B_g19 hk a hE
 have n_g1_g19 : g1 ≠ g19 := ne_new B_g1 z21
 have n_g4_g19 : g4 ≠ g19 := ne_new B_g4 z21
 have n_g7_g19 : g7 ≠ g19 := ne_new B_g7 z21
 have n_h0_g19 : h0 ≠ g19 := ne_new B_h0 z21
 have n_m0_g19 : m0 ≠ g19 := ne_new B_m0 z21
 have n_h1_g19 : h1 ≠ g19 := ne_new B_h1 z21
 have n_m1_g19 : m1 ≠ g19 := ne_new B_m1 z21
 have n_h2_g19 : h2 ≠ g19 := ne_new B_h2 z21
 have n_m2_g19 : m2 ≠ g19 := ne_new B_m2 z21
 have n_gV_g19 : gV ≠ g19 := ne_new B_gV z21
 have z_0_g19 := Nat.le_trans K_0.kept.1 z21
 have Nb_q11_g19 : ¬ OB A12 g19 := fun h => by have := (own_ob O_q11 h).2; omega
 have Nb_q15_g19 : ¬ OB A16 g19 := fun h => by have := (own_ob O_q15 h).2; omega
 replace B_g1 := kp_blk B_g1 hk (fun h => h)
 replace B_g4 := kp_blk B_g4 hk (fun h => h)
 replace B_g7 := kp_blk B_g7 hk (fun h => h)
 replace B_h0 := kp_blk B_h0 hk (fun h => h)
 replace B_m0 := kp_blk B_m0 hk (fun h => h)
 replace B_h1 := kp_blk B_h1 hk (fun h => h)
 replace B_m1 := kp_blk B_m1 hk (fun h => h)
 replace B_h2 := kp_blk B_h2 hk (fun h => h)
 replace B_m2 := kp_blk B_m2 hk (fun h => h)
 replace B_gV := kp_blk B_gV hk (fun h => h)
 replace O_q11 := own_keep O_q11 hk (fun _ _ h => h)
 replace O_q15 := own_keep O_q15 hk (fun _ _ h => h)
 replace K_0 := K_0.then_ hk (fun _ h => h.elim)
 clear hk
 refine p_cons (s_call (xs := [Operand.tmp 36, Operand.tmp 37]) (args := [Value.slice A12 1 c13, Value.slice (some ⟨g19, 0, none⟩) 1 1]) (pl P9_4 9) hE (wn_some g9_4_6 rfl rfl) rfl rfl Tryd.func24 cl24 (same_i A12 (some ⟨g19, 0, none⟩) c13 1 [2] _ (by decide) (fun W' hk => own_told (own_keep O_q11 hk (fun _ _ h => h))) (fun W' hk => C_blk (k := .i64) (l := [2]) (off := 0) (kp_blk B_g19 hk (fun h => h)) ⟨rfl, Nat.le_of_ble_eq_true rfl⟩ rfl)) ?_)
 rintro e w22 ⟨rfl, hk⟩
 replace B_g1 := kp_blk B_g1 hk (fun h => h)
 replace B_g4 := kp_blk B_g4 hk (fun h => h)
 replace B_g7 := kp_blk B_g7 hk (fun h => h)
 replace B_h0 := kp_blk B_h0 hk (fun h => h)
 replace B_m0 := kp_blk B_m0 hk (fun h => h)
 replace B_h1 := kp_blk B_h1 hk (fun h => h)
 replace B_m1 := kp_blk B_m1 hk (fun h => h)
 replace B_h2 := kp_blk B_h2 hk (fun h => h)
 replace B_m2 := kp_blk B_m2 hk (fun h => h)
 replace B_gV := kp_blk B_gV hk (fun h => h)
 replace B_g19 := kp_blk B_g19 hk (fun h => h)
 replace O_q11 := own_keep O_q11 hk (fun _ _ h => h)
 replace O_q15 := own_keep O_q15 hk (fun _ _ h => h)
 replace K_0 := K_0.then_ hk (fun _ h => h.elim)
 refine ⟨_, rfl, ?_⟩; clear hE a; intro a hE
 refine qn hE (rc (pl P9_4 10) (st_pick rfl rfl) (rc (pl P9_4 11) (st_move rfl) (rg (pl P9_4 12) (wn_some g9_4_11 rfl rfl) (st_move rfl) rn))) ?_; clear hE a; intro a hE
 refine p_cons (s_row (xs := [(0, Operand.const (Value.int IntKind.i64 0)), (1, Operand.const (Value.int IntKind.i64 1)), (2, Operand.const (Value.int IntKind.i64 2))]) (vs := [(0, Value.int .i64 0), (1, Value.int .i64 1), (2, Value.int .i64 2)]) (cs := #[Value.int .i64 0, Value.int .i64 1, Value.int .i64 2]) (pl P9_4 13) hE (wn_some g9_4_11 rfl rfl) rfl Tryd.underlying45 rfl (by kernel_rfl) ?_)
 clear hE a; intro g23 w24 z25 B_g23 hk a hE
 have n_g1_g23 : g1 ≠ g23 := ne_new B_g1 z25
 have n_g4_g23 : g4 ≠ g23 := ne_new B_g4 z25
 have n_g7_g23 : g7 ≠ g23 := ne_new B_g7 z25
 have n_h0_g23 : h0 ≠ g23 := ne_new B_h0 z25
 have n_m0_g23 : m0 ≠ g23 := ne_new B_m0 z25
 have n_h1_g23 : h1 ≠ g23 := ne_new B_h1 z25
 have n_m1_g23 : m1 ≠ g23 := ne_new B_m1 z25
 have n_h2_g23 : h2 ≠ g23 := ne_new B_h2 z25
 have n_m2_g23 : m2 ≠ g23 := ne_new B_m2 z25
 have n_gV_g23 : gV ≠ g23 := ne_new B_gV z25
 have n_g19_g23 : g19 ≠ g23 := ne_new B_g19 z25
 have z_0_g23 := Nat.le_trans K_0.kept.1 z25
 have Nb_q11_g23 : ¬ OB A12 g23 := fun h => by have := (own_ob O_q11 h).2; omega
 have Nb_q15_g23 : ¬ OB A16 g23 := fun h => by have := (own_ob O_q15 h).2; omega
 replace B_g1 := kp_blk B_g1 hk (fun h => h)
 replace B_g4 := kp_blk B_g4 hk (fun h => h)
 replace B_g7 := kp_blk B_g7 hk (fun h => h)
 replace B_h0 := kp_blk B_h0 hk (fun h => h)
 replace B_m0 := kp_blk B_m0 hk (fun h => h)
 replace B_h1 := kp_blk B_h1 hk (fun h => h)
 replace B_m1 := kp_blk B_m1 hk (fun h => h)
 replace B_h2 := kp_blk B_h2 hk (fun h => h)
 replace B_m2 := kp_blk B_m2 hk (fun h => h)
 replace B_gV := kp_blk B_gV hk (fun h => h)
 replace B_g19 := kp_blk B_g19 hk (fun h => h)
 replace O_q11 := own_keep O_q11 hk (fun _ _ h => h)
 replace O_q15 := own_keep O_q15 hk (fun _ _ h => h)
 replace K_0 := K_0.then_ hk (fun _ h => h.elim)
 clear hk
 refine p_cons (s_call (xs := [Operand.tmp 41, Operand.tmp 42]) (args := [Value.slice A16 3 c17, Value.slice (some ⟨g23, 0, none⟩) 3 3]) (pl P9_4 14) hE (wn_some g9_4_11 rfl rfl) rfl rfl Tryd.func24 cl24 (same_i A16 (some ⟨g23, 0, none⟩) c17 3 [0, 1, 2] _ (by decide) (fun W' hk => own_told (own_keep O_q15 hk (fun _ _ h => h))) (fun W' hk => C_blk (k := .i64) (l := [0, 1, 2]) (off := 0) (kp_blk B_g23 hk (fun h => h)) ⟨rfl, Nat.le_of_ble_eq_true rfl⟩ rfl)) ?_)
 rintro e w26 ⟨rfl, hk⟩
 replace B_g1 := kp_blk B_g1 hk (fun h => h)
 replace B_g4 := kp_blk B_g4 hk (fun h => h)
 replace B_g7 := kp_blk B_g7 hk (fun h => h)
 replace B_h0 := kp_blk B_h0 hk (fun h => h)
 replace B_m0 := kp_blk B_m0 hk (fun h => h)
 replace B_h1 := kp_blk B_h1 hk (fun h => h)
 replace B_m1 := kp_blk B_m1 hk (fun h => h)
 replace B_h2 := kp_blk B_h2 hk (fun h => h)
 replace B_m2 := kp_blk B_m2 hk (fun h => h)
 replace B_gV := kp_blk B_gV hk (fun h => h)
 replace B_g19 := kp_blk B_g19 hk (fun h => h)
 replace B_g23 := kp_blk B_g23 hk (fun h => h)
 replace O_q11 := own_keep O_q11 hk (fun _ _ h => h)
 replace O_q15 := own_keep O_q15 hk (fun _ _ h => h)
 replace K_0 := K_0.then_ hk (fun _ h => h.elim)
 refine ⟨_, rfl, ?_⟩; clear hE a; intro a hE
 refine qn hE (rc (pl P9_4 15) (st_pick rfl rfl) (rc (pl P9_4 16) (st_move rfl) rn)) ?_; clear hE a; intro a hE
 refine p_cons (s_call (xs := [Operand.const (Value.int IntKind.i64 3)]) (args := [Value.int .i64 3]) (pl P9_4 17) hE (wn_some g9_4_16 rfl rfl) rfl rfl Tryd.func10 cl10 (word_any 3 _ (tx_keep hT K_0)) ?_)
 rintro e w27 ⟨rfl, hk⟩
 replace B_g1 := kp_blk B_g1 hk (fun h => h)
 replace B_g4 := kp_blk B_g4 hk (fun h => h)
 replace B_g7 := kp_blk B_g7 hk (fun h => h)
 replace B_h0 := kp_blk B_h0 hk (fun h => h)
 replace B_m0 := kp_blk B_m0 hk (fun h => h)
 replace B_h1 := kp_blk B_h1 hk (fun h => h)
 replace B_m1 := kp_blk B_m1 hk (fun h => h)
 replace B_h2 := kp_blk B_h2 hk (fun h => h)
 replace B_m2 := kp_blk B_m2 hk (fun h => h)
 replace B_gV := kp_blk B_gV hk (fun h => h)
 replace B_g19 := kp_blk B_g19 hk (fun h => h)
 replace B_g23 := kp_blk B_g23 hk (fun h => h)
 replace O_q11 := own_keep O_q11 hk (fun _ _ h => h)
 replace O_q15 := own_keep O_q15 hk (fun _ _ h => h)
 replace K_0 := K_0.then_ hk (fun _ h => h.elim)
 refine ⟨_, rfl, ?_⟩; clear hE a; intro a hE
 refine qn hE (rg (pl P9_4 18) (wn_some g9_4_16 rfl rfl) (st_eqlS (b := true) rfl rfl (by decide +kernel)) (rc (pl P9_4 19) (st_pick rfl rfl) (rc (pl P9_4 20) (st_assign rfl) rn))) ?_; clear hE a; intro a hE
 refine p_nil (x_norm (wp_ret ?_))
 refine ret_one (v := Value.bool true) rfl hE (.tmp rfl .nil) ?_
 exact ⟨rfl, K_0⟩
end Go.Proofs.YtnmlckaeheiodaaDoor.Rw
