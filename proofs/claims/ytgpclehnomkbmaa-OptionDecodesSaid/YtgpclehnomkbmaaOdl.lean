/- The law OptionDecodes, walked. -/
import Derived.Test.YtgpclehnomkbmaaDdc
import Derived.Test.YtgpclehnomkbmaaOre
import Derived.Test.YtgpclehnomkbmaaOsm
set_option maxRecDepth 100000
set_option linter.unusedVariables false
set_option linter.unusedSimpArgs false
namespace Go.Proofs.Ytgpclehnomkbmaa.Ol
open Go.RowKit Go.Proofs.YtgpclehnomkbmaaW.PrintWords Go.Proofs.Ytgpclehnomkbmaa.Ds Go.Proofs.Ytgpclehnomkbmaa.Op Go.Proofs.Ytgpclehnomkbmaa.Oc Go.Proofs.Ytgpclehnomkbmaa.Or Go.Proofs.Ytgpclehnomkbmaa.Ow Go.Proofs.Ytgpclehnomkbmaa.Ob Go.Proofs.Ytgpclehnomkbmaa.Oe Go.Proofs.Ytgpclehnomkbmaa.Opd Go.Proofs.Ytgpclehnomkbmaa.Os
open Go.Proofs.Ytgpclehnomkbmaa.Pk (Kp fitsF spanF putF digF fits_any put_ok C_take)
open Go.Proofs.Ytgpclehnomkbmaa.Cu (isB)
theorem osame_refl (x : OV) : osame x x = true := by
 unfold osame sameB
 rw [decide_eq_true rfl, decide_eq_true rfl, decide_eq_true rfl]
 have : eqL (b16 (adr x)) (b16 (adr x)) = true := by simp [b16, eqL, eqV]
 rw [this]; rfl
theorem lsame_refl (xs : List OV) : lsame xs xs = true := lsame_yes rfl (fun j _ => osame_refl _)
theorem next_okO {b : List Int} (hb : isB b) (hne : b ≠ []) (h : (nextO b).1 = 0) : okO (nextO b).2.1 ∧ ofV (nextO b).2.1 = (nextO b).2.1 := by
 have h1 := next_ok hb hne h
 have h2 := chk_zero h1.1
 have ht : ∀ y ∈ (nextO b).2.1.2.2.2, 0 ≤ y ∧ y ≤ 255 := by
  unfold nextO
  split
  · intro y hy; cases hy
  ·
   split
   · intro y hy; cases hy
   ·
    split
    · intro y hy; cases hy
    ·
     split
     · intro y hy; cases hy
     ·
      unfold mkO
      split
      · intro y hy; cases hy
      ·
       split
       · exact isB_take (isB_drop hb _) _
       · intro y hy; cases hy
 have hs := Go.Proofs.Ytgpclehnomkbmaa.Oc.sizes_len (nextO b).2.1.1.toNat
 exact ⟨⟨ht, by rw [h2.2.2.1]; omega, by omega⟩, Go.Proofs.Ytgpclehnomkbmaa.Re.next_fine h⟩
theorem dec_okO : ∀ (m : Nat) {b : List Int}, isB b → (∀ x ∈ (decL m b).2, okO x ∧ ofV x = x ∧ chkV x = 0)
 | 0, b, hb, x, hx => by
  unfold decL at hx
  split at hx <;> cases hx
 | m + 1, b, hb, x, hx => by
  unfold decL at hx
  split at hx
  · cases hx
  ·
   rename_i hne
   split at hx
   · cases hx
   ·
    rename_i h0
    have h0 : (nextO b).1 = 0 := Decidable.byContradiction fun h => h0 h
    split at hx
    · cases hx
    ·
     rcases List.mem_cons.1 hx with rfl | h2
     · exact ⟨(next_okO hb hne h0).1, (next_okO hb hne h0).2, (next_ok hb hne h0).1⟩
     · exact dec_okO m (isB_drop hb _) x h2
theorem decO_ok {b : List Int} (hb : isB b) : ∀ x ∈ decO b, okO x := fun x hx => (dec_okO 16 hb x hx).1
theorem decO_of {b : List Int} (hb : isB b) : (decO b).map ofV = decO b := by
 have : (decO b).map ofV = (decO b).map id := List.map_congr_left fun x hx => (dec_okO 16 hb x hx).2.1
 rw [this, List.map_id]
theorem decO_len {b : List Int} (hb : isB b) : (decO b).length ≤ 16 := by
 by_cases h : decE b = 0
 · exact (dec_back 16 hb h).2.2
 · rw [decO_bad h]; exact Nat.zero_le _
theorem dec_n (A : Option Addr) (c n : Nat) (l : List Int) (hn : n = l.length) (w : World) (hl : l.length ≤ 1000000) (hc : l.length ≤ c) (hc2 : c ≤ 9223372036854775807) (hb : isB l) (F_A : ∀ W', Kp w W' (fun _ => False) → Kd.C (Kd.int .u8) W' A n l) : Calls Try.prog 9 #[.slice A n c] w fun e w' => ∃ A' c', e = .returned (.tuple #[.slice A' (decO l).length c', .int .i64 (decE l)]) ∧ (decO l).length ≤ c' ∧ (∀ W', Kp w' W' (fun _ => False) → Kd.C dO W' A' (decO l).length (decO l)) ∧ Kp w w' (fun _ => False) := by
 subst hn; exact Go.Proofs.Ytgpclehnomkbmaa.Re.dec_any A c l w hl hc hc2 hb F_A
theorem rdec_n (A : Option Addr) (c n : Nat) (l : List Int) (hn : n = l.length) (w : World) (hl : l.length ≤ 1000000) (hc : l.length ≤ c) (hc2 : c ≤ 9223372036854775807) (hb : isB l) (F_A : ∀ W', Kp w W' (fun _ => False) → Kd.C (Kd.int .u8) W' A n l) : Calls Try.prog 10 #[.slice A n c] w fun e w' => ∃ A' c', e = .returned (.tuple #[.slice A' (decO l).length c', .int .i64 (decE l)]) ∧ (decO l).length ≤ c' ∧ (∀ W', Kp w' W' (fun _ => False) → Kd.C dO W' A' (decO l).length (decO l)) ∧ Kp w w' (fun _ => False) := by
 subst hn; exact Go.Proofs.Ytgpclehnomkbmaa.Dd.rdec_any A c l w hl hc hc2 hb F_A
theorem of_same (A : Option Addr) (c : Nat) (ls : List OV) (he : ls.map ofV = ls) (w : World) (hF : Kd.C dO w A ls.length ls) (hm : ls.length ≤ c) (hmx : ls.length ≤ 1954687338211) : Calls Try.prog 12 #[.slice A ls.length c] w fun e w' => ∃ A' c', e = .returned (.slice A' ls.length c') ∧ ls.length ≤ c' ∧ (∀ W', Kp w' W' (fun _ => False) → Kd.C dO W' A' ls.length ls) ∧ Kp w w' (fun _ => False) := by
 have := ofl_any A c ls w hF hm hmx
 rw [he] at this; exact this
theorem same_n (A0 A1 : Option Addr) (c0 c1 : Nat) (l0 l1 : List Int) (n : Nat) (hn : n = l1.length) (r : Bool) (hr : decide (l0 = l1) = r) (w : World) (h0 : Kd.C (Kd.int .u8) w A0 l0.length l0) (h0c : l0.length ≤ c0) (h1 : Kd.C (Kd.int .u8) w A1 n l1) (h1c : n ≤ c1) (hl : l0.length ≤ 1000000) : Calls Try.prog 15 #[.slice A0 l0.length c0, .slice A1 n c1] w fun e w' => e = .returned (.bool r) ∧ Kp w w' (fun _ => False) := by
 subst hn; exact Go.Proofs.Ytgpclehnomkbmaa.Pk.same_any A0 A1 c0 c1 l0 l1 r hr w h0 h0c h1 h1c hl
theorem R3_0_l : List.range (regOf Try.f3 0).size = [0] := by kernel_rfl
theorem R3_1_l : List.range (regOf Try.f3 1).size = [0, 1, 2, 3, 4, 5] := by kernel_rfl
theorem R3_2_l : List.range (regOf Try.f3 2).size = [0, 1, 2, 3, 4, 5, 6] := by kernel_rfl
theorem R3_3_l : List.range (regOf Try.f3 3).size = [0, 1, 2, 3, 4, 5, 6] := by kernel_rfl
theorem R3_4_l : List.range (regOf Try.f3 4).size = [0, 1, 2, 3, 4, 5, 6, 7, 8, 9] := by kernel_rfl
theorem R3_6_l : List.range (regOf Try.f3 6).size = [0, 1] := by kernel_rfl
theorem R3_7_l : List.range (regOf Try.f3 7).size = [0, 1] := by kernel_rfl
theorem R3_8_l : List.range (regOf Try.f3 8).size = [0, 1, 2, 3, 4, 5, 6] := by kernel_rfl
theorem R3_9_l : List.range (regOf Try.f3 9).size = [0, 1, 2, 3, 4, 5, 6, 7, 8, 9, 10] := by kernel_rfl
theorem body3 : Try.f3.body = some (.seq (.region 0 (regOf Try.f3 0) false) (.seq (.region 1 (regOf Try.f3 1) false) (.seq (.region 2 (regOf Try.f3 2) false) (.seq (.region 3 (regOf Try.f3 3) false) (.seq (.seq (.region 4 (regOf Try.f3 4) false) (.cond (Operand.tmp 33) (.seq (.region 5 (regOf Try.f3 5) false) (.ret)) (.skip))) (.seq (.seq (.region 6 (regOf Try.f3 6) false) (.cond (Operand.tmp 35) (.seq (.region 7 (regOf Try.f3 7) false) (.ret)) (.skip))) (.seq (.region 8 (regOf Try.f3 8) false) (.seq (.region 9 (regOf Try.f3 9) false) (.ret))))))))) := by kernel_rfl
theorem p3_0_0 : pj (regOf Try.f3 0) 0 = some (some 2, .assign (.const (.bool false)), 4, none) := by kernel_rfl
theorem p3_1_0 : pj (regOf Try.f3 1) 0 = some (some 9, .move (.tmp 0), 22, none) := by kernel_rfl
theorem p3_1_1 : pj (regOf Try.f3 1) 1 = some (some 10, .move (.tmp 0), 22, none) := by kernel_rfl
theorem p3_1_2 : pj (regOf Try.f3 1) 2 = some (some 11, .call { callee := .builtin .len, args := #[.tmp 10], argTypes := #[22] }, 3, none) := by kernel_rfl
theorem p3_1_3 : pj (regOf Try.f3 1) 3 = some (some 12, .call { callee := .builtin .min, args := #[.tmp 11, .const (.int .i64 600)], argTypes := #[3, 3] }, 3, none) := by kernel_rfl
theorem p3_1_4 : pj (regOf Try.f3 1) 4 = some (some 13, .slice 22 (.tmp 9) none (some (.tmp 12)) none, 22, none) := by kernel_rfl
theorem tS5 : (Try.prog.info? 5).map (·.size) = some 1 := by kernel_rfl
theorem p3_1_5 : pj (regOf Try.f3 1) 5 = some (some 0, .assign (.tmp 13), 22, none) := by kernel_rfl
theorem p3_2_0 : pj (regOf Try.f3 2) 0 = some (some 15, .move (.tmp 0), 22, none) := by kernel_rfl
theorem p3_2_1 : pj (regOf Try.f3 2) 1 = some (some 16, .call { callee := .value (.func 9), args := #[.tmp 15], argTypes := #[22] }, 25, none) := by kernel_rfl
theorem cl9 : callable Try.f9 = true := by kernel_rfl
theorem p3_2_2 : pj (regOf Try.f3 2) 2 = some (some 14, .move (.tmp 16), 25, none) := by kernel_rfl
theorem p3_2_3 : pj (regOf Try.f3 2) 3 = some (some 17, .extract (.tmp 14) 0, 23, none) := by kernel_rfl
theorem p3_2_4 : pj (regOf Try.f3 2) 4 = some (some 18, .extract (.tmp 14) 1, 24, none) := by kernel_rfl
theorem p3_2_5 : pj (regOf Try.f3 2) 5 = some (some 3, .assign (.tmp 17), 23, none) := by kernel_rfl
theorem p3_2_6 : pj (regOf Try.f3 2) 6 = some (some 4, .assign (.tmp 18), 24, none) := by kernel_rfl
theorem p3_3_0 : pj (regOf Try.f3 3) 0 = some (some 20, .move (.tmp 0), 22, none) := by kernel_rfl
theorem p3_3_1 : pj (regOf Try.f3 3) 1 = some (some 21, .call { callee := .value (.func 10), args := #[.tmp 20], argTypes := #[22] }, 28, none) := by kernel_rfl
theorem cl10 : callable Try.f10 = true := by kernel_rfl
theorem p3_3_2 : pj (regOf Try.f3 3) 2 = some (some 19, .move (.tmp 21), 28, none) := by kernel_rfl
theorem p3_3_3 : pj (regOf Try.f3 3) 3 = some (some 22, .extract (.tmp 19) 0, 27, none) := by kernel_rfl
theorem p3_3_4 : pj (regOf Try.f3 3) 4 = some (some 23, .extract (.tmp 19) 1, 3, none) := by kernel_rfl
theorem p3_3_5 : pj (regOf Try.f3 3) 5 = some (some 5, .assign (.tmp 22), 27, none) := by kernel_rfl
theorem p3_3_6 : pj (regOf Try.f3 3) 6 = some (some 6, .assign (.tmp 23), 3, none) := by kernel_rfl
theorem p3_4_0 : pj (regOf Try.f3 4) 0 = some (some 24, .move (.tmp 4), 24, none) := by kernel_rfl
theorem p3_4_1 : pj (regOf Try.f3 4) 1 = some (some 25, .move (.tmp 6), 3, none) := by kernel_rfl
theorem p3_4_2 : pj (regOf Try.f3 4) 2 = some (some 26, .binOp .neq 3 (.tmp 24) (.tmp 25) 3, 4, none) := by kernel_rfl
theorem p3_4_3 : pj (regOf Try.f3 4) 3 = some (some 27, .move (.tmp 26), 4, none) := by kernel_rfl
theorem p3_4_4 : pj (regOf Try.f3 4) 4 = some (some 28, .move (.tmp 3), 23, some (3, false)) := by kernel_rfl
theorem g3_4_3 : dstOf (regOf Try.f3 4) 3 = some 27 := by kernel_rfl
theorem p3_4_5 : pj (regOf Try.f3 4) 5 = some (some 29, .call { callee := .value (.func 12), args := #[.tmp 28], argTypes := #[23] }, 27, some (3, false)) := by kernel_rfl
theorem cl12 : callable Try.f12 = true := by kernel_rfl
theorem p3_4_6 : pj (regOf Try.f3 4) 6 = some (some 30, .move (.tmp 5), 27, some (3, false)) := by kernel_rfl
theorem p3_4_7 : pj (regOf Try.f3 4) 7 = some (some 31, .call { callee := .value (.func 11), args := #[.tmp 29, .tmp 30], argTypes := #[27, 27] }, 4, some (3, false)) := by kernel_rfl
theorem cl11 : callable Try.f11 = true := by kernel_rfl
theorem p3_4_8 : pj (regOf Try.f3 4) 8 = some (some 32, .unOp .not 4 (.tmp 31), 4, some (3, false)) := by kernel_rfl
theorem p3_4_9 : pj (regOf Try.f3 4) 9 = some (some 33, .pick (.tmp 27) (.const (.bool true)) (.tmp 32), 4, none) := by kernel_rfl
theorem p3_6_0 : pj (regOf Try.f3 6) 0 = some (some 34, .move (.tmp 6), 3, none) := by kernel_rfl
theorem p3_6_1 : pj (regOf Try.f3 6) 1 = some (some 35, .binOp .neq 3 (.tmp 34) (.const (.int .i64 0)) 3, 4, none) := by kernel_rfl
theorem p3_8_0 : pj (regOf Try.f3 8) 0 = some (some 38, .move (.tmp 3), 23, none) := by kernel_rfl
theorem p3_8_1 : pj (regOf Try.f3 8) 1 = some (some 39, .call { callee := .value (.func 14), args := #[.tmp 38], argTypes := #[23] }, 33, none) := by kernel_rfl
theorem cl14 : callable Try.f14 = true := by kernel_rfl
theorem p3_8_2 : pj (regOf Try.f3 8) 2 = some (some 37, .move (.tmp 39), 33, none) := by kernel_rfl
theorem p3_8_3 : pj (regOf Try.f3 8) 3 = some (some 40, .extract (.tmp 37) 0, 22, none) := by kernel_rfl
theorem p3_8_4 : pj (regOf Try.f3 8) 4 = some (some 41, .extract (.tmp 37) 1, 24, none) := by kernel_rfl
theorem p3_8_5 : pj (regOf Try.f3 8) 5 = some (some 7, .assign (.tmp 40), 22, none) := by kernel_rfl
theorem p3_8_6 : pj (regOf Try.f3 8) 6 = some (some 8, .assign (.tmp 41), 24, none) := by kernel_rfl
theorem p3_9_0 : pj (regOf Try.f3 9) 0 = some (some 42, .call { callee := .value (.func 13), args := #[], argTypes := #[] }, 4, none) := by kernel_rfl
theorem cl13 : callable Try.f13 = true := by kernel_rfl
theorem p3_9_1 : pj (regOf Try.f3 9) 1 = some (some 43, .move (.tmp 42), 4, none) := by kernel_rfl
theorem p3_9_2 : pj (regOf Try.f3 9) 2 = some (some 44, .move (.tmp 8), 24, some (1, true)) := by kernel_rfl
theorem g3_9_1 : dstOf (regOf Try.f3 9) 1 = some 43 := by kernel_rfl
theorem p3_9_3 : pj (regOf Try.f3 9) 3 = some (some 45, .binOp .eql 24 (.tmp 44) (.const (.int .i64 0)) 24, 4, some (1, true)) := by kernel_rfl
theorem p3_9_4 : pj (regOf Try.f3 9) 4 = some (some 46, .pick (.tmp 43) (.tmp 45) (.const (.bool false)), 4, none) := by kernel_rfl
theorem p3_9_5 : pj (regOf Try.f3 9) 5 = some (some 47, .move (.tmp 46), 4, none) := by kernel_rfl
theorem p3_9_6 : pj (regOf Try.f3 9) 6 = some (some 48, .move (.tmp 7), 22, some (5, true)) := by kernel_rfl
theorem g3_9_5 : dstOf (regOf Try.f3 9) 5 = some 47 := by kernel_rfl
theorem p3_9_7 : pj (regOf Try.f3 9) 7 = some (some 49, .move (.tmp 0), 22, some (5, true)) := by kernel_rfl
theorem p3_9_8 : pj (regOf Try.f3 9) 8 = some (some 50, .call { callee := .value (.func 15), args := #[.tmp 48, .tmp 49], argTypes := #[22, 22] }, 4, some (5, true)) := by kernel_rfl
theorem cl15 : callable Try.f15 = true := by kernel_rfl
theorem p3_9_9 : pj (regOf Try.f3 9) 9 = some (some 51, .pick (.tmp 47) (.tmp 50) (.const (.bool false)), 4, none) := by kernel_rfl
theorem p3_9_10 : pj (regOf Try.f3 9) 10 = some (some 2, .assign (.tmp 51), 4, none) := by kernel_rfl
theorem p3_7_0 : pj (regOf Try.f3 7) 0 = some (some 36, .call { callee := .value (.func 13), args := #[], argTypes := #[] }, 4, none) := by kernel_rfl
theorem p3_7_1 : pj (regOf Try.f3 7) 1 = some (some 2, .assign (.tmp 36), 4, none) := by kernel_rfl
set_option maxHeartbeats 4000000 in
theorem walk (a0 : Option Addr) (cap0 : Nat) (z0 : List (Int)) (w : World) (w0 : Kd.C (Kd.int .u8) w a0 z0.length z0) (m0 : z0.length ≤ cap0) (o0 : (z0.length ≤ maxLen ∧ ∀ x0 ∈ z0, (Lit.int .u8 x0).wf = true)) (y0 : z0.length * Try.prog.bytesOf 5 ≤ 140737488351232) (c0 : cap0 ≤ maxLen ∧ (a0 = none → cap0 = 0)) : Calls Try.prog 3 #[.slice a0 z0.length cap0] w fun e w' => e = .returned (.bool true) ∧ Below w.heap.size w w' := by
 have K_0 := Kp.refl w (fun _ => False)
 have hBl : (z0.take (min z0.length 600)).length = (min z0.length 600) := by rw [List.length_take]; omega
 have hb : isB (z0.take (min z0.length 600)) := isB_take (fun x hx => by have := o0.2 x hx; simp [Lit.wf] at this; have e1 : IntKind.u8.min = 0 := rfl; have e2 : IntKind.u8.max = 255 := rfl; omega) _
 have hc2 : cap0 ≤ 9223372036854775807 := by have := c0.1; unfold maxLen at this; omega
 have hdl := decO_len hb
 have F_z : ∀ W', Kp w W' (fun _ => False) → Kd.C (Kd.int .u8) W' a0 (min z0.length 600) (z0.take (min z0.length 600)) := fun W' hk => C_take (C_to w0 hk) (by omega)
 refine enter (args := [Value.slice a0 z0.length cap0]) (n := 52) Try.func3 body3 rfl rfl rfl ?_
 intro a hE
 refine c_reg R3_0_l ?_
 refine q0 p3_0_0 hE (st_assign rfl) ?_; clear hE a; intro a hE
 refine p_nil (x_norm (c_reg R3_1_l ?_))
 refine q0 p3_1_0 hE (st_move rfl) ?_; clear hE a; intro a hE
 refine q0 p3_1_1 hE (st_move rfl) ?_; clear hE a; intro a hE
 refine q0 p3_1_2 hE (st_len Try.underlying22 rfl) ?_; clear hE a; intro a hE
 refine q0 p3_1_3 hE (st_min (z := ((min z0.length 600 : Nat) : Int)) rfl rfl (by rw [Nat.min_def]; split <;> split <;> omega)) ?_; clear hE a; intro a hE
 refine q0 p3_1_4 hE (st_sliceH (h := (min z0.length 600)) Try.underlying22 tS5 rfl rfl (by omega)) ?_; clear hE a; intro a hE
 refine q0 p3_1_5 hE (st_assign rfl) ?_; clear hE a; intro a hE
 refine p_nil (x_norm (c_reg R3_2_l ?_))
 refine q0 p3_2_0 hE (st_move rfl) ?_; clear hE a; intro a hE
 refine p_cons (s_call (xs := [Operand.tmp 15]) (args := [Value.slice a0 (min z0.length 600) cap0]) p3_2_1 hE wn_none rfl rfl Try.func9 cl9 (dec_n a0 cap0 (min z0.length 600) (z0.take (min z0.length 600)) hBl.symm _ (by omega) (by omega) hc2 hb (fun W' hk => F_z W' (K_0.then_ hk (fun _ h => h.elim)))) ?_)
 rintro e w4 ⟨A1, c2, rfl, hcapf3, hF9, hk⟩
 replace K_0 := K_0.then_ hk (fun _ h => h.elim)
 have K_s5 := Kp.refl w4 (fun _ => False)
 have hRf3 := hF9 _ (Kp.refl _ _)
 refine ⟨_, rfl, ?_⟩; clear hE a; intro a hE
 refine q0 p3_2_2 hE (st_move rfl) ?_; clear hE a; intro a hE
 refine q0 p3_2_3 hE (st_extract rfl rfl) ?_; clear hE a; intro a hE
 refine q0 p3_2_4 hE (st_extract rfl rfl) ?_; clear hE a; intro a hE
 refine q0 p3_2_5 hE (st_assign rfl) ?_; clear hE a; intro a hE
 refine q0 p3_2_6 hE (st_assign rfl) ?_; clear hE a; intro a hE
 refine p_nil (x_norm (c_reg R3_3_l ?_))
 refine q0 p3_3_0 hE (st_move rfl) ?_; clear hE a; intro a hE
 refine p_cons (s_call (xs := [Operand.tmp 20]) (args := [Value.slice a0 (min z0.length 600) cap0]) p3_3_1 hE wn_none rfl rfl Try.func10 cl10 (rdec_n a0 cap0 (min z0.length 600) (z0.take (min z0.length 600)) hBl.symm _ (by omega) (by omega) hc2 hb (fun W' hk => F_z W' (K_0.then_ hk (fun _ h => h.elim)))) ?_)
 rintro e w9 ⟨A6, c7, rfl, hcapf8, hF9, hk⟩
 replace K_0 := K_0.then_ hk (fun _ h => h.elim)
 replace K_s5 := K_s5.then_ hk (fun _ h => h.elim)
 have K_s10 := Kp.refl w9 (fun _ => False)
 have hRf8 := hF9 _ (Kp.refl _ _)
 refine ⟨_, rfl, ?_⟩; clear hE a; intro a hE
 refine q0 p3_3_2 hE (st_move rfl) ?_; clear hE a; intro a hE
 refine q0 p3_3_3 hE (st_extract rfl rfl) ?_; clear hE a; intro a hE
 refine q0 p3_3_4 hE (st_extract rfl rfl) ?_; clear hE a; intro a hE
 refine q0 p3_3_5 hE (st_assign rfl) ?_; clear hE a; intro a hE
 refine q0 p3_3_6 hE (st_assign rfl) ?_; clear hE a; intro a hE
 refine p_nil (x_norm (wp_seq (c_reg R3_4_l ?_)))
 refine q0 p3_4_0 hE (st_move rfl) ?_; clear hE a; intro a hE
 refine q0 p3_4_1 hE (st_move rfl) ?_; clear hE a; intro a hE
 refine q0 p3_4_2 hE (st_neq (b := false) rfl rfl (by simp)) ?_; clear hE a; intro a hE
 refine q0 p3_4_3 hE (st_move rfl) ?_; clear hE a; intro a hE
 refine p_cons (s_still p3_4_4 hE (wn_some g3_4_3 rfl rfl) rfl (st_move rfl) ?_); clear hE a; intro a hE
 refine p_cons (s_call (xs := [Operand.tmp 28]) (args := [Value.slice A1 ((decO (z0.take (min z0.length 600))).length) c2]) p3_4_5 hE (wn_some g3_4_3 rfl rfl) rfl rfl Try.func12 cl12 (of_same A1 c2 (decO (z0.take (min z0.length 600))) (decO_of hb) _ (C_to hRf3 K_s5) hcapf3 (by omega)) ?_)
 rintro e w14 ⟨A11, c12, rfl, hcapf13, hF9, hk⟩
 replace K_0 := K_0.then_ hk (fun _ h => h.elim)
 replace K_s5 := K_s5.then_ hk (fun _ h => h.elim)
 replace K_s10 := K_s10.then_ hk (fun _ h => h.elim)
 have K_s15 := Kp.refl w14 (fun _ => False)
 have hRf13 := hF9 _ (Kp.refl _ _)
 refine ⟨_, rfl, ?_⟩; clear hE a; intro a hE
 refine p_cons (s_still p3_4_6 hE (wn_some g3_4_3 rfl rfl) rfl (st_move rfl) ?_); clear hE a; intro a hE
 refine p_cons (s_call (xs := [Operand.tmp 29, Operand.tmp 30]) (args := [Value.slice A11 ((decO (z0.take (min z0.length 600))).length) c12, Value.slice A6 ((decO (z0.take (min z0.length 600))).length) c7]) p3_4_7 hE (wn_some g3_4_3 rfl rfl) rfl rfl Try.func11 cl11 (All_o A11 A6 c12 c7 (decO (z0.take (min z0.length 600))) (decO (z0.take (min z0.length 600))) true (lsame_refl _) (decO_ok hb) (decO_ok hb) _ (C_to hRf13 K_s15) (C_to hRf8 K_s10) (by omega)) ?_)
 rintro e w16 ⟨rfl, hk⟩
 replace K_0 := K_0.then_ hk (fun _ h => h.elim)
 replace K_s5 := K_s5.then_ hk (fun _ h => h.elim)
 replace K_s10 := K_s10.then_ hk (fun _ h => h.elim)
 replace K_s15 := K_s15.then_ hk (fun _ h => h.elim)
 refine ⟨_, rfl, ?_⟩; clear hE a; intro a hE
 refine p_cons (s_still p3_4_8 hE (wn_some g3_4_3 rfl rfl) rfl (st_not rfl rfl) ?_); clear hE a; intro a hE
 refine q0 p3_4_9 hE (st_pick rfl rfl) ?_; clear hE a; intro a hE
 refine p_nil (x_norm ?_)
 refine c_cond (t := false) hE rfl ?_
 refine wp_skip (x_norm (wp_seq (c_reg R3_6_l ?_)))
 refine q0 p3_6_0 hE (st_move rfl) ?_; clear hE a; intro a hE
 rcases Decidable.em ((decE (z0.take (min z0.length 600))) = 0) with hc17 | hc17
 ·
  refine p_cons (s_still (v := Value.bool false) p3_6_1 hE wn_none rfl (st_neq rfl rfl (by rw [decide_eq_true hc17]; rfl)) ?_); clear hE a; intro a hE
  refine p_nil (x_norm ?_)
  refine c_cond (t := false) hE rfl ?_
  refine wp_skip (x_norm (c_reg R3_8_l ?_))
  have hee := enc_dec hb (by omega) hc17
  refine q0 p3_8_0 hE (st_move rfl) ?_; clear hE a; intro a hE
  refine p_cons (s_call (xs := [Operand.tmp 38]) (args := [Value.slice A1 ((decO (z0.take (min z0.length 600))).length) c2]) p3_8_1 hE wn_none rfl rfl Try.func14 cl14 (enc_any A1 c2 (decO (z0.take (min z0.length 600))) _ (C_to hRf3 K_s5) (by omega)) ?_)
  rintro e w21 ⟨A18, c19, rfl, hcapf20, hF9, hk⟩
  replace K_0 := K_0.then_ hk (fun _ h => h.elim)
  replace K_s5 := K_s5.then_ hk (fun _ h => h.elim)
  replace K_s10 := K_s10.then_ hk (fun _ h => h.elim)
  replace K_s15 := K_s15.then_ hk (fun _ h => h.elim)
  have K_s22 := Kp.refl w21 (fun _ => False)
  have hRf20 := hF9 _ (Kp.refl _ _)
  refine ⟨_, rfl, ?_⟩; clear hE a; intro a hE
  refine q0 p3_8_2 hE (st_move rfl) ?_; clear hE a; intro a hE
  refine q0 p3_8_3 hE (st_extract rfl rfl) ?_; clear hE a; intro a hE
  refine q0 p3_8_4 hE (st_extract rfl rfl) ?_; clear hE a; intro a hE
  refine q0 p3_8_5 hE (st_assign rfl) ?_; clear hE a; intro a hE
  refine q0 p3_8_6 hE (st_assign rfl) ?_; clear hE a; intro a hE
  refine p_nil (x_norm (c_reg R3_9_l ?_))
  refine p_cons (s_call (xs := []) (args := []) p3_9_0 hE wn_none rfl rfl Try.func13 cl13 (known_any  _) ?_)
  rintro e w23 ⟨rfl, hk⟩
  replace K_0 := K_0.then_ hk (fun _ h => h.elim)
  replace K_s5 := K_s5.then_ hk (fun _ h => h.elim)
  replace K_s10 := K_s10.then_ hk (fun _ h => h.elim)
  replace K_s15 := K_s15.then_ hk (fun _ h => h.elim)
  replace K_s22 := K_s22.then_ hk (fun _ h => h.elim)
  refine ⟨_, rfl, ?_⟩; clear hE a; intro a hE
  refine q0 p3_9_1 hE (st_move rfl) ?_; clear hE a; intro a hE
  refine p_cons (s_still p3_9_2 hE (wn_some g3_9_1 rfl rfl) rfl (st_move rfl) ?_); clear hE a; intro a hE
  refine p_cons (s_still p3_9_3 hE (wn_some g3_9_1 rfl rfl) rfl (st_eql (b := true) rfl rfl (decide_eq_true hee.1)) ?_); clear hE a; intro a hE
  refine q0 p3_9_4 hE (st_pick rfl rfl) ?_; clear hE a; intro a hE
  refine q0 p3_9_5 hE (st_move rfl) ?_; clear hE a; intro a hE
  refine p_cons (s_still p3_9_6 hE (wn_some g3_9_5 rfl rfl) rfl (st_move rfl) ?_); clear hE a; intro a hE
  refine p_cons (s_still p3_9_7 hE (wn_some g3_9_5 rfl rfl) rfl (st_move rfl) ?_); clear hE a; intro a hE
  refine p_cons (s_call (xs := [Operand.tmp 48, Operand.tmp 49]) (args := [Value.slice A18 ((encB (decO (z0.take (min z0.length 600)))).length) c19, Value.slice a0 (min z0.length 600) cap0]) p3_9_8 hE (wn_some g3_9_5 rfl rfl) rfl rfl Try.func15 cl15 (same_n A18 a0 c19 cap0 (encB (decO (z0.take (min z0.length 600)))) (z0.take (min z0.length 600)) (min z0.length 600) hBl.symm true (decide_eq_true hee.2) _ (C_to hRf20 K_s22) hcapf20 (F_z _ K_0) (by omega) (by rw [hee.2]; omega)) ?_)
  rintro e w24 ⟨rfl, hn⟩
  have hk := kp_n hn (fun _ => False)
  replace K_0 := K_0.then_ hk (fun _ h => h.elim)
  replace K_s5 := K_s5.then_ hk (fun _ h => h.elim)
  replace K_s10 := K_s10.then_ hk (fun _ h => h.elim)
  replace K_s15 := K_s15.then_ hk (fun _ h => h.elim)
  replace K_s22 := K_s22.then_ hk (fun _ h => h.elim)
  refine ⟨_, rfl, ?_⟩; clear hE a; intro a hE
  refine q0 p3_9_9 hE (st_pick rfl rfl) ?_; clear hE a; intro a hE
  refine q0 p3_9_10 hE (st_assign rfl) ?_; clear hE a; intro a hE
  refine p_nil (x_norm (wp_ret ?_))
  refine ret_one (v := Value.bool true) rfl hE (.tmp rfl .nil) ?_
  exact ⟨rfl, K_0.to (Nat.le_refl _) (fun _ h => h.elim)⟩
 ·
  refine p_cons (s_still (v := Value.bool true) p3_6_1 hE wn_none rfl (st_neq rfl rfl (by rw [decide_eq_false hc17]; rfl)) ?_); clear hE a; intro a hE
  refine p_nil (x_norm ?_)
  refine c_cond (t := true) hE rfl ?_
  refine c_reg R3_7_l ?_
  refine p_cons (s_call (xs := []) (args := []) p3_7_0 hE wn_none rfl rfl Try.func13 cl13 (known_any  _) ?_)
  rintro e w25 ⟨rfl, hk⟩
  replace K_0 := K_0.then_ hk (fun _ h => h.elim)
  replace K_s5 := K_s5.then_ hk (fun _ h => h.elim)
  replace K_s10 := K_s10.then_ hk (fun _ h => h.elim)
  replace K_s15 := K_s15.then_ hk (fun _ h => h.elim)
  refine ⟨_, rfl, ?_⟩; clear hE a; intro a hE
  refine q0 p3_7_1 hE (st_assign rfl) ?_; clear hE a; intro a hE
  refine p_nil (x_norm (wp_ret (x_ret ?_)))
  refine ret_one (v := Value.bool true) rfl hE (.tmp rfl .nil) ?_
  exact ⟨rfl, K_0.to (Nat.le_refl _) (fun _ h => h.elim)⟩
end Go.Proofs.Ytgpclehnomkbmaa.Ol
