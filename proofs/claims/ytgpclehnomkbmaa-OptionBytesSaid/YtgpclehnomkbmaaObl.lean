/- The law OptionBytes, walked. -/
import Derived.Test.YtgpclehnomkbmaaDen
import Derived.Test.YtgpclehnomkbmaaOre
import Derived.Test.YtgpclehnomkbmaaOsm
set_option maxRecDepth 100000
set_option linter.unusedVariables false
set_option linter.unusedSimpArgs false
namespace Go.Proofs.Ytgpclehnomkbmaa.Ob9
open Go.RowKit Go.Proofs.YtgpclehnomkbmaaW.PrintWords Go.Proofs.Ytgpclehnomkbmaa.Ds Go.Proofs.Ytgpclehnomkbmaa.Op Go.Proofs.Ytgpclehnomkbmaa.Oc Go.Proofs.Ytgpclehnomkbmaa.Or Go.Proofs.Ytgpclehnomkbmaa.Ow Go.Proofs.Ytgpclehnomkbmaa.Ob Go.Proofs.Ytgpclehnomkbmaa.Oe Go.Proofs.Ytgpclehnomkbmaa.Opd Go.Proofs.Ytgpclehnomkbmaa.Os Go.Proofs.Ytgpclehnomkbmaa.Dn Go.Proofs.Ytgpclehnomkbmaa.Orf
open Go.Proofs.Ytgpclehnomkbmaa.Pk (Kp fitsF spanF putF digF fits_any put_ok C_take)
open Go.Proofs.Ytgpclehnomkbmaa.Cu (isB)
theorem osame_refl (x : OV) : osame x x = true := by
 unfold osame sameB
 rw [decide_eq_true rfl, decide_eq_true rfl, decide_eq_true rfl]
 have : eqL (b16 (adr x)) (b16 (adr x)) = true := by simp [b16, eqL, eqV]
 rw [this]; rfl
theorem lsame_refl (xs : List OV) : lsame xs xs = true := lsame_yes rfl (fun j _ => osame_refl _)
theorem dec_n (A : Option Addr) (c n : Nat) (l : List Int) (hn : n = l.length) (w : World) (hl : l.length ≤ 1000000) (hc : l.length ≤ c) (hc2 : c ≤ 9223372036854775807) (hb : isB l) (F_A : ∀ W', Kp w W' (fun _ => False) → Kd.C (Kd.int .u8) W' A n l) : Calls Try.prog 9 #[.slice A n c] w fun e w' => ∃ A' c', e = .returned (.tuple #[.slice A' (decO l).length c', .int .i64 (decE l)]) ∧ (decO l).length ≤ c' ∧ (∀ W', Kp w' W' (fun _ => False) → Kd.C dO W' A' (decO l).length (decO l)) ∧ Kp w w' (fun _ => False) := by
 subst hn; exact Go.Proofs.Ytgpclehnomkbmaa.Re.dec_any A c l w hl hc hc2 hb F_A
theorem of_same (A : Option Addr) (c : Nat) (ls : List OV) (he : ls.map ofV = ls) (w : World) (hF : Kd.C dO w A ls.length ls) (hm : ls.length ≤ c) (hmx : ls.length ≤ 1954687338211) : Calls Try.prog 12 #[.slice A ls.length c] w fun e w' => ∃ A' c', e = .returned (.slice A' ls.length c') ∧ ls.length ≤ c' ∧ (∀ W', Kp w' W' (fun _ => False) → Kd.C dO W' A' ls.length ls) ∧ Kp w w' (fun _ => False) := by
 have := ofl_any A c ls w hF hm hmx
 rw [he] at this; exact this
theorem isB_app {a b : List Int} (h : isB a) (h2 : isB b) : isB (a ++ b) := fun x hx => (List.mem_append.1 hx).elim (h x) (h2 x)
theorem isB_dig (k n : Int) : isB (digF k n) := by
 intro x hx
 unfold digF at hx
 split at hx
 · simp only [List.mem_cons, List.not_mem_nil, or_false] at hx; omega
 ·
  split at hx
  · simp only [List.mem_cons, List.not_mem_nil, or_false] at hx; omega
  · simp only [List.mem_cons, List.not_mem_nil, or_false] at hx; omega
theorem isB_puts (SZ l : List Int) (a z : Nat) : isB (putsF SZ l a z) := by
 intro x hx
 unfold putsF at hx
 obtain ⟨s, hs, hx2⟩ := List.mem_flatten.1 hx
 obtain ⟨j, _, rfl⟩ := List.mem_map.1 hs
 unfold putF at hx2
 obtain ⟨n, _, h3⟩ := List.mem_flatMap.1 hx2
 exact isB_dig _ _ x h3
theorem isB_opt {x : OV} (hc : chkV x = 0) (ht : isB x.2.2.2) (ha : isB (l16 (adr x))) : isB (optB x) := by
 have hz := chk_zero hc
 unfold optB bytesF
 split
 ·
  intro y hy
  rw [List.mem_singleton] at hy; omega
 ·
  refine isB_app (fun y hy => ?_) ?_
  · simp only [List.mem_cons, List.not_mem_nil, or_false] at hy; omega
  ·
   unfold bodyF
   split
   · intro y hy; rw [List.eq_of_mem_replicate hy]; decide
   ·
    refine isB_app (isB_app (isB_app (isB_puts _ _ _ _) ?_) (isB_puts _ _ _ _)) ht
    split
    · exact ha
    · intro y hy; cases hy
theorem isB_all {xs : List OV} (h : ∀ x ∈ xs, isB x.2.2.2 ∧ isB (l16 (adr x))) (he : encE xs = 0) : isB (encB xs) := by
 rw [show encB xs = allB xs from if_pos he]
 have hf : firstBad xs = 0 := by
  unfold encE at he
  split at he
  · cases he
  ·
   split at he
   · rename_i h2; exact absurd he h2
   · rename_i h1 h2; exact Decidable.byContradiction fun h4 => h2 h4
 intro y hy
 obtain ⟨s, hs, hy2⟩ := List.mem_flatten.1 hy
 obtain ⟨x, hx, rfl⟩ := List.mem_map.1 hs
 exact isB_opt (first_all hf x hx) (h x hx).1 (h x hx).2 y hy2
/-- What the laws' options are. -/
def okZ (z : List OV) : Prop := ∀ x ∈ z, (∀ y ∈ x.2.1, y ≤ 9223372036854775807) ∧ isB x.2.2.2 ∧ (x.2.2.1.length = 16 ∧ isB x.2.2.1)
theorem okZ_of {z : List OV} (o : (z.length ≤ maxLen ∧ ∀ x0 ∈ z, ((Lit.int .i64 x0.1).wf = true ∧ ((x0.2.1.length ≤ maxLen ∧ ∀ x1 ∈ x0.2.1, (Lit.int .i64 x1).wf = true) ∧ ((x0.2.2.1.length = 16 ∧ ∀ x1 ∈ x0.2.2.1, (Lit.int .u8 x1).wf = true) ∧ ((x0.2.2.2.length ≤ maxLen ∧ ∀ x1 ∈ x0.2.2.2, (Lit.int .u8 x1).wf = true))))))) : okZ z := fun x hx => by
 obtain ⟨_, h1, h2, h3⟩ := o.2 x hx
 have e1 : IntKind.u8.min = 0 := rfl
 have e2 : IntKind.u8.max = 255 := rfl
 have e3 : IntKind.i64.max = 9223372036854775807 := rfl
 exact ⟨fun y hy => by have := h1.2 y hy; simp [Lit.wf] at this; omega, fun y hy => by have := h3.2 y hy; simp [Lit.wf] at this; omega, h2.1, fun y hy => by have := h2.2 y hy; simp [Lit.wf] at this; omega⟩
theorem toL_fine {z : List OV} (h : okZ z) : ∀ x ∈ toL z, (∀ y ∈ x.2.1, y ≤ 9223372036854775807) ∧ isB x.2.2.2 ∧ isB (l16 (adr x)) ∧ fine x ∧ okO x := by
 intro x hx
 unfold toL at hx
 obtain ⟨v, hv, rfl⟩ := List.mem_map.1 hx
 obtain ⟨h1, h2, h3, h4⟩ := h v (List.mem_of_mem_take hv)
 have ha : l16 (adr (toV v)) = l16 (adr v) := l16_adr _
 refine ⟨fun y hy => h1 y (List.mem_of_mem_take hy), fun y hy => h2 y (List.mem_of_mem_take hy), ?_, ?_, ?_, ?_, ?_⟩
 ·
  rw [ha]
  intro y hy
  have e : l16 (adr v) = v.2.2.1 := l16_getD h3
  rw [e] at hy; exact h4 y hy
 · exact ha.symm
 · exact fun y hy => h2 y (List.mem_of_mem_take hy)
 · show (v.2.1.take 12).length ≤ _; rw [List.length_take]; omega
 · show (v.2.2.2.take 100).length ≤ _; rw [List.length_take]; omega
theorem toL_of (z : List OV) : (toL z).map ofV = toL z := by
 unfold toL
 rw [List.map_map]
 exact List.map_congr_left fun x _ => ofV_toV x
theorem dec_x (A : Option Addr) (c n : Nat) (l : List Int) (X : List OV) (h : decE l = 0 ∧ decO l = X) (hn : n = l.length) (w : World) (hl : l.length ≤ 1000000) (hc : l.length ≤ c) (hc2 : c ≤ 9223372036854775807) (hb : isB l) (F_A : ∀ W', Kp w W' (fun _ => False) → Kd.C (Kd.int .u8) W' A n l) : Calls Try.prog 9 #[.slice A n c] w fun e w' => ∃ A' c', e = .returned (.tuple #[.slice A' X.length c', .int .i64 0]) ∧ X.length ≤ c' ∧ (∀ W', Kp w' W' (fun _ => False) → Kd.C dO W' A' X.length X) ∧ Kp w w' (fun _ => False) := by
 have := dec_n A c n l hn w hl hc hc2 hb F_A
 rw [h.1, h.2] at this; exact this
section
variable {P : Program} {T T1 T2 : TypeId} {m : List (Nat × Value)} {w : World} {X Y : Operand}
theorem st_neqS0 {s : ByteArray} (h1 : ev m X = some (.string s)) (h2 : ev m Y = some (.string s)) : Still P (.binOp .neq T1 X Y T2) T m w (.bool false) := fun n a hE o e1 e2 => by
 unfold execOp; rw [e1]
 simp [hE.ev h1, hE.ev h2, eqGuard, binOp_string_neq]
end
theorem R4_0_l : List.range (regOf Try.f4 0).size = [0] := by kernel_rfl
theorem R4_1_l : List.range (regOf Try.f4 1).size = [0, 1, 2] := by kernel_rfl
theorem R4_2_l : List.range (regOf Try.f4 2).size = [0, 1, 2] := by kernel_rfl
theorem R4_3_l : List.range (regOf Try.f4 3).size = [0, 1, 2, 3, 4, 5, 6] := by kernel_rfl
theorem R4_4_l : List.range (regOf Try.f4 4).size = [0, 1, 2, 3, 4, 5, 6] := by kernel_rfl
theorem R4_5_l : List.range (regOf Try.f4 5).size = [0, 1, 2, 3, 4, 5, 6, 7, 8, 9, 10, 11, 12, 13, 14, 15] := by kernel_rfl
theorem R4_7_l : List.range (regOf Try.f4 7).size = [0] := by kernel_rfl
theorem R4_8_l : List.range (regOf Try.f4 8).size = [0, 1, 2, 3] := by kernel_rfl
theorem R4_10_l : List.range (regOf Try.f4 10).size = [0, 1, 2, 3, 4, 5] := by kernel_rfl
theorem R4_11_l : List.range (regOf Try.f4 11).size = [0] := by kernel_rfl
theorem R4_12_l : List.range (regOf Try.f4 12).size = [0, 1] := by kernel_rfl
theorem R4_13_l : List.range (regOf Try.f4 13).size = [0, 1, 2, 3, 4, 5, 6] := by kernel_rfl
theorem R4_14_l : List.range (regOf Try.f4 14).size = [0, 1, 2, 3, 4, 5, 6, 7, 8, 9, 10, 11, 12, 13, 14, 15] := by kernel_rfl
theorem R4_9_l : List.range (regOf Try.f4 9).size = [0, 1, 2] := by kernel_rfl
theorem R4_16_l : List.range (regOf Try.f4 16).size = [0, 1] := by kernel_rfl
theorem R4_17_l : List.range (regOf Try.f4 17).size = [0, 1] := by kernel_rfl
theorem R4_18_l : List.range (regOf Try.f4 18).size = [0, 1, 2, 3, 4, 5, 6] := by kernel_rfl
theorem R4_19_l : List.range (regOf Try.f4 19).size = [0, 1, 2, 3, 4, 5, 6, 7, 8, 9, 10, 11, 12, 13, 14, 15, 16] := by kernel_rfl
theorem body4 : Try.f4.body = some (.seq (.region 0 (regOf Try.f4 0) false) (.seq (.region 1 (regOf Try.f4 1) false) (.seq (.region 2 (regOf Try.f4 2) false) (.seq (.region 3 (regOf Try.f4 3) false) (.seq (.region 4 (regOf Try.f4 4) false) (.seq (.seq (.region 5 (regOf Try.f4 5) false) (.cond (Operand.tmp 45) (.seq (.region 6 (regOf Try.f4 6) false) (.ret)) (.skip))) (.seq (.seq (.region 7 (regOf Try.f4 7) false) (.block 0 (.loop (.seq (.seq (.region 8 (regOf Try.f4 8) false) (.cond (Operand.tmp 49) (.skip) (.exit 0))) (.seq (.block 1 (.seq (.region 10 (regOf Try.f4 10) false) (.seq (.region 11 (regOf Try.f4 11) false) (.seq (.seq (.region 12 (regOf Try.f4 12) false) (.cond (Operand.tmp 58) (.region 13 (regOf Try.f4 13) false) (.skip))) (.seq (.region 14 (regOf Try.f4 14) false) (.cond (Operand.tmp 80) (.seq (.region 15 (regOf Try.f4 15) false) (.ret)) (.skip))))))) (.region 9 (regOf Try.f4 9) false)))))) (.seq (.seq (.region 16 (regOf Try.f4 16) false) (.cond (Operand.tmp 82) (.seq (.region 17 (regOf Try.f4 17) false) (.ret)) (.skip))) (.seq (.region 18 (regOf Try.f4 18) false) (.seq (.region 19 (regOf Try.f4 19) false) (.ret))))))))))) := by kernel_rfl
theorem p4_0_0 : pj (regOf Try.f4 0) 0 = some (some 4, .assign (.const (.bool false)), 4, none) := by kernel_rfl
theorem p4_1_0 : pj (regOf Try.f4 1) 0 = some (some 16, .move (.tmp 0), 27, none) := by kernel_rfl
theorem p4_1_1 : pj (regOf Try.f4 1) 1 = some (some 17, .call { callee := .value (.func 16), args := #[.tmp 16], argTypes := #[27] }, 23, none) := by kernel_rfl
theorem cl16 : callable Try.f16 = true := by kernel_rfl
theorem p4_1_2 : pj (regOf Try.f4 1) 2 = some (some 5, .assign (.tmp 17), 23, none) := by kernel_rfl
theorem p4_2_0 : pj (regOf Try.f4 2) 0 = some (some 18, .move (.tmp 5), 23, none) := by kernel_rfl
theorem p4_2_1 : pj (regOf Try.f4 2) 1 = some (some 19, .call { callee := .value (.func 12), args := #[.tmp 18], argTypes := #[23] }, 27, none) := by kernel_rfl
theorem cl12 : callable Try.f12 = true := by kernel_rfl
theorem p4_2_2 : pj (regOf Try.f4 2) 2 = some (some 6, .assign (.tmp 19), 27, none) := by kernel_rfl
theorem p4_3_0 : pj (regOf Try.f4 3) 0 = some (some 21, .move (.tmp 5), 23, none) := by kernel_rfl
theorem p4_3_1 : pj (regOf Try.f4 3) 1 = some (some 22, .call { callee := .value (.func 14), args := #[.tmp 21], argTypes := #[23] }, 33, none) := by kernel_rfl
theorem cl14 : callable Try.f14 = true := by kernel_rfl
theorem p4_3_2 : pj (regOf Try.f4 3) 2 = some (some 20, .move (.tmp 22), 33, none) := by kernel_rfl
theorem p4_3_3 : pj (regOf Try.f4 3) 3 = some (some 23, .extract (.tmp 20) 0, 22, none) := by kernel_rfl
theorem p4_3_4 : pj (regOf Try.f4 3) 4 = some (some 24, .extract (.tmp 20) 1, 24, none) := by kernel_rfl
theorem p4_3_5 : pj (regOf Try.f4 3) 5 = some (some 7, .assign (.tmp 23), 22, none) := by kernel_rfl
theorem p4_3_6 : pj (regOf Try.f4 3) 6 = some (some 8, .assign (.tmp 24), 24, none) := by kernel_rfl
theorem p4_4_0 : pj (regOf Try.f4 4) 0 = some (some 26, .move (.tmp 6), 27, none) := by kernel_rfl
theorem p4_4_1 : pj (regOf Try.f4 4) 1 = some (some 27, .call { callee := .value (.func 17), args := #[.tmp 26], argTypes := #[27] }, 38, none) := by kernel_rfl
theorem cl17 : callable Try.f17 = true := by kernel_rfl
theorem p4_4_2 : pj (regOf Try.f4 4) 2 = some (some 25, .move (.tmp 27), 38, none) := by kernel_rfl
theorem p4_4_3 : pj (regOf Try.f4 4) 3 = some (some 28, .extract (.tmp 25) 0, 22, none) := by kernel_rfl
theorem p4_4_4 : pj (regOf Try.f4 4) 4 = some (some 29, .extract (.tmp 25) 1, 3, none) := by kernel_rfl
theorem p4_4_5 : pj (regOf Try.f4 4) 5 = some (some 9, .assign (.tmp 28), 22, none) := by kernel_rfl
theorem p4_4_6 : pj (regOf Try.f4 4) 6 = some (some 10, .assign (.tmp 29), 3, none) := by kernel_rfl
theorem p4_5_0 : pj (regOf Try.f4 5) 0 = some (some 30, .move (.tmp 8), 24, none) := by kernel_rfl
theorem p4_5_1 : pj (regOf Try.f4 5) 1 = some (some 31, .move (.tmp 10), 3, none) := by kernel_rfl
theorem p4_5_2 : pj (regOf Try.f4 5) 2 = some (some 32, .binOp .neq 3 (.tmp 30) (.tmp 31) 3, 4, none) := by kernel_rfl
theorem p4_5_3 : pj (regOf Try.f4 5) 3 = some (some 33, .move (.tmp 32), 4, none) := by kernel_rfl
theorem p4_5_4 : pj (regOf Try.f4 5) 4 = some (some 34, .move (.tmp 7), 22, some (3, false)) := by kernel_rfl
theorem g4_5_3 : dstOf (regOf Try.f4 5) 3 = some 33 := by kernel_rfl
theorem p4_5_5 : pj (regOf Try.f4 5) 5 = some (some 35, .move (.tmp 9), 22, some (3, false)) := by kernel_rfl
theorem p4_5_6 : pj (regOf Try.f4 5) 6 = some (some 36, .call { callee := .value (.func 15), args := #[.tmp 34, .tmp 35], argTypes := #[22, 22] }, 4, some (3, false)) := by kernel_rfl
theorem cl15 : callable Try.f15 = true := by kernel_rfl
theorem p4_5_7 : pj (regOf Try.f4 5) 7 = some (some 37, .unOp .not 4 (.tmp 36), 4, some (3, false)) := by kernel_rfl
theorem p4_5_8 : pj (regOf Try.f4 5) 8 = some (some 38, .pick (.tmp 33) (.const (.bool true)) (.tmp 37), 4, none) := by kernel_rfl
theorem p4_5_9 : pj (regOf Try.f4 5) 9 = some (some 39, .move (.tmp 38), 4, none) := by kernel_rfl
theorem p4_5_10 : pj (regOf Try.f4 5) 10 = some (some 40, .move (.tmp 1), 3, some (9, false)) := by kernel_rfl
theorem g4_5_9 : dstOf (regOf Try.f4 5) 9 = some 39 := by kernel_rfl
theorem p4_5_11 : pj (regOf Try.f4 5) 11 = some (some 41, .call { callee := .value (.func 18), args := #[.tmp 40], argTypes := #[3] }, 9, some (9, false)) := by kernel_rfl
theorem cl18 : callable Try.f18 = true := by kernel_rfl
theorem p4_5_12 : pj (regOf Try.f4 5) 12 = some (some 42, .move (.tmp 1), 3, some (9, false)) := by kernel_rfl
theorem p4_5_13 : pj (regOf Try.f4 5) 13 = some (some 43, .call { callee := .value (.func 19), args := #[.tmp 42], argTypes := #[3] }, 9, some (9, false)) := by kernel_rfl
theorem cl19 : callable Try.f19 = true := by kernel_rfl
theorem p4_5_14 : pj (regOf Try.f4 5) 14 = some (some 44, .binOp .neq 9 (.tmp 41) (.tmp 43) 9, 4, some (9, false)) := by kernel_rfl
theorem p4_5_15 : pj (regOf Try.f4 5) 15 = some (some 45, .pick (.tmp 39) (.const (.bool true)) (.tmp 44), 4, none) := by kernel_rfl
theorem p4_7_0 : pj (regOf Try.f4 7) 0 = some (some 11, .assign (.const (.int .i64 0)), 3, none) := by kernel_rfl
theorem p4_8_0 : pj (regOf Try.f4 8) 0 = some (some 46, .move (.tmp 11), 3, none) := by kernel_rfl
theorem p4_8_1 : pj (regOf Try.f4 8) 1 = some (some 47, .move (.tmp 5), 23, none) := by kernel_rfl
theorem p4_8_2 : pj (regOf Try.f4 8) 2 = some (some 48, .call { callee := .builtin .len, args := #[.tmp 47], argTypes := #[23] }, 3, none) := by kernel_rfl
theorem p4_8_3 : pj (regOf Try.f4 8) 3 = some (some 49, .binOp .lss 3 (.tmp 46) (.tmp 48) 3, 4, none) := by kernel_rfl
theorem p4_10_0 : pj (regOf Try.f4 10) 0 = some (some 52, .move (.tmp 6), 27, none) := by kernel_rfl
theorem p4_10_1 : pj (regOf Try.f4 10) 1 = some (some 53, .move (.tmp 11), 3, none) := by kernel_rfl
theorem p4_10_2 : pj (regOf Try.f4 10) 2 = some (some 54, .indexAddr 27 (.tmp 52) (.tmp 53), 0, none) := by kernel_rfl
theorem tS45 : (Try.prog.info? 45).map (·.size) = some 19 := by kernel_rfl
theorem p4_10_3 : pj (regOf Try.f4 10) 3 = some (some 55, .load 45 (.tmp 54), 45, none) := by kernel_rfl
theorem tA45 : (Try.prog.underlying 45).map aggD = some true := by kernel_rfl
theorem p4_10_4 : pj (regOf Try.f4 10) 4 = some (some 56, .call { callee := .value (.func 20), args := #[.tmp 55], argTypes := #[45] }, 3, none) := by kernel_rfl
theorem cl20 : callable Try.f20 = true := by kernel_rfl
theorem p4_10_5 : pj (regOf Try.f4 10) 5 = some (some 12, .assign (.tmp 56), 3, none) := by kernel_rfl
theorem p4_11_0 : pj (regOf Try.f4 11) 0 = some (some 13, .assign (.const (.int .i64 0)), 3, none) := by kernel_rfl
theorem p4_12_0 : pj (regOf Try.f4 12) 0 = some (some 57, .move (.tmp 12), 3, none) := by kernel_rfl
theorem p4_12_1 : pj (regOf Try.f4 12) 1 = some (some 58, .binOp .eql 3 (.tmp 57) (.const (.int .i64 0)) 3, 4, none) := by kernel_rfl
theorem p4_13_0 : pj (regOf Try.f4 13) 0 = some (some 59, .move (.tmp 6), 27, none) := by kernel_rfl
theorem p4_13_1 : pj (regOf Try.f4 13) 1 = some (some 60, .move (.tmp 11), 3, none) := by kernel_rfl
theorem p4_13_2 : pj (regOf Try.f4 13) 2 = some (some 61, .indexAddr 27 (.tmp 59) (.tmp 60), 0, none) := by kernel_rfl
theorem p4_13_3 : pj (regOf Try.f4 13) 3 = some (some 62, .load 45 (.tmp 61), 45, none) := by kernel_rfl
theorem p4_13_4 : pj (regOf Try.f4 13) 4 = some (some 63, .call { callee := .value (.func 21), args := #[.tmp 62], argTypes := #[45] }, 22, none) := by kernel_rfl
theorem cl21 : callable Try.f21 = true := by kernel_rfl
theorem p4_13_5 : pj (regOf Try.f4 13) 5 = some (some 64, .call { callee := .builtin .len, args := #[.tmp 63], argTypes := #[22] }, 3, none) := by kernel_rfl
theorem p4_13_6 : pj (regOf Try.f4 13) 6 = some (some 13, .assign (.tmp 64), 3, none) := by kernel_rfl
theorem p4_14_0 : pj (regOf Try.f4 14) 0 = some (some 65, .move (.tmp 5), 23, none) := by kernel_rfl
theorem p4_14_1 : pj (regOf Try.f4 14) 1 = some (some 66, .move (.tmp 11), 3, none) := by kernel_rfl
theorem p4_14_2 : pj (regOf Try.f4 14) 2 = some (some 67, .indexAddr 23 (.tmp 65) (.tmp 66), 0, none) := by kernel_rfl
theorem tS50 : (Try.prog.info? 50).map (·.size) = some 19 := by kernel_rfl
theorem p4_14_3 : pj (regOf Try.f4 14) 3 = some (some 68, .load 50 (.tmp 67), 50, none) := by kernel_rfl
theorem tA50 : (Try.prog.underlying 50).map aggD = some true := by kernel_rfl
theorem p4_14_4 : pj (regOf Try.f4 14) 4 = some (some 69, .call { callee := .value (.func 22), args := #[.tmp 68], argTypes := #[50] }, 24, none) := by kernel_rfl
theorem cl22 : callable Try.f22 = true := by kernel_rfl
theorem p4_14_5 : pj (regOf Try.f4 14) 5 = some (some 70, .move (.tmp 12), 3, none) := by kernel_rfl
theorem p4_14_6 : pj (regOf Try.f4 14) 6 = some (some 71, .binOp .neq 3 (.tmp 69) (.tmp 70) 3, 4, none) := by kernel_rfl
theorem p4_14_7 : pj (regOf Try.f4 14) 7 = some (some 72, .move (.tmp 71), 4, none) := by kernel_rfl
theorem p4_14_8 : pj (regOf Try.f4 14) 8 = some (some 73, .move (.tmp 5), 23, some (7, false)) := by kernel_rfl
theorem g4_14_7 : dstOf (regOf Try.f4 14) 7 = some 72 := by kernel_rfl
theorem p4_14_9 : pj (regOf Try.f4 14) 9 = some (some 74, .move (.tmp 11), 3, some (7, false)) := by kernel_rfl
theorem p4_14_10 : pj (regOf Try.f4 14) 10 = some (some 75, .indexAddr 23 (.tmp 73) (.tmp 74), 0, some (7, false)) := by kernel_rfl
theorem p4_14_11 : pj (regOf Try.f4 14) 11 = some (some 76, .load 50 (.tmp 75), 50, some (7, false)) := by kernel_rfl
theorem p4_14_12 : pj (regOf Try.f4 14) 12 = some (some 77, .call { callee := .value (.func 23), args := #[.tmp 76], argTypes := #[50] }, 3, some (7, false)) := by kernel_rfl
theorem cl23 : callable Try.f23 = true := by kernel_rfl
theorem p4_14_13 : pj (regOf Try.f4 14) 13 = some (some 78, .move (.tmp 13), 3, some (7, false)) := by kernel_rfl
theorem p4_14_14 : pj (regOf Try.f4 14) 14 = some (some 79, .binOp .neq 3 (.tmp 77) (.tmp 78) 3, 4, some (7, false)) := by kernel_rfl
theorem p4_14_15 : pj (regOf Try.f4 14) 15 = some (some 80, .pick (.tmp 72) (.const (.bool true)) (.tmp 79), 4, none) := by kernel_rfl
theorem p4_9_0 : pj (regOf Try.f4 9) 0 = some (some 50, .move (.tmp 11), 3, none) := by kernel_rfl
theorem p4_9_1 : pj (regOf Try.f4 9) 1 = some (some 51, .binOp .add 3 (.tmp 50) (.const (.int .i64 1)) 3, 3, none) := by kernel_rfl
theorem p4_9_2 : pj (regOf Try.f4 9) 2 = some (some 11, .assign (.tmp 51), 3, none) := by kernel_rfl
theorem p4_16_0 : pj (regOf Try.f4 16) 0 = some (some 81, .move (.tmp 10), 3, none) := by kernel_rfl
theorem p4_16_1 : pj (regOf Try.f4 16) 1 = some (some 82, .binOp .neq 3 (.tmp 81) (.const (.int .i64 0)) 3, 4, none) := by kernel_rfl
theorem p4_18_0 : pj (regOf Try.f4 18) 0 = some (some 85, .move (.tmp 7), 22, none) := by kernel_rfl
theorem p4_18_1 : pj (regOf Try.f4 18) 1 = some (some 86, .call { callee := .value (.func 9), args := #[.tmp 85], argTypes := #[22] }, 25, none) := by kernel_rfl
theorem cl9 : callable Try.f9 = true := by kernel_rfl
theorem p4_18_2 : pj (regOf Try.f4 18) 2 = some (some 84, .move (.tmp 86), 25, none) := by kernel_rfl
theorem p4_18_3 : pj (regOf Try.f4 18) 3 = some (some 87, .extract (.tmp 84) 0, 23, none) := by kernel_rfl
theorem p4_18_4 : pj (regOf Try.f4 18) 4 = some (some 88, .extract (.tmp 84) 1, 24, none) := by kernel_rfl
theorem p4_18_5 : pj (regOf Try.f4 18) 5 = some (some 14, .assign (.tmp 87), 23, none) := by kernel_rfl
theorem p4_18_6 : pj (regOf Try.f4 18) 6 = some (some 15, .assign (.tmp 88), 24, none) := by kernel_rfl
theorem p4_19_0 : pj (regOf Try.f4 19) 0 = some (some 89, .call { callee := .value (.func 13), args := #[], argTypes := #[] }, 4, none) := by kernel_rfl
theorem cl13 : callable Try.f13 = true := by kernel_rfl
theorem p4_19_1 : pj (regOf Try.f4 19) 1 = some (some 90, .move (.tmp 89), 4, none) := by kernel_rfl
theorem p4_19_2 : pj (regOf Try.f4 19) 2 = some (some 91, .move (.tmp 15), 24, some (1, true)) := by kernel_rfl
theorem g4_19_1 : dstOf (regOf Try.f4 19) 1 = some 90 := by kernel_rfl
theorem p4_19_3 : pj (regOf Try.f4 19) 3 = some (some 92, .binOp .eql 24 (.tmp 91) (.const (.int .i64 0)) 24, 4, some (1, true)) := by kernel_rfl
theorem p4_19_4 : pj (regOf Try.f4 19) 4 = some (some 93, .pick (.tmp 90) (.tmp 92) (.const (.bool false)), 4, none) := by kernel_rfl
theorem p4_19_5 : pj (regOf Try.f4 19) 5 = some (some 94, .move (.tmp 93), 4, none) := by kernel_rfl
theorem p4_19_6 : pj (regOf Try.f4 19) 6 = some (some 95, .move (.tmp 14), 23, some (5, true)) := by kernel_rfl
theorem g4_19_5 : dstOf (regOf Try.f4 19) 5 = some 94 := by kernel_rfl
theorem p4_19_7 : pj (regOf Try.f4 19) 7 = some (some 96, .call { callee := .value (.func 12), args := #[.tmp 95], argTypes := #[23] }, 27, some (5, true)) := by kernel_rfl
theorem p4_19_8 : pj (regOf Try.f4 19) 8 = some (some 97, .move (.tmp 6), 27, some (5, true)) := by kernel_rfl
theorem p4_19_9 : pj (regOf Try.f4 19) 9 = some (some 98, .call { callee := .value (.func 11), args := #[.tmp 96, .tmp 97], argTypes := #[27, 27] }, 4, some (5, true)) := by kernel_rfl
theorem cl11 : callable Try.f11 = true := by kernel_rfl
theorem p4_19_10 : pj (regOf Try.f4 19) 10 = some (some 99, .pick (.tmp 94) (.tmp 98) (.const (.bool false)), 4, none) := by kernel_rfl
theorem p4_19_11 : pj (regOf Try.f4 19) 11 = some (some 100, .move (.tmp 99), 4, none) := by kernel_rfl
theorem p4_19_12 : pj (regOf Try.f4 19) 12 = some (some 101, .move (.tmp 14), 23, some (11, true)) := by kernel_rfl
theorem g4_19_11 : dstOf (regOf Try.f4 19) 11 = some 100 := by kernel_rfl
theorem p4_19_13 : pj (regOf Try.f4 19) 13 = some (some 102, .move (.tmp 5), 23, some (11, true)) := by kernel_rfl
theorem p4_19_14 : pj (regOf Try.f4 19) 14 = some (some 103, .call { callee := .value (.func 24), args := #[.tmp 101, .tmp 102], argTypes := #[23, 23] }, 4, some (11, true)) := by kernel_rfl
theorem cl24 : callable Try.f24 = true := by kernel_rfl
theorem p4_19_15 : pj (regOf Try.f4 19) 15 = some (some 104, .pick (.tmp 100) (.tmp 103) (.const (.bool false)), 4, none) := by kernel_rfl
theorem p4_19_16 : pj (regOf Try.f4 19) 16 = some (some 4, .assign (.tmp 104), 4, none) := by kernel_rfl
theorem p4_17_0 : pj (regOf Try.f4 17) 0 = some (some 83, .call { callee := .value (.func 13), args := #[], argTypes := #[] }, 4, none) := by kernel_rfl
theorem p4_17_1 : pj (regOf Try.f4 17) 1 = some (some 4, .assign (.tmp 83), 4, none) := by kernel_rfl
set_option maxHeartbeats 4000000 in
theorem walk (a0 : Option Addr) (cap0 : Nat) (z0 : List (Int × (List Int) × (List Int) × (List Int))) (a1 : Int) (w : World) (w0 : Kd.C dO w a0 z0.length z0) (m0 : z0.length ≤ cap0) (o0 : (z0.length ≤ maxLen ∧ ∀ x0 ∈ z0, ((Lit.int .i64 x0.1).wf = true ∧ ((x0.2.1.length ≤ maxLen ∧ ∀ x1 ∈ x0.2.1, (Lit.int .i64 x1).wf = true) ∧ ((x0.2.2.1.length = 16 ∧ ∀ x1 ∈ x0.2.2.1, (Lit.int .u8 x1).wf = true) ∧ ((x0.2.2.2.length ≤ maxLen ∧ ∀ x1 ∈ x0.2.2.2, (Lit.int .u8 x1).wf = true))))))) (y0 : z0.length * Try.prog.bytesOf 45 ≤ 140737488351232) (w1 : (Lit.int .i64 a1).wf = true) : Calls Try.prog 4 #[.slice a0 z0.length cap0, .int .i64 a1] w fun e w' => e = .returned (.bool true) ∧ Below w.heap.size w w' := by
 have K_0 := Kp.refl w (fun _ => False)
 have hTf := toL_fine (okZ_of o0)
 have hT20 : (toL z0).length ≤ 20 := by unfold toL; rw [List.length_map, List.length_take]; omega
 have hbX := encB_bd (toL z0) (.inr trivial)
 refine enter (args := [Value.slice a0 z0.length cap0, Value.int .i64 a1]) (n := 105) Try.func4 body4 rfl rfl rfl ?_
 intro a hE
 refine c_reg R4_0_l ?_
 refine q0 p4_0_0 hE (st_assign rfl) ?_; clear hE a; intro a hE
 refine p_nil (x_norm (c_reg R4_1_l ?_))
 refine q0 p4_1_0 hE (st_move rfl) ?_; clear hE a; intro a hE
 refine p_cons (s_call (xs := [Operand.tmp 16]) (args := [Value.slice a0 z0.length cap0]) p4_1_1 hE wn_none rfl rfl Try.func16 cl16 (to_any a0 cap0 z0 _ (C_to w0 K_0) m0 o0.1) ?_)
 rintro e w4 ⟨A1, c2, rfl, hcapf3, hF9, hk⟩
 replace K_0 := K_0.then_ hk (fun _ h => h.elim)
 have K_s5 := Kp.refl w4 (fun _ => False)
 have hRf3 := hF9 _ (Kp.refl _ _)
 refine ⟨_, rfl, ?_⟩; clear hE a; intro a hE
 refine q0 p4_1_2 hE (st_assign rfl) ?_; clear hE a; intro a hE
 refine p_nil (x_norm (c_reg R4_2_l ?_))
 refine q0 p4_2_0 hE (st_move rfl) ?_; clear hE a; intro a hE
 refine p_cons (s_call (xs := [Operand.tmp 18]) (args := [Value.slice A1 ((toL z0).length) c2]) p4_2_1 hE wn_none rfl rfl Try.func12 cl12 (of_same A1 c2 (toL z0) (toL_of z0) _ (C_to hRf3 K_s5) hcapf3 (by omega)) ?_)
 rintro e w9 ⟨A6, c7, rfl, hcapf8, hF9, hk⟩
 replace K_0 := K_0.then_ hk (fun _ h => h.elim)
 replace K_s5 := K_s5.then_ hk (fun _ h => h.elim)
 have K_s10 := Kp.refl w9 (fun _ => False)
 have hRf8 := hF9 _ (Kp.refl _ _)
 refine ⟨_, rfl, ?_⟩; clear hE a; intro a hE
 refine q0 p4_2_2 hE (st_assign rfl) ?_; clear hE a; intro a hE
 refine p_nil (x_norm (c_reg R4_3_l ?_))
 refine q0 p4_3_0 hE (st_move rfl) ?_; clear hE a; intro a hE
 refine p_cons (s_call (xs := [Operand.tmp 21]) (args := [Value.slice A1 ((toL z0).length) c2]) p4_3_1 hE wn_none rfl rfl Try.func14 cl14 (enc_anyS A1 c2 (toL z0) _ (C_to hRf3 K_s5) (by omega)) ?_)
 rintro e w14 ⟨A11, c12, rfl, hcapf13, hF9, hk⟩
 replace K_0 := K_0.then_ hk (fun _ h => h.elim)
 replace K_s5 := K_s5.then_ hk (fun _ h => h.elim)
 replace K_s10 := K_s10.then_ hk (fun _ h => h.elim)
 have K_s15 := Kp.refl w14 (fun _ => False)
 have hRf13 := hF9 _ (Kp.refl _ _)
 refine ⟨_, rfl, ?_⟩; clear hE a; intro a hE
 refine q0 p4_3_2 hE (st_move rfl) ?_; clear hE a; intro a hE
 refine q0 p4_3_3 hE (st_extract rfl rfl) ?_; clear hE a; intro a hE
 refine q0 p4_3_4 hE (st_extract rfl rfl) ?_; clear hE a; intro a hE
 refine q0 p4_3_5 hE (st_assign rfl) ?_; clear hE a; intro a hE
 refine q0 p4_3_6 hE (st_assign rfl) ?_; clear hE a; intro a hE
 refine p_nil (x_norm (c_reg R4_4_l ?_))
 refine q0 p4_4_0 hE (st_move rfl) ?_; clear hE a; intro a hE
 refine p_cons (s_call (xs := [Operand.tmp 26]) (args := [Value.slice A6 ((toL z0).length) c7]) p4_4_1 hE wn_none rfl rfl Try.func17 cl17 (renc_all A6 c7 (toL z0) (fun x hx => (hTf x hx).1) _ (C_to hRf8 K_s10) (by omega)) ?_)
 rintro e w19 ⟨A16, c17, rfl, hcapf18, hF9, hk⟩
 replace K_0 := K_0.then_ hk (fun _ h => h.elim)
 replace K_s5 := K_s5.then_ hk (fun _ h => h.elim)
 replace K_s10 := K_s10.then_ hk (fun _ h => h.elim)
 replace K_s15 := K_s15.then_ hk (fun _ h => h.elim)
 have K_s20 := Kp.refl w19 (fun _ => False)
 have hRf18 := hF9 _ (Kp.refl _ _)
 refine ⟨_, rfl, ?_⟩; clear hE a; intro a hE
 refine q0 p4_4_2 hE (st_move rfl) ?_; clear hE a; intro a hE
 refine q0 p4_4_3 hE (st_extract rfl rfl) ?_; clear hE a; intro a hE
 refine q0 p4_4_4 hE (st_extract rfl rfl) ?_; clear hE a; intro a hE
 refine q0 p4_4_5 hE (st_assign rfl) ?_; clear hE a; intro a hE
 refine q0 p4_4_6 hE (st_assign rfl) ?_; clear hE a; intro a hE
 refine p_nil (x_norm (wp_seq (c_reg R4_5_l ?_)))
 refine q0 p4_5_0 hE (st_move rfl) ?_; clear hE a; intro a hE
 refine q0 p4_5_1 hE (st_move rfl) ?_; clear hE a; intro a hE
 refine q0 p4_5_2 hE (st_neq (b := false) rfl rfl (by simp)) ?_; clear hE a; intro a hE
 refine q0 p4_5_3 hE (st_move rfl) ?_; clear hE a; intro a hE
 refine p_cons (s_still p4_5_4 hE (wn_some g4_5_3 rfl rfl) rfl (st_move rfl) ?_); clear hE a; intro a hE
 refine p_cons (s_still p4_5_5 hE (wn_some g4_5_3 rfl rfl) rfl (st_move rfl) ?_); clear hE a; intro a hE
 refine p_cons (s_call (xs := [Operand.tmp 34, Operand.tmp 35]) (args := [Value.slice A11 ((encB (toL z0)).length) c12, Value.slice A16 ((encB (toL z0)).length) c17]) p4_5_6 hE (wn_some g4_5_3 rfl rfl) rfl rfl Try.func15 cl15 (Go.Proofs.Ytgpclehnomkbmaa.Pk.same_any A11 A16 c12 c17 (encB (toL z0)) (encB (toL z0)) true (decide_eq_true rfl) _ (C_to hRf13 K_s15) hcapf13.1 (C_to hRf18 K_s20) hcapf18 (by omega)) ?_)
 rintro e w21 ⟨rfl, hn⟩
 have hk := kp_n hn (fun _ => False)
 replace K_0 := K_0.then_ hk (fun _ h => h.elim)
 replace K_s5 := K_s5.then_ hk (fun _ h => h.elim)
 replace K_s10 := K_s10.then_ hk (fun _ h => h.elim)
 replace K_s15 := K_s15.then_ hk (fun _ h => h.elim)
 replace K_s20 := K_s20.then_ hk (fun _ h => h.elim)
 refine ⟨_, rfl, ?_⟩; clear hE a; intro a hE
 refine p_cons (s_still p4_5_7 hE (wn_some g4_5_3 rfl rfl) rfl (st_not rfl rfl) ?_); clear hE a; intro a hE
 refine q0 p4_5_8 hE (st_pick rfl rfl) ?_; clear hE a; intro a hE
 refine q0 p4_5_9 hE (st_move rfl) ?_; clear hE a; intro a hE
 refine p_cons (s_still p4_5_10 hE (wn_some g4_5_9 rfl rfl) rfl (st_move rfl) ?_); clear hE a; intro a hE
 refine p_cons (s_call (xs := [Operand.tmp 40]) (args := [Value.int .i64 a1]) p4_5_11 hE (wn_some g4_5_9 rfl rfl) rfl rfl Try.func18 cl18 (word_any a1 _) ?_)
 rintro e w22 ⟨rfl, hk⟩
 replace K_0 := K_0.then_ hk (fun _ h => h.elim)
 replace K_s5 := K_s5.then_ hk (fun _ h => h.elim)
 replace K_s10 := K_s10.then_ hk (fun _ h => h.elim)
 replace K_s15 := K_s15.then_ hk (fun _ h => h.elim)
 replace K_s20 := K_s20.then_ hk (fun _ h => h.elim)
 refine ⟨_, rfl, ?_⟩; clear hE a; intro a hE
 refine p_cons (s_still p4_5_12 hE (wn_some g4_5_9 rfl rfl) rfl (st_move rfl) ?_); clear hE a; intro a hE
 refine p_cons (s_call (xs := [Operand.tmp 42]) (args := [Value.int .i64 a1]) p4_5_13 hE (wn_some g4_5_9 rfl rfl) rfl rfl Try.func19 cl19 (rword_any a1 _) ?_)
 rintro e w23 ⟨rfl, hk⟩
 replace K_0 := K_0.then_ hk (fun _ h => h.elim)
 replace K_s5 := K_s5.then_ hk (fun _ h => h.elim)
 replace K_s10 := K_s10.then_ hk (fun _ h => h.elim)
 replace K_s15 := K_s15.then_ hk (fun _ h => h.elim)
 replace K_s20 := K_s20.then_ hk (fun _ h => h.elim)
 refine ⟨_, rfl, ?_⟩; clear hE a; intro a hE
 refine p_cons (s_still p4_5_14 hE (wn_some g4_5_9 rfl rfl) rfl (st_neqS0 rfl rfl) ?_); clear hE a; intro a hE
 refine q0 p4_5_15 hE (st_pick rfl rfl) ?_; clear hE a; intro a hE
 refine p_nil (x_norm ?_)
 refine c_cond (t := false) hE rfl ?_
 refine wp_skip (x_norm (wp_seq (c_reg R4_7_l ?_)))
 refine q0 p4_7_0 hE (st_assign rfl) ?_; clear hE a; intro a hE
 refine p_nil (x_norm (wp_block ?_))
 refine c_loop (α := Nat) (fun k a W => En 105 a [(0, Value.slice a0 z0.length cap0), (1, Value.int .i64 a1), (5, Value.slice A1 ((toL z0).length) c2), (6, Value.slice A6 ((toL z0).length) c7), (7, Value.slice A11 ((encB (toL z0)).length) c12), (8, Value.int .i64 (encE (toL z0))), (9, Value.slice A16 ((encB (toL z0)).length) c17), (10, Value.int .i64 (encE (toL z0))), (45, Value.bool false), (11, Value.int .i64 (k : Int))] ∧ k ≤ (toL z0).length ∧ Kp w W (fun _ => False) ∧ Kp w4 W (fun _ => False) ∧ Kp w9 W (fun _ => False) ∧ Kp w14 W (fun _ => False) ∧ Kp w19 W (fun _ => False)) (fun k => (toL z0).length - k) (0) ?_ ?_
 ·
  exact ⟨En.sub hE ⟨rfl, rfl, rfl, rfl, rfl, rfl, rfl, rfl, rfl, rfl, trivial⟩, Nat.zero_le _, K_0, K_s5, K_s10, K_s15, K_s20⟩
 ·
  clear hE a
  rintro k a w24 ⟨hE, hk9, K_0, K_s5, K_s10, K_s15, K_s20⟩
  refine wp_seq (c_reg R4_8_l ?_)
  refine q0 p4_8_0 hE (st_move rfl) ?_; clear hE a; intro a hE
  refine q0 p4_8_1 hE (st_move rfl) ?_; clear hE a; intro a hE
  refine q0 p4_8_2 hE (st_len Try.underlying23 rfl) ?_; clear hE a; intro a hE
  rcases Decidable.em ((k : Int) < ((toL z0).length : Int)) with hc25 | hc25
  ·
   refine p_cons (s_still (v := Value.bool true) p4_8_3 hE wn_none rfl (st_lss rfl rfl (decide_eq_true hc25)) ?_); clear hE a; intro a hE
   refine p_nil (x_norm ?_)
   refine c_cond (t := true) hE rfl ?_
   refine wp_skip (x_norm (wp_seq (wp_block (c_reg R4_10_l ?_))))
   have hkx : k < (toL z0).length := by omega
   obtain ⟨hAe26, cce26, hKe26, hce26⟩ := C_elem (i := k) hRf8 zO (show k < (toL z0).length by omega)
   obtain ⟨x, hxe26⟩ : ∃ x, List.getD (toL z0) k zO = x := ⟨_, rfl⟩
   rw [hxe26] at hKe26
   obtain ⟨Ae26, qe26, Te26, ce26, rfl, hle26, hme26, hCe26, hDe26⟩ := opt_open hKe26
   obtain ⟨hAe27, cce27, hKe27, hce27⟩ := C_elem (i := k) hRf3 zO (show k < (toL z0).length by omega)
   rw [hxe26] at hKe27
   obtain ⟨Ae27, qe27, Te27, ce27, rfl, hle27, hme27, hCe27, hDe27⟩ := opt_open hKe27
   have hfx := hTf x (by rw [← hxe26]; exact getD_memE hkx zO)
   refine q0 p4_10_0 hE (st_move rfl) ?_; clear hE a; intro a hE
   refine q0 p4_10_1 hE (st_move rfl) ?_; clear hE a; intro a hE
   refine q0 p4_10_2 hE (st_indexAddrR (i := k) (s := 19) Try.underlying27 tS45 hAe26 rfl rfl (by omega)) ?_; clear hE a; intro a hE
   refine q0 p4_10_3 hE (st_loadR (off := k * 19) (j := 0) (k := 19) (vs := ([Value.int .i64 x.1, Value.slice Ae26 x.2.1.length qe26] ++ b16 (adr x) ++ [Value.slice Te26 x.2.2.2.length ce26])) tA45 tS45 (fun j u h => cell_to K_s10 (hce26 j u h)) rfl rfl (by omega) rfl) ?_; clear hE a; intro a hE
   refine p_cons (s_call (xs := [Operand.tmp 55]) (args := [Value.agg (([Value.int .i64 x.1, Value.slice Ae26 x.2.1.length qe26] ++ b16 (adr x) ++ [Value.slice Te26 x.2.2.2.length ce26])).toArray]) p4_10_4 hE wn_none rfl rfl Try.func20 cl20 (rcheck_e x Ae26 Te26 qe26 ce26 hfx.1 _ (fun W' hk => C_to hCe26 (K_s10.then_ hk (fun _ h => h.elim)))) ?_)
   rintro e w28 ⟨rfl, hk⟩
   replace K_0 := K_0.then_ hk (fun _ h => h.elim)
   replace K_s5 := K_s5.then_ hk (fun _ h => h.elim)
   replace K_s10 := K_s10.then_ hk (fun _ h => h.elim)
   replace K_s15 := K_s15.then_ hk (fun _ h => h.elim)
   replace K_s20 := K_s20.then_ hk (fun _ h => h.elim)
   refine ⟨_, rfl, ?_⟩; clear hE a; intro a hE
   refine q0 p4_10_5 hE (st_assign rfl) ?_; clear hE a; intro a hE
   refine p_nil (x_norm (c_reg R4_11_l ?_))
   refine q0 p4_11_0 hE (st_assign rfl) ?_; clear hE a; intro a hE
   refine p_nil (x_norm (wp_seq (c_reg R4_12_l ?_)))
   refine q0 p4_12_0 hE (st_move rfl) ?_; clear hE a; intro a hE
   rcases Decidable.em ((chkV x) = 0) with hc29 | hc29
   ·
    refine p_cons (s_still (v := Value.bool true) p4_12_1 hE wn_none rfl (st_eql rfl rfl (decide_eq_true hc29)) ?_); clear hE a; intro a hE
    refine p_nil (x_norm ?_)
    refine c_cond (t := true) hE rfl ?_
    refine c_regL R4_13_l ?_
    refine q0 p4_13_0 hE (st_move rfl) ?_; clear hE a; intro a hE
    refine q0 p4_13_1 hE (st_move rfl) ?_; clear hE a; intro a hE
    refine q0 p4_13_2 hE (st_indexAddrR (i := k) (s := 19) Try.underlying27 tS45 hAe26 rfl rfl (by omega)) ?_; clear hE a; intro a hE
    refine q0 p4_13_3 hE (st_loadR (off := k * 19) (j := 0) (k := 19) (vs := ([Value.int .i64 x.1, Value.slice Ae26 x.2.1.length qe26] ++ b16 (adr x) ++ [Value.slice Te26 x.2.2.2.length ce26])) tA45 tS45 (fun j u h => cell_to K_s10 (hce26 j u h)) rfl rfl (by omega) rfl) ?_; clear hE a; intro a hE
    have hnz_0 := K_0.kept.1
    have hnz_s5 := K_s5.kept.1
    have hnz_s10 := K_s10.kept.1
    have hnz_s15 := K_s15.kept.1
    have hnz_s20 := K_s20.kept.1
    refine p_cons (s_call (xs := [Operand.tmp 62]) (args := [Value.agg (([Value.int .i64 x.1, Value.slice Ae26 x.2.1.length qe26] ++ b16 (adr x) ++ [Value.slice Te26 x.2.2.2.length ce26])).toArray]) p4_13_4 hE wn_none rfl rfl Try.func21 cl21 (renc_x x Ae26 Te26 qe26 ce26 hc29 _ (fun W' hk => C_to hCe26 (K_s10.then_ hk (fun _ h => h.elim))) (fun W' hk => C_to hDe26 (K_s10.then_ hk (fun _ h => h.elim)))) ?_)
    rintro e w33 ⟨A31, n9, c32, rfl, hn9, O_q30, hk⟩
    subst hn9
    replace K_0 := K_0.then_ hk (fun _ h => h.elim)
    replace K_s5 := K_s5.then_ hk (fun _ h => h.elim)
    replace K_s10 := K_s10.then_ hk (fun _ h => h.elim)
    replace K_s15 := K_s15.then_ hk (fun _ h => h.elim)
    replace K_s20 := K_s20.then_ hk (fun _ h => h.elim)
    have Z_0_q30 : ∀ k, OB A31 k → (fun _ => False) k ∨ w.heap.size ≤ k := fun k h => .inr (by have := (own_ob O_q30 h).1; have := hnz_0; omega)
    have Z_s5_q30 : ∀ k, OB A31 k → (fun _ => False) k ∨ w4.heap.size ≤ k := fun k h => .inr (by have := (own_ob O_q30 h).1; have := hnz_s5; omega)
    have Z_s10_q30 : ∀ k, OB A31 k → (fun _ => False) k ∨ w9.heap.size ≤ k := fun k h => .inr (by have := (own_ob O_q30 h).1; have := hnz_s10; omega)
    have Z_s15_q30 : ∀ k, OB A31 k → (fun _ => False) k ∨ w14.heap.size ≤ k := fun k h => .inr (by have := (own_ob O_q30 h).1; have := hnz_s15; omega)
    have Z_s20_q30 : ∀ k, OB A31 k → (fun _ => False) k ∨ w19.heap.size ≤ k := fun k h => .inr (by have := (own_ob O_q30 h).1; have := hnz_s20; omega)
    replace O_q30 := own_lower O_q30 hnz_0
    refine ⟨_, rfl, ?_⟩; clear hE a; intro a hE
    refine q0 p4_13_5 hE (st_len Try.underlying22 rfl) ?_; clear hE a; intro a hE
    refine q0 p4_13_6 hE (st_assign rfl) ?_; clear hE a; intro a hE
    refine p_nil (x_norm (c_reg R4_14_l ?_))
    refine q0 p4_14_0 hE (st_move rfl) ?_; clear hE a; intro a hE
    refine q0 p4_14_1 hE (st_move rfl) ?_; clear hE a; intro a hE
    refine q0 p4_14_2 hE (st_indexAddrR (i := k) (s := 19) Try.underlying23 tS50 hAe27 rfl rfl (by omega)) ?_; clear hE a; intro a hE
    refine q0 p4_14_3 hE (st_loadR (off := k * 19) (j := 0) (k := 19) (vs := ([Value.int .i64 x.1, Value.slice Ae27 x.2.1.length qe27] ++ b16 (adr x) ++ [Value.slice Te27 x.2.2.2.length ce27])) tA50 tS50 (fun j u h => cell_to K_s5 (hce27 j u h)) rfl rfl (by omega) rfl) ?_; clear hE a; intro a hE
    refine p_cons (s_call (xs := [Operand.tmp 68]) (args := [Value.agg (([Value.int .i64 x.1, Value.slice Ae27 x.2.1.length qe27] ++ b16 (adr x) ++ [Value.slice Te27 x.2.2.2.length ce27])).toArray]) p4_14_4 hE wn_none rfl rfl Try.func22 cl22 (check_x x Ae27 Te27 qe27 ce27 _ (fun W' hk => C_to hCe27 (K_s5.then_ hk (fun _ h => h.elim)))) ?_)
    rintro e w34 ⟨rfl, hk⟩
    replace O_q30 := own_keep O_q30 hk (fun _ _ h => h)
    replace K_0 := K_0.then_ hk (fun _ h => h.elim)
    replace K_s5 := K_s5.then_ hk (fun _ h => h.elim)
    replace K_s10 := K_s10.then_ hk (fun _ h => h.elim)
    replace K_s15 := K_s15.then_ hk (fun _ h => h.elim)
    replace K_s20 := K_s20.then_ hk (fun _ h => h.elim)
    refine ⟨_, rfl, ?_⟩; clear hE a; intro a hE
    refine q0 p4_14_5 hE (st_move rfl) ?_; clear hE a; intro a hE
    refine q0 p4_14_6 hE (st_neq (b := false) rfl rfl (by simp)) ?_; clear hE a; intro a hE
    refine q0 p4_14_7 hE (st_move rfl) ?_; clear hE a; intro a hE
    refine p_cons (s_still p4_14_8 hE (wn_some g4_14_7 rfl rfl) rfl (st_move rfl) ?_); clear hE a; intro a hE
    refine p_cons (s_still p4_14_9 hE (wn_some g4_14_7 rfl rfl) rfl (st_move rfl) ?_); clear hE a; intro a hE
    refine p_cons (s_still p4_14_10 hE (wn_some g4_14_7 rfl rfl) rfl (st_indexAddrR (i := k) (s := 19) Try.underlying23 tS50 hAe27 rfl rfl (by omega)) ?_); clear hE a; intro a hE
    refine p_cons (s_still p4_14_11 hE (wn_some g4_14_7 rfl rfl) rfl (st_loadR (off := k * 19) (j := 0) (k := 19) (vs := ([Value.int .i64 x.1, Value.slice Ae27 x.2.1.length qe27] ++ b16 (adr x) ++ [Value.slice Te27 x.2.2.2.length ce27])) tA50 tS50 (fun j u h => cell_to K_s5 (hce27 j u h)) rfl rfl (by omega) rfl) ?_); clear hE a; intro a hE
    refine p_cons (s_call (xs := [Operand.tmp 76]) (args := [Value.agg (([Value.int .i64 x.1, Value.slice Ae27 x.2.1.length qe27] ++ b16 (adr x) ++ [Value.slice Te27 x.2.2.2.length ce27])).toArray]) p4_14_12 hE (wn_some g4_14_7 rfl rfl) rfl rfl Try.func23 cl23 (size_x x Ae27 Te27 qe27 ce27 _ (fun W' hk => C_to hCe27 (K_s5.then_ hk (fun _ h => h.elim))) (fun W' hk => C_to hDe27 (K_s5.then_ hk (fun _ h => h.elim)))) ?_)
    rintro e w35 ⟨rfl, hk⟩
    replace O_q30 := own_keep O_q30 hk (fun _ _ h => h)
    replace K_0 := K_0.then_ hk (fun _ h => h.elim)
    replace K_s5 := K_s5.then_ hk (fun _ h => h.elim)
    replace K_s10 := K_s10.then_ hk (fun _ h => h.elim)
    replace K_s15 := K_s15.then_ hk (fun _ h => h.elim)
    replace K_s20 := K_s20.then_ hk (fun _ h => h.elim)
    refine ⟨_, rfl, ?_⟩; clear hE a; intro a hE
    refine p_cons (s_still p4_14_13 hE (wn_some g4_14_7 rfl rfl) rfl (st_move rfl) ?_); clear hE a; intro a hE
    refine p_cons (s_still p4_14_14 hE (wn_some g4_14_7 rfl rfl) rfl (st_neq (b := false) rfl rfl (by unfold szO; rw [if_pos hc29]; simp)) ?_); clear hE a; intro a hE
    refine q0 p4_14_15 hE (st_pick rfl rfl) ?_; clear hE a; intro a hE
    refine p_nil (x_norm ?_)
    refine c_cond (t := false) hE rfl ?_
    refine wp_skip (x_normB (x_norm (c_regL R4_9_l ?_)))
    refine q0 p4_9_0 hE (st_move rfl) ?_; clear hE a; intro a hE
    refine q0 p4_9_1 hE (st_add (z := (k : Int) + 1) rfl rfl (wr_i64 _ (by omega) (by omega))) ?_; clear hE a; intro a hE
    refine q0 p4_9_2 hE (st_assign rfl) ?_; clear hE a; intro a hE
    refine p_nil (x_norm ?_)
    exact ⟨k + 1, by omega, En.sub hE ⟨rfl, rfl, rfl, rfl, rfl, rfl, rfl, rfl, rfl, rfl, trivial⟩, (by omega), K_0, K_s5, K_s10, K_s15, K_s20⟩
   ·
    refine p_cons (s_still (v := Value.bool false) p4_12_1 hE wn_none rfl (st_eql rfl rfl (decide_eq_false hc29)) ?_); clear hE a; intro a hE
    refine p_nil (x_norm ?_)
    refine c_cond (t := false) hE rfl ?_
    refine wp_skip (x_norm (c_reg R4_14_l ?_))
    refine q0 p4_14_0 hE (st_move rfl) ?_; clear hE a; intro a hE
    refine q0 p4_14_1 hE (st_move rfl) ?_; clear hE a; intro a hE
    refine q0 p4_14_2 hE (st_indexAddrR (i := k) (s := 19) Try.underlying23 tS50 hAe27 rfl rfl (by omega)) ?_; clear hE a; intro a hE
    refine q0 p4_14_3 hE (st_loadR (off := k * 19) (j := 0) (k := 19) (vs := ([Value.int .i64 x.1, Value.slice Ae27 x.2.1.length qe27] ++ b16 (adr x) ++ [Value.slice Te27 x.2.2.2.length ce27])) tA50 tS50 (fun j u h => cell_to K_s5 (hce27 j u h)) rfl rfl (by omega) rfl) ?_; clear hE a; intro a hE
    refine p_cons (s_call (xs := [Operand.tmp 68]) (args := [Value.agg (([Value.int .i64 x.1, Value.slice Ae27 x.2.1.length qe27] ++ b16 (adr x) ++ [Value.slice Te27 x.2.2.2.length ce27])).toArray]) p4_14_4 hE wn_none rfl rfl Try.func22 cl22 (check_x x Ae27 Te27 qe27 ce27 _ (fun W' hk => C_to hCe27 (K_s5.then_ hk (fun _ h => h.elim)))) ?_)
    rintro e w36 ⟨rfl, hk⟩
    replace K_0 := K_0.then_ hk (fun _ h => h.elim)
    replace K_s5 := K_s5.then_ hk (fun _ h => h.elim)
    replace K_s10 := K_s10.then_ hk (fun _ h => h.elim)
    replace K_s15 := K_s15.then_ hk (fun _ h => h.elim)
    replace K_s20 := K_s20.then_ hk (fun _ h => h.elim)
    refine ⟨_, rfl, ?_⟩; clear hE a; intro a hE
    refine q0 p4_14_5 hE (st_move rfl) ?_; clear hE a; intro a hE
    refine q0 p4_14_6 hE (st_neq (b := false) rfl rfl (by simp)) ?_; clear hE a; intro a hE
    refine q0 p4_14_7 hE (st_move rfl) ?_; clear hE a; intro a hE
    refine p_cons (s_still p4_14_8 hE (wn_some g4_14_7 rfl rfl) rfl (st_move rfl) ?_); clear hE a; intro a hE
    refine p_cons (s_still p4_14_9 hE (wn_some g4_14_7 rfl rfl) rfl (st_move rfl) ?_); clear hE a; intro a hE
    refine p_cons (s_still p4_14_10 hE (wn_some g4_14_7 rfl rfl) rfl (st_indexAddrR (i := k) (s := 19) Try.underlying23 tS50 hAe27 rfl rfl (by omega)) ?_); clear hE a; intro a hE
    refine p_cons (s_still p4_14_11 hE (wn_some g4_14_7 rfl rfl) rfl (st_loadR (off := k * 19) (j := 0) (k := 19) (vs := ([Value.int .i64 x.1, Value.slice Ae27 x.2.1.length qe27] ++ b16 (adr x) ++ [Value.slice Te27 x.2.2.2.length ce27])) tA50 tS50 (fun j u h => cell_to K_s5 (hce27 j u h)) rfl rfl (by omega) rfl) ?_); clear hE a; intro a hE
    refine p_cons (s_call (xs := [Operand.tmp 76]) (args := [Value.agg (([Value.int .i64 x.1, Value.slice Ae27 x.2.1.length qe27] ++ b16 (adr x) ++ [Value.slice Te27 x.2.2.2.length ce27])).toArray]) p4_14_12 hE (wn_some g4_14_7 rfl rfl) rfl rfl Try.func23 cl23 (size_x x Ae27 Te27 qe27 ce27 _ (fun W' hk => C_to hCe27 (K_s5.then_ hk (fun _ h => h.elim))) (fun W' hk => C_to hDe27 (K_s5.then_ hk (fun _ h => h.elim)))) ?_)
    rintro e w37 ⟨rfl, hk⟩
    replace K_0 := K_0.then_ hk (fun _ h => h.elim)
    replace K_s5 := K_s5.then_ hk (fun _ h => h.elim)
    replace K_s10 := K_s10.then_ hk (fun _ h => h.elim)
    replace K_s15 := K_s15.then_ hk (fun _ h => h.elim)
    replace K_s20 := K_s20.then_ hk (fun _ h => h.elim)
    refine ⟨_, rfl, ?_⟩; clear hE a; intro a hE
    refine p_cons (s_still p4_14_13 hE (wn_some g4_14_7 rfl rfl) rfl (st_move rfl) ?_); clear hE a; intro a hE
    refine p_cons (s_still p4_14_14 hE (wn_some g4_14_7 rfl rfl) rfl (st_neq (b := false) rfl rfl (by unfold szO; rw [if_neg hc29]; simp)) ?_); clear hE a; intro a hE
    refine q0 p4_14_15 hE (st_pick rfl rfl) ?_; clear hE a; intro a hE
    refine p_nil (x_norm ?_)
    refine c_cond (t := false) hE rfl ?_
    refine wp_skip (x_normB (x_norm (c_regL R4_9_l ?_)))
    refine q0 p4_9_0 hE (st_move rfl) ?_; clear hE a; intro a hE
    refine q0 p4_9_1 hE (st_add (z := (k : Int) + 1) rfl rfl (wr_i64 _ (by omega) (by omega))) ?_; clear hE a; intro a hE
    refine q0 p4_9_2 hE (st_assign rfl) ?_; clear hE a; intro a hE
    refine p_nil (x_norm ?_)
    exact ⟨k + 1, by omega, En.sub hE ⟨rfl, rfl, rfl, rfl, rfl, rfl, rfl, rfl, rfl, rfl, trivial⟩, (by omega), K_0, K_s5, K_s10, K_s15, K_s20⟩
  ·
   refine p_cons (s_still (v := Value.bool false) p4_8_3 hE wn_none rfl (st_lss rfl rfl (decide_eq_false hc25)) ?_); clear hE a; intro a hE
   refine p_nil (x_norm ?_)
   refine c_cond (t := false) hE rfl ?_
   refine wp_exit (x_exit (x_exit (x_in (x_norm (wp_seq (c_reg R4_16_l ?_))))))
   refine q0 p4_16_0 hE (st_move rfl) ?_; clear hE a; intro a hE
   rcases Decidable.em ((encE (toL z0)) = 0) with hc38 | hc38
   ·
    refine p_cons (s_still (v := Value.bool false) p4_16_1 hE wn_none rfl (st_neq rfl rfl (by rw [decide_eq_true hc38]; rfl)) ?_); clear hE a; intro a hE
    refine p_nil (x_norm ?_)
    refine c_cond (t := false) hE rfl ?_
    refine wp_skip (x_norm (c_reg R4_18_l ?_))
    refine q0 p4_18_0 hE (st_move rfl) ?_; clear hE a; intro a hE
    have hee := hc38
    refine p_cons (s_call (xs := [Operand.tmp 85]) (args := [Value.slice A11 ((encB (toL z0)).length) c12]) p4_18_1 hE wn_none rfl rfl Try.func9 cl9 (dec_x A11 c12 ((encB (toL z0)).length) (encB (toL z0)) (toL z0) (dec_enc (fun x hx => (hTf x hx).2.2.2.1) hee) rfl _ (by omega) hcapf13.1 hcapf13.2 (isB_all (fun x hx => ⟨(hTf x hx).2.1, (hTf x hx).2.2.1⟩) hee) (fun W' hk => C_to (C_to hRf13 K_s15) hk)) ?_)
    rintro e w42 ⟨A39, c40, rfl, hcapf41, hF9, hk⟩
    replace K_0 := K_0.then_ hk (fun _ h => h.elim)
    replace K_s5 := K_s5.then_ hk (fun _ h => h.elim)
    replace K_s10 := K_s10.then_ hk (fun _ h => h.elim)
    replace K_s15 := K_s15.then_ hk (fun _ h => h.elim)
    replace K_s20 := K_s20.then_ hk (fun _ h => h.elim)
    have K_s43 := Kp.refl w42 (fun _ => False)
    have hRf41 := hF9 _ (Kp.refl _ _)
    refine ⟨_, rfl, ?_⟩; clear hE a; intro a hE
    refine q0 p4_18_2 hE (st_move rfl) ?_; clear hE a; intro a hE
    refine q0 p4_18_3 hE (st_extract rfl rfl) ?_; clear hE a; intro a hE
    refine q0 p4_18_4 hE (st_extract rfl rfl) ?_; clear hE a; intro a hE
    refine q0 p4_18_5 hE (st_assign rfl) ?_; clear hE a; intro a hE
    refine q0 p4_18_6 hE (st_assign rfl) ?_; clear hE a; intro a hE
    refine p_nil (x_norm (c_reg R4_19_l ?_))
    refine p_cons (s_call (xs := []) (args := []) p4_19_0 hE wn_none rfl rfl Try.func13 cl13 (known_any  _) ?_)
    rintro e w44 ⟨rfl, hk⟩
    replace K_0 := K_0.then_ hk (fun _ h => h.elim)
    replace K_s5 := K_s5.then_ hk (fun _ h => h.elim)
    replace K_s10 := K_s10.then_ hk (fun _ h => h.elim)
    replace K_s15 := K_s15.then_ hk (fun _ h => h.elim)
    replace K_s20 := K_s20.then_ hk (fun _ h => h.elim)
    replace K_s43 := K_s43.then_ hk (fun _ h => h.elim)
    refine ⟨_, rfl, ?_⟩; clear hE a; intro a hE
    refine q0 p4_19_1 hE (st_move rfl) ?_; clear hE a; intro a hE
    refine p_cons (s_still p4_19_2 hE (wn_some g4_19_1 rfl rfl) rfl (st_move rfl) ?_); clear hE a; intro a hE
    refine p_cons (s_still p4_19_3 hE (wn_some g4_19_1 rfl rfl) rfl (st_eql (b := true) rfl rfl (by decide)) ?_); clear hE a; intro a hE
    refine q0 p4_19_4 hE (st_pick rfl rfl) ?_; clear hE a; intro a hE
    refine q0 p4_19_5 hE (st_move rfl) ?_; clear hE a; intro a hE
    refine p_cons (s_still p4_19_6 hE (wn_some g4_19_5 rfl rfl) rfl (st_move rfl) ?_); clear hE a; intro a hE
    refine p_cons (s_call (xs := [Operand.tmp 95]) (args := [Value.slice A39 ((toL z0).length) c40]) p4_19_7 hE (wn_some g4_19_5 rfl rfl) rfl rfl Try.func12 cl12 (of_same A39 c40 (toL z0) (toL_of z0) _ (C_to hRf41 K_s43) hcapf41 (by omega)) ?_)
    rintro e w48 ⟨A45, c46, rfl, hcapf47, hF9, hk⟩
    replace K_0 := K_0.then_ hk (fun _ h => h.elim)
    replace K_s5 := K_s5.then_ hk (fun _ h => h.elim)
    replace K_s10 := K_s10.then_ hk (fun _ h => h.elim)
    replace K_s15 := K_s15.then_ hk (fun _ h => h.elim)
    replace K_s20 := K_s20.then_ hk (fun _ h => h.elim)
    replace K_s43 := K_s43.then_ hk (fun _ h => h.elim)
    have K_s49 := Kp.refl w48 (fun _ => False)
    have hRf47 := hF9 _ (Kp.refl _ _)
    refine ⟨_, rfl, ?_⟩; clear hE a; intro a hE
    refine p_cons (s_still p4_19_8 hE (wn_some g4_19_5 rfl rfl) rfl (st_move rfl) ?_); clear hE a; intro a hE
    refine p_cons (s_call (xs := [Operand.tmp 96, Operand.tmp 97]) (args := [Value.slice A45 ((toL z0).length) c46, Value.slice A6 ((toL z0).length) c7]) p4_19_9 hE (wn_some g4_19_5 rfl rfl) rfl rfl Try.func11 cl11 (All_o A45 A6 c46 c7 (toL z0) (toL z0) true (lsame_refl _) (fun x hx => (hTf x hx).2.2.2.2) (fun x hx => (hTf x hx).2.2.2.2) _ (C_to hRf47 K_s49) (C_to hRf8 K_s10) (by omega)) ?_)
    rintro e w50 ⟨rfl, hk⟩
    replace K_0 := K_0.then_ hk (fun _ h => h.elim)
    replace K_s5 := K_s5.then_ hk (fun _ h => h.elim)
    replace K_s10 := K_s10.then_ hk (fun _ h => h.elim)
    replace K_s15 := K_s15.then_ hk (fun _ h => h.elim)
    replace K_s20 := K_s20.then_ hk (fun _ h => h.elim)
    replace K_s43 := K_s43.then_ hk (fun _ h => h.elim)
    replace K_s49 := K_s49.then_ hk (fun _ h => h.elim)
    refine ⟨_, rfl, ?_⟩; clear hE a; intro a hE
    refine q0 p4_19_10 hE (st_pick rfl rfl) ?_; clear hE a; intro a hE
    refine q0 p4_19_11 hE (st_move rfl) ?_; clear hE a; intro a hE
    refine p_cons (s_still p4_19_12 hE (wn_some g4_19_11 rfl rfl) rfl (st_move rfl) ?_); clear hE a; intro a hE
    refine p_cons (s_still p4_19_13 hE (wn_some g4_19_11 rfl rfl) rfl (st_move rfl) ?_); clear hE a; intro a hE
    refine p_cons (s_call (xs := [Operand.tmp 101, Operand.tmp 102]) (args := [Value.slice A39 ((toL z0).length) c40, Value.slice A1 ((toL z0).length) c2]) p4_19_14 hE (wn_some g4_19_11 rfl rfl) rfl rfl Try.func24 cl24 (Same_o A39 A1 c40 c2 (toL z0) (toL z0) true (lsame_refl _) (fun x hx => (hTf x hx).2.2.2.2) (fun x hx => (hTf x hx).2.2.2.2) _ (C_to hRf41 K_s43) (C_to hRf3 K_s5) (by omega)) ?_)
    rintro e w51 ⟨rfl, hk⟩
    replace K_0 := K_0.then_ hk (fun _ h => h.elim)
    replace K_s5 := K_s5.then_ hk (fun _ h => h.elim)
    replace K_s10 := K_s10.then_ hk (fun _ h => h.elim)
    replace K_s15 := K_s15.then_ hk (fun _ h => h.elim)
    replace K_s20 := K_s20.then_ hk (fun _ h => h.elim)
    replace K_s43 := K_s43.then_ hk (fun _ h => h.elim)
    replace K_s49 := K_s49.then_ hk (fun _ h => h.elim)
    refine ⟨_, rfl, ?_⟩; clear hE a; intro a hE
    refine q0 p4_19_15 hE (st_pick rfl rfl) ?_; clear hE a; intro a hE
    refine q0 p4_19_16 hE (st_assign rfl) ?_; clear hE a; intro a hE
    refine p_nil (x_norm (wp_ret ?_))
    refine ret_one (v := Value.bool true) rfl hE (.tmp rfl .nil) ?_
    exact ⟨rfl, K_0.to (Nat.le_refl _) (fun _ h => h.elim)⟩
   ·
    refine p_cons (s_still (v := Value.bool true) p4_16_1 hE wn_none rfl (st_neq rfl rfl (by rw [decide_eq_false hc38]; rfl)) ?_); clear hE a; intro a hE
    refine p_nil (x_norm ?_)
    refine c_cond (t := true) hE rfl ?_
    refine c_reg R4_17_l ?_
    refine p_cons (s_call (xs := []) (args := []) p4_17_0 hE wn_none rfl rfl Try.func13 cl13 (known_any  _) ?_)
    rintro e w52 ⟨rfl, hk⟩
    replace K_0 := K_0.then_ hk (fun _ h => h.elim)
    replace K_s5 := K_s5.then_ hk (fun _ h => h.elim)
    replace K_s10 := K_s10.then_ hk (fun _ h => h.elim)
    replace K_s15 := K_s15.then_ hk (fun _ h => h.elim)
    replace K_s20 := K_s20.then_ hk (fun _ h => h.elim)
    refine ⟨_, rfl, ?_⟩; clear hE a; intro a hE
    refine q0 p4_17_1 hE (st_assign rfl) ?_; clear hE a; intro a hE
    refine p_nil (x_norm (wp_ret (x_ret ?_)))
    refine ret_one (v := Value.bool true) rfl hE (.tmp rfl .nil) ?_
    exact ⟨rfl, K_0.to (Nat.le_refl _) (fun _ h => h.elim)⟩
end Go.Proofs.Ytgpclehnomkbmaa.Ob9
