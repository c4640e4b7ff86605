/- An option's bytes, or that it isn't right, and the option of any bytes, or what is wrong, are the document's: the law's walk. -/
import Derived.Test.YtpmbibpphomfkaaHopLaw
import Derived.Test.YtpmbibpphomfkaaDs
import Derived.WalkKit
set_option maxRecDepth 100000
set_option linter.unusedVariables false
set_option linter.unusedSimpArgs false
namespace Go.Proofs.Ytpmbibpphomfkaa.Hb
open Go.RowKit Go.Proofs.YtpmbibpphomfkaaW.PrintWords Go.Proofs.Ytpmbibpphomfkaa.Ds Go.Proofs.Ytpmbibpphomfkaa.PHopoptBytes
open Go.Proofs.Ytpmbibpphomfkaa.Pk hiding kp_blk
theorem eqA23_refl (a b c : Bool) (d e : Int) : ∀ w, (Op.equalIn 10000 23 (.agg [Value.bool a, .bool b, .bool c, .int .i64 d, .int .i64 e].toArray) (.agg [Value.bool a, .bool b, .bool c, .int .i64 d, .int .i64 e].toArray)).run Try.prog w = .ok true w := by
  intro w
  have h22 := Try.underlying23
  go_simp
theorem own_stab {w' : World} {base n c : Nat} {A : Option Addr} {l : List Int} (h : w'.ownsRow base 5 1 (.slice A n c) n (encs (Value.int .u8) l)) (S : Nat → Prop) (hS : ∀ k, S k → k < base) : ∀ W', Kp w' W' S → Kd.C (Kd.int .u8) W' A n l := by
  intro W' hk
  refine own_C (own_move h (fun k h2 => hk.kept.2 k (own_lt h k h2) (fun h3 => ?_)))
  have := hS k h3
  have := own_base h k h2
  omega
theorem own_cap {w' : World} {base e s n c : Nat} {A : Option Addr} {xs : List Value} (h : w'.ownsRow base e s (.slice A n c) n xs) : c ≤ 9223372036854775807 := by
  rcases h.2 with ⟨h2, _⟩ | ⟨g, cap, cur, h2, _, _, _, hm, _⟩
  · injection h2 with _ _ h3; omega
  · injection h2 with _ _ h3; unfold maxLen at hm; omega
theorem same_kp (A0 A1 : Option Addr) (c0 c1 : Nat) (l0 l1 : List Int) (r : Bool) (hr : decide (l0 = l1) = r) (w : World) (h0 : Kd.C (Kd.int .u8) w A0 l0.length l0) (h0c : l0.length ≤ c0) (h1 : Kd.C (Kd.int .u8) w A1 l1.length l1) (h1c : l1.length ≤ c1) (hl : l0.length ≤ 1000000) : Calls Try.prog 9 #[.slice A0 l0.length c0, .slice A1 l1.length c1] w fun e w' => e = .returned (.bool r) ∧ Kp w w' (fun _ => False) :=
  (same_any A0 A1 c0 c1 l0 l1 r hr w h0 h0c h1 h1c hl).mono (by rintro e w' ⟨rfl, m, rfl⟩; exact ⟨rfl, (Kp.refl w _).drewN m⟩)
theorem right_f (d f2 f3 : Bool) (i r : Int) : rivuletref06_Right.f d f2 f3 i r = some (rightF i r) := by
  unfold rivuletref06_Right.f rightF
  by_cases h1 : 0 ≤ i <;> by_cases h2 : i ≤ 255 <;> by_cases h3 : 0 ≤ r <;> simp [h1, h2, h3]
theorem renc_f (n : Int) (d f2 f3 : Bool) (i r : Int) (hn : 0 ≤ n ∧ n ≤ 255) (hi : 0 ≤ i ∧ i ≤ 255) (hr : 0 ≤ r ∧ r ≤ 65535) : rivuletref06_Encode.f 5 n d f2 f3 i r = some [n, 0, 99, 4, flF d f2 f3, i, r / 256, r % 256] := by
  have e1 : n % 256 = n := by omega
  have e2 : i % 256 = i := by omega
  have e3 : wrap64 (r.tdiv 256) % 256 = r / 256 := by rw [Int.tdiv_eq_ediv_of_nonneg hr.1]; unfold wrap64; omega
  have e4 : r.tmod 256 % 256 = r % 256 := by rw [Int.tmod_eq_emod_of_nonneg hr.1]; omega
  cases d <;> cases f2 <;> cases f3 <;> simp [rivuletref06_Encode.f, rivuletref06_Encode.j0, flF, e1, e2, e3, e4] <;> decide +kernel
theorem dec_back (A : Option Addr) (c : Nat) (n : Int) (d f2 f3 : Bool) (i r : Int) (hn : 0 ≤ n ∧ n ≤ 255) (hi : 0 ≤ i ∧ i ≤ 255) (hr : 0 ≤ r ∧ r ≤ 65535) (w : World) (h : Kd.C (Kd.int .u8) w A 8 [n, 0, 99, 4, flF d f2 f3, i, r / 256, r % 256]) (hc : 8 ≤ c) (hc2 : c ≤ 9223372036854775807) :
    Calls Try.prog 6 #[.slice A 8 c] w fun e w' => ∃ A' c', e = .returned (.tuple #[.int .i64 n, .agg #[.bool d, .bool f2, .bool f3, .int .i64 i, .int .i64 r], .slice A' 0 c', .int .i64 0]) ∧ Below w.heap.size w w' := by
  have hf : 0 ≤ flF d f2 f3 ∧ flF d f2 f3 ≤ 255 := by cases d <;> cases f2 <;> cases f3 <;> decide
  refine (dec_ok A c [n, 0, 99, 4, flF d f2 f3, i, r / 256, r % 256] n 0 99 4 (flF d f2 f3) i (r / 256) (r % 256) [] rfl w h hc hc2 (by simp) (by intro x hx; simp at hx; omega) rfl rfl rfl (by cases d <;> cases f2 <;> cases f3 <;> decide)).mono ?_
  rintro e w' ⟨⟨v, rfl, ho⟩, hb⟩
  obtain ⟨A', c', rfl, _⟩ := own_slice3 ho
  refine ⟨A', c', ?_, hb⟩
  have e1 : (flF d f2 f3 / 128 == 1) = d := by cases d <;> cases f2 <;> cases f3 <;> decide
  have e2 : (flF d f2 f3 / 64 % 2 == 1) = f2 := by cases d <;> cases f2 <;> cases f3 <;> decide
  have e3 : (flF d f2 f3 / 32 % 2 == 1) = f3 := by cases d <;> cases f2 <;> cases f3 <;> decide
  rw [e1, e2, e3, show 256 * (r / 256) + r % 256 = r by omega]
  rfl
theorem R3_0_l : List.range (regOf Try.f3 0).size = [0, 1] := by kernel_rfl
theorem R3_1_l : List.range (regOf Try.f3 1).size = [0, 1, 2, 3, 4, 5] := by kernel_rfl
theorem R3_2_l : List.range (regOf Try.f3 2).size = [0, 1, 2, 3, 4, 5, 6, 7, 8] := by kernel_rfl
theorem R3_3_l : List.range (regOf Try.f3 3).size = [0, 1, 2, 3, 4, 5, 6, 7, 8, 9, 10, 11] := by kernel_rfl
theorem R3_4_l : List.range (regOf Try.f3 4).size = [0, 1, 2, 3, 4, 5, 6, 7, 8, 9, 10, 11] := by kernel_rfl
theorem R3_5_l : List.range (regOf Try.f3 5).size = [0, 1, 2, 3, 4, 5, 6, 7, 8, 9, 10, 11, 12, 13, 14, 15, 16, 17, 18, 19, 20, 21, 22, 23, 24, 25, 26, 27, 28] := by kernel_rfl
theorem R3_6_l : List.range (regOf Try.f3 6).size = [0] := by kernel_rfl
theorem R3_7_l : List.range (regOf Try.f3 7).size = [0, 1, 2, 3, 4, 5, 6, 7, 8, 9, 10] := by kernel_rfl
theorem R3_8_l : List.range (regOf Try.f3 8).size = [0, 1, 2, 3, 4, 5, 6, 7, 8, 9, 10] := by kernel_rfl
theorem R3_9_l : List.range (regOf Try.f3 9).size = [0, 1, 2, 3, 4, 5, 6, 7, 8, 9, 10, 11] := by kernel_rfl
theorem R3_10_l : List.range (regOf Try.f3 10).size = [0, 1, 2, 3, 4, 5, 6, 7, 8, 9, 10, 11, 12, 13, 14, 15, 16, 17, 18, 19, 20, 21, 22, 23, 24, 25, 26, 27, 28, 29, 30, 31, 32] := by kernel_rfl
theorem body3 : Try.f3.body = some (.seq (.region 0 (regOf Try.f3 0) false) (.seq (.region 1 (regOf Try.f3 1) false) (.seq (.region 2 (regOf Try.f3 2) false) (.seq (.region 3 (regOf Try.f3 3) false) (.seq (.region 4 (regOf Try.f3 4) false) (.seq (.seq (.region 5 (regOf Try.f3 5) true) (.cond (Operand.tmp 75) (.seq (.region 6 (regOf Try.f3 6) false) (.ret)) (.skip))) (.seq (.seq (.region 7 (regOf Try.f3 7) false) (.cond (Operand.tmp 86) (.seq (.region 8 (regOf Try.f3 8) false) (.ret)) (.skip))) (.seq (.region 9 (regOf Try.f3 9) false) (.seq (.region 10 (regOf Try.f3 10) true) (.ret)))))))))) := by kernel_rfl
theorem p3_0_0 : pj (regOf Try.f3 0) 0 = some (some 4, Op.box 23 (Operand.tmp 1), 0, none) := by kernel_rfl
theorem p3_0_1 : pj (regOf Try.f3 0) 1 = some (some 6, Op.assign (Operand.const (Value.bool false)), 4, none) := by kernel_rfl
theorem p3_1_0 : pj (regOf Try.f3 1) 0 = some (some 21, Op.move (Operand.tmp 2), 24, none) := by kernel_rfl
theorem p3_1_1 : pj (regOf Try.f3 1) 1 = some (some 22, Op.move (Operand.tmp 2), 24, none) := by kernel_rfl
theorem p3_1_2 : pj (regOf Try.f3 1) 2 = some (some 23, Op.call { callee := Callee.builtin Builtin.len, args := #[Operand.tmp 22], argTypes := #[24] }, 3, none) := by kernel_rfl
theorem p3_1_3 : pj (regOf Try.f3 1) 3 = some (some 24, Op.call { callee := Callee.builtin Builtin.min, args := #[Operand.tmp 23, Operand.const (Value.int IntKind.i64 60)], argTypes := #[3, 3] }, 3, none) := by kernel_rfl
theorem p3_1_4 : pj (regOf Try.f3 1) 4 = some (some 25, Op.slice 24 (Operand.tmp 21) none (some (Operand.tmp 24)) none, 24, none) := by kernel_rfl
theorem tS5 : (Try.prog.info? 5).map (·.size) = some 1 := by kernel_rfl
theorem p3_1_5 : pj (regOf Try.f3 1) 5 = some (some 2, Op.assign (Operand.tmp 25), 24, none) := by kernel_rfl
theorem p3_2_0 : pj (regOf Try.f3 2) 0 = some (some 27, Op.move (Operand.tmp 0), 3, none) := by kernel_rfl
theorem p3_2_1 : pj (regOf Try.f3 2) 1 = some (some 28, Op.load 23 (Operand.tmp 4), 23, none) := by kernel_rfl
theorem tA23 : (Try.prog.underlying 23).map aggD = some true := by kernel_rfl
theorem tS23 : (Try.prog.info? 23).map (·.size) = some 5 := by kernel_rfl
theorem p3_2_2 : pj (regOf Try.f3 2) 2 = some (some 29, Op.call { callee := Callee.value (Operand.func 5), args := #[Operand.tmp 28], argTypes := #[23] }, 28, none) := by kernel_rfl
theorem cl5 : callable Try.f5 = true := by kernel_rfl
theorem p3_2_3 : pj (regOf Try.f3 2) 3 = some (some 30, Op.call { callee := Callee.value (Operand.func 4), args := #[Operand.tmp 27, Operand.tmp 29], argTypes := #[3, 28] }, 26, none) := by kernel_rfl
theorem cl4 : callable Try.f4 = true := by kernel_rfl
theorem p3_2_4 : pj (regOf Try.f3 2) 4 = some (some 26, Op.move (Operand.tmp 30), 26, none) := by kernel_rfl
theorem p3_2_5 : pj (regOf Try.f3 2) 5 = some (some 31, Op.extract (Operand.tmp 26) 0, 24, none) := by kernel_rfl
theorem p3_2_6 : pj (regOf Try.f3 2) 6 = some (some 32, Op.extract (Operand.tmp 26) 1, 25, none) := by kernel_rfl
theorem p3_2_7 : pj (regOf Try.f3 2) 7 = some (some 7, Op.assign (Operand.tmp 31), 24, none) := by kernel_rfl
theorem p3_2_8 : pj (regOf Try.f3 2) 8 = some (some 8, Op.assign (Operand.tmp 32), 25, none) := by kernel_rfl
theorem p3_3_0 : pj (regOf Try.f3 3) 0 = some (some 34, Op.move (Operand.tmp 2), 24, none) := by kernel_rfl
theorem p3_3_1 : pj (regOf Try.f3 3) 1 = some (some 35, Op.call { callee := Callee.value (Operand.func 6), args := #[Operand.tmp 34], argTypes := #[24] }, 30, none) := by kernel_rfl
theorem cl6 : callable Try.f6 = true := by kernel_rfl
theorem p3_3_2 : pj (regOf Try.f3 3) 2 = some (some 33, Op.move (Operand.tmp 35), 30, none) := by kernel_rfl
theorem p3_3_3 : pj (regOf Try.f3 3) 3 = some (some 36, Op.extract (Operand.tmp 33) 0, 3, none) := by kernel_rfl
theorem p3_3_4 : pj (regOf Try.f3 3) 4 = some (some 37, Op.extract (Operand.tmp 33) 1, 28, none) := by kernel_rfl
theorem p3_3_5 : pj (regOf Try.f3 3) 5 = some (some 38, Op.extract (Operand.tmp 33) 2, 24, none) := by kernel_rfl
theorem p3_3_6 : pj (regOf Try.f3 3) 6 = some (some 39, Op.extract (Operand.tmp 33) 3, 25, none) := by kernel_rfl
theorem p3_3_7 : pj (regOf Try.f3 3) 7 = some (some 10, Op.alloc 28, 0, none) := by kernel_rfl
theorem tZ28 : (Try.prog.info? 28).bind (·.zero) = some (Value.agg #[Value.bool false, Value.bool false, Value.bool false, Value.int .i64 0, Value.int .i64 0]) := by kernel_rfl
theorem p3_3_8 : pj (regOf Try.f3 3) 8 = some (some 9, Op.assign (Operand.tmp 36), 3, none) := by kernel_rfl
theorem p3_3_9 : pj (regOf Try.f3 3) 9 = some (none, Op.store 28 (Operand.tmp 10) (Operand.tmp 37), 0, none) := by kernel_rfl
theorem tS28 : (Try.prog.info? 28).map (·.size) = some 5 := by kernel_rfl
theorem p3_3_10 : pj (regOf Try.f3 3) 10 = some (some 11, Op.assign (Operand.tmp 38), 24, none) := by kernel_rfl
theorem p3_3_11 : pj (regOf Try.f3 3) 11 = some (some 12, Op.assign (Operand.tmp 39), 25, none) := by kernel_rfl
theorem p3_4_0 : pj (regOf Try.f3 4) 0 = some (some 41, Op.move (Operand.tmp 2), 24, none) := by kernel_rfl
theorem p3_4_1 : pj (regOf Try.f3 4) 1 = some (some 42, Op.call { callee := Callee.value (Operand.func 7), args := #[Operand.tmp 41], argTypes := #[24] }, 32, none) := by kernel_rfl
theorem cl7 : callable Try.f7 = true := by kernel_rfl
theorem p3_4_2 : pj (regOf Try.f3 4) 2 = some (some 40, Op.move (Operand.tmp 42), 32, none) := by kernel_rfl
theorem p3_4_3 : pj (regOf Try.f3 4) 3 = some (some 43, Op.extract (Operand.tmp 40) 0, 3, none) := by kernel_rfl
theorem p3_4_4 : pj (regOf Try.f3 4) 4 = some (some 44, Op.extract (Operand.tmp 40) 1, 23, none) := by kernel_rfl
theorem p3_4_5 : pj (regOf Try.f3 4) 5 = some (some 45, Op.extract (Operand.tmp 40) 2, 24, none) := by kernel_rfl
theorem p3_4_6 : pj (regOf Try.f3 4) 6 = some (some 46, Op.extract (Operand.tmp 40) 3, 3, none) := by kernel_rfl
theorem p3_4_7 : pj (regOf Try.f3 4) 7 = some (some 14, Op.alloc 23, 0, none) := by kernel_rfl
theorem tZ23 : (Try.prog.info? 23).bind (·.zero) = some (Value.agg #[Value.bool false, Value.bool false, Value.bool false, Value.int .i64 0, Value.int .i64 0]) := by kernel_rfl
theorem p3_4_8 : pj (regOf Try.f3 4) 8 = some (some 13, Op.assign (Operand.tmp 43), 3, none) := by kernel_rfl
theorem p3_4_9 : pj (regOf Try.f3 4) 9 = some (none, Op.store 23 (Operand.tmp 14) (Operand.tmp 44), 0, none) := by kernel_rfl
theorem p3_4_10 : pj (regOf Try.f3 4) 10 = some (some 15, Op.assign (Operand.tmp 45), 24, none) := by kernel_rfl
theorem p3_4_11 : pj (regOf Try.f3 4) 11 = some (some 16, Op.assign (Operand.tmp 46), 3, none) := by kernel_rfl
theorem ns3_5 : Region.noSelect (regOf Try.f3 5) = true := by kernel_rfl
theorem p3_5_0 : pj (regOf Try.f3 5) 0 = some (some 47, Op.move (Operand.tmp 9), 3, none) := by kernel_rfl
theorem p3_5_1 : pj (regOf Try.f3 5) 1 = some (some 48, Op.move (Operand.tmp 13), 3, none) := by kernel_rfl
theorem p3_5_2 : pj (regOf Try.f3 5) 2 = some (some 49, Op.binOp BinOp.neq 3 (Operand.tmp 47) (Operand.tmp 48) 3, 4, none) := by kernel_rfl
theorem p3_5_3 : pj (regOf Try.f3 5) 3 = some (some 50, Op.move (Operand.tmp 49), 4, none) := by kernel_rfl
theorem g3_5_3 : dstOf (regOf Try.f3 5) 3 = some 50 := by kernel_rfl
theorem p3_5_4 : pj (regOf Try.f3 5) 4 = some (some 51, Op.load 28 (Operand.tmp 10), 28, some (3, false)) := by kernel_rfl
theorem tA28 : (Try.prog.underlying 28).map aggD = some true := by kernel_rfl
theorem p3_5_6 : pj (regOf Try.f3 5) 6 = some (some 53, Op.load 23 (Operand.tmp 14), 23, some (3, false)) := by kernel_rfl
theorem p3_5_5 : pj (regOf Try.f3 5) 5 = some (some 52, Op.call { callee := Callee.value (Operand.func 8), args := #[Operand.tmp 51], argTypes := #[28] }, 23, some (3, false)) := by kernel_rfl
theorem cl8 : callable Try.f8 = true := by kernel_rfl
theorem p3_5_7 : pj (regOf Try.f3 5) 7 = some (some 54, Op.binOp BinOp.neq 23 (Operand.tmp 52) (Operand.tmp 53) 23, 4, some (3, false)) := by kernel_rfl
theorem eg23 : Try.prog.eqGuardType Try.prog.depth 23 = false := by kernel_rfl
theorem p3_5_8 : pj (regOf Try.f3 5) 8 = some (some 55, Op.pick (Operand.tmp 50) (Operand.const (Value.bool true)) (Operand.tmp 54), 4, none) := by kernel_rfl
theorem p3_5_9 : pj (regOf Try.f3 5) 9 = some (some 56, Op.move (Operand.tmp 55), 4, none) := by kernel_rfl
theorem g3_5_9 : dstOf (regOf Try.f3 5) 9 = some 56 := by kernel_rfl
theorem p3_5_10 : pj (regOf Try.f3 5) 10 = some (some 57, Op.move (Operand.tmp 12), 25, some (9, false)) := by kernel_rfl
theorem p3_5_11 : pj (regOf Try.f3 5) 11 = some (some 58, Op.move (Operand.tmp 16), 3, some (9, false)) := by kernel_rfl
theorem p3_5_12 : pj (regOf Try.f3 5) 12 = some (some 59, Op.binOp BinOp.neq 3 (Operand.tmp 57) (Operand.tmp 58) 3, 4, some (9, false)) := by kernel_rfl
theorem p3_5_13 : pj (regOf Try.f3 5) 13 = some (some 60, Op.pick (Operand.tmp 56) (Operand.const (Value.bool true)) (Operand.tmp 59), 4, none) := by kernel_rfl
theorem p3_5_14 : pj (regOf Try.f3 5) 14 = some (some 61, Op.move (Operand.tmp 60), 4, none) := by kernel_rfl
theorem g3_5_14 : dstOf (regOf Try.f3 5) 14 = some 61 := by kernel_rfl
theorem p3_5_15 : pj (regOf Try.f3 5) 15 = some (some 62, Op.move (Operand.tmp 11), 24, some (14, false)) := by kernel_rfl
theorem p3_5_16 : pj (regOf Try.f3 5) 16 = some (some 63, Op.move (Operand.tmp 15), 24, some (14, false)) := by kernel_rfl
theorem p3_5_17 : pj (regOf Try.f3 5) 17 = some (some 64, Op.call { callee := Callee.value (Operand.func 9), args := #[Operand.tmp 62, Operand.tmp 63], argTypes := #[24, 24] }, 4, some (14, false)) := by kernel_rfl
theorem cl9 : callable Try.f9 = true := by kernel_rfl
theorem p3_5_18 : pj (regOf Try.f3 5) 18 = some (some 65, Op.unOp UnOp.not 4 (Operand.tmp 64), 4, some (14, false)) := by kernel_rfl
theorem p3_5_19 : pj (regOf Try.f3 5) 19 = some (some 66, Op.pick (Operand.tmp 61) (Operand.const (Value.bool true)) (Operand.tmp 65), 4, none) := by kernel_rfl
theorem p3_5_20 : pj (regOf Try.f3 5) 20 = some (some 67, Op.move (Operand.tmp 66), 4, none) := by kernel_rfl
theorem g3_5_20 : dstOf (regOf Try.f3 5) 20 = some 67 := by kernel_rfl
theorem p3_5_21 : pj (regOf Try.f3 5) 21 = some (some 68, Op.load 23 (Operand.tmp 4), 23, some (20, false)) := by kernel_rfl
theorem p3_5_25 : pj (regOf Try.f3 5) 25 = some (some 72, Op.load 23 (Operand.tmp 4), 23, some (20, false)) := by kernel_rfl
theorem p3_5_22 : pj (regOf Try.f3 5) 22 = some (some 69, Op.call { callee := Callee.value (Operand.func 5), args := #[Operand.tmp 68], argTypes := #[23] }, 28, some (20, false)) := by kernel_rfl
theorem p3_5_23 : pj (regOf Try.f3 5) 23 = some (some 70, Op.call { callee := Callee.value (Operand.func 10), args := #[Operand.tmp 69], argTypes := #[28] }, 25, some (20, false)) := by kernel_rfl
theorem cl10 : callable Try.f10 = true := by kernel_rfl
theorem p3_5_24 : pj (regOf Try.f3 5) 24 = some (some 71, Op.binOp BinOp.eql 25 (Operand.tmp 70) (Operand.const (Value.int IntKind.i64 0)) 25, 4, some (20, false)) := by kernel_rfl
theorem p3_5_26 : pj (regOf Try.f3 5) 26 = some (some 73, Op.call { callee := Callee.value (Operand.func 11), args := #[Operand.tmp 72], argTypes := #[23] }, 4, some (20, false)) := by kernel_rfl
theorem cl11 : callable Try.f11 = true := by kernel_rfl
theorem p3_5_27 : pj (regOf Try.f3 5) 27 = some (some 74, Op.binOp BinOp.neq 4 (Operand.tmp 71) (Operand.tmp 73) 4, 4, some (20, false)) := by kernel_rfl
theorem p3_5_28 : pj (regOf Try.f3 5) 28 = some (some 75, Op.pick (Operand.tmp 67) (Operand.const (Value.bool true)) (Operand.tmp 74), 4, none) := by kernel_rfl
theorem p3_7_0 : pj (regOf Try.f3 7) 0 = some (some 76, Op.load 23 (Operand.tmp 4), 23, none) := by kernel_rfl
theorem p3_7_1 : pj (regOf Try.f3 7) 1 = some (some 77, Op.call { callee := Callee.value (Operand.func 11), args := #[Operand.tmp 76], argTypes := #[23] }, 4, none) := by kernel_rfl
theorem p3_7_2 : pj (regOf Try.f3 7) 2 = some (some 78, Op.unOp UnOp.not 4 (Operand.tmp 77), 4, none) := by kernel_rfl
theorem p3_7_3 : pj (regOf Try.f3 7) 3 = some (some 79, Op.move (Operand.tmp 78), 4, none) := by kernel_rfl
theorem p3_7_4 : pj (regOf Try.f3 7) 4 = some (some 80, Op.move (Operand.tmp 0), 3, some (3, false)) := by kernel_rfl
theorem g3_7_3 : dstOf (regOf Try.f3 7) 3 = some 79 := by kernel_rfl
theorem p3_7_5 : pj (regOf Try.f3 7) 5 = some (some 81, Op.binOp BinOp.lss 3 (Operand.tmp 80) (Operand.const (Value.int IntKind.i64 0)) 3, 4, some (3, false)) := by kernel_rfl
theorem p3_7_6 : pj (regOf Try.f3 7) 6 = some (some 82, Op.pick (Operand.tmp 79) (Operand.const (Value.bool true)) (Operand.tmp 81), 4, none) := by kernel_rfl
theorem p3_7_7 : pj (regOf Try.f3 7) 7 = some (some 83, Op.move (Operand.tmp 82), 4, none) := by kernel_rfl
theorem p3_7_8 : pj (regOf Try.f3 7) 8 = some (some 84, Op.move (Operand.tmp 0), 3, some (7, false)) := by kernel_rfl
theorem g3_7_7 : dstOf (regOf Try.f3 7) 7 = some 83 := by kernel_rfl
theorem p3_7_9 : pj (regOf Try.f3 7) 9 = some (some 85, Op.binOp BinOp.gtr 3 (Operand.tmp 84) (Operand.const (Value.int IntKind.i64 255)) 3, 4, some (7, false)) := by kernel_rfl
theorem p3_7_10 : pj (regOf Try.f3 7) 10 = some (some 86, Op.pick (Operand.tmp 83) (Operand.const (Value.bool true)) (Operand.tmp 85), 4, none) := by kernel_rfl
theorem p3_8_0 : pj (regOf Try.f3 8) 0 = some (some 87, Op.call { callee := Callee.value (Operand.func 12), args := #[], argTypes := #[] }, 4, none) := by kernel_rfl
theorem cl12 : callable Try.f12 = true := by kernel_rfl
theorem p3_8_1 : pj (regOf Try.f3 8) 1 = some (some 88, Op.move (Operand.tmp 87), 4, none) := by kernel_rfl
theorem p3_8_2 : pj (regOf Try.f3 8) 2 = some (some 89, Op.move (Operand.tmp 8), 25, some (1, true)) := by kernel_rfl
theorem g3_8_1 : dstOf (regOf Try.f3 8) 1 = some 88 := by kernel_rfl
theorem p3_8_3 : pj (regOf Try.f3 8) 3 = some (some 90, Op.binOp BinOp.eql 25 (Operand.tmp 89) (Operand.const (Value.int IntKind.i64 1)) 25, 4, some (1, true)) := by kernel_rfl
theorem p3_8_4 : pj (regOf Try.f3 8) 4 = some (some 91, Op.pick (Operand.tmp 88) (Operand.tmp 90) (Operand.const (Value.bool false)), 4, none) := by kernel_rfl
theorem p3_8_5 : pj (regOf Try.f3 8) 5 = some (some 92, Op.move (Operand.tmp 91), 4, none) := by kernel_rfl
theorem p3_8_6 : pj (regOf Try.f3 8) 6 = some (some 93, Op.move (Operand.tmp 7), 24, some (5, true)) := by kernel_rfl
theorem g3_8_5 : dstOf (regOf Try.f3 8) 5 = some 92 := by kernel_rfl
theorem p3_8_7 : pj (regOf Try.f3 8) 7 = some (some 94, Op.call { callee := Callee.builtin Builtin.len, args := #[Operand.tmp 93], argTypes := #[24] }, 3, some (5, true)) := by kernel_rfl
theorem p3_8_8 : pj (regOf Try.f3 8) 8 = some (some 95, Op.binOp BinOp.eql 3 (Operand.tmp 94) (Operand.const (Value.int IntKind.i64 0)) 3, 4, some (5, true)) := by kernel_rfl
theorem p3_8_9 : pj (regOf Try.f3 8) 9 = some (some 96, Op.pick (Operand.tmp 92) (Operand.tmp 95) (Operand.const (Value.bool false)), 4, none) := by kernel_rfl
theorem p3_8_10 : pj (regOf Try.f3 8) 10 = some (some 6, Op.assign (Operand.tmp 96), 4, none) := by kernel_rfl
theorem p3_9_0 : pj (regOf Try.f3 9) 0 = some (some 98, Op.move (Operand.tmp 7), 24, none) := by kernel_rfl
theorem p3_9_1 : pj (regOf Try.f3 9) 1 = some (some 99, Op.call { callee := Callee.value (Operand.func 6), args := #[Operand.tmp 98], argTypes := #[24] }, 30, none) := by kernel_rfl
theorem p3_9_2 : pj (regOf Try.f3 9) 2 = some (some 97, Op.move (Operand.tmp 99), 30, none) := by kernel_rfl
theorem p3_9_3 : pj (regOf Try.f3 9) 3 = some (some 100, Op.extract (Operand.tmp 97) 0, 3, none) := by kernel_rfl
theorem p3_9_4 : pj (regOf Try.f3 9) 4 = some (some 101, Op.extract (Operand.tmp 97) 1, 28, none) := by kernel_rfl
theorem p3_9_5 : pj (regOf Try.f3 9) 5 = some (some 102, Op.extract (Operand.tmp 97) 2, 24, none) := by kernel_rfl
theorem p3_9_6 : pj (regOf Try.f3 9) 6 = some (some 103, Op.extract (Operand.tmp 97) 3, 25, none) := by kernel_rfl
theorem p3_9_7 : pj (regOf Try.f3 9) 7 = some (some 18, Op.alloc 28, 0, none) := by kernel_rfl
theorem p3_9_8 : pj (regOf Try.f3 9) 8 = some (some 17, Op.assign (Operand.tmp 100), 3, none) := by kernel_rfl
theorem p3_9_9 : pj (regOf Try.f3 9) 9 = some (none, Op.store 28 (Operand.tmp 18) (Operand.tmp 101), 0, none) := by kernel_rfl
theorem p3_9_10 : pj (regOf Try.f3 9) 10 = some (some 19, Op.assign (Operand.tmp 102), 24, none) := by kernel_rfl
theorem p3_9_11 : pj (regOf Try.f3 9) 11 = some (some 20, Op.assign (Operand.tmp 103), 25, none) := by kernel_rfl
theorem ns3_10 : Region.noSelect (regOf Try.f3 10) = true := by kernel_rfl
theorem p3_10_0 : pj (regOf Try.f3 10) 0 = some (some 104, Op.call { callee := Callee.value (Operand.func 12), args := #[], argTypes := #[] }, 4, none) := by kernel_rfl
theorem p3_10_1 : pj (regOf Try.f3 10) 1 = some (some 105, Op.move (Operand.tmp 104), 4, none) := by kernel_rfl
theorem g3_10_1 : dstOf (regOf Try.f3 10) 1 = some 105 := by kernel_rfl
theorem p3_10_2 : pj (regOf Try.f3 10) 2 = some (some 106, Op.move (Operand.tmp 8), 25, some (1, true)) := by kernel_rfl
theorem p3_10_3 : pj (regOf Try.f3 10) 3 = some (some 107, Op.binOp BinOp.eql 25 (Operand.tmp 106) (Operand.const (Value.int IntKind.i64 0)) 25, 4, some (1, true)) := by kernel_rfl
theorem p3_10_4 : pj (regOf Try.f3 10) 4 = some (some 108, Op.pick (Operand.tmp 105) (Operand.tmp 107) (Operand.const (Value.bool false)), 4, none) := by kernel_rfl
theorem p3_10_5 : pj (regOf Try.f3 10) 5 = some (some 109, Op.move (Operand.tmp 108), 4, none) := by kernel_rfl
theorem g3_10_5 : dstOf (regOf Try.f3 10) 5 = some 109 := by kernel_rfl
theorem p3_10_6 : pj (regOf Try.f3 10) 6 = some (some 110, Op.move (Operand.tmp 7), 24, some (5, true)) := by kernel_rfl
theorem p3_10_7 : pj (regOf Try.f3 10) 7 = some (some 111, Op.move (Operand.tmp 0), 3, some (5, true)) := by kernel_rfl
theorem p3_10_8 : pj (regOf Try.f3 10) 8 = some (some 112, Op.load 23 (Operand.tmp 4), 23, some (5, true)) := by kernel_rfl
theorem p3_10_9 : pj (regOf Try.f3 10) 9 = some (some 113, Op.call { callee := Callee.value (Operand.func 13), args := #[Operand.tmp 111, Operand.tmp 112], argTypes := #[3, 23] }, 24, some (5, true)) := by kernel_rfl
theorem cl13 : callable Try.f13 = true := by kernel_rfl
theorem p3_10_10 : pj (regOf Try.f3 10) 10 = some (some 114, Op.call { callee := Callee.value (Operand.func 9), args := #[Operand.tmp 110, Operand.tmp 113], argTypes := #[24, 24] }, 4, some (5, true)) := by kernel_rfl
theorem p3_10_11 : pj (regOf Try.f3 10) 11 = some (some 115, Op.pick (Operand.tmp 109) (Operand.tmp 114) (Operand.const (Value.bool false)), 4, none) := by kernel_rfl
theorem p3_10_12 : pj (regOf Try.f3 10) 12 = some (some 116, Op.move (Operand.tmp 115), 4, none) := by kernel_rfl
theorem g3_10_12 : dstOf (regOf Try.f3 10) 12 = some 116 := by kernel_rfl
theorem p3_10_13 : pj (regOf Try.f3 10) 13 = some (some 117, Op.move (Operand.tmp 20), 25, some (12, true)) := by kernel_rfl
theorem p3_10_14 : pj (regOf Try.f3 10) 14 = some (some 118, Op.binOp BinOp.eql 25 (Operand.tmp 117) (Operand.const (Value.int IntKind.i64 0)) 25, 4, some (12, true)) := by kernel_rfl
theorem p3_10_15 : pj (regOf Try.f3 10) 15 = some (some 119, Op.pick (Operand.tmp 116) (Operand.tmp 118) (Operand.const (Value.bool false)), 4, none) := by kernel_rfl
theorem p3_10_16 : pj (regOf Try.f3 10) 16 = some (some 120, Op.move (Operand.tmp 119), 4, none) := by kernel_rfl
theorem g3_10_16 : dstOf (regOf Try.f3 10) 16 = some 120 := by kernel_rfl
theorem p3_10_17 : pj (regOf Try.f3 10) 17 = some (some 121, Op.move (Operand.tmp 17), 3, some (16, true)) := by kernel_rfl
theorem p3_10_18 : pj (regOf Try.f3 10) 18 = some (some 122, Op.move (Operand.tmp 0), 3, some (16, true)) := by kernel_rfl
theorem p3_10_19 : pj (regOf Try.f3 10) 19 = some (some 123, Op.binOp BinOp.eql 3 (Operand.tmp 121) (Operand.tmp 122) 3, 4, some (16, true)) := by kernel_rfl
theorem p3_10_20 : pj (regOf Try.f3 10) 20 = some (some 124, Op.pick (Operand.tmp 120) (Operand.tmp 123) (Operand.const (Value.bool false)), 4, none) := by kernel_rfl
theorem p3_10_21 : pj (regOf Try.f3 10) 21 = some (some 125, Op.move (Operand.tmp 124), 4, none) := by kernel_rfl
theorem g3_10_21 : dstOf (regOf Try.f3 10) 21 = some 125 := by kernel_rfl
theorem p3_10_22 : pj (regOf Try.f3 10) 22 = some (some 126, Op.load 28 (Operand.tmp 18), 28, some (21, true)) := by kernel_rfl
theorem p3_10_24 : pj (regOf Try.f3 10) 24 = some (some 128, Op.load 23 (Operand.tmp 4), 23, some (21, true)) := by kernel_rfl
theorem p3_10_23 : pj (regOf Try.f3 10) 23 = some (some 127, Op.call { callee := Callee.value (Operand.func 8), args := #[Operand.tmp 126], argTypes := #[28] }, 23, some (21, true)) := by kernel_rfl
theorem p3_10_25 : pj (regOf Try.f3 10) 25 = some (some 129, Op.binOp BinOp.eql 23 (Operand.tmp 127) (Operand.tmp 128) 23, 4, some (21, true)) := by kernel_rfl
theorem p3_10_26 : pj (regOf Try.f3 10) 26 = some (some 130, Op.pick (Operand.tmp 125) (Operand.tmp 129) (Operand.const (Value.bool false)), 4, none) := by kernel_rfl
theorem p3_10_27 : pj (regOf Try.f3 10) 27 = some (some 131, Op.move (Operand.tmp 130), 4, none) := by kernel_rfl
theorem g3_10_27 : dstOf (regOf Try.f3 10) 27 = some 131 := by kernel_rfl
theorem p3_10_28 : pj (regOf Try.f3 10) 28 = some (some 132, Op.move (Operand.tmp 19), 24, some (27, true)) := by kernel_rfl
theorem p3_10_29 : pj (regOf Try.f3 10) 29 = some (some 133, Op.call { callee := Callee.builtin Builtin.len, args := #[Operand.tmp 132], argTypes := #[24] }, 3, some (27, true)) := by kernel_rfl
theorem p3_10_30 : pj (regOf Try.f3 10) 30 = some (some 134, Op.binOp BinOp.eql 3 (Operand.tmp 133) (Operand.const (Value.int IntKind.i64 0)) 3, 4, some (27, true)) := by kernel_rfl
theorem p3_10_31 : pj (regOf Try.f3 10) 31 = some (some 135, Op.pick (Operand.tmp 131) (Operand.tmp 134) (Operand.const (Value.bool false)), 4, none) := by kernel_rfl
theorem p3_10_32 : pj (regOf Try.f3 10) 32 = some (some 6, Op.assign (Operand.tmp 135), 4, none) := by kernel_rfl
set_option maxHeartbeats 4000000 in
theorem law_bad (n : Int) (d f2 f3 : Bool) (i r : Int) (A : Option Addr) (z l : List Int) (cap : Nat) (hx : (if (60 : Int) < (z.length : Int) then (60 : Int) else (z.length : Int)) = (l.length : Int)) (w : World) (hl : Kd.C (Kd.int .u8) w A l.length l) (hlz : l.length ≤ z.length) (hlc0 : z.length ≤ cap) (hcm : cap ≤ 9223372036854775807) (hzb : ∀ x ∈ l, 0 ≤ x ∧ x ≤ 255) (hn : fitsF 1 [n] = true) (hr : rightF i r = false) : Calls Try.prog 3 #[.int .i64 n, .agg #[.bool d, .bool f2, .bool f3, .int .i64 i, .int .i64 r], .slice A z.length cap] w fun e w' => e = .returned (.bool true) ∧ Below w.heap.size w w' := by
  have K_0 := Kp.refl w (fun _ => False)
  have hl60 : l.length ≤ 60 := by split at hx <;> omega
  have hlc : l.length ≤ cap := by omega
  have hR := hr
  obtain ⟨n', q1, q2, q3, i', r', er, rest, hrl, hagree1, hagree2⟩ := agree l hl60 hzb
  have F_b : ∀ W', Kp w W' (fun _ => False) → Kd.C (Kd.int .u8) W' A l.length l := fun W' h => Kd.C_below hl (h.to (Nat.le_refl _) (fun _ h => h.elim))
  refine enter (args := [Value.int .i64 n, Value.agg #[Value.bool d, Value.bool f2, Value.bool f3, Value.int .i64 i, Value.int .i64 r], Value.slice A z.length cap]) (n := 136) Try.func3 body3 rfl rfl rfl ?_
  intro a hE
  refine c_reg R3_0_l ?_
  refine p_cons (s_box p3_0_0 hE wn_none rfl rfl ?_)
  clear hE a; intro g1 w2 z3 B_g1 hk a hE
  replace B_g1 : w2.heap[g1]? = some (.cells #[Value.bool d, Value.bool f2, Value.bool f3, Value.int .i64 i, Value.int .i64 r] 23 (0, 0)) := B_g1
  have z_0_g1 := Nat.le_trans K_0.kept.1 z3
  replace K_0 := K_0.then_ hk (fun _ h => h.elim)
  clear hk
  refine p_cons (s_still p3_0_1 hE wn_none rfl (st_assign rfl) ?_)
  clear hE a; intro a hE
  refine p_nil ?_
  refine x_norm ?_
  refine c_reg R3_1_l ?_
  refine p_cons (s_still p3_1_0 hE wn_none rfl (st_move rfl) ?_)
  clear hE a; intro a hE
  refine p_cons (s_still p3_1_1 hE wn_none rfl (st_move rfl) ?_)
  clear hE a; intro a hE
  refine p_cons (s_still p3_1_2 hE wn_none rfl (st_len Try.underlying24 rfl) ?_)
  clear hE a; intro a hE
  refine p_cons (s_still p3_1_3 hE wn_none rfl (st_min (z := (l.length : Int)) rfl rfl hx) ?_)
  clear hE a; intro a hE
  refine p_cons (s_still p3_1_4 hE wn_none rfl (st_sliceH (h := l.length) Try.underlying24 tS5 rfl rfl (by omega)) ?_)
  clear hE a; intro a hE
  refine p_cons (s_still p3_1_5 hE wn_none rfl (st_assign rfl) ?_)
  clear hE a; intro a hE
  refine p_nil ?_
  refine x_norm ?_
  refine c_reg R3_2_l ?_
  refine p_cons (s_still p3_2_0 hE wn_none rfl (st_move rfl) ?_)
  clear hE a; intro a hE
  refine p_cons (s_still p3_2_1 hE wn_none rfl (st_loadN (off := 0) (k := 5) (vs := [Value.bool d, Value.bool f2, Value.bool f3, Value.int .i64 i, Value.int .i64 r]) tA23 tS23 rfl B_g1 rfl rfl) ?_)
  clear hE a; intro a hE
  refine p_cons (s_call (xs := [Operand.tmp 28]) (args := [Value.agg #[Value.bool d, Value.bool f2, Value.bool f3, Value.int .i64 i, Value.int .i64 r]]) p3_2_2 hE wn_none rfl rfl Try.func5 cl5 (rivuletlaw06_To.calls d f2 f3 i r d f2 f3 i r _ rfl) ?_)
  rintro e w4 ⟨rfl, hb⟩
  have hk := Kp.of_below hb (fun _ => False)
  replace B_g1 := kp_blk B_g1 hk (fun h => h)
  replace K_0 := K_0.then_ hk (fun _ h => h.elim)
  refine ⟨_, rfl, ?_⟩
  clear hE a; intro a hE
  refine p_cons (s_call (xs := [Operand.tmp 27, Operand.tmp 29]) (args := [Value.int .i64 n, Value.agg #[Value.bool d, Value.bool f2, Value.bool f3, Value.int .i64 i, Value.int .i64 r]]) p3_2_3 hE wn_none rfl rfl Try.func4 cl4 (enc_bad n d f2 f3 i r hn hr _) ?_)
  rintro e w5 ⟨rfl, hb⟩
  have hk := Kp.of_below hb (fun _ => False)
  replace B_g1 := kp_blk B_g1 hk (fun h => h)
  replace K_0 := K_0.then_ hk (fun _ h => h.elim)
  refine ⟨_, rfl, ?_⟩
  clear hE a; intro a hE
  refine p_cons (s_still p3_2_4 hE wn_none rfl (st_move rfl) ?_)
  clear hE a; intro a hE
  refine p_cons (s_still p3_2_5 hE wn_none rfl (st_extract rfl rfl) ?_)
  clear hE a; intro a hE
  refine p_cons (s_still p3_2_6 hE wn_none rfl (st_extract rfl rfl) ?_)
  clear hE a; intro a hE
  refine p_cons (s_still p3_2_7 hE wn_none rfl (st_assign rfl) ?_)
  clear hE a; intro a hE
  refine p_cons (s_still p3_2_8 hE wn_none rfl (st_assign rfl) ?_)
  clear hE a; intro a hE
  refine p_nil ?_
  refine x_norm ?_
  refine c_reg R3_3_l ?_
  refine p_cons (s_still p3_3_0 hE wn_none rfl (st_move rfl) ?_)
  clear hE a; intro a hE
  refine p_cons (s_call (xs := [Operand.tmp 34]) (args := [Value.slice A l.length cap]) p3_3_1 hE wn_none rfl rfl Try.func6 cl6 (hagree1 A cap _ (F_b _ K_0) hlc hcm) ?_)
  rintro e w6 ⟨A1, c1, rfl, hc1, hC1, hb⟩
  have hk := Kp.of_below hb (fun _ => False)
  replace B_g1 := kp_blk B_g1 hk (fun h => h)
  replace K_0 := K_0.then_ hk (fun _ h => h.elim)
  have K_s7 := Kp.refl w6 (fun _ => False)
  have F_r1 : ∀ W', Kp w6 W' (fun _ => False) → Kd.C (Kd.int .u8) W' A1 rest.length rest := fun W' h => Kd.C_below hC1 (h.to (Nat.le_refl _) (fun _ h => h.elim))
  refine ⟨_, rfl, ?_⟩
  clear hE a; intro a hE
  refine p_cons (s_still p3_3_2 hE wn_none rfl (st_move rfl) ?_)
  clear hE a; intro a hE
  refine p_cons (s_still p3_3_3 hE wn_none rfl (st_extract rfl rfl) ?_)
  clear hE a; intro a hE
  refine p_cons (s_still p3_3_4 hE wn_none rfl (st_extract rfl rfl) ?_)
  clear hE a; intro a hE
  refine p_cons (s_still p3_3_5 hE wn_none rfl (st_extract rfl rfl) ?_)
  clear hE a; intro a hE
  refine p_cons (s_still p3_3_6 hE wn_none rfl (st_extract rfl rfl) ?_)
  clear hE a; intro a hE
  refine p_cons (s_alloc p3_3_7 hE wn_none rfl tZ28 ?_)
  clear hE a; intro g8 w9 z10 B_g8 hk a hE
  replace B_g8 : w9.heap[g8]? = some (.cells #[Value.bool false, Value.bool false, Value.bool false, Value.int .i64 0, Value.int .i64 0] 28 (0, 0)) := B_g8
  have n_g1_g8 : g1 ≠ g8 := ne_new B_g1 z10
  have z_0_g8 := Nat.le_trans K_0.kept.1 z10
  have z_s7_g8 := Nat.le_trans K_s7.kept.1 z10
  replace B_g1 := kp_blk B_g1 hk (fun h => h)
  replace K_0 := K_0.then_ hk (fun _ h => h.elim)
  replace K_s7 := K_s7.then_ hk (fun _ h => h.elim)
  clear hk
  refine p_cons (s_still p3_3_8 hE wn_none rfl (st_assign rfl) ?_)
  clear hE a; intro a hE
  refine p_cons (s_store (off := 0) (k := 5) (cs' := #[Value.bool q1, Value.bool q2, Value.bool q3, Value.int .i64 i', Value.int .i64 r']) p3_3_9 hE wn_none tS28 rfl rfl rfl rfl B_g8 (by decide) rfl ?_)
  intro w11 B_g8' hk
  replace B_g1 := kp_blk B_g1 hk n_g1_g8
  replace K_0 := K_0.then_ hk (fun k h => by rw [show k = g8 from h]; exact Or.inr z_0_g8)
  replace K_s7 := K_s7.then_ hk (fun k h => by rw [show k = g8 from h]; exact Or.inr z_s7_g8)
  replace B_g8 := B_g8'
  clear hk
  refine p_cons (s_still p3_3_10 hE wn_none rfl (st_assign rfl) ?_)
  clear hE a; intro a hE
  refine p_cons (s_still p3_3_11 hE wn_none rfl (st_assign rfl) ?_)
  clear hE a; intro a hE
  refine p_nil ?_
  refine x_norm ?_
  refine c_reg R3_4_l ?_
  refine p_cons (s_still p3_4_0 hE wn_none rfl (st_move rfl) ?_)
  clear hE a; intro a hE
  refine p_cons (s_call (xs := [Operand.tmp 41]) (args := [Value.slice A l.length cap]) p3_4_1 hE wn_none rfl rfl Try.func7 cl7 (hagree2 A cap _ (F_b _ K_0) hlc) ?_)
  rintro e w12 ⟨A2, c2, rfl, hc2, hC2, hb⟩
  have hk := Kp.of_below hb (fun _ => False)
  replace B_g1 := kp_blk B_g1 hk (fun h => h)
  replace B_g8 := kp_blk B_g8 hk (fun h => h)
  replace K_0 := K_0.then_ hk (fun _ h => h.elim)
  replace K_s7 := K_s7.then_ hk (fun _ h => h.elim)
  have K_s13 := Kp.refl w12 (fun _ => False)
  have F_r2 : ∀ W', Kp w12 W' (fun _ => False) → Kd.C (Kd.int .u8) W' A2 rest.length rest := fun W' h => Kd.C_below hC2 (h.to (Nat.le_refl _) (fun _ h => h.elim))
  refine ⟨_, rfl, ?_⟩
  clear hE a; intro a hE
  refine p_cons (s_still p3_4_2 hE wn_none rfl (st_move rfl) ?_)
  clear hE a; intro a hE
  refine p_cons (s_still p3_4_3 hE wn_none rfl (st_extract rfl rfl) ?_)
  clear hE a; intro a hE
  refine p_cons (s_still p3_4_4 hE wn_none rfl (st_extract rfl rfl) ?_)
  clear hE a; intro a hE
  refine p_cons (s_still p3_4_5 hE wn_none rfl (st_extract rfl rfl) ?_)
  clear hE a; intro a hE
  refine p_cons (s_still p3_4_6 hE wn_none rfl (st_extract rfl rfl) ?_)
  clear hE a; intro a hE
  refine p_cons (s_alloc p3_4_7 hE wn_none rfl tZ23 ?_)
  clear hE a; intro g14 w15 z16 B_g14 hk a hE
  replace B_g14 : w15.heap[g14]? = some (.cells #[Value.bool false, Value.bool false, Value.bool false, Value.int .i64 0, Value.int .i64 0] 23 (0, 0)) := B_g14
  have n_g1_g14 : g1 ≠ g14 := ne_new B_g1 z16
  have n_g8_g14 : g8 ≠ g14 := ne_new B_g8 z16
  have z_0_g14 := Nat.le_trans K_0.kept.1 z16
  have z_s7_g14 := Nat.le_trans K_s7.kept.1 z16
  have z_s13_g14 := Nat.le_trans K_s13.kept.1 z16
  replace B_g1 := kp_blk B_g1 hk (fun h => h)
  replace B_g8 := kp_blk B_g8 hk (fun h => h)
  replace K_0 := K_0.then_ hk (fun _ h => h.elim)
  replace K_s7 := K_s7.then_ hk (fun _ h => h.elim)
  replace K_s13 := K_s13.then_ hk (fun _ h => h.elim)
  clear hk
  refine p_cons (s_still p3_4_8 hE wn_none rfl (st_assign rfl) ?_)
  clear hE a; intro a hE
  refine p_cons (s_store (off := 0) (k := 5) (cs' := #[Value.bool q1, Value.bool q2, Value.bool q3, Value.int .i64 i', Value.int .i64 r']) p3_4_9 hE wn_none tS23 rfl rfl rfl rfl B_g14 (by decide) rfl ?_)
  intro w17 B_g14' hk
  replace B_g1 := kp_blk B_g1 hk n_g1_g14
  replace B_g8 := kp_blk B_g8 hk n_g8_g14
  replace K_0 := K_0.then_ hk (fun k h => by rw [show k = g14 from h]; exact Or.inr z_0_g14)
  replace K_s7 := K_s7.then_ hk (fun k h => by rw [show k = g14 from h]; exact Or.inr z_s7_g14)
  replace K_s13 := K_s13.then_ hk (fun k h => by rw [show k = g14 from h]; exact Or.inr z_s13_g14)
  replace B_g14 := B_g14'
  clear hk
  refine p_cons (s_still p3_4_10 hE wn_none rfl (st_assign rfl) ?_)
  clear hE a; intro a hE
  refine p_cons (s_still p3_4_11 hE wn_none rfl (st_assign rfl) ?_)
  clear hE a; intro a hE
  refine p_nil ?_
  refine x_norm ?_
  refine wp_seq ?_
  refine c_drawS (S := fun W => W.heap[g1]? = some (.cells #[Value.bool d, Value.bool f2, Value.bool f3, Value.int .i64 i, Value.int .i64 r] 23 (0, 0)) ∧ W.heap[g8]? = some (.cells #[Value.bool q1, Value.bool q2, Value.bool q3, Value.int .i64 i', Value.int .i64 r'] 28 (0, 0)) ∧ W.heap[g14]? = some (.cells #[Value.bool q1, Value.bool q2, Value.bool q3, Value.int .i64 i', Value.int .i64 r'] 23 (0, 0)) ∧ True) rfl rfl ?_
  intro w18 hh hk
  replace B_g1 := kp_blk B_g1 hk (fun h => h)
  replace B_g8 := kp_blk B_g8 hk (fun h => h)
  replace B_g14 := kp_blk B_g14 hk (fun h => h)
  replace K_0 := K_0.then_ hk (fun _ h => h.elim)
  replace K_s7 := K_s7.then_ hk (fun _ h => h.elim)
  replace K_s13 := K_s13.then_ hk (fun _ h => h.elim)
  clear hh hk
  refine d_take (v := Value.int .i64 n') p3_5_0 ns3_5 (by kernel_rfl) (by kernel_rfl) (fun _ _ _ h => h) hE wn_none rfl ⟨B_g1, B_g8, B_g14, trivial⟩ (fun W hS => (st_move rfl)) ?_
  clear hE a; intro a hE
  refine d_take (v := Value.int .i64 n') p3_5_1 ns3_5 (by kernel_rfl) (by kernel_rfl) (fun _ _ _ h => h) hE wn_none rfl ⟨B_g1, B_g8, B_g14, trivial⟩ (fun W hS => (st_move rfl)) ?_
  clear hE a; intro a hE
  refine d_take (v := Value.bool false) p3_5_2 ns3_5 (by kernel_rfl) (by kernel_rfl) (fun _ _ _ h => h) hE wn_none rfl ⟨B_g1, B_g8, B_g14, trivial⟩ (fun W hS => (st_neq (b := false) rfl rfl (by simp))) ?_
  clear hE a; intro a hE
  refine d_take (v := Value.bool false) p3_5_3 ns3_5 (by kernel_rfl) (by kernel_rfl) (fun _ _ _ h => h) hE wn_none rfl ⟨B_g1, B_g8, B_g14, trivial⟩ (fun W hS => (st_move rfl)) ?_
  clear hE a; intro a hE
  refine d_take (v := Value.agg #[Value.bool q1, Value.bool q2, Value.bool q3, Value.int .i64 i', Value.int .i64 r']) p3_5_4 ns3_5 (by kernel_rfl) (by kernel_rfl) (fun _ _ _ h => h) hE (wn_some g3_5_3 rfl rfl) rfl ⟨B_g1, B_g8, B_g14, trivial⟩ (fun W hS => (st_loadN (off := 0) (k := 5) (vs := [Value.bool q1, Value.bool q2, Value.bool q3, Value.int .i64 i', Value.int .i64 r']) tA28 tS28 rfl hS.2.1 rfl rfl)) ?_
  clear hE a; intro a hE
  refine d_take (v := Value.agg #[Value.bool q1, Value.bool q2, Value.bool q3, Value.int .i64 i', Value.int .i64 r']) p3_5_6 ns3_5 (by kernel_rfl) (by kernel_rfl) (fun _ _ _ h => h) hE (wn_some g3_5_3 rfl rfl) rfl ⟨B_g1, B_g8, B_g14, trivial⟩ (fun W hS => (st_loadN (off := 0) (k := 5) (vs := [Value.bool q1, Value.bool q2, Value.bool q3, Value.int .i64 i', Value.int .i64 r']) tA23 tS23 rfl hS.2.2.1 rfl rfl)) ?_
  clear hE a; intro a hE
  refine d_one (by kernel_rfl) (s_call (xs := [Operand.tmp 51]) (args := [Value.agg #[Value.bool q1, Value.bool q2, Value.bool q3, Value.int .i64 i', Value.int .i64 r']]) p3_5_5 hE (wn_some g3_5_3 rfl rfl) rfl rfl Try.func8 cl8 (rivuletlaw06_Of.calls q1 q2 q3 i' r' q1 q2 q3 i' r' _ rfl) ?_)
  rintro e w19 ⟨rfl, hb⟩
  have hk := Kp.of_below hb (fun _ => False)
  replace B_g1 := kp_blk B_g1 hk (fun h => h)
  replace B_g8 := kp_blk B_g8 hk (fun h => h)
  replace B_g14 := kp_blk B_g14 hk (fun h => h)
  replace K_0 := K_0.then_ hk (fun _ h => h.elim)
  replace K_s7 := K_s7.then_ hk (fun _ h => h.elim)
  replace K_s13 := K_s13.then_ hk (fun _ h => h.elim)
  refine ⟨_, rfl, ?_⟩
  clear hE a; intro a hE
  refine ⟨⟨B_g1, B_g8, B_g14, trivial⟩, ?_⟩
  refine d_take (v := Value.bool false) p3_5_7 ns3_5 (by kernel_rfl) (by kernel_rfl) (fun _ _ _ h => h) hE (wn_some g3_5_3 rfl rfl) rfl ⟨B_g1, B_g8, B_g14, trivial⟩ (fun W hS => (st_neqA (b := true) eg23 rfl rfl (eqA23_refl _ _ _ _ _))) ?_
  clear hE a; intro a hE
  refine d_take (v := Value.bool false) p3_5_8 ns3_5 (by kernel_rfl) (by kernel_rfl) (fun _ _ _ h => h) hE wn_none rfl ⟨B_g1, B_g8, B_g14, trivial⟩ (fun W hS => (st_pick rfl rfl)) ?_
  clear hE a; intro a hE
  refine d_take (v := Value.bool false) p3_5_9 ns3_5 (by kernel_rfl) (by kernel_rfl) (fun _ _ _ h => h) hE wn_none rfl ⟨B_g1, B_g8, B_g14, trivial⟩ (fun W hS => (st_move rfl)) ?_
  clear hE a; intro a hE
  refine d_take (v := Value.int .i64 er) p3_5_10 ns3_5 (by kernel_rfl) (by kernel_rfl) (fun _ _ _ h => h) hE (wn_some g3_5_9 rfl rfl) rfl ⟨B_g1, B_g8, B_g14, trivial⟩ (fun W hS => (st_move rfl)) ?_
  clear hE a; intro a hE
  refine d_take (v := Value.int .i64 er) p3_5_11 ns3_5 (by kernel_rfl) (by kernel_rfl) (fun _ _ _ h => h) hE (wn_some g3_5_9 rfl rfl) rfl ⟨B_g1, B_g8, B_g14, trivial⟩ (fun W hS => (st_move rfl)) ?_
  clear hE a; intro a hE
  refine d_take (v := Value.bool false) p3_5_12 ns3_5 (by kernel_rfl) (by kernel_rfl) (fun _ _ _ h => h) hE (wn_some g3_5_9 rfl rfl) rfl ⟨B_g1, B_g8, B_g14, trivial⟩ (fun W hS => (st_neq (b := false) rfl rfl (by simp))) ?_
  clear hE a; intro a hE
  refine d_take (v := Value.bool false) p3_5_13 ns3_5 (by kernel_rfl) (by kernel_rfl) (fun _ _ _ h => h) hE wn_none rfl ⟨B_g1, B_g8, B_g14, trivial⟩ (fun W hS => (st_pick rfl rfl)) ?_
  clear hE a; intro a hE
  refine d_take (v := Value.bool false) p3_5_14 ns3_5 (by kernel_rfl) (by kernel_rfl) (fun _ _ _ h => h) hE wn_none rfl ⟨B_g1, B_g8, B_g14, trivial⟩ (fun W hS => (st_move rfl)) ?_
  clear hE a; intro a hE
  refine d_take (v := Value.slice A1 rest.length c1) p3_5_15 ns3_5 (by kernel_rfl) (by kernel_rfl) (fun _ _ _ h => h) hE (wn_some g3_5_14 rfl rfl) rfl ⟨B_g1, B_g8, B_g14, trivial⟩ (fun W hS => (st_move rfl)) ?_
  clear hE a; intro a hE
  refine d_take (v := Value.slice A2 rest.length c2) p3_5_16 ns3_5 (by kernel_rfl) (by kernel_rfl) (fun _ _ _ h => h) hE (wn_some g3_5_14 rfl rfl) rfl ⟨B_g1, B_g8, B_g14, trivial⟩ (fun W hS => (st_move rfl)) ?_
  clear hE a; intro a hE
  refine d_one (by kernel_rfl) (s_call (xs := [Operand.tmp 62, Operand.tmp 63]) (args := [Value.slice A1 rest.length c1, Value.slice A2 rest.length c2]) p3_5_17 hE (wn_some g3_5_14 rfl rfl) rfl rfl Try.func9 cl9 (same_kp A1 A2 c1 c2 rest rest true (by simp) _ (F_r1 _ K_s7) hc1 (F_r2 _ K_s13) hc2 (by omega)) ?_)
  rintro e w20 ⟨rfl, hk⟩
  replace B_g1 := kp_blk B_g1 hk (fun h => h)
  replace B_g8 := kp_blk B_g8 hk (fun h => h)
  replace B_g14 := kp_blk B_g14 hk (fun h => h)
  replace K_0 := K_0.then_ hk (fun _ h => h.elim)
  replace K_s7 := K_s7.then_ hk (fun _ h => h.elim)
  replace K_s13 := K_s13.then_ hk (fun _ h => h.elim)
  refine ⟨_, rfl, ?_⟩
  clear hE a; intro a hE
  refine ⟨⟨B_g1, B_g8, B_g14, trivial⟩, ?_⟩
  refine d_take (v := Value.bool false) p3_5_18 ns3_5 (by kernel_rfl) (by kernel_rfl) (fun _ _ _ h => h) hE (wn_some g3_5_14 rfl rfl) rfl ⟨B_g1, B_g8, B_g14, trivial⟩ (fun W hS => (st_not rfl rfl)) ?_
  clear hE a; intro a hE
  refine d_take (v := Value.bool false) p3_5_19 ns3_5 (by kernel_rfl) (by kernel_rfl) (fun _ _ _ h => h) hE wn_none rfl ⟨B_g1, B_g8, B_g14, trivial⟩ (fun W hS => (st_pick rfl rfl)) ?_
  clear hE a; intro a hE
  refine d_take (v := Value.bool false) p3_5_20 ns3_5 (by kernel_rfl) (by kernel_rfl) (fun _ _ _ h => h) hE wn_none rfl ⟨B_g1, B_g8, B_g14, trivial⟩ (fun W hS => (st_move rfl)) ?_
  clear hE a; intro a hE
  refine d_take (v := Value.agg #[Value.bool d, Value.bool f2, Value.bool f3, Value.int .i64 i, Value.int .i64 r]) p3_5_21 ns3_5 (by kernel_rfl) (by kernel_rfl) (fun _ _ _ h => h) hE (wn_some g3_5_20 rfl rfl) rfl ⟨B_g1, B_g8, B_g14, trivial⟩ (fun W hS => (st_loadN (off := 0) (k := 5) (vs := [Value.bool d, Value.bool f2, Value.bool f3, Value.int .i64 i, Value.int .i64 r]) tA23 tS23 rfl hS.1 rfl rfl)) ?_
  clear hE a; intro a hE
  refine d_take (v := Value.agg #[Value.bool d, Value.bool f2, Value.bool f3, Value.int .i64 i, Value.int .i64 r]) p3_5_25 ns3_5 (by kernel_rfl) (by kernel_rfl) (fun _ _ _ h => h) hE (wn_some g3_5_20 rfl rfl) rfl ⟨B_g1, B_g8, B_g14, trivial⟩ (fun W hS => (st_loadN (off := 0) (k := 5) (vs := [Value.bool d, Value.bool f2, Value.bool f3, Value.int .i64 i, Value.int .i64 r]) tA23 tS23 rfl hS.1 rfl rfl)) ?_
  clear hE a; intro a hE
  refine d_one (by kernel_rfl) (s_call (xs := [Operand.tmp 68]) (args := [Value.agg #[Value.bool d, Value.bool f2, Value.bool f3, Value.int .i64 i, Value.int .i64 r]]) p3_5_22 hE (wn_some g3_5_20 rfl rfl) rfl rfl Try.func5 cl5 (rivuletlaw06_To.calls d f2 f3 i r d f2 f3 i r _ rfl) ?_)
  rintro e w21 ⟨rfl, hb⟩
  have hk := Kp.of_below hb (fun _ => False)
  replace B_g1 := kp_blk B_g1 hk (fun h => h)
  replace B_g8 := kp_blk B_g8 hk (fun h => h)
  replace B_g14 := kp_blk B_g14 hk (fun h => h)
  replace K_0 := K_0.then_ hk (fun _ h => h.elim)
  replace K_s7 := K_s7.then_ hk (fun _ h => h.elim)
  replace K_s13 := K_s13.then_ hk (fun _ h => h.elim)
  refine ⟨_, rfl, ?_⟩
  clear hE a; intro a hE
  refine ⟨⟨B_g1, B_g8, B_g14, trivial⟩, ?_⟩
  refine d_one (by kernel_rfl) (s_call (xs := [Operand.tmp 69]) (args := [Value.agg #[Value.bool d, Value.bool f2, Value.bool f3, Value.int .i64 i, Value.int .i64 r]]) p3_5_23 hE (wn_some g3_5_20 rfl rfl) rfl rfl Try.func10 cl10 (check_any d f2 f3 i r 1 (by rw [hR]; rfl) _) ?_)
  rintro e w22 ⟨rfl, hb⟩
  have hk := Kp.of_below hb (fun _ => False)
  replace B_g1 := kp_blk B_g1 hk (fun h => h)
  replace B_g8 := kp_blk B_g8 hk (fun h => h)
  replace B_g14 := kp_blk B_g14 hk (fun h => h)
  replace K_0 := K_0.then_ hk (fun _ h => h.elim)
  replace K_s7 := K_s7.then_ hk (fun _ h => h.elim)
  replace K_s13 := K_s13.then_ hk (fun _ h => h.elim)
  refine ⟨_, rfl, ?_⟩
  clear hE a; intro a hE
  refine ⟨⟨B_g1, B_g8, B_g14, trivial⟩, ?_⟩
  refine d_take (v := Value.bool false) p3_5_24 ns3_5 (by kernel_rfl) (by kernel_rfl) (fun _ _ _ h => h) hE (wn_some g3_5_20 rfl rfl) rfl ⟨B_g1, B_g8, B_g14, trivial⟩ (fun W hS => (st_eql (b := false) rfl rfl (by decide))) ?_
  clear hE a; intro a hE
  refine d_one (by kernel_rfl) (s_call (xs := [Operand.tmp 72]) (args := [Value.agg #[Value.bool d, Value.bool f2, Value.bool f3, Value.int .i64 i, Value.int .i64 r]]) p3_5_26 hE (wn_some g3_5_20 rfl rfl) rfl rfl Try.func11 cl11 (rivuletref06_Right.calls d f2 f3 i r false _ (by rw [right_f, hR])) ?_)
  rintro e w23 ⟨rfl, hb⟩
  have hk := Kp.of_below hb (fun _ => False)
  replace B_g1 := kp_blk B_g1 hk (fun h => h)
  replace B_g8 := kp_blk B_g8 hk (fun h => h)
  replace B_g14 := kp_blk B_g14 hk (fun h => h)
  replace K_0 := K_0.then_ hk (fun _ h => h.elim)
  replace K_s7 := K_s7.then_ hk (fun _ h => h.elim)
  replace K_s13 := K_s13.then_ hk (fun _ h => h.elim)
  refine ⟨_, rfl, ?_⟩
  clear hE a; intro a hE
  refine ⟨⟨B_g1, B_g8, B_g14, trivial⟩, ?_⟩
  refine d_take (v := Value.bool false) p3_5_27 ns3_5 (by kernel_rfl) (by kernel_rfl) (fun _ _ _ h => h) hE (wn_some g3_5_20 rfl rfl) rfl ⟨B_g1, B_g8, B_g14, trivial⟩ (fun W hS => (st_neqB Try.underlying4 rfl rfl rfl)) ?_
  clear hE a; intro a hE
  refine d_take (v := Value.bool false) p3_5_28 ns3_5 (by kernel_rfl) (by kernel_rfl) (fun _ _ _ h => h) hE wn_none rfl ⟨B_g1, B_g8, B_g14, trivial⟩ (fun W hS => (st_pick rfl rfl)) ?_
  clear hE a; intro a hE
  refine d_end (by kernel_rfl) ?_
  refine x_norm ?_
  refine c_cond (t := false) hE rfl ?_
  refine wp_skip ?_
  refine x_norm ?_
  refine wp_seq ?_
  refine c_reg R3_7_l ?_
  refine p_cons (s_still p3_7_0 hE wn_none rfl (st_loadN (off := 0) (k := 5) (vs := [Value.bool d, Value.bool f2, Value.bool f3, Value.int .i64 i, Value.int .i64 r]) tA23 tS23 rfl B_g1 rfl rfl) ?_)
  clear hE a; intro a hE
  refine p_cons (s_call (xs := [Operand.tmp 76]) (args := [Value.agg #[Value.bool d, Value.bool f2, Value.bool f3, Value.int .i64 i, Value.int .i64 r]]) p3_7_1 hE wn_none rfl rfl Try.func11 cl11 (rivuletref06_Right.calls d f2 f3 i r false _ (by rw [right_f, hR])) ?_)
  rintro e w24 ⟨rfl, hb⟩
  have hk := Kp.of_below hb (fun _ => False)
  replace B_g1 := kp_blk B_g1 hk (fun h => h)
  replace B_g8 := kp_blk B_g8 hk (fun h => h)
  replace B_g14 := kp_blk B_g14 hk (fun h => h)
  replace K_0 := K_0.then_ hk (fun _ h => h.elim)
  replace K_s7 := K_s7.then_ hk (fun _ h => h.elim)
  replace K_s13 := K_s13.then_ hk (fun _ h => h.elim)
  refine ⟨_, rfl, ?_⟩
  clear hE a; intro a hE
  refine p_cons (s_still p3_7_2 hE wn_none rfl (st_not rfl rfl) ?_)
  clear hE a; intro a hE
  refine p_cons (s_still p3_7_3 hE wn_none rfl (st_move rfl) ?_)
  clear hE a; intro a hE
  refine p_cons (s_skip p3_7_4 hE (wn_some g3_7_3 rfl rfl) rfl ?_)
  clear hE a; intro a hE
  refine p_cons (s_skip p3_7_5 hE (wn_some g3_7_3 rfl rfl) rfl ?_)
  clear hE a; intro a hE
  refine p_cons (s_still p3_7_6 hE wn_none rfl (st_pick rfl rfl) ?_)
  clear hE a; intro a hE
  refine p_cons (s_still p3_7_7 hE wn_none rfl (st_move rfl) ?_)
  clear hE a; intro a hE
  refine p_cons (s_skip p3_7_8 hE (wn_some g3_7_7 rfl rfl) rfl ?_)
  clear hE a; intro a hE
  refine p_cons (s_skip p3_7_9 hE (wn_some g3_7_7 rfl rfl) rfl ?_)
  clear hE a; intro a hE
  refine p_cons (s_still p3_7_10 hE wn_none rfl (st_pick rfl rfl) ?_)
  clear hE a; intro a hE
  refine p_nil ?_
  refine x_norm ?_
  refine c_cond (t := true) hE rfl ?_
  refine c_reg R3_8_l ?_
  refine p_cons (s_call (xs := []) (args := []) p3_8_0 hE wn_none rfl rfl Try.func12 cl12 (rivuletlaw06_known.calls 25 true _ (by decide +kernel)) ?_)
  rintro e w25 ⟨rfl, hb⟩
  have hk := Kp.of_below hb (fun _ => False)
  replace B_g1 := kp_blk B_g1 hk (fun h => h)
  replace B_g8 := kp_blk B_g8 hk (fun h => h)
  replace B_g14 := kp_blk B_g14 hk (fun h => h)
  replace K_0 := K_0.then_ hk (fun _ h => h.elim)
  replace K_s7 := K_s7.then_ hk (fun _ h => h.elim)
  replace K_s13 := K_s13.then_ hk (fun _ h => h.elim)
  refine ⟨_, rfl, ?_⟩
  clear hE a; intro a hE
  refine p_cons (s_still p3_8_1 hE wn_none rfl (st_move rfl) ?_)
  clear hE a; intro a hE
  refine p_cons (s_still p3_8_2 hE (wn_some g3_8_1 rfl rfl) rfl (st_move rfl) ?_)
  clear hE a; intro a hE
  refine p_cons (s_still p3_8_3 hE (wn_some g3_8_1 rfl rfl) rfl (st_eql (b := true) rfl rfl (by decide)) ?_)
  clear hE a; intro a hE
  refine p_cons (s_still p3_8_4 hE wn_none rfl (st_pick rfl rfl) ?_)
  clear hE a; intro a hE
  refine p_cons (s_still p3_8_5 hE wn_none rfl (st_move rfl) ?_)
  clear hE a; intro a hE
  refine p_cons (s_still p3_8_6 hE (wn_some g3_8_5 rfl rfl) rfl (st_move rfl) ?_)
  clear hE a; intro a hE
  refine p_cons (s_still p3_8_7 hE (wn_some g3_8_5 rfl rfl) rfl (st_len Try.underlying24 rfl) ?_)
  clear hE a; intro a hE
  refine p_cons (s_still p3_8_8 hE (wn_some g3_8_5 rfl rfl) rfl (st_eql (b := true) rfl rfl (by decide)) ?_)
  clear hE a; intro a hE
  refine p_cons (s_still p3_8_9 hE wn_none rfl (st_pick rfl rfl) ?_)
  clear hE a; intro a hE
  refine p_cons (s_still p3_8_10 hE wn_none rfl (st_assign rfl) ?_)
  clear hE a; intro a hE
  refine p_nil ?_
  refine x_norm ?_
  refine wp_ret ?_
  refine x_ret ?_
  refine ret_one (v := Value.bool true) rfl hE (.tmp rfl .nil) ?_
  exact ⟨rfl, K_0.to (Nat.le_refl _) (fun _ h => h.elim)⟩
set_option maxHeartbeats 4000000 in
theorem law_low (n : Int) (d f2 f3 : Bool) (i r : Int) (A : Option Addr) (z l : List Int) (cap : Nat) (hx : (if (60 : Int) < (z.length : Int) then (60 : Int) else (z.length : Int)) = (l.length : Int)) (w : World) (hl : Kd.C (Kd.int .u8) w A l.length l) (hlz : l.length ≤ z.length) (hlc0 : z.length ≤ cap) (hcm : cap ≤ 9223372036854775807) (hzb : ∀ x ∈ l, 0 ≤ x ∧ x ≤ 255) (hn : fitsF 1 [n] = false) (hR : rightF i r = true) (hn0 : n < 0) : Calls Try.prog 3 #[.int .i64 n, .agg #[.bool d, .bool f2, .bool f3, .int .i64 i, .int .i64 r], .slice A z.length cap] w fun e w' => e = .returned (.bool true) ∧ Below w.heap.size w w' := by
  have K_0 := Kp.refl w (fun _ => False)
  have hl60 : l.length ≤ 60 := by split at hx <;> omega
  have hlc : l.length ≤ cap := by omega
  skip
  obtain ⟨n', q1, q2, q3, i', r', er, rest, hrl, hagree1, hagree2⟩ := agree l hl60 hzb
  have F_b : ∀ W', Kp w W' (fun _ => False) → Kd.C (Kd.int .u8) W' A l.length l := fun W' h => Kd.C_below hl (h.to (Nat.le_refl _) (fun _ h => h.elim))
  refine enter (args := [Value.int .i64 n, Value.agg #[Value.bool d, Value.bool f2, Value.bool f3, Value.int .i64 i, Value.int .i64 r], Value.slice A z.length cap]) (n := 136) Try.func3 body3 rfl rfl rfl ?_
  intro a hE
  refine c_reg R3_0_l ?_
  refine p_cons (s_box p3_0_0 hE wn_none rfl rfl ?_)
  clear hE a; intro g1 w2 z3 B_g1 hk a hE
  replace B_g1 : w2.heap[g1]? = some (.cells #[Value.bool d, Value.bool f2, Value.bool f3, Value.int .i64 i, Value.int .i64 r] 23 (0, 0)) := B_g1
  have z_0_g1 := Nat.le_trans K_0.kept.1 z3
  replace K_0 := K_0.then_ hk (fun _ h => h.elim)
  clear hk
  refine p_cons (s_still p3_0_1 hE wn_none rfl (st_assign rfl) ?_)
  clear hE a; intro a hE
  refine p_nil ?_
  refine x_norm ?_
  refine c_reg R3_1_l ?_
  refine p_cons (s_still p3_1_0 hE wn_none rfl (st_move rfl) ?_)
  clear hE a; intro a hE
  refine p_cons (s_still p3_1_1 hE wn_none rfl (st_move rfl) ?_)
  clear hE a; intro a hE
  refine p_cons (s_still p3_1_2 hE wn_none rfl (st_len Try.underlying24 rfl) ?_)
  clear hE a; intro a hE
  refine p_cons (s_still p3_1_3 hE wn_none rfl (st_min (z := (l.length : Int)) rfl rfl hx) ?_)
  clear hE a; intro a hE
  refine p_cons (s_still p3_1_4 hE wn_none rfl (st_sliceH (h := l.length) Try.underlying24 tS5 rfl rfl (by omega)) ?_)
  clear hE a; intro a hE
  refine p_cons (s_still p3_1_5 hE wn_none rfl (st_assign rfl) ?_)
  clear hE a; intro a hE
  refine p_nil ?_
  refine x_norm ?_
  refine c_reg R3_2_l ?_
  refine p_cons (s_still p3_2_0 hE wn_none rfl (st_move rfl) ?_)
  clear hE a; intro a hE
  refine p_cons (s_still p3_2_1 hE wn_none rfl (st_loadN (off := 0) (k := 5) (vs := [Value.bool d, Value.bool f2, Value.bool f3, Value.int .i64 i, Value.int .i64 r]) tA23 tS23 rfl B_g1 rfl rfl) ?_)
  clear hE a; intro a hE
  refine p_cons (s_call (xs := [Operand.tmp 28]) (args := [Value.agg #[Value.bool d, Value.bool f2, Value.bool f3, Value.int .i64 i, Value.int .i64 r]]) p3_2_2 hE wn_none rfl rfl Try.func5 cl5 (rivuletlaw06_To.calls d f2 f3 i r d f2 f3 i r _ rfl) ?_)
  rintro e w4 ⟨rfl, hb⟩
  have hk := Kp.of_below hb (fun _ => False)
  replace B_g1 := kp_blk B_g1 hk (fun h => h)
  replace K_0 := K_0.then_ hk (fun _ h => h.elim)
  refine ⟨_, rfl, ?_⟩
  clear hE a; intro a hE
  refine p_cons (s_call (xs := [Operand.tmp 27, Operand.tmp 29]) (args := [Value.int .i64 n, Value.agg #[Value.bool d, Value.bool f2, Value.bool f3, Value.int .i64 i, Value.int .i64 r]]) p3_2_3 hE wn_none rfl rfl Try.func4 cl4 (enc_next n d f2 f3 i r hn _) ?_)
  rintro e w5 ⟨rfl, hb⟩
  have hk := Kp.of_below hb (fun _ => False)
  replace B_g1 := kp_blk B_g1 hk (fun h => h)
  replace K_0 := K_0.then_ hk (fun _ h => h.elim)
  refine ⟨_, rfl, ?_⟩
  clear hE a; intro a hE
  refine p_cons (s_still p3_2_4 hE wn_none rfl (st_move rfl) ?_)
  clear hE a; intro a hE
  refine p_cons (s_still p3_2_5 hE wn_none rfl (st_extract rfl rfl) ?_)
  clear hE a; intro a hE
  refine p_cons (s_still p3_2_6 hE wn_none rfl (st_extract rfl rfl) ?_)
  clear hE a; intro a hE
  refine p_cons (s_still p3_2_7 hE wn_none rfl (st_assign rfl) ?_)
  clear hE a; intro a hE
  refine p_cons (s_still p3_2_8 hE wn_none rfl (st_assign rfl) ?_)
  clear hE a; intro a hE
  refine p_nil ?_
  refine x_norm ?_
  refine c_reg R3_3_l ?_
  refine p_cons (s_still p3_3_0 hE wn_none rfl (st_move rfl) ?_)
  clear hE a; intro a hE
  refine p_cons (s_call (xs := [Operand.tmp 34]) (args := [Value.slice A l.length cap]) p3_3_1 hE wn_none rfl rfl Try.func6 cl6 (hagree1 A cap _ (F_b _ K_0) hlc hcm) ?_)
  rintro e w6 ⟨A1, c1, rfl, hc1, hC1, hb⟩
  have hk := Kp.of_below hb (fun _ => False)
  replace B_g1 := kp_blk B_g1 hk (fun h => h)
  replace K_0 := K_0.then_ hk (fun _ h => h.elim)
  have K_s7 := Kp.refl w6 (fun _ => False)
  have F_r1 : ∀ W', Kp w6 W' (fun _ => False) → Kd.C (Kd.int .u8) W' A1 rest.length rest := fun W' h => Kd.C_below hC1 (h.to (Nat.le_refl _) (fun _ h => h.elim))
  refine ⟨_, rfl, ?_⟩
  clear hE a; intro a hE
  refine p_cons (s_still p3_3_2 hE wn_none rfl (st_move rfl) ?_)
  clear hE a; intro a hE
  refine p_cons (s_still p3_3_3 hE wn_none rfl (st_extract rfl rfl) ?_)
  clear hE a; intro a hE
  refine p_cons (s_still p3_3_4 hE wn_none rfl (st_extract rfl rfl) ?_)
  clear hE a; intro a hE
  refine p_cons (s_still p3_3_5 hE wn_none rfl (st_extract rfl rfl) ?_)
  clear hE a; intro a hE
  refine p_cons (s_still p3_3_6 hE wn_none rfl (st_extract rfl rfl) ?_)
  clear hE a; intro a hE
  refine p_cons (s_alloc p3_3_7 hE wn_none rfl tZ28 ?_)
  clear hE a; intro g8 w9 z10 B_g8 hk a hE
  replace B_g8 : w9.heap[g8]? = some (.cells #[Value.bool false, Value.bool false, Value.bool false, Value.int .i64 0, Value.int .i64 0] 28 (0, 0)) := B_g8
  have n_g1_g8 : g1 ≠ g8 := ne_new B_g1 z10
  have z_0_g8 := Nat.le_trans K_0.kept.1 z10
  have z_s7_g8 := Nat.le_trans K_s7.kept.1 z10
  replace B_g1 := kp_blk B_g1 hk (fun h => h)
  replace K_0 := K_0.then_ hk (fun _ h => h.elim)
  replace K_s7 := K_s7.then_ hk (fun _ h => h.elim)
  clear hk
  refine p_cons (s_still p3_3_8 hE wn_none rfl (st_assign rfl) ?_)
  clear hE a; intro a hE
  refine p_cons (s_store (off := 0) (k := 5) (cs' := #[Value.bool q1, Value.bool q2, Value.bool q3, Value.int .i64 i', Value.int .i64 r']) p3_3_9 hE wn_none tS28 rfl rfl rfl rfl B_g8 (by decide) rfl ?_)
  intro w11 B_g8' hk
  replace B_g1 := kp_blk B_g1 hk n_g1_g8
  replace K_0 := K_0.then_ hk (fun k h => by rw [show k = g8 from h]; exact Or.inr z_0_g8)
  replace K_s7 := K_s7.then_ hk (fun k h => by rw [show k = g8 from h]; exact Or.inr z_s7_g8)
  replace B_g8 := B_g8'
  clear hk
  refine p_cons (s_still p3_3_10 hE wn_none rfl (st_assign rfl) ?_)
  clear hE a; intro a hE
  refine p_cons (s_still p3_3_11 hE wn_none rfl (st_assign rfl) ?_)
  clear hE a; intro a hE
  refine p_nil ?_
  refine x_norm ?_
  refine c_reg R3_4_l ?_
  refine p_cons (s_still p3_4_0 hE wn_none rfl (st_move rfl) ?_)
  clear hE a; intro a hE
  refine p_cons (s_call (xs := [Operand.tmp 41]) (args := [Value.slice A l.length cap]) p3_4_1 hE wn_none rfl rfl Try.func7 cl7 (hagree2 A cap _ (F_b _ K_0) hlc) ?_)
  rintro e w12 ⟨A2, c2, rfl, hc2, hC2, hb⟩
  have hk := Kp.of_below hb (fun _ => False)
  replace B_g1 := kp_blk B_g1 hk (fun h => h)
  replace B_g8 := kp_blk B_g8 hk (fun h => h)
  replace K_0 := K_0.then_ hk (fun _ h => h.elim)
  replace K_s7 := K_s7.then_ hk (fun _ h => h.elim)
  have K_s13 := Kp.refl w12 (fun _ => False)
  have F_r2 : ∀ W', Kp w12 W' (fun _ => False) → Kd.C (Kd.int .u8) W' A2 rest.length rest := fun W' h => Kd.C_below hC2 (h.to (Nat.le_refl _) (fun _ h => h.elim))
  refine ⟨_, rfl, ?_⟩
  clear hE a; intro a hE
  refine p_cons (s_still p3_4_2 hE wn_none rfl (st_move rfl) ?_)
  clear hE a; intro a hE
  refine p_cons (s_still p3_4_3 hE wn_none rfl (st_extract rfl rfl) ?_)
  clear hE a; intro a hE
  refine p_cons (s_still p3_4_4 hE wn_none rfl (st_extract rfl rfl) ?_)
  clear hE a; intro a hE
  refine p_cons (s_still p3_4_5 hE wn_none rfl (st_extract rfl rfl) ?_)
  clear hE a; intro a hE
  refine p_cons (s_still p3_4_6 hE wn_none rfl (st_extract rfl rfl) ?_)
  clear hE a; intro a hE
  refine p_cons (s_alloc p3_4_7 hE wn_none rfl tZ23 ?_)
  clear hE a; intro g14 w15 z16 B_g14 hk a hE
  replace B_g14 : w15.heap[g14]? = some (.cells #[Value.bool false, Value.bool false, Value.bool false, Value.int .i64 0, Value.int .i64 0] 23 (0, 0)) := B_g14
  have n_g1_g14 : g1 ≠ g14 := ne_new B_g1 z16
  have n_g8_g14 : g8 ≠ g14 := ne_new B_g8 z16
  have z_0_g14 := Nat.le_trans K_0.kept.1 z16
  have z_s7_g14 := Nat.le_trans K_s7.kept.1 z16
  have z_s13_g14 := Nat.le_trans K_s13.kept.1 z16
  replace B_g1 := kp_blk B_g1 hk (fun h => h)
  replace B_g8 := kp_blk B_g8 hk (fun h => h)
  replace K_0 := K_0.then_ hk (fun _ h => h.elim)
  replace K_s7 := K_s7.then_ hk (fun _ h => h.elim)
  replace K_s13 := K_s13.then_ hk (fun _ h => h.elim)
  clear hk
  refine p_cons (s_still p3_4_8 hE wn_none rfl (st_assign rfl) ?_)
  clear hE a; intro a hE
  refine p_cons (s_store (off := 0) (k := 5) (cs' := #[Value.bool q1, Value.bool q2, Value.bool q3, Value.int .i64 i', Value.int .i64 r']) p3_4_9 hE wn_none tS23 rfl rfl rfl rfl B_g14 (by decide) rfl ?_)
  intro w17 B_g14' hk
  replace B_g1 := kp_blk B_g1 hk n_g1_g14
  replace B_g8 := kp_blk B_g8 hk n_g8_g14
  replace K_0 := K_0.then_ hk (fun k h => by rw [show k = g14 from h]; exact Or.inr z_0_g14)
  replace K_s7 := K_s7.then_ hk (fun k h => by rw [show k = g14 from h]; exact Or.inr z_s7_g14)
  replace K_s13 := K_s13.then_ hk (fun k h => by rw [show k = g14 from h]; exact Or.inr z_s13_g14)
  replace B_g14 := B_g14'
  clear hk
  refine p_cons (s_still p3_4_10 hE wn_none rfl (st_assign rfl) ?_)
  clear hE a; intro a hE
  refine p_cons (s_still p3_4_11 hE wn_none rfl (st_assign rfl) ?_)
  clear hE a; intro a hE
  refine p_nil ?_
  refine x_norm ?_
  refine wp_seq ?_
  refine c_drawS (S := fun W => W.heap[g1]? = some (.cells #[Value.bool d, Value.bool f2, Value.bool f3, Value.int .i64 i, Value.int .i64 r] 23 (0, 0)) ∧ W.heap[g8]? = some (.cells #[Value.bool q1, Value.bool q2, Value.bool q3, Value.int .i64 i', Value.int .i64 r'] 28 (0, 0)) ∧ W.heap[g14]? = some (.cells #[Value.bool q1, Value.bool q2, Value.bool q3, Value.int .i64 i', Value.int .i64 r'] 23 (0, 0)) ∧ True) rfl rfl ?_
  intro w18 hh hk
  replace B_g1 := kp_blk B_g1 hk (fun h => h)
  replace B_g8 := kp_blk B_g8 hk (fun h => h)
  replace B_g14 := kp_blk B_g14 hk (fun h => h)
  replace K_0 := K_0.then_ hk (fun _ h => h.elim)
  replace K_s7 := K_s7.then_ hk (fun _ h => h.elim)
  replace K_s13 := K_s13.then_ hk (fun _ h => h.elim)
  clear hh hk
  refine d_take (v := Value.int .i64 n') p3_5_0 ns3_5 (by kernel_rfl) (by kernel_rfl) (fun _ _ _ h => h) hE wn_none rfl ⟨B_g1, B_g8, B_g14, trivial⟩ (fun W hS => (st_move rfl)) ?_
  clear hE a; intro a hE
  refine d_take (v := Value.int .i64 n') p3_5_1 ns3_5 (by kernel_rfl) (by kernel_rfl) (fun _ _ _ h => h) hE wn_none rfl ⟨B_g1, B_g8, B_g14, trivial⟩ (fun W hS => (st_move rfl)) ?_
  clear hE a; intro a hE
  refine d_take (v := Value.bool false) p3_5_2 ns3_5 (by kernel_rfl) (by kernel_rfl) (fun _ _ _ h => h) hE wn_none rfl ⟨B_g1, B_g8, B_g14, trivial⟩ (fun W hS => (st_neq (b := false) rfl rfl (by simp))) ?_
  clear hE a; intro a hE
  refine d_take (v := Value.bool false) p3_5_3 ns3_5 (by kernel_rfl) (by kernel_rfl) (fun _ _ _ h => h) hE wn_none rfl ⟨B_g1, B_g8, B_g14, trivial⟩ (fun W hS => (st_move rfl)) ?_
  clear hE a; intro a hE
  refine d_take (v := Value.agg #[Value.bool q1, Value.bool q2, Value.bool q3, Value.int .i64 i', Value.int .i64 r']) p3_5_4 ns3_5 (by kernel_rfl) (by kernel_rfl) (fun _ _ _ h => h) hE (wn_some g3_5_3 rfl rfl) rfl ⟨B_g1, B_g8, B_g14, trivial⟩ (fun W hS => (st_loadN (off := 0) (k := 5) (vs := [Value.bool q1, Value.bool q2, Value.bool q3, Value.int .i64 i', Value.int .i64 r']) tA28 tS28 rfl hS.2.1 rfl rfl)) ?_
  clear hE a; intro a hE
  refine d_take (v := Value.agg #[Value.bool q1, Value.bool q2, Value.bool q3, Value.int .i64 i', Value.int .i64 r']) p3_5_6 ns3_5 (by kernel_rfl) (by kernel_rfl) (fun _ _ _ h => h) hE (wn_some g3_5_3 rfl rfl) rfl ⟨B_g1, B_g8, B_g14, trivial⟩ (fun W hS => (st_loadN (off := 0) (k := 5) (vs := [Value.bool q1, Value.bool q2, Value.bool q3, Value.int .i64 i', Value.int .i64 r']) tA23 tS23 rfl hS.2.2.1 rfl rfl)) ?_
  clear hE a; intro a hE
  refine d_one (by kernel_rfl) (s_call (xs := [Operand.tmp 51]) (args := [Value.agg #[Value.bool q1, Value.bool q2, Value.bool q3, Value.int .i64 i', Value.int .i64 r']]) p3_5_5 hE (wn_some g3_5_3 rfl rfl) rfl rfl Try.func8 cl8 (rivuletlaw06_Of.calls q1 q2 q3 i' r' q1 q2 q3 i' r' _ rfl) ?_)
  rintro e w19 ⟨rfl, hb⟩
  have hk := Kp.of_below hb (fun _ => False)
  replace B_g1 := kp_blk B_g1 hk (fun h => h)
  replace B_g8 := kp_blk B_g8 hk (fun h => h)
  replace B_g14 := kp_blk B_g14 hk (fun h => h)
  replace K_0 := K_0.then_ hk (fun _ h => h.elim)
  replace K_s7 := K_s7.then_ hk (fun _ h => h.elim)
  replace K_s13 := K_s13.then_ hk (fun _ h => h.elim)
  refine ⟨_, rfl, ?_⟩
  clear hE a; intro a hE
  refine ⟨⟨B_g1, B_g8, B_g14, trivial⟩, ?_⟩
  refine d_take (v := Value.bool false) p3_5_7 ns3_5 (by kernel_rfl) (by kernel_rfl) (fun _ _ _ h => h) hE (wn_some g3_5_3 rfl rfl) rfl ⟨B_g1, B_g8, B_g14, trivial⟩ (fun W hS => (st_neqA (b := true) eg23 rfl rfl (eqA23_refl _ _ _ _ _))) ?_
  clear hE a; intro a hE
  refine d_take (v := Value.bool false) p3_5_8 ns3_5 (by kernel_rfl) (by kernel_rfl) (fun _ _ _ h => h) hE wn_none rfl ⟨B_g1, B_g8, B_g14, trivial⟩ (fun W hS => (st_pick rfl rfl)) ?_
  clear hE a; intro a hE
  refine d_take (v := Value.bool false) p3_5_9 ns3_5 (by kernel_rfl) (by kernel_rfl) (fun _ _ _ h => h) hE wn_none rfl ⟨B_g1, B_g8, B_g14, trivial⟩ (fun W hS => (st_move rfl)) ?_
  clear hE a; intro a hE
  refine d_take (v := Value.int .i64 er) p3_5_10 ns3_5 (by kernel_rfl) (by kernel_rfl) (fun _ _ _ h => h) hE (wn_some g3_5_9 rfl rfl) rfl ⟨B_g1, B_g8, B_g14, trivial⟩ (fun W hS => (st_move rfl)) ?_
  clear hE a; intro a hE
  refine d_take (v := Value.int .i64 er) p3_5_11 ns3_5 (by kernel_rfl) (by kernel_rfl) (fun _ _ _ h => h) hE (wn_some g3_5_9 rfl rfl) rfl ⟨B_g1, B_g8, B_g14, trivial⟩ (fun W hS => (st_move rfl)) ?_
  clear hE a; intro a hE
  refine d_take (v := Value.bool false) p3_5_12 ns3_5 (by kernel_rfl) (by kernel_rfl) (fun _ _ _ h => h) hE (wn_some g3_5_9 rfl rfl) rfl ⟨B_g1, B_g8, B_g14, trivial⟩ (fun W hS => (st_neq (b := false) rfl rfl (by simp))) ?_
  clear hE a; intro a hE
  refine d_take (v := Value.bool false) p3_5_13 ns3_5 (by kernel_rfl) (by kernel_rfl) (fun _ _ _ h => h) hE wn_none rfl ⟨B_g1, B_g8, B_g14, trivial⟩ (fun W hS => (st_pick rfl rfl)) ?_
  clear hE a; intro a hE
  refine d_take (v := Value.bool false) p3_5_14 ns3_5 (by kernel_rfl) (by kernel_rfl) (fun _ _ _ h => h) hE wn_none rfl ⟨B_g1, B_g8, B_g14, trivial⟩ (fun W hS => (st_move rfl)) ?_
  clear hE a; intro a hE
  refine d_take (v := Value.slice A1 rest.length c1) p3_5_15 ns3_5 (by kernel_rfl) (by kernel_rfl) (fun _ _ _ h => h) hE (wn_some g3_5_14 rfl rfl) rfl ⟨B_g1, B_g8, B_g14, trivial⟩ (fun W hS => (st_move rfl)) ?_
  clear hE a; intro a hE
  refine d_take (v := Value.slice A2 rest.length c2) p3_5_16 ns3_5 (by kernel_rfl) (by kernel_rfl) (fun _ _ _ h => h) hE (wn_some g3_5_14 rfl rfl) rfl ⟨B_g1, B_g8, B_g14, trivial⟩ (fun W hS => (st_move rfl)) ?_
  clear hE a; intro a hE
  refine d_one (by kernel_rfl) (s_call (xs := [Operand.tmp 62, Operand.tmp 63]) (args := [Value.slice A1 rest.length c1, Value.slice A2 rest.length c2]) p3_5_17 hE (wn_some g3_5_14 rfl rfl) rfl rfl Try.func9 cl9 (same_kp A1 A2 c1 c2 rest rest true (by simp) _ (F_r1 _ K_s7) hc1 (F_r2 _ K_s13) hc2 (by omega)) ?_)
  rintro e w20 ⟨rfl, hk⟩
  replace B_g1 := kp_blk B_g1 hk (fun h => h)
  replace B_g8 := kp_blk B_g8 hk (fun h => h)
  replace B_g14 := kp_blk B_g14 hk (fun h => h)
  replace K_0 := K_0.then_ hk (fun _ h => h.elim)
  replace K_s7 := K_s7.then_ hk (fun _ h => h.elim)
  replace K_s13 := K_s13.then_ hk (fun _ h => h.elim)
  refine ⟨_, rfl, ?_⟩
  clear hE a; intro a hE
  refine ⟨⟨B_g1, B_g8, B_g14, trivial⟩, ?_⟩
  refine d_take (v := Value.bool false) p3_5_18 ns3_5 (by kernel_rfl) (by kernel_rfl) (fun _ _ _ h => h) hE (wn_some g3_5_14 rfl rfl) rfl ⟨B_g1, B_g8, B_g14, trivial⟩ (fun W hS => (st_not rfl rfl)) ?_
  clear hE a; intro a hE
  refine d_take (v := Value.bool false) p3_5_19 ns3_5 (by kernel_rfl) (by kernel_rfl) (fun _ _ _ h => h) hE wn_none rfl ⟨B_g1, B_g8, B_g14, trivial⟩ (fun W hS => (st_pick rfl rfl)) ?_
  clear hE a; intro a hE
  refine d_take (v := Value.bool false) p3_5_20 ns3_5 (by kernel_rfl) (by kernel_rfl) (fun _ _ _ h => h) hE wn_none rfl ⟨B_g1, B_g8, B_g14, trivial⟩ (fun W hS => (st_move rfl)) ?_
  clear hE a; intro a hE
  refine d_take (v := Value.agg #[Value.bool d, Value.bool f2, Value.bool f3, Value.int .i64 i, Value.int .i64 r]) p3_5_21 ns3_5 (by kernel_rfl) (by kernel_rfl) (fun _ _ _ h => h) hE (wn_some g3_5_20 rfl rfl) rfl ⟨B_g1, B_g8, B_g14, trivial⟩ (fun W hS => (st_loadN (off := 0) (k := 5) (vs := [Value.bool d, Value.bool f2, Value.bool f3, Value.int .i64 i, Value.int .i64 r]) tA23 tS23 rfl hS.1 rfl rfl)) ?_
  clear hE a; intro a hE
  refine d_take (v := Value.agg #[Value.bool d, Value.bool f2, Value.bool f3, Value.int .i64 i, Value.int .i64 r]) p3_5_25 ns3_5 (by kernel_rfl) (by kernel_rfl) (fun _ _ _ h => h) hE (wn_some g3_5_20 rfl rfl) rfl ⟨B_g1, B_g8, B_g14, trivial⟩ (fun W hS => (st_loadN (off := 0) (k := 5) (vs := [Value.bool d, Value.bool f2, Value.bool f3, Value.int .i64 i, Value.int .i64 r]) tA23 tS23 rfl hS.1 rfl rfl)) ?_
  clear hE a; intro a hE
  refine d_one (by kernel_rfl) (s_call (xs := [Operand.tmp 68]) (args := [Value.agg #[Value.bool d, Value.bool f2, Value.bool f3, Value.int .i64 i, Value.int .i64 r]]) p3_5_22 hE (wn_some g3_5_20 rfl rfl) rfl rfl Try.func5 cl5 (rivuletlaw06_To.calls d f2 f3 i r d f2 f3 i r _ rfl) ?_)
  rintro e w21 ⟨rfl, hb⟩
  have hk := Kp.of_below hb (fun _ => False)
  replace B_g1 := kp_blk B_g1 hk (fun h => h)
  replace B_g8 := kp_blk B_g8 hk (fun h => h)
  replace B_g14 := kp_blk B_g14 hk (fun h => h)
  replace K_0 := K_0.then_ hk (fun _ h => h.elim)
  replace K_s7 := K_s7.then_ hk (fun _ h => h.elim)
  replace K_s13 := K_s13.then_ hk (fun _ h => h.elim)
  refine ⟨_, rfl, ?_⟩
  clear hE a; intro a hE
  refine ⟨⟨B_g1, B_g8, B_g14, trivial⟩, ?_⟩
  refine d_one (by kernel_rfl) (s_call (xs := [Operand.tmp 69]) (args := [Value.agg #[Value.bool d, Value.bool f2, Value.bool f3, Value.int .i64 i, Value.int .i64 r]]) p3_5_23 hE (wn_some g3_5_20 rfl rfl) rfl rfl Try.func10 cl10 (check_any d f2 f3 i r 0 (by rw [hR]; rfl) _) ?_)
  rintro e w22 ⟨rfl, hb⟩
  have hk := Kp.of_below hb (fun _ => False)
  replace B_g1 := kp_blk B_g1 hk (fun h => h)
  replace B_g8 := kp_blk B_g8 hk (fun h => h)
  replace B_g14 := kp_blk B_g14 hk (fun h => h)
  replace K_0 := K_0.then_ hk (fun _ h => h.elim)
  replace K_s7 := K_s7.then_ hk (fun _ h => h.elim)
  replace K_s13 := K_s13.then_ hk (fun _ h => h.elim)
  refine ⟨_, rfl, ?_⟩
  clear hE a; intro a hE
  refine ⟨⟨B_g1, B_g8, B_g14, trivial⟩, ?_⟩
  refine d_take (v := Value.bool true) p3_5_24 ns3_5 (by kernel_rfl) (by kernel_rfl) (fun _ _ _ h => h) hE (wn_some g3_5_20 rfl rfl) rfl ⟨B_g1, B_g8, B_g14, trivial⟩ (fun W hS => (st_eql (b := true) rfl rfl (by decide))) ?_
  clear hE a; intro a hE
  refine d_one (by kernel_rfl) (s_call (xs := [Operand.tmp 72]) (args := [Value.agg #[Value.bool d, Value.bool f2, Value.bool f3, Value.int .i64 i, Value.int .i64 r]]) p3_5_26 hE (wn_some g3_5_20 rfl rfl) rfl rfl Try.func11 cl11 (rivuletref06_Right.calls d f2 f3 i r true _ (by rw [right_f, hR])) ?_)
  rintro e w23 ⟨rfl, hb⟩
  have hk := Kp.of_below hb (fun _ => False)
  replace B_g1 := kp_blk B_g1 hk (fun h => h)
  replace B_g8 := kp_blk B_g8 hk (fun h => h)
  replace B_g14 := kp_blk B_g14 hk (fun h => h)
  replace K_0 := K_0.then_ hk (fun _ h => h.elim)
  replace K_s7 := K_s7.then_ hk (fun _ h => h.elim)
  replace K_s13 := K_s13.then_ hk (fun _ h => h.elim)
  refine ⟨_, rfl, ?_⟩
  clear hE a; intro a hE
  refine ⟨⟨B_g1, B_g8, B_g14, trivial⟩, ?_⟩
  refine d_take (v := Value.bool false) p3_5_27 ns3_5 (by kernel_rfl) (by kernel_rfl) (fun _ _ _ h => h) hE (wn_some g3_5_20 rfl rfl) rfl ⟨B_g1, B_g8, B_g14, trivial⟩ (fun W hS => (st_neqB Try.underlying4 rfl rfl rfl)) ?_
  clear hE a; intro a hE
  refine d_take (v := Value.bool false) p3_5_28 ns3_5 (by kernel_rfl) (by kernel_rfl) (fun _ _ _ h => h) hE wn_none rfl ⟨B_g1, B_g8, B_g14, trivial⟩ (fun W hS => (st_pick rfl rfl)) ?_
  clear hE a; intro a hE
  refine d_end (by kernel_rfl) ?_
  refine x_norm ?_
  refine c_cond (t := false) hE rfl ?_
  refine wp_skip ?_
  refine x_norm ?_
  refine wp_seq ?_
  refine c_reg R3_7_l ?_
  refine p_cons (s_still p3_7_0 hE wn_none rfl (st_loadN (off := 0) (k := 5) (vs := [Value.bool d, Value.bool f2, Value.bool f3, Value.int .i64 i, Value.int .i64 r]) tA23 tS23 rfl B_g1 rfl rfl) ?_)
  clear hE a; intro a hE
  refine p_cons (s_call (xs := [Operand.tmp 76]) (args := [Value.agg #[Value.bool d, Value.bool f2, Value.bool f3, Value.int .i64 i, Value.int .i64 r]]) p3_7_1 hE wn_none rfl rfl Try.func11 cl11 (rivuletref06_Right.calls d f2 f3 i r true _ (by rw [right_f, hR])) ?_)
  rintro e w24 ⟨rfl, hb⟩
  have hk := Kp.of_below hb (fun _ => False)
  replace B_g1 := kp_blk B_g1 hk (fun h => h)
  replace B_g8 := kp_blk B_g8 hk (fun h => h)
  replace B_g14 := kp_blk B_g14 hk (fun h => h)
  replace K_0 := K_0.then_ hk (fun _ h => h.elim)
  replace K_s7 := K_s7.then_ hk (fun _ h => h.elim)
  replace K_s13 := K_s13.then_ hk (fun _ h => h.elim)
  refine ⟨_, rfl, ?_⟩
  clear hE a; intro a hE
  refine p_cons (s_still p3_7_2 hE wn_none rfl (st_not rfl rfl) ?_)
  clear hE a; intro a hE
  refine p_cons (s_still p3_7_3 hE wn_none rfl (st_move rfl) ?_)
  clear hE a; intro a hE
  refine p_cons (s_still p3_7_4 hE (wn_some g3_7_3 rfl rfl) rfl (st_move rfl) ?_)
  clear hE a; intro a hE
  refine p_cons (s_still p3_7_5 hE (wn_some g3_7_3 rfl rfl) rfl (st_lss (b := true) rfl rfl (decide_eq_true hn0)) ?_)
  clear hE a; intro a hE
  refine p_cons (s_still p3_7_6 hE wn_none rfl (st_pick rfl rfl) ?_)
  clear hE a; intro a hE
  refine p_cons (s_still p3_7_7 hE wn_none rfl (st_move rfl) ?_)
  clear hE a; intro a hE
  refine p_cons (s_skip p3_7_8 hE (wn_some g3_7_7 rfl rfl) rfl ?_)
  clear hE a; intro a hE
  refine p_cons (s_skip p3_7_9 hE (wn_some g3_7_7 rfl rfl) rfl ?_)
  clear hE a; intro a hE
  refine p_cons (s_still p3_7_10 hE wn_none rfl (st_pick rfl rfl) ?_)
  clear hE a; intro a hE
  refine p_nil ?_
  refine x_norm ?_
  refine c_cond (t := true) hE rfl ?_
  refine c_reg R3_8_l ?_
  refine p_cons (s_call (xs := []) (args := []) p3_8_0 hE wn_none rfl rfl Try.func12 cl12 (rivuletlaw06_known.calls 25 true _ (by decide +kernel)) ?_)
  rintro e w25 ⟨rfl, hb⟩
  have hk := Kp.of_below hb (fun _ => False)
  replace B_g1 := kp_blk B_g1 hk (fun h => h)
  replace B_g8 := kp_blk B_g8 hk (fun h => h)
  replace B_g14 := kp_blk B_g14 hk (fun h => h)
  replace K_0 := K_0.then_ hk (fun _ h => h.elim)
  replace K_s7 := K_s7.then_ hk (fun _ h => h.elim)
  replace K_s13 := K_s13.then_ hk (fun _ h => h.elim)
  refine ⟨_, rfl, ?_⟩
  clear hE a; intro a hE
  refine p_cons (s_still p3_8_1 hE wn_none rfl (st_move rfl) ?_)
  clear hE a; intro a hE
  refine p_cons (s_still p3_8_2 hE (wn_some g3_8_1 rfl rfl) rfl (st_move rfl) ?_)
  clear hE a; intro a hE
  refine p_cons (s_still p3_8_3 hE (wn_some g3_8_1 rfl rfl) rfl (st_eql (b := true) rfl rfl (by decide)) ?_)
  clear hE a; intro a hE
  refine p_cons (s_still p3_8_4 hE wn_none rfl (st_pick rfl rfl) ?_)
  clear hE a; intro a hE
  refine p_cons (s_still p3_8_5 hE wn_none rfl (st_move rfl) ?_)
  clear hE a; intro a hE
  refine p_cons (s_still p3_8_6 hE (wn_some g3_8_5 rfl rfl) rfl (st_move rfl) ?_)
  clear hE a; intro a hE
  refine p_cons (s_still p3_8_7 hE (wn_some g3_8_5 rfl rfl) rfl (st_len Try.underlying24 rfl) ?_)
  clear hE a; intro a hE
  refine p_cons (s_still p3_8_8 hE (wn_some g3_8_5 rfl rfl) rfl (st_eql (b := true) rfl rfl (by decide)) ?_)
  clear hE a; intro a hE
  refine p_cons (s_still p3_8_9 hE wn_none rfl (st_pick rfl rfl) ?_)
  clear hE a; intro a hE
  refine p_cons (s_still p3_8_10 hE wn_none rfl (st_assign rfl) ?_)
  clear hE a; intro a hE
  refine p_nil ?_
  refine x_norm ?_
  refine wp_ret ?_
  refine x_ret ?_
  refine ret_one (v := Value.bool true) rfl hE (.tmp rfl .nil) ?_
  exact ⟨rfl, K_0.to (Nat.le_refl _) (fun _ h => h.elim)⟩
set_option maxHeartbeats 4000000 in
theorem law_high (n : Int) (d f2 f3 : Bool) (i r : Int) (A : Option Addr) (z l : List Int) (cap : Nat) (hx : (if (60 : Int) < (z.length : Int) then (60 : Int) else (z.length : Int)) = (l.length : Int)) (w : World) (hl : Kd.C (Kd.int .u8) w A l.length l) (hlz : l.length ≤ z.length) (hlc0 : z.length ≤ cap) (hcm : cap ≤ 9223372036854775807) (hzb : ∀ x ∈ l, 0 ≤ x ∧ x ≤ 255) (hn : fitsF 1 [n] = false) (hR : rightF i r = true) (hn0 : 255 < n) : Calls Try.prog 3 #[.int .i64 n, .agg #[.bool d, .bool f2, .bool f3, .int .i64 i, .int .i64 r], .slice A z.length cap] w fun e w' => e = .returned (.bool true) ∧ Below w.heap.size w w' := by
  have K_0 := Kp.refl w (fun _ => False)
  have hl60 : l.length ≤ 60 := by split at hx <;> omega
  have hlc : l.length ≤ cap := by omega
  skip
  obtain ⟨n', q1, q2, q3, i', r', er, rest, hrl, hagree1, hagree2⟩ := agree l hl60 hzb
  have F_b : ∀ W', Kp w W' (fun _ => False) → Kd.C (Kd.int .u8) W' A l.length l := fun W' h => Kd.C_below hl (h.to (Nat.le_refl _) (fun _ h => h.elim))
  refine enter (args := [Value.int .i64 n, Value.agg #[Value.bool d, Value.bool f2, Value.bool f3, Value.int .i64 i, Value.int .i64 r], Value.slice A z.length cap]) (n := 136) Try.func3 body3 rfl rfl rfl ?_
  intro a hE
  refine c_reg R3_0_l ?_
  refine p_cons (s_box p3_0_0 hE wn_none rfl rfl ?_)
  clear hE a; intro g1 w2 z3 B_g1 hk a hE
  replace B_g1 : w2.heap[g1]? = some (.cells #[Value.bool d, Value.bool f2, Value.bool f3, Value.int .i64 i, Value.int .i64 r] 23 (0, 0)) := B_g1
  have z_0_g1 := Nat.le_trans K_0.kept.1 z3
  replace K_0 := K_0.then_ hk (fun _ h => h.elim)
  clear hk
  refine p_cons (s_still p3_0_1 hE wn_none rfl (st_assign rfl) ?_)
  clear hE a; intro a hE
  refine p_nil ?_
  refine x_norm ?_
  refine c_reg R3_1_l ?_
  refine p_cons (s_still p3_1_0 hE wn_none rfl (st_move rfl) ?_)
  clear hE a; intro a hE
  refine p_cons (s_still p3_1_1 hE wn_none rfl (st_move rfl) ?_)
  clear hE a; intro a hE
  refine p_cons (s_still p3_1_2 hE wn_none rfl (st_len Try.underlying24 rfl) ?_)
  clear hE a; intro a hE
  refine p_cons (s_still p3_1_3 hE wn_none rfl (st_min (z := (l.length : Int)) rfl rfl hx) ?_)
  clear hE a; intro a hE
  refine p_cons (s_still p3_1_4 hE wn_none rfl (st_sliceH (h := l.length) Try.underlying24 tS5 rfl rfl (by omega)) ?_)
  clear hE a; intro a hE
  refine p_cons (s_still p3_1_5 hE wn_none rfl (st_assign rfl) ?_)
  clear hE a; intro a hE
  refine p_nil ?_
  refine x_norm ?_
  refine c_reg R3_2_l ?_
  refine p_cons (s_still p3_2_0 hE wn_none rfl (st_move rfl) ?_)
  clear hE a; intro a hE
  refine p_cons (s_still p3_2_1 hE wn_none rfl (st_loadN (off := 0) (k := 5) (vs := [Value.bool d, Value.bool f2, Value.bool f3, Value.int .i64 i, Value.int .i64 r]) tA23 tS23 rfl B_g1 rfl rfl) ?_)
  clear hE a; intro a hE
  refine p_cons (s_call (xs := [Operand.tmp 28]) (args := [Value.agg #[Value.bool d, Value.bool f2, Value.bool f3, Value.int .i64 i, Value.int .i64 r]]) p3_2_2 hE wn_none rfl rfl Try.func5 cl5 (rivuletlaw06_To.calls d f2 f3 i r d f2 f3 i r _ rfl) ?_)
  rintro e w4 ⟨rfl, hb⟩
  have hk := Kp.of_below hb (fun _ => False)
  replace B_g1 := kp_blk B_g1 hk (fun h => h)
  replace K_0 := K_0.then_ hk (fun _ h => h.elim)
  refine ⟨_, rfl, ?_⟩
  clear hE a; intro a hE
  refine p_cons (s_call (xs := [Operand.tmp 27, Operand.tmp 29]) (args := [Value.int .i64 n, Value.agg #[Value.bool d, Value.bool f2, Value.bool f3, Value.int .i64 i, Value.int .i64 r]]) p3_2_3 hE wn_none rfl rfl Try.func4 cl4 (enc_next n d f2 f3 i r hn _) ?_)
  rintro e w5 ⟨rfl, hb⟩
  have hk := Kp.of_below hb (fun _ => False)
  replace B_g1 := kp_blk B_g1 hk (fun h => h)
  replace K_0 := K_0.then_ hk (fun _ h => h.elim)
  refine ⟨_, rfl, ?_⟩
  clear hE a; intro a hE
  refine p_cons (s_still p3_2_4 hE wn_none rfl (st_move rfl) ?_)
  clear hE a; intro a hE
  refine p_cons (s_still p3_2_5 hE wn_none rfl (st_extract rfl rfl) ?_)
  clear hE a; intro a hE
  refine p_cons (s_still p3_2_6 hE wn_none rfl (st_extract rfl rfl) ?_)
  clear hE a; intro a hE
  refine p_cons (s_still p3_2_7 hE wn_none rfl (st_assign rfl) ?_)
  clear hE a; intro a hE
  refine p_cons (s_still p3_2_8 hE wn_none rfl (st_assign rfl) ?_)
  clear hE a; intro a hE
  refine p_nil ?_
  refine x_norm ?_
  refine c_reg R3_3_l ?_
  refine p_cons (s_still p3_3_0 hE wn_none rfl (st_move rfl) ?_)
  clear hE a; intro a hE
  refine p_cons (s_call (xs := [Operand.tmp 34]) (args := [Value.slice A l.length cap]) p3_3_1 hE wn_none rfl rfl Try.func6 cl6 (hagree1 A cap _ (F_b _ K_0) hlc hcm) ?_)
  rintro e w6 ⟨A1, c1, rfl, hc1, hC1, hb⟩
  have hk := Kp.of_below hb (fun _ => False)
  replace B_g1 := kp_blk B_g1 hk (fun h => h)
  replace K_0 := K_0.then_ hk (fun _ h => h.elim)
  have K_s7 := Kp.refl w6 (fun _ => False)
  have F_r1 : ∀ W', Kp w6 W' (fun _ => False) → Kd.C (Kd.int .u8) W' A1 rest.length rest := fun W' h => Kd.C_below hC1 (h.to (Nat.le_refl _) (fun _ h => h.elim))
  refine ⟨_, rfl, ?_⟩
  clear hE a; intro a hE
  refine p_cons (s_still p3_3_2 hE wn_none rfl (st_move rfl) ?_)
  clear hE a; intro a hE
  refine p_cons (s_still p3_3_3 hE wn_none rfl (st_extract rfl rfl) ?_)
  clear hE a; intro a hE
  refine p_cons (s_still p3_3_4 hE wn_none rfl (st_extract rfl rfl) ?_)
  clear hE a; intro a hE
  refine p_cons (s_still p3_3_5 hE wn_none rfl (st_extract rfl rfl) ?_)
  clear hE a; intro a hE
  refine p_cons (s_still p3_3_6 hE wn_none rfl (st_extract rfl rfl) ?_)
  clear hE a; intro a hE
  refine p_cons (s_alloc p3_3_7 hE wn_none rfl tZ28 ?_)
  clear hE a; intro g8 w9 z10 B_g8 hk a hE
  replace B_g8 : w9.heap[g8]? = some (.cells #[Value.bool false, Value.bool false, Value.bool false, Value.int .i64 0, Value.int .i64 0] 28 (0, 0)) := B_g8
  have n_g1_g8 : g1 ≠ g8 := ne_new B_g1 z10
  have z_0_g8 := Nat.le_trans K_0.kept.1 z10
  have z_s7_g8 := Nat.le_trans K_s7.kept.1 z10
  replace B_g1 := kp_blk B_g1 hk (fun h => h)
  replace K_0 := K_0.then_ hk (fun _ h => h.elim)
  replace K_s7 := K_s7.then_ hk (fun _ h => h.elim)
  clear hk
  refine p_cons (s_still p3_3_8 hE wn_none rfl (st_assign rfl) ?_)
  clear hE a; intro a hE
  refine p_cons (s_store (off := 0) (k := 5) (cs' := #[Value.bool q1, Value.bool q2, Value.bool q3, Value.int .i64 i', Value.int .i64 r']) p3_3_9 hE wn_none tS28 rfl rfl rfl rfl B_g8 (by decide) rfl ?_)
  intro w11 B_g8' hk
  replace B_g1 := kp_blk B_g1 hk n_g1_g8
  replace K_0 := K_0.then_ hk (fun k h => by rw [show k = g8 from h]; exact Or.inr z_0_g8)
  replace K_s7 := K_s7.then_ hk (fun k h => by rw [show k = g8 from h]; exact Or.inr z_s7_g8)
  replace B_g8 := B_g8'
  clear hk
  refine p_cons (s_still p3_3_10 hE wn_none rfl (st_assign rfl) ?_)
  clear hE a; intro a hE
  refine p_cons (s_still p3_3_11 hE wn_none rfl (st_assign rfl) ?_)
  clear hE a; intro a hE
  refine p_nil ?_
  refine x_norm ?_
  refine c_reg R3_4_l ?_
  refine p_cons (s_still p3_4_0 hE wn_none rfl (st_move rfl) ?_)
  clear hE a; intro a hE
  refine p_cons (s_call (xs := [Operand.tmp 41]) (args := [Value.slice A l.length cap]) p3_4_1 hE wn_none rfl rfl Try.func7 cl7 (hagree2 A cap _ (F_b _ K_0) hlc) ?_)
  rintro e w12 ⟨A2, c2, rfl, hc2, hC2, hb⟩
  have hk := Kp.of_below hb (fun _ => False)
  replace B_g1 := kp_blk B_g1 hk (fun h => h)
  replace B_g8 := kp_blk B_g8 hk (fun h => h)
  replace K_0 := K_0.then_ hk (fun _ h => h.elim)
  replace K_s7 := K_s7.then_ hk (fun _ h => h.elim)
  have K_s13 := Kp.refl w12 (fun _ => False)
  have F_r2 : ∀ W', Kp w12 W' (fun _ => False) → Kd.C (Kd.int .u8) W' A2 rest.length rest := fun W' h => Kd.C_below hC2 (h.to (Nat.le_refl _) (fun _ h => h.elim))
  refine ⟨_, rfl, ?_⟩
  clear hE a; intro a hE
  refine p_cons (s_still p3_4_2 hE wn_none rfl (st_move rfl) ?_)
  clear hE a; intro a hE
  refine p_cons (s_still p3_4_3 hE wn_none rfl (st_extract rfl rfl) ?_)
  clear hE a; intro a hE
  refine p_cons (s_still p3_4_4 hE wn_none rfl (st_extract rfl rfl) ?_)
  clear hE a; intro a hE
  refine p_cons (s_still p3_4_5 hE wn_none rfl (st_extract rfl rfl) ?_)
  clear hE a; intro a hE
  refine p_cons (s_still p3_4_6 hE wn_none rfl (st_extract rfl rfl) ?_)
  clear hE a; intro a hE
  refine p_cons (s_alloc p3_4_7 hE wn_none rfl tZ23 ?_)
  clear hE a; intro g14 w15 z16 B_g14 hk a hE
  replace B_g14 : w15.heap[g14]? = some (.cells #[Value.bool false, Value.bool false, Value.bool false, Value.int .i64 0, Value.int .i64 0] 23 (0, 0)) := B_g14
  have n_g1_g14 : g1 ≠ g14 := ne_new B_g1 z16
  have n_g8_g14 : g8 ≠ g14 := ne_new B_g8 z16
  have z_0_g14 := Nat.le_trans K_0.kept.1 z16
  have z_s7_g14 := Nat.le_trans K_s7.kept.1 z16
  have z_s13_g14 := Nat.le_trans K_s13.kept.1 z16
  replace B_g1 := kp_blk B_g1 hk (fun h => h)
  replace B_g8 := kp_blk B_g8 hk (fun h => h)
  replace K_0 := K_0.then_ hk (fun _ h => h.elim)
  replace K_s7 := K_s7.then_ hk (fun _ h => h.elim)
  replace K_s13 := K_s13.then_ hk (fun _ h => h.elim)
  clear hk
  refine p_cons (s_still p3_4_8 hE wn_none rfl (st_assign rfl) ?_)
  clear hE a; intro a hE
  refine p_cons (s_store (off := 0) (k := 5) (cs' := #[Value.bool q1, Value.bool q2, Value.bool q3, Value.int .i64 i', Value.int .i64 r']) p3_4_9 hE wn_none tS23 rfl rfl rfl rfl B_g14 (by decide) rfl ?_)
  intro w17 B_g14' hk
  replace B_g1 := kp_blk B_g1 hk n_g1_g14
  replace B_g8 := kp_blk B_g8 hk n_g8_g14
  replace K_0 := K_0.then_ hk (fun k h => by rw [show k = g14 from h]; exact Or.inr z_0_g14)
  replace K_s7 := K_s7.then_ hk (fun k h => by rw [show k = g14 from h]; exact Or.inr z_s7_g14)
  replace K_s13 := K_s13.then_ hk (fun k h => by rw [show k = g14 from h]; exact Or.inr z_s13_g14)
  replace B_g14 := B_g14'
  clear hk
  refine p_cons (s_still p3_4_10 hE wn_none rfl (st_assign rfl) ?_)
  clear hE a; intro a hE
  refine p_cons (s_still p3_4_11 hE wn_none rfl (st_assign rfl) ?_)
  clear hE a; intro a hE
  refine p_nil ?_
  refine x_norm ?_
  refine wp_seq ?_
  refine c_drawS (S := fun W => W.heap[g1]? = some (.cells #[Value.bool d, Value.bool f2, Value.bool f3, Value.int .i64 i, Value.int .i64 r] 23 (0, 0)) ∧ W.heap[g8]? = some (.cells #[Value.bool q1, Value.bool q2, Value.bool q3, Value.int .i64 i', Value.int .i64 r'] 28 (0, 0)) ∧ W.heap[g14]? = some (.cells #[Value.bool q1, Value.bool q2, Value.bool q3, Value.int .i64 i', Value.int .i64 r'] 23 (0, 0)) ∧ True) rfl rfl ?_
  intro w18 hh hk
  replace B_g1 := kp_blk B_g1 hk (fun h => h)
  replace B_g8 := kp_blk B_g8 hk (fun h => h)
  replace B_g14 := kp_blk B_g14 hk (fun h => h)
  replace K_0 := K_0.then_ hk (fun _ h => h.elim)
  replace K_s7 := K_s7.then_ hk (fun _ h => h.elim)
  replace K_s13 := K_s13.then_ hk (fun _ h => h.elim)
  clear hh hk
  refine d_take (v := Value.int .i64 n') p3_5_0 ns3_5 (by kernel_rfl) (by kernel_rfl) (fun _ _ _ h => h) hE wn_none rfl ⟨B_g1, B_g8, B_g14, trivial⟩ (fun W hS => (st_move rfl)) ?_
  clear hE a; intro a hE
  refine d_take (v := Value.int .i64 n') p3_5_1 ns3_5 (by kernel_rfl) (by kernel_rfl) (fun _ _ _ h => h) hE wn_none rfl ⟨B_g1, B_g8, B_g14, trivial⟩ (fun W hS => (st_move rfl)) ?_
  clear hE a; intro a hE
  refine d_take (v := Value.bool false) p3_5_2 ns3_5 (by kernel_rfl) (by kernel_rfl) (fun _ _ _ h => h) hE wn_none rfl ⟨B_g1, B_g8, B_g14, trivial⟩ (fun W hS => (st_neq (b := false) rfl rfl (by simp))) ?_
  clear hE a; intro a hE
  refine d_take (v := Value.bool false) p3_5_3 ns3_5 (by kernel_rfl) (by kernel_rfl) (fun _ _ _ h => h) hE wn_none rfl ⟨B_g1, B_g8, B_g14, trivial⟩ (fun W hS => (st_move rfl)) ?_
  clear hE a; intro a hE
  refine d_take (v := Value.agg #[Value.bool q1, Value.bool q2, Value.bool q3, Value.int .i64 i', Value.int .i64 r']) p3_5_4 ns3_5 (by kernel_rfl) (by kernel_rfl) (fun _ _ _ h => h) hE (wn_some g3_5_3 rfl rfl) rfl ⟨B_g1, B_g8, B_g14, trivial⟩ (fun W hS => (st_loadN (off := 0) (k := 5) (vs := [Value.bool q1, Value.bool q2, Value.bool q3, Value.int .i64 i', Value.int .i64 r']) tA28 tS28 rfl hS.2.1 rfl rfl)) ?_
  clear hE a; intro a hE
  refine d_take (v := Value.agg #[Value.bool q1, Value.bool q2, Value.bool q3, Value.int .i64 i', Value.int .i64 r']) p3_5_6 ns3_5 (by kernel_rfl) (by kernel_rfl) (fun _ _ _ h => h) hE (wn_some g3_5_3 rfl rfl) rfl ⟨B_g1, B_g8, B_g14, trivial⟩ (fun W hS => (st_loadN (off := 0) (k := 5) (vs := [Value.bool q1, Value.bool q2, Value.bool q3, Value.int .i64 i', Value.int .i64 r']) tA23 tS23 rfl hS.2.2.1 rfl rfl)) ?_
  clear hE a; intro a hE
  refine d_one (by kernel_rfl) (s_call (xs := [Operand.tmp 51]) (args := [Value.agg #[Value.bool q1, Value.bool q2, Value.bool q3, Value.int .i64 i', Value.int .i64 r']]) p3_5_5 hE (wn_some g3_5_3 rfl rfl) rfl rfl Try.func8 cl8 (rivuletlaw06_Of.calls q1 q2 q3 i' r' q1 q2 q3 i' r' _ rfl) ?_)
  rintro e w19 ⟨rfl, hb⟩
  have hk := Kp.of_below hb (fun _ => False)
  replace B_g1 := kp_blk B_g1 hk (fun h => h)
  replace B_g8 := kp_blk B_g8 hk (fun h => h)
  replace B_g14 := kp_blk B_g14 hk (fun h => h)
  replace K_0 := K_0.then_ hk (fun _ h => h.elim)
  replace K_s7 := K_s7.then_ hk (fun _ h => h.elim)
  replace K_s13 := K_s13.then_ hk (fun _ h => h.elim)
  refine ⟨_, rfl, ?_⟩
  clear hE a; intro a hE
  refine ⟨⟨B_g1, B_g8, B_g14, trivial⟩, ?_⟩
  refine d_take (v := Value.bool false) p3_5_7 ns3_5 (by kernel_rfl) (by kernel_rfl) (fun _ _ _ h => h) hE (wn_some g3_5_3 rfl rfl) rfl ⟨B_g1, B_g8, B_g14, trivial⟩ (fun W hS => (st_neqA (b := true) eg23 rfl rfl (eqA23_refl _ _ _ _ _))) ?_
  clear hE a; intro a hE
  refine d_take (v := Value.bool false) p3_5_8 ns3_5 (by kernel_rfl) (by kernel_rfl) (fun _ _ _ h => h) hE wn_none rfl ⟨B_g1, B_g8, B_g14, trivial⟩ (fun W hS => (st_pick rfl rfl)) ?_
  clear hE a; intro a hE
  refine d_take (v := Value.bool false) p3_5_9 ns3_5 (by kernel_rfl) (by kernel_rfl) (fun _ _ _ h => h) hE wn_none rfl ⟨B_g1, B_g8, B_g14, trivial⟩ (fun W hS => (st_move rfl)) ?_
  clear hE a; intro a hE
  refine d_take (v := Value.int .i64 er) p3_5_10 ns3_5 (by kernel_rfl) (by kernel_rfl) (fun _ _ _ h => h) hE (wn_some g3_5_9 rfl rfl) rfl ⟨B_g1, B_g8, B_g14, trivial⟩ (fun W hS => (st_move rfl)) ?_
  clear hE a; intro a hE
  refine d_take (v := Value.int .i64 er) p3_5_11 ns3_5 (by kernel_rfl) (by kernel_rfl) (fun _ _ _ h => h) hE (wn_some g3_5_9 rfl rfl) rfl ⟨B_g1, B_g8, B_g14, trivial⟩ (fun W hS => (st_move rfl)) ?_
  clear hE a; intro a hE
  refine d_take (v := Value.bool false) p3_5_12 ns3_5 (by kernel_rfl) (by kernel_rfl) (fun _ _ _ h => h) hE (wn_some g3_5_9 rfl rfl) rfl ⟨B_g1, B_g8, B_g14, trivial⟩ (fun W hS => (st_neq (b := false) rfl rfl (by simp))) ?_
  clear hE a; intro a hE
  refine d_take (v := Value.bool false) p3_5_13 ns3_5 (by kernel_rfl) (by kernel_rfl) (fun _ _ _ h => h) hE wn_none rfl ⟨B_g1, B_g8, B_g14, trivial⟩ (fun W hS => (st_pick rfl rfl)) ?_
  clear hE a; intro a hE
  refine d_take (v := Value.bool false) p3_5_14 ns3_5 (by kernel_rfl) (by kernel_rfl) (fun _ _ _ h => h) hE wn_none rfl ⟨B_g1, B_g8, B_g14, trivial⟩ (fun W hS => (st_move rfl)) ?_
  clear hE a; intro a hE
  refine d_take (v := Value.slice A1 rest.length c1) p3_5_15 ns3_5 (by kernel_rfl) (by kernel_rfl) (fun _ _ _ h => h) hE (wn_some g3_5_14 rfl rfl) rfl ⟨B_g1, B_g8, B_g14, trivial⟩ (fun W hS => (st_move rfl)) ?_
  clear hE a; intro a hE
  refine d_take (v := Value.slice A2 rest.length c2) p3_5_16 ns3_5 (by kernel_rfl) (by kernel_rfl) (fun _ _ _ h => h) hE (wn_some g3_5_14 rfl rfl) rfl ⟨B_g1, B_g8, B_g14, trivial⟩ (fun W hS => (st_move rfl)) ?_
  clear hE a; intro a hE
  refine d_one (by kernel_rfl) (s_call (xs := [Operand.tmp 62, Operand.tmp 63]) (args := [Value.slice A1 rest.length c1, Value.slice A2 rest.length c2]) p3_5_17 hE (wn_some g3_5_14 rfl rfl) rfl rfl Try.func9 cl9 (same_kp A1 A2 c1 c2 rest rest true (by simp) _ (F_r1 _ K_s7) hc1 (F_r2 _ K_s13) hc2 (by omega)) ?_)
  rintro e w20 ⟨rfl, hk⟩
  replace B_g1 := kp_blk B_g1 hk (fun h => h)
  replace B_g8 := kp_blk B_g8 hk (fun h => h)
  replace B_g14 := kp_blk B_g14 hk (fun h => h)
  replace K_0 := K_0.then_ hk (fun _ h => h.elim)
  replace K_s7 := K_s7.then_ hk (fun _ h => h.elim)
  replace K_s13 := K_s13.then_ hk (fun _ h => h.elim)
  refine ⟨_, rfl, ?_⟩
  clear hE a; intro a hE
  refine ⟨⟨B_g1, B_g8, B_g14, trivial⟩, ?_⟩
  refine d_take (v := Value.bool false) p3_5_18 ns3_5 (by kernel_rfl) (by kernel_rfl) (fun _ _ _ h => h) hE (wn_some g3_5_14 rfl rfl) rfl ⟨B_g1, B_g8, B_g14, trivial⟩ (fun W hS => (st_not rfl rfl)) ?_
  clear hE a; intro a hE
  refine d_take (v := Value.bool false) p3_5_19 ns3_5 (by kernel_rfl) (by kernel_rfl) (fun _ _ _ h => h) hE wn_none rfl ⟨B_g1, B_g8, B_g14, trivial⟩ (fun W hS => (st_pick rfl rfl)) ?_
  clear hE a; intro a hE
  refine d_take (v := Value.bool false) p3_5_20 ns3_5 (by kernel_rfl) (by kernel_rfl) (fun _ _ _ h => h) hE wn_none rfl ⟨B_g1, B_g8, B_g14, trivial⟩ (fun W hS => (st_move rfl)) ?_
  clear hE a; intro a hE
  refine d_take (v := Value.agg #[Value.bool d, Value.bool f2, Value.bool f3, Value.int .i64 i, Value.int .i64 r]) p3_5_21 ns3_5 (by kernel_rfl) (by kernel_rfl) (fun _ _ _ h => h) hE (wn_some g3_5_20 rfl rfl) rfl ⟨B_g1, B_g8, B_g14, trivial⟩ (fun W hS => (st_loadN (off := 0) (k := 5) (vs := [Value.bool d, Value.bool f2, Value.bool f3, Value.int .i64 i, Value.int .i64 r]) tA23 tS23 rfl hS.1 rfl rfl)) ?_
  clear hE a; intro a hE
  refine d_take (v := Value.agg #[Value.bool d, Value.bool f2, Value.bool f3, Value.int .i64 i, Value.int .i64 r]) p3_5_25 ns3_5 (by kernel_rfl) (by kernel_rfl) (fun _ _ _ h => h) hE (wn_some g3_5_20 rfl rfl) rfl ⟨B_g1, B_g8, B_g14, trivial⟩ (fun W hS => (st_loadN (off := 0) (k := 5) (vs := [Value.bool d, Value.bool f2, Value.bool f3, Value.int .i64 i, Value.int .i64 r]) tA23 tS23 rfl hS.1 rfl rfl)) ?_
  clear hE a; intro a hE
  refine d_one (by kernel_rfl) (s_call (xs := [Operand.tmp 68]) (args := [Value.agg #[Value.bool d, Value.bool f2, Value.bool f3, Value.int .i64 i, Value.int .i64 r]]) p3_5_22 hE (wn_some g3_5_20 rfl rfl) rfl rfl Try.func5 cl5 (rivuletlaw06_To.calls d f2 f3 i r d f2 f3 i r _ rfl) ?_)
  rintro e w21 ⟨rfl, hb⟩
  have hk := Kp.of_below hb (fun _ => False)
  replace B_g1 := kp_blk B_g1 hk (fun h => h)
  replace B_g8 := kp_blk B_g8 hk (fun h => h)
  replace B_g14 := kp_blk B_g14 hk (fun h => h)
  replace K_0 := K_0.then_ hk (fun _ h => h.elim)
  replace K_s7 := K_s7.then_ hk (fun _ h => h.elim)
  replace K_s13 := K_s13.then_ hk (fun _ h => h.elim)
  refine ⟨_, rfl, ?_⟩
  clear hE a; intro a hE
  refine ⟨⟨B_g1, B_g8, B_g14, trivial⟩, ?_⟩
  refine d_one (by kernel_rfl) (s_call (xs := [Operand.tmp 69]) (args := [Value.agg #[Value.bool d, Value.bool f2, Value.bool f3, Value.int .i64 i, Value.int .i64 r]]) p3_5_23 hE (wn_some g3_5_20 rfl rfl) rfl rfl Try.func10 cl10 (check_any d f2 f3 i r 0 (by rw [hR]; rfl) _) ?_)
  rintro e w22 ⟨rfl, hb⟩
  have hk := Kp.of_below hb (fun _ => False)
  replace B_g1 := kp_blk B_g1 hk (fun h => h)
  replace B_g8 := kp_blk B_g8 hk (fun h => h)
  replace B_g14 := kp_blk B_g14 hk (fun h => h)
  replace K_0 := K_0.then_ hk (fun _ h => h.elim)
  replace K_s7 := K_s7.then_ hk (fun _ h => h.elim)
  replace K_s13 := K_s13.then_ hk (fun _ h => h.elim)
  refine ⟨_, rfl, ?_⟩
  clear hE a; intro a hE
  refine ⟨⟨B_g1, B_g8, B_g14, trivial⟩, ?_⟩
  refine d_take (v := Value.bool true) p3_5_24 ns3_5 (by kernel_rfl) (by kernel_rfl) (fun _ _ _ h => h) hE (wn_some g3_5_20 rfl rfl) rfl ⟨B_g1, B_g8, B_g14, trivial⟩ (fun W hS => (st_eql (b := true) rfl rfl (by decide))) ?_
  clear hE a; intro a hE
  refine d_one (by kernel_rfl) (s_call (xs := [Operand.tmp 72]) (args := [Value.agg #[Value.bool d, Value.bool f2, Value.bool f3, Value.int .i64 i, Value.int .i64 r]]) p3_5_26 hE (wn_some g3_5_20 rfl rfl) rfl rfl Try.func11 cl11 (rivuletref06_Right.calls d f2 f3 i r true _ (by rw [right_f, hR])) ?_)
  rintro e w23 ⟨rfl, hb⟩
  have hk := Kp.of_below hb (fun _ => False)
  replace B_g1 := kp_blk B_g1 hk (fun h => h)
  replace B_g8 := kp_blk B_g8 hk (fun h => h)
  replace B_g14 := kp_blk B_g14 hk (fun h => h)
  replace K_0 := K_0.then_ hk (fun _ h => h.elim)
  replace K_s7 := K_s7.then_ hk (fun _ h => h.elim)
  replace K_s13 := K_s13.then_ hk (fun _ h => h.elim)
  refine ⟨_, rfl, ?_⟩
  clear hE a; intro a hE
  refine ⟨⟨B_g1, B_g8, B_g14, trivial⟩, ?_⟩
  refine d_take (v := Value.bool false) p3_5_27 ns3_5 (by kernel_rfl) (by kernel_rfl) (fun _ _ _ h => h) hE (wn_some g3_5_20 rfl rfl) rfl ⟨B_g1, B_g8, B_g14, trivial⟩ (fun W hS => (st_neqB Try.underlying4 rfl rfl rfl)) ?_
  clear hE a; intro a hE
  refine d_take (v := Value.bool false) p3_5_28 ns3_5 (by kernel_rfl) (by kernel_rfl) (fun _ _ _ h => h) hE wn_none rfl ⟨B_g1, B_g8, B_g14, trivial⟩ (fun W hS => (st_pick rfl rfl)) ?_
  clear hE a; intro a hE
  refine d_end (by kernel_rfl) ?_
  refine x_norm ?_
  refine c_cond (t := false) hE rfl ?_
  refine wp_skip ?_
  refine x_norm ?_
  refine wp_seq ?_
  refine c_reg R3_7_l ?_
  refine p_cons (s_still p3_7_0 hE wn_none rfl (st_loadN (off := 0) (k := 5) (vs := [Value.bool d, Value.bool f2, Value.bool f3, Value.int .i64 i, Value.int .i64 r]) tA23 tS23 rfl B_g1 rfl rfl) ?_)
  clear hE a; intro a hE
  refine p_cons (s_call (xs := [Operand.tmp 76]) (args := [Value.agg #[Value.bool d, Value.bool f2, Value.bool f3, Value.int .i64 i, Value.int .i64 r]]) p3_7_1 hE wn_none rfl rfl Try.func11 cl11 (rivuletref06_Right.calls d f2 f3 i r true _ (by rw [right_f, hR])) ?_)
  rintro e w24 ⟨rfl, hb⟩
  have hk := Kp.of_below hb (fun _ => False)
  replace B_g1 := kp_blk B_g1 hk (fun h => h)
  replace B_g8 := kp_blk B_g8 hk (fun h => h)
  replace B_g14 := kp_blk B_g14 hk (fun h => h)
  replace K_0 := K_0.then_ hk (fun _ h => h.elim)
  replace K_s7 := K_s7.then_ hk (fun _ h => h.elim)
  replace K_s13 := K_s13.then_ hk (fun _ h => h.elim)
  refine ⟨_, rfl, ?_⟩
  clear hE a; intro a hE
  refine p_cons (s_still p3_7_2 hE wn_none rfl (st_not rfl rfl) ?_)
  clear hE a; intro a hE
  refine p_cons (s_still p3_7_3 hE wn_none rfl (st_move rfl) ?_)
  clear hE a; intro a hE
  refine p_cons (s_still p3_7_4 hE (wn_some g3_7_3 rfl rfl) rfl (st_move rfl) ?_)
  clear hE a; intro a hE
  refine p_cons (s_still p3_7_5 hE (wn_some g3_7_3 rfl rfl) rfl (st_lss (b := false) rfl rfl (decide_eq_false (by omega))) ?_)
  clear hE a; intro a hE
  refine p_cons (s_still p3_7_6 hE wn_none rfl (st_pick rfl rfl) ?_)
  clear hE a; intro a hE
  refine p_cons (s_still p3_7_7 hE wn_none rfl (st_move rfl) ?_)
  clear hE a; intro a hE
  refine p_cons (s_still p3_7_8 hE (wn_some g3_7_7 rfl rfl) rfl (st_move rfl) ?_)
  clear hE a; intro a hE
  refine p_cons (s_still p3_7_9 hE (wn_some g3_7_7 rfl rfl) rfl (st_gtr (b := true) rfl rfl (decide_eq_true hn0)) ?_)
  clear hE a; intro a hE
  refine p_cons (s_still p3_7_10 hE wn_none rfl (st_pick rfl rfl) ?_)
  clear hE a; intro a hE
  refine p_nil ?_
  refine x_norm ?_
  refine c_cond (t := true) hE rfl ?_
  refine c_reg R3_8_l ?_
  refine p_cons (s_call (xs := []) (args := []) p3_8_0 hE wn_none rfl rfl Try.func12 cl12 (rivuletlaw06_known.calls 25 true _ (by decide +kernel)) ?_)
  rintro e w25 ⟨rfl, hb⟩
  have hk := Kp.of_below hb (fun _ => False)
  replace B_g1 := kp_blk B_g1 hk (fun h => h)
  replace B_g8 := kp_blk B_g8 hk (fun h => h)
  replace B_g14 := kp_blk B_g14 hk (fun h => h)
  replace K_0 := K_0.then_ hk (fun _ h => h.elim)
  replace K_s7 := K_s7.then_ hk (fun _ h => h.elim)
  replace K_s13 := K_s13.then_ hk (fun _ h => h.elim)
  refine ⟨_, rfl, ?_⟩
  clear hE a; intro a hE
  refine p_cons (s_still p3_8_1 hE wn_none rfl (st_move rfl) ?_)
  clear hE a; intro a hE
  refine p_cons (s_still p3_8_2 hE (wn_some g3_8_1 rfl rfl) rfl (st_move rfl) ?_)
  clear hE a; intro a hE
  refine p_cons (s_still p3_8_3 hE (wn_some g3_8_1 rfl rfl) rfl (st_eql (b := true) rfl rfl (by decide)) ?_)
  clear hE a; intro a hE
  refine p_cons (s_still p3_8_4 hE wn_none rfl (st_pick rfl rfl) ?_)
  clear hE a; intro a hE
  refine p_cons (s_still p3_8_5 hE wn_none rfl (st_move rfl) ?_)
  clear hE a; intro a hE
  refine p_cons (s_still p3_8_6 hE (wn_some g3_8_5 rfl rfl) rfl (st_move rfl) ?_)
  clear hE a; intro a hE
  refine p_cons (s_still p3_8_7 hE (wn_some g3_8_5 rfl rfl) rfl (st_len Try.underlying24 rfl) ?_)
  clear hE a; intro a hE
  refine p_cons (s_still p3_8_8 hE (wn_some g3_8_5 rfl rfl) rfl (st_eql (b := true) rfl rfl (by decide)) ?_)
  clear hE a; intro a hE
  refine p_cons (s_still p3_8_9 hE wn_none rfl (st_pick rfl rfl) ?_)
  clear hE a; intro a hE
  refine p_cons (s_still p3_8_10 hE wn_none rfl (st_assign rfl) ?_)
  clear hE a; intro a hE
  refine p_nil ?_
  refine x_norm ?_
  refine wp_ret ?_
  refine x_ret ?_
  refine ret_one (v := Value.bool true) rfl hE (.tmp rfl .nil) ?_
  exact ⟨rfl, K_0.to (Nat.le_refl _) (fun _ h => h.elim)⟩
set_option maxHeartbeats 4000000 in
theorem law_bad2 (n : Int) (d f2 f3 : Bool) (i r : Int) (A : Option Addr) (z l : List Int) (cap : Nat) (hx : (if (60 : Int) < (z.length : Int) then (60 : Int) else (z.length : Int)) = (l.length : Int)) (w : World) (hl : Kd.C (Kd.int .u8) w A l.length l) (hlz : l.length ≤ z.length) (hlc0 : z.length ≤ cap) (hcm : cap ≤ 9223372036854775807) (hzb : ∀ x ∈ l, 0 ≤ x ∧ x ≤ 255) (hn : fitsF 1 [n] = false) (hr : rightF i r = false) : Calls Try.prog 3 #[.int .i64 n, .agg #[.bool d, .bool f2, .bool f3, .int .i64 i, .int .i64 r], .slice A z.length cap] w fun e w' => e = .returned (.bool true) ∧ Below w.heap.size w w' := by
  have K_0 := Kp.refl w (fun _ => False)
  have hl60 : l.length ≤ 60 := by split at hx <;> omega
  have hlc : l.length ≤ cap := by omega
  have hR := hr
  obtain ⟨n', q1, q2, q3, i', r', er, rest, hrl, hagree1, hagree2⟩ := agree l hl60 hzb
  have F_b : ∀ W', Kp w W' (fun _ => False) → Kd.C (Kd.int .u8) W' A l.length l := fun W' h => Kd.C_below hl (h.to (Nat.le_refl _) (fun _ h => h.elim))
  refine enter (args := [Value.int .i64 n, Value.agg #[Value.bool d, Value.bool f2, Value.bool f3, Value.int .i64 i, Value.int .i64 r], Value.slice A z.length cap]) (n := 136) Try.func3 body3 rfl rfl rfl ?_
  intro a hE
  refine c_reg R3_0_l ?_
  refine p_cons (s_box p3_0_0 hE wn_none rfl rfl ?_)
  clear hE a; intro g1 w2 z3 B_g1 hk a hE
  replace B_g1 : w2.heap[g1]? = some (.cells #[Value.bool d, Value.bool f2, Value.bool f3, Value.int .i64 i, Value.int .i64 r] 23 (0, 0)) := B_g1
  have z_0_g1 := Nat.le_trans K_0.kept.1 z3
  replace K_0 := K_0.then_ hk (fun _ h => h.elim)
  clear hk
  refine p_cons (s_still p3_0_1 hE wn_none rfl (st_assign rfl) ?_)
  clear hE a; intro a hE
  refine p_nil ?_
  refine x_norm ?_
  refine c_reg R3_1_l ?_
  refine p_cons (s_still p3_1_0 hE wn_none rfl (st_move rfl) ?_)
  clear hE a; intro a hE
  refine p_cons (s_still p3_1_1 hE wn_none rfl (st_move rfl) ?_)
  clear hE a; intro a hE
  refine p_cons (s_still p3_1_2 hE wn_none rfl (st_len Try.underlying24 rfl) ?_)
  clear hE a; intro a hE
  refine p_cons (s_still p3_1_3 hE wn_none rfl (st_min (z := (l.length : Int)) rfl rfl hx) ?_)
  clear hE a; intro a hE
  refine p_cons (s_still p3_1_4 hE wn_none rfl (st_sliceH (h := l.length) Try.underlying24 tS5 rfl rfl (by omega)) ?_)
  clear hE a; intro a hE
  refine p_cons (s_still p3_1_5 hE wn_none rfl (st_assign rfl) ?_)
  clear hE a; intro a hE
  refine p_nil ?_
  refine x_norm ?_
  refine c_reg R3_2_l ?_
  refine p_cons (s_still p3_2_0 hE wn_none rfl (st_move rfl) ?_)
  clear hE a; intro a hE
  refine p_cons (s_still p3_2_1 hE wn_none rfl (st_loadN (off := 0) (k := 5) (vs := [Value.bool d, Value.bool f2, Value.bool f3, Value.int .i64 i, Value.int .i64 r]) tA23 tS23 rfl B_g1 rfl rfl) ?_)
  clear hE a; intro a hE
  refine p_cons (s_call (xs := [Operand.tmp 28]) (args := [Value.agg #[Value.bool d, Value.bool f2, Value.bool f3, Value.int .i64 i, Value.int .i64 r]]) p3_2_2 hE wn_none rfl rfl Try.func5 cl5 (rivuletlaw06_To.calls d f2 f3 i r d f2 f3 i r _ rfl) ?_)
  rintro e w4 ⟨rfl, hb⟩
  have hk := Kp.of_below hb (fun _ => False)
  replace B_g1 := kp_blk B_g1 hk (fun h => h)
  replace K_0 := K_0.then_ hk (fun _ h => h.elim)
  refine ⟨_, rfl, ?_⟩
  clear hE a; intro a hE
  refine p_cons (s_call (xs := [Operand.tmp 27, Operand.tmp 29]) (args := [Value.int .i64 n, Value.agg #[Value.bool d, Value.bool f2, Value.bool f3, Value.int .i64 i, Value.int .i64 r]]) p3_2_3 hE wn_none rfl rfl Try.func4 cl4 (enc_next n d f2 f3 i r hn _) ?_)
  rintro e w5 ⟨rfl, hb⟩
  have hk := Kp.of_below hb (fun _ => False)
  replace B_g1 := kp_blk B_g1 hk (fun h => h)
  replace K_0 := K_0.then_ hk (fun _ h => h.elim)
  refine ⟨_, rfl, ?_⟩
  clear hE a; intro a hE
  refine p_cons (s_still p3_2_4 hE wn_none rfl (st_move rfl) ?_)
  clear hE a; intro a hE
  refine p_cons (s_still p3_2_5 hE wn_none rfl (st_extract rfl rfl) ?_)
  clear hE a; intro a hE
  refine p_cons (s_still p3_2_6 hE wn_none rfl (st_extract rfl rfl) ?_)
  clear hE a; intro a hE
  refine p_cons (s_still p3_2_7 hE wn_none rfl (st_assign rfl) ?_)
  clear hE a; intro a hE
  refine p_cons (s_still p3_2_8 hE wn_none rfl (st_assign rfl) ?_)
  clear hE a; intro a hE
  refine p_nil ?_
  refine x_norm ?_
  refine c_reg R3_3_l ?_
  refine p_cons (s_still p3_3_0 hE wn_none rfl (st_move rfl) ?_)
  clear hE a; intro a hE
  refine p_cons (s_call (xs := [Operand.tmp 34]) (args := [Value.slice A l.length cap]) p3_3_1 hE wn_none rfl rfl Try.func6 cl6 (hagree1 A cap _ (F_b _ K_0) hlc hcm) ?_)
  rintro e w6 ⟨A1, c1, rfl, hc1, hC1, hb⟩
  have hk := Kp.of_below hb (fun _ => False)
  replace B_g1 := kp_blk B_g1 hk (fun h => h)
  replace K_0 := K_0.then_ hk (fun _ h => h.elim)
  have K_s7 := Kp.refl w6 (fun _ => False)
  have F_r1 : ∀ W', Kp w6 W' (fun _ => False) → Kd.C (Kd.int .u8) W' A1 rest.length rest := fun W' h => Kd.C_below hC1 (h.to (Nat.le_refl _) (fun _ h => h.elim))
  refine ⟨_, rfl, ?_⟩
  clear hE a; intro a hE
  refine p_cons (s_still p3_3_2 hE wn_none rfl (st_move rfl) ?_)
  clear hE a; intro a hE
  refine p_cons (s_still p3_3_3 hE wn_none rfl (st_extract rfl rfl) ?_)
  clear hE a; intro a hE
  refine p_cons (s_still p3_3_4 hE wn_none rfl (st_extract rfl rfl) ?_)
  clear hE a; intro a hE
  refine p_cons (s_still p3_3_5 hE wn_none rfl (st_extract rfl rfl) ?_)
  clear hE a; intro a hE
  refine p_cons (s_still p3_3_6 hE wn_none rfl (st_extract rfl rfl) ?_)
  clear hE a; intro a hE
  refine p_cons (s_alloc p3_3_7 hE wn_none rfl tZ28 ?_)
  clear hE a; intro g8 w9 z10 B_g8 hk a hE
  replace B_g8 : w9.heap[g8]? = some (.cells #[Value.bool false, Value.bool false, Value.bool false, Value.int .i64 0, Value.int .i64 0] 28 (0, 0)) := B_g8
  have n_g1_g8 : g1 ≠ g8 := ne_new B_g1 z10
  have z_0_g8 := Nat.le_trans K_0.kept.1 z10
  have z_s7_g8 := Nat.le_trans K_s7.kept.1 z10
  replace B_g1 := kp_blk B_g1 hk (fun h => h)
  replace K_0 := K_0.then_ hk (fun _ h => h.elim)
  replace K_s7 := K_s7.then_ hk (fun _ h => h.elim)
  clear hk
  refine p_cons (s_still p3_3_8 hE wn_none rfl (st_assign rfl) ?_)
  clear hE a; intro a hE
  refine p_cons (s_store (off := 0) (k := 5) (cs' := #[Value.bool q1, Value.bool q2, Value.bool q3, Value.int .i64 i', Value.int .i64 r']) p3_3_9 hE wn_none tS28 rfl rfl rfl rfl B_g8 (by decide) rfl ?_)
  intro w11 B_g8' hk
  replace B_g1 := kp_blk B_g1 hk n_g1_g8
  replace K_0 := K_0.then_ hk (fun k h => by rw [show k = g8 from h]; exact Or.inr z_0_g8)
  replace K_s7 := K_s7.then_ hk (fun k h => by rw [show k = g8 from h]; exact Or.inr z_s7_g8)
  replace B_g8 := B_g8'
  clear hk
  refine p_cons (s_still p3_3_10 hE wn_none rfl (st_assign rfl) ?_)
  clear hE a; intro a hE
  refine p_cons (s_still p3_3_11 hE wn_none rfl (st_assign rfl) ?_)
  clear hE a; intro a hE
  refine p_nil ?_
  refine x_norm ?_
  refine c_reg R3_4_l ?_
  refine p_cons (s_still p3_4_0 hE wn_none rfl (st_move rfl) ?_)
  clear hE a; intro a hE
  refine p_cons (s_call (xs := [Operand.tmp 41]) (args := [Value.slice A l.length cap]) p3_4_1 hE wn_none rfl rfl Try.func7 cl7 (hagree2 A cap _ (F_b _ K_0) hlc) ?_)
  rintro e w12 ⟨A2, c2, rfl, hc2, hC2, hb⟩
  have hk := Kp.of_below hb (fun _ => False)
  replace B_g1 := kp_blk B_g1 hk (fun h => h)
  replace B_g8 := kp_blk B_g8 hk (fun h => h)
  replace K_0 := K_0.then_ hk (fun _ h => h.elim)
  replace K_s7 := K_s7.then_ hk (fun _ h => h.elim)
  have K_s13 := Kp.refl w12 (fun _ => False)
  have F_r2 : ∀ W', Kp w12 W' (fun _ => False) → Kd.C (Kd.int .u8) W' A2 rest.length rest := fun W' h => Kd.C_below hC2 (h.to (Nat.le_refl _) (fun _ h => h.elim))
  refine ⟨_, rfl, ?_⟩
  clear hE a; intro a hE
  refine p_cons (s_still p3_4_2 hE wn_none rfl (st_move rfl) ?_)
  clear hE a; intro a hE
  refine p_cons (s_still p3_4_3 hE wn_none rfl (st_extract rfl rfl) ?_)
  clear hE a; intro a hE
  refine p_cons (s_still p3_4_4 hE wn_none rfl (st_extract rfl rfl) ?_)
  clear hE a; intro a hE
  refine p_cons (s_still p3_4_5 hE wn_none rfl (st_extract rfl rfl) ?_)
  clear hE a; intro a hE
  refine p_cons (s_still p3_4_6 hE wn_none rfl (st_extract rfl rfl) ?_)
  clear hE a; intro a hE
  refine p_cons (s_alloc p3_4_7 hE wn_none rfl tZ23 ?_)
  clear hE a; intro g14 w15 z16 B_g14 hk a hE
  replace B_g14 : w15.heap[g14]? = some (.cells #[Value.bool false, Value.bool false, Value.bool false, Value.int .i64 0, Value.int .i64 0] 23 (0, 0)) := B_g14
  have n_g1_g14 : g1 ≠ g14 := ne_new B_g1 z16
  have n_g8_g14 : g8 ≠ g14 := ne_new B_g8 z16
  have z_0_g14 := Nat.le_trans K_0.kept.1 z16
  have z_s7_g14 := Nat.le_trans K_s7.kept.1 z16
  have z_s13_g14 := Nat.le_trans K_s13.kept.1 z16
  replace B_g1 := kp_blk B_g1 hk (fun h => h)
  replace B_g8 := kp_blk B_g8 hk (fun h => h)
  replace K_0 := K_0.then_ hk (fun _ h => h.elim)
  replace K_s7 := K_s7.then_ hk (fun _ h => h.elim)
  replace K_s13 := K_s13.then_ hk (fun _ h => h.elim)
  clear hk
  refine p_cons (s_still p3_4_8 hE wn_none rfl (st_assign rfl) ?_)
  clear hE a; intro a hE
  refine p_cons (s_store (off := 0) (k := 5) (cs' := #[Value.bool q1, Value.bool q2, Value.bool q3, Value.int .i64 i', Value.int .i64 r']) p3_4_9 hE wn_none tS23 rfl rfl rfl rfl B_g14 (by decide) rfl ?_)
  intro w17 B_g14' hk
  replace B_g1 := kp_blk B_g1 hk n_g1_g14
  replace B_g8 := kp_blk B_g8 hk n_g8_g14
  replace K_0 := K_0.then_ hk (fun k h => by rw [show k = g14 from h]; exact Or.inr z_0_g14)
  replace K_s7 := K_s7.then_ hk (fun k h => by rw [show k = g14 from h]; exact Or.inr z_s7_g14)
  replace K_s13 := K_s13.then_ hk (fun k h => by rw [show k = g14 from h]; exact Or.inr z_s13_g14)
  replace B_g14 := B_g14'
  clear hk
  refine p_cons (s_still p3_4_10 hE wn_none rfl (st_assign rfl) ?_)
  clear hE a; intro a hE
  refine p_cons (s_still p3_4_11 hE wn_none rfl (st_assign rfl) ?_)
  clear hE a; intro a hE
  refine p_nil ?_
  refine x_norm ?_
  refine wp_seq ?_
  refine c_drawS (S := fun W => W.heap[g1]? = some (.cells #[Value.bool d, Value.bool f2, Value.bool f3, Value.int .i64 i, Value.int .i64 r] 23 (0, 0)) ∧ W.heap[g8]? = some (.cells #[Value.bool q1, Value.bool q2, Value.bool q3, Value.int .i64 i', Value.int .i64 r'] 28 (0, 0)) ∧ W.heap[g14]? = some (.cells #[Value.bool q1, Value.bool q2, Value.bool q3, Value.int .i64 i', Value.int .i64 r'] 23 (0, 0)) ∧ True) rfl rfl ?_
  intro w18 hh hk
  replace B_g1 := kp_blk B_g1 hk (fun h => h)
  replace B_g8 := kp_blk B_g8 hk (fun h => h)
  replace B_g14 := kp_blk B_g14 hk (fun h => h)
  replace K_0 := K_0.then_ hk (fun _ h => h.elim)
  replace K_s7 := K_s7.then_ hk (fun _ h => h.elim)
  replace K_s13 := K_s13.then_ hk (fun _ h => h.elim)
  clear hh hk
  refine d_take (v := Value.int .i64 n') p3_5_0 ns3_5 (by kernel_rfl) (by kernel_rfl) (fun _ _ _ h => h) hE wn_none rfl ⟨B_g1, B_g8, B_g14, trivial⟩ (fun W hS => (st_move rfl)) ?_
  clear hE a; intro a hE
  refine d_take (v := Value.int .i64 n') p3_5_1 ns3_5 (by kernel_rfl) (by kernel_rfl) (fun _ _ _ h => h) hE wn_none rfl ⟨B_g1, B_g8, B_g14, trivial⟩ (fun W hS => (st_move rfl)) ?_
  clear hE a; intro a hE
  refine d_take (v := Value.bool false) p3_5_2 ns3_5 (by kernel_rfl) (by kernel_rfl) (fun _ _ _ h => h) hE wn_none rfl ⟨B_g1, B_g8, B_g14, trivial⟩ (fun W hS => (st_neq (b := false) rfl rfl (by simp))) ?_
  clear hE a; intro a hE
  refine d_take (v := Value.bool false) p3_5_3 ns3_5 (by kernel_rfl) (by kernel_rfl) (fun _ _ _ h => h) hE wn_none rfl ⟨B_g1, B_g8, B_g14, trivial⟩ (fun W hS => (st_move rfl)) ?_
  clear hE a; intro a hE
  refine d_take (v := Value.agg #[Value.bool q1, Value.bool q2, Value.bool q3, Value.int .i64 i', Value.int .i64 r']) p3_5_4 ns3_5 (by kernel_rfl) (by kernel_rfl) (fun _ _ _ h => h) hE (wn_some g3_5_3 rfl rfl) rfl ⟨B_g1, B_g8, B_g14, trivial⟩ (fun W hS => (st_loadN (off := 0) (k := 5) (vs := [Value.bool q1, Value.bool q2, Value.bool q3, Value.int .i64 i', Value.int .i64 r']) tA28 tS28 rfl hS.2.1 rfl rfl)) ?_
  clear hE a; intro a hE
  refine d_take (v := Value.agg #[Value.bool q1, Value.bool q2, Value.bool q3, Value.int .i64 i', Value.int .i64 r']) p3_5_6 ns3_5 (by kernel_rfl) (by kernel_rfl) (fun _ _ _ h => h) hE (wn_some g3_5_3 rfl rfl) rfl ⟨B_g1, B_g8, B_g14, trivial⟩ (fun W hS => (st_loadN (off := 0) (k := 5) (vs := [Value.bool q1, Value.bool q2, Value.bool q3, Value.int .i64 i', Value.int .i64 r']) tA23 tS23 rfl hS.2.2.1 rfl rfl)) ?_
  clear hE a; intro a hE
  refine d_one (by kernel_rfl) (s_call (xs := [Operand.tmp 51]) (args := [Value.agg #[Value.bool q1, Value.bool q2, Value.bool q3, Value.int .i64 i', Value.int .i64 r']]) p3_5_5 hE (wn_some g3_5_3 rfl rfl) rfl rfl Try.func8 cl8 (rivuletlaw06_Of.calls q1 q2 q3 i' r' q1 q2 q3 i' r' _ rfl) ?_)
  rintro e w19 ⟨rfl, hb⟩
  have hk := Kp.of_below hb (fun _ => False)
  replace B_g1 := kp_blk B_g1 hk (fun h => h)
  replace B_g8 := kp_blk B_g8 hk (fun h => h)
  replace B_g14 := kp_blk B_g14 hk (fun h => h)
  replace K_0 := K_0.then_ hk (fun _ h => h.elim)
  replace K_s7 := K_s7.then_ hk (fun _ h => h.elim)
  replace K_s13 := K_s13.then_ hk (fun _ h => h.elim)
  refine ⟨_, rfl, ?_⟩
  clear hE a; intro a hE
  refine ⟨⟨B_g1, B_g8, B_g14, trivial⟩, ?_⟩
  refine d_take (v := Value.bool false) p3_5_7 ns3_5 (by kernel_rfl) (by kernel_rfl) (fun _ _ _ h => h) hE (wn_some g3_5_3 rfl rfl) rfl ⟨B_g1, B_g8, B_g14, trivial⟩ (fun W hS => (st_neqA (b := true) eg23 rfl rfl (eqA23_refl _ _ _ _ _))) ?_
  clear hE a; intro a hE
  refine d_take (v := Value.bool false) p3_5_8 ns3_5 (by kernel_rfl) (by kernel_rfl) (fun _ _ _ h => h) hE wn_none rfl ⟨B_g1, B_g8, B_g14, trivial⟩ (fun W hS => (st_pick rfl rfl)) ?_
  clear hE a; intro a hE
  refine d_take (v := Value.bool false) p3_5_9 ns3_5 (by kernel_rfl) (by kernel_rfl) (fun _ _ _ h => h) hE wn_none rfl ⟨B_g1, B_g8, B_g14, trivial⟩ (fun W hS => (st_move rfl)) ?_
  clear hE a; intro a hE
  refine d_take (v := Value.int .i64 er) p3_5_10 ns3_5 (by kernel_rfl) (by kernel_rfl) (fun _ _ _ h => h) hE (wn_some g3_5_9 rfl rfl) rfl ⟨B_g1, B_g8, B_g14, trivial⟩ (fun W hS => (st_move rfl)) ?_
  clear hE a; intro a hE
  refine d_take (v := Value.int .i64 er) p3_5_11 ns3_5 (by kernel_rfl) (by kernel_rfl) (fun _ _ _ h => h) hE (wn_some g3_5_9 rfl rfl) rfl ⟨B_g1, B_g8, B_g14, trivial⟩ (fun W hS => (st_move rfl)) ?_
  clear hE a; intro a hE
  refine d_take (v := Value.bool false) p3_5_12 ns3_5 (by kernel_rfl) (by kernel_rfl) (fun _ _ _ h => h) hE (wn_some g3_5_9 rfl rfl) rfl ⟨B_g1, B_g8, B_g14, trivial⟩ (fun W hS => (st_neq (b := false) rfl rfl (by simp))) ?_
  clear hE a; intro a hE
  refine d_take (v := Value.bool false) p3_5_13 ns3_5 (by kernel_rfl) (by kernel_rfl) (fun _ _ _ h => h) hE wn_none rfl ⟨B_g1, B_g8, B_g14, trivial⟩ (fun W hS => (st_pick rfl rfl)) ?_
  clear hE a; intro a hE
  refine d_take (v := Value.bool false) p3_5_14 ns3_5 (by kernel_rfl) (by kernel_rfl) (fun _ _ _ h => h) hE wn_none rfl ⟨B_g1, B_g8, B_g14, trivial⟩ (fun W hS => (st_move rfl)) ?_
  clear hE a; intro a hE
  refine d_take (v := Value.slice A1 rest.length c1) p3_5_15 ns3_5 (by kernel_rfl) (by kernel_rfl) (fun _ _ _ h => h) hE (wn_some g3_5_14 rfl rfl) rfl ⟨B_g1, B_g8, B_g14, trivial⟩ (fun W hS => (st_move rfl)) ?_
  clear hE a; intro a hE
  refine d_take (v := Value.slice A2 rest.length c2) p3_5_16 ns3_5 (by kernel_rfl) (by kernel_rfl) (fun _ _ _ h => h) hE (wn_some g3_5_14 rfl rfl) rfl ⟨B_g1, B_g8, B_g14, trivial⟩ (fun W hS => (st_move rfl)) ?_
  clear hE a; intro a hE
  refine d_one (by kernel_rfl) (s_call (xs := [Operand.tmp 62, Operand.tmp 63]) (args := [Value.slice A1 rest.length c1, Value.slice A2 rest.length c2]) p3_5_17 hE (wn_some g3_5_14 rfl rfl) rfl rfl Try.func9 cl9 (same_kp A1 A2 c1 c2 rest rest true (by simp) _ (F_r1 _ K_s7) hc1 (F_r2 _ K_s13) hc2 (by omega)) ?_)
  rintro e w20 ⟨rfl, hk⟩
  replace B_g1 := kp_blk B_g1 hk (fun h => h)
  replace B_g8 := kp_blk B_g8 hk (fun h => h)
  replace B_g14 := kp_blk B_g14 hk (fun h => h)
  replace K_0 := K_0.then_ hk (fun _ h => h.elim)
  replace K_s7 := K_s7.then_ hk (fun _ h => h.elim)
  replace K_s13 := K_s13.then_ hk (fun _ h => h.elim)
  refine ⟨_, rfl, ?_⟩
  clear hE a; intro a hE
  refine ⟨⟨B_g1, B_g8, B_g14, trivial⟩, ?_⟩
  refine d_take (v := Value.bool false) p3_5_18 ns3_5 (by kernel_rfl) (by kernel_rfl) (fun _ _ _ h => h) hE (wn_some g3_5_14 rfl rfl) rfl ⟨B_g1, B_g8, B_g14, trivial⟩ (fun W hS => (st_not rfl rfl)) ?_
  clear hE a; intro a hE
  refine d_take (v := Value.bool false) p3_5_19 ns3_5 (by kernel_rfl) (by kernel_rfl) (fun _ _ _ h => h) hE wn_none rfl ⟨B_g1, B_g8, B_g14, trivial⟩ (fun W hS => (st_pick rfl rfl)) ?_
  clear hE a; intro a hE
  refine d_take (v := Value.bool false) p3_5_20 ns3_5 (by kernel_rfl) (by kernel_rfl) (fun _ _ _ h => h) hE wn_none rfl ⟨B_g1, B_g8, B_g14, trivial⟩ (fun W hS => (st_move rfl)) ?_
  clear hE a; intro a hE
  refine d_take (v := Value.agg #[Value.bool d, Value.bool f2, Value.bool f3, Value.int .i64 i, Value.int .i64 r]) p3_5_21 ns3_5 (by kernel_rfl) (by kernel_rfl) (fun _ _ _ h => h) hE (wn_some g3_5_20 rfl rfl) rfl ⟨B_g1, B_g8, B_g14, trivial⟩ (fun W hS => (st_loadN (off := 0) (k := 5) (vs := [Value.bool d, Value.bool f2, Value.bool f3, Value.int .i64 i, Value.int .i64 r]) tA23 tS23 rfl hS.1 rfl rfl)) ?_
  clear hE a; intro a hE
  refine d_take (v := Value.agg #[Value.bool d, Value.bool f2, Value.bool f3, Value.int .i64 i, Value.int .i64 r]) p3_5_25 ns3_5 (by kernel_rfl) (by kernel_rfl) (fun _ _ _ h => h) hE (wn_some g3_5_20 rfl rfl) rfl ⟨B_g1, B_g8, B_g14, trivial⟩ (fun W hS => (st_loadN (off := 0) (k := 5) (vs := [Value.bool d, Value.bool f2, Value.bool f3, Value.int .i64 i, Value.int .i64 r]) tA23 tS23 rfl hS.1 rfl rfl)) ?_
  clear hE a; intro a hE
  refine d_one (by kernel_rfl) (s_call (xs := [Operand.tmp 68]) (args := [Value.agg #[Value.bool d, Value.bool f2, Value.bool f3, Value.int .i64 i, Value.int .i64 r]]) p3_5_22 hE (wn_some g3_5_20 rfl rfl) rfl rfl Try.func5 cl5 (rivuletlaw06_To.calls d f2 f3 i r d f2 f3 i r _ rfl) ?_)
  rintro e w21 ⟨rfl, hb⟩
  have hk := Kp.of_below hb (fun _ => False)
  replace B_g1 := kp_blk B_g1 hk (fun h => h)
  replace B_g8 := kp_blk B_g8 hk (fun h => h)
  replace B_g14 := kp_blk B_g14 hk (fun h => h)
  replace K_0 := K_0.then_ hk (fun _ h => h.elim)
  replace K_s7 := K_s7.then_ hk (fun _ h => h.elim)
  replace K_s13 := K_s13.then_ hk (fun _ h => h.elim)
  refine ⟨_, rfl, ?_⟩
  clear hE a; intro a hE
  refine ⟨⟨B_g1, B_g8, B_g14, trivial⟩, ?_⟩
  refine d_one (by kernel_rfl) (s_call (xs := [Operand.tmp 69]) (args := [Value.agg #[Value.bool d, Value.bool f2, Value.bool f3, Value.int .i64 i, Value.int .i64 r]]) p3_5_23 hE (wn_some g3_5_20 rfl rfl) rfl rfl Try.func10 cl10 (check_any d f2 f3 i r 1 (by rw [hR]; rfl) _) ?_)
  rintro e w22 ⟨rfl, hb⟩
  have hk := Kp.of_below hb (fun _ => False)
  replace B_g1 := kp_blk B_g1 hk (fun h => h)
  replace B_g8 := kp_blk B_g8 hk (fun h => h)
  replace B_g14 := kp_blk B_g14 hk (fun h => h)
  replace K_0 := K_0.then_ hk (fun _ h => h.elim)
  replace K_s7 := K_s7.then_ hk (fun _ h => h.elim)
  replace K_s13 := K_s13.then_ hk (fun _ h => h.elim)
  refine ⟨_, rfl, ?_⟩
  clear hE a; intro a hE
  refine ⟨⟨B_g1, B_g8, B_g14, trivial⟩, ?_⟩
  refine d_take (v := Value.bool false) p3_5_24 ns3_5 (by kernel_rfl) (by kernel_rfl) (fun _ _ _ h => h) hE (wn_some g3_5_20 rfl rfl) rfl ⟨B_g1, B_g8, B_g14, trivial⟩ (fun W hS => (st_eql (b := false) rfl rfl (by decide))) ?_
  clear hE a; intro a hE
  refine d_one (by kernel_rfl) (s_call (xs := [Operand.tmp 72]) (args := [Value.agg #[Value.bool d, Value.bool f2, Value.bool f3, Value.int .i64 i, Value.int .i64 r]]) p3_5_26 hE (wn_some g3_5_20 rfl rfl) rfl rfl Try.func11 cl11 (rivuletref06_Right.calls d f2 f3 i r false _ (by rw [right_f, hR])) ?_)
  rintro e w23 ⟨rfl, hb⟩
  have hk := Kp.of_below hb (fun _ => False)
  replace B_g1 := kp_blk B_g1 hk (fun h => h)
  replace B_g8 := kp_blk B_g8 hk (fun h => h)
  replace B_g14 := kp_blk B_g14 hk (fun h => h)
  replace K_0 := K_0.then_ hk (fun _ h => h.elim)
  replace K_s7 := K_s7.then_ hk (fun _ h => h.elim)
  replace K_s13 := K_s13.then_ hk (fun _ h => h.elim)
  refine ⟨_, rfl, ?_⟩
  clear hE a; intro a hE
  refine ⟨⟨B_g1, B_g8, B_g14, trivial⟩, ?_⟩
  refine d_take (v := Value.bool false) p3_5_27 ns3_5 (by kernel_rfl) (by kernel_rfl) (fun _ _ _ h => h) hE (wn_some g3_5_20 rfl rfl) rfl ⟨B_g1, B_g8, B_g14, trivial⟩ (fun W hS => (st_neqB Try.underlying4 rfl rfl rfl)) ?_
  clear hE a; intro a hE
  refine d_take (v := Value.bool false) p3_5_28 ns3_5 (by kernel_rfl) (by kernel_rfl) (fun _ _ _ h => h) hE wn_none rfl ⟨B_g1, B_g8, B_g14, trivial⟩ (fun W hS => (st_pick rfl rfl)) ?_
  clear hE a; intro a hE
  refine d_end (by kernel_rfl) ?_
  refine x_norm ?_
  refine c_cond (t := false) hE rfl ?_
  refine wp_skip ?_
  refine x_norm ?_
  refine wp_seq ?_
  refine c_reg R3_7_l ?_
  refine p_cons (s_still p3_7_0 hE wn_none rfl (st_loadN (off := 0) (k := 5) (vs := [Value.bool d, Value.bool f2, Value.bool f3, Value.int .i64 i, Value.int .i64 r]) tA23 tS23 rfl B_g1 rfl rfl) ?_)
  clear hE a; intro a hE
  refine p_cons (s_call (xs := [Operand.tmp 76]) (args := [Value.agg #[Value.bool d, Value.bool f2, Value.bool f3, Value.int .i64 i, Value.int .i64 r]]) p3_7_1 hE wn_none rfl rfl Try.func11 cl11 (rivuletref06_Right.calls d f2 f3 i r false _ (by rw [right_f, hR])) ?_)
  rintro e w24 ⟨rfl, hb⟩
  have hk := Kp.of_below hb (fun _ => False)
  replace B_g1 := kp_blk B_g1 hk (fun h => h)
  replace B_g8 := kp_blk B_g8 hk (fun h => h)
  replace B_g14 := kp_blk B_g14 hk (fun h => h)
  replace K_0 := K_0.then_ hk (fun _ h => h.elim)
  replace K_s7 := K_s7.then_ hk (fun _ h => h.elim)
  replace K_s13 := K_s13.then_ hk (fun _ h => h.elim)
  refine ⟨_, rfl, ?_⟩
  clear hE a; intro a hE
  refine p_cons (s_still p3_7_2 hE wn_none rfl (st_not rfl rfl) ?_)
  clear hE a; intro a hE
  refine p_cons (s_still p3_7_3 hE wn_none rfl (st_move rfl) ?_)
  clear hE a; intro a hE
  refine p_cons (s_skip p3_7_4 hE (wn_some g3_7_3 rfl rfl) rfl ?_)
  clear hE a; intro a hE
  refine p_cons (s_skip p3_7_5 hE (wn_some g3_7_3 rfl rfl) rfl ?_)
  clear hE a; intro a hE
  refine p_cons (s_still p3_7_6 hE wn_none rfl (st_pick rfl rfl) ?_)
  clear hE a; intro a hE
  refine p_cons (s_still p3_7_7 hE wn_none rfl (st_move rfl) ?_)
  clear hE a; intro a hE
  refine p_cons (s_skip p3_7_8 hE (wn_some g3_7_7 rfl rfl) rfl ?_)
  clear hE a; intro a hE
  refine p_cons (s_skip p3_7_9 hE (wn_some g3_7_7 rfl rfl) rfl ?_)
  clear hE a; intro a hE
  refine p_cons (s_still p3_7_10 hE wn_none rfl (st_pick rfl rfl) ?_)
  clear hE a; intro a hE
  refine p_nil ?_
  refine x_norm ?_
  refine c_cond (t := true) hE rfl ?_
  refine c_reg R3_8_l ?_
  refine p_cons (s_call (xs := []) (args := []) p3_8_0 hE wn_none rfl rfl Try.func12 cl12 (rivuletlaw06_known.calls 25 true _ (by decide +kernel)) ?_)
  rintro e w25 ⟨rfl, hb⟩
  have hk := Kp.of_below hb (fun _ => False)
  replace B_g1 := kp_blk B_g1 hk (fun h => h)
  replace B_g8 := kp_blk B_g8 hk (fun h => h)
  replace B_g14 := kp_blk B_g14 hk (fun h => h)
  replace K_0 := K_0.then_ hk (fun _ h => h.elim)
  replace K_s7 := K_s7.then_ hk (fun _ h => h.elim)
  replace K_s13 := K_s13.then_ hk (fun _ h => h.elim)
  refine ⟨_, rfl, ?_⟩
  clear hE a; intro a hE
  refine p_cons (s_still p3_8_1 hE wn_none rfl (st_move rfl) ?_)
  clear hE a; intro a hE
  refine p_cons (s_still p3_8_2 hE (wn_some g3_8_1 rfl rfl) rfl (st_move rfl) ?_)
  clear hE a; intro a hE
  refine p_cons (s_still p3_8_3 hE (wn_some g3_8_1 rfl rfl) rfl (st_eql (b := true) rfl rfl (by decide)) ?_)
  clear hE a; intro a hE
  refine p_cons (s_still p3_8_4 hE wn_none rfl (st_pick rfl rfl) ?_)
  clear hE a; intro a hE
  refine p_cons (s_still p3_8_5 hE wn_none rfl (st_move rfl) ?_)
  clear hE a; intro a hE
  refine p_cons (s_still p3_8_6 hE (wn_some g3_8_5 rfl rfl) rfl (st_move rfl) ?_)
  clear hE a; intro a hE
  refine p_cons (s_still p3_8_7 hE (wn_some g3_8_5 rfl rfl) rfl (st_len Try.underlying24 rfl) ?_)
  clear hE a; intro a hE
  refine p_cons (s_still p3_8_8 hE (wn_some g3_8_5 rfl rfl) rfl (st_eql (b := true) rfl rfl (by decide)) ?_)
  clear hE a; intro a hE
  refine p_cons (s_still p3_8_9 hE wn_none rfl (st_pick rfl rfl) ?_)
  clear hE a; intro a hE
  refine p_cons (s_still p3_8_10 hE wn_none rfl (st_assign rfl) ?_)
  clear hE a; intro a hE
  refine p_nil ?_
  refine x_norm ?_
  refine wp_ret ?_
  refine x_ret ?_
  refine ret_one (v := Value.bool true) rfl hE (.tmp rfl .nil) ?_
  exact ⟨rfl, K_0.to (Nat.le_refl _) (fun _ h => h.elim)⟩
set_option maxHeartbeats 4000000 in
theorem law_ok (n : Int) (d f2 f3 : Bool) (i r : Int) (A : Option Addr) (z l : List Int) (cap : Nat) (hx : (if (60 : Int) < (z.length : Int) then (60 : Int) else (z.length : Int)) = (l.length : Int)) (w : World) (hl : Kd.C (Kd.int .u8) w A l.length l) (hlz : l.length ≤ z.length) (hlc0 : z.length ≤ cap) (hcm : cap ≤ 9223372036854775807) (hzb : ∀ x ∈ l, 0 ≤ x ∧ x ≤ 255) (hn : 0 ≤ n ∧ n ≤ 255) (hi : 0 ≤ i ∧ i ≤ 255) (hr : 0 ≤ r ∧ r ≤ 65535) : Calls Try.prog 3 #[.int .i64 n, .agg #[.bool d, .bool f2, .bool f3, .int .i64 i, .int .i64 r], .slice A z.length cap] w fun e w' => e = .returned (.bool true) ∧ Below w.heap.size w w' := by
  have K_0 := Kp.refl w (fun _ => False)
  have hl60 : l.length ≤ 60 := by split at hx <;> omega
  have hlc : l.length ≤ cap := by omega
  have hR : rightF i r = true := by unfold rightF; simp [hi.1, hi.2, hr.1, hr.2]
  obtain ⟨n', q1, q2, q3, i', r', er, rest, hrl, hagree1, hagree2⟩ := agree l hl60 hzb
  have F_b : ∀ W', Kp w W' (fun _ => False) → Kd.C (Kd.int .u8) W' A l.length l := fun W' h => Kd.C_below hl (h.to (Nat.le_refl _) (fun _ h => h.elim))
  refine enter (args := [Value.int .i64 n, Value.agg #[Value.bool d, Value.bool f2, Value.bool f3, Value.int .i64 i, Value.int .i64 r], Value.slice A z.length cap]) (n := 136) Try.func3 body3 rfl rfl rfl ?_
  intro a hE
  refine c_reg R3_0_l ?_
  refine p_cons (s_box p3_0_0 hE wn_none rfl rfl ?_)
  clear hE a; intro g1 w2 z3 B_g1 hk a hE
  replace B_g1 : w2.heap[g1]? = some (.cells #[Value.bool d, Value.bool f2, Value.bool f3, Value.int .i64 i, Value.int .i64 r] 23 (0, 0)) := B_g1
  have z_0_g1 := Nat.le_trans K_0.kept.1 z3
  replace K_0 := K_0.then_ hk (fun _ h => h.elim)
  clear hk
  refine p_cons (s_still p3_0_1 hE wn_none rfl (st_assign rfl) ?_)
  clear hE a; intro a hE
  refine p_nil ?_
  refine x_norm ?_
  refine c_reg R3_1_l ?_
  refine p_cons (s_still p3_1_0 hE wn_none rfl (st_move rfl) ?_)
  clear hE a; intro a hE
  refine p_cons (s_still p3_1_1 hE wn_none rfl (st_move rfl) ?_)
  clear hE a; intro a hE
  refine p_cons (s_still p3_1_2 hE wn_none rfl (st_len Try.underlying24 rfl) ?_)
  clear hE a; intro a hE
  refine p_cons (s_still p3_1_3 hE wn_none rfl (st_min (z := (l.length : Int)) rfl rfl hx) ?_)
  clear hE a; intro a hE
  refine p_cons (s_still p3_1_4 hE wn_none rfl (st_sliceH (h := l.length) Try.underlying24 tS5 rfl rfl (by omega)) ?_)
  clear hE a; intro a hE
  refine p_cons (s_still p3_1_5 hE wn_none rfl (st_assign rfl) ?_)
  clear hE a; intro a hE
  refine p_nil ?_
  refine x_norm ?_
  refine c_reg R3_2_l ?_
  refine p_cons (s_still p3_2_0 hE wn_none rfl (st_move rfl) ?_)
  clear hE a; intro a hE
  refine p_cons (s_still p3_2_1 hE wn_none rfl (st_loadN (off := 0) (k := 5) (vs := [Value.bool d, Value.bool f2, Value.bool f3, Value.int .i64 i, Value.int .i64 r]) tA23 tS23 rfl B_g1 rfl rfl) ?_)
  clear hE a; intro a hE
  refine p_cons (s_call (xs := [Operand.tmp 28]) (args := [Value.agg #[Value.bool d, Value.bool f2, Value.bool f3, Value.int .i64 i, Value.int .i64 r]]) p3_2_2 hE wn_none rfl rfl Try.func5 cl5 (rivuletlaw06_To.calls d f2 f3 i r d f2 f3 i r _ rfl) ?_)
  rintro e w4 ⟨rfl, hb⟩
  have hk := Kp.of_below hb (fun _ => False)
  replace B_g1 := kp_blk B_g1 hk (fun h => h)
  replace K_0 := K_0.then_ hk (fun _ h => h.elim)
  refine ⟨_, rfl, ?_⟩
  clear hE a; intro a hE
  have BE := B_g1
  refine p_cons (s_call (xs := [Operand.tmp 27, Operand.tmp 29]) (args := [Value.int .i64 n, Value.agg #[Value.bool d, Value.bool f2, Value.bool f3, Value.int .i64 i, Value.int .i64 r]]) p3_2_3 hE wn_none rfl rfl Try.func4 cl4 (enc_ok n d f2 f3 i r (flF d f2 f3) rfl hn hi hr _) ?_)
  rintro e w5 ⟨v9, rfl, ho, hb⟩
  have hk := Kp.of_below hb (fun _ => False)
  obtain ⟨A9, c9, rfl, hc9⟩ := own_slice3 ho
  have hcap9 := own_cap ho
  replace B_g1 := kp_blk B_g1 hk (fun h => h)
  replace K_0 := K_0.then_ hk (fun _ h => h.elim)
  have hle8 : ∀ k, k = g1 → k < _ := fun k hk => by rw [hk]; exact blk_lt BE
  have K_s6 := Kp.refl w5 (fun k => k = g1)
  have F_enc := own_stab ho (fun k => k = g1) hle8
  refine ⟨_, rfl, ?_⟩
  clear hE a; intro a hE
  refine p_cons (s_still p3_2_4 hE wn_none rfl (st_move rfl) ?_)
  clear hE a; intro a hE
  refine p_cons (s_still p3_2_5 hE wn_none rfl (st_extract rfl rfl) ?_)
  clear hE a; intro a hE
  refine p_cons (s_still p3_2_6 hE wn_none rfl (st_extract rfl rfl) ?_)
  clear hE a; intro a hE
  refine p_cons (s_still p3_2_7 hE wn_none rfl (st_assign rfl) ?_)
  clear hE a; intro a hE
  refine p_cons (s_still p3_2_8 hE wn_none rfl (st_assign rfl) ?_)
  clear hE a; intro a hE
  refine p_nil ?_
  refine x_norm ?_
  refine c_reg R3_3_l ?_
  refine p_cons (s_still p3_3_0 hE wn_none rfl (st_move rfl) ?_)
  clear hE a; intro a hE
  refine p_cons (s_call (xs := [Operand.tmp 34]) (args := [Value.slice A l.length cap]) p3_3_1 hE wn_none rfl rfl Try.func6 cl6 (hagree1 A cap _ (F_b _ K_0) hlc hcm) ?_)
  rintro e w7 ⟨A1, c1, rfl, hc1, hC1, hb⟩
  have hk := Kp.of_below hb (fun _ => False)
  replace B_g1 := kp_blk B_g1 hk (fun h => h)
  replace K_0 := K_0.then_ hk (fun _ h => h.elim)
  replace K_s6 := K_s6.then_ hk (fun _ h => h.elim)
  have K_s8 := Kp.refl w7 (fun _ => False)
  have F_r1 : ∀ W', Kp w7 W' (fun _ => False) → Kd.C (Kd.int .u8) W' A1 rest.length rest := fun W' h => Kd.C_below hC1 (h.to (Nat.le_refl _) (fun _ h => h.elim))
  refine ⟨_, rfl, ?_⟩
  clear hE a; intro a hE
  refine p_cons (s_still p3_3_2 hE wn_none rfl (st_move rfl) ?_)
  clear hE a; intro a hE
  refine p_cons (s_still p3_3_3 hE wn_none rfl (st_extract rfl rfl) ?_)
  clear hE a; intro a hE
  refine p_cons (s_still p3_3_4 hE wn_none rfl (st_extract rfl rfl) ?_)
  clear hE a; intro a hE
  refine p_cons (s_still p3_3_5 hE wn_none rfl (st_extract rfl rfl) ?_)
  clear hE a; intro a hE
  refine p_cons (s_still p3_3_6 hE wn_none rfl (st_extract rfl rfl) ?_)
  clear hE a; intro a hE
  refine p_cons (s_alloc p3_3_7 hE wn_none rfl tZ28 ?_)
  clear hE a; intro g9 w10 z11 B_g9 hk a hE
  replace B_g9 : w10.heap[g9]? = some (.cells #[Value.bool false, Value.bool false, Value.bool false, Value.int .i64 0, Value.int .i64 0] 28 (0, 0)) := B_g9
  have n_g1_g9 : g1 ≠ g9 := ne_new B_g1 z11
  have z_0_g9 := Nat.le_trans K_0.kept.1 z11
  have z_s6_g9 := Nat.le_trans K_s6.kept.1 z11
  have z_s8_g9 := Nat.le_trans K_s8.kept.1 z11
  replace B_g1 := kp_blk B_g1 hk (fun h => h)
  replace K_0 := K_0.then_ hk (fun _ h => h.elim)
  replace K_s6 := K_s6.then_ hk (fun _ h => h.elim)
  replace K_s8 := K_s8.then_ hk (fun _ h => h.elim)
  clear hk
  refine p_cons (s_still p3_3_8 hE wn_none rfl (st_assign rfl) ?_)
  clear hE a; intro a hE
  refine p_cons (s_store (off := 0) (k := 5) (cs' := #[Value.bool q1, Value.bool q2, Value.bool q3, Value.int .i64 i', Value.int .i64 r']) p3_3_9 hE wn_none tS28 rfl rfl rfl rfl B_g9 (by decide) rfl ?_)
  intro w12 B_g9' hk
  replace B_g1 := kp_blk B_g1 hk n_g1_g9
  replace K_0 := K_0.then_ hk (fun k h => by rw [show k = g9 from h]; exact Or.inr z_0_g9)
  replace K_s6 := K_s6.then_ hk (fun k h => by rw [show k = g9 from h]; exact Or.inr z_s6_g9)
  replace K_s8 := K_s8.then_ hk (fun k h => by rw [show k = g9 from h]; exact Or.inr z_s8_g9)
  replace B_g9 := B_g9'
  clear hk
  refine p_cons (s_still p3_3_10 hE wn_none rfl (st_assign rfl) ?_)
  clear hE a; intro a hE
  refine p_cons (s_still p3_3_11 hE wn_none rfl (st_assign rfl) ?_)
  clear hE a; intro a hE
  refine p_nil ?_
  refine x_norm ?_
  refine c_reg R3_4_l ?_
  refine p_cons (s_still p3_4_0 hE wn_none rfl (st_move rfl) ?_)
  clear hE a; intro a hE
  refine p_cons (s_call (xs := [Operand.tmp 41]) (args := [Value.slice A l.length cap]) p3_4_1 hE wn_none rfl rfl Try.func7 cl7 (hagree2 A cap _ (F_b _ K_0) hlc) ?_)
  rintro e w13 ⟨A2, c2, rfl, hc2, hC2, hb⟩
  have hk := Kp.of_below hb (fun _ => False)
  replace B_g1 := kp_blk B_g1 hk (fun h => h)
  replace B_g9 := kp_blk B_g9 hk (fun h => h)
  replace K_0 := K_0.then_ hk (fun _ h => h.elim)
  replace K_s6 := K_s6.then_ hk (fun _ h => h.elim)
  replace K_s8 := K_s8.then_ hk (fun _ h => h.elim)
  have K_s14 := Kp.refl w13 (fun _ => False)
  have F_r2 : ∀ W', Kp w13 W' (fun _ => False) → Kd.C (Kd.int .u8) W' A2 rest.length rest := fun W' h => Kd.C_below hC2 (h.to (Nat.le_refl _) (fun _ h => h.elim))
  refine ⟨_, rfl, ?_⟩
  clear hE a; intro a hE
  refine p_cons (s_still p3_4_2 hE wn_none rfl (st_move rfl) ?_)
  clear hE a; intro a hE
  refine p_cons (s_still p3_4_3 hE wn_none rfl (st_extract rfl rfl) ?_)
  clear hE a; intro a hE
  refine p_cons (s_still p3_4_4 hE wn_none rfl (st_extract rfl rfl) ?_)
  clear hE a; intro a hE
  refine p_cons (s_still p3_4_5 hE wn_none rfl (st_extract rfl rfl) ?_)
  clear hE a; intro a hE
  refine p_cons (s_still p3_4_6 hE wn_none rfl (st_extract rfl rfl) ?_)
  clear hE a; intro a hE
  refine p_cons (s_alloc p3_4_7 hE wn_none rfl tZ23 ?_)
  clear hE a; intro g15 w16 z17 B_g15 hk a hE
  replace B_g15 : w16.heap[g15]? = some (.cells #[Value.bool false, Value.bool false, Value.bool false, Value.int .i64 0, Value.int .i64 0] 23 (0, 0)) := B_g15
  have n_g1_g15 : g1 ≠ g15 := ne_new B_g1 z17
  have n_g9_g15 : g9 ≠ g15 := ne_new B_g9 z17
  have z_0_g15 := Nat.le_trans K_0.kept.1 z17
  have z_s6_g15 := Nat.le_trans K_s6.kept.1 z17
  have z_s8_g15 := Nat.le_trans K_s8.kept.1 z17
  have z_s14_g15 := Nat.le_trans K_s14.kept.1 z17
  replace B_g1 := kp_blk B_g1 hk (fun h => h)
  replace B_g9 := kp_blk B_g9 hk (fun h => h)
  replace K_0 := K_0.then_ hk (fun _ h => h.elim)
  replace K_s6 := K_s6.then_ hk (fun _ h => h.elim)
  replace K_s8 := K_s8.then_ hk (fun _ h => h.elim)
  replace K_s14 := K_s14.then_ hk (fun _ h => h.elim)
  clear hk
  refine p_cons (s_still p3_4_8 hE wn_none rfl (st_assign rfl) ?_)
  clear hE a; intro a hE
  refine p_cons (s_store (off := 0) (k := 5) (cs' := #[Value.bool q1, Value.bool q2, Value.bool q3, Value.int .i64 i', Value.int .i64 r']) p3_4_9 hE wn_none tS23 rfl rfl rfl rfl B_g15 (by decide) rfl ?_)
  intro w18 B_g15' hk
  replace B_g1 := kp_blk B_g1 hk n_g1_g15
  replace B_g9 := kp_blk B_g9 hk n_g9_g15
  replace K_0 := K_0.then_ hk (fun k h => by rw [show k = g15 from h]; exact Or.inr z_0_g15)
  replace K_s6 := K_s6.then_ hk (fun k h => by rw [show k = g15 from h]; exact Or.inr z_s6_g15)
  replace K_s8 := K_s8.then_ hk (fun k h => by rw [show k = g15 from h]; exact Or.inr z_s8_g15)
  replace K_s14 := K_s14.then_ hk (fun k h => by rw [show k = g15 from h]; exact Or.inr z_s14_g15)
  replace B_g15 := B_g15'
  clear hk
  refine p_cons (s_still p3_4_10 hE wn_none rfl (st_assign rfl) ?_)
  clear hE a; intro a hE
  refine p_cons (s_still p3_4_11 hE wn_none rfl (st_assign rfl) ?_)
  clear hE a; intro a hE
  refine p_nil ?_
  refine x_norm ?_
  refine wp_seq ?_
  refine c_drawS (S := fun W => W.heap[g1]? = some (.cells #[Value.bool d, Value.bool f2, Value.bool f3, Value.int .i64 i, Value.int .i64 r] 23 (0, 0)) ∧ W.heap[g9]? = some (.cells #[Value.bool q1, Value.bool q2, Value.bool q3, Value.int .i64 i', Value.int .i64 r'] 28 (0, 0)) ∧ W.heap[g15]? = some (.cells #[Value.bool q1, Value.bool q2, Value.bool q3, Value.int .i64 i', Value.int .i64 r'] 23 (0, 0)) ∧ True) rfl rfl ?_
  intro w19 hh hk
  replace B_g1 := kp_blk B_g1 hk (fun h => h)
  replace B_g9 := kp_blk B_g9 hk (fun h => h)
  replace B_g15 := kp_blk B_g15 hk (fun h => h)
  replace K_0 := K_0.then_ hk (fun _ h => h.elim)
  replace K_s6 := K_s6.then_ hk (fun _ h => h.elim)
  replace K_s8 := K_s8.then_ hk (fun _ h => h.elim)
  replace K_s14 := K_s14.then_ hk (fun _ h => h.elim)
  clear hh hk
  refine d_take (v := Value.int .i64 n') p3_5_0 ns3_5 (by kernel_rfl) (by kernel_rfl) (fun _ _ _ h => h) hE wn_none rfl ⟨B_g1, B_g9, B_g15, trivial⟩ (fun W hS => (st_move rfl)) ?_
  clear hE a; intro a hE
  refine d_take (v := Value.int .i64 n') p3_5_1 ns3_5 (by kernel_rfl) (by kernel_rfl) (fun _ _ _ h => h) hE wn_none rfl ⟨B_g1, B_g9, B_g15, trivial⟩ (fun W hS => (st_move rfl)) ?_
  clear hE a; intro a hE
  refine d_take (v := Value.bool false) p3_5_2 ns3_5 (by kernel_rfl) (by kernel_rfl) (fun _ _ _ h => h) hE wn_none rfl ⟨B_g1, B_g9, B_g15, trivial⟩ (fun W hS => (st_neq (b := false) rfl rfl (by simp))) ?_
  clear hE a; intro a hE
  refine d_take (v := Value.bool false) p3_5_3 ns3_5 (by kernel_rfl) (by kernel_rfl) (fun _ _ _ h => h) hE wn_none rfl ⟨B_g1, B_g9, B_g15, trivial⟩ (fun W hS => (st_move rfl)) ?_
  clear hE a; intro a hE
  refine d_take (v := Value.agg #[Value.bool q1, Value.bool q2, Value.bool q3, Value.int .i64 i', Value.int .i64 r']) p3_5_4 ns3_5 (by kernel_rfl) (by kernel_rfl) (fun _ _ _ h => h) hE (wn_some g3_5_3 rfl rfl) rfl ⟨B_g1, B_g9, B_g15, trivial⟩ (fun W hS => (st_loadN (off := 0) (k := 5) (vs := [Value.bool q1, Value.bool q2, Value.bool q3, Value.int .i64 i', Value.int .i64 r']) tA28 tS28 rfl hS.2.1 rfl rfl)) ?_
  clear hE a; intro a hE
  refine d_take (v := Value.agg #[Value.bool q1, Value.bool q2, Value.bool q3, Value.int .i64 i', Value.int .i64 r']) p3_5_6 ns3_5 (by kernel_rfl) (by kernel_rfl) (fun _ _ _ h => h) hE (wn_some g3_5_3 rfl rfl) rfl ⟨B_g1, B_g9, B_g15, trivial⟩ (fun W hS => (st_loadN (off := 0) (k := 5) (vs := [Value.bool q1, Value.bool q2, Value.bool q3, Value.int .i64 i', Value.int .i64 r']) tA23 tS23 rfl hS.2.2.1 rfl rfl)) ?_
  clear hE a; intro a hE
  refine d_one (by kernel_rfl) (s_call (xs := [Operand.tmp 51]) (args := [Value.agg #[Value.bool q1, Value.bool q2, Value.bool q3, Value.int .i64 i', Value.int .i64 r']]) p3_5_5 hE (wn_some g3_5_3 rfl rfl) rfl rfl Try.func8 cl8 (rivuletlaw06_Of.calls q1 q2 q3 i' r' q1 q2 q3 i' r' _ rfl) ?_)
  rintro e w20 ⟨rfl, hb⟩
  have hk := Kp.of_below hb (fun _ => False)
  replace B_g1 := kp_blk B_g1 hk (fun h => h)
  replace B_g9 := kp_blk B_g9 hk (fun h => h)
  replace B_g15 := kp_blk B_g15 hk (fun h => h)
  replace K_0 := K_0.then_ hk (fun _ h => h.elim)
  replace K_s6 := K_s6.then_ hk (fun _ h => h.elim)
  replace K_s8 := K_s8.then_ hk (fun _ h => h.elim)
  replace K_s14 := K_s14.then_ hk (fun _ h => h.elim)
  refine ⟨_, rfl, ?_⟩
  clear hE a; intro a hE
  refine ⟨⟨B_g1, B_g9, B_g15, trivial⟩, ?_⟩
  refine d_take (v := Value.bool false) p3_5_7 ns3_5 (by kernel_rfl) (by kernel_rfl) (fun _ _ _ h => h) hE (wn_some g3_5_3 rfl rfl) rfl ⟨B_g1, B_g9, B_g15, trivial⟩ (fun W hS => (st_neqA (b := true) eg23 rfl rfl (eqA23_refl _ _ _ _ _))) ?_
  clear hE a; intro a hE
  refine d_take (v := Value.bool false) p3_5_8 ns3_5 (by kernel_rfl) (by kernel_rfl) (fun _ _ _ h => h) hE wn_none rfl ⟨B_g1, B_g9, B_g15, trivial⟩ (fun W hS => (st_pick rfl rfl)) ?_
  clear hE a; intro a hE
  refine d_take (v := Value.bool false) p3_5_9 ns3_5 (by kernel_rfl) (by kernel_rfl) (fun _ _ _ h => h) hE wn_none rfl ⟨B_g1, B_g9, B_g15, trivial⟩ (fun W hS => (st_move rfl)) ?_
  clear hE a; intro a hE
  refine d_take (v := Value.int .i64 er) p3_5_10 ns3_5 (by kernel_rfl) (by kernel_rfl) (fun _ _ _ h => h) hE (wn_some g3_5_9 rfl rfl) rfl ⟨B_g1, B_g9, B_g15, trivial⟩ (fun W hS => (st_move rfl)) ?_
  clear hE a; intro a hE
  refine d_take (v := Value.int .i64 er) p3_5_11 ns3_5 (by kernel_rfl) (by kernel_rfl) (fun _ _ _ h => h) hE (wn_some g3_5_9 rfl rfl) rfl ⟨B_g1, B_g9, B_g15, trivial⟩ (fun W hS => (st_move rfl)) ?_
  clear hE a; intro a hE
  refine d_take (v := Value.bool false) p3_5_12 ns3_5 (by kernel_rfl) (by kernel_rfl) (fun _ _ _ h => h) hE (wn_some g3_5_9 rfl rfl) rfl ⟨B_g1, B_g9, B_g15, trivial⟩ (fun W hS => (st_neq (b := false) rfl rfl (by simp))) ?_
  clear hE a; intro a hE
  refine d_take (v := Value.bool false) p3_5_13 ns3_5 (by kernel_rfl) (by kernel_rfl) (fun _ _ _ h => h) hE wn_none rfl ⟨B_g1, B_g9, B_g15, trivial⟩ (fun W hS => (st_pick rfl rfl)) ?_
  clear hE a; intro a hE
  refine d_take (v := Value.bool false) p3_5_14 ns3_5 (by kernel_rfl) (by kernel_rfl) (fun _ _ _ h => h) hE wn_none rfl ⟨B_g1, B_g9, B_g15, trivial⟩ (fun W hS => (st_move rfl)) ?_
  clear hE a; intro a hE
  refine d_take (v := Value.slice A1 rest.length c1) p3_5_15 ns3_5 (by kernel_rfl) (by kernel_rfl) (fun _ _ _ h => h) hE (wn_some g3_5_14 rfl rfl) rfl ⟨B_g1, B_g9, B_g15, trivial⟩ (fun W hS => (st_move rfl)) ?_
  clear hE a; intro a hE
  refine d_take (v := Value.slice A2 rest.length c2) p3_5_16 ns3_5 (by kernel_rfl) (by kernel_rfl) (fun _ _ _ h => h) hE (wn_some g3_5_14 rfl rfl) rfl ⟨B_g1, B_g9, B_g15, trivial⟩ (fun W hS => (st_move rfl)) ?_
  clear hE a; intro a hE
  refine d_one (by kernel_rfl) (s_call (xs := [Operand.tmp 62, Operand.tmp 63]) (args := [Value.slice A1 rest.length c1, Value.slice A2 rest.length c2]) p3_5_17 hE (wn_some g3_5_14 rfl rfl) rfl rfl Try.func9 cl9 (same_kp A1 A2 c1 c2 rest rest true (by simp) _ (F_r1 _ K_s8) hc1 (F_r2 _ K_s14) hc2 (by omega)) ?_)
  rintro e w21 ⟨rfl, hk⟩
  replace B_g1 := kp_blk B_g1 hk (fun h => h)
  replace B_g9 := kp_blk B_g9 hk (fun h => h)
  replace B_g15 := kp_blk B_g15 hk (fun h => h)
  replace K_0 := K_0.then_ hk (fun _ h => h.elim)
  replace K_s6 := K_s6.then_ hk (fun _ h => h.elim)
  replace K_s8 := K_s8.then_ hk (fun _ h => h.elim)
  replace K_s14 := K_s14.then_ hk (fun _ h => h.elim)
  refine ⟨_, rfl, ?_⟩
  clear hE a; intro a hE
  refine ⟨⟨B_g1, B_g9, B_g15, trivial⟩, ?_⟩
  refine d_take (v := Value.bool false) p3_5_18 ns3_5 (by kernel_rfl) (by kernel_rfl) (fun _ _ _ h => h) hE (wn_some g3_5_14 rfl rfl) rfl ⟨B_g1, B_g9, B_g15, trivial⟩ (fun W hS => (st_not rfl rfl)) ?_
  clear hE a; intro a hE
  refine d_take (v := Value.bool false) p3_5_19 ns3_5 (by kernel_rfl) (by kernel_rfl) (fun _ _ _ h => h) hE wn_none rfl ⟨B_g1, B_g9, B_g15, trivial⟩ (fun W hS => (st_pick rfl rfl)) ?_
  clear hE a; intro a hE
  refine d_take (v := Value.bool false) p3_5_20 ns3_5 (by kernel_rfl) (by kernel_rfl) (fun _ _ _ h => h) hE wn_none rfl ⟨B_g1, B_g9, B_g15, trivial⟩ (fun W hS => (st_move rfl)) ?_
  clear hE a; intro a hE
  refine d_take (v := Value.agg #[Value.bool d, Value.bool f2, Value.bool f3, Value.int .i64 i, Value.int .i64 r]) p3_5_21 ns3_5 (by kernel_rfl) (by kernel_rfl) (fun _ _ _ h => h) hE (wn_some g3_5_20 rfl rfl) rfl ⟨B_g1, B_g9, B_g15, trivial⟩ (fun W hS => (st_loadN (off := 0) (k := 5) (vs := [Value.bool d, Value.bool f2, Value.bool f3, Value.int .i64 i, Value.int .i64 r]) tA23 tS23 rfl hS.1 rfl rfl)) ?_
  clear hE a; intro a hE
  refine d_take (v := Value.agg #[Value.bool d, Value.bool f2, Value.bool f3, Value.int .i64 i, Value.int .i64 r]) p3_5_25 ns3_5 (by kernel_rfl) (by kernel_rfl) (fun _ _ _ h => h) hE (wn_some g3_5_20 rfl rfl) rfl ⟨B_g1, B_g9, B_g15, trivial⟩ (fun W hS => (st_loadN (off := 0) (k := 5) (vs := [Value.bool d, Value.bool f2, Value.bool f3, Value.int .i64 i, Value.int .i64 r]) tA23 tS23 rfl hS.1 rfl rfl)) ?_
  clear hE a; intro a hE
  refine d_one (by kernel_rfl) (s_call (xs := [Operand.tmp 68]) (args := [Value.agg #[Value.bool d, Value.bool f2, Value.bool f3, Value.int .i64 i, Value.int .i64 r]]) p3_5_22 hE (wn_some g3_5_20 rfl rfl) rfl rfl Try.func5 cl5 (rivuletlaw06_To.calls d f2 f3 i r d f2 f3 i r _ rfl) ?_)
  rintro e w22 ⟨rfl, hb⟩
  have hk := Kp.of_below hb (fun _ => False)
  replace B_g1 := kp_blk B_g1 hk (fun h => h)
  replace B_g9 := kp_blk B_g9 hk (fun h => h)
  replace B_g15 := kp_blk B_g15 hk (fun h => h)
  replace K_0 := K_0.then_ hk (fun _ h => h.elim)
  replace K_s6 := K_s6.then_ hk (fun _ h => h.elim)
  replace K_s8 := K_s8.then_ hk (fun _ h => h.elim)
  replace K_s14 := K_s14.then_ hk (fun _ h => h.elim)
  refine ⟨_, rfl, ?_⟩
  clear hE a; intro a hE
  refine ⟨⟨B_g1, B_g9, B_g15, trivial⟩, ?_⟩
  refine d_one (by kernel_rfl) (s_call (xs := [Operand.tmp 69]) (args := [Value.agg #[Value.bool d, Value.bool f2, Value.bool f3, Value.int .i64 i, Value.int .i64 r]]) p3_5_23 hE (wn_some g3_5_20 rfl rfl) rfl rfl Try.func10 cl10 (check_any d f2 f3 i r 0 (by rw [hR]; rfl) _) ?_)
  rintro e w23 ⟨rfl, hb⟩
  have hk := Kp.of_below hb (fun _ => False)
  replace B_g1 := kp_blk B_g1 hk (fun h => h)
  replace B_g9 := kp_blk B_g9 hk (fun h => h)
  replace B_g15 := kp_blk B_g15 hk (fun h => h)
  replace K_0 := K_0.then_ hk (fun _ h => h.elim)
  replace K_s6 := K_s6.then_ hk (fun _ h => h.elim)
  replace K_s8 := K_s8.then_ hk (fun _ h => h.elim)
  replace K_s14 := K_s14.then_ hk (fun _ h => h.elim)
  refine ⟨_, rfl, ?_⟩
  clear hE a; intro a hE
  refine ⟨⟨B_g1, B_g9, B_g15, trivial⟩, ?_⟩
  refine d_take (v := Value.bool true) p3_5_24 ns3_5 (by kernel_rfl) (by kernel_rfl) (fun _ _ _ h => h) hE (wn_some g3_5_20 rfl rfl) rfl ⟨B_g1, B_g9, B_g15, trivial⟩ (fun W hS => (st_eql (b := true) rfl rfl (by decide))) ?_
  clear hE a; intro a hE
  refine d_one (by kernel_rfl) (s_call (xs := [Operand.tmp 72]) (args := [Value.agg #[Value.bool d, Value.bool f2, Value.bool f3, Value.int .i64 i, Value.int .i64 r]]) p3_5_26 hE (wn_some g3_5_20 rfl rfl) rfl rfl Try.func11 cl11 (rivuletref06_Right.calls d f2 f3 i r true _ (by rw [right_f, hR])) ?_)
  rintro e w24 ⟨rfl, hb⟩
  have hk := Kp.of_below hb (fun _ => False)
  replace B_g1 := kp_blk B_g1 hk (fun h => h)
  replace B_g9 := kp_blk B_g9 hk (fun h => h)
  replace B_g15 := kp_blk B_g15 hk (fun h => h)
  replace K_0 := K_0.then_ hk (fun _ h => h.elim)
  replace K_s6 := K_s6.then_ hk (fun _ h => h.elim)
  replace K_s8 := K_s8.then_ hk (fun _ h => h.elim)
  replace K_s14 := K_s14.then_ hk (fun _ h => h.elim)
  refine ⟨_, rfl, ?_⟩
  clear hE a; intro a hE
  refine ⟨⟨B_g1, B_g9, B_g15, trivial⟩, ?_⟩
  refine d_take (v := Value.bool false) p3_5_27 ns3_5 (by kernel_rfl) (by kernel_rfl) (fun _ _ _ h => h) hE (wn_some g3_5_20 rfl rfl) rfl ⟨B_g1, B_g9, B_g15, trivial⟩ (fun W hS => (st_neqB Try.underlying4 rfl rfl rfl)) ?_
  clear hE a; intro a hE
  refine d_take (v := Value.bool false) p3_5_28 ns3_5 (by kernel_rfl) (by kernel_rfl) (fun _ _ _ h => h) hE wn_none rfl ⟨B_g1, B_g9, B_g15, trivial⟩ (fun W hS => (st_pick rfl rfl)) ?_
  clear hE a; intro a hE
  refine d_end (by kernel_rfl) ?_
  refine x_norm ?_
  refine c_cond (t := false) hE rfl ?_
  refine wp_skip ?_
  refine x_norm ?_
  refine wp_seq ?_
  refine c_reg R3_7_l ?_
  refine p_cons (s_still p3_7_0 hE wn_none rfl (st_loadN (off := 0) (k := 5) (vs := [Value.bool d, Value.bool f2, Value.bool f3, Value.int .i64 i, Value.int .i64 r]) tA23 tS23 rfl B_g1 rfl rfl) ?_)
  clear hE a; intro a hE
  refine p_cons (s_call (xs := [Operand.tmp 76]) (args := [Value.agg #[Value.bool d, Value.bool f2, Value.bool f3, Value.int .i64 i, Value.int .i64 r]]) p3_7_1 hE wn_none rfl rfl Try.func11 cl11 (rivuletref06_Right.calls d f2 f3 i r true _ (by rw [right_f, hR])) ?_)
  rintro e w25 ⟨rfl, hb⟩
  have hk := Kp.of_below hb (fun _ => False)
  replace B_g1 := kp_blk B_g1 hk (fun h => h)
  replace B_g9 := kp_blk B_g9 hk (fun h => h)
  replace B_g15 := kp_blk B_g15 hk (fun h => h)
  replace K_0 := K_0.then_ hk (fun _ h => h.elim)
  replace K_s6 := K_s6.then_ hk (fun _ h => h.elim)
  replace K_s8 := K_s8.then_ hk (fun _ h => h.elim)
  replace K_s14 := K_s14.then_ hk (fun _ h => h.elim)
  refine ⟨_, rfl, ?_⟩
  clear hE a; intro a hE
  refine p_cons (s_still p3_7_2 hE wn_none rfl (st_not rfl rfl) ?_)
  clear hE a; intro a hE
  refine p_cons (s_still p3_7_3 hE wn_none rfl (st_move rfl) ?_)
  clear hE a; intro a hE
  refine p_cons (s_still p3_7_4 hE (wn_some g3_7_3 rfl rfl) rfl (st_move rfl) ?_)
  clear hE a; intro a hE
  refine p_cons (s_still p3_7_5 hE (wn_some g3_7_3 rfl rfl) rfl (st_lss (b := false) rfl rfl (decide_eq_false (by omega))) ?_)
  clear hE a; intro a hE
  refine p_cons (s_still p3_7_6 hE wn_none rfl (st_pick rfl rfl) ?_)
  clear hE a; intro a hE
  refine p_cons (s_still p3_7_7 hE wn_none rfl (st_move rfl) ?_)
  clear hE a; intro a hE
  refine p_cons (s_still p3_7_8 hE (wn_some g3_7_7 rfl rfl) rfl (st_move rfl) ?_)
  clear hE a; intro a hE
  refine p_cons (s_still p3_7_9 hE (wn_some g3_7_7 rfl rfl) rfl (st_gtr (b := false) rfl rfl (decide_eq_false (by omega))) ?_)
  clear hE a; intro a hE
  refine p_cons (s_still p3_7_10 hE wn_none rfl (st_pick rfl rfl) ?_)
  clear hE a; intro a hE
  refine p_nil ?_
  refine x_norm ?_
  refine c_cond (t := false) hE rfl ?_
  refine wp_skip ?_
  refine x_norm ?_
  refine c_reg R3_9_l ?_
  refine p_cons (s_still p3_9_0 hE wn_none rfl (st_move rfl) ?_)
  clear hE a; intro a hE
  have hcm9 : c9 ≤ 9223372036854775807 := hcap9
  refine p_cons (s_call (xs := [Operand.tmp 98]) (args := [Value.slice A9 8 c9]) p3_9_1 hE wn_none rfl rfl Try.func6 cl6 (dec_back A9 c9 n d f2 f3 i r hn hi hr _ (F_enc _ K_s6) hc9 hcm9) ?_)
  rintro e w26 ⟨A8, c8, rfl, hb⟩
  have hk := Kp.of_below hb (fun _ => False)
  replace B_g1 := kp_blk B_g1 hk (fun h => h)
  replace B_g9 := kp_blk B_g9 hk (fun h => h)
  replace B_g15 := kp_blk B_g15 hk (fun h => h)
  replace K_0 := K_0.then_ hk (fun _ h => h.elim)
  replace K_s6 := K_s6.then_ hk (fun _ h => h.elim)
  replace K_s8 := K_s8.then_ hk (fun _ h => h.elim)
  replace K_s14 := K_s14.then_ hk (fun _ h => h.elim)
  refine ⟨_, rfl, ?_⟩
  clear hE a; intro a hE
  refine p_cons (s_still p3_9_2 hE wn_none rfl (st_move rfl) ?_)
  clear hE a; intro a hE
  refine p_cons (s_still p3_9_3 hE wn_none rfl (st_extract rfl rfl) ?_)
  clear hE a; intro a hE
  refine p_cons (s_still p3_9_4 hE wn_none rfl (st_extract rfl rfl) ?_)
  clear hE a; intro a hE
  refine p_cons (s_still p3_9_5 hE wn_none rfl (st_extract rfl rfl) ?_)
  clear hE a; intro a hE
  refine p_cons (s_still p3_9_6 hE wn_none rfl (st_extract rfl rfl) ?_)
  clear hE a; intro a hE
  refine p_cons (s_alloc p3_9_7 hE wn_none rfl tZ28 ?_)
  clear hE a; intro g27 w28 z29 B_g27 hk a hE
  replace B_g27 : w28.heap[g27]? = some (.cells #[Value.bool false, Value.bool false, Value.bool false, Value.int .i64 0, Value.int .i64 0] 28 (0, 0)) := B_g27
  have n_g1_g27 : g1 ≠ g27 := ne_new B_g1 z29
  have n_g9_g27 : g9 ≠ g27 := ne_new B_g9 z29
  have n_g15_g27 : g15 ≠ g27 := ne_new B_g15 z29
  have z_0_g27 := Nat.le_trans K_0.kept.1 z29
  have z_s6_g27 := Nat.le_trans K_s6.kept.1 z29
  have z_s8_g27 := Nat.le_trans K_s8.kept.1 z29
  have z_s14_g27 := Nat.le_trans K_s14.kept.1 z29
  replace B_g1 := kp_blk B_g1 hk (fun h => h)
  replace B_g9 := kp_blk B_g9 hk (fun h => h)
  replace B_g15 := kp_blk B_g15 hk (fun h => h)
  replace K_0 := K_0.then_ hk (fun _ h => h.elim)
  replace K_s6 := K_s6.then_ hk (fun _ h => h.elim)
  replace K_s8 := K_s8.then_ hk (fun _ h => h.elim)
  replace K_s14 := K_s14.then_ hk (fun _ h => h.elim)
  clear hk
  refine p_cons (s_still p3_9_8 hE wn_none rfl (st_assign rfl) ?_)
  clear hE a; intro a hE
  refine p_cons (s_store (off := 0) (k := 5) (cs' := #[Value.bool d, Value.bool f2, Value.bool f3, Value.int .i64 i, Value.int .i64 r]) p3_9_9 hE wn_none tS28 rfl rfl rfl rfl B_g27 (by decide) rfl ?_)
  intro w30 B_g27' hk
  replace B_g1 := kp_blk B_g1 hk n_g1_g27
  replace B_g9 := kp_blk B_g9 hk n_g9_g27
  replace B_g15 := kp_blk B_g15 hk n_g15_g27
  replace K_0 := K_0.then_ hk (fun k h => by rw [show k = g27 from h]; exact Or.inr z_0_g27)
  replace K_s6 := K_s6.then_ hk (fun k h => by rw [show k = g27 from h]; exact Or.inr z_s6_g27)
  replace K_s8 := K_s8.then_ hk (fun k h => by rw [show k = g27 from h]; exact Or.inr z_s8_g27)
  replace K_s14 := K_s14.then_ hk (fun k h => by rw [show k = g27 from h]; exact Or.inr z_s14_g27)
  replace B_g27 := B_g27'
  clear hk
  refine p_cons (s_still p3_9_10 hE wn_none rfl (st_assign rfl) ?_)
  clear hE a; intro a hE
  refine p_cons (s_still p3_9_11 hE wn_none rfl (st_assign rfl) ?_)
  clear hE a; intro a hE
  refine p_nil ?_
  refine x_norm ?_
  refine c_drawS (S := fun W => W.heap[g1]? = some (.cells #[Value.bool d, Value.bool f2, Value.bool f3, Value.int .i64 i, Value.int .i64 r] 23 (0, 0)) ∧ W.heap[g9]? = some (.cells #[Value.bool q1, Value.bool q2, Value.bool q3, Value.int .i64 i', Value.int .i64 r'] 28 (0, 0)) ∧ W.heap[g15]? = some (.cells #[Value.bool q1, Value.bool q2, Value.bool q3, Value.int .i64 i', Value.int .i64 r'] 23 (0, 0)) ∧ W.heap[g27]? = some (.cells #[Value.bool d, Value.bool f2, Value.bool f3, Value.int .i64 i, Value.int .i64 r] 28 (0, 0)) ∧ True) rfl rfl ?_
  intro w31 hh hk
  replace B_g1 := kp_blk B_g1 hk (fun h => h)
  replace B_g9 := kp_blk B_g9 hk (fun h => h)
  replace B_g15 := kp_blk B_g15 hk (fun h => h)
  replace B_g27 := kp_blk B_g27 hk (fun h => h)
  replace K_0 := K_0.then_ hk (fun _ h => h.elim)
  replace K_s6 := K_s6.then_ hk (fun _ h => h.elim)
  replace K_s8 := K_s8.then_ hk (fun _ h => h.elim)
  replace K_s14 := K_s14.then_ hk (fun _ h => h.elim)
  clear hh hk
  refine d_one (by kernel_rfl) (s_call (xs := []) (args := []) p3_10_0 hE wn_none rfl rfl Try.func12 cl12 (rivuletlaw06_known.calls 25 true _ (by decide +kernel)) ?_)
  rintro e w32 ⟨rfl, hb⟩
  have hk := Kp.of_below hb (fun _ => False)
  replace B_g1 := kp_blk B_g1 hk (fun h => h)
  replace B_g9 := kp_blk B_g9 hk (fun h => h)
  replace B_g15 := kp_blk B_g15 hk (fun h => h)
  replace B_g27 := kp_blk B_g27 hk (fun h => h)
  replace K_0 := K_0.then_ hk (fun _ h => h.elim)
  replace K_s6 := K_s6.then_ hk (fun _ h => h.elim)
  replace K_s8 := K_s8.then_ hk (fun _ h => h.elim)
  replace K_s14 := K_s14.then_ hk (fun _ h => h.elim)
  refine ⟨_, rfl, ?_⟩
  clear hE a; intro a hE
  refine ⟨⟨B_g1, B_g9, B_g15, B_g27, trivial⟩, ?_⟩
  refine d_take (v := Value.bool true) p3_10_1 ns3_10 (by kernel_rfl) (by kernel_rfl) (fun _ _ _ h => h) hE wn_none rfl ⟨B_g1, B_g9, B_g15, B_g27, trivial⟩ (fun W hS => (st_move rfl)) ?_
  clear hE a; intro a hE
  refine d_take (v := Value.int .i64 0) p3_10_2 ns3_10 (by kernel_rfl) (by kernel_rfl) (fun _ _ _ h => h) hE (wn_some g3_10_1 rfl rfl) rfl ⟨B_g1, B_g9, B_g15, B_g27, trivial⟩ (fun W hS => (st_move rfl)) ?_
  clear hE a; intro a hE
  refine d_take (v := Value.bool true) p3_10_3 ns3_10 (by kernel_rfl) (by kernel_rfl) (fun _ _ _ h => h) hE (wn_some g3_10_1 rfl rfl) rfl ⟨B_g1, B_g9, B_g15, B_g27, trivial⟩ (fun W hS => (st_eql (b := true) rfl rfl (by decide))) ?_
  clear hE a; intro a hE
  refine d_take (v := Value.bool true) p3_10_4 ns3_10 (by kernel_rfl) (by kernel_rfl) (fun _ _ _ h => h) hE wn_none rfl ⟨B_g1, B_g9, B_g15, B_g27, trivial⟩ (fun W hS => (st_pick rfl rfl)) ?_
  clear hE a; intro a hE
  refine d_take (v := Value.bool true) p3_10_5 ns3_10 (by kernel_rfl) (by kernel_rfl) (fun _ _ _ h => h) hE wn_none rfl ⟨B_g1, B_g9, B_g15, B_g27, trivial⟩ (fun W hS => (st_move rfl)) ?_
  clear hE a; intro a hE
  refine d_take (v := Value.slice A9 8 c9) p3_10_6 ns3_10 (by kernel_rfl) (by kernel_rfl) (fun _ _ _ h => h) hE (wn_some g3_10_5 rfl rfl) rfl ⟨B_g1, B_g9, B_g15, B_g27, trivial⟩ (fun W hS => (st_move rfl)) ?_
  clear hE a; intro a hE
  refine d_take (v := Value.int .i64 n) p3_10_7 ns3_10 (by kernel_rfl) (by kernel_rfl) (fun _ _ _ h => h) hE (wn_some g3_10_5 rfl rfl) rfl ⟨B_g1, B_g9, B_g15, B_g27, trivial⟩ (fun W hS => (st_move rfl)) ?_
  clear hE a; intro a hE
  refine d_take (v := Value.agg #[Value.bool d, Value.bool f2, Value.bool f3, Value.int .i64 i, Value.int .i64 r]) p3_10_8 ns3_10 (by kernel_rfl) (by kernel_rfl) (fun _ _ _ h => h) hE (wn_some g3_10_5 rfl rfl) rfl ⟨B_g1, B_g9, B_g15, B_g27, trivial⟩ (fun W hS => (st_loadN (off := 0) (k := 5) (vs := [Value.bool d, Value.bool f2, Value.bool f3, Value.int .i64 i, Value.int .i64 r]) tA23 tS23 rfl hS.1 rfl rfl)) ?_
  clear hE a; intro a hE
  refine d_one (by kernel_rfl) (s_call (xs := [Operand.tmp 111, Operand.tmp 112]) (args := [Value.int .i64 n, Value.agg #[Value.bool d, Value.bool f2, Value.bool f3, Value.int .i64 i, Value.int .i64 r]]) p3_10_9 hE (wn_some g3_10_5 rfl rfl) rfl rfl Try.func13 cl13 (rivuletref06_Encode.calls 5 n d f2 f3 i r _ _ (renc_f n d f2 f3 i r hn hi hr)) ?_)
  rintro e w33 ⟨v7, rfl, ho7, hb⟩
  have hk := Kp.of_below hb (fun _ => False)
  obtain ⟨A7, c7, rfl⟩ := Kd.R_slice ho7
  have hC7 := (Kd.R_reads' ho7).2.2
  have hc7 := (Kd.R_reads' ho7).2.1
  replace B_g1 := kp_blk B_g1 hk (fun h => h)
  replace B_g9 := kp_blk B_g9 hk (fun h => h)
  replace B_g15 := kp_blk B_g15 hk (fun h => h)
  replace B_g27 := kp_blk B_g27 hk (fun h => h)
  replace K_0 := K_0.then_ hk (fun _ h => h.elim)
  replace K_s6 := K_s6.then_ hk (fun _ h => h.elim)
  replace K_s8 := K_s8.then_ hk (fun _ h => h.elim)
  replace K_s14 := K_s14.then_ hk (fun _ h => h.elim)
  refine ⟨_, rfl, ?_⟩
  clear hE a; intro a hE
  refine ⟨⟨B_g1, B_g9, B_g15, B_g27, trivial⟩, ?_⟩
  refine d_one (by kernel_rfl) (s_call (xs := [Operand.tmp 110, Operand.tmp 113]) (args := [Value.slice A9 8 c9, Value.slice A7 8 c7]) p3_10_10 hE (wn_some g3_10_5 rfl rfl) rfl rfl Try.func9 cl9 (same_kp A9 A7 c9 c7 [n, 0, 99, 4, flF d f2 f3, i, r / 256, r % 256] [n, 0, 99, 4, flF d f2 f3, i, r / 256, r % 256] true (by simp) _ (F_enc _ K_s6) hc9 hC7 hc7 (by simp)) ?_)
  rintro e w34 ⟨rfl, hk⟩
  replace B_g1 := kp_blk B_g1 hk (fun h => h)
  replace B_g9 := kp_blk B_g9 hk (fun h => h)
  replace B_g15 := kp_blk B_g15 hk (fun h => h)
  replace B_g27 := kp_blk B_g27 hk (fun h => h)
  replace K_0 := K_0.then_ hk (fun _ h => h.elim)
  replace K_s6 := K_s6.then_ hk (fun _ h => h.elim)
  replace K_s8 := K_s8.then_ hk (fun _ h => h.elim)
  replace K_s14 := K_s14.then_ hk (fun _ h => h.elim)
  refine ⟨_, rfl, ?_⟩
  clear hE a; intro a hE
  refine ⟨⟨B_g1, B_g9, B_g15, B_g27, trivial⟩, ?_⟩
  refine d_take (v := Value.bool true) p3_10_11 ns3_10 (by kernel_rfl) (by kernel_rfl) (fun _ _ _ h => h) hE wn_none rfl ⟨B_g1, B_g9, B_g15, B_g27, trivial⟩ (fun W hS => (st_pick rfl rfl)) ?_
  clear hE a; intro a hE
  refine d_take (v := Value.bool true) p3_10_12 ns3_10 (by kernel_rfl) (by kernel_rfl) (fun _ _ _ h => h) hE wn_none rfl ⟨B_g1, B_g9, B_g15, B_g27, trivial⟩ (fun W hS => (st_move rfl)) ?_
  clear hE a; intro a hE
  refine d_take (v := Value.int .i64 0) p3_10_13 ns3_10 (by kernel_rfl) (by kernel_rfl) (fun _ _ _ h => h) hE (wn_some g3_10_12 rfl rfl) rfl ⟨B_g1, B_g9, B_g15, B_g27, trivial⟩ (fun W hS => (st_move rfl)) ?_
  clear hE a; intro a hE
  refine d_take (v := Value.bool true) p3_10_14 ns3_10 (by kernel_rfl) (by kernel_rfl) (fun _ _ _ h => h) hE (wn_some g3_10_12 rfl rfl) rfl ⟨B_g1, B_g9, B_g15, B_g27, trivial⟩ (fun W hS => (st_eql (b := true) rfl rfl (by decide))) ?_
  clear hE a; intro a hE
  refine d_take (v := Value.bool true) p3_10_15 ns3_10 (by kernel_rfl) (by kernel_rfl) (fun _ _ _ h => h) hE wn_none rfl ⟨B_g1, B_g9, B_g15, B_g27, trivial⟩ (fun W hS => (st_pick rfl rfl)) ?_
  clear hE a; intro a hE
  refine d_take (v := Value.bool true) p3_10_16 ns3_10 (by kernel_rfl) (by kernel_rfl) (fun _ _ _ h => h) hE wn_none rfl ⟨B_g1, B_g9, B_g15, B_g27, trivial⟩ (fun W hS => (st_move rfl)) ?_
  clear hE a; intro a hE
  refine d_take (v := Value.int .i64 n) p3_10_17 ns3_10 (by kernel_rfl) (by kernel_rfl) (fun _ _ _ h => h) hE (wn_some g3_10_16 rfl rfl) rfl ⟨B_g1, B_g9, B_g15, B_g27, trivial⟩ (fun W hS => (st_move rfl)) ?_
  clear hE a; intro a hE
  refine d_take (v := Value.int .i64 n) p3_10_18 ns3_10 (by kernel_rfl) (by kernel_rfl) (fun _ _ _ h => h) hE (wn_some g3_10_16 rfl rfl) rfl ⟨B_g1, B_g9, B_g15, B_g27, trivial⟩ (fun W hS => (st_move rfl)) ?_
  clear hE a; intro a hE
  refine d_take (v := Value.bool true) p3_10_19 ns3_10 (by kernel_rfl) (by kernel_rfl) (fun _ _ _ h => h) hE (wn_some g3_10_16 rfl rfl) rfl ⟨B_g1, B_g9, B_g15, B_g27, trivial⟩ (fun W hS => (st_eql (b := true) rfl rfl (by simp))) ?_
  clear hE a; intro a hE
  refine d_take (v := Value.bool true) p3_10_20 ns3_10 (by kernel_rfl) (by kernel_rfl) (fun _ _ _ h => h) hE wn_none rfl ⟨B_g1, B_g9, B_g15, B_g27, trivial⟩ (fun W hS => (st_pick rfl rfl)) ?_
  clear hE a; intro a hE
  refine d_take (v := Value.bool true) p3_10_21 ns3_10 (by kernel_rfl) (by kernel_rfl) (fun _ _ _ h => h) hE wn_none rfl ⟨B_g1, B_g9, B_g15, B_g27, trivial⟩ (fun W hS => (st_move rfl)) ?_
  clear hE a; intro a hE
  refine d_take (v := Value.agg #[Value.bool d, Value.bool f2, Value.bool f3, Value.int .i64 i, Value.int .i64 r]) p3_10_22 ns3_10 (by kernel_rfl) (by kernel_rfl) (fun _ _ _ h => h) hE (wn_some g3_10_21 rfl rfl) rfl ⟨B_g1, B_g9, B_g15, B_g27, trivial⟩ (fun W hS => (st_loadN (off := 0) (k := 5) (vs := [Value.bool d, Value.bool f2, Value.bool f3, Value.int .i64 i, Value.int .i64 r]) tA28 tS28 rfl hS.2.2.2.1 rfl rfl)) ?_
  clear hE a; intro a hE
  refine d_take (v := Value.agg #[Value.bool d, Value.bool f2, Value.bool f3, Value.int .i64 i, Value.int .i64 r]) p3_10_24 ns3_10 (by kernel_rfl) (by kernel_rfl) (fun _ _ _ h => h) hE (wn_some g3_10_21 rfl rfl) rfl ⟨B_g1, B_g9, B_g15, B_g27, trivial⟩ (fun W hS => (st_loadN (off := 0) (k := 5) (vs := [Value.bool d, Value.bool f2, Value.bool f3, Value.int .i64 i, Value.int .i64 r]) tA23 tS23 rfl hS.1 rfl rfl)) ?_
  clear hE a; intro a hE
  refine d_one (by kernel_rfl) (s_call (xs := [Operand.tmp 126]) (args := [Value.agg #[Value.bool d, Value.bool f2, Value.bool f3, Value.int .i64 i, Value.int .i64 r]]) p3_10_23 hE (wn_some g3_10_21 rfl rfl) rfl rfl Try.func8 cl8 (rivuletlaw06_Of.calls d f2 f3 i r d f2 f3 i r _ rfl) ?_)
  rintro e w35 ⟨rfl, hb⟩
  have hk := Kp.of_below hb (fun _ => False)
  replace B_g1 := kp_blk B_g1 hk (fun h => h)
  replace B_g9 := kp_blk B_g9 hk (fun h => h)
  replace B_g15 := kp_blk B_g15 hk (fun h => h)
  replace B_g27 := kp_blk B_g27 hk (fun h => h)
  replace K_0 := K_0.then_ hk (fun _ h => h.elim)
  replace K_s6 := K_s6.then_ hk (fun _ h => h.elim)
  replace K_s8 := K_s8.then_ hk (fun _ h => h.elim)
  replace K_s14 := K_s14.then_ hk (fun _ h => h.elim)
  refine ⟨_, rfl, ?_⟩
  clear hE a; intro a hE
  refine ⟨⟨B_g1, B_g9, B_g15, B_g27, trivial⟩, ?_⟩
  refine d_take (v := Value.bool true) p3_10_25 ns3_10 (by kernel_rfl) (by kernel_rfl) (fun _ _ _ h => h) hE (wn_some g3_10_21 rfl rfl) rfl ⟨B_g1, B_g9, B_g15, B_g27, trivial⟩ (fun W hS => (st_eqlA (b := true) eg23 rfl rfl (eqA23_refl _ _ _ _ _))) ?_
  clear hE a; intro a hE
  refine d_take (v := Value.bool true) p3_10_26 ns3_10 (by kernel_rfl) (by kernel_rfl) (fun _ _ _ h => h) hE wn_none rfl ⟨B_g1, B_g9, B_g15, B_g27, trivial⟩ (fun W hS => (st_pick rfl rfl)) ?_
  clear hE a; intro a hE
  refine d_take (v := Value.bool true) p3_10_27 ns3_10 (by kernel_rfl) (by kernel_rfl) (fun _ _ _ h => h) hE wn_none rfl ⟨B_g1, B_g9, B_g15, B_g27, trivial⟩ (fun W hS => (st_move rfl)) ?_
  clear hE a; intro a hE
  refine d_take (v := Value.slice A8 0 c8) p3_10_28 ns3_10 (by kernel_rfl) (by kernel_rfl) (fun _ _ _ h => h) hE (wn_some g3_10_27 rfl rfl) rfl ⟨B_g1, B_g9, B_g15, B_g27, trivial⟩ (fun W hS => (st_move rfl)) ?_
  clear hE a; intro a hE
  refine d_take (v := Value.int .i64 0) p3_10_29 ns3_10 (by kernel_rfl) (by kernel_rfl) (fun _ _ _ h => h) hE (wn_some g3_10_27 rfl rfl) rfl ⟨B_g1, B_g9, B_g15, B_g27, trivial⟩ (fun W hS => (st_len Try.underlying24 rfl)) ?_
  clear hE a; intro a hE
  refine d_take (v := Value.bool true) p3_10_30 ns3_10 (by kernel_rfl) (by kernel_rfl) (fun _ _ _ h => h) hE (wn_some g3_10_27 rfl rfl) rfl ⟨B_g1, B_g9, B_g15, B_g27, trivial⟩ (fun W hS => (st_eql (b := true) rfl rfl (by decide))) ?_
  clear hE a; intro a hE
  refine d_take (v := Value.bool true) p3_10_31 ns3_10 (by kernel_rfl) (by kernel_rfl) (fun _ _ _ h => h) hE wn_none rfl ⟨B_g1, B_g9, B_g15, B_g27, trivial⟩ (fun W hS => (st_pick rfl rfl)) ?_
  clear hE a; intro a hE
  refine d_take (v := Value.bool true) p3_10_32 ns3_10 (by kernel_rfl) (by kernel_rfl) (fun _ _ _ h => h) hE wn_none rfl ⟨B_g1, B_g9, B_g15, B_g27, trivial⟩ (fun W hS => (st_assign rfl)) ?_
  clear hE a; intro a hE
  refine d_end (by kernel_rfl) ?_
  refine x_norm ?_
  refine wp_ret ?_
  refine ret_one (v := Value.bool true) rfl hE (.tmp rfl .nil) ?_
  exact ⟨rfl, K_0.to (Nat.le_refl _) (fun _ h => h.elim)⟩
theorem law_all (a0 : Int) (l1 : List Value) (z1 : Bool × Bool × Bool × Int × Int) (a2 : Option Addr) (cap2 : Nat) (z2 : List (Int)) (w : World) (w0 : (Lit.int .i64 a0).wf = true) (w1 : Kd.K (Kd.pair Kd.bool (Kd.pair Kd.bool (Kd.pair Kd.bool (Kd.pair (Kd.int .i64) (Kd.int .i64))))) w z1 l1) (o1 : (True ∧ (True ∧ (True ∧ ((Lit.int .i64 z1.2.2.2.1).wf = true ∧ ((Lit.int .i64 z1.2.2.2.2).wf = true)))))) (w2 : Kd.C (Kd.int .u8) w a2 z2.length z2) (m2 : z2.length ≤ cap2) (o2 : (z2.length ≤ maxLen ∧ ∀ x0 ∈ z2, (Lit.int .u8 x0).wf = true)) (y2 : z2.length * Try.prog.bytesOf 5 ≤ 140737488351232) (c2 : cap2 ≤ maxLen ∧ (a2 = none → cap2 = 0)) :
    Calls Try.prog 3 #[.int .i64 a0, .agg ⟨l1⟩, .slice a2 z2.length cap2] w fun e w' => e = .returned (.bool true) ∧ Below w.heap.size w w' := by
  obtain ⟨d, f2, f3, i, r⟩ := z1
  obtain ⟨_, _, rfl, rfl, _, _, rfl, rfl, _, _, rfl, rfl, _, _, rfl, rfl, rfl⟩ := w1
  have hby : ∀ x ∈ z2, 0 ≤ x ∧ x ≤ 255 := fun x hx => by have := o2.2 x hx; simp [Lit.wf, IntKind.min, IntKind.max, IntKind.signed, IntKind.bits] at this; omega
  have hcm : cap2 ≤ 9223372036854775807 := by have := c2.1; unfold maxLen at this; omega
  obtain ⟨x, hx⟩ : ∃ x : Nat, (if (60 : Int) < (z2.length : Int) then (60 : Int) else (z2.length : Int)) = (x : Int) := by split; exact ⟨60, rfl⟩; exact ⟨_, rfl⟩
  have hxl : x ≤ z2.length := by split at hx <;> omega
  have hlen : (z2.take x).length = x := by simp; omega
  have hx' : (if (60 : Int) < (z2.length : Int) then (60 : Int) else (z2.length : Int)) = ((z2.take x).length : Int) := by rw [hx, hlen]
  have hl : Kd.C (Kd.int .u8) w a2 (z2.take x).length (z2.take x) := by rw [hlen]; exact C_take w2 hxl
  have hb2 : ∀ y ∈ z2.take x, 0 ≤ y ∧ y ≤ 255 := fun y hy => hby y (List.mem_of_mem_take hy)
  have hle : (z2.take x).length ≤ z2.length := by omega
  have f1 := fits_lit 1 a0 256 (by decide) (by decide)
  by_cases hn : 0 ≤ a0 ∧ a0 < 256
  · have hf : fitsF 1 [a0] = true := by rw [f1]; simpa using hn
    by_cases hr : rightF i r = true
    · have h4 : (0 ≤ i ∧ i ≤ 255) ∧ (0 ≤ r ∧ r ≤ 65535) := by simpa [rightF] using hr
      exact law_ok a0 d f2 f3 i r a2 z2 (z2.take x) cap2 hx' w hl hle m2 hcm hb2 ⟨hn.1, by omega⟩ h4.1 h4.2
    · exact law_bad a0 d f2 f3 i r a2 z2 (z2.take x) cap2 hx' w hl hle m2 hcm hb2 hf (by simpa using hr)
  · have hf : fitsF 1 [a0] = false := by rw [f1]; simpa using hn
    by_cases hr : rightF i r = true
    · by_cases h0 : a0 < 0
      · exact law_low a0 d f2 f3 i r a2 z2 (z2.take x) cap2 hx' w hl hle m2 hcm hb2 hf hr h0
      · exact law_high a0 d f2 f3 i r a2 z2 (z2.take x) cap2 hx' w hl hle m2 hcm hb2 hf hr (by omega)
    · exact law_bad2 a0 d f2 f3 i r a2 z2 (z2.take x) cap2 hx' w hl hle m2 hcm hb2 hf (by simpa using hr)
end Go.Proofs.Ytpmbibpphomfkaa.Hb
