/- Package addr: Link, All, Node. -/
import Derived.Test.YtijfocnneccccaaPackPut
import Derived.Test.YtijfocnneccccaaMi
import Derived.Test.YtijfocnneccccaaRdv
import Derived.LoopN
set_option maxRecDepth 100000
set_option linter.unusedVariables false
set_option linter.unusedSimpArgs false
namespace Go.Proofs.Ytijfocnneccccaa.Ad
open Go.RowKit Go.Proofs.YtijfocnneccccaaW.PrintWords Go.Proofs.Ytijfocnneccccaa.Ds
open Go.Proofs.Ytijfocnneccccaa.Pk (Kp)
open Go.Proofs.Ytijfocnneccccaa.Mi (st_eqlP MapI)
section
variable {P : Program} {t e : TypeId} {d n s o : Nat} {k : IntKind} {l ks : List (Option IntKind)}
theorem flat_int (hu : P.underlying t = some (.int k)) : flat P (d + 1) t = some [some k] := by unfold flat; rw [hu]
theorem flat_arr (hu : P.underlying t = some (.array n e)) (he : flat P d e = some l) (hi : (P.info? e).map (·.size) = some s) (hs : s = l.length) (hA : flat.isAggT P e = true ∨ l.length = 1) : flat P (d + 1) t = some (List.replicate n l).flatten := by
 obtain ⟨i, h9, h8⟩ := Option.map_eq_some_iff.1 hi; subst h8
 unfold flat; rw [hu]; show (match flat P d e, P.info? e with | some l, some i => if i.size = l.length ∧ (flat.isAggT P e = true ∨ l.length = 1) then some (List.replicate n l).flatten else none | _, _ => none) = _; rw [he, h9]; exact if_pos ⟨hs, hA⟩
end
section
variable {P : Program} {T T1 T2 : TypeId} {m : List (Nat × Value)} {w : World} {X Y : Operand} {e : TypeId}
theorem st_sliceAH {g off s l hi : Nat} {Z : Operand} {k : IntKind} (hT : P.underlying T1 = some (.array l e)) (hs : (P.info? e).map (·.size) = some s) (h1 : ev m X = some (.pointer (some ⟨g, off, none⟩))) (h2 : ev m Z = some (.int k (hi : Int))) (hh : hi ≤ l) (hl : 0 < l) : Still P (.slice T1 X none (some Z) none) T m w (.slice (some ⟨g, off, none⟩) hi l) := fun q a hE o e1 e2 => by
 unfold execOp; rw [e1]
 have : l ≠ 0 := by omega
 simp [hE.ev h1, hE.ev h2, Instr.sliceAt, Instr.sureAddr, Instr.sliceBounds, Instr.sliceBound, asIntOf, run_underlying hT, run_sizeD hs, hh, this, Addr.add]
theorem st_sliceALH {g off s l lo hi o' n c : Nat} {Z Y : Operand} {k k2 : IntKind} (hT : P.underlying T1 = some (.array l e)) (hs : (P.info? e).map (·.size) = some s) (h1 : ev m X = some (.pointer (some ⟨g, off, none⟩))) (h2 : ev m Y = some (.int k (lo : Int))) (h3 : ev m Z = some (.int k2 (hi : Int))) (hh : hi ≤ l) (hlh : lo ≤ hi) (hl : lo < l) (ho : off + lo * s = o') (hn : hi - lo = n) (hc : l - lo = c) : Still P (.slice T1 X (some Y) (some Z) none) T m w (.slice (some ⟨g, o', none⟩) n c) := fun q a hE o e1 e2 => by
 subst ho; subst hn; subst hc
 unfold execOp; rw [e1]
 have : l ≠ lo := by omega
 simp [hE.ev h1, hE.ev h2, hE.ev h3, Instr.sliceAt, Instr.sureAddr, Instr.sliceBounds, Instr.sliceBound, asIntOf, run_underlying hT, run_sizeD hs, hh, hlh, this, Addr.add]
theorem st_sliceToArr {A : Option Addr} {n l c : Nat} (hT : P.underlying T1 = some (.array l e)) (h1 : ev m X = some (.slice A n c)) (hn : l ≤ n) : Still P (.sliceToArrayPointer T1 X) T m w (.pointer A) := fun q a hE o e1 e2 => by
 unfold execOp; rw [e1]
 simp [hE.ev h1, Instr.arrayAt, run_underlying hT, Nat.not_lt.2 hn]
end
theorem or256 {x y : Int} (hx : 0 ≤ x ∧ x ≤ 255) (hy : 0 ≤ y ∧ y ≤ 255) : bits .or .i64 (x * 256) y = x * 256 + y := by
 obtain ⟨a, rfl⟩ : ∃ a : Nat, x = (a : Int) := ⟨x.toNat, by omega⟩
 obtain ⟨b, rfl⟩ : ∃ b : Nat, y = (b : Int) := ⟨y.toNat, by omega⟩
 have ha : a ≤ 255 := by omega
 have hb : b ≤ 255 := by omega
 have e : a * 256 ||| b = a * 256 + b := by
  have h : b < 2 ^ 8 := by omega
  have := Nat.shiftLeft_add_eq_or_of_lt h a
  rw [Nat.shiftLeft_eq] at this
  exact this.symm
 have e1 : (BitVec.ofInt 64 ((a : Int) * 256)) = BitVec.ofNat 64 (a * 256) := by
  rw [← BitVec.ofInt_natCast]; congr 1
 have e2 : (BitVec.ofInt 64 (b : Int)) = BitVec.ofNat 64 b := by rw [BitVec.ofInt_natCast]
 unfold bits
 show IntKind.wrap .i64 ((BitVec.ofInt 64 ((a : Int) * 256) ||| BitVec.ofInt 64 (b : Int)).toNat : Int) = _
 rw [e1, e2, BitVec.toNat_or, BitVec.toNat_ofNat, BitVec.toNat_ofNat, Nat.mod_eq_of_lt (by omega), Nat.mod_eq_of_lt (by omega), e]
 have := wr_i64 (((a * 256 + b : Nat)) : Int) (by omega) (by omega)
 rw [this]
 omega
/-- A node's link-local address. -/
def linkF (n : Int) : Nat → Int := fun j => if j = 0 then 254 else if j = 1 then 128 else if j = 13 then 1 else if j = 15 then n + 1 else 0
/-- All routers. -/
def allF : Nat → Int := fun j => if j = 0 then 255 else if j = 1 then 2 else if j = 15 then 26 else 0
def frontB (d : Nat → Int) : Bool := decide (d 0 = 0 ∧ d 1 = 0 ∧ d 2 = 0 ∧ d 3 = 0 ∧ d 4 = 0 ∧ d 5 = 0 ∧ d 6 = 0 ∧ d 7 = 0)
def backB (d : Nat → Int) : Bool := decide (d 8 = 0 ∧ d 9 = 0 ∧ d 10 = 0 ∧ d 11 = 0 ∧ d 12 = 0 ∧ d 13 = 1)
/-- Whose an address is; below 0: nobody's. -/
def nodeF (d : Nat → Int) : Int := if (!frontB d && backB d && decide (d 14 = 0 ∧ 1 ≤ d 15 ∧ d 15 ≤ 64)) = true then d 15 - 1 else -1
theorem node_link {n : Int} (h0 : 0 ≤ n) (h1 : n < 64) : nodeF (linkF n) = n := by
 unfold nodeF
 rw [if_pos]
 · show n + 1 - 1 = n; omega
 ·
  have e1 : frontB (linkF n) = false := by unfold frontB linkF; simp
  have e2 : backB (linkF n) = true := by unfold backB linkF; simp
  rw [e1, e2]
  simp [linkF]
  omega
theorem link_bd {n : Int} (h0 : 0 ≤ n) (h1 : n < 64) (j : Nat) : 0 ≤ linkF n j ∧ linkF n j ≤ 255 := by
 unfold linkF
 split
 · omega
 ·
  split
  · omega
  ·
   split
   · omega
   · split <;> omega
theorem fgB (d : Nat → Int) (hd : ∀ j, 0 ≤ d j ∧ d j ≤ 255) : eqL [Value.int .i64 (d 0 * 256 + d 1), Value.int .i64 (d 2 * 256 + d 3), Value.int .i64 (d 4 * 256 + d 5), Value.int .i64 (d 6 * 256 + d 7)] [Value.int .i64 0, Value.int .i64 0, Value.int .i64 0, Value.int .i64 0] = frontB d := by
 have := hd 0; have := hd 1; have := hd 2; have := hd 3; have := hd 4; have := hd 5; have := hd 6; have := hd 7
 unfold frontB
 simp only [eqL, eqV, Bool.and_true]
 rw [← Bool.decide_and, ← Bool.decide_and, ← Bool.decide_and]
 exact decide_eq_decide.2 (by constructor <;> intro h <;> omega)
theorem bgB (d : Nat → Int) (hd : ∀ j, 0 ≤ d j ∧ d j ≤ 255) : eqL [Value.int .i64 (d 8 * 256 + d 9), Value.int .i64 (d 10 * 256 + d 11), Value.int .i64 (d 12 * 256 + d 13)] [Value.int .i64 0, Value.int .i64 0, Value.int .i64 1] = backB d := by
 have := hd 8; have := hd 9; have := hd 10; have := hd 11; have := hd 12; have := hd 13
 unfold backB
 simp only [eqL, eqV, Bool.and_true]
 rw [← Bool.decide_and, ← Bool.decide_and]
 exact decide_eq_decide.2 (by constructor <;> intro h <;> omega)
theorem R37_0_l : List.range (regOf Try.f37 0).size = [0, 1] := by kernel_rfl
theorem R37_1_l : List.range (regOf Try.f37 1).size = [0] := by kernel_rfl
theorem R37_2_l : List.range (regOf Try.f37 2).size = [0, 1, 2] := by kernel_rfl
theorem R37_4_l : List.range (regOf Try.f37 4).size = [0, 1, 2] := by kernel_rfl
theorem R37_5_l : List.range (regOf Try.f37 5).size = [0] := by kernel_rfl
theorem R37_6_l : List.range (regOf Try.f37 6).size = [0, 1, 2, 3, 4] := by kernel_rfl
theorem R37_7_l : List.range (regOf Try.f37 7).size = [0, 1, 2, 3, 4, 5] := by kernel_rfl
theorem R37_9_l : List.range (regOf Try.f37 9).size = [0, 1, 2, 3, 4, 5, 6, 7, 8, 9, 10, 11, 12, 13] := by kernel_rfl
theorem R37_10_l : List.range (regOf Try.f37 10).size = [0, 1] := by kernel_rfl
theorem R37_11_l : List.range (regOf Try.f37 11).size = [0, 1, 2] := by kernel_rfl
theorem body37 : Try.f37.body = some (.seq (.region 0 (regOf Try.f37 0) false) (.seq (.region 1 (regOf Try.f37 1) false) (.seq (.seq (.region 2 (regOf Try.f37 2) false) (.cond (Operand.tmp 9) (.seq (.region 3 (regOf Try.f37 3) false) (.ret)) (.skip))) (.seq (.seq (.region 4 (regOf Try.f37 4) false) (.block 0 (.loop (.seq (.region 5 (regOf Try.f37 5) false) (.seq (.cond (Operand.tmp 14) (.skip) (.exit 0)) (.seq (.block 1 (.seq (.region 6 (regOf Try.f37 6) false) (.seq (.seq (.region 7 (regOf Try.f37 7) false) (.cond (Operand.tmp 23) (.seq (.region 8 (regOf Try.f37 8) false) (.ret)) (.skip))) (.region 9 (regOf Try.f37 9) false)))) (.region 10 (regOf Try.f37 10) false))))))) (.seq (.region 11 (regOf Try.f37 11) false) (.ret)))))) := by kernel_rfl
theorem P37_0 : (List.range (regOf Try.f37 0).size).map (pj (regOf Try.f37 0)) = [zz 2 (.alloc 25) 0, zz 3 (.assign (.const (.int .i64 0))) 36] := by kernel_rfl
theorem tZ25 : (Try.prog.info? 25).bind (·.zero) = some (Value.agg (b16 (fun _ => 0)).toArray) := by kernel_rfl
theorem p37_1_0 : pj (regOf Try.f37 1) 0 = some (some 4, .alloc 25, 0, none) := by kernel_rfl
theorem P37_2 : (List.range (regOf Try.f37 2).size).map (pj (regOf Try.f37 2)) = [zz 7 (.move (.tmp 0)) 22, zz 8 (.call { callee := .builtin .len, args := #[.tmp 7], argTypes := #[22] }) 3, zz 9 (.binOp .neq 3 (.tmp 8) (.const (.int .i64 8)) 3) 4] := by kernel_rfl
theorem P37_4 : (List.range (regOf Try.f37 4).size).map (pj (regOf Try.f37 4)) = [zz 11 (.move (.tmp 0)) 22, zz 12 (.call { callee := .builtin .len, args := #[.tmp 11], argTypes := #[22] }) 3, zz 13 (.move (.const (.int .i64 0))) 3] := by kernel_rfl
theorem p37_5_0 : pj (regOf Try.f37 5) 0 = some (some 14, .binOp .lss 3 (.tmp 13) (.tmp 12) 3, 0, none) := by kernel_rfl
theorem P37_6 : (List.range (regOf Try.f37 6).size).map (pj (regOf Try.f37 6)) = [zz 15 (.move (.tmp 13)) 3, zz 16 (.indexAddr 22 (.tmp 11) (.tmp 13)) 0, zz 17 (.load 3 (.tmp 16)) 3, zz 5 (.assign (.tmp 15)) 3, zz 6 (.assign (.tmp 17)) 3] := by kernel_rfl
theorem tS3 : (Try.prog.info? 3).map (·.size) = some 1 := by kernel_rfl
theorem tA3 : (Try.prog.underlying 3).map aggD = some false := by kernel_rfl
theorem P37_7 : (List.range (regOf Try.f37 7).size).map (pj (regOf Try.f37 7)) = [zz 18 (.move (.tmp 6)) 3, zz 19 (.binOp .lss 3 (.tmp 18) (.const (.int .i64 0)) 3) 4, zz 20 (.move (.tmp 19)) 4, some (some 21, .move (.tmp 6), 3, some (2, false)), some (some 22, .binOp .gtr 3 (.tmp 21) (.const (.int .i64 65535)) 3, 4, some (2, false)), zz 23 (.pick (.tmp 20) (.const (.bool true)) (.tmp 22)) 4] := by kernel_rfl
theorem g37_7_2 : dstOf (regOf Try.f37 7) 2 = some 20 := by kernel_rfl
theorem P37_9 : (List.range (regOf Try.f37 9).size).map (pj (regOf Try.f37 9)) = [zz 25 (.move (.tmp 5)) 3, zz 26 (.binOp .mul 3 (.const (.int .i64 2)) (.tmp 25) 3) 3, zz 27 (.move (.tmp 5)) 3, zz 28 (.binOp .mul 3 (.const (.int .i64 2)) (.tmp 27) 3) 3, zz 29 (.binOp .add 3 (.tmp 28) (.const (.int .i64 1)) 3) 3, zz 30 (.move (.tmp 6)) 3, zz 31 (.binOp .shr 3 (.tmp 30) (.const (.int .u64 8)) 148) 3, zz 32 (.convert 3 5 (.tmp 31)) 5, zz 33 (.move (.tmp 6)) 3, zz 34 (.convert 3 5 (.tmp 33)) 5, zz 35 (.indexAddr 25 (.tmp 4) (.tmp 26)) 0, some (none, .store 5 (.tmp 35) (.tmp 32), 0, none), zz 36 (.indexAddr 25 (.tmp 4) (.tmp 29)) 0, some (none, .store 5 (.tmp 36) (.tmp 34), 0, none)] := by kernel_rfl
theorem tS5 : (Try.prog.info? 5).map (·.size) = some 1 := by kernel_rfl
theorem P37_10 : (List.range (regOf Try.f37 10).size).map (pj (regOf Try.f37 10)) = [zz 37 (.binOp .add 3 (.tmp 13) (.const (.int .i64 1)) 3) 3, zz 13 (.move (.tmp 37)) 3] := by kernel_rfl
theorem P37_11 : (List.range (regOf Try.f37 11).size).map (pj (regOf Try.f37 11)) = [zz 38 (.load 25 (.tmp 4)) 25, some (none, .store 25 (.tmp 2) (.tmp 38), 0, none), zz 3 (.assign (.const (.int .i64 0))) 36] := by kernel_rfl
theorem tA25 : (Try.prog.underlying 25).map aggD = some true := by kernel_rfl
theorem tS25 : (Try.prog.info? 25).map (·.size) = some 16 := by kernel_rfl
set_option maxHeartbeats 4000000 in
theorem of_8 (gI : Nat) (v0 v1 v2 v3 v4 v5 v6 v7 : Int) (h0 : 0 ≤ v0 ∧ v0 ≤ 65535) (h1 : 0 ≤ v1 ∧ v1 ≤ 65535) (h2 : 0 ≤ v2 ∧ v2 ≤ 65535) (h3 : 0 ≤ v3 ∧ v3 ≤ 65535) (h4 : 0 ≤ v4 ∧ v4 ≤ 65535) (h5 : 0 ≤ v5 ∧ v5 ≤ 65535) (h6 : 0 ≤ v6 ∧ v6 ≤ 65535) (h7 : 0 ≤ v7 ∧ v7 ≤ 65535) (w : World) (hB : w.heap[gI]? = some (.cells #[.int .i64 v0, .int .i64 v1, .int .i64 v2, .int .i64 v3, .int .i64 v4, .int .i64 v5, .int .i64 v6, .int .i64 v7] 3 (0, 0))) : Calls Try.prog 37 #[.slice (some ⟨gI, 0, none⟩) 8 8] w fun e w' => e = .returned (.tuple #[Value.agg #[Value.int .u8 (v0 / 256), Value.int .u8 (v0 % 256), Value.int .u8 (v1 / 256), Value.int .u8 (v1 % 256), Value.int .u8 (v2 / 256), Value.int .u8 (v2 % 256), Value.int .u8 (v3 / 256), Value.int .u8 (v3 % 256), Value.int .u8 (v4 / 256), Value.int .u8 (v4 % 256), Value.int .u8 (v5 / 256), Value.int .u8 (v5 % 256), Value.int .u8 (v6 / 256), Value.int .u8 (v6 % 256), Value.int .u8 (v7 / 256), Value.int .u8 (v7 % 256)], .int .i64 0]) ∧ Kp w w' (fun _ => False) := by
 have K_0 := Kp.refl w (fun _ => False)
 have B_gI := hB
 refine enter (args := [Value.slice (some ⟨gI, 0, none⟩) 8 8]) (n := 39) Try.func37 body37 rfl rfl rfl ?_
 intro a hE
 refine c_reg R37_0_l ?_
 refine p_cons (s_alloc (pl P37_0 0) hE wn_none rfl tZ25 ?_)
 clear hE a; intro g1 w2 z3 B_g1 hk a hE
 replace B_g1 : w2.heap[g1]? = some (.cells (b16 (fun _ => 0)).toArray 25 (0, 0)) := B_g1
 have n_gI_g1 : gI ≠ g1 := ne_new B_gI z3
 have z_0_g1 := Nat.le_trans K_0.kept.1 z3
 replace B_gI := kp_blk B_gI hk (fun h => h)
 replace K_0 := K_0.then_ hk (fun _ h => h.elim)
 clear hk
 refine q0 (pl P37_0 1) hE (st_assign rfl) ?_; clear hE a; intro a hE
 refine p_nil (x_norm (c_reg R37_1_l ?_))
 refine p_cons (s_alloc p37_1_0 hE wn_none rfl tZ25 ?_)
 clear hE a; intro g4 w5 z6 B_g4 hk a hE
 replace B_g4 : w5.heap[g4]? = some (.cells (b16 (fun _ => 0)).toArray 25 (0, 0)) := B_g4
 have n_gI_g4 : gI ≠ g4 := ne_new B_gI z6
 have n_g1_g4 : g1 ≠ g4 := ne_new B_g1 z6
 have z_0_g4 := Nat.le_trans K_0.kept.1 z6
 replace B_gI := kp_blk B_gI hk (fun h => h)
 replace B_g1 := kp_blk B_g1 hk (fun h => h)
 replace K_0 := K_0.then_ hk (fun _ h => h.elim)
 clear hk
 refine p_nil (x_norm (wp_seq (c_reg R37_2_l ?_)))
 refine qn hE (rc (pl P37_2 0) (st_move rfl) (rc (pl P37_2 1) (st_len Try.underlying22 rfl) (rc (pl P37_2 2) (st_neq (b := false) rfl rfl (by decide)) rn))) ?_; clear hE a; intro a hE
 refine p_nil (x_norm ?_)
 refine c_cond (t := false) hE rfl ?_
 refine wp_skip (x_norm (wp_seq (c_reg R37_4_l ?_)))
 refine qn hE (rc (pl P37_4 0) (st_move rfl) (rc (pl P37_4 1) (st_len Try.underlying22 rfl) (rc (pl P37_4 2) (st_move rfl) rn))) ?_; clear hE a; intro a hE
 refine p_nil (x_norm (wp_block ?_))
 refine wp_loop_rounds 9 ?_
 refine (Eq.mpr (rounds_succ (n := 8)) ?_)
 refine c_reg R37_5_l ?_
 refine q0 p37_5_0 hE (st_lss (b := true) rfl rfl (by decide)) ?_; clear hE a; intro a hE
 refine p_nil (x_norm (wp_seq ?_))
 refine c_cond (t := true) hE rfl ?_
 refine wp_skip (x_norm (wp_seq (wp_block (c_reg R37_6_l ?_))))
 refine qn hE (rc (pl P37_6 0) (st_move rfl) (rc (pl P37_6 1) (st_indexAddr (i := 0) Try.underlying22 tS3 rfl rfl (by decide) rfl) (rc (pl P37_6 2) (st_load1 tA3 rfl ((blk_cell B_gI 0).trans rfl)) (rc (pl P37_6 3) (st_assign rfl) (rc (pl P37_6 4) (st_assign rfl) rn))))) ?_; clear hE a; intro a hE
 refine p_nil (x_norm (wp_seq (c_reg R37_7_l ?_)))
 refine qn hE (rc (pl P37_7 0) (st_move rfl) (rc (pl P37_7 1) (st_lss (b := false) rfl rfl (decide_eq_false (by omega))) (rc (pl P37_7 2) (st_move rfl) (rg (pl P37_7 3) (wn_some g37_7_2 rfl rfl) (st_move rfl) (rg (pl P37_7 4) (wn_some g37_7_2 rfl rfl) (st_gtr (b := false) rfl rfl (decide_eq_false (by omega))) (rc (pl P37_7 5) (st_pick rfl rfl) rn)))))) ?_; clear hE a; intro a hE
 refine p_nil (x_norm ?_)
 refine c_cond (t := false) hE rfl ?_
 refine wp_skip (x_norm (c_regL R37_9_l ?_))
 refine qn hE (rc (pl P37_9 0) (st_move rfl) (rc (pl P37_9 1) (st_mul (z := 0) rfl rfl (by decide)) (rc (pl P37_9 2) (st_move rfl) (rc (pl P37_9 3) (st_mul (z := 0) rfl rfl (by decide)) (rc (pl P37_9 4) (st_add (z := 1) rfl rfl (by decide)) (rc (pl P37_9 5) (st_move rfl) (rc (pl P37_9 6) (st_shr (z := v0 / 256) rfl rfl (by decide) (by decide) (by rfl)) (rc (pl P37_9 7) (st_conv (z := (v0 / 256)) (by kernel_rfl) Try.underlying5 rfl (wr_u8 _ (by omega) (by omega))) (rc (pl P37_9 8) (st_move rfl) (rc (pl P37_9 9) (st_conv (z := (v0 % 256)) (by kernel_rfl) Try.underlying5 rfl (IntKind.wrap_u8 _)) (rc (pl P37_9 10) (st_indexAddrA (l := 16) (i := 0) Try.underlying25 tS5 rfl rfl (by decide) rfl) rn))))))))))) ?_; clear hE a; intro a hE
 refine p_cons (s_store (off := 0) (k := 1) (cs' := #[Value.int .u8 (v0 / 256), Value.int .u8 0, Value.int .u8 0, Value.int .u8 0, Value.int .u8 0, Value.int .u8 0, Value.int .u8 0, Value.int .u8 0, Value.int .u8 0, Value.int .u8 0, Value.int .u8 0, Value.int .u8 0, Value.int .u8 0, Value.int .u8 0, Value.int .u8 0, Value.int .u8 0]) (pl P37_9 11) hE wn_none tS5 rfl rfl rfl rfl B_g4 (Nat.le_of_ble_eq_true rfl) rfl ?_)
 intro w7 B_g4' hk
 replace B_gI := kp_blk B_gI hk n_gI_g4
 replace B_g1 := kp_blk B_g1 hk n_g1_g4
 replace K_0 := K_0.then_ hk (fun k h => by rw [show k = g4 from h]; exact Or.inr z_0_g4)
 replace B_g4 := B_g4'
 clear hk
 refine q0 (pl P37_9 12) hE (st_indexAddrA (l := 16) (i := 1) Try.underlying25 tS5 rfl rfl (by decide) rfl) ?_; clear hE a; intro a hE
 refine p_cons (s_store (off := 1) (k := 1) (cs' := #[Value.int .u8 (v0 / 256), Value.int .u8 (v0 % 256), Value.int .u8 0, Value.int .u8 0, Value.int .u8 0, Value.int .u8 0, Value.int .u8 0, Value.int .u8 0, Value.int .u8 0, Value.int .u8 0, Value.int .u8 0, Value.int .u8 0, Value.int .u8 0, Value.int .u8 0, Value.int .u8 0, Value.int .u8 0]) (pl P37_9 13) hE wn_none tS5 rfl rfl rfl rfl B_g4 (Nat.le_of_ble_eq_true rfl) rfl ?_)
 intro w8 B_g4' hk
 replace B_gI := kp_blk B_gI hk n_gI_g4
 replace B_g1 := kp_blk B_g1 hk n_g1_g4
 replace K_0 := K_0.then_ hk (fun k h => by rw [show k = g4 from h]; exact Or.inr z_0_g4)
 replace B_g4 := B_g4'
 clear hk
 refine p_nil (x_normB (x_norm (c_regL R37_10_l ?_)))
 refine qn hE (rc (pl P37_10 0) (st_add (z := 1) rfl rfl (by decide)) (rc (pl P37_10 1) (st_move rfl) rn)) ?_; clear hE a; intro a hE
 refine p_nil (x_norm ?_)
 refine (Eq.mpr (rounds_succ (n := 7)) ?_)
 refine c_reg R37_5_l ?_
 refine q0 p37_5_0 hE (st_lss (b := true) rfl rfl (by decide)) ?_; clear hE a; intro a hE
 refine p_nil (x_norm (wp_seq ?_))
 refine c_cond (t := true) hE rfl ?_
 refine wp_skip (x_norm (wp_seq (wp_block (c_reg R37_6_l ?_))))
 refine qn hE (rc (pl P37_6 0) (st_move rfl) (rc (pl P37_6 1) (st_indexAddr (i := 1) Try.underlying22 tS3 rfl rfl (by decide) rfl) (rc (pl P37_6 2) (st_load1 tA3 rfl ((blk_cell B_gI 1).trans rfl)) (rc (pl P37_6 3) (st_assign rfl) (rc (pl P37_6 4) (st_assign rfl) rn))))) ?_; clear hE a; intro a hE
 refine p_nil (x_norm (wp_seq (c_reg R37_7_l ?_)))
 refine qn hE (rc (pl P37_7 0) (st_move rfl) (rc (pl P37_7 1) (st_lss (b := false) rfl rfl (decide_eq_false (by omega))) (rc (pl P37_7 2) (st_move rfl) (rg (pl P37_7 3) (wn_some g37_7_2 rfl rfl) (st_move rfl) (rg (pl P37_7 4) (wn_some g37_7_2 rfl rfl) (st_gtr (b := false) rfl rfl (decide_eq_false (by omega))) (rc (pl P37_7 5) (st_pick rfl rfl) rn)))))) ?_; clear hE a; intro a hE
 refine p_nil (x_norm ?_)
 refine c_cond (t := false) hE rfl ?_
 refine wp_skip (x_norm (c_regL R37_9_l ?_))
 refine qn hE (rc (pl P37_9 0) (st_move rfl) (rc (pl P37_9 1) (st_mul (z := 2) rfl rfl (by decide)) (rc (pl P37_9 2) (st_move rfl) (rc (pl P37_9 3) (st_mul (z := 2) rfl rfl (by decide)) (rc (pl P37_9 4) (st_add (z := 3) rfl rfl (by decide)) (rc (pl P37_9 5) (st_move rfl) (rc (pl P37_9 6) (st_shr (z := v1 / 256) rfl rfl (by decide) (by decide) (by rfl)) (rc (pl P37_9 7) (st_conv (z := (v1 / 256)) (by kernel_rfl) Try.underlying5 rfl (wr_u8 _ (by omega) (by omega))) (rc (pl P37_9 8) (st_move rfl) (rc (pl P37_9 9) (st_conv (z := (v1 % 256)) (by kernel_rfl) Try.underlying5 rfl (IntKind.wrap_u8 _)) (rc (pl P37_9 10) (st_indexAddrA (l := 16) (i := 2) Try.underlying25 tS5 rfl rfl (by decide) rfl) rn))))))))))) ?_; clear hE a; intro a hE
 refine p_cons (s_store (off := 2) (k := 1) (cs' := #[Value.int .u8 (v0 / 256), Value.int .u8 (v0 % 256), Value.int .u8 (v1 / 256), Value.int .u8 0, Value.int .u8 0, Value.int .u8 0, Value.int .u8 0, Value.int .u8 0, Value.int .u8 0, Value.int .u8 0, Value.int .u8 0, Value.int .u8 0, Value.int .u8 0, Value.int .u8 0, Value.int .u8 0, Value.int .u8 0]) (pl P37_9 11) hE wn_none tS5 rfl rfl rfl rfl B_g4 (Nat.le_of_ble_eq_true rfl) rfl ?_)
 intro w9 B_g4' hk
 replace B_gI := kp_blk B_gI hk n_gI_g4
 replace B_g1 := kp_blk B_g1 hk n_g1_g4
 replace K_0 := K_0.then_ hk (fun k h => by rw [show k = g4 from h]; exact Or.inr z_0_g4)
 replace B_g4 := B_g4'
 clear hk
 refine q0 (pl P37_9 12) hE (st_indexAddrA (l := 16) (i := 3) Try.underlying25 tS5 rfl rfl (by decide) rfl) ?_; clear hE a; intro a hE
 refine p_cons (s_store (off := 3) (k := 1) (cs' := #[Value.int .u8 (v0 / 256), Value.int .u8 (v0 % 256), Value.int .u8 (v1 / 256), Value.int .u8 (v1 % 256), Value.int .u8 0, Value.int .u8 0, Value.int .u8 0, Value.int .u8 0, Value.int .u8 0, Value.int .u8 0, Value.int .u8 0, Value.int .u8 0, Value.int .u8 0, Value.int .u8 0, Value.int .u8 0, Value.int .u8 0]) (pl P37_9 13) hE wn_none tS5 rfl rfl rfl rfl B_g4 (Nat.le_of_ble_eq_true rfl) rfl ?_)
 intro w10 B_g4' hk
 replace B_gI := kp_blk B_gI hk n_gI_g4
 replace B_g1 := kp_blk B_g1 hk n_g1_g4
 replace K_0 := K_0.then_ hk (fun k h => by rw [show k = g4 from h]; exact Or.inr z_0_g4)
 replace B_g4 := B_g4'
 clear hk
 refine p_nil (x_normB (x_norm (c_regL R37_10_l ?_)))
 refine qn hE (rc (pl P37_10 0) (st_add (z := 2) rfl rfl (by decide)) (rc (pl P37_10 1) (st_move rfl) rn)) ?_; clear hE a; intro a hE
 refine p_nil (x_norm ?_)
 refine (Eq.mpr (rounds_succ (n := 6)) ?_)
 refine c_reg R37_5_l ?_
 refine q0 p37_5_0 hE (st_lss (b := true) rfl rfl (by decide)) ?_; clear hE a; intro a hE
 refine p_nil (x_norm (wp_seq ?_))
 refine c_cond (t := true) hE rfl ?_
 refine wp_skip (x_norm (wp_seq (wp_block (c_reg R37_6_l ?_))))
 refine qn hE (rc (pl P37_6 0) (st_move rfl) (rc (pl P37_6 1) (st_indexAddr (i := 2) Try.underlying22 tS3 rfl rfl (by decide) rfl) (rc (pl P37_6 2) (st_load1 tA3 rfl ((blk_cell B_gI 2).trans rfl)) (rc (pl P37_6 3) (st_assign rfl) (rc (pl P37_6 4) (st_assign rfl) rn))))) ?_; clear hE a; intro a hE
 refine p_nil (x_norm (wp_seq (c_reg R37_7_l ?_)))
 refine qn hE (rc (pl P37_7 0) (st_move rfl) (rc (pl P37_7 1) (st_lss (b := false) rfl rfl (decide_eq_false (by omega))) (rc (pl P37_7 2) (st_move rfl) (rg (pl P37_7 3) (wn_some g37_7_2 rfl rfl) (st_move rfl) (rg (pl P37_7 4) (wn_some g37_7_2 rfl rfl) (st_gtr (b := false) rfl rfl (decide_eq_false (by omega))) (rc (pl P37_7 5) (st_pick rfl rfl) rn)))))) ?_; clear hE a; intro a hE
 refine p_nil (x_norm ?_)
 refine c_cond (t := false) hE rfl ?_
 refine wp_skip (x_norm (c_regL R37_9_l ?_))
 refine qn hE (rc (pl P37_9 0) (st_move rfl) (rc (pl P37_9 1) (st_mul (z := 4) rfl rfl (by decide)) (rc (pl P37_9 2) (st_move rfl) (rc (pl P37_9 3) (st_mul (z := 4) rfl rfl (by decide)) (rc (pl P37_9 4) (st_add (z := 5) rfl rfl (by decide)) (rc (pl P37_9 5) (st_move rfl) (rc (pl P37_9 6) (st_shr (z := v2 / 256) rfl rfl (by decide) (by decide) (by rfl)) (rc (pl P37_9 7) (st_conv (z := (v2 / 256)) (by kernel_rfl) Try.underlying5 rfl (wr_u8 _ (by omega) (by omega))) (rc (pl P37_9 8) (st_move rfl) (rc (pl P37_9 9) (st_conv (z := (v2 % 256)) (by kernel_rfl) Try.underlying5 rfl (IntKind.wrap_u8 _)) (rc (pl P37_9 10) (st_indexAddrA (l := 16) (i := 4) Try.underlying25 tS5 rfl rfl (by decide) rfl) rn))))))))))) ?_; clear hE a; intro a hE
 refine p_cons (s_store (off := 4) (k := 1) (cs' := #[Value.int .u8 (v0 / 256), Value.int .u8 (v0 % 256), Value.int .u8 (v1 / 256), Value.int .u8 (v1 % 256), Value.int .u8 (v2 / 256), Value.int .u8 0, Value.int .u8 0, Value.int .u8 0, Value.int .u8 0, Value.int .u8 0, Value.int .u8 0, Value.int .u8 0, Value.int .u8 0, Value.int .u8 0, Value.int .u8 0, Value.int .u8 0]) (pl P37_9 11) hE wn_none tS5 rfl rfl rfl rfl B_g4 (Nat.le_of_ble_eq_true rfl) rfl ?_)
 intro w11 B_g4' hk
 replace B_gI := kp_blk B_gI hk n_gI_g4
 replace B_g1 := kp_blk B_g1 hk n_g1_g4
 replace K_0 := K_0.then_ hk (fun k h => by rw [show k = g4 from h]; exact Or.inr z_0_g4)
 replace B_g4 := B_g4'
 clear hk
 refine q0 (pl P37_9 12) hE (st_indexAddrA (l := 16) (i := 5) Try.underlying25 tS5 rfl rfl (by decide) rfl) ?_; clear hE a; intro a hE
 refine p_cons (s_store (off := 5) (k := 1) (cs' := #[Value.int .u8 (v0 / 256), Value.int .u8 (v0 % 256), Value.int .u8 (v1 / 256), Value.int .u8 (v1 % 256), Value.int .u8 (v2 / 256), Value.int .u8 (v2 % 256), Value.int .u8 0, Value.int .u8 0, Value.int .u8 0, Value.int .u8 0, Value.int .u8 0, Value.int .u8 0, Value.int .u8 0, Value.int .u8 0, Value.int .u8 0, Value.int .u8 0]) (pl P37_9 13) hE wn_none tS5 rfl rfl rfl rfl B_g4 (Nat.le_of_ble_eq_true rfl) rfl ?_)
 intro w12 B_g4' hk
 replace B_gI := kp_blk B_gI hk n_gI_g4
 replace B_g1 := kp_blk B_g1 hk n_g1_g4
 replace K_0 := K_0.then_ hk (fun k h => by rw [show k = g4 from h]; exact Or.inr z_0_g4)
 replace B_g4 := B_g4'
 clear hk
 refine p_nil (x_normB (x_norm (c_regL R37_10_l ?_)))
 refine qn hE (rc (pl P37_10 0) (st_add (z := 3) rfl rfl (by decide)) (rc (pl P37_10 1) (st_move rfl) rn)) ?_; clear hE a; intro a hE
 refine p_nil (x_norm ?_)
 refine (Eq.mpr (rounds_succ (n := 5)) ?_)
 refine c_reg R37_5_l ?_
 refine q0 p37_5_0 hE (st_lss (b := true) rfl rfl (by decide)) ?_; clear hE a; intro a hE
 refine p_nil (x_norm (wp_seq ?_))
 refine c_cond (t := true) hE rfl ?_
 refine wp_skip (x_norm (wp_seq (wp_block (c_reg R37_6_l ?_))))
 refine qn hE (rc (pl P37_6 0) (st_move rfl) (rc (pl P37_6 1) (st_indexAddr (i := 3) Try.underlying22 tS3 rfl rfl (by decide) rfl) (rc (pl P37_6 2) (st_load1 tA3 rfl ((blk_cell B_gI 3).trans rfl)) (rc (pl P37_6 3) (st_assign rfl) (rc (pl P37_6 4) (st_assign rfl) rn))))) ?_; clear hE a; intro a hE
 refine p_nil (x_norm (wp_seq (c_reg R37_7_l ?_)))
 refine qn hE (rc (pl P37_7 0) (st_move rfl) (rc (pl P37_7 1) (st_lss (b := false) rfl rfl (decide_eq_false (by omega))) (rc (pl P37_7 2) (st_move rfl) (rg (pl P37_7 3) (wn_some g37_7_2 rfl rfl) (st_move rfl) (rg (pl P37_7 4) (wn_some g37_7_2 rfl rfl) (st_gtr (b := false) rfl rfl (decide_eq_false (by omega))) (rc (pl P37_7 5) (st_pick rfl rfl) rn)))))) ?_; clear hE a; intro a hE
 refine p_nil (x_norm ?_)
 refine c_cond (t := false) hE rfl ?_
 refine wp_skip (x_norm (c_regL R37_9_l ?_))
 refine qn hE (rc (pl P37_9 0) (st_move rfl) (rc (pl P37_9 1) (st_mul (z := 6) rfl rfl (by decide)) (rc (pl P37_9 2) (st_move rfl) (rc (pl P37_9 3) (st_mul (z := 6) rfl rfl (by decide)) (rc (pl P37_9 4) (st_add (z := 7) rfl rfl (by decide)) (rc (pl P37_9 5) (st_move rfl) (rc (pl P37_9 6) (st_shr (z := v3 / 256) rfl rfl (by decide) (by decide) (by rfl)) (rc (pl P37_9 7) (st_conv (z := (v3 / 256)) (by kernel_rfl) Try.underlying5 rfl (wr_u8 _ (by omega) (by omega))) (rc (pl P37_9 8) (st_move rfl) (rc (pl P37_9 9) (st_conv (z := (v3 % 256)) (by kernel_rfl) Try.underlying5 rfl (IntKind.wrap_u8 _)) (rc (pl P37_9 10) (st_indexAddrA (l := 16) (i := 6) Try.underlying25 tS5 rfl rfl (by decide) rfl) rn))))))))))) ?_; clear hE a; intro a hE
 refine p_cons (s_store (off := 6) (k := 1) (cs' := #[Value.int .u8 (v0 / 256), Value.int .u8 (v0 % 256), Value.int .u8 (v1 / 256), Value.int .u8 (v1 % 256), Value.int .u8 (v2 / 256), Value.int .u8 (v2 % 256), Value.int .u8 (v3 / 256), Value.int .u8 0, Value.int .u8 0, Value.int .u8 0, Value.int .u8 0, Value.int .u8 0, Value.int .u8 0, Value.int .u8 0, Value.int .u8 0, Value.int .u8 0]) (pl P37_9 11) hE wn_none tS5 rfl rfl rfl rfl B_g4 (Nat.le_of_ble_eq_true rfl) rfl ?_)
 intro w13 B_g4' hk
 replace B_gI := kp_blk B_gI hk n_gI_g4
 replace B_g1 := kp_blk B_g1 hk n_g1_g4
 replace K_0 := K_0.then_ hk (fun k h => by rw [show k = g4 from h]; exact Or.inr z_0_g4)
 replace B_g4 := B_g4'
 clear hk
 refine q0 (pl P37_9 12) hE (st_indexAddrA (l := 16) (i := 7) Try.underlying25 tS5 rfl rfl (by decide) rfl) ?_; clear hE a; intro a hE
 refine p_cons (s_store (off := 7) (k := 1) (cs' := #[Value.int .u8 (v0 / 256), Value.int .u8 (v0 % 256), Value.int .u8 (v1 / 256), Value.int .u8 (v1 % 256), Value.int .u8 (v2 / 256), Value.int .u8 (v2 % 256), Value.int .u8 (v3 / 256), Value.int .u8 (v3 % 256), Value.int .u8 0, Value.int .u8 0, Value.int .u8 0, Value.int .u8 0, Value.int .u8 0, Value.int .u8 0, Value.int .u8 0, Value.int .u8 0]) (pl P37_9 13) hE wn_none tS5 rfl rfl rfl rfl B_g4 (Nat.le_of_ble_eq_true rfl) rfl ?_)
 intro w14 B_g4' hk
 replace B_gI := kp_blk B_gI hk n_gI_g4
 replace B_g1 := kp_blk B_g1 hk n_g1_g4
 replace K_0 := K_0.then_ hk (fun k h => by rw [show k = g4 from h]; exact Or.inr z_0_g4)
 replace B_g4 := B_g4'
 clear hk
 refine p_nil (x_normB (x_norm (c_regL R37_10_l ?_)))
 refine qn hE (rc (pl P37_10 0) (st_add (z := 4) rfl rfl (by decide)) (rc (pl P37_10 1) (st_move rfl) rn)) ?_; clear hE a; intro a hE
 refine p_nil (x_norm ?_)
 refine (Eq.mpr (rounds_succ (n := 4)) ?_)
 refine c_reg R37_5_l ?_
 refine q0 p37_5_0 hE (st_lss (b := true) rfl rfl (by decide)) ?_; clear hE a; intro a hE
 refine p_nil (x_norm (wp_seq ?_))
 refine c_cond (t := true) hE rfl ?_
 refine wp_skip (x_norm (wp_seq (wp_block (c_reg R37_6_l ?_))))
 refine qn hE (rc (pl P37_6 0) (st_move rfl) (rc (pl P37_6 1) (st_indexAddr (i := 4) Try.underlying22 tS3 rfl rfl (by decide) rfl) (rc (pl P37_6 2) (st_load1 tA3 rfl ((blk_cell B_gI 4).trans rfl)) (rc (pl P37_6 3) (st_assign rfl) (rc (pl P37_6 4) (st_assign rfl) rn))))) ?_; clear hE a; intro a hE
 refine p_nil (x_norm (wp_seq (c_reg R37_7_l ?_)))
 refine qn hE (rc (pl P37_7 0) (st_move rfl) (rc (pl P37_7 1) (st_lss (b := false) rfl rfl (decide_eq_false (by omega))) (rc (pl P37_7 2) (st_move rfl) (rg (pl P37_7 3) (wn_some g37_7_2 rfl rfl) (st_move rfl) (rg (pl P37_7 4) (wn_some g37_7_2 rfl rfl) (st_gtr (b := false) rfl rfl (decide_eq_false (by omega))) (rc (pl P37_7 5) (st_pick rfl rfl) rn)))))) ?_; clear hE a; intro a hE
 refine p_nil (x_norm ?_)
 refine c_cond (t := false) hE rfl ?_
 refine wp_skip (x_norm (c_regL R37_9_l ?_))
 refine qn hE (rc (pl P37_9 0) (st_move rfl) (rc (pl P37_9 1) (st_mul (z := 8) rfl rfl (by decide)) (rc (pl P37_9 2) (st_move rfl) (rc (pl P37_9 3) (st_mul (z := 8) rfl rfl (by decide)) (rc (pl P37_9 4) (st_add (z := 9) rfl rfl (by decide)) (rc (pl P37_9 5) (st_move rfl) (rc (pl P37_9 6) (st_shr (z := v4 / 256) rfl rfl (by decide) (by decide) (by rfl)) (rc (pl P37_9 7) (st_conv (z := (v4 / 256)) (by kernel_rfl) Try.underlying5 rfl (wr_u8 _ (by omega) (by omega))) (rc (pl P37_9 8) (st_move rfl) (rc (pl P37_9 9) (st_conv (z := (v4 % 256)) (by kernel_rfl) Try.underlying5 rfl (IntKind.wrap_u8 _)) (rc (pl P37_9 10) (st_indexAddrA (l := 16) (i := 8) Try.underlying25 tS5 rfl rfl (by decide) rfl) rn))))))))))) ?_; clear hE a; intro a hE
 refine p_cons (s_store (off := 8) (k := 1) (cs' := #[Value.int .u8 (v0 / 256), Value.int .u8 (v0 % 256), Value.int .u8 (v1 / 256), Value.int .u8 (v1 % 256), Value.int .u8 (v2 / 256), Value.int .u8 (v2 % 256), Value.int .u8 (v3 / 256), Value.int .u8 (v3 % 256), Value.int .u8 (v4 / 256), Value.int .u8 0, Value.int .u8 0, Value.int .u8 0, Value.int .u8 0, Value.int .u8 0, Value.int .u8 0, Value.int .u8 0]) (pl P37_9 11) hE wn_none tS5 rfl rfl rfl rfl B_g4 (Nat.le_of_ble_eq_true rfl) rfl ?_)
 intro w15 B_g4' hk
 replace B_gI := kp_blk B_gI hk n_gI_g4
 replace B_g1 := kp_blk B_g1 hk n_g1_g4
 replace K_0 := K_0.then_ hk (fun k h => by rw [show k = g4 from h]; exact Or.inr z_0_g4)
 replace B_g4 := B_g4'
 clear hk
 refine q0 (pl P37_9 12) hE (st_indexAddrA (l := 16) (i := 9) Try.underlying25 tS5 rfl rfl (by decide) rfl) ?_; clear hE a; intro a hE
 refine p_cons (s_store (off := 9) (k := 1) (cs' := #[Value.int .u8 (v0 / 256), Value.int .u8 (v0 % 256), Value.int .u8 (v1 / 256), Value.int .u8 (v1 % 256), Value.int .u8 (v2 / 256), Value.int .u8 (v2 % 256), Value.int .u8 (v3 / 256), Value.int .u8 (v3 % 256), Value.int .u8 (v4 / 256), Value.int .u8 (v4 % 256), Value.int .u8 0, Value.int .u8 0, Value.int .u8 0, Value.int .u8 0, Value.int .u8 0, Value.int .u8 0]) (pl P37_9 13) hE wn_none tS5 rfl rfl rfl rfl B_g4 (Nat.le_of_ble_eq_true rfl) rfl ?_)
 intro w16 B_g4' hk
 replace B_gI := kp_blk B_gI hk n_gI_g4
 replace B_g1 := kp_blk B_g1 hk n_g1_g4
 replace K_0 := K_0.then_ hk (fun k h => by rw [show k = g4 from h]; exact Or.inr z_0_g4)
 replace B_g4 := B_g4'
 clear hk
 refine p_nil (x_normB (x_norm (c_regL R37_10_l ?_)))
 refine qn hE (rc (pl P37_10 0) (st_add (z := 5) rfl rfl (by decide)) (rc (pl P37_10 1) (st_move rfl) rn)) ?_; clear hE a; intro a hE
 refine p_nil (x_norm ?_)
 refine (Eq.mpr (rounds_succ (n := 3)) ?_)
 refine c_reg R37_5_l ?_
 refine q0 p37_5_0 hE (st_lss (b := true) rfl rfl (by decide)) ?_; clear hE a; intro a hE
 refine p_nil (x_norm (wp_seq ?_))
 refine c_cond (t := true) hE rfl ?_
 refine wp_skip (x_norm (wp_seq (wp_block (c_reg R37_6_l ?_))))
 refine qn hE (rc (pl P37_6 0) (st_move rfl) (rc (pl P37_6 1) (st_indexAddr (i := 5) Try.underlying22 tS3 rfl rfl (by decide) rfl) (rc (pl P37_6 2) (st_load1 tA3 rfl ((blk_cell B_gI 5).trans rfl)) (rc (pl P37_6 3) (st_assign rfl) (rc (pl P37_6 4) (st_assign rfl) rn))))) ?_; clear hE a; intro a hE
 refine p_nil (x_norm (wp_seq (c_reg R37_7_l ?_)))
 refine qn hE (rc (pl P37_7 0) (st_move rfl) (rc (pl P37_7 1) (st_lss (b := false) rfl rfl (decide_eq_false (by omega))) (rc (pl P37_7 2) (st_move rfl) (rg (pl P37_7 3) (wn_some g37_7_2 rfl rfl) (st_move rfl) (rg (pl P37_7 4) (wn_some g37_7_2 rfl rfl) (st_gtr (b := false) rfl rfl (decide_eq_false (by omega))) (rc (pl P37_7 5) (st_pick rfl rfl) rn)))))) ?_; clear hE a; intro a hE
 refine p_nil (x_norm ?_)
 refine c_cond (t := false) hE rfl ?_
 refine wp_skip (x_norm (c_regL R37_9_l ?_))
 refine qn hE (rc (pl P37_9 0) (st_move rfl) (rc (pl P37_9 1) (st_mul (z := 10) rfl rfl (by decide)) (rc (pl P37_9 2) (st_move rfl) (rc (pl P37_9 3) (st_mul (z := 10) rfl rfl (by decide)) (rc (pl P37_9 4) (st_add (z := 11) rfl rfl (by decide)) (rc (pl P37_9 5) (st_move rfl) (rc (pl P37_9 6) (st_shr (z := v5 / 256) rfl rfl (by decide) (by decide) (by rfl)) (rc (pl P37_9 7) (st_conv (z := (v5 / 256)) (by kernel_rfl) Try.underlying5 rfl (wr_u8 _ (by omega) (by omega))) (rc (pl P37_9 8) (st_move rfl) (rc (pl P37_9 9) (st_conv (z := (v5 % 256)) (by kernel_rfl) Try.underlying5 rfl (IntKind.wrap_u8 _)) (rc (pl P37_9 10) (st_indexAddrA (l := 16) (i := 10) Try.underlying25 tS5 rfl rfl (by decide) rfl) rn))))))))))) ?_; clear hE a; intro a hE
 refine p_cons (s_store (off := 10) (k := 1) (cs' := #[Value.int .u8 (v0 / 256), Value.int .u8 (v0 % 256), Value.int .u8 (v1 / 256), Value.int .u8 (v1 % 256), Value.int .u8 (v2 / 256), Value.int .u8 (v2 % 256), Value.int .u8 (v3 / 256), Value.int .u8 (v3 % 256), Value.int .u8 (v4 / 256), Value.int .u8 (v4 % 256), Value.int .u8 (v5 / 256), Value.int .u8 0, Value.int .u8 0, Value.int .u8 0, Value.int .u8 0, Value.int .u8 0]) (pl P37_9 11) hE wn_none tS5 rfl rfl rfl rfl B_g4 (Nat.le_of_ble_eq_true rfl) rfl ?_)
 intro w17 B_g4' hk
 replace B_gI := kp_blk B_gI hk n_gI_g4
 replace B_g1 := kp_blk B_g1 hk n_g1_g4
 replace K_0 := K_0.then_ hk (fun k h => by rw [show k = g4 from h]; exact Or.inr z_0_g4)
 replace B_g4 := B_g4'
 clear hk
 refine q0 (pl P37_9 12) hE (st_indexAddrA (l := 16) (i := 11) Try.underlying25 tS5 rfl rfl (by decide) rfl) ?_; clear hE a; intro a hE
 refine p_cons (s_store (off := 11) (k := 1) (cs' := #[Value.int .u8 (v0 / 256), Value.int .u8 (v0 % 256), Value.int .u8 (v1 / 256), Value.int .u8 (v1 % 256), Value.int .u8 (v2 / 256), Value.int .u8 (v2 % 256), Value.int .u8 (v3 / 256), Value.int .u8 (v3 % 256), Value.int .u8 (v4 / 256), Value.int .u8 (v4 % 256), Value.int .u8 (v5 / 256), Value.int .u8 (v5 % 256), Value.int .u8 0, Value.int .u8 0, Value.int .u8 0, Value.int .u8 0]) (pl P37_9 13) hE wn_none tS5 rfl rfl rfl rfl B_g4 (Nat.le_of_ble_eq_true rfl) rfl ?_)
 intro w18 B_g4' hk
 replace B_gI := kp_blk B_gI hk n_gI_g4
 replace B_g1 := kp_blk B_g1 hk n_g1_g4
 replace K_0 := K_0.then_ hk (fun k h => by rw [show k = g4 from h]; exact Or.inr z_0_g4)
 replace B_g4 := B_g4'
 clear hk
 refine p_nil (x_normB (x_norm (c_regL R37_10_l ?_)))
 refine qn hE (rc (pl P37_10 0) (st_add (z := 6) rfl rfl (by decide)) (rc (pl P37_10 1) (st_move rfl) rn)) ?_; clear hE a; intro a hE
 refine p_nil (x_norm ?_)
 refine (Eq.mpr (rounds_succ (n := 2)) ?_)
 refine c_reg R37_5_l ?_
 refine q0 p37_5_0 hE (st_lss (b := true) rfl rfl (by decide)) ?_; clear hE a; intro a hE
 refine p_nil (x_norm (wp_seq ?_))
 refine c_cond (t := true) hE rfl ?_
 refine wp_skip (x_norm (wp_seq (wp_block (c_reg R37_6_l ?_))))
 refine qn hE (rc (pl P37_6 0) (st_move rfl) (rc (pl P37_6 1) (st_indexAddr (i := 6) Try.underlying22 tS3 rfl rfl (by decide) rfl) (rc (pl P37_6 2) (st_load1 tA3 rfl ((blk_cell B_gI 6).trans rfl)) (rc (pl P37_6 3) (st_assign rfl) (rc (pl P37_6 4) (st_assign rfl) rn))))) ?_; clear hE a; intro a hE
 refine p_nil (x_norm (wp_seq (c_reg R37_7_l ?_)))
 refine qn hE (rc (pl P37_7 0) (st_move rfl) (rc (pl P37_7 1) (st_lss (b := false) rfl rfl (decide_eq_false (by omega))) (rc (pl P37_7 2) (st_move rfl) (rg (pl P37_7 3) (wn_some g37_7_2 rfl rfl) (st_move rfl) (rg (pl P37_7 4) (wn_some g37_7_2 rfl rfl) (st_gtr (b := false) rfl rfl (decide_eq_false (by omega))) (rc (pl P37_7 5) (st_pick rfl rfl) rn)))))) ?_; clear hE a; intro a hE
 refine p_nil (x_norm ?_)
 refine c_cond (t := false) hE rfl ?_
 refine wp_skip (x_norm (c_regL R37_9_l ?_))
 refine qn hE (rc (pl P37_9 0) (st_move rfl) (rc (pl P37_9 1) (st_mul (z := 12) rfl rfl (by decide)) (rc (pl P37_9 2) (st_move rfl) (rc (pl P37_9 3) (st_mul (z := 12) rfl rfl (by decide)) (rc (pl P37_9 4) (st_add (z := 13) rfl rfl (by decide)) (rc (pl P37_9 5) (st_move rfl) (rc (pl P37_9 6) (st_shr (z := v6 / 256) rfl rfl (by decide) (by decide) (by rfl)) (rc (pl P37_9 7) (st_conv (z := (v6 / 256)) (by kernel_rfl) Try.underlying5 rfl (wr_u8 _ (by omega) (by omega))) (rc (pl P37_9 8) (st_move rfl) (rc (pl P37_9 9) (st_conv (z := (v6 % 256)) (by kernel_rfl) Try.underlying5 rfl (IntKind.wrap_u8 _)) (rc (pl P37_9 10) (st_indexAddrA (l := 16) (i := 12) Try.underlying25 tS5 rfl rfl (by decide) rfl) rn))))))))))) ?_; clear hE a; intro a hE
 refine p_cons (s_store (off := 12) (k := 1) (cs' := #[Value.int .u8 (v0 / 256), Value.int .u8 (v0 % 256), Value.int .u8 (v1 / 256), Value.int .u8 (v1 % 256), Value.int .u8 (v2 / 256), Value.int .u8 (v2 % 256), Value.int .u8 (v3 / 256), Value.int .u8 (v3 % 256), Value.int .u8 (v4 / 256), Value.int .u8 (v4 % 256), Value.int .u8 (v5 / 256), Value.int .u8 (v5 % 256), Value.int .u8 (v6 / 256), Value.int .u8 0, Value.int .u8 0, Value.int .u8 0]) (pl P37_9 11) hE wn_none tS5 rfl rfl rfl rfl B_g4 (Nat.le_of_ble_eq_true rfl) rfl ?_)
 intro w19 B_g4' hk
 replace B_gI := kp_blk B_gI hk n_gI_g4
 replace B_g1 := kp_blk B_g1 hk n_g1_g4
 replace K_0 := K_0.then_ hk (fun k h => by rw [show k = g4 from h]; exact Or.inr z_0_g4)
 replace B_g4 := B_g4'
 clear hk
 refine q0 (pl P37_9 12) hE (st_indexAddrA (l := 16) (i := 13) Try.underlying25 tS5 rfl rfl (by decide) rfl) ?_; clear hE a; intro a hE
 refine p_cons (s_store (off := 13) (k := 1) (cs' := #[Value.int .u8 (v0 / 256), Value.int .u8 (v0 % 256), Value.int .u8 (v1 / 256), Value.int .u8 (v1 % 256), Value.int .u8 (v2 / 256), Value.int .u8 (v2 % 256), Value.int .u8 (v3 / 256), Value.int .u8 (v3 % 256), Value.int .u8 (v4 / 256), Value.int .u8 (v4 % 256), Value.int .u8 (v5 / 256), Value.int .u8 (v5 % 256), Value.int .u8 (v6 / 256), Value.int .u8 (v6 % 256), Value.int .u8 0, Value.int .u8 0]) (pl P37_9 13) hE wn_none tS5 rfl rfl rfl rfl B_g4 (Nat.le_of_ble_eq_true rfl) rfl ?_)
 intro w20 B_g4' hk
 replace B_gI := kp_blk B_gI hk n_gI_g4
 replace B_g1 := kp_blk B_g1 hk n_g1_g4
 replace K_0 := K_0.then_ hk (fun k h => by rw [show k = g4 from h]; exact Or.inr z_0_g4)
 replace B_g4 := B_g4'
 clear hk
 refine p_nil (x_normB (x_norm (c_regL R37_10_l ?_)))
 refine qn hE (rc (pl P37_10 0) (st_add (z := 7) rfl rfl (by decide)) (rc (pl P37_10 1) (st_move rfl) rn)) ?_; clear hE a; intro a hE
 refine p_nil (x_norm ?_)
 refine (Eq.mpr (rounds_succ (n := 1)) ?_)
 refine c_reg R37_5_l ?_
 refine q0 p37_5_0 hE (st_lss (b := true) rfl rfl (by decide)) ?_; clear hE a; intro a hE
 refine p_nil (x_norm (wp_seq ?_))
 refine c_cond (t := true) hE rfl ?_
 refine wp_skip (x_norm (wp_seq (wp_block (c_reg R37_6_l ?_))))
 refine qn hE (rc (pl P37_6 0) (st_move rfl) (rc (pl P37_6 1) (st_indexAddr (i := 7) Try.underlying22 tS3 rfl rfl (by decide) rfl) (rc (pl P37_6 2) (st_load1 tA3 rfl ((blk_cell B_gI 7).trans rfl)) (rc (pl P37_6 3) (st_assign rfl) (rc (pl P37_6 4) (st_assign rfl) rn))))) ?_; clear hE a; intro a hE
 refine p_nil (x_norm (wp_seq (c_reg R37_7_l ?_)))
 refine qn hE (rc (pl P37_7 0) (st_move rfl) (rc (pl P37_7 1) (st_lss (b := false) rfl rfl (decide_eq_false (by omega))) (rc (pl P37_7 2) (st_move rfl) (rg (pl P37_7 3) (wn_some g37_7_2 rfl rfl) (st_move rfl) (rg (pl P37_7 4) (wn_some g37_7_2 rfl rfl) (st_gtr (b := false) rfl rfl (decide_eq_false (by omega))) (rc (pl P37_7 5) (st_pick rfl rfl) rn)))))) ?_; clear hE a; intro a hE
 refine p_nil (x_norm ?_)
 refine c_cond (t := false) hE rfl ?_
 refine wp_skip (x_norm (c_regL R37_9_l ?_))
 refine qn hE (rc (pl P37_9 0) (st_move rfl) (rc (pl P37_9 1) (st_mul (z := 14) rfl rfl (by decide)) (rc (pl P37_9 2) (st_move rfl) (rc (pl P37_9 3) (st_mul (z := 14) rfl rfl (by decide)) (rc (pl P37_9 4) (st_add (z := 15) rfl rfl (by decide)) (rc (pl P37_9 5) (st_move rfl) (rc (pl P37_9 6) (st_shr (z := v7 / 256) rfl rfl (by decide) (by decide) (by rfl)) (rc (pl P37_9 7) (st_conv (z := (v7 / 256)) (by kernel_rfl) Try.underlying5 rfl (wr_u8 _ (by omega) (by omega))) (rc (pl P37_9 8) (st_move rfl) (rc (pl P37_9 9) (st_conv (z := (v7 % 256)) (by kernel_rfl) Try.underlying5 rfl (IntKind.wrap_u8 _)) (rc (pl P37_9 10) (st_indexAddrA (l := 16) (i := 14) Try.underlying25 tS5 rfl rfl (by decide) rfl) rn))))))))))) ?_; clear hE a; intro a hE
 refine p_cons (s_store (off := 14) (k := 1) (cs' := #[Value.int .u8 (v0 / 256), Value.int .u8 (v0 % 256), Value.int .u8 (v1 / 256), Value.int .u8 (v1 % 256), Value.int .u8 (v2 / 256), Value.int .u8 (v2 % 256), Value.int .u8 (v3 / 256), Value.int .u8 (v3 % 256), Value.int .u8 (v4 / 256), Value.int .u8 (v4 % 256), Value.int .u8 (v5 / 256), Value.int .u8 (v5 % 256), Value.int .u8 (v6 / 256), Value.int .u8 (v6 % 256), Value.int .u8 (v7 / 256), Value.int .u8 0]) (pl P37_9 11) hE wn_none tS5 rfl rfl rfl rfl B_g4 (Nat.le_of_ble_eq_true rfl) rfl ?_)
 intro w21 B_g4' hk
 replace B_gI := kp_blk B_gI hk n_gI_g4
 replace B_g1 := kp_blk B_g1 hk n_g1_g4
 replace K_0 := K_0.then_ hk (fun k h => by rw [show k = g4 from h]; exact Or.inr z_0_g4)
 replace B_g4 := B_g4'
 clear hk
 refine q0 (pl P37_9 12) hE (st_indexAddrA (l := 16) (i := 15) Try.underlying25 tS5 rfl rfl (by decide) rfl) ?_; clear hE a; intro a hE
 refine p_cons (s_store (off := 15) (k := 1) (cs' := #[Value.int .u8 (v0 / 256), Value.int .u8 (v0 % 256), Value.int .u8 (v1 / 256), Value.int .u8 (v1 % 256), Value.int .u8 (v2 / 256), Value.int .u8 (v2 % 256), Value.int .u8 (v3 / 256), Value.int .u8 (v3 % 256), Value.int .u8 (v4 / 256), Value.int .u8 (v4 % 256), Value.int .u8 (v5 / 256), Value.int .u8 (v5 % 256), Value.int .u8 (v6 / 256), Value.int .u8 (v6 % 256), Value.int .u8 (v7 / 256), Value.int .u8 (v7 % 256)]) (pl P37_9 13) hE wn_none tS5 rfl rfl rfl rfl B_g4 (Nat.le_of_ble_eq_true rfl) rfl ?_)
 intro w22 B_g4' hk
 replace B_gI := kp_blk B_gI hk n_gI_g4
 replace B_g1 := kp_blk B_g1 hk n_g1_g4
 replace K_0 := K_0.then_ hk (fun k h => by rw [show k = g4 from h]; exact Or.inr z_0_g4)
 replace B_g4 := B_g4'
 clear hk
 refine p_nil (x_normB (x_norm (c_regL R37_10_l ?_)))
 refine qn hE (rc (pl P37_10 0) (st_add (z := 8) rfl rfl (by decide)) (rc (pl P37_10 1) (st_move rfl) rn)) ?_; clear hE a; intro a hE
 refine p_nil (x_norm ?_)
 refine (Eq.mpr (rounds_succ (n := 0)) ?_)
 refine c_reg R37_5_l ?_
 refine q0 p37_5_0 hE (st_lss (b := false) rfl rfl (by decide)) ?_; clear hE a; intro a hE
 refine p_nil (x_norm (wp_seq ?_))
 refine c_cond (t := false) hE rfl ?_
 refine wp_exit (x_exit (x_exit (x_in (x_norm (c_reg R37_11_l ?_)))))
 refine q0 (pl P37_11 0) hE (st_loadN (off := 0) (k := 16) (vs := [Value.int .u8 (v0 / 256), Value.int .u8 (v0 % 256), Value.int .u8 (v1 / 256), Value.int .u8 (v1 % 256), Value.int .u8 (v2 / 256), Value.int .u8 (v2 % 256), Value.int .u8 (v3 / 256), Value.int .u8 (v3 % 256), Value.int .u8 (v4 / 256), Value.int .u8 (v4 % 256), Value.int .u8 (v5 / 256), Value.int .u8 (v5 % 256), Value.int .u8 (v6 / 256), Value.int .u8 (v6 % 256), Value.int .u8 (v7 / 256), Value.int .u8 (v7 % 256)]) tA25 tS25 rfl B_g4 rfl rfl) ?_; clear hE a; intro a hE
 refine p_cons (s_store (off := 0) (k := 16) (cs' := #[Value.int .u8 (v0 / 256), Value.int .u8 (v0 % 256), Value.int .u8 (v1 / 256), Value.int .u8 (v1 % 256), Value.int .u8 (v2 / 256), Value.int .u8 (v2 % 256), Value.int .u8 (v3 / 256), Value.int .u8 (v3 % 256), Value.int .u8 (v4 / 256), Value.int .u8 (v4 % 256), Value.int .u8 (v5 / 256), Value.int .u8 (v5 % 256), Value.int .u8 (v6 / 256), Value.int .u8 (v6 % 256), Value.int .u8 (v7 / 256), Value.int .u8 (v7 % 256)]) (pl P37_11 1) hE wn_none tS25 rfl rfl rfl rfl B_g1 (Nat.le_of_ble_eq_true rfl) rfl ?_)
 intro w23 B_g1' hk
 replace B_gI := kp_blk B_gI hk n_gI_g1
 replace B_g4 := kp_blk B_g4 hk (Ne.symm n_g1_g4)
 replace K_0 := K_0.then_ hk (fun k h => by rw [show k = g1 from h]; exact Or.inr z_0_g1)
 replace B_g1 := B_g1'
 clear hk
 refine q0 (pl P37_11 2) hE (st_assign rfl) ?_; clear hE a; intro a hE
 refine p_nil (x_norm (wp_ret ?_))
 refine ret_list (rs := [.cell 2 25, .tmp 3]) (vs := [Value.agg #[Value.int .u8 (v0 / 256), Value.int .u8 (v0 % 256), Value.int .u8 (v1 / 256), Value.int .u8 (v1 % 256), Value.int .u8 (v2 / 256), Value.int .u8 (v2 % 256), Value.int .u8 (v3 / 256), Value.int .u8 (v3 % 256), Value.int .u8 (v4 / 256), Value.int .u8 (v4 % 256), Value.int .u8 (v5 / 256), Value.int .u8 (v5 % 256), Value.int .u8 (v6 / 256), Value.int .u8 (v6 % 256), Value.int .u8 (v7 / 256), Value.int .u8 (v7 % 256)], Value.int .i64 0]) rfl hE (.cellN (us := [Value.int .u8 (v0 / 256), Value.int .u8 (v0 % 256), Value.int .u8 (v1 / 256), Value.int .u8 (v1 % 256), Value.int .u8 (v2 / 256), Value.int .u8 (v2 % 256), Value.int .u8 (v3 / 256), Value.int .u8 (v3 % 256), Value.int .u8 (v4 / 256), Value.int .u8 (v4 % 256), Value.int .u8 (v5 / 256), Value.int .u8 (v5 % 256), Value.int .u8 (v6 / 256), Value.int .u8 (v6 % 256), Value.int .u8 (v7 / 256), Value.int .u8 (v7 % 256)]) tA25 tS25 rfl B_g1 rfl (.tmp rfl .nil)) rfl ?_
 exact ⟨rfl, K_0⟩
theorem R69_0_l : List.range (regOf Try.f69 0).size = [0] := by kernel_rfl
theorem R69_1_l : List.range (regOf Try.f69 1).size = [0, 1, 2, 3, 4, 5, 6] := by kernel_rfl
theorem body69 : Try.f69.body = some (.seq (.region 0 (regOf Try.f69 0) false) (.seq (.region 1 (regOf Try.f69 1) false) (.ret))) := by kernel_rfl
theorem p69_0_0 : pj (regOf Try.f69 0) 0 = some (some 2, .assign (.const (.bool false)), 4, none) := by kernel_rfl
theorem P69_1 : (List.range (regOf Try.f69 1).size).map (pj (regOf Try.f69 1)) = [zz 3 (.move (.tmp 0)) 3, zz 4 (.binOp .geq 3 (.tmp 3) (.const (.int .i64 0)) 3) 4, zz 5 (.move (.tmp 4)) 4, some (some 6, .move (.tmp 0), 3, some (2, true)), some (some 7, .binOp .lss 3 (.tmp 6) (.const (.int .i64 64)) 3, 4, some (2, true)), zz 8 (.pick (.tmp 5) (.tmp 7) (.const (.bool false))) 4, zz 2 (.assign (.tmp 8)) 4] := by kernel_rfl
theorem g69_1_2 : dstOf (regOf Try.f69 1) 2 = some 5 := by kernel_rfl
set_option maxHeartbeats 4000000 in
theorem anode (n : Int) (w : World) : Calls Try.prog 69 #[.int .i64 n] w fun e w' => e = .returned (.bool (decide (0 ≤ n ∧ n < 64))) ∧ Kp w w' (fun _ => False) := by
 have K_0 := Kp.refl w (fun _ => False)
 refine enter (args := [Value.int .i64 n]) (n := 9) Try.func69 body69 rfl rfl rfl ?_
 intro a hE
 refine c_reg R69_0_l ?_
 refine q0 p69_0_0 hE (st_assign rfl) ?_; clear hE a; intro a hE
 refine p_nil (x_norm (c_reg R69_1_l ?_))
 refine q0 (pl P69_1 0) hE (st_move rfl) ?_; clear hE a; intro a hE
 rcases Decidable.em (0 ≤ n) with hc1 | hc1
 ·
  refine qn hE (rg (v := Value.bool true) (pl P69_1 1) wn_none (st_geq rfl rfl (decide_eq_true hc1)) (rc (pl P69_1 2) (st_move rfl) (rg (pl P69_1 3) (wn_some g69_1_2 rfl rfl) (st_move rfl) rn))) ?_; clear hE a; intro a hE
  rcases Decidable.em (n < 64) with hc2 | hc2
  ·
   refine qn hE (rg (v := Value.bool true) (pl P69_1 4) (wn_some g69_1_2 rfl rfl) (st_lss rfl rfl (decide_eq_true hc2)) (rc (pl P69_1 5) (st_pick rfl rfl) (rc (pl P69_1 6) (st_assign rfl) rn))) ?_; clear hE a; intro a hE
   refine p_nil (x_norm (wp_ret ?_))
   refine ret_one (v := Value.bool true) rfl hE (.tmp rfl .nil) ?_
   exact ⟨by first | rw [show decide (0 ≤ n ∧ n < 64) = true from decide_eq_true (by omega)] | rw [show decide (0 ≤ n ∧ n < 64) = false from decide_eq_false (by omega)], K_0⟩
  ·
   refine qn hE (rg (v := Value.bool false) (pl P69_1 4) (wn_some g69_1_2 rfl rfl) (st_lss rfl rfl (decide_eq_false hc2)) (rc (pl P69_1 5) (st_pick rfl rfl) (rc (pl P69_1 6) (st_assign rfl) rn))) ?_; clear hE a; intro a hE
   refine p_nil (x_norm (wp_ret ?_))
   refine ret_one (v := Value.bool false) rfl hE (.tmp rfl .nil) ?_
   exact ⟨by first | rw [show decide (0 ≤ n ∧ n < 64) = true from decide_eq_true (by omega)] | rw [show decide (0 ≤ n ∧ n < 64) = false from decide_eq_false (by omega)], K_0⟩
 ·
  refine qn hE (rg (v := Value.bool false) (pl P69_1 1) wn_none (st_geq rfl rfl (decide_eq_false hc1)) (rc (pl P69_1 2) (st_move rfl) (Ds.rk (pl P69_1 3) (wn_some g69_1_2 rfl rfl) (Ds.rk (pl P69_1 4) (wn_some g69_1_2 rfl rfl) (rc (pl P69_1 5) (st_pick rfl rfl) (rc (pl P69_1 6) (st_assign rfl) rn)))))) ?_; clear hE a; intro a hE
  refine p_nil (x_norm (wp_ret ?_))
  refine ret_one (v := Value.bool false) rfl hE (.tmp rfl .nil) ?_
  exact ⟨by first | rw [show decide (0 ≤ n ∧ n < 64) = true from decide_eq_true (by omega)] | rw [show decide (0 ≤ n ∧ n < 64) = false from decide_eq_false (by omega)], K_0⟩
theorem R31_0_l : List.range (regOf Try.f31 0).size = [0, 1] := by kernel_rfl
theorem R31_1_l : List.range (regOf Try.f31 1).size = [0, 1, 2] := by kernel_rfl
theorem R31_3_l : List.range (regOf Try.f31 3).size = [0, 1, 2, 3, 4, 5, 6, 7] := by kernel_rfl
theorem body31 : Try.f31.body = some (.seq (.region 0 (regOf Try.f31 0) false) (.seq (.seq (.region 1 (regOf Try.f31 1) false) (.cond (Operand.tmp 6) (.seq (.region 2 (regOf Try.f31 2) false) (.ret)) (.skip))) (.seq (.region 3 (regOf Try.f31 3) false) (.ret)))) := by kernel_rfl
theorem P31_0 : (List.range (regOf Try.f31 0).size).map (pj (regOf Try.f31 0)) = [zz 2 (.alloc 25) 0, zz 3 (.assign (.const (.int .i64 0))) 36] := by kernel_rfl
theorem P31_1 : (List.range (regOf Try.f31 1).size).map (pj (regOf Try.f31 1)) = [zz 4 (.move (.tmp 0)) 3, zz 5 (.call { callee := .value (.func 69), args := #[.tmp 4], argTypes := #[3] }) 4, zz 6 (.unOp .not 4 (.tmp 5)) 4] := by kernel_rfl
theorem cl69 : callable Try.f69 = true := by kernel_rfl
theorem P31_3 : (List.range (regOf Try.f31 3).size).map (pj (regOf Try.f31 3)) = [zz 8 (.move (.tmp 0)) 3, zz 9 (.binOp .add 3 (.tmp 8) (.const (.int .i64 1)) 3) 3, zz 10 (.buildSlice 22 8 #[(0, .const (.int .i64 65152)), (1, .const (.int .i64 0)), (2, .const (.int .i64 0)), (3, .const (.int .i64 0)), (4, .const (.int .i64 0)), (5, .const (.int .i64 0)), (6, .const (.int .i64 1)), (7, .tmp 9)]) 22, zz 11 (.call { callee := .value (.func 37), args := #[.tmp 10], argTypes := #[22] }) 89, zz 12 (.extract (.tmp 11) 0) 25, zz 13 (.extract (.tmp 11) 1) 36, some (none, .store 25 (.tmp 2) (.tmp 12), 0, none), zz 3 (.assign (.tmp 13)) 36] := by kernel_rfl
theorem cl37 : callable Try.f37 = true := by kernel_rfl
set_option maxHeartbeats 4000000 in
theorem link_any (n : Int) (h0 : 0 ≤ n) (h1 : n < 64) (w : World) : Calls Try.prog 31 #[.int .i64 n] w fun e w' => e = .returned (.tuple #[Value.agg (b16 (linkF n)).toArray, .int .i64 0]) ∧ Kp w w' (fun _ => False) := by
 have K_0 := Kp.refl w (fun _ => False)
 refine enter (args := [Value.int .i64 n]) (n := 14) Try.func31 body31 rfl rfl rfl ?_
 intro a hE
 refine c_reg R31_0_l ?_
 refine p_cons (s_alloc (pl P31_0 0) hE wn_none rfl tZ25 ?_)
 clear hE a; intro g1 w2 z3 B_g1 hk a hE
 replace B_g1 : w2.heap[g1]? = some (.cells (b16 (fun _ => 0)).toArray 25 (0, 0)) := B_g1
 have z_0_g1 := Nat.le_trans K_0.kept.1 z3
 replace K_0 := K_0.then_ hk (fun _ h => h.elim)
 clear hk
 refine q0 (pl P31_0 1) hE (st_assign rfl) ?_; clear hE a; intro a hE
 refine p_nil (x_norm (wp_seq (c_reg R31_1_l ?_)))
 refine q0 (pl P31_1 0) hE (st_move rfl) ?_; clear hE a; intro a hE
 refine p_cons (s_call (xs := [Operand.tmp 4]) (args := [Value.int .i64 n]) (pl P31_1 1) hE wn_none rfl rfl Try.func69 cl69 (anode n _) ?_)
 rintro e w4 ⟨he, hk⟩
 obtain rfl := he.trans (congrArg (fun b => Ending.returned (Value.bool b)) (decide_eq_true (show 0 ≤ n ∧ n < 64 by omega)))
 replace B_g1 := kp_blk B_g1 hk (fun h => h)
 replace K_0 := K_0.then_ hk (fun _ h => h.elim)
 refine ⟨_, rfl, ?_⟩; clear hE a; intro a hE
 refine q0 (pl P31_1 2) hE (st_not rfl rfl) ?_; clear hE a; intro a hE
 refine p_nil (x_norm ?_)
 refine c_cond (t := false) hE rfl ?_
 refine wp_skip (x_norm (c_reg R31_3_l ?_))
 refine qn hE (rc (pl P31_3 0) (st_move rfl) (rc (pl P31_3 1) (st_add (z := n + 1) rfl rfl (wr_i64 _ (by omega) (by omega))) rn)) ?_; clear hE a; intro a hE
 refine p_cons (s_row (xs := [(0, Operand.const (Value.int IntKind.i64 65152)), (1, Operand.const (Value.int IntKind.i64 0)), (2, Operand.const (Value.int IntKind.i64 0)), (3, Operand.const (Value.int IntKind.i64 0)), (4, Operand.const (Value.int IntKind.i64 0)), (5, Operand.const (Value.int IntKind.i64 0)), (6, Operand.const (Value.int IntKind.i64 1)), (7, Operand.tmp 9)]) (vs := [(0, Value.int .i64 65152), (1, Value.int .i64 0), (2, Value.int .i64 0), (3, Value.int .i64 0), (4, Value.int .i64 0), (5, Value.int .i64 0), (6, Value.int .i64 1), (7, Value.int .i64 (n + 1))]) (cs := #[Value.int .i64 65152, Value.int .i64 0, Value.int .i64 0, Value.int .i64 0, Value.int .i64 0, Value.int .i64 0, Value.int .i64 1, Value.int .i64 (n + 1)]) (pl P31_3 2) hE wn_none rfl Try.underlying22 rfl (by kernel_rfl) ?_)
 clear hE a; intro g5 w6 z7 B_g5 hk a hE
 have n_g1_g5 : g1 ≠ g5 := ne_new B_g1 z7
 have z_0_g5 := Nat.le_trans K_0.kept.1 z7
 replace B_g1 := kp_blk B_g1 hk (fun h => h)
 replace K_0 := K_0.then_ hk (fun _ h => h.elim)
 clear hk
 refine p_cons (s_call (xs := [Operand.tmp 10]) (args := [Value.slice (some ⟨g5, 0, none⟩) 8 8]) (pl P31_3 3) hE wn_none rfl rfl Try.func37 cl37 (of_8 g5 65152 0 0 0 0 0 1 (n + 1) (by omega) (by omega) (by omega) (by omega) (by omega) (by omega) (by omega) (by omega) _ B_g5) ?_)
 rintro e w8 ⟨rfl, hk⟩
 replace B_g1 := kp_blk B_g1 hk (fun h => h)
 replace B_g5 := kp_blk B_g5 hk (fun h => h)
 replace K_0 := K_0.then_ hk (fun _ h => h.elim)
 refine ⟨_, rfl, ?_⟩; clear hE a; intro a hE
 refine qn hE (rc (pl P31_3 4) (st_extract rfl rfl) (rc (pl P31_3 5) (st_extract rfl rfl) rn)) ?_; clear hE a; intro a hE
 refine p_cons (s_store (off := 0) (k := 16) (cs' := #[Value.int .u8 (65152 / 256), Value.int .u8 (65152 % 256), Value.int .u8 (0 / 256), Value.int .u8 (0 % 256), Value.int .u8 (0 / 256), Value.int .u8 (0 % 256), Value.int .u8 (0 / 256), Value.int .u8 (0 % 256), Value.int .u8 (0 / 256), Value.int .u8 (0 % 256), Value.int .u8 (0 / 256), Value.int .u8 (0 % 256), Value.int .u8 (1 / 256), Value.int .u8 (1 % 256), Value.int .u8 ((n + 1) / 256), Value.int .u8 ((n + 1) % 256)]) (pl P31_3 6) hE wn_none tS25 rfl rfl rfl rfl B_g1 (Nat.le_of_ble_eq_true rfl) rfl ?_)
 intro w9 B_g1' hk
 replace B_g5 := kp_blk B_g5 hk (Ne.symm n_g1_g5)
 replace K_0 := K_0.then_ hk (fun k h => by rw [show k = g1 from h]; exact Or.inr z_0_g1)
 replace B_g1 := B_g1'
 clear hk
 refine q0 (pl P31_3 7) hE (st_assign rfl) ?_; clear hE a; intro a hE
 refine p_nil (x_norm (wp_ret ?_))
 refine ret_list (rs := [.cell 2 25, .tmp 3]) (vs := [Value.agg #[Value.int .u8 (65152 / 256), Value.int .u8 (65152 % 256), Value.int .u8 (0 / 256), Value.int .u8 (0 % 256), Value.int .u8 (0 / 256), Value.int .u8 (0 % 256), Value.int .u8 (0 / 256), Value.int .u8 (0 % 256), Value.int .u8 (0 / 256), Value.int .u8 (0 % 256), Value.int .u8 (0 / 256), Value.int .u8 (0 % 256), Value.int .u8 (1 / 256), Value.int .u8 (1 % 256), Value.int .u8 ((n + 1) / 256), Value.int .u8 ((n + 1) % 256)], Value.int .i64 0]) rfl hE (.cellN (us := [Value.int .u8 (65152 / 256), Value.int .u8 (65152 % 256), Value.int .u8 (0 / 256), Value.int .u8 (0 % 256), Value.int .u8 (0 / 256), Value.int .u8 (0 % 256), Value.int .u8 (0 / 256), Value.int .u8 (0 % 256), Value.int .u8 (0 / 256), Value.int .u8 (0 % 256), Value.int .u8 (0 / 256), Value.int .u8 (0 % 256), Value.int .u8 (1 / 256), Value.int .u8 (1 % 256), Value.int .u8 ((n + 1) / 256), Value.int .u8 ((n + 1) % 256)]) tA25 tS25 rfl B_g1 rfl (.tmp rfl .nil)) rfl ?_
 have e9 : [Value.int .u8 (65152 / 256), Value.int .u8 (65152 % 256), Value.int .u8 (0 / 256), Value.int .u8 (0 % 256), Value.int .u8 (0 / 256), Value.int .u8 (0 % 256), Value.int .u8 (0 / 256), Value.int .u8 (0 % 256), Value.int .u8 (0 / 256), Value.int .u8 (0 % 256), Value.int .u8 (0 / 256), Value.int .u8 (0 % 256), Value.int .u8 (1 / 256), Value.int .u8 (1 % 256), Value.int .u8 ((n + 1) / 256), Value.int .u8 ((n + 1) % 256)] = (b16 (linkF n)) := by
  simp only [linkF, b16, reduceIte, Nat.reduceEqDiff]
  rw [show (n + 1) / 256 = 0 by omega, show (n + 1) % 256 = n + 1 by omega]
  rfl
 exact ⟨by rw [← e9], K_0⟩
theorem R11_0_l : List.range (regOf Try.f11 0).size = [0] := by kernel_rfl
theorem R11_1_l : List.range (regOf Try.f11 1).size = [0, 1, 2, 3, 4, 5, 6, 7] := by kernel_rfl
theorem R11_2_l : List.range (regOf Try.f11 2).size = [0, 1] := by kernel_rfl
theorem body11 : Try.f11.body = some (.seq (.region 0 (regOf Try.f11 0) false) (.seq (.region 1 (regOf Try.f11 1) false) (.seq (.region 2 (regOf Try.f11 2) false) (.ret)))) := by kernel_rfl
theorem p11_0_0 : pj (regOf Try.f11 0) 0 = some (some 0, .alloc 25, 0, none) := by kernel_rfl
theorem P11_1 : (List.range (regOf Try.f11 1).size).map (pj (regOf Try.f11 1)) = [zz 4 (.buildSlice 22 8 #[(0, .const (.int .i64 65282)), (1, .const (.int .i64 0)), (2, .const (.int .i64 0)), (3, .const (.int .i64 0)), (4, .const (.int .i64 0)), (5, .const (.int .i64 0)), (6, .const (.int .i64 0)), (7, .const (.int .i64 26))]) 22, zz 5 (.call { callee := .value (.func 37), args := #[.tmp 4], argTypes := #[22] }) 89, zz 3 (.move (.tmp 5)) 89, zz 6 (.extract (.tmp 3) 0) 25, zz 7 (.extract (.tmp 3) 1) 36, zz 1 (.alloc 25) 0, some (none, .store 25 (.tmp 1) (.tmp 6), 0, none), zz 2 (.assign (.tmp 7)) 36] := by kernel_rfl
theorem P11_2 : (List.range (regOf Try.f11 2).size).map (pj (regOf Try.f11 2)) = [zz 8 (.load 25 (.tmp 1)) 25, some (none, .store 25 (.tmp 0) (.tmp 8), 0, none)] := by kernel_rfl
set_option maxHeartbeats 4000000 in
theorem all_any (w : World) : Calls Try.prog 11 #[] w fun e w' => e = .returned (Value.agg (b16 allF).toArray) ∧ Kp w w' (fun _ => False) := by
 have K_0 := Kp.refl w (fun _ => False)
 refine enter (args := []) (n := 9) Try.func11 body11 rfl rfl rfl ?_
 intro a hE
 refine c_reg R11_0_l ?_
 refine p_cons (s_alloc p11_0_0 hE wn_none rfl tZ25 ?_)
 clear hE a; intro g1 w2 z3 B_g1 hk a hE
 replace B_g1 : w2.heap[g1]? = some (.cells (b16 (fun _ => 0)).toArray 25 (0, 0)) := B_g1
 have z_0_g1 := Nat.le_trans K_0.kept.1 z3
 replace K_0 := K_0.then_ hk (fun _ h => h.elim)
 clear hk
 refine p_nil (x_norm (c_reg R11_1_l ?_))
 refine p_cons (s_row (xs := [(0, Operand.const (Value.int IntKind.i64 65282)), (1, Operand.const (Value.int IntKind.i64 0)), (2, Operand.const (Value.int IntKind.i64 0)), (3, Operand.const (Value.int IntKind.i64 0)), (4, Operand.const (Value.int IntKind.i64 0)), (5, Operand.const (Value.int IntKind.i64 0)), (6, Operand.const (Value.int IntKind.i64 0)), (7, Operand.const (Value.int IntKind.i64 26))]) (vs := [(0, Value.int .i64 65282), (1, Value.int .i64 0), (2, Value.int .i64 0), (3, Value.int .i64 0), (4, Value.int .i64 0), (5, Value.int .i64 0), (6, Value.int .i64 0), (7, Value.int .i64 26)]) (cs := #[Value.int .i64 65282, Value.int .i64 0, Value.int .i64 0, Value.int .i64 0, Value.int .i64 0, Value.int .i64 0, Value.int .i64 0, Value.int .i64 26]) (pl P11_1 0) hE wn_none rfl Try.underlying22 rfl (by kernel_rfl) ?_)
 clear hE a; intro g4 w5 z6 B_g4 hk a hE
 have n_g1_g4 : g1 ≠ g4 := ne_new B_g1 z6
 have z_0_g4 := Nat.le_trans K_0.kept.1 z6
 replace B_g1 := kp_blk B_g1 hk (fun h => h)
 replace K_0 := K_0.then_ hk (fun _ h => h.elim)
 clear hk
 refine p_cons (s_call (xs := [Operand.tmp 4]) (args := [Value.slice (some ⟨g4, 0, none⟩) 8 8]) (pl P11_1 1) hE wn_none rfl rfl Try.func37 cl37 (of_8 g4 65282 0 0 0 0 0 0 26 (by omega) (by omega) (by omega) (by omega) (by omega) (by omega) (by omega) (by omega) _ B_g4) ?_)
 rintro e w7 ⟨rfl, hk⟩
 replace B_g1 := kp_blk B_g1 hk (fun h => h)
 replace B_g4 := kp_blk B_g4 hk (fun h => h)
 replace K_0 := K_0.then_ hk (fun _ h => h.elim)
 refine ⟨_, rfl, ?_⟩; clear hE a; intro a hE
 refine qn hE (rc (pl P11_1 2) (st_move rfl) (rc (pl P11_1 3) (st_extract rfl rfl) (rc (pl P11_1 4) (st_extract rfl rfl) rn))) ?_; clear hE a; intro a hE
 refine p_cons (s_alloc (pl P11_1 5) hE wn_none rfl tZ25 ?_)
 clear hE a; intro g8 w9 z10 B_g8 hk a hE
 replace B_g8 : w9.heap[g8]? = some (.cells (b16 (fun _ => 0)).toArray 25 (0, 0)) := B_g8
 have n_g1_g8 : g1 ≠ g8 := ne_new B_g1 z10
 have n_g4_g8 : g4 ≠ g8 := ne_new B_g4 z10
 have z_0_g8 := Nat.le_trans K_0.kept.1 z10
 replace B_g1 := kp_blk B_g1 hk (fun h => h)
 replace B_g4 := kp_blk B_g4 hk (fun h => h)
 replace K_0 := K_0.then_ hk (fun _ h => h.elim)
 clear hk
 refine p_cons (s_store (off := 0) (k := 16) (cs' := #[Value.int .u8 (65282 / 256), Value.int .u8 (65282 % 256), Value.int .u8 (0 / 256), Value.int .u8 (0 % 256), Value.int .u8 (0 / 256), Value.int .u8 (0 % 256), Value.int .u8 (0 / 256), Value.int .u8 (0 % 256), Value.int .u8 (0 / 256), Value.int .u8 (0 % 256), Value.int .u8 (0 / 256), Value.int .u8 (0 % 256), Value.int .u8 (0 / 256), Value.int .u8 (0 % 256), Value.int .u8 (26 / 256), Value.int .u8 (26 % 256)]) (pl P11_1 6) hE wn_none tS25 rfl rfl rfl rfl B_g8 (Nat.le_of_ble_eq_true rfl) rfl ?_)
 intro w11 B_g8' hk
 replace B_g1 := kp_blk B_g1 hk n_g1_g8
 replace B_g4 := kp_blk B_g4 hk n_g4_g8
 replace K_0 := K_0.then_ hk (fun k h => by rw [show k = g8 from h]; exact Or.inr z_0_g8)
 replace B_g8 := B_g8'
 clear hk
 refine q0 (pl P11_1 7) hE (st_assign rfl) ?_; clear hE a; intro a hE
 refine p_nil (x_norm (c_reg R11_2_l ?_))
 refine q0 (pl P11_2 0) hE (st_loadN (off := 0) (k := 16) (vs := [Value.int .u8 (65282 / 256), Value.int .u8 (65282 % 256), Value.int .u8 (0 / 256), Value.int .u8 (0 % 256), Value.int .u8 (0 / 256), Value.int .u8 (0 % 256), Value.int .u8 (0 / 256), Value.int .u8 (0 % 256), Value.int .u8 (0 / 256), Value.int .u8 (0 % 256), Value.int .u8 (0 / 256), Value.int .u8 (0 % 256), Value.int .u8 (0 / 256), Value.int .u8 (0 % 256), Value.int .u8 (26 / 256), Value.int .u8 (26 % 256)]) tA25 tS25 rfl B_g8 rfl rfl) ?_; clear hE a; intro a hE
 refine p_cons (s_store (off := 0) (k := 16) (cs' := #[Value.int .u8 (65282 / 256), Value.int .u8 (65282 % 256), Value.int .u8 (0 / 256), Value.int .u8 (0 % 256), Value.int .u8 (0 / 256), Value.int .u8 (0 % 256), Value.int .u8 (0 / 256), Value.int .u8 (0 % 256), Value.int .u8 (0 / 256), Value.int .u8 (0 % 256), Value.int .u8 (0 / 256), Value.int .u8 (0 % 256), Value.int .u8 (0 / 256), Value.int .u8 (0 % 256), Value.int .u8 (26 / 256), Value.int .u8 (26 % 256)]) (pl P11_2 1) hE wn_none tS25 rfl rfl rfl rfl B_g1 (Nat.le_of_ble_eq_true rfl) rfl ?_)
 intro w12 B_g1' hk
 replace B_g4 := kp_blk B_g4 hk (Ne.symm n_g1_g4)
 replace B_g8 := kp_blk B_g8 hk (Ne.symm n_g1_g8)
 replace K_0 := K_0.then_ hk (fun k h => by rw [show k = g1 from h]; exact Or.inr z_0_g1)
 replace B_g1 := B_g1'
 clear hk
 refine p_nil (x_norm (wp_ret ?_))
 refine ret_one (v := Value.agg #[Value.int .u8 (65282 / 256), Value.int .u8 (65282 % 256), Value.int .u8 (0 / 256), Value.int .u8 (0 % 256), Value.int .u8 (0 / 256), Value.int .u8 (0 % 256), Value.int .u8 (0 / 256), Value.int .u8 (0 % 256), Value.int .u8 (0 / 256), Value.int .u8 (0 % 256), Value.int .u8 (0 / 256), Value.int .u8 (0 % 256), Value.int .u8 (0 / 256), Value.int .u8 (0 % 256), Value.int .u8 (26 / 256), Value.int .u8 (26 % 256)]) rfl hE (.cellN (us := [Value.int .u8 (65282 / 256), Value.int .u8 (65282 % 256), Value.int .u8 (0 / 256), Value.int .u8 (0 % 256), Value.int .u8 (0 / 256), Value.int .u8 (0 % 256), Value.int .u8 (0 / 256), Value.int .u8 (0 % 256), Value.int .u8 (0 / 256), Value.int .u8 (0 % 256), Value.int .u8 (0 / 256), Value.int .u8 (0 % 256), Value.int .u8 (0 / 256), Value.int .u8 (0 % 256), Value.int .u8 (26 / 256), Value.int .u8 (26 % 256)]) tA25 tS25 rfl B_g1 rfl .nil) ?_
 exact ⟨rfl, K_0⟩
theorem R77_0_l : List.range (regOf Try.f77 0).size = [0, 1] := by kernel_rfl
theorem R77_1_l : List.range (regOf Try.f77 1).size = [0] := by kernel_rfl
theorem R77_2_l : List.range (regOf Try.f77 2).size = [0] := by kernel_rfl
theorem R77_3_l : List.range (regOf Try.f77 3).size = [0] := by kernel_rfl
theorem R77_4_l : List.range (regOf Try.f77 4).size = [0, 1] := by kernel_rfl
theorem R77_6_l : List.range (regOf Try.f77 6).size = [0, 1] := by kernel_rfl
theorem R77_7_l : List.range (regOf Try.f77 7).size = [0, 1] := by kernel_rfl
theorem body77 : Try.f77.body = some (.seq (.region 0 (regOf Try.f77 0) false) (.seq (.region 1 (regOf Try.f77 1) false) (.seq (.seq (.region 2 (regOf Try.f77 2) false) (.block 0 (.loop (.seq (.region 3 (regOf Try.f77 3) false) (.seq (.cond (Operand.tmp 6) (.skip) (.exit 0)) (.seq (.block 1 (.seq (.region 4 (regOf Try.f77 4) false) (.region 5 (regOf Try.f77 5) true))) (.region 6 (regOf Try.f77 6) false))))))) (.seq (.region 7 (regOf Try.f77 7) false) (.ret))))) := by kernel_rfl
theorem P77_0 : (List.range (regOf Try.f77 0).size).map (pj (regOf Try.f77 0)) = [zz 1 (.box 25 (.tmp 0)) 0, zz 2 (.alloc 144) 0] := by kernel_rfl
theorem tZ144 : (Try.prog.info? 144).bind (·.zero) = some (Value.agg #[Value.int .i64 0, Value.int .i64 0, Value.int .i64 0, Value.int .i64 0, Value.int .i64 0, Value.int .i64 0, Value.int .i64 0, Value.int .i64 0]) := by kernel_rfl
theorem p77_1_0 : pj (regOf Try.f77 1) 0 = some (some 3, .alloc 144, 0, none) := by kernel_rfl
theorem p77_2_0 : pj (regOf Try.f77 2) 0 = some (some 5, .move (.const (.int .i64 0)), 3, none) := by kernel_rfl
theorem p77_3_0 : pj (regOf Try.f77 3) 0 = some (some 6, .binOp .lss 3 (.tmp 5) (.const (.int .i64 8)) 3, 0, none) := by kernel_rfl
theorem P77_4 : (List.range (regOf Try.f77 4).size).map (pj (regOf Try.f77 4)) = [zz 7 (.move (.tmp 5)) 3, zz 4 (.assign (.tmp 7)) 3] := by kernel_rfl
theorem ns77_5 : Region.noSelect (regOf Try.f77 5) = true := by kernel_rfl
theorem p77_5_0 : pj (regOf Try.f77 5) 0 = some (some 8, .move (.tmp 4), 3, none) := by kernel_rfl
theorem p77_5_1 : pj (regOf Try.f77 5) 1 = some (some 9, .move (.tmp 4), 3, none) := by kernel_rfl
theorem p77_5_2 : pj (regOf Try.f77 5) 2 = some (some 10, .binOp .mul 3 (.const (.int .i64 2)) (.tmp 9) 3, 3, none) := by kernel_rfl
theorem p77_5_3 : pj (regOf Try.f77 5) 3 = some (some 11, .indexAddr 25 (.tmp 1) (.tmp 10), 0, none) := by kernel_rfl
theorem p77_5_4 : pj (regOf Try.f77 5) 4 = some (some 12, .load 5 (.tmp 11), 5, none) := by kernel_rfl
theorem tA5 : (Try.prog.underlying 5).map aggD = some false := by kernel_rfl
theorem p77_5_5 : pj (regOf Try.f77 5) 5 = some (some 13, .convert 5 3 (.tmp 12), 3, none) := by kernel_rfl
theorem p77_5_6 : pj (regOf Try.f77 5) 6 = some (some 14, .binOp .shl 3 (.tmp 13) (.const (.int .u64 8)) 148, 3, none) := by kernel_rfl
theorem p77_5_7 : pj (regOf Try.f77 5) 7 = some (some 15, .move (.tmp 4), 3, none) := by kernel_rfl
theorem p77_5_8 : pj (regOf Try.f77 5) 8 = some (some 16, .binOp .mul 3 (.const (.int .i64 2)) (.tmp 15) 3, 3, none) := by kernel_rfl
theorem p77_5_9 : pj (regOf Try.f77 5) 9 = some (some 17, .binOp .add 3 (.tmp 16) (.const (.int .i64 1)) 3, 3, none) := by kernel_rfl
theorem p77_5_10 : pj (regOf Try.f77 5) 10 = some (some 18, .indexAddr 25 (.tmp 1) (.tmp 17), 0, none) := by kernel_rfl
theorem p77_5_11 : pj (regOf Try.f77 5) 11 = some (some 19, .load 5 (.tmp 18), 5, none) := by kernel_rfl
theorem p77_5_12 : pj (regOf Try.f77 5) 12 = some (some 20, .convert 5 3 (.tmp 19), 3, none) := by kernel_rfl
theorem p77_5_13 : pj (regOf Try.f77 5) 13 = some (some 21, .binOp .or 3 (.tmp 14) (.tmp 20) 3, 3, none) := by kernel_rfl
theorem p77_5_14 : pj (regOf Try.f77 5) 14 = some (some 22, .indexAddr 144 (.tmp 3) (.tmp 8), 0, none) := by kernel_rfl
theorem p77_5_15 : pj (regOf Try.f77 5) 15 = some (none, .store 3 (.tmp 22) (.tmp 21), 0, none) := by kernel_rfl
theorem P77_6 : (List.range (regOf Try.f77 6).size).map (pj (regOf Try.f77 6)) = [zz 23 (.binOp .add 3 (.tmp 5) (.const (.int .i64 1)) 3) 3, zz 5 (.move (.tmp 23)) 3] := by kernel_rfl
theorem P77_7 : (List.range (regOf Try.f77 7).size).map (pj (regOf Try.f77 7)) = [zz 24 (.load 144 (.tmp 3)) 144, some (none, .store 144 (.tmp 2) (.tmp 24), 0, none)] := by kernel_rfl
theorem tA144 : (Try.prog.underlying 144).map aggD = some true := by kernel_rfl
theorem tS144 : (Try.prog.info? 144).map (·.size) = some 8 := by kernel_rfl
set_option maxHeartbeats 4000000 in
theorem groups_any (d : Nat → Int) (hd : ∀ j, 0 ≤ d j ∧ d j ≤ 255) (w : World) : Calls Try.prog 77 #[Value.agg (b16 d).toArray] w fun e w' => e = .returned (Value.agg #[Value.int .i64 (d 0 * 256 + d 1), Value.int .i64 (d 2 * 256 + d 3), Value.int .i64 (d 4 * 256 + d 5), Value.int .i64 (d 6 * 256 + d 7), Value.int .i64 (d 8 * 256 + d 9), Value.int .i64 (d 10 * 256 + d 11), Value.int .i64 (d 12 * 256 + d 13), Value.int .i64 (d 14 * 256 + d 15)]) ∧ Kp w w' (fun _ => False) := by
 have K_0 := Kp.refl w (fun _ => False)
 have hd0 := hd 0
 have hd1 := hd 1
 have hd2 := hd 2
 have hd3 := hd 3
 have hd4 := hd 4
 have hd5 := hd 5
 have hd6 := hd 6
 have hd7 := hd 7
 have hd8 := hd 8
 have hd9 := hd 9
 have hd10 := hd 10
 have hd11 := hd 11
 have hd12 := hd 12
 have hd13 := hd 13
 have hd14 := hd 14
 have hd15 := hd 15
 refine enter (args := [Value.agg (b16 d).toArray]) (n := 25) Try.func77 body77 rfl rfl rfl ?_
 intro a hE
 refine c_reg R77_0_l ?_
 refine p_cons (s_box (pl P77_0 0) hE wn_none rfl rfl ?_)
 clear hE a; intro g1 w2 z3 B_g1 hk a hE
 replace B_g1 : w2.heap[g1]? = some (.cells (b16 d).toArray 25 (0, 0)) := B_g1
 have z_0_g1 := Nat.le_trans K_0.kept.1 z3
 replace K_0 := K_0.then_ hk (fun _ h => h.elim)
 clear hk
 refine p_cons (s_alloc (pl P77_0 1) hE wn_none rfl tZ144 ?_)
 clear hE a; intro g4 w5 z6 B_g4 hk a hE
 replace B_g4 : w5.heap[g4]? = some (.cells #[Value.int .i64 0, Value.int .i64 0, Value.int .i64 0, Value.int .i64 0, Value.int .i64 0, Value.int .i64 0, Value.int .i64 0, Value.int .i64 0] 144 (0, 0)) := B_g4
 have n_g1_g4 : g1 ≠ g4 := ne_new B_g1 z6
 have z_0_g4 := Nat.le_trans K_0.kept.1 z6
 replace B_g1 := kp_blk B_g1 hk (fun h => h)
 replace K_0 := K_0.then_ hk (fun _ h => h.elim)
 clear hk
 refine p_nil (x_norm (c_reg R77_1_l ?_))
 refine p_cons (s_alloc p77_1_0 hE wn_none rfl tZ144 ?_)
 clear hE a; intro g7 w8 z9 B_g7 hk a hE
 replace B_g7 : w8.heap[g7]? = some (.cells #[Value.int .i64 0, Value.int .i64 0, Value.int .i64 0, Value.int .i64 0, Value.int .i64 0, Value.int .i64 0, Value.int .i64 0, Value.int .i64 0] 144 (0, 0)) := B_g7
 have n_g1_g7 : g1 ≠ g7 := ne_new B_g1 z9
 have n_g4_g7 : g4 ≠ g7 := ne_new B_g4 z9
 have z_0_g7 := Nat.le_trans K_0.kept.1 z9
 replace B_g1 := kp_blk B_g1 hk (fun h => h)
 replace B_g4 := kp_blk B_g4 hk (fun h => h)
 replace K_0 := K_0.then_ hk (fun _ h => h.elim)
 clear hk
 refine p_nil (x_norm (wp_seq (c_reg R77_2_l ?_)))
 refine q0 p77_2_0 hE (st_move rfl) ?_; clear hE a; intro a hE
 refine p_nil (x_norm (wp_block ?_))
 refine wp_loop_rounds 9 ?_
 refine (Eq.mpr (rounds_succ (n := 8)) ?_)
 refine c_reg R77_3_l ?_
 refine q0 p77_3_0 hE (st_lss (b := true) rfl rfl (by decide)) ?_; clear hE a; intro a hE
 refine p_nil (x_norm (wp_seq ?_))
 refine c_cond (t := true) hE rfl ?_
 refine wp_skip (x_norm (wp_seq (wp_block (c_reg R77_4_l ?_))))
 refine qn hE (rc (pl P77_4 0) (st_move rfl) (rc (pl P77_4 1) (st_assign rfl) rn)) ?_; clear hE a; intro a hE
 refine p_nil (x_norm ?_)
 refine c_draw (S := fun W => W.heap[g1]? = some (.cells (b16 d).toArray 25 (0, 0)) ∧ True) rfl rfl (listed := #[ι, ι, ι, ι, ι, ι, ι, ι, ι, ι, ι, ι, ι, ι, ι, ι]) rfl ?_
 intro w10 hh hk
 replace B_g1 := kp_blk B_g1 hk (fun h => h)
 replace B_g4 := kp_blk B_g4 hk (fun h => h)
 replace B_g7 := kp_blk B_g7 hk (fun h => h)
 replace K_0 := K_0.then_ hk (fun _ h => h.elim)
 clear hh hk
 refine Rv.dm ns77_5 hE ⟨B_g1, trivial⟩ (Rv.dc p77_5_0 (fun W hS => (st_move rfl)) rfl (Rv.dc p77_5_1 (fun W hS => (st_move rfl)) rfl (Rv.dc (v := Value.int .i64 0) p77_5_2 (fun W hS => (st_mul (z := 0) rfl rfl (by decide))) rfl (Rv.dc (v := Value.pointer (some ⟨g1, 0, none⟩)) p77_5_3 (fun W hS => (st_indexAddrA (l := 16) (i := 0) Try.underlying25 tS5 rfl rfl (by decide) rfl)) rfl (Rv.dc (v := Value.int .u8 (d 0)) p77_5_4 (fun W hS => (st_load1 tA5 rfl ((blk_cell hS.1 0).trans rfl))) rfl (Rv.dc (v := Value.int .i64 (d 0)) p77_5_5 (fun W hS => (st_conv (z := (d 0)) (by kernel_rfl) Try.underlying3 rfl (wr_i64 _ (by omega) (by omega)))) rfl (Rv.dc (v := Value.int .i64 ((d 0) * 256)) p77_5_6 (fun W hS => (st_shl (z := (d 0) * 256) rfl rfl (by decide) (by decide) (show IntKind.wrap .i64 ((d 0) * 256) = _ from wr_i64 _ (by omega) (by omega)))) rfl (Rv.dc p77_5_7 (fun W hS => (st_move rfl)) rfl (Rv.dc (v := Value.int .i64 0) p77_5_8 (fun W hS => (st_mul (z := 0) rfl rfl (by decide))) rfl (Rv.dc (v := Value.int .i64 1) p77_5_9 (fun W hS => (st_add (z := 1) rfl rfl (by decide))) rfl (Rv.dc (v := Value.pointer (some ⟨g1, 1, none⟩)) p77_5_10 (fun W hS => (st_indexAddrA (l := 16) (i := 1) Try.underlying25 tS5 rfl rfl (by decide) rfl)) rfl (Rv.dc (v := Value.int .u8 (d 1)) p77_5_11 (fun W hS => (st_load1 tA5 rfl ((blk_cell hS.1 1).trans rfl))) rfl (Rv.dc (v := Value.int .i64 (d 1)) p77_5_12 (fun W hS => (st_conv (z := (d 1)) (by kernel_rfl) Try.underlying3 rfl (wr_i64 _ (by omega) (by omega)))) rfl (Rv.dc (v := Value.int .i64 ((d 0) * 256 + (d 1))) p77_5_13 (fun W hS => (st_or (z := (d 0) * 256 + (d 1)) rfl rfl (or256 (by omega) (by omega)))) rfl (Rv.dc (v := Value.pointer (some ⟨g7, 0, none⟩)) p77_5_14 (fun W hS => (st_indexAddrA (l := 8) (i := 0) Try.underlying144 tS3 rfl rfl (by decide) rfl)) rfl Rv.dn))))))))))))))) ?_; clear hE a; intro a hE
 refine d_one (by kernel_rfl) rfl (s_store (off := 0) (k := 1) (cs' := #[Value.int .i64 ((d 0) * 256 + (d 1)), Value.int .i64 0, Value.int .i64 0, Value.int .i64 0, Value.int .i64 0, Value.int .i64 0, Value.int .i64 0, Value.int .i64 0]) p77_5_15 hE wn_none tS3 rfl rfl rfl rfl B_g7 (Nat.le_of_ble_eq_true rfl) rfl ?_)
 intro w11 B_g7' hk
 replace B_g1 := kp_blk B_g1 hk n_g1_g7
 replace B_g4 := kp_blk B_g4 hk n_g4_g7
 replace K_0 := K_0.then_ hk (fun k h => by rw [show k = g7 from h]; exact Or.inr z_0_g7)
 replace B_g7 := B_g7'
 clear hk
 refine ⟨⟨B_g1, trivial⟩, ?_⟩
 refine d_end (by kernel_rfl) ?_
 refine x_normB (x_norm (c_regL R77_6_l ?_))
 refine qn hE (rc (pl P77_6 0) (st_add (z := 1) rfl rfl (by decide)) (rc (pl P77_6 1) (st_move rfl) rn)) ?_; clear hE a; intro a hE
 refine p_nil (x_norm ?_)
 refine (Eq.mpr (rounds_succ (n := 7)) ?_)
 refine c_reg R77_3_l ?_
 refine q0 p77_3_0 hE (st_lss (b := true) rfl rfl (by decide)) ?_; clear hE a; intro a hE
 refine p_nil (x_norm (wp_seq ?_))
 refine c_cond (t := true) hE rfl ?_
 refine wp_skip (x_norm (wp_seq (wp_block (c_reg R77_4_l ?_))))
 refine qn hE (rc (pl P77_4 0) (st_move rfl) (rc (pl P77_4 1) (st_assign rfl) rn)) ?_; clear hE a; intro a hE
 refine p_nil (x_norm ?_)
 refine c_draw (S := fun W => W.heap[g1]? = some (.cells (b16 d).toArray 25 (0, 0)) ∧ True) rfl rfl (listed := #[ι, ι, ι, ι, ι, ι, ι, ι, ι, ι, ι, ι, ι, ι, ι, ι]) rfl ?_
 intro w12 hh hk
 replace B_g1 := kp_blk B_g1 hk (fun h => h)
 replace B_g4 := kp_blk B_g4 hk (fun h => h)
 replace B_g7 := kp_blk B_g7 hk (fun h => h)
 replace K_0 := K_0.then_ hk (fun _ h => h.elim)
 clear hh hk
 refine Rv.dm ns77_5 hE ⟨B_g1, trivial⟩ (Rv.dc p77_5_0 (fun W hS => (st_move rfl)) rfl (Rv.dc p77_5_1 (fun W hS => (st_move rfl)) rfl (Rv.dc (v := Value.int .i64 2) p77_5_2 (fun W hS => (st_mul (z := 2) rfl rfl (by decide))) rfl (Rv.dc (v := Value.pointer (some ⟨g1, 2, none⟩)) p77_5_3 (fun W hS => (st_indexAddrA (l := 16) (i := 2) Try.underlying25 tS5 rfl rfl (by decide) rfl)) rfl (Rv.dc (v := Value.int .u8 (d 2)) p77_5_4 (fun W hS => (st_load1 tA5 rfl ((blk_cell hS.1 2).trans rfl))) rfl (Rv.dc (v := Value.int .i64 (d 2)) p77_5_5 (fun W hS => (st_conv (z := (d 2)) (by kernel_rfl) Try.underlying3 rfl (wr_i64 _ (by omega) (by omega)))) rfl (Rv.dc (v := Value.int .i64 ((d 2) * 256)) p77_5_6 (fun W hS => (st_shl (z := (d 2) * 256) rfl rfl (by decide) (by decide) (show IntKind.wrap .i64 ((d 2) * 256) = _ from wr_i64 _ (by omega) (by omega)))) rfl (Rv.dc p77_5_7 (fun W hS => (st_move rfl)) rfl (Rv.dc (v := Value.int .i64 2) p77_5_8 (fun W hS => (st_mul (z := 2) rfl rfl (by decide))) rfl (Rv.dc (v := Value.int .i64 3) p77_5_9 (fun W hS => (st_add (z := 3) rfl rfl (by decide))) rfl (Rv.dc (v := Value.pointer (some ⟨g1, 3, none⟩)) p77_5_10 (fun W hS => (st_indexAddrA (l := 16) (i := 3) Try.underlying25 tS5 rfl rfl (by decide) rfl)) rfl (Rv.dc (v := Value.int .u8 (d 3)) p77_5_11 (fun W hS => (st_load1 tA5 rfl ((blk_cell hS.1 3).trans rfl))) rfl (Rv.dc (v := Value.int .i64 (d 3)) p77_5_12 (fun W hS => (st_conv (z := (d 3)) (by kernel_rfl) Try.underlying3 rfl (wr_i64 _ (by omega) (by omega)))) rfl (Rv.dc (v := Value.int .i64 ((d 2) * 256 + (d 3))) p77_5_13 (fun W hS => (st_or (z := (d 2) * 256 + (d 3)) rfl rfl (or256 (by omega) (by omega)))) rfl (Rv.dc (v := Value.pointer (some ⟨g7, 1, none⟩)) p77_5_14 (fun W hS => (st_indexAddrA (l := 8) (i := 1) Try.underlying144 tS3 rfl rfl (by decide) rfl)) rfl Rv.dn))))))))))))))) ?_; clear hE a; intro a hE
 refine d_one (by kernel_rfl) rfl (s_store (off := 1) (k := 1) (cs' := #[Value.int .i64 ((d 0) * 256 + (d 1)), Value.int .i64 ((d 2) * 256 + (d 3)), Value.int .i64 0, Value.int .i64 0, Value.int .i64 0, Value.int .i64 0, Value.int .i64 0, Value.int .i64 0]) p77_5_15 hE wn_none tS3 rfl rfl rfl rfl B_g7 (Nat.le_of_ble_eq_true rfl) rfl ?_)
 intro w13 B_g7' hk
 replace B_g1 := kp_blk B_g1 hk n_g1_g7
 replace B_g4 := kp_blk B_g4 hk n_g4_g7
 replace K_0 := K_0.then_ hk (fun k h => by rw [show k = g7 from h]; exact Or.inr z_0_g7)
 replace B_g7 := B_g7'
 clear hk
 refine ⟨⟨B_g1, trivial⟩, ?_⟩
 refine d_end (by kernel_rfl) ?_
 refine x_normB (x_norm (c_regL R77_6_l ?_))
 refine qn hE (rc (pl P77_6 0) (st_add (z := 2) rfl rfl (by decide)) (rc (pl P77_6 1) (st_move rfl) rn)) ?_; clear hE a; intro a hE
 refine p_nil (x_norm ?_)
 refine (Eq.mpr (rounds_succ (n := 6)) ?_)
 refine c_reg R77_3_l ?_
 refine q0 p77_3_0 hE (st_lss (b := true) rfl rfl (by decide)) ?_; clear hE a; intro a hE
 refine p_nil (x_norm (wp_seq ?_))
 refine c_cond (t := true) hE rfl ?_
 refine wp_skip (x_norm (wp_seq (wp_block (c_reg R77_4_l ?_))))
 refine qn hE (rc (pl P77_4 0) (st_move rfl) (rc (pl P77_4 1) (st_assign rfl) rn)) ?_; clear hE a; intro a hE
 refine p_nil (x_norm ?_)
 refine c_draw (S := fun W => W.heap[g1]? = some (.cells (b16 d).toArray 25 (0, 0)) ∧ True) rfl rfl (listed := #[ι, ι, ι, ι, ι, ι, ι, ι, ι, ι, ι, ι, ι, ι, ι, ι]) rfl ?_
 intro w14 hh hk
 replace B_g1 := kp_blk B_g1 hk (fun h => h)
 replace B_g4 := kp_blk B_g4 hk (fun h => h)
 replace B_g7 := kp_blk B_g7 hk (fun h => h)
 replace K_0 := K_0.then_ hk (fun _ h => h.elim)
 clear hh hk
 refine Rv.dm ns77_5 hE ⟨B_g1, trivial⟩ (Rv.dc p77_5_0 (fun W hS => (st_move rfl)) rfl (Rv.dc p77_5_1 (fun W hS => (st_move rfl)) rfl (Rv.dc (v := Value.int .i64 4) p77_5_2 (fun W hS => (st_mul (z := 4) rfl rfl (by decide))) rfl (Rv.dc (v := Value.pointer (some ⟨g1, 4, none⟩)) p77_5_3 (fun W hS => (st_indexAddrA (l := 16) (i := 4) Try.underlying25 tS5 rfl rfl (by decide) rfl)) rfl (Rv.dc (v := Value.int .u8 (d 4)) p77_5_4 (fun W hS => (st_load1 tA5 rfl ((blk_cell hS.1 4).trans rfl))) rfl (Rv.dc (v := Value.int .i64 (d 4)) p77_5_5 (fun W hS => (st_conv (z := (d 4)) (by kernel_rfl) Try.underlying3 rfl (wr_i64 _ (by omega) (by omega)))) rfl (Rv.dc (v := Value.int .i64 ((d 4) * 256)) p77_5_6 (fun W hS => (st_shl (z := (d 4) * 256) rfl rfl (by decide) (by decide) (show IntKind.wrap .i64 ((d 4) * 256) = _ from wr_i64 _ (by omega) (by omega)))) rfl (Rv.dc p77_5_7 (fun W hS => (st_move rfl)) rfl (Rv.dc (v := Value.int .i64 4) p77_5_8 (fun W hS => (st_mul (z := 4) rfl rfl (by decide))) rfl (Rv.dc (v := Value.int .i64 5) p77_5_9 (fun W hS => (st_add (z := 5) rfl rfl (by decide))) rfl (Rv.dc (v := Value.pointer (some ⟨g1, 5, none⟩)) p77_5_10 (fun W hS => (st_indexAddrA (l := 16) (i := 5) Try.underlying25 tS5 rfl rfl (by decide) rfl)) rfl (Rv.dc (v := Value.int .u8 (d 5)) p77_5_11 (fun W hS => (st_load1 tA5 rfl ((blk_cell hS.1 5).trans rfl))) rfl (Rv.dc (v := Value.int .i64 (d 5)) p77_5_12 (fun W hS => (st_conv (z := (d 5)) (by kernel_rfl) Try.underlying3 rfl (wr_i64 _ (by omega) (by omega)))) rfl (Rv.dc (v := Value.int .i64 ((d 4) * 256 + (d 5))) p77_5_13 (fun W hS => (st_or (z := (d 4) * 256 + (d 5)) rfl rfl (or256 (by omega) (by omega)))) rfl (Rv.dc (v := Value.pointer (some ⟨g7, 2, none⟩)) p77_5_14 (fun W hS => (st_indexAddrA (l := 8) (i := 2) Try.underlying144 tS3 rfl rfl (by decide) rfl)) rfl Rv.dn))))))))))))))) ?_; clear hE a; intro a hE
 refine d_one (by kernel_rfl) rfl (s_store (off := 2) (k := 1) (cs' := #[Value.int .i64 ((d 0) * 256 + (d 1)), Value.int .i64 ((d 2) * 256 + (d 3)), Value.int .i64 ((d 4) * 256 + (d 5)), Value.int .i64 0, Value.int .i64 0, Value.int .i64 0, Value.int .i64 0, Value.int .i64 0]) p77_5_15 hE wn_none tS3 rfl rfl rfl rfl B_g7 (Nat.le_of_ble_eq_true rfl) rfl ?_)
 intro w15 B_g7' hk
 replace B_g1 := kp_blk B_g1 hk n_g1_g7
 replace B_g4 := kp_blk B_g4 hk n_g4_g7
 replace K_0 := K_0.then_ hk (fun k h => by rw [show k = g7 from h]; exact Or.inr z_0_g7)
 replace B_g7 := B_g7'
 clear hk
 refine ⟨⟨B_g1, trivial⟩, ?_⟩
 refine d_end (by kernel_rfl) ?_
 refine x_normB (x_norm (c_regL R77_6_l ?_))
 refine qn hE (rc (pl P77_6 0) (st_add (z := 3) rfl rfl (by decide)) (rc (pl P77_6 1) (st_move rfl) rn)) ?_; clear hE a; intro a hE
 refine p_nil (x_norm ?_)
 refine (Eq.mpr (rounds_succ (n := 5)) ?_)
 refine c_reg R77_3_l ?_
 refine q0 p77_3_0 hE (st_lss (b := true) rfl rfl (by decide)) ?_; clear hE a; intro a hE
 refine p_nil (x_norm (wp_seq ?_))
 refine c_cond (t := true) hE rfl ?_
 refine wp_skip (x_norm (wp_seq (wp_block (c_reg R77_4_l ?_))))
 refine qn hE (rc (pl P77_4 0) (st_move rfl) (rc (pl P77_4 1) (st_assign rfl) rn)) ?_; clear hE a; intro a hE
 refine p_nil (x_norm ?_)
 refine c_draw (S := fun W => W.heap[g1]? = some (.cells (b16 d).toArray 25 (0, 0)) ∧ True) rfl rfl (listed := #[ι, ι, ι, ι, ι, ι, ι, ι, ι, ι, ι, ι, ι, ι, ι, ι]) rfl ?_
 intro w16 hh hk
 replace B_g1 := kp_blk B_g1 hk (fun h => h)
 replace B_g4 := kp_blk B_g4 hk (fun h => h)
 replace B_g7 := kp_blk B_g7 hk (fun h => h)
 replace K_0 := K_0.then_ hk (fun _ h => h.elim)
 clear hh hk
 refine Rv.dm ns77_5 hE ⟨B_g1, trivial⟩ (Rv.dc p77_5_0 (fun W hS => (st_move rfl)) rfl (Rv.dc p77_5_1 (fun W hS => (st_move rfl)) rfl (Rv.dc (v := Value.int .i64 6) p77_5_2 (fun W hS => (st_mul (z := 6) rfl rfl (by decide))) rfl (Rv.dc (v := Value.pointer (some ⟨g1, 6, none⟩)) p77_5_3 (fun W hS => (st_indexAddrA (l := 16) (i := 6) Try.underlying25 tS5 rfl rfl (by decide) rfl)) rfl (Rv.dc (v := Value.int .u8 (d 6)) p77_5_4 (fun W hS => (st_load1 tA5 rfl ((blk_cell hS.1 6).trans rfl))) rfl (Rv.dc (v := Value.int .i64 (d 6)) p77_5_5 (fun W hS => (st_conv (z := (d 6)) (by kernel_rfl) Try.underlying3 rfl (wr_i64 _ (by omega) (by omega)))) rfl (Rv.dc (v := Value.int .i64 ((d 6) * 256)) p77_5_6 (fun W hS => (st_shl (z := (d 6) * 256) rfl rfl (by decide) (by decide) (show IntKind.wrap .i64 ((d 6) * 256) = _ from wr_i64 _ (by omega) (by omega)))) rfl (Rv.dc p77_5_7 (fun W hS => (st_move rfl)) rfl (Rv.dc (v := Value.int .i64 6) p77_5_8 (fun W hS => (st_mul (z := 6) rfl rfl (by decide))) rfl (Rv.dc (v := Value.int .i64 7) p77_5_9 (fun W hS => (st_add (z := 7) rfl rfl (by decide))) rfl (Rv.dc (v := Value.pointer (some ⟨g1, 7, none⟩)) p77_5_10 (fun W hS => (st_indexAddrA (l := 16) (i := 7) Try.underlying25 tS5 rfl rfl (by decide) rfl)) rfl (Rv.dc (v := Value.int .u8 (d 7)) p77_5_11 (fun W hS => (st_load1 tA5 rfl ((blk_cell hS.1 7).trans rfl))) rfl (Rv.dc (v := Value.int .i64 (d 7)) p77_5_12 (fun W hS => (st_conv (z := (d 7)) (by kernel_rfl) Try.underlying3 rfl (wr_i64 _ (by omega) (by omega)))) rfl (Rv.dc (v := Value.int .i64 ((d 6) * 256 + (d 7))) p77_5_13 (fun W hS => (st_or (z := (d 6) * 256 + (d 7)) rfl rfl (or256 (by omega) (by omega)))) rfl (Rv.dc (v := Value.pointer (some ⟨g7, 3, none⟩)) p77_5_14 (fun W hS => (st_indexAddrA (l := 8) (i := 3) Try.underlying144 tS3 rfl rfl (by decide) rfl)) rfl Rv.dn))))))))))))))) ?_; clear hE a; intro a hE
 refine d_one (by kernel_rfl) rfl (s_store (off := 3) (k := 1) (cs' := #[Value.int .i64 ((d 0) * 256 + (d 1)), Value.int .i64 ((d 2) * 256 + (d 3)), Value.int .i64 ((d 4) * 256 + (d 5)), Value.int .i64 ((d 6) * 256 + (d 7)), Value.int .i64 0, Value.int .i64 0, Value.int .i64 0, Value.int .i64 0]) p77_5_15 hE wn_none tS3 rfl rfl rfl rfl B_g7 (Nat.le_of_ble_eq_true rfl) rfl ?_)
 intro w17 B_g7' hk
 replace B_g1 := kp_blk B_g1 hk n_g1_g7
 replace B_g4 := kp_blk B_g4 hk n_g4_g7
 replace K_0 := K_0.then_ hk (fun k h => by rw [show k = g7 from h]; exact Or.inr z_0_g7)
 replace B_g7 := B_g7'
 clear hk
 refine ⟨⟨B_g1, trivial⟩, ?_⟩
 refine d_end (by kernel_rfl) ?_
 refine x_normB (x_norm (c_regL R77_6_l ?_))
 refine qn hE (rc (pl P77_6 0) (st_add (z := 4) rfl rfl (by decide)) (rc (pl P77_6 1) (st_move rfl) rn)) ?_; clear hE a; intro a hE
 refine p_nil (x_norm ?_)
 refine (Eq.mpr (rounds_succ (n := 4)) ?_)
 refine c_reg R77_3_l ?_
 refine q0 p77_3_0 hE (st_lss (b := true) rfl rfl (by decide)) ?_; clear hE a; intro a hE
 refine p_nil (x_norm (wp_seq ?_))
 refine c_cond (t := true) hE rfl ?_
 refine wp_skip (x_norm (wp_seq (wp_block (c_reg R77_4_l ?_))))
 refine qn hE (rc (pl P77_4 0) (st_move rfl) (rc (pl P77_4 1) (st_assign rfl) rn)) ?_; clear hE a; intro a hE
 refine p_nil (x_norm ?_)
 refine c_draw (S := fun W => W.heap[g1]? = some (.cells (b16 d).toArray 25 (0, 0)) ∧ True) rfl rfl (listed := #[ι, ι, ι, ι, ι, ι, ι, ι, ι, ι, ι, ι, ι, ι, ι, ι]) rfl ?_
 intro w18 hh hk
 replace B_g1 := kp_blk B_g1 hk (fun h => h)
 replace B_g4 := kp_blk B_g4 hk (fun h => h)
 replace B_g7 := kp_blk B_g7 hk (fun h => h)
 replace K_0 := K_0.then_ hk (fun _ h => h.elim)
 clear hh hk
 refine Rv.dm ns77_5 hE ⟨B_g1, trivial⟩ (Rv.dc p77_5_0 (fun W hS => (st_move rfl)) rfl (Rv.dc p77_5_1 (fun W hS => (st_move rfl)) rfl (Rv.dc (v := Value.int .i64 8) p77_5_2 (fun W hS => (st_mul (z := 8) rfl rfl (by decide))) rfl (Rv.dc (v := Value.pointer (some ⟨g1, 8, none⟩)) p77_5_3 (fun W hS => (st_indexAddrA (l := 16) (i := 8) Try.underlying25 tS5 rfl rfl (by decide) rfl)) rfl (Rv.dc (v := Value.int .u8 (d 8)) p77_5_4 (fun W hS => (st_load1 tA5 rfl ((blk_cell hS.1 8).trans rfl))) rfl (Rv.dc (v := Value.int .i64 (d 8)) p77_5_5 (fun W hS => (st_conv (z := (d 8)) (by kernel_rfl) Try.underlying3 rfl (wr_i64 _ (by omega) (by omega)))) rfl (Rv.dc (v := Value.int .i64 ((d 8) * 256)) p77_5_6 (fun W hS => (st_shl (z := (d 8) * 256) rfl rfl (by decide) (by decide) (show IntKind.wrap .i64 ((d 8) * 256) = _ from wr_i64 _ (by omega) (by omega)))) rfl (Rv.dc p77_5_7 (fun W hS => (st_move rfl)) rfl (Rv.dc (v := Value.int .i64 8) p77_5_8 (fun W hS => (st_mul (z := 8) rfl rfl (by decide))) rfl (Rv.dc (v := Value.int .i64 9) p77_5_9 (fun W hS => (st_add (z := 9) rfl rfl (by decide))) rfl (Rv.dc (v := Value.pointer (some ⟨g1, 9, none⟩)) p77_5_10 (fun W hS => (st_indexAddrA (l := 16) (i := 9) Try.underlying25 tS5 rfl rfl (by decide) rfl)) rfl (Rv.dc (v := Value.int .u8 (d 9)) p77_5_11 (fun W hS => (st_load1 tA5 rfl ((blk_cell hS.1 9).trans rfl))) rfl (Rv.dc (v := Value.int .i64 (d 9)) p77_5_12 (fun W hS => (st_conv (z := (d 9)) (by kernel_rfl) Try.underlying3 rfl (wr_i64 _ (by omega) (by omega)))) rfl (Rv.dc (v := Value.int .i64 ((d 8) * 256 + (d 9))) p77_5_13 (fun W hS => (st_or (z := (d 8) * 256 + (d 9)) rfl rfl (or256 (by omega) (by omega)))) rfl (Rv.dc (v := Value.pointer (some ⟨g7, 4, none⟩)) p77_5_14 (fun W hS => (st_indexAddrA (l := 8) (i := 4) Try.underlying144 tS3 rfl rfl (by decide) rfl)) rfl Rv.dn))))))))))))))) ?_; clear hE a; intro a hE
 refine d_one (by kernel_rfl) rfl (s_store (off := 4) (k := 1) (cs' := #[Value.int .i64 ((d 0) * 256 + (d 1)), Value.int .i64 ((d 2) * 256 + (d 3)), Value.int .i64 ((d 4) * 256 + (d 5)), Value.int .i64 ((d 6) * 256 + (d 7)), Value.int .i64 ((d 8) * 256 + (d 9)), Value.int .i64 0, Value.int .i64 0, Value.int .i64 0]) p77_5_15 hE wn_none tS3 rfl rfl rfl rfl B_g7 (Nat.le_of_ble_eq_true rfl) rfl ?_)
 intro w19 B_g7' hk
 replace B_g1 := kp_blk B_g1 hk n_g1_g7
 replace B_g4 := kp_blk B_g4 hk n_g4_g7
 replace K_0 := K_0.then_ hk (fun k h => by rw [show k = g7 from h]; exact Or.inr z_0_g7)
 replace B_g7 := B_g7'
 clear hk
 refine ⟨⟨B_g1, trivial⟩, ?_⟩
 refine d_end (by kernel_rfl) ?_
 refine x_normB (x_norm (c_regL R77_6_l ?_))
 refine qn hE (rc (pl P77_6 0) (st_add (z := 5) rfl rfl (by decide)) (rc (pl P77_6 1) (st_move rfl) rn)) ?_; clear hE a; intro a hE
 refine p_nil (x_norm ?_)
 refine (Eq.mpr (rounds_succ (n := 3)) ?_)
 refine c_reg R77_3_l ?_
 refine q0 p77_3_0 hE (st_lss (b := true) rfl rfl (by decide)) ?_; clear hE a; intro a hE
 refine p_nil (x_norm (wp_seq ?_))
 refine c_cond (t := true) hE rfl ?_
 refine wp_skip (x_norm (wp_seq (wp_block (c_reg R77_4_l ?_))))
 refine qn hE (rc (pl P77_4 0) (st_move rfl) (rc (pl P77_4 1) (st_assign rfl) rn)) ?_; clear hE a; intro a hE
 refine p_nil (x_norm ?_)
 refine c_draw (S := fun W => W.heap[g1]? = some (.cells (b16 d).toArray 25 (0, 0)) ∧ True) rfl rfl (listed := #[ι, ι, ι, ι, ι, ι, ι, ι, ι, ι, ι, ι, ι, ι, ι, ι]) rfl ?_
 intro w20 hh hk
 replace B_g1 := kp_blk B_g1 hk (fun h => h)
 replace B_g4 := kp_blk B_g4 hk (fun h => h)
 replace B_g7 := kp_blk B_g7 hk (fun h => h)
 replace K_0 := K_0.then_ hk (fun _ h => h.elim)
 clear hh hk
 refine Rv.dm ns77_5 hE ⟨B_g1, trivial⟩ (Rv.dc p77_5_0 (fun W hS => (st_move rfl)) rfl (Rv.dc p77_5_1 (fun W hS => (st_move rfl)) rfl (Rv.dc (v := Value.int .i64 10) p77_5_2 (fun W hS => (st_mul (z := 10) rfl rfl (by decide))) rfl (Rv.dc (v := Value.pointer (some ⟨g1, 10, none⟩)) p77_5_3 (fun W hS => (st_indexAddrA (l := 16) (i := 10) Try.underlying25 tS5 rfl rfl (by decide) rfl)) rfl (Rv.dc (v := Value.int .u8 (d 10)) p77_5_4 (fun W hS => (st_load1 tA5 rfl ((blk_cell hS.1 10).trans rfl))) rfl (Rv.dc (v := Value.int .i64 (d 10)) p77_5_5 (fun W hS => (st_conv (z := (d 10)) (by kernel_rfl) Try.underlying3 rfl (wr_i64 _ (by omega) (by omega)))) rfl (Rv.dc (v := Value.int .i64 ((d 10) * 256)) p77_5_6 (fun W hS => (st_shl (z := (d 10) * 256) rfl rfl (by decide) (by decide) (show IntKind.wrap .i64 ((d 10) * 256) = _ from wr_i64 _ (by omega) (by omega)))) rfl (Rv.dc p77_5_7 (fun W hS => (st_move rfl)) rfl (Rv.dc (v := Value.int .i64 10) p77_5_8 (fun W hS => (st_mul (z := 10) rfl rfl (by decide))) rfl (Rv.dc (v := Value.int .i64 11) p77_5_9 (fun W hS => (st_add (z := 11) rfl rfl (by decide))) rfl (Rv.dc (v := Value.pointer (some ⟨g1, 11, none⟩)) p77_5_10 (fun W hS => (st_indexAddrA (l := 16) (i := 11) Try.underlying25 tS5 rfl rfl (by decide) rfl)) rfl (Rv.dc (v := Value.int .u8 (d 11)) p77_5_11 (fun W hS => (st_load1 tA5 rfl ((blk_cell hS.1 11).trans rfl))) rfl (Rv.dc (v := Value.int .i64 (d 11)) p77_5_12 (fun W hS => (st_conv (z := (d 11)) (by kernel_rfl) Try.underlying3 rfl (wr_i64 _ (by omega) (by omega)))) rfl (Rv.dc (v := Value.int .i64 ((d 10) * 256 + (d 11))) p77_5_13 (fun W hS => (st_or (z := (d 10) * 256 + (d 11)) rfl rfl (or256 (by omega) (by omega)))) rfl (Rv.dc (v := Value.pointer (some ⟨g7, 5, none⟩)) p77_5_14 (fun W hS => (st_indexAddrA (l := 8) (i := 5) Try.underlying144 tS3 rfl rfl (by decide) rfl)) rfl Rv.dn))))))))))))))) ?_; clear hE a; intro a hE
 refine d_one (by kernel_rfl) rfl (s_store (off := 5) (k := 1) (cs' := #[Value.int .i64 ((d 0) * 256 + (d 1)), Value.int .i64 ((d 2) * 256 + (d 3)), Value.int .i64 ((d 4) * 256 + (d 5)), Value.int .i64 ((d 6) * 256 + (d 7)), Value.int .i64 ((d 8) * 256 + (d 9)), Value.int .i64 ((d 10) * 256 + (d 11)), Value.int .i64 0, Value.int .i64 0]) p77_5_15 hE wn_none tS3 rfl rfl rfl rfl B_g7 (Nat.le_of_ble_eq_true rfl) rfl ?_)
 intro w21 B_g7' hk
 replace B_g1 := kp_blk B_g1 hk n_g1_g7
 replace B_g4 := kp_blk B_g4 hk n_g4_g7
 replace K_0 := K_0.then_ hk (fun k h => by rw [show k = g7 from h]; exact Or.inr z_0_g7)
 replace B_g7 := B_g7'
 clear hk
 refine ⟨⟨B_g1, trivial⟩, ?_⟩
 refine d_end (by kernel_rfl) ?_
 refine x_normB (x_norm (c_regL R77_6_l ?_))
 refine qn hE (rc (pl P77_6 0) (st_add (z := 6) rfl rfl (by decide)) (rc (pl P77_6 1) (st_move rfl) rn)) ?_; clear hE a; intro a hE
 refine p_nil (x_norm ?_)
 refine (Eq.mpr (rounds_succ (n := 2)) ?_)
 refine c_reg R77_3_l ?_
 refine q0 p77_3_0 hE (st_lss (b := true) rfl rfl (by decide)) ?_; clear hE a; intro a hE
 refine p_nil (x_norm (wp_seq ?_))
 refine c_cond (t := true) hE rfl ?_
 refine wp_skip (x_norm (wp_seq (wp_block (c_reg R77_4_l ?_))))
 refine qn hE (rc (pl P77_4 0) (st_move rfl) (rc (pl P77_4 1) (st_assign rfl) rn)) ?_; clear hE a; intro a hE
 refine p_nil (x_norm ?_)
 refine c_draw (S := fun W => W.heap[g1]? = some (.cells (b16 d).toArray 25 (0, 0)) ∧ True) rfl rfl (listed := #[ι, ι, ι, ι, ι, ι, ι, ι, ι, ι, ι, ι, ι, ι, ι, ι]) rfl ?_
 intro w22 hh hk
 replace B_g1 := kp_blk B_g1 hk (fun h => h)
 replace B_g4 := kp_blk B_g4 hk (fun h => h)
 replace B_g7 := kp_blk B_g7 hk (fun h => h)
 replace K_0 := K_0.then_ hk (fun _ h => h.elim)
 clear hh hk
 refine Rv.dm ns77_5 hE ⟨B_g1, trivial⟩ (Rv.dc p77_5_0 (fun W hS => (st_move rfl)) rfl (Rv.dc p77_5_1 (fun W hS => (st_move rfl)) rfl (Rv.dc (v := Value.int .i64 12) p77_5_2 (fun W hS => (st_mul (z := 12) rfl rfl (by decide))) rfl (Rv.dc (v := Value.pointer (some ⟨g1, 12, none⟩)) p77_5_3 (fun W hS => (st_indexAddrA (l := 16) (i := 12) Try.underlying25 tS5 rfl rfl (by decide) rfl)) rfl (Rv.dc (v := Value.int .u8 (d 12)) p77_5_4 (fun W hS => (st_load1 tA5 rfl ((blk_cell hS.1 12).trans rfl))) rfl (Rv.dc (v := Value.int .i64 (d 12)) p77_5_5 (fun W hS => (st_conv (z := (d 12)) (by kernel_rfl) Try.underlying3 rfl (wr_i64 _ (by omega) (by omega)))) rfl (Rv.dc (v := Value.int .i64 ((d 12) * 256)) p77_5_6 (fun W hS => (st_shl (z := (d 12) * 256) rfl rfl (by decide) (by decide) (show IntKind.wrap .i64 ((d 12) * 256) = _ from wr_i64 _ (by omega) (by omega)))) rfl (Rv.dc p77_5_7 (fun W hS => (st_move rfl)) rfl (Rv.dc (v := Value.int .i64 12) p77_5_8 (fun W hS => (st_mul (z := 12) rfl rfl (by decide))) rfl (Rv.dc (v := Value.int .i64 13) p77_5_9 (fun W hS => (st_add (z := 13) rfl rfl (by decide))) rfl (Rv.dc (v := Value.pointer (some ⟨g1, 13, none⟩)) p77_5_10 (fun W hS => (st_indexAddrA (l := 16) (i := 13) Try.underlying25 tS5 rfl rfl (by decide) rfl)) rfl (Rv.dc (v := Value.int .u8 (d 13)) p77_5_11 (fun W hS => (st_load1 tA5 rfl ((blk_cell hS.1 13).trans rfl))) rfl (Rv.dc (v := Value.int .i64 (d 13)) p77_5_12 (fun W hS => (st_conv (z := (d 13)) (by kernel_rfl) Try.underlying3 rfl (wr_i64 _ (by omega) (by omega)))) rfl (Rv.dc (v := Value.int .i64 ((d 12) * 256 + (d 13))) p77_5_13 (fun W hS => (st_or (z := (d 12) * 256 + (d 13)) rfl rfl (or256 (by omega) (by omega)))) rfl (Rv.dc (v := Value.pointer (some ⟨g7, 6, none⟩)) p77_5_14 (fun W hS => (st_indexAddrA (l := 8) (i := 6) Try.underlying144 tS3 rfl rfl (by decide) rfl)) rfl Rv.dn))))))))))))))) ?_; clear hE a; intro a hE
 refine d_one (by kernel_rfl) rfl (s_store (off := 6) (k := 1) (cs' := #[Value.int .i64 ((d 0) * 256 + (d 1)), Value.int .i64 ((d 2) * 256 + (d 3)), Value.int .i64 ((d 4) * 256 + (d 5)), Value.int .i64 ((d 6) * 256 + (d 7)), Value.int .i64 ((d 8) * 256 + (d 9)), Value.int .i64 ((d 10) * 256 + (d 11)), Value.int .i64 ((d 12) * 256 + (d 13)), Value.int .i64 0]) p77_5_15 hE wn_none tS3 rfl rfl rfl rfl B_g7 (Nat.le_of_ble_eq_true rfl) rfl ?_)
 intro w23 B_g7' hk
 replace B_g1 := kp_blk B_g1 hk n_g1_g7
 replace B_g4 := kp_blk B_g4 hk n_g4_g7
 replace K_0 := K_0.then_ hk (fun k h => by rw [show k = g7 from h]; exact Or.inr z_0_g7)
 replace B_g7 := B_g7'
 clear hk
 refine ⟨⟨B_g1, trivial⟩, ?_⟩
 refine d_end (by kernel_rfl) ?_
 refine x_normB (x_norm (c_regL R77_6_l ?_))
 refine qn hE (rc (pl P77_6 0) (st_add (z := 7) rfl rfl (by decide)) (rc (pl P77_6 1) (st_move rfl) rn)) ?_; clear hE a; intro a hE
 refine p_nil (x_norm ?_)
 refine (Eq.mpr (rounds_succ (n := 1)) ?_)
 refine c_reg R77_3_l ?_
 refine q0 p77_3_0 hE (st_lss (b := true) rfl rfl (by decide)) ?_; clear hE a; intro a hE
 refine p_nil (x_norm (wp_seq ?_))
 refine c_cond (t := true) hE rfl ?_
 refine wp_skip (x_norm (wp_seq (wp_block (c_reg R77_4_l ?_))))
 refine qn hE (rc (pl P77_4 0) (st_move rfl) (rc (pl P77_4 1) (st_assign rfl) rn)) ?_; clear hE a; intro a hE
 refine p_nil (x_norm ?_)
 refine c_draw (S := fun W => W.heap[g1]? = some (.cells (b16 d).toArray 25 (0, 0)) ∧ True) rfl rfl (listed := #[ι, ι, ι, ι, ι, ι, ι, ι, ι, ι, ι, ι, ι, ι, ι, ι]) rfl ?_
 intro w24 hh hk
 replace B_g1 := kp_blk B_g1 hk (fun h => h)
 replace B_g4 := kp_blk B_g4 hk (fun h => h)
 replace B_g7 := kp_blk B_g7 hk (fun h => h)
 replace K_0 := K_0.then_ hk (fun _ h => h.elim)
 clear hh hk
 refine Rv.dm ns77_5 hE ⟨B_g1, trivial⟩ (Rv.dc p77_5_0 (fun W hS => (st_move rfl)) rfl (Rv.dc p77_5_1 (fun W hS => (st_move rfl)) rfl (Rv.dc (v := Value.int .i64 14) p77_5_2 (fun W hS => (st_mul (z := 14) rfl rfl (by decide))) rfl (Rv.dc (v := Value.pointer (some ⟨g1, 14, none⟩)) p77_5_3 (fun W hS => (st_indexAddrA (l := 16) (i := 14) Try.underlying25 tS5 rfl rfl (by decide) rfl)) rfl (Rv.dc (v := Value.int .u8 (d 14)) p77_5_4 (fun W hS => (st_load1 tA5 rfl ((blk_cell hS.1 14).trans rfl))) rfl (Rv.dc (v := Value.int .i64 (d 14)) p77_5_5 (fun W hS => (st_conv (z := (d 14)) (by kernel_rfl) Try.underlying3 rfl (wr_i64 _ (by omega) (by omega)))) rfl (Rv.dc (v := Value.int .i64 ((d 14) * 256)) p77_5_6 (fun W hS => (st_shl (z := (d 14) * 256) rfl rfl (by decide) (by decide) (show IntKind.wrap .i64 ((d 14) * 256) = _ from wr_i64 _ (by omega) (by omega)))) rfl (Rv.dc p77_5_7 (fun W hS => (st_move rfl)) rfl (Rv.dc (v := Value.int .i64 14) p77_5_8 (fun W hS => (st_mul (z := 14) rfl rfl (by decide))) rfl (Rv.dc (v := Value.int .i64 15) p77_5_9 (fun W hS => (st_add (z := 15) rfl rfl (by decide))) rfl (Rv.dc (v := Value.pointer (some ⟨g1, 15, none⟩)) p77_5_10 (fun W hS => (st_indexAddrA (l := 16) (i := 15) Try.underlying25 tS5 rfl rfl (by decide) rfl)) rfl (Rv.dc (v := Value.int .u8 (d 15)) p77_5_11 (fun W hS => (st_load1 tA5 rfl ((blk_cell hS.1 15).trans rfl))) rfl (Rv.dc (v := Value.int .i64 (d 15)) p77_5_12 (fun W hS => (st_conv (z := (d 15)) (by kernel_rfl) Try.underlying3 rfl (wr_i64 _ (by omega) (by omega)))) rfl (Rv.dc (v := Value.int .i64 ((d 14) * 256 + (d 15))) p77_5_13 (fun W hS => (st_or (z := (d 14) * 256 + (d 15)) rfl rfl (or256 (by omega) (by omega)))) rfl (Rv.dc (v := Value.pointer (some ⟨g7, 7, none⟩)) p77_5_14 (fun W hS => (st_indexAddrA (l := 8) (i := 7) Try.underlying144 tS3 rfl rfl (by decide) rfl)) rfl Rv.dn))))))))))))))) ?_; clear hE a; intro a hE
 refine d_one (by kernel_rfl) rfl (s_store (off := 7) (k := 1) (cs' := #[Value.int .i64 ((d 0) * 256 + (d 1)), Value.int .i64 ((d 2) * 256 + (d 3)), Value.int .i64 ((d 4) * 256 + (d 5)), Value.int .i64 ((d 6) * 256 + (d 7)), Value.int .i64 ((d 8) * 256 + (d 9)), Value.int .i64 ((d 10) * 256 + (d 11)), Value.int .i64 ((d 12) * 256 + (d 13)), Value.int .i64 ((d 14) * 256 + (d 15))]) p77_5_15 hE wn_none tS3 rfl rfl rfl rfl B_g7 (Nat.le_of_ble_eq_true rfl) rfl ?_)
 intro w25 B_g7' hk
 replace B_g1 := kp_blk B_g1 hk n_g1_g7
 replace B_g4 := kp_blk B_g4 hk n_g4_g7
 replace K_0 := K_0.then_ hk (fun k h => by rw [show k = g7 from h]; exact Or.inr z_0_g7)
 replace B_g7 := B_g7'
 clear hk
 refine ⟨⟨B_g1, trivial⟩, ?_⟩
 refine d_end (by kernel_rfl) ?_
 refine x_normB (x_norm (c_regL R77_6_l ?_))
 refine qn hE (rc (pl P77_6 0) (st_add (z := 8) rfl rfl (by decide)) (rc (pl P77_6 1) (st_move rfl) rn)) ?_; clear hE a; intro a hE
 refine p_nil (x_norm ?_)
 refine (Eq.mpr (rounds_succ (n := 0)) ?_)
 refine c_reg R77_3_l ?_
 refine q0 p77_3_0 hE (st_lss (b := false) rfl rfl (by decide)) ?_; clear hE a; intro a hE
 refine p_nil (x_norm (wp_seq ?_))
 refine c_cond (t := false) hE rfl ?_
 refine wp_exit (x_exit (x_exit (x_in (x_norm (c_reg R77_7_l ?_)))))
 refine q0 (pl P77_7 0) hE (st_loadN (off := 0) (k := 8) (vs := [Value.int .i64 ((d 0) * 256 + (d 1)), Value.int .i64 ((d 2) * 256 + (d 3)), Value.int .i64 ((d 4) * 256 + (d 5)), Value.int .i64 ((d 6) * 256 + (d 7)), Value.int .i64 ((d 8) * 256 + (d 9)), Value.int .i64 ((d 10) * 256 + (d 11)), Value.int .i64 ((d 12) * 256 + (d 13)), Value.int .i64 ((d 14) * 256 + (d 15))]) tA144 tS144 rfl B_g7 rfl rfl) ?_; clear hE a; intro a hE
 refine p_cons (s_store (off := 0) (k := 8) (cs' := #[Value.int .i64 ((d 0) * 256 + (d 1)), Value.int .i64 ((d 2) * 256 + (d 3)), Value.int .i64 ((d 4) * 256 + (d 5)), Value.int .i64 ((d 6) * 256 + (d 7)), Value.int .i64 ((d 8) * 256 + (d 9)), Value.int .i64 ((d 10) * 256 + (d 11)), Value.int .i64 ((d 12) * 256 + (d 13)), Value.int .i64 ((d 14) * 256 + (d 15))]) (pl P77_7 1) hE wn_none tS144 rfl rfl rfl rfl B_g4 (Nat.le_of_ble_eq_true rfl) rfl ?_)
 intro w26 B_g4' hk
 replace B_g1 := kp_blk B_g1 hk n_g1_g4
 replace B_g7 := kp_blk B_g7 hk (Ne.symm n_g4_g7)
 replace K_0 := K_0.then_ hk (fun k h => by rw [show k = g4 from h]; exact Or.inr z_0_g4)
 replace B_g4 := B_g4'
 clear hk
 refine p_nil (x_norm (wp_ret ?_))
 refine ret_one (v := Value.agg #[Value.int .i64 ((d 0) * 256 + (d 1)), Value.int .i64 ((d 2) * 256 + (d 3)), Value.int .i64 ((d 4) * 256 + (d 5)), Value.int .i64 ((d 6) * 256 + (d 7)), Value.int .i64 ((d 8) * 256 + (d 9)), Value.int .i64 ((d 10) * 256 + (d 11)), Value.int .i64 ((d 12) * 256 + (d 13)), Value.int .i64 ((d 14) * 256 + (d 15))]) rfl hE (.cellN (us := [Value.int .i64 ((d 0) * 256 + (d 1)), Value.int .i64 ((d 2) * 256 + (d 3)), Value.int .i64 ((d 4) * 256 + (d 5)), Value.int .i64 ((d 6) * 256 + (d 7)), Value.int .i64 ((d 8) * 256 + (d 9)), Value.int .i64 ((d 10) * 256 + (d 11)), Value.int .i64 ((d 12) * 256 + (d 13)), Value.int .i64 ((d 14) * 256 + (d 15))]) tA144 tS144 rfl B_g4 rfl .nil) ?_
 exact ⟨rfl, K_0⟩
theorem R36_0_l : List.range (regOf Try.f36 0).size = [0, 1, 2] := by kernel_rfl
theorem R36_1_l : List.range (regOf Try.f36 1).size = [0, 1, 2, 3] := by kernel_rfl
theorem R36_2_l : List.range (regOf Try.f36 2).size = [0, 1, 2, 3] := by kernel_rfl
theorem R36_3_l : List.range (regOf Try.f36 3).size = [0, 1, 2, 3, 4] := by kernel_rfl
theorem R36_4_l : List.range (regOf Try.f36 4).size = [0, 1, 2, 3, 4] := by kernel_rfl
theorem R36_5_l : List.range (regOf Try.f36 5).size = [0, 1, 2, 3, 4, 5, 6, 7, 8, 9, 10, 11, 12] := by kernel_rfl
theorem R36_6_l : List.range (regOf Try.f36 6).size = [0, 1] := by kernel_rfl
theorem R36_7_l : List.range (regOf Try.f36 7).size = [0, 1, 2] := by kernel_rfl
theorem body36 : Try.f36.body = some (.seq (.region 0 (regOf Try.f36 0) false) (.seq (.region 1 (regOf Try.f36 1) false) (.seq (.region 2 (regOf Try.f36 2) false) (.seq (.region 3 (regOf Try.f36 3) false) (.seq (.region 4 (regOf Try.f36 4) false) (.seq (.seq (.region 5 (regOf Try.f36 5) false) (.cond (Operand.tmp 31) (.seq (.region 6 (regOf Try.f36 6) false) (.ret)) (.skip))) (.seq (.region 7 (regOf Try.f36 7) false) (.ret)))))))) := by kernel_rfl
theorem P36_0 : (List.range (regOf Try.f36 0).size).map (pj (regOf Try.f36 0)) = [zz 1 (.box 25 (.tmp 0)) 0, zz 2 (.assign (.const (.int .i64 0))) 3, zz 3 (.assign (.const (.int .i64 0))) 36] := by kernel_rfl
theorem P36_1 : (List.range (regOf Try.f36 1).size).map (pj (regOf Try.f36 1)) = [zz 8 (.load 25 (.tmp 1)) 25, zz 9 (.call { callee := .value (.func 77), args := #[.tmp 8], argTypes := #[25] }) 144, zz 4 (.alloc 144) 0, some (none, .store 144 (.tmp 4) (.tmp 9), 0, none)] := by kernel_rfl
theorem cl77 : callable Try.f77 = true := by kernel_rfl
theorem P36_2 : (List.range (regOf Try.f36 2).size).map (pj (regOf Try.f36 2)) = [zz 10 (.indexAddr 144 (.tmp 4) (.const (.int .i64 7))) 0, zz 11 (.load 3 (.tmp 10)) 3, zz 12 (.binOp .sub 3 (.tmp 11) (.const (.int .i64 1)) 3) 3, zz 5 (.assign (.tmp 12)) 3] := by kernel_rfl
theorem P36_3 : (List.range (regOf Try.f36 3).size).map (pj (regOf Try.f36 3)) = [zz 13 (.slice 144 (.tmp 4) none (some (.const (.int .i64 4))) none) 22, zz 14 (.sliceToArrayPointer 146 (.tmp 13)) 0, zz 15 (.load 146 (.tmp 14)) 146, zz 6 (.alloc 146) 0, some (none, .store 146 (.tmp 6) (.tmp 15), 0, none)] := by kernel_rfl
theorem tA146 : (Try.prog.underlying 146).map aggD = some true := by kernel_rfl
theorem tS146 : (Try.prog.info? 146).map (·.size) = some 4 := by kernel_rfl
theorem tZ146 : (Try.prog.info? 146).bind (·.zero) = some (Value.agg #[Value.int .i64 0, Value.int .i64 0, Value.int .i64 0, Value.int .i64 0]) := by kernel_rfl
theorem P36_4 : (List.range (regOf Try.f36 4).size).map (pj (regOf Try.f36 4)) = [zz 16 (.slice 144 (.tmp 4) (some (.const (.int .i64 4))) (some (.const (.int .i64 7))) none) 22, zz 17 (.sliceToArrayPointer 147 (.tmp 16)) 0, zz 18 (.load 147 (.tmp 17)) 147, zz 7 (.alloc 147) 0, some (none, .store 147 (.tmp 7) (.tmp 18), 0, none)] := by kernel_rfl
theorem tA147 : (Try.prog.underlying 147).map aggD = some true := by kernel_rfl
theorem tS147 : (Try.prog.info? 147).map (·.size) = some 3 := by kernel_rfl
theorem tZ147 : (Try.prog.info? 147).bind (·.zero) = some (Value.agg #[Value.int .i64 0, Value.int .i64 0, Value.int .i64 0]) := by kernel_rfl
theorem P36_5 : (List.range (regOf Try.f36 5).size).map (pj (regOf Try.f36 5)) = [zz 19 (.load 146 (.tmp 6)) 146, zz 20 (.build 146 #[]) 146, zz 21 (.binOp .eql 146 (.tmp 19) (.tmp 20) 146) 4, zz 22 (.move (.tmp 21)) 4, some (some 23, .load 147 (.tmp 7), 147, some (3, false)), some (some 24, .build 147 #[(0, .const (.int .i64 0)), (1, .const (.int .i64 0)), (2, .const (.int .i64 1))], 147, some (3, false)), some (some 25, .binOp .neq 147 (.tmp 23) (.tmp 24) 147, 4, some (3, false)), zz 26 (.pick (.tmp 22) (.const (.bool true)) (.tmp 25)) 4, zz 27 (.move (.tmp 26)) 4, some (some 28, .move (.tmp 5), 3, some (8, false)), some (some 29, .call { callee := .value (.func 69), args := #[.tmp 28], argTypes := #[3] }, 4, some (8, false)), some (some 30, .unOp .not 4 (.tmp 29), 4, some (8, false)), zz 31 (.pick (.tmp 27) (.const (.bool true)) (.tmp 30)) 4] := by kernel_rfl
theorem eg146 : Try.prog.eqGuardType Try.prog.depth 146 = false := by kernel_rfl
theorem fk146 : flat Try.prog 9 146 = some ([some .i64, some .i64, some .i64, some .i64]) := Eq.trans (flat_arr Try.underlying146 (flat_int Try.underlying3) (by kernel_rfl) rfl (Or.inr rfl)) rfl
theorem g36_5_3 : dstOf (regOf Try.f36 5) 3 = some 22 := by kernel_rfl
theorem g36_5_8 : dstOf (regOf Try.f36 5) 8 = some 27 := by kernel_rfl
theorem P36_6 : (List.range (regOf Try.f36 6).size).map (pj (regOf Try.f36 6)) = [zz 2 (.assign (.const (.int .i64 0))) 3, zz 3 (.assign (.const (.int .i64 8))) 36] := by kernel_rfl
theorem eg147 : Try.prog.eqGuardType Try.prog.depth 147 = false := by kernel_rfl
theorem fk147 : flat Try.prog 9 147 = some ([some .i64, some .i64, some .i64]) := Eq.trans (flat_arr Try.underlying147 (flat_int Try.underlying3) (by kernel_rfl) rfl (Or.inr rfl)) rfl
theorem P36_7 : (List.range (regOf Try.f36 7).size).map (pj (regOf Try.f36 7)) = [zz 32 (.move (.tmp 5)) 3, zz 2 (.assign (.tmp 32)) 3, zz 3 (.assign (.const (.int .i64 0))) 36] := by kernel_rfl
set_option maxHeartbeats 4000000 in
theorem node_any (d : Nat → Int) (hd : ∀ j, 0 ≤ d j ∧ d j ≤ 255) (w : World) : Calls Try.prog 36 #[Value.agg (b16 d).toArray] w fun e w' => (0 ≤ nodeF d ∧ e = .returned (.tuple #[.int .i64 (nodeF d), .int .i64 0]) ∧ Kp w w' (fun _ => False)) ∨ (nodeF d = -1 ∧ e = .returned (.tuple #[.int .i64 0, .int .i64 8]) ∧ Kp w w' (fun _ => False)) := by
 have K_0 := Kp.refl w (fun _ => False)
 have hd0 := hd 0
 have hd1 := hd 1
 have hd2 := hd 2
 have hd3 := hd 3
 have hd4 := hd 4
 have hd5 := hd 5
 have hd6 := hd 6
 have hd7 := hd 7
 have hd8 := hd 8
 have hd9 := hd 9
 have hd10 := hd 10
 have hd11 := hd 11
 have hd12 := hd 12
 have hd13 := hd 13
 have hd14 := hd 14
 have hd15 := hd 15
 refine enter (args := [Value.agg (b16 d).toArray]) (n := 33) Try.func36 body36 rfl rfl rfl ?_
 intro a hE
 refine c_reg R36_0_l ?_
 refine p_cons (s_box (pl P36_0 0) hE wn_none rfl rfl ?_)
 clear hE a; intro g1 w2 z3 B_g1 hk a hE
 replace B_g1 : w2.heap[g1]? = some (.cells (b16 d).toArray 25 (0, 0)) := B_g1
 have z_0_g1 := Nat.le_trans K_0.kept.1 z3
 replace K_0 := K_0.then_ hk (fun _ h => h.elim)
 clear hk
 refine qn hE (rc (pl P36_0 1) (st_assign rfl) (rc (pl P36_0 2) (st_assign rfl) rn)) ?_; clear hE a; intro a hE
 refine p_nil (x_norm (c_reg R36_1_l ?_))
 refine q0 (pl P36_1 0) hE (st_loadN (off := 0) (k := 16) (vs := b16 d) tA25 tS25 rfl B_g1 rfl rfl) ?_; clear hE a; intro a hE
 refine p_cons (s_call (xs := [Operand.tmp 8]) (args := [Value.agg (b16 d).toArray]) (pl P36_1 1) hE wn_none rfl rfl Try.func77 cl77 (groups_any d hd _) ?_)
 rintro e w4 ⟨rfl, hk⟩
 replace B_g1 := kp_blk B_g1 hk (fun h => h)
 replace K_0 := K_0.then_ hk (fun _ h => h.elim)
 refine ⟨_, rfl, ?_⟩; clear hE a; intro a hE
 refine p_cons (s_alloc (pl P36_1 2) hE wn_none rfl tZ144 ?_)
 clear hE a; intro g5 w6 z7 B_g5 hk a hE
 replace B_g5 : w6.heap[g5]? = some (.cells #[Value.int .i64 0, Value.int .i64 0, Value.int .i64 0, Value.int .i64 0, Value.int .i64 0, Value.int .i64 0, Value.int .i64 0, Value.int .i64 0] 144 (0, 0)) := B_g5
 have n_g1_g5 : g1 ≠ g5 := ne_new B_g1 z7
 have z_0_g5 := Nat.le_trans K_0.kept.1 z7
 replace B_g1 := kp_blk B_g1 hk (fun h => h)
 replace K_0 := K_0.then_ hk (fun _ h => h.elim)
 clear hk
 refine p_cons (s_store (off := 0) (k := 8) (cs' := #[Value.int .i64 (d 0 * 256 + d 1), Value.int .i64 (d 2 * 256 + d 3), Value.int .i64 (d 4 * 256 + d 5), Value.int .i64 (d 6 * 256 + d 7), Value.int .i64 (d 8 * 256 + d 9), Value.int .i64 (d 10 * 256 + d 11), Value.int .i64 (d 12 * 256 + d 13), Value.int .i64 (d 14 * 256 + d 15)]) (pl P36_1 3) hE wn_none tS144 rfl rfl rfl rfl B_g5 (Nat.le_of_ble_eq_true rfl) rfl ?_)
 intro w8 B_g5' hk
 replace B_g1 := kp_blk B_g1 hk n_g1_g5
 replace K_0 := K_0.then_ hk (fun k h => by rw [show k = g5 from h]; exact Or.inr z_0_g5)
 replace B_g5 := B_g5'
 clear hk
 refine p_nil (x_norm (c_reg R36_2_l ?_))
 refine qn hE (rc (pl P36_2 0) (st_indexAddrA (l := 8) (i := 7) Try.underlying144 tS3 rfl rfl (by decide) rfl) (rc (pl P36_2 1) (st_load1 tA3 rfl ((blk_cell B_g5 7).trans rfl)) (rc (pl P36_2 2) (st_sub (z := (d 14 * 256 + d 15) - 1) rfl rfl (wr_i64 _ (by omega) (by omega))) (rc (pl P36_2 3) (st_assign rfl) rn)))) ?_; clear hE a; intro a hE
 refine p_nil (x_norm (c_reg R36_3_l ?_))
 refine qn hE (rc (pl P36_3 0) (st_sliceAH (hi := 4) Try.underlying144 tS3 rfl rfl (by decide) (by decide)) (rc (pl P36_3 1) (st_sliceToArr Try.underlying146 rfl (by decide)) (rc (pl P36_3 2) (st_loadN (off := 0) (k := 4) (vs := [Value.int .i64 (d 0 * 256 + d 1), Value.int .i64 (d 2 * 256 + d 3), Value.int .i64 (d 4 * 256 + d 5), Value.int .i64 (d 6 * 256 + d 7)]) tA146 tS146 rfl B_g5 rfl rfl) rn))) ?_; clear hE a; intro a hE
 refine p_cons (s_alloc (pl P36_3 3) hE wn_none rfl tZ146 ?_)
 clear hE a; intro g9 w10 z11 B_g9 hk a hE
 replace B_g9 : w10.heap[g9]? = some (.cells #[Value.int .i64 0, Value.int .i64 0, Value.int .i64 0, Value.int .i64 0] 146 (0, 0)) := B_g9
 have n_g1_g9 : g1 ≠ g9 := ne_new B_g1 z11
 have n_g5_g9 : g5 ≠ g9 := ne_new B_g5 z11
 have z_0_g9 := Nat.le_trans K_0.kept.1 z11
 replace B_g1 := kp_blk B_g1 hk (fun h => h)
 replace B_g5 := kp_blk B_g5 hk (fun h => h)
 replace K_0 := K_0.then_ hk (fun _ h => h.elim)
 clear hk
 refine p_cons (s_store (off := 0) (k := 4) (cs' := #[Value.int .i64 (d 0 * 256 + d 1), Value.int .i64 (d 2 * 256 + d 3), Value.int .i64 (d 4 * 256 + d 5), Value.int .i64 (d 6 * 256 + d 7)]) (pl P36_3 4) hE wn_none tS146 rfl rfl rfl rfl B_g9 (Nat.le_of_ble_eq_true rfl) rfl ?_)
 intro w12 B_g9' hk
 replace B_g1 := kp_blk B_g1 hk n_g1_g9
 replace B_g5 := kp_blk B_g5 hk n_g5_g9
 replace K_0 := K_0.then_ hk (fun k h => by rw [show k = g9 from h]; exact Or.inr z_0_g9)
 replace B_g9 := B_g9'
 clear hk
 refine p_nil (x_norm (c_reg R36_4_l ?_))
 refine qn hE (rc (pl P36_4 0) (st_sliceALH (lo := 4) (hi := 7) Try.underlying144 tS3 rfl rfl rfl (by decide) (by decide) (by decide) rfl rfl rfl) (rc (pl P36_4 1) (st_sliceToArr Try.underlying147 rfl (by decide)) (rc (pl P36_4 2) (st_loadN (off := 4) (k := 3) (vs := [Value.int .i64 (d 8 * 256 + d 9), Value.int .i64 (d 10 * 256 + d 11), Value.int .i64 (d 12 * 256 + d 13)]) tA147 tS147 rfl B_g5 rfl rfl) rn))) ?_; clear hE a; intro a hE
 refine p_cons (s_alloc (pl P36_4 3) hE wn_none rfl tZ147 ?_)
 clear hE a; intro g13 w14 z15 B_g13 hk a hE
 replace B_g13 : w14.heap[g13]? = some (.cells #[Value.int .i64 0, Value.int .i64 0, Value.int .i64 0] 147 (0, 0)) := B_g13
 have n_g1_g13 : g1 ≠ g13 := ne_new B_g1 z15
 have n_g5_g13 : g5 ≠ g13 := ne_new B_g5 z15
 have n_g9_g13 : g9 ≠ g13 := ne_new B_g9 z15
 have z_0_g13 := Nat.le_trans K_0.kept.1 z15
 replace B_g1 := kp_blk B_g1 hk (fun h => h)
 replace B_g5 := kp_blk B_g5 hk (fun h => h)
 replace B_g9 := kp_blk B_g9 hk (fun h => h)
 replace K_0 := K_0.then_ hk (fun _ h => h.elim)
 clear hk
 refine p_cons (s_store (off := 0) (k := 3) (cs' := #[Value.int .i64 (d 8 * 256 + d 9), Value.int .i64 (d 10 * 256 + d 11), Value.int .i64 (d 12 * 256 + d 13)]) (pl P36_4 4) hE wn_none tS147 rfl rfl rfl rfl B_g13 (Nat.le_of_ble_eq_true rfl) rfl ?_)
 intro w16 B_g13' hk
 replace B_g1 := kp_blk B_g1 hk n_g1_g13
 replace B_g5 := kp_blk B_g5 hk n_g5_g13
 replace B_g9 := kp_blk B_g9 hk n_g9_g13
 replace K_0 := K_0.then_ hk (fun k h => by rw [show k = g13 from h]; exact Or.inr z_0_g13)
 replace B_g13 := B_g13'
 clear hk
 refine p_nil (x_norm (wp_seq (c_reg R36_5_l ?_)))
 refine qn hE (rc (pl P36_5 0) (st_loadN (off := 0) (k := 4) (vs := [Value.int .i64 (d 0 * 256 + d 1), Value.int .i64 (d 2 * 256 + d 3), Value.int .i64 (d 4 * 256 + d 5), Value.int .i64 (d 6 * 256 + d 7)]) tA146 tS146 rfl B_g9 rfl rfl) (rc (pl P36_5 1) (st_build (xs := []) (vs := []) (cs := #[Value.int .i64 0, Value.int .i64 0, Value.int .i64 0, Value.int .i64 0]) rfl (by kernel_rfl)) (rc (pl P36_5 2) (st_eqlA (b := (frontB d)) eg146 rfl rfl (eqA_flat fk146 (by kernel_rfl) rfl rfl (fgB d hd))) (rc (pl P36_5 3) (st_move rfl) rn)))) ?_; clear hE a; intro a hE
 rcases Bool.eq_false_or_eq_true (frontB d) with hb17 | hb17
 ·
  rw [hb17] at hE
  refine qn hE (Ds.rk (pl P36_5 4) (wn_some g36_5_3 rfl rfl) (Ds.rk (pl P36_5 5) (wn_some g36_5_3 rfl rfl) (Ds.rk (pl P36_5 6) (wn_some g36_5_3 rfl rfl) (rc (pl P36_5 7) (st_pick rfl rfl) (rc (pl P36_5 8) (st_move rfl) (Ds.rk (pl P36_5 9) (wn_some g36_5_8 rfl rfl) (Ds.rk (pl P36_5 10) (wn_some g36_5_8 rfl rfl) (Ds.rk (pl P36_5 11) (wn_some g36_5_8 rfl rfl) (rc (pl P36_5 12) (st_pick rfl rfl) rn))))))))) ?_; clear hE a; intro a hE
  refine p_nil (x_norm ?_)
  refine c_cond (t := true) hE rfl ?_
  refine c_reg R36_6_l ?_
  refine qn hE (rc (pl P36_6 0) (st_assign rfl) (rc (pl P36_6 1) (st_assign rfl) rn)) ?_; clear hE a; intro a hE
  refine p_nil (x_norm (wp_ret (x_ret ?_)))
  refine ret_list (rs := [.tmp 2, .tmp 3]) (vs := [Value.int .i64 0, Value.int .i64 8]) rfl hE (.tmp rfl (.tmp rfl .nil)) rfl ?_
  have e9 : nodeF d = -1 := by unfold nodeF; rw [if_neg]; rw [hb17]; simp
  exact .inr ⟨e9, rfl, K_0⟩
 ·
  rw [hb17] at hE
  refine qn hE (rg (pl P36_5 4) (wn_some g36_5_3 rfl rfl) (st_loadN (off := 0) (k := 3) (vs := [Value.int .i64 (d 8 * 256 + d 9), Value.int .i64 (d 10 * 256 + d 11), Value.int .i64 (d 12 * 256 + d 13)]) tA147 tS147 rfl B_g13 rfl rfl) (rg (pl P36_5 5) (wn_some g36_5_3 rfl rfl) (st_build (xs := [(0, Operand.const (Value.int IntKind.i64 0)), (1, Operand.const (Value.int IntKind.i64 0)), (2, Operand.const (Value.int IntKind.i64 1))]) (vs := [(0, Value.int .i64 0), (1, Value.int .i64 0), (2, Value.int .i64 1)]) (cs := #[Value.int .i64 0, Value.int .i64 0, Value.int .i64 1]) rfl (by kernel_rfl)) (rg (pl P36_5 6) (wn_some g36_5_3 rfl rfl) (st_neqA (b := (backB d)) eg147 rfl rfl (eqA_flat fk147 (by kernel_rfl) rfl rfl (bgB d hd))) (rc (pl P36_5 7) (st_pick rfl rfl) (rc (pl P36_5 8) (st_move rfl) rn))))) ?_; clear hE a; intro a hE
  rcases Bool.eq_false_or_eq_true (backB d) with hb18 | hb18
  ·
   rw [hb18] at hE
   refine p_cons (s_still (pl P36_5 9) hE (wn_some g36_5_8 rfl rfl) rfl (st_move rfl) ?_); clear hE a; intro a hE
   refine p_cons (s_call (xs := [Operand.tmp 28]) (args := [Value.int .i64 ((d 14 * 256 + d 15) - 1)]) (pl P36_5 10) hE (wn_some g36_5_8 rfl rfl) rfl rfl Try.func69 cl69 (anode ((d 14 * 256 + d 15) - 1) _) ?_)
   rintro e w19 ⟨rfl, hk⟩
   replace B_g1 := kp_blk B_g1 hk (fun h => h)
   replace B_g5 := kp_blk B_g5 hk (fun h => h)
   replace B_g9 := kp_blk B_g9 hk (fun h => h)
   replace B_g13 := kp_blk B_g13 hk (fun h => h)
   replace K_0 := K_0.then_ hk (fun _ h => h.elim)
   refine ⟨_, rfl, ?_⟩; clear hE a; intro a hE
   refine qn hE (rg (pl P36_5 11) (wn_some g36_5_8 rfl rfl) (st_not rfl rfl) (rc (pl P36_5 12) (st_pick rfl rfl) rn)) ?_; clear hE a; intro a hE
   refine p_nil (x_norm ?_)
   rcases Bool.eq_false_or_eq_true (decide (0 ≤ (d 14 * 256 + d 15) - 1 ∧ (d 14 * 256 + d 15) - 1 < 64)) with hb20 | hb20
   ·
    rw [hb20] at hE
    have hb20P := of_decide_eq_true hb20
    refine c_cond (t := false) hE rfl ?_
    refine wp_skip (x_norm (c_reg R36_7_l ?_))
    refine qn hE (rc (pl P36_7 0) (st_move rfl) (rc (pl P36_7 1) (st_assign rfl) (rc (pl P36_7 2) (st_assign rfl) rn))) ?_; clear hE a; intro a hE
    refine p_nil (x_norm (wp_ret ?_))
    refine ret_list (rs := [.tmp 2, .tmp 3]) (vs := [Value.int .i64 ((d 14 * 256 + d 15) - 1), Value.int .i64 0]) rfl hE (.tmp rfl (.tmp rfl .nil)) rfl ?_
    have e9 : nodeF d = d 15 - 1 := by unfold nodeF; rw [if_pos]; rw [hb17, hb18]; simp; omega
    exact .inl ⟨by omega, by rw [e9]; first | rfl | (rw [show d 14 * 256 + d 15 - 1 = d 15 - 1 by omega]), K_0⟩
   ·
    rw [hb20] at hE
    have hb20P := of_decide_eq_false hb20
    refine c_cond (t := true) hE rfl ?_
    refine c_reg R36_6_l ?_
    refine qn hE (rc (pl P36_6 0) (st_assign rfl) (rc (pl P36_6 1) (st_assign rfl) rn)) ?_; clear hE a; intro a hE
    refine p_nil (x_norm (wp_ret (x_ret ?_)))
    refine ret_list (rs := [.tmp 2, .tmp 3]) (vs := [Value.int .i64 0, Value.int .i64 8]) rfl hE (.tmp rfl (.tmp rfl .nil)) rfl ?_
    have e9 : nodeF d = -1 := by unfold nodeF; rw [if_neg]; rw [Bool.and_eq_true, decide_eq_true_eq]; omega
    exact .inr ⟨e9, rfl, K_0⟩
  ·
   rw [hb18] at hE
   refine qn hE (Ds.rk (pl P36_5 9) (wn_some g36_5_8 rfl rfl) (Ds.rk (pl P36_5 10) (wn_some g36_5_8 rfl rfl) (Ds.rk (pl P36_5 11) (wn_some g36_5_8 rfl rfl) (rc (pl P36_5 12) (st_pick rfl rfl) rn)))) ?_; clear hE a; intro a hE
   refine p_nil (x_norm ?_)
   refine c_cond (t := true) hE rfl ?_
   refine c_reg R36_6_l ?_
   refine qn hE (rc (pl P36_6 0) (st_assign rfl) (rc (pl P36_6 1) (st_assign rfl) rn)) ?_; clear hE a; intro a hE
   refine p_nil (x_norm (wp_ret (x_ret ?_)))
   refine ret_list (rs := [.tmp 2, .tmp 3]) (vs := [Value.int .i64 0, Value.int .i64 8]) rfl hE (.tmp rfl (.tmp rfl .nil)) rfl ?_
   have e9 : nodeF d = -1 := by unfold nodeF; rw [if_neg]; rw [hb18]; simp
   exact .inr ⟨e9, rfl, K_0⟩
end Go.Proofs.Ytijfocnneccccaa.Ad
