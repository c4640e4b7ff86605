/- packet.Begin; the chapter's example. -/
import Derived.Test.YtijfocnneccccaaHdl
set_option maxRecDepth 100000
set_option linter.unusedVariables false
set_option linter.unusedSimpArgs false
namespace Go.Proofs.Ytijfocnneccccaa.Bg
open Go.RowKit Go.Proofs.YtijfocnneccccaaW.PrintWords Go.Proofs.Ytijfocnneccccaa.Ds Go.Proofs.Ytijfocnneccccaa.Ad Go.Proofs.Ytijfocnneccccaa.Hd Go.Proofs.Ytijfocnneccccaa.Hw Go.Proofs.Ytijfocnneccccaa.Hp Go.Proofs.Ytijfocnneccccaa.Dg Go.Proofs.Ytijfocnneccccaa.Rx Go.Proofs.Ytijfocnneccccaa.Hk Go.Proofs.Ytijfocnneccccaa.Hk2 Go.Proofs.Ytijfocnneccccaa.Hl
open Go.Proofs.Ytijfocnneccccaa.Pk (Kp fitsF spanF putF digF fits_any put_ok)
open Go.Proofs.Ytijfocnneccccaa.Mi (st_eqlP MapI)
theorem kp_freeze (w : World) (g off : Nat) : Kp w (w.freeze ⟨g, off, none⟩ 1) (fun k => k = g) := by
 unfold World.freeze
 rw [if_neg (by decide)]
 exact ⟨⟨by simp, fun i _ hn => by simp only [Array.getElem?_modify]; rw [if_neg (fun h => hn h.symm)]⟩, rfl, rfl, rfl⟩
section
variable {P : Program} {R : Array Oper} {Q : Exit → Act → World → Prop} {K : Act → World → Prop} {i n : Nat} {a : Act} {w : World} {m : List (Nat × Value)} {T : TypeId} {gd : Option (Nat × Bool)} {d : Nat} {X : Operand} {T1 : TypeId}
/-- A row of bytes is converted to its own type: it is marked behind its end. -/
theorem s_convB {g l c e : Nat} {cs : Array Value} {T0 : TypeId} (hp : pj R i = some (some d, .convert T1 T1 X, T, gd)) (hE : En n a m) (hw : Wn R m gd true) (hd : Nat.blt d n = true) (hT : P.underlying T1 = some (.slice e)) (he : P.underlying e = some (.int .u8)) (hx : ev m X = some (.slice (some ⟨g, 0, none⟩) l c)) (hb : w.heap[g]? = some (.cells cs T0 (0, 0)))
  (h : ∀ w', w'.heap[g]? = some (.cells cs T0 (cs.size, cs.size + 1)) → Kp w w' (fun k => k = g) → ∀ a, En n a ((d, .slice (some ⟨g, 0, none⟩) l c) :: m) → K a w') : wpOp P R Q i K a w :=
 s_step hp hE hw hd (fun o e1 e2 => ⟨_, w.freeze ⟨g, cs.size, none⟩ 1, by
  have hsh : w.shape? g = some (T0, cs.size) := by unfold World.shape?; rw [hb]
  unfold execOp; rw [e1]
  simp [hE.ev hx, convert, run_underlying hT, run_underlying he, markStringish, hsh], h _ (by
   unfold World.freeze
   rw [if_neg (by decide)]
   simp only [Array.getElem?_modify, if_pos, hb]
   rfl) (kp_freeze w g _)⟩)
end
/-- What is wrong with a packet that begins. -/
def begE (nd pf to9 ins rk num : Int) (n : Nat) : Int := if (rightV nd pf && nodeB to9) = true then pktE 0 0 64 ins rk num n else 1
theorem R6_0_l : List.range (regOf Try.f6 0).size = [0, 1, 2] := by kernel_rfl
theorem R6_1_l : List.range (regOf Try.f6 1).size = [0, 1, 2] := by kernel_rfl
theorem R6_2_l : List.range (regOf Try.f6 2).size = [0, 1, 2, 3, 4, 5, 6] := by kernel_rfl
theorem R6_3_l : List.range (regOf Try.f6 3).size = [0, 1, 2] := by kernel_rfl
theorem R6_4_l : List.range (regOf Try.f6 4).size = [0, 1, 2, 3, 4, 5, 6, 7, 8] := by kernel_rfl
theorem R6_5_l : List.range (regOf Try.f6 5).size = [0, 1, 2, 3, 4, 5, 6, 7] := by kernel_rfl
theorem R6_6_l : List.range (regOf Try.f6 6).size = [0, 1, 2, 3, 4, 5, 6, 7, 8, 9] := by kernel_rfl
theorem R6_7_l : List.range (regOf Try.f6 7).size = [0, 1, 2] := by kernel_rfl
theorem R6_8_l : List.range (regOf Try.f6 8).size = [0, 1] := by kernel_rfl
theorem R6_9_l : List.range (regOf Try.f6 9).size = [0, 1, 2, 3] := by kernel_rfl
theorem R6_10_l : List.range (regOf Try.f6 10).size = [0, 1, 2] := by kernel_rfl
theorem body6 : Try.f6.body = some (.seq (.region 0 (regOf Try.f6 0) false) (.seq (.seq (.region 1 (regOf Try.f6 1) false) (.seq (.region 2 (regOf Try.f6 2) false) (.cond (Operand.tmp 29) (.seq (.region 3 (regOf Try.f6 3) false) (.ret)) (.skip)))) (.seq (.region 4 (regOf Try.f6 4) false) (.seq (.region 5 (regOf Try.f6 5) false) (.seq (.region 6 (regOf Try.f6 6) false) (.seq (.seq (.region 7 (regOf Try.f6 7) false) (.seq (.region 8 (regOf Try.f6 8) false) (.cond (Operand.tmp 53) (.seq (.region 9 (regOf Try.f6 9) false) (.ret)) (.skip)))) (.seq (.region 10 (regOf Try.f6 10) false) (.ret)))))))) := by kernel_rfl
theorem P6_0 : (List.range (regOf Try.f6 0).size).map (pj (regOf Try.f6 0)) = [zz 6 (.box 41 (.tmp 0)) 0, zz 12 (.alloc 35) 0, zz 13 (.assign (.const (.int .i64 0))) 36] := by kernel_rfl
theorem tZ35 : (Try.prog.info? 35).bind (·.zero) = some (Value.agg (([Value.int .i64 0, Value.int .i64 0, Value.int .i64 0, Value.int .i64 0, Value.int .i64 0] ++ b16 (fun _ => 0) ++ b16 (fun _ => 0) ++ [Value.bool false, Value.int .i64 0, Value.int .i64 0, Value.int .i64 0, Value.int .i64 0, Value.int .i64 0, Value.int .i64 0, Value.int .i64 0, Value.int .i64 0, Value.int .i64 0, Value.bool false, Value.bool false] ++ b16 (fun _ => 0) ++ [Value.slice none 0 0, Value.bool false, Value.bool false, Value.bool false, Value.int .i64 0, Value.int .i64 0, Value.int .i64 0, Value.slice none 0 0])).toArray) := by kernel_rfl
theorem P6_1 : (List.range (regOf Try.f6 1).size).map (pj (regOf Try.f6 1)) = [zz 21 (.load 41 (.tmp 6)) 41, zz 22 (.call { callee := .value (.func 29), args := #[.tmp 21], argTypes := #[41] }) 36, zz 14 (.assign (.tmp 22)) 36] := by kernel_rfl
theorem tA41 : (Try.prog.underlying 41).map aggD = some true := by kernel_rfl
theorem tS41 : (Try.prog.info? 41).map (·.size) = some 4 := by kernel_rfl
theorem cl29 : callable Try.f29 = true := by kernel_rfl
theorem P6_2 : (List.range (regOf Try.f6 2).size).map (pj (regOf Try.f6 2)) = [zz 23 (.move (.tmp 14)) 36, zz 24 (.binOp .neq 36 (.tmp 23) (.const (.int .i64 0)) 36) 4, zz 25 (.move (.tmp 24)) 4, some (some 26, .move (.tmp 1), 3, some (2, false)), some (some 27, .call { callee := .value (.func 30), args := #[.tmp 26], argTypes := #[3] }, 4, some (2, false)), some (some 28, .unOp .not 4 (.tmp 27), 4, some (2, false)), zz 29 (.pick (.tmp 25) (.const (.bool true)) (.tmp 28)) 4] := by kernel_rfl
theorem g6_2_2 : dstOf (regOf Try.f6 2) 2 = some 25 := by kernel_rfl
theorem cl30 : callable Try.f30 = true := by kernel_rfl
theorem P6_4 : (List.range (regOf Try.f6 4).size).map (pj (regOf Try.f6 4)) = [zz 32 (.fieldAddr 41 (.tmp 6) 0) 0, zz 33 (.load 3 (.tmp 32)) 3, zz 34 (.call { callee := .value (.func 31), args := #[.tmp 33], argTypes := #[3] }) 89, zz 31 (.move (.tmp 34)) 89, zz 35 (.extract (.tmp 31) 0) 25, zz 36 (.extract (.tmp 31) 1) 36, zz 15 (.alloc 25) 0, some (none, .store 25 (.tmp 15) (.tmp 35), 0, none), zz 16 (.assign (.tmp 36)) 36] := by kernel_rfl
theorem tS3 : (Try.prog.info? 3).map (·.size) = some 1 := by kernel_rfl
theorem tA3 : (Try.prog.underlying 3).map aggD = some false := by kernel_rfl
theorem cl31 : callable Try.f31 = true := by kernel_rfl
theorem tZ25 : (Try.prog.info? 25).bind (·.zero) = some (Value.agg (b16 (fun _ => 0)).toArray) := by kernel_rfl
theorem tS25 : (Try.prog.info? 25).map (·.size) = some 16 := by kernel_rfl
theorem P6_5 : (List.range (regOf Try.f6 5).size).map (pj (regOf Try.f6 5)) = [zz 38 (.move (.tmp 1)) 3, zz 39 (.call { callee := .value (.func 31), args := #[.tmp 38], argTypes := #[3] }) 89, zz 37 (.move (.tmp 39)) 89, zz 40 (.extract (.tmp 37) 0) 25, zz 41 (.extract (.tmp 37) 1) 36, zz 17 (.alloc 25) 0, some (none, .store 25 (.tmp 17) (.tmp 40), 0, none), zz 18 (.assign (.tmp 41)) 36] := by kernel_rfl
theorem P6_6 : (List.range (regOf Try.f6 6).size).map (pj (regOf Try.f6 6)) = [zz 42 (.load 25 (.tmp 15)) 25, zz 43 (.load 25 (.tmp 17)) 25, zz 44 (.move (.tmp 2)) 3, zz 45 (.move (.tmp 3)) 3, zz 46 (.build 32 #[(3, .tmp 44), (4, .tmp 45)]) 32, zz 47 (.move (.tmp 4)) 3, zz 48 (.move (.tmp 5)) 86, zz 49 (.call { callee := .value (.func 32), args := #[.tmp 42, .tmp 43, .tmp 46, .tmp 47, .tmp 48], argTypes := #[25, 25, 32, 3, 86] }) 35, zz 19 (.alloc 35) 0, some (none, .store 35 (.tmp 19) (.tmp 49), 0, none)] := by kernel_rfl
theorem tA25 : (Try.prog.underlying 25).map aggD = some true := by kernel_rfl
theorem cl32 : callable Try.f32 = true := by kernel_rfl
theorem tS35 : (Try.prog.info? 35).map (·.size) = some 73 := by kernel_rfl
theorem P6_7 : (List.range (regOf Try.f6 7).size).map (pj (regOf Try.f6 7)) = [zz 50 (.load 35 (.tmp 19)) 35, zz 51 (.call { callee := .value (.func 33), args := #[.tmp 50], argTypes := #[35] }) 36, zz 20 (.assign (.tmp 51)) 36] := by kernel_rfl
theorem tA35 : (Try.prog.underlying 35).map aggD = some true := by kernel_rfl
theorem cl33 : callable Try.f33 = true := by kernel_rfl
theorem P6_8 : (List.range (regOf Try.f6 8).size).map (pj (regOf Try.f6 8)) = [zz 52 (.move (.tmp 20)) 36, zz 53 (.binOp .neq 36 (.tmp 52) (.const (.int .i64 0)) 36) 4] := by kernel_rfl
theorem P6_10 : (List.range (regOf Try.f6 10).size).map (pj (regOf Try.f6 10)) = [zz 56 (.load 35 (.tmp 19)) 35, some (none, .store 35 (.tmp 12) (.tmp 56), 0, none), zz 13 (.assign (.const (.int .i64 0))) 36] := by kernel_rfl
theorem P6_9 : (List.range (regOf Try.f6 9).size).map (pj (regOf Try.f6 9)) = [zz 54 (.build 35 #[]) 35, zz 55 (.move (.tmp 20)) 36, some (none, .store 35 (.tmp 12) (.tmp 54), 0, none), zz 13 (.assign (.tmp 55)) 36] := by kernel_rfl
theorem P6_3 : (List.range (regOf Try.f6 3).size).map (pj (regOf Try.f6 3)) = [zz 30 (.build 35 #[]) 35, some (none, .store 35 (.tmp 12) (.tmp 30), 0, none), zz 13 (.assign (.const (.int .i64 1))) 36] := by kernel_rfl
set_option maxHeartbeats 4000000 in
theorem begin_k (nd pf : Int) (rt : Bool) (RV : Value) (to9 ins rk num : Int) (A : Option Addr) (nl cl9 : Nat) (ls : List (List Int)) {R : Ending → World → Prop} (hnl : nl = ls.length) (w : World) (F_L : ∀ W', Kp w W' (fun _ => False) → Kd.C (Kd.slice 5 (Kd.int .u8)) W' A ls.length ls) (hlc : ls.length ≤ cl9) (hmf : ls.flatten.length ≤ 900000) (hmn : ls.length ≤ 1000000) (h0 : ∀ er9, begE nd pf to9 ins rk num ls.flatten.length = er9 → ¬ er9 = 0 → ∀ w', Kp w w' (fun _ => False) → R (.returned (.tuple #[Value.agg (([Value.int .i64 0, Value.int .i64 0, Value.int .i64 0, Value.int .i64 0, Value.int .i64 0] ++ b16 (fun _ => 0) ++ b16 (fun _ => 0) ++ [Value.bool false, Value.int .i64 0, Value.int .i64 0, Value.int .i64 0, Value.int .i64 0, Value.int .i64 0, Value.int .i64 0, Value.int .i64 0, Value.int .i64 0, Value.int .i64 0, Value.bool false, Value.bool false] ++ b16 (fun _ => 0) ++ [Value.slice none 0 0, Value.bool false, Value.bool false, Value.bool false, Value.int .i64 0, Value.int .i64 0, Value.int .i64 0, Value.slice none 0 0])).toArray, .int .i64 er9])) w') (h1 : begE nd pf to9 ins rk num ls.flatten.length = 0 → ∀ T c w', w'.ownsRow w.heap.size 5 1 (.slice T ls.flatten.length c) ls.flatten.length (encs (Value.int .u8) ls.flatten) → Kp w w' (fun _ => False) → R (.returned (.tuple #[Value.agg (PA 0 0 0 0 64 (linkF nd) (linkF to9) true zeroM false false false ins rk num T ls.flatten.length c).toArray, .int .i64 0])) w') : Calls Try.prog 6 #[Value.agg #[Value.int .i64 nd, Value.int .i64 pf, Value.bool rt, RV], .int .i64 to9, .int .i64 ins, .int .i64 rk, .int .i64 num, .slice A nl cl9] w R := by
 have K_0 := Kp.refl w (fun _ => False)
 refine enter (args := [Value.agg #[Value.int .i64 nd, Value.int .i64 pf, Value.bool rt, RV], Value.int .i64 to9, Value.int .i64 ins, Value.int .i64 rk, Value.int .i64 num, Value.slice A nl cl9]) (n := 57) Try.func6 body6 rfl rfl rfl ?_
 intro a hE
 refine c_reg R6_0_l ?_
 refine p_cons (s_box (pl P6_0 0) hE wn_none rfl rfl ?_)
 clear hE a; intro g1 w2 z3 B_g1 hk a hE
 replace B_g1 : w2.heap[g1]? = some (.cells #[Value.int .i64 nd, Value.int .i64 pf, Value.bool rt, RV] 41 (0, 0)) := B_g1
 have z_0_g1 := Nat.le_trans K_0.kept.1 z3
 replace K_0 := K_0.then_ hk (fun _ h => h.elim)
 clear hk
 refine p_cons (s_alloc (pl P6_0 1) hE wn_none rfl tZ35 ?_)
 clear hE a; intro g4 w5 z6 B_g4 hk a hE
 replace B_g4 : w5.heap[g4]? = some (.cells (([Value.int .i64 0, Value.int .i64 0, Value.int .i64 0, Value.int .i64 0, Value.int .i64 0] ++ b16 (fun _ => 0) ++ b16 (fun _ => 0) ++ [Value.bool false, Value.int .i64 0, Value.int .i64 0, Value.int .i64 0, Value.int .i64 0, Value.int .i64 0, Value.int .i64 0, Value.int .i64 0, Value.int .i64 0, Value.int .i64 0, Value.bool false, Value.bool false] ++ b16 (fun _ => 0) ++ [Value.slice none 0 0, Value.bool false, Value.bool false, Value.bool false, Value.int .i64 0, Value.int .i64 0, Value.int .i64 0, Value.slice none 0 0])).toArray 35 (0, 0)) := B_g4
 have n_g1_g4 : g1 ≠ g4 := ne_new B_g1 z6
 have z_0_g4 := Nat.le_trans K_0.kept.1 z6
 replace B_g1 := kp_blk B_g1 hk (fun h => h)
 replace K_0 := K_0.then_ hk (fun _ h => h.elim)
 clear hk
 refine q0 (pl P6_0 2) hE (st_assign rfl) ?_; clear hE a; intro a hE
 refine p_nil (x_norm (wp_seq ?_))
 rcases Decidable.em (rightV nd pf = true) with hRV | hRV
 ·
  rcases Decidable.em (nodeB to9 = true) with hNB | hNB
  ·
   rcases Decidable.em (pktE 0 0 64 ins rk num ls.flatten.length = 0) with hPE | hPE
   ·
    have hto : 0 ≤ to9 ∧ to9 < 64 := by simpa [nodeB] using hNB
    refine c_reg R6_1_l ?_
    refine q0 (pl P6_1 0) hE (st_loadN (off := 0) (k := 4) (vs := [Value.int .i64 nd, Value.int .i64 pf, Value.bool rt, RV]) tA41 tS41 rfl B_g1 rfl rfl) ?_; clear hE a; intro a hE
    refine p_cons (s_call (xs := [Operand.tmp 21]) (args := [Value.agg #[Value.int .i64 nd, Value.int .i64 pf, Value.bool rt, RV]]) (pl P6_1 1) hE wn_none rfl rfl Try.func29 cl29 (rcheck nd pf rt RV _) ?_)
    rintro e w7 ⟨he, hk⟩
    obtain rfl := he.trans (congrArg (fun b => Ending.returned (Value.int .i64 (bif b then 0 else 1))) hRV)
    replace B_g1 := kp_blk B_g1 hk (fun h => h)
    replace B_g4 := kp_blk B_g4 hk (fun h => h)
    replace K_0 := K_0.then_ hk (fun _ h => h.elim)
    refine ⟨_, rfl, ?_⟩; clear hE a; intro a hE
    refine q0 (pl P6_1 2) hE (st_assign rfl) ?_; clear hE a; intro a hE
    refine p_nil (x_norm (c_reg R6_2_l ?_))
    refine qn hE (rc (pl P6_2 0) (st_move rfl) (rc (pl P6_2 1) (st_neq (b := false) rfl rfl (by decide)) (rc (pl P6_2 2) (st_move rfl) (rg (pl P6_2 3) (wn_some g6_2_2 rfl rfl) (st_move rfl) rn)))) ?_; clear hE a; intro a hE
    refine p_cons (s_call (xs := [Operand.tmp 26]) (args := [Value.int .i64 to9]) (pl P6_2 4) hE (wn_some g6_2_2 rfl rfl) rfl rfl Try.func30 cl30 (knode to9 _) ?_)
    rintro e w8 ⟨he, hk⟩
    obtain rfl := he.trans (congrArg (fun b => Ending.returned (Value.bool b)) hNB)
    replace B_g1 := kp_blk B_g1 hk (fun h => h)
    replace B_g4 := kp_blk B_g4 hk (fun h => h)
    replace K_0 := K_0.then_ hk (fun _ h => h.elim)
    refine ⟨_, rfl, ?_⟩; clear hE a; intro a hE
    refine qn hE (rg (pl P6_2 5) (wn_some g6_2_2 rfl rfl) (st_not rfl rfl) (rc (pl P6_2 6) (st_pick rfl rfl) rn)) ?_; clear hE a; intro a hE
    refine p_nil (x_norm ?_)
    refine c_cond (t := false) hE rfl ?_
    refine wp_skip (x_norm (c_reg R6_4_l ?_))
    refine qn hE (rc (pl P6_4 0) (st_fieldAddr Try.underlying41 rfl tS3 rfl rfl) (rc (pl P6_4 1) (st_load1 tA3 rfl ((blk_cell B_g1 0).trans rfl)) rn)) ?_; clear hE a; intro a hE
    refine p_cons (s_call (xs := [Operand.tmp 33]) (args := [Value.int .i64 nd]) (pl P6_4 2) hE wn_none rfl rfl Try.func31 cl31 (link_any nd (right_b hRV).1.1 (right_b hRV).1.2 _) ?_)
    rintro e w9 ⟨rfl, hk⟩
    replace B_g1 := kp_blk B_g1 hk (fun h => h)
    replace B_g4 := kp_blk B_g4 hk (fun h => h)
    replace K_0 := K_0.then_ hk (fun _ h => h.elim)
    refine ⟨_, rfl, ?_⟩; clear hE a; intro a hE
    refine qn hE (rc (pl P6_4 3) (st_move rfl) (rc (pl P6_4 4) (st_extract rfl rfl) (rc (pl P6_4 5) (st_extract rfl rfl) rn))) ?_; clear hE a; intro a hE
    refine p_cons (s_alloc (pl P6_4 6) hE wn_none rfl tZ25 ?_)
    clear hE a; intro g10 w11 z12 B_g10 hk a hE
    replace B_g10 : w11.heap[g10]? = some (.cells (b16 (fun _ => 0)).toArray 25 (0, 0)) := B_g10
    have n_g1_g10 : g1 ≠ g10 := ne_new B_g1 z12
    have n_g4_g10 : g4 ≠ g10 := ne_new B_g4 z12
    have z_0_g10 := Nat.le_trans K_0.kept.1 z12
    replace B_g1 := kp_blk B_g1 hk (fun h => h)
    replace B_g4 := kp_blk B_g4 hk (fun h => h)
    replace K_0 := K_0.then_ hk (fun _ h => h.elim)
    clear hk
    refine p_cons (s_store (off := 0) (k := 16) (cs' := (b16 (linkF nd)).toArray) (pl P6_4 7) hE wn_none tS25 rfl rfl rfl rfl B_g10 (Nat.le_of_ble_eq_true rfl) rfl ?_)
    intro w13 B_g10' hk
    replace B_g1 := kp_blk B_g1 hk n_g1_g10
    replace B_g4 := kp_blk B_g4 hk n_g4_g10
    replace K_0 := K_0.then_ hk (fun k h => by rw [show k = g10 from h]; exact Or.inr z_0_g10)
    replace B_g10 := B_g10'
    clear hk
    refine q0 (pl P6_4 8) hE (st_assign rfl) ?_; clear hE a; intro a hE
    refine p_nil (x_norm (c_reg R6_5_l ?_))
    refine q0 (pl P6_5 0) hE (st_move rfl) ?_; clear hE a; intro a hE
    refine p_cons (s_call (xs := [Operand.tmp 38]) (args := [Value.int .i64 to9]) (pl P6_5 1) hE wn_none rfl rfl Try.func31 cl31 (link_any to9 hto.1 hto.2 _) ?_)
    rintro e w14 ⟨rfl, hk⟩
    replace B_g1 := kp_blk B_g1 hk (fun h => h)
    replace B_g4 := kp_blk B_g4 hk (fun h => h)
    replace B_g10 := kp_blk B_g10 hk (fun h => h)
    replace K_0 := K_0.then_ hk (fun _ h => h.elim)
    refine ⟨_, rfl, ?_⟩; clear hE a; intro a hE
    refine qn hE (rc (pl P6_5 2) (st_move rfl) (rc (pl P6_5 3) (st_extract rfl rfl) (rc (pl P6_5 4) (st_extract rfl rfl) rn))) ?_; clear hE a; intro a hE
    refine p_cons (s_alloc (pl P6_5 5) hE wn_none rfl tZ25 ?_)
    clear hE a; intro g15 w16 z17 B_g15 hk a hE
    replace B_g15 : w16.heap[g15]? = some (.cells (b16 (fun _ => 0)).toArray 25 (0, 0)) := B_g15
    have n_g1_g15 : g1 ≠ g15 := ne_new B_g1 z17
    have n_g4_g15 : g4 ≠ g15 := ne_new B_g4 z17
    have n_g10_g15 : g10 ≠ g15 := ne_new B_g10 z17
    have z_0_g15 := Nat.le_trans K_0.kept.1 z17
    replace B_g1 := kp_blk B_g1 hk (fun h => h)
    replace B_g4 := kp_blk B_g4 hk (fun h => h)
    replace B_g10 := kp_blk B_g10 hk (fun h => h)
    replace K_0 := K_0.then_ hk (fun _ h => h.elim)
    clear hk
    refine p_cons (s_store (off := 0) (k := 16) (cs' := (b16 (linkF to9)).toArray) (pl P6_5 6) hE wn_none tS25 rfl rfl rfl rfl B_g15 (Nat.le_of_ble_eq_true rfl) rfl ?_)
    intro w18 B_g15' hk
    replace B_g1 := kp_blk B_g1 hk n_g1_g15
    replace B_g4 := kp_blk B_g4 hk n_g4_g15
    replace B_g10 := kp_blk B_g10 hk n_g10_g15
    replace K_0 := K_0.then_ hk (fun k h => by rw [show k = g15 from h]; exact Or.inr z_0_g15)
    replace B_g15 := B_g15'
    clear hk
    refine q0 (pl P6_5 7) hE (st_assign rfl) ?_; clear hE a; intro a hE
    refine p_nil (x_norm (c_reg R6_6_l ?_))
    refine qn hE (rc (pl P6_6 0) (st_loadN (off := 0) (k := 16) (vs := b16 (linkF nd)) tA25 tS25 rfl B_g10 rfl rfl) (rc (pl P6_6 1) (st_loadN (off := 0) (k := 16) (vs := b16 (linkF to9)) tA25 tS25 rfl B_g15 rfl rfl) (rc (pl P6_6 2) (st_move rfl) (rc (pl P6_6 3) (st_move rfl) (rc (pl P6_6 4) (st_build (xs := [(3, Operand.tmp 44), (4, Operand.tmp 45)]) (vs := [(3, Value.int .i64 ins), (4, Value.int .i64 rk)]) (cs := #[Value.bool false, Value.bool false, Value.bool false, Value.int .i64 ins, Value.int .i64 rk]) rfl (by kernel_rfl)) (rc (pl P6_6 5) (st_move rfl) (rc (pl P6_6 6) (st_move rfl) rn))))))) ?_; clear hE a; intro a hE
    have hnb_g1 := blk_lt B_g1
    have hnb_g4 := blk_lt B_g4
    have hnb_g10 := blk_lt B_g10
    have hnb_g15 := blk_lt B_g15
    have hnz_0 := K_0.kept.1
    refine p_cons (s_call (xs := [Operand.tmp 42, Operand.tmp 43, Operand.tmp 46, Operand.tmp 47, Operand.tmp 48]) (args := [Value.agg (b16 (linkF nd)).toArray, Value.agg (b16 (linkF to9)).toArray, Value.agg #[Value.bool false, Value.bool false, Value.bool false, Value.int .i64 ins, Value.int .i64 rk], Value.int .i64 num, Value.slice A nl cl9]) (pl P6_6 7) hE wn_none rfl rfl Try.func32 cl32 (send_any (linkF nd) (linkF to9) false false false ins rk num A nl cl9 ls hnl _ (fun W' hk => F_L W' (K_0.then_ hk (fun _ h => h.elim))) hlc (by omega) hmn) ?_)
    rintro e w22 ⟨A20, c21, rfl, O_q19, hk⟩
    replace B_g1 := kp_blk B_g1 hk (fun h => h)
    replace B_g4 := kp_blk B_g4 hk (fun h => h)
    replace B_g10 := kp_blk B_g10 hk (fun h => h)
    replace B_g15 := kp_blk B_g15 hk (fun h => h)
    replace K_0 := K_0.then_ hk (fun _ h => h.elim)
    have Nb_q19_g1 : ¬ OB A20 g1 := fun h => by have := (own_ob O_q19 h).1; have := hnb_g1; omega
    have Nb_q19_g4 : ¬ OB A20 g4 := fun h => by have := (own_ob O_q19 h).1; have := hnb_g4; omega
    have Nb_q19_g10 : ¬ OB A20 g10 := fun h => by have := (own_ob O_q19 h).1; have := hnb_g10; omega
    have Nb_q19_g15 : ¬ OB A20 g15 := fun h => by have := (own_ob O_q19 h).1; have := hnb_g15; omega
    have Z_0_q19 : ∀ k, OB A20 k → (fun _ => False) k ∨ w.heap.size ≤ k := fun k h => .inr (by have := (own_ob O_q19 h).1; have := hnz_0; omega)
    replace O_q19 := own_lower O_q19 hnz_0
    refine ⟨_, rfl, ?_⟩; clear hE a; intro a hE
    refine p_cons (s_alloc (pl P6_6 8) hE wn_none rfl tZ35 ?_)
    clear hE a; intro g23 w24 z25 B_g23 hk a hE
    replace B_g23 : w24.heap[g23]? = some (.cells (([Value.int .i64 0, Value.int .i64 0, Value.int .i64 0, Value.int .i64 0, Value.int .i64 0] ++ b16 (fun _ => 0) ++ b16 (fun _ => 0) ++ [Value.bool false, Value.int .i64 0, Value.int .i64 0, Value.int .i64 0, Value.int .i64 0, Value.int .i64 0, Value.int .i64 0, Value.int .i64 0, Value.int .i64 0, Value.int .i64 0, Value.bool false, Value.bool false] ++ b16 (fun _ => 0) ++ [Value.slice none 0 0, Value.bool false, Value.bool false, Value.bool false, Value.int .i64 0, Value.int .i64 0, Value.int .i64 0, Value.slice none 0 0])).toArray 35 (0, 0)) := B_g23
    have n_g1_g23 : g1 ≠ g23 := ne_new B_g1 z25
    have n_g4_g23 : g4 ≠ g23 := ne_new B_g4 z25
    have n_g10_g23 : g10 ≠ g23 := ne_new B_g10 z25
    have n_g15_g23 : g15 ≠ g23 := ne_new B_g15 z25
    have z_0_g23 := Nat.le_trans K_0.kept.1 z25
    have Nb_q19_g23 : ¬ OB A20 g23 := fun h => by have := (own_ob O_q19 h).2; omega
    replace B_g1 := kp_blk B_g1 hk (fun h => h)
    replace B_g4 := kp_blk B_g4 hk (fun h => h)
    replace B_g10 := kp_blk B_g10 hk (fun h => h)
    replace B_g15 := kp_blk B_g15 hk (fun h => h)
    replace O_q19 := own_keep O_q19 hk (fun _ _ h => h)
    replace K_0 := K_0.then_ hk (fun _ h => h.elim)
    clear hk
    refine p_cons (s_store (off := 0) (k := 73) (cs' := (PA 0 0 0 0 64 (linkF nd) (linkF to9) true zeroM false false false ins rk num A20 ls.flatten.length c21).toArray) (pl P6_6 9) hE wn_none tS35 rfl rfl rfl (by exact ones_mv (a := ([Value.int .i64 0, Value.int .i64 0, Value.int .i64 0, Value.int .i64 0, Value.int .i64 64] ++ b16 (linkF nd) ++ b16 (linkF to9) ++ [Value.bool true])) (b := [Value.bool false, Value.bool false, Value.bool false, Value.int .i64 ins, Value.int .i64 rk, Value.int .i64 num, Value.slice A20 ls.flatten.length c21]) hzeroM rfl rfl) B_g23 (Nat.le_of_ble_eq_true rfl) rfl ?_)
    intro w26 B_g23' hk
    replace B_g1 := kp_blk B_g1 hk n_g1_g23
    replace B_g4 := kp_blk B_g4 hk n_g4_g23
    replace B_g10 := kp_blk B_g10 hk n_g10_g23
    replace B_g15 := kp_blk B_g15 hk n_g15_g23
    replace O_q19 := own_keep O_q19 hk (fun k hk2 h2 => Nb_q19_g23 (by rw [show k = g23 from h2] at hk2; exact hk2))
    replace K_0 := K_0.then_ hk (fun k h => by rw [show k = g23 from h]; exact Or.inr z_0_g23)
    replace B_g23 := B_g23'
    clear hk
    refine p_nil (x_norm (wp_seq (c_reg R6_7_l ?_)))
    refine q0 (pl P6_7 0) hE (st_loadN (off := 0) (k := 73) (vs := (PA 0 0 0 0 64 (linkF nd) (linkF to9) true zeroM false false false ins rk num A20 ls.flatten.length c21)) tA35 tS35 rfl B_g23 rfl rfl) ?_; clear hE a; intro a hE
    refine p_cons (s_call (xs := [Operand.tmp 50]) (args := [Value.agg (PA 0 0 0 0 64 (linkF nd) (linkF to9) true zeroM false false false ins rk num A20 ls.flatten.length c21).toArray]) (pl P6_7 1) hE wn_none rfl rfl Try.func33 cl33 (dchk_any 0 0 0 0 64 (linkF nd) (linkF to9) zeroM false false false ins rk num A20 c21 ls.flatten _ (fun W' hk => own_told (own_keep O_q19 hk (fun _ _ h => h))) (by omega)) ?_)
    rintro e w27 ⟨he, hk⟩
    obtain rfl := he.trans (congrArg (fun x => Ending.returned (Value.int .i64 x)) hPE)
    replace B_g1 := kp_blk B_g1 hk (fun h => h)
    replace B_g4 := kp_blk B_g4 hk (fun h => h)
    replace B_g10 := kp_blk B_g10 hk (fun h => h)
    replace B_g15 := kp_blk B_g15 hk (fun h => h)
    replace B_g23 := kp_blk B_g23 hk (fun h => h)
    replace O_q19 := own_keep O_q19 hk (fun _ _ h => h)
    replace K_0 := K_0.then_ hk (fun _ h => h.elim)
    refine ⟨_, rfl, ?_⟩; clear hE a; intro a hE
    refine q0 (pl P6_7 2) hE (st_assign rfl) ?_; clear hE a; intro a hE
    refine p_nil (x_norm (c_reg R6_8_l ?_))
    refine qn hE (rc (pl P6_8 0) (st_move rfl) (rc (pl P6_8 1) (st_neq (b := false) rfl rfl (by decide)) rn)) ?_; clear hE a; intro a hE
    refine p_nil (x_norm ?_)
    refine c_cond (t := false) hE rfl ?_
    refine wp_skip (x_norm (c_reg R6_10_l ?_))
    refine q0 (pl P6_10 0) hE (st_loadN (off := 0) (k := 73) (vs := (PA 0 0 0 0 64 (linkF nd) (linkF to9) true zeroM false false false ins rk num A20 ls.flatten.length c21)) tA35 tS35 rfl B_g23 rfl rfl) ?_; clear hE a; intro a hE
    refine p_cons (s_store (off := 0) (k := 73) (cs' := (PA 0 0 0 0 64 (linkF nd) (linkF to9) true zeroM false false false ins rk num A20 ls.flatten.length c21).toArray) (pl P6_10 1) hE wn_none tS35 rfl rfl rfl (by exact ones_mv (a := ([Value.int .i64 0, Value.int .i64 0, Value.int .i64 0, Value.int .i64 0, Value.int .i64 64] ++ b16 (linkF nd) ++ b16 (linkF to9) ++ [Value.bool true])) (b := [Value.bool false, Value.bool false, Value.bool false, Value.int .i64 ins, Value.int .i64 rk, Value.int .i64 num, Value.slice A20 ls.flatten.length c21]) hzeroM rfl rfl) B_g4 (Nat.le_of_ble_eq_true rfl) rfl ?_)
    intro w28 B_g4' hk
    replace B_g1 := kp_blk B_g1 hk n_g1_g4
    replace B_g10 := kp_blk B_g10 hk (Ne.symm n_g4_g10)
    replace B_g15 := kp_blk B_g15 hk (Ne.symm n_g4_g15)
    replace B_g23 := kp_blk B_g23 hk (Ne.symm n_g4_g23)
    replace O_q19 := own_keep O_q19 hk (fun k hk2 h2 => Nb_q19_g4 (by rw [show k = g4 from h2] at hk2; exact hk2))
    replace K_0 := K_0.then_ hk (fun k h => by rw [show k = g4 from h]; exact Or.inr z_0_g4)
    replace B_g4 := B_g4'
    clear hk
    refine q0 (pl P6_10 2) hE (st_assign rfl) ?_; clear hE a; intro a hE
    refine p_nil (x_norm (wp_ret ?_))
    refine ret_list (rs := [.cell 12 35, .tmp 13]) (vs := [Value.agg (PA 0 0 0 0 64 (linkF nd) (linkF to9) true zeroM false false false ins rk num A20 ls.flatten.length c21).toArray, Value.int .i64 0]) rfl hE (.cellN (us := (PA 0 0 0 0 64 (linkF nd) (linkF to9) true zeroM false false false ins rk num A20 ls.flatten.length c21)) tA35 tS35 rfl B_g4 rfl (.tmp rfl .nil)) rfl ?_
    exact h1 (by unfold begE; rw [hRV, hNB]; exact hPE) _ _ _ O_q19 K_0
   ·
    have hto : 0 ≤ to9 ∧ to9 < 64 := by simpa [nodeB] using hNB
    refine c_reg R6_1_l ?_
    refine q0 (pl P6_1 0) hE (st_loadN (off := 0) (k := 4) (vs := [Value.int .i64 nd, Value.int .i64 pf, Value.bool rt, RV]) tA41 tS41 rfl B_g1 rfl rfl) ?_; clear hE a; intro a hE
    refine p_cons (s_call (xs := [Operand.tmp 21]) (args := [Value.agg #[Value.int .i64 nd, Value.int .i64 pf, Value.bool rt, RV]]) (pl P6_1 1) hE wn_none rfl rfl Try.func29 cl29 (rcheck nd pf rt RV _) ?_)
    rintro e w29 ⟨he, hk⟩
    obtain rfl := he.trans (congrArg (fun b => Ending.returned (Value.int .i64 (bif b then 0 else 1))) hRV)
    replace B_g1 := kp_blk B_g1 hk (fun h => h)
    replace B_g4 := kp_blk B_g4 hk (fun h => h)
    replace K_0 := K_0.then_ hk (fun _ h => h.elim)
    refine ⟨_, rfl, ?_⟩; clear hE a; intro a hE
    refine q0 (pl P6_1 2) hE (st_assign rfl) ?_; clear hE a; intro a hE
    refine p_nil (x_norm (c_reg R6_2_l ?_))
    refine qn hE (rc (pl P6_2 0) (st_move rfl) (rc (pl P6_2 1) (st_neq (b := false) rfl rfl (by decide)) (rc (pl P6_2 2) (st_move rfl) (rg (pl P6_2 3) (wn_some g6_2_2 rfl rfl) (st_move rfl) rn)))) ?_; clear hE a; intro a hE
    refine p_cons (s_call (xs := [Operand.tmp 26]) (args := [Value.int .i64 to9]) (pl P6_2 4) hE (wn_some g6_2_2 rfl rfl) rfl rfl Try.func30 cl30 (knode to9 _) ?_)
    rintro e w30 ⟨he, hk⟩
    obtain rfl := he.trans (congrArg (fun b => Ending.returned (Value.bool b)) hNB)
    replace B_g1 := kp_blk B_g1 hk (fun h => h)
    replace B_g4 := kp_blk B_g4 hk (fun h => h)
    replace K_0 := K_0.then_ hk (fun _ h => h.elim)
    refine ⟨_, rfl, ?_⟩; clear hE a; intro a hE
    refine qn hE (rg (pl P6_2 5) (wn_some g6_2_2 rfl rfl) (st_not rfl rfl) (rc (pl P6_2 6) (st_pick rfl rfl) rn)) ?_; clear hE a; intro a hE
    refine p_nil (x_norm ?_)
    refine c_cond (t := false) hE rfl ?_
    refine wp_skip (x_norm (c_reg R6_4_l ?_))
    refine qn hE (rc (pl P6_4 0) (st_fieldAddr Try.underlying41 rfl tS3 rfl rfl) (rc (pl P6_4 1) (st_load1 tA3 rfl ((blk_cell B_g1 0).trans rfl)) rn)) ?_; clear hE a; intro a hE
    refine p_cons (s_call (xs := [Operand.tmp 33]) (args := [Value.int .i64 nd]) (pl P6_4 2) hE wn_none rfl rfl Try.func31 cl31 (link_any nd (right_b hRV).1.1 (right_b hRV).1.2 _) ?_)
    rintro e w31 ⟨rfl, hk⟩
    replace B_g1 := kp_blk B_g1 hk (fun h => h)
    replace B_g4 := kp_blk B_g4 hk (fun h => h)
    replace K_0 := K_0.then_ hk (fun _ h => h.elim)
    refine ⟨_, rfl, ?_⟩; clear hE a; intro a hE
    refine qn hE (rc (pl P6_4 3) (st_move rfl) (rc (pl P6_4 4) (st_extract rfl rfl) (rc (pl P6_4 5) (st_extract rfl rfl) rn))) ?_; clear hE a; intro a hE
    refine p_cons (s_alloc (pl P6_4 6) hE wn_none rfl tZ25 ?_)
    clear hE a; intro g32 w33 z34 B_g32 hk a hE
    replace B_g32 : w33.heap[g32]? = some (.cells (b16 (fun _ => 0)).toArray 25 (0, 0)) := B_g32
    have n_g1_g32 : g1 ≠ g32 := ne_new B_g1 z34
    have n_g4_g32 : g4 ≠ g32 := ne_new B_g4 z34
    have z_0_g32 := Nat.le_trans K_0.kept.1 z34
    replace B_g1 := kp_blk B_g1 hk (fun h => h)
    replace B_g4 := kp_blk B_g4 hk (fun h => h)
    replace K_0 := K_0.then_ hk (fun _ h => h.elim)
    clear hk
    refine p_cons (s_store (off := 0) (k := 16) (cs' := (b16 (linkF nd)).toArray) (pl P6_4 7) hE wn_none tS25 rfl rfl rfl rfl B_g32 (Nat.le_of_ble_eq_true rfl) rfl ?_)
    intro w35 B_g32' hk
    replace B_g1 := kp_blk B_g1 hk n_g1_g32
    replace B_g4 := kp_blk B_g4 hk n_g4_g32
    replace K_0 := K_0.then_ hk (fun k h => by rw [show k = g32 from h]; exact Or.inr z_0_g32)
    replace B_g32 := B_g32'
    clear hk
    refine q0 (pl P6_4 8) hE (st_assign rfl) ?_; clear hE a; intro a hE
    refine p_nil (x_norm (c_reg R6_5_l ?_))
    refine q0 (pl P6_5 0) hE (st_move rfl) ?_; clear hE a; intro a hE
    refine p_cons (s_call (xs := [Operand.tmp 38]) (args := [Value.int .i64 to9]) (pl P6_5 1) hE wn_none rfl rfl Try.func31 cl31 (link_any to9 hto.1 hto.2 _) ?_)
    rintro e w36 ⟨rfl, hk⟩
    replace B_g1 := kp_blk B_g1 hk (fun h => h)
    replace B_g4 := kp_blk B_g4 hk (fun h => h)
    replace B_g32 := kp_blk B_g32 hk (fun h => h)
    replace K_0 := K_0.then_ hk (fun _ h => h.elim)
    refine ⟨_, rfl, ?_⟩; clear hE a; intro a hE
    refine qn hE (rc (pl P6_5 2) (st_move rfl) (rc (pl P6_5 3) (st_extract rfl rfl) (rc (pl P6_5 4) (st_extract rfl rfl) rn))) ?_; clear hE a; intro a hE
    refine p_cons (s_alloc (pl P6_5 5) hE wn_none rfl tZ25 ?_)
    clear hE a; intro g37 w38 z39 B_g37 hk a hE
    replace B_g37 : w38.heap[g37]? = some (.cells (b16 (fun _ => 0)).toArray 25 (0, 0)) := B_g37
    have n_g1_g37 : g1 ≠ g37 := ne_new B_g1 z39
    have n_g4_g37 : g4 ≠ g37 := ne_new B_g4 z39
    have n_g32_g37 : g32 ≠ g37 := ne_new B_g32 z39
    have z_0_g37 := Nat.le_trans K_0.kept.1 z39
    replace B_g1 := kp_blk B_g1 hk (fun h => h)
    replace B_g4 := kp_blk B_g4 hk (fun h => h)
    replace B_g32 := kp_blk B_g32 hk (fun h => h)
    replace K_0 := K_0.then_ hk (fun _ h => h.elim)
    clear hk
    refine p_cons (s_store (off := 0) (k := 16) (cs' := (b16 (linkF to9)).toArray) (pl P6_5 6) hE wn_none tS25 rfl rfl rfl rfl B_g37 (Nat.le_of_ble_eq_true rfl) rfl ?_)
    intro w40 B_g37' hk
    replace B_g1 := kp_blk B_g1 hk n_g1_g37
    replace B_g4 := kp_blk B_g4 hk n_g4_g37
    replace B_g32 := kp_blk B_g32 hk n_g32_g37
    replace K_0 := K_0.then_ hk (fun k h => by rw [show k = g37 from h]; exact Or.inr z_0_g37)
    replace B_g37 := B_g37'
    clear hk
    refine q0 (pl P6_5 7) hE (st_assign rfl) ?_; clear hE a; intro a hE
    refine p_nil (x_norm (c_reg R6_6_l ?_))
    refine qn hE (rc (pl P6_6 0) (st_loadN (off := 0) (k := 16) (vs := b16 (linkF nd)) tA25 tS25 rfl B_g32 rfl rfl) (rc (pl P6_6 1) (st_loadN (off := 0) (k := 16) (vs := b16 (linkF to9)) tA25 tS25 rfl B_g37 rfl rfl) (rc (pl P6_6 2) (st_move rfl) (rc (pl P6_6 3) (st_move rfl) (rc (pl P6_6 4) (st_build (xs := [(3, Operand.tmp 44), (4, Operand.tmp 45)]) (vs := [(3, Value.int .i64 ins), (4, Value.int .i64 rk)]) (cs := #[Value.bool false, Value.bool false, Value.bool false, Value.int .i64 ins, Value.int .i64 rk]) rfl (by kernel_rfl)) (rc (pl P6_6 5) (st_move rfl) (rc (pl P6_6 6) (st_move rfl) rn))))))) ?_; clear hE a; intro a hE
    have hnb_g1 := blk_lt B_g1
    have hnb_g4 := blk_lt B_g4
    have hnb_g32 := blk_lt B_g32
    have hnb_g37 := blk_lt B_g37
    have hnz_0 := K_0.kept.1
    refine p_cons (s_call (xs := [Operand.tmp 42, Operand.tmp 43, Operand.tmp 46, Operand.tmp 47, Operand.tmp 48]) (args := [Value.agg (b16 (linkF nd)).toArray, Value.agg (b16 (linkF to9)).toArray, Value.agg #[Value.bool false, Value.bool false, Value.bool false, Value.int .i64 ins, Value.int .i64 rk], Value.int .i64 num, Value.slice A nl cl9]) (pl P6_6 7) hE wn_none rfl rfl Try.func32 cl32 (send_any (linkF nd) (linkF to9) false false false ins rk num A nl cl9 ls hnl _ (fun W' hk => F_L W' (K_0.then_ hk (fun _ h => h.elim))) hlc (by omega) hmn) ?_)
    rintro e w44 ⟨A42, c43, rfl, O_q41, hk⟩
    replace B_g1 := kp_blk B_g1 hk (fun h => h)
    replace B_g4 := kp_blk B_g4 hk (fun h => h)
    replace B_g32 := kp_blk B_g32 hk (fun h => h)
    replace B_g37 := kp_blk B_g37 hk (fun h => h)
    replace K_0 := K_0.then_ hk (fun _ h => h.elim)
    have Nb_q41_g1 : ¬ OB A42 g1 := fun h => by have := (own_ob O_q41 h).1; have := hnb_g1; omega
    have Nb_q41_g4 : ¬ OB A42 g4 := fun h => by have := (own_ob O_q41 h).1; have := hnb_g4; omega
    have Nb_q41_g32 : ¬ OB A42 g32 := fun h => by have := (own_ob O_q41 h).1; have := hnb_g32; omega
    have Nb_q41_g37 : ¬ OB A42 g37 := fun h => by have := (own_ob O_q41 h).1; have := hnb_g37; omega
    have Z_0_q41 : ∀ k, OB A42 k → (fun _ => False) k ∨ w.heap.size ≤ k := fun k h => .inr (by have := (own_ob O_q41 h).1; have := hnz_0; omega)
    replace O_q41 := own_lower O_q41 hnz_0
    refine ⟨_, rfl, ?_⟩; clear hE a; intro a hE
    refine p_cons (s_alloc (pl P6_6 8) hE wn_none rfl tZ35 ?_)
    clear hE a; intro g45 w46 z47 B_g45 hk a hE
    replace B_g45 : w46.heap[g45]? = some (.cells (([Value.int .i64 0, Value.int .i64 0, Value.int .i64 0, Value.int .i64 0, Value.int .i64 0] ++ b16 (fun _ => 0) ++ b16 (fun _ => 0) ++ [Value.bool false, Value.int .i64 0, Value.int .i64 0, Value.int .i64 0, Value.int .i64 0, Value.int .i64 0, Value.int .i64 0, Value.int .i64 0, Value.int .i64 0, Value.int .i64 0, Value.bool false, Value.bool false] ++ b16 (fun _ => 0) ++ [Value.slice none 0 0, Value.bool false, Value.bool false, Value.bool false, Value.int .i64 0, Value.int .i64 0, Value.int .i64 0, Value.slice none 0 0])).toArray 35 (0, 0)) := B_g45
    have n_g1_g45 : g1 ≠ g45 := ne_new B_g1 z47
    have n_g4_g45 : g4 ≠ g45 := ne_new B_g4 z47
    have n_g32_g45 : g32 ≠ g45 := ne_new B_g32 z47
    have n_g37_g45 : g37 ≠ g45 := ne_new B_g37 z47
    have z_0_g45 := Nat.le_trans K_0.kept.1 z47
    have Nb_q41_g45 : ¬ OB A42 g45 := fun h => by have := (own_ob O_q41 h).2; omega
    replace B_g1 := kp_blk B_g1 hk (fun h => h)
    replace B_g4 := kp_blk B_g4 hk (fun h => h)
    replace B_g32 := kp_blk B_g32 hk (fun h => h)
    replace B_g37 := kp_blk B_g37 hk (fun h => h)
    replace O_q41 := own_keep O_q41 hk (fun _ _ h => h)
    replace K_0 := K_0.then_ hk (fun _ h => h.elim)
    clear hk
    refine p_cons (s_store (off := 0) (k := 73) (cs' := (PA 0 0 0 0 64 (linkF nd) (linkF to9) true zeroM false false false ins rk num A42 ls.flatten.length c43).toArray) (pl P6_6 9) hE wn_none tS35 rfl rfl rfl (by exact ones_mv (a := ([Value.int .i64 0, Value.int .i64 0, Value.int .i64 0, Value.int .i64 0, Value.int .i64 64] ++ b16 (linkF nd) ++ b16 (linkF to9) ++ [Value.bool true])) (b := [Value.bool false, Value.bool false, Value.bool false, Value.int .i64 ins, Value.int .i64 rk, Value.int .i64 num, Value.slice A42 ls.flatten.length c43]) hzeroM rfl rfl) B_g45 (Nat.le_of_ble_eq_true rfl) rfl ?_)
    intro w48 B_g45' hk
    replace B_g1 := kp_blk B_g1 hk n_g1_g45
    replace B_g4 := kp_blk B_g4 hk n_g4_g45
    replace B_g32 := kp_blk B_g32 hk n_g32_g45
    replace B_g37 := kp_blk B_g37 hk n_g37_g45
    replace O_q41 := own_keep O_q41 hk (fun k hk2 h2 => Nb_q41_g45 (by rw [show k = g45 from h2] at hk2; exact hk2))
    replace K_0 := K_0.then_ hk (fun k h => by rw [show k = g45 from h]; exact Or.inr z_0_g45)
    replace B_g45 := B_g45'
    clear hk
    refine p_nil (x_norm (wp_seq (c_reg R6_7_l ?_)))
    refine q0 (pl P6_7 0) hE (st_loadN (off := 0) (k := 73) (vs := (PA 0 0 0 0 64 (linkF nd) (linkF to9) true zeroM false false false ins rk num A42 ls.flatten.length c43)) tA35 tS35 rfl B_g45 rfl rfl) ?_; clear hE a; intro a hE
    refine p_cons (s_call (xs := [Operand.tmp 50]) (args := [Value.agg (PA 0 0 0 0 64 (linkF nd) (linkF to9) true zeroM false false false ins rk num A42 ls.flatten.length c43).toArray]) (pl P6_7 1) hE wn_none rfl rfl Try.func33 cl33 (dchk_any 0 0 0 0 64 (linkF nd) (linkF to9) zeroM false false false ins rk num A42 c43 ls.flatten _ (fun W' hk => own_told (own_keep O_q41 hk (fun _ _ h => h))) (by omega)) ?_)
    rintro e w49 ⟨rfl, hk⟩
    replace B_g1 := kp_blk B_g1 hk (fun h => h)
    replace B_g4 := kp_blk B_g4 hk (fun h => h)
    replace B_g32 := kp_blk B_g32 hk (fun h => h)
    replace B_g37 := kp_blk B_g37 hk (fun h => h)
    replace B_g45 := kp_blk B_g45 hk (fun h => h)
    replace O_q41 := own_keep O_q41 hk (fun _ _ h => h)
    replace K_0 := K_0.then_ hk (fun _ h => h.elim)
    refine ⟨_, rfl, ?_⟩; clear hE a; intro a hE
    refine q0 (pl P6_7 2) hE (st_assign rfl) ?_; clear hE a; intro a hE
    refine p_nil (x_norm (c_reg R6_8_l ?_))
    refine qn hE (rc (pl P6_8 0) (st_move rfl) (rc (pl P6_8 1) (st_neq (b := true) rfl rfl (by rw [decide_eq_false hPE]; rfl)) rn)) ?_; clear hE a; intro a hE
    refine p_nil (x_norm ?_)
    refine c_cond (t := true) hE rfl ?_
    refine c_reg R6_9_l ?_
    refine qn hE (rc (pl P6_9 0) (st_build (xs := []) (vs := []) (cs := (([Value.int .i64 0, Value.int .i64 0, Value.int .i64 0, Value.int .i64 0, Value.int .i64 0] ++ b16 (fun _ => 0) ++ b16 (fun _ => 0) ++ [Value.bool false, Value.int .i64 0, Value.int .i64 0, Value.int .i64 0, Value.int .i64 0, Value.int .i64 0, Value.int .i64 0, Value.int .i64 0, Value.int .i64 0, Value.int .i64 0, Value.bool false, Value.bool false] ++ b16 (fun _ => 0) ++ [Value.slice none 0 0, Value.bool false, Value.bool false, Value.bool false, Value.int .i64 0, Value.int .i64 0, Value.int .i64 0, Value.slice none 0 0])).toArray) rfl (by kernel_rfl)) (rc (pl P6_9 1) (st_move rfl) rn)) ?_; clear hE a; intro a hE
    refine p_cons (s_store (off := 0) (k := 73) (cs' := (([Value.int .i64 0, Value.int .i64 0, Value.int .i64 0, Value.int .i64 0, Value.int .i64 0] ++ b16 (fun _ => 0) ++ b16 (fun _ => 0) ++ [Value.bool false, Value.int .i64 0, Value.int .i64 0, Value.int .i64 0, Value.int .i64 0, Value.int .i64 0, Value.int .i64 0, Value.int .i64 0, Value.int .i64 0, Value.int .i64 0, Value.bool false, Value.bool false] ++ b16 (fun _ => 0) ++ [Value.slice none 0 0, Value.bool false, Value.bool false, Value.bool false, Value.int .i64 0, Value.int .i64 0, Value.int .i64 0, Value.slice none 0 0])).toArray) (pl P6_9 2) hE wn_none tS35 rfl rfl rfl rfl B_g4 (Nat.le_of_ble_eq_true rfl) rfl ?_)
    intro w50 B_g4' hk
    replace B_g1 := kp_blk B_g1 hk n_g1_g4
    replace B_g32 := kp_blk B_g32 hk (Ne.symm n_g4_g32)
    replace B_g37 := kp_blk B_g37 hk (Ne.symm n_g4_g37)
    replace B_g45 := kp_blk B_g45 hk (Ne.symm n_g4_g45)
    replace O_q41 := own_keep O_q41 hk (fun k hk2 h2 => Nb_q41_g4 (by rw [show k = g4 from h2] at hk2; exact hk2))
    replace K_0 := K_0.then_ hk (fun k h => by rw [show k = g4 from h]; exact Or.inr z_0_g4)
    replace B_g4 := B_g4'
    clear hk
    refine q0 (pl P6_9 3) hE (st_assign rfl) ?_; clear hE a; intro a hE
    refine p_nil (x_norm (wp_ret (x_ret ?_)))
    refine ret_list (rs := [.cell 12 35, .tmp 13]) (vs := [Value.agg (([Value.int .i64 0, Value.int .i64 0, Value.int .i64 0, Value.int .i64 0, Value.int .i64 0] ++ b16 (fun _ => 0) ++ b16 (fun _ => 0) ++ [Value.bool false, Value.int .i64 0, Value.int .i64 0, Value.int .i64 0, Value.int .i64 0, Value.int .i64 0, Value.int .i64 0, Value.int .i64 0, Value.int .i64 0, Value.int .i64 0, Value.bool false, Value.bool false] ++ b16 (fun _ => 0) ++ [Value.slice none 0 0, Value.bool false, Value.bool false, Value.bool false, Value.int .i64 0, Value.int .i64 0, Value.int .i64 0, Value.slice none 0 0])).toArray, Value.int .i64 (pktE 0 0 64 ins rk num ls.flatten.length)]) rfl hE (.cellN (us := ([Value.int .i64 0, Value.int .i64 0, Value.int .i64 0, Value.int .i64 0, Value.int .i64 0] ++ b16 (fun _ => 0) ++ b16 (fun _ => 0) ++ [Value.bool false, Value.int .i64 0, Value.int .i64 0, Value.int .i64 0, Value.int .i64 0, Value.int .i64 0, Value.int .i64 0, Value.int .i64 0, Value.int .i64 0, Value.int .i64 0, Value.bool false, Value.bool false] ++ b16 (fun _ => 0) ++ [Value.slice none 0 0, Value.bool false, Value.bool false, Value.bool false, Value.int .i64 0, Value.int .i64 0, Value.int .i64 0, Value.slice none 0 0])) tA35 tS35 rfl B_g4 rfl (.tmp rfl .nil)) rfl ?_
    exact h0 (pktE 0 0 64 ins rk num ls.flatten.length) (by unfold begE; rw [hRV, hNB]; rfl) hPE _ K_0
  ·
   have hNB9 : nodeB to9 = false := by simpa using hNB
   refine c_reg R6_1_l ?_
   refine q0 (pl P6_1 0) hE (st_loadN (off := 0) (k := 4) (vs := [Value.int .i64 nd, Value.int .i64 pf, Value.bool rt, RV]) tA41 tS41 rfl B_g1 rfl rfl) ?_; clear hE a; intro a hE
   refine p_cons (s_call (xs := [Operand.tmp 21]) (args := [Value.agg #[Value.int .i64 nd, Value.int .i64 pf, Value.bool rt, RV]]) (pl P6_1 1) hE wn_none rfl rfl Try.func29 cl29 (rcheck nd pf rt RV _) ?_)
   rintro e w51 ⟨he, hk⟩
   obtain rfl := he.trans (congrArg (fun b => Ending.returned (Value.int .i64 (bif b then 0 else 1))) hRV)
   replace B_g1 := kp_blk B_g1 hk (fun h => h)
   replace B_g4 := kp_blk B_g4 hk (fun h => h)
   replace K_0 := K_0.then_ hk (fun _ h => h.elim)
   refine ⟨_, rfl, ?_⟩; clear hE a; intro a hE
   refine q0 (pl P6_1 2) hE (st_assign rfl) ?_; clear hE a; intro a hE
   refine p_nil (x_norm (c_reg R6_2_l ?_))
   refine qn hE (rc (pl P6_2 0) (st_move rfl) (rc (pl P6_2 1) (st_neq (b := false) rfl rfl (by decide)) (rc (pl P6_2 2) (st_move rfl) (rg (pl P6_2 3) (wn_some g6_2_2 rfl rfl) (st_move rfl) rn)))) ?_; clear hE a; intro a hE
   refine p_cons (s_call (xs := [Operand.tmp 26]) (args := [Value.int .i64 to9]) (pl P6_2 4) hE (wn_some g6_2_2 rfl rfl) rfl rfl Try.func30 cl30 (knode to9 _) ?_)
   rintro e w52 ⟨he, hk⟩
   obtain rfl := he.trans (congrArg (fun b => Ending.returned (Value.bool b)) hNB9)
   replace B_g1 := kp_blk B_g1 hk (fun h => h)
   replace B_g4 := kp_blk B_g4 hk (fun h => h)
   replace K_0 := K_0.then_ hk (fun _ h => h.elim)
   refine ⟨_, rfl, ?_⟩; clear hE a; intro a hE
   refine qn hE (rg (pl P6_2 5) (wn_some g6_2_2 rfl rfl) (st_not rfl rfl) (rc (pl P6_2 6) (st_pick rfl rfl) rn)) ?_; clear hE a; intro a hE
   refine p_nil (x_norm ?_)
   refine c_cond (t := true) hE rfl ?_
   refine c_reg R6_3_l ?_
   refine q0 (pl P6_3 0) hE (st_build (xs := []) (vs := []) (cs := (([Value.int .i64 0, Value.int .i64 0, Value.int .i64 0, Value.int .i64 0, Value.int .i64 0] ++ b16 (fun _ => 0) ++ b16 (fun _ => 0) ++ [Value.bool false, Value.int .i64 0, Value.int .i64 0, Value.int .i64 0, Value.int .i64 0, Value.int .i64 0, Value.int .i64 0, Value.int .i64 0, Value.int .i64 0, Value.int .i64 0, Value.bool false, Value.bool false] ++ b16 (fun _ => 0) ++ [Value.slice none 0 0, Value.bool false, Value.bool false, Value.bool false, Value.int .i64 0, Value.int .i64 0, Value.int .i64 0, Value.slice none 0 0])).toArray) rfl (by kernel_rfl)) ?_; clear hE a; intro a hE
   refine p_cons (s_store (off := 0) (k := 73) (cs' := (([Value.int .i64 0, Value.int .i64 0, Value.int .i64 0, Value.int .i64 0, Value.int .i64 0] ++ b16 (fun _ => 0) ++ b16 (fun _ => 0) ++ [Value.bool false, Value.int .i64 0, Value.int .i64 0, Value.int .i64 0, Value.int .i64 0, Value.int .i64 0, Value.int .i64 0, Value.int .i64 0, Value.int .i64 0, Value.int .i64 0, Value.bool false, Value.bool false] ++ b16 (fun _ => 0) ++ [Value.slice none 0 0, Value.bool false, Value.bool false, Value.bool false, Value.int .i64 0, Value.int .i64 0, Value.int .i64 0, Value.slice none 0 0])).toArray) (pl P6_3 1) hE wn_none tS35 rfl rfl rfl rfl B_g4 (Nat.le_of_ble_eq_true rfl) rfl ?_)
   intro w53 B_g4' hk
   replace B_g1 := kp_blk B_g1 hk n_g1_g4
   replace K_0 := K_0.then_ hk (fun k h => by rw [show k = g4 from h]; exact Or.inr z_0_g4)
   replace B_g4 := B_g4'
   clear hk
   refine q0 (pl P6_3 2) hE (st_assign rfl) ?_; clear hE a; intro a hE
   refine p_nil (x_norm (wp_ret (x_ret ?_)))
   refine ret_list (rs := [.cell 12 35, .tmp 13]) (vs := [Value.agg (([Value.int .i64 0, Value.int .i64 0, Value.int .i64 0, Value.int .i64 0, Value.int .i64 0] ++ b16 (fun _ => 0) ++ b16 (fun _ => 0) ++ [Value.bool false, Value.int .i64 0, Value.int .i64 0, Value.int .i64 0, Value.int .i64 0, Value.int .i64 0, Value.int .i64 0, Value.int .i64 0, Value.int .i64 0, Value.int .i64 0, Value.bool false, Value.bool false] ++ b16 (fun _ => 0) ++ [Value.slice none 0 0, Value.bool false, Value.bool false, Value.bool false, Value.int .i64 0, Value.int .i64 0, Value.int .i64 0, Value.slice none 0 0])).toArray, Value.int .i64 1]) rfl hE (.cellN (us := ([Value.int .i64 0, Value.int .i64 0, Value.int .i64 0, Value.int .i64 0, Value.int .i64 0] ++ b16 (fun _ => 0) ++ b16 (fun _ => 0) ++ [Value.bool false, Value.int .i64 0, Value.int .i64 0, Value.int .i64 0, Value.int .i64 0, Value.int .i64 0, Value.int .i64 0, Value.int .i64 0, Value.int .i64 0, Value.int .i64 0, Value.bool false, Value.bool false] ++ b16 (fun _ => 0) ++ [Value.slice none 0 0, Value.bool false, Value.bool false, Value.bool false, Value.int .i64 0, Value.int .i64 0, Value.int .i64 0, Value.slice none 0 0])) tA35 tS35 rfl B_g4 rfl (.tmp rfl .nil)) rfl ?_
   exact h0 1 (by unfold begE; rw [hRV, hNB9]; rfl) (by decide) _ K_0
 ·
  have hRV9 : rightV nd pf = false := by simpa using hRV
  refine c_reg R6_1_l ?_
  refine q0 (pl P6_1 0) hE (st_loadN (off := 0) (k := 4) (vs := [Value.int .i64 nd, Value.int .i64 pf, Value.bool rt, RV]) tA41 tS41 rfl B_g1 rfl rfl) ?_; clear hE a; intro a hE
  refine p_cons (s_call (xs := [Operand.tmp 21]) (args := [Value.agg #[Value.int .i64 nd, Value.int .i64 pf, Value.bool rt, RV]]) (pl P6_1 1) hE wn_none rfl rfl Try.func29 cl29 (rcheck nd pf rt RV _) ?_)
  rintro e w54 ⟨he, hk⟩
  obtain rfl := he.trans (congrArg (fun b => Ending.returned (Value.int .i64 (bif b then 0 else 1))) hRV9)
  replace B_g1 := kp_blk B_g1 hk (fun h => h)
  replace B_g4 := kp_blk B_g4 hk (fun h => h)
  replace K_0 := K_0.then_ hk (fun _ h => h.elim)
  refine ⟨_, rfl, ?_⟩; clear hE a; intro a hE
  refine q0 (pl P6_1 2) hE (st_assign rfl) ?_; clear hE a; intro a hE
  refine p_nil (x_norm (c_reg R6_2_l ?_))
  refine qn hE (rc (pl P6_2 0) (st_move rfl) (rc (pl P6_2 1) (st_neq (b := true) rfl rfl (by decide)) (rc (pl P6_2 2) (st_move rfl) (Ds.rk (pl P6_2 3) (wn_some g6_2_2 rfl rfl) (Ds.rk (pl P6_2 4) (wn_some g6_2_2 rfl rfl) (Ds.rk (pl P6_2 5) (wn_some g6_2_2 rfl rfl) (rc (pl P6_2 6) (st_pick rfl rfl) rn))))))) ?_; clear hE a; intro a hE
  refine p_nil (x_norm ?_)
  refine c_cond (t := true) hE rfl ?_
  refine c_reg R6_3_l ?_
  refine q0 (pl P6_3 0) hE (st_build (xs := []) (vs := []) (cs := (([Value.int .i64 0, Value.int .i64 0, Value.int .i64 0, Value.int .i64 0, Value.int .i64 0] ++ b16 (fun _ => 0) ++ b16 (fun _ => 0) ++ [Value.bool false, Value.int .i64 0, Value.int .i64 0, Value.int .i64 0, Value.int .i64 0, Value.int .i64 0, Value.int .i64 0, Value.int .i64 0, Value.int .i64 0, Value.int .i64 0, Value.bool false, Value.bool false] ++ b16 (fun _ => 0) ++ [Value.slice none 0 0, Value.bool false, Value.bool false, Value.bool false, Value.int .i64 0, Value.int .i64 0, Value.int .i64 0, Value.slice none 0 0])).toArray) rfl (by kernel_rfl)) ?_; clear hE a; intro a hE
  refine p_cons (s_store (off := 0) (k := 73) (cs' := (([Value.int .i64 0, Value.int .i64 0, Value.int .i64 0, Value.int .i64 0, Value.int .i64 0] ++ b16 (fun _ => 0) ++ b16 (fun _ => 0) ++ [Value.bool false, Value.int .i64 0, Value.int .i64 0, Value.int .i64 0, Value.int .i64 0, Value.int .i64 0, Value.int .i64 0, Value.int .i64 0, Value.int .i64 0, Value.int .i64 0, Value.bool false, Value.bool false] ++ b16 (fun _ => 0) ++ [Value.slice none 0 0, Value.bool false, Value.bool false, Value.bool false, Value.int .i64 0, Value.int .i64 0, Value.int .i64 0, Value.slice none 0 0])).toArray) (pl P6_3 1) hE wn_none tS35 rfl rfl rfl rfl B_g4 (Nat.le_of_ble_eq_true rfl) rfl ?_)
  intro w55 B_g4' hk
  replace B_g1 := kp_blk B_g1 hk n_g1_g4
  replace K_0 := K_0.then_ hk (fun k h => by rw [show k = g4 from h]; exact Or.inr z_0_g4)
  replace B_g4 := B_g4'
  clear hk
  refine q0 (pl P6_3 2) hE (st_assign rfl) ?_; clear hE a; intro a hE
  refine p_nil (x_norm (wp_ret (x_ret ?_)))
  refine ret_list (rs := [.cell 12 35, .tmp 13]) (vs := [Value.agg (([Value.int .i64 0, Value.int .i64 0, Value.int .i64 0, Value.int .i64 0, Value.int .i64 0] ++ b16 (fun _ => 0) ++ b16 (fun _ => 0) ++ [Value.bool false, Value.int .i64 0, Value.int .i64 0, Value.int .i64 0, Value.int .i64 0, Value.int .i64 0, Value.int .i64 0, Value.int .i64 0, Value.int .i64 0, Value.int .i64 0, Value.bool false, Value.bool false] ++ b16 (fun _ => 0) ++ [Value.slice none 0 0, Value.bool false, Value.bool false, Value.bool false, Value.int .i64 0, Value.int .i64 0, Value.int .i64 0, Value.slice none 0 0])).toArray, Value.int .i64 1]) rfl hE (.cellN (us := ([Value.int .i64 0, Value.int .i64 0, Value.int .i64 0, Value.int .i64 0, Value.int .i64 0] ++ b16 (fun _ => 0) ++ b16 (fun _ => 0) ++ [Value.bool false, Value.int .i64 0, Value.int .i64 0, Value.int .i64 0, Value.int .i64 0, Value.int .i64 0, Value.int .i64 0, Value.int .i64 0, Value.int .i64 0, Value.int .i64 0, Value.bool false, Value.bool false] ++ b16 (fun _ => 0) ++ [Value.slice none 0 0, Value.bool false, Value.bool false, Value.bool false, Value.int .i64 0, Value.int .i64 0, Value.int .i64 0, Value.slice none 0 0])) tA35 tS35 rfl B_g4 rfl (.tmp rfl .nil)) rfl ?_
  exact h0 1 (by unfold begE; rw [hRV9]; rfl) (by decide) _ K_0
theorem begin_ok (nd pf : Int) (rt : Bool) (RV : Value) (to9 ins rk num : Int) (A : Option Addr) (nl cl9 : Nat) (ls : List (List Int)) (hnl : nl = ls.length) (hBE : begE nd pf to9 ins rk num ls.flatten.length = 0) (w : World) (F_L : ∀ W', Kp w W' (fun _ => False) → Kd.C (Kd.slice 5 (Kd.int .u8)) W' A ls.length ls) (hlc : ls.length ≤ cl9) (hmf : ls.flatten.length ≤ 900000) (hmn : ls.length ≤ 1000000) : Calls Try.prog 6 #[Value.agg #[Value.int .i64 nd, Value.int .i64 pf, Value.bool rt, RV], .int .i64 to9, .int .i64 ins, .int .i64 rk, .int .i64 num, .slice A nl cl9] w fun e w' => ∃ T c, e = .returned (.tuple #[Value.agg (PA 0 0 0 0 64 (linkF nd) (linkF to9) true zeroM false false false ins rk num T ls.flatten.length c).toArray, .int .i64 0]) ∧ w'.ownsRow w.heap.size 5 1 (.slice T ls.flatten.length c) ls.flatten.length (encs (Value.int .u8) ls.flatten) ∧ Kp w w' (fun _ => False) :=
 begin_k nd pf rt RV to9 ins rk num A nl cl9 ls hnl w F_L hlc hmf hmn (fun er9 h hne => absurd (h.symm.trans hBE) hne) (fun _ T c w' hO hk => ⟨T, c, rfl, hO, hk⟩)
theorem R8_0_l : List.range (regOf Try.f8 0).size = [0] := by kernel_rfl
theorem R8_1_l : List.range (regOf Try.f8 1).size = [0, 1, 2, 3, 4, 5, 6, 7, 8, 9, 10] := by kernel_rfl
theorem R8_2_l : List.range (regOf Try.f8 2).size = [0, 1, 2, 3, 4, 5, 6, 7, 8] := by kernel_rfl
theorem R8_3_l : List.range (regOf Try.f8 3).size = [0, 1, 2, 3, 4, 5, 6, 7, 8, 9, 10, 11, 12, 13, 14, 15, 16, 17, 18, 19, 20, 21, 22, 23, 24, 25, 26, 27, 28, 29, 30, 31, 32, 33, 34, 35] := by kernel_rfl
theorem body8 : Try.f8.body = some (.seq (.region 0 (regOf Try.f8 0) false) (.seq (.region 1 (regOf Try.f8 1) false) (.seq (.region 2 (regOf Try.f8 2) false) (.seq (.region 3 (regOf Try.f8 3) false) (.ret))))) := by kernel_rfl
theorem p8_0_0 : pj (regOf Try.f8 0) 0 = some (some 0, .assign (.const (.bool false)), 4, none) := by kernel_rfl
theorem P8_1 : (List.range (regOf Try.f8 1).size).map (pj (regOf Try.f8 1)) = [zz 6 (.build 41 #[(0, .const (.int .i64 2)), (1, .const (.int .i64 1))]) 41, zz 7 (.buildSlice 33 1 #[(0, .const (.int .u8 120))]) 33, zz 8 (.convert 33 33 (.tmp 7)) 33, zz 9 (.buildSlice 86 1 #[(0, .tmp 8)]) 86, zz 10 (.call { callee := .value (.func 6), args := #[.tmp 6, .const (.int .i64 9), .const (.int .i64 0), .const (.int .i64 768), .const (.int .i64 5), .tmp 9], argTypes := #[41, 3, 3, 3, 3, 86] }) 37, zz 5 (.move (.tmp 10)) 37, zz 11 (.extract (.tmp 5) 0) 35, zz 12 (.extract (.tmp 5) 1) 36, zz 1 (.alloc 35) 0, some (none, .store 35 (.tmp 1) (.tmp 11), 0, none), zz 2 (.assign (.tmp 12)) 36] := by kernel_rfl
theorem cl6 : callable Try.f6 = true := by kernel_rfl
theorem P8_2 : (List.range (regOf Try.f8 2).size).map (pj (regOf Try.f8 2)) = [zz 14 (.load 35 (.tmp 1)) 35, zz 15 (.build 41 #[(0, .const (.int .i64 1)), (1, .const (.int .i64 0))]) 41, zz 16 (.call { callee := .value (.func 7), args := #[.tmp 14, .tmp 15, .const (.int .i64 2), .const (.int .i64 512), .const (.int .i64 256)], argTypes := #[35, 41, 3, 3, 3] }) 44, zz 13 (.move (.tmp 16)) 44, zz 17 (.extract (.tmp 13) 0) 43, zz 18 (.extract (.tmp 13) 1) 36, zz 3 (.alloc 43) 0, some (none, .store 43 (.tmp 3) (.tmp 17), 0, none), zz 4 (.assign (.tmp 18)) 36] := by kernel_rfl
theorem cl7 : callable Try.f7 = true := by kernel_rfl
theorem tZ43 : (Try.prog.info? 43).bind (·.zero) = some (Value.agg (([Value.int .i64 0, Value.int .i64 0, Value.int .i64 0, Value.int .i64 0, Value.int .i64 0, Value.int .i64 0, Value.int .i64 0] ++ b16 (fun _ => 0) ++ b16 (fun _ => 0) ++ [Value.bool false, Value.int .i64 0, Value.int .i64 0, Value.int .i64 0, Value.int .i64 0, Value.int .i64 0, Value.int .i64 0, Value.int .i64 0, Value.int .i64 0, Value.int .i64 0, Value.bool false, Value.bool false] ++ b16 (fun _ => 0) ++ [Value.slice none 0 0, Value.bool false, Value.bool false, Value.bool false, Value.int .i64 0, Value.int .i64 0, Value.int .i64 0, Value.slice none 0 0, Value.bool false])).toArray) := by kernel_rfl
theorem tS43 : (Try.prog.info? 43).map (·.size) = some 76 := by kernel_rfl
theorem P8_3 : (List.range (regOf Try.f8 3).size).map (pj (regOf Try.f8 3)) = [zz 19 (.move (.tmp 2)) 36, zz 20 (.binOp .eql 36 (.tmp 19) (.const (.int .i64 0)) 36) 4, zz 21 (.move (.tmp 20)) 4, some (some 22, .move (.tmp 4), 36, some (2, true)), some (some 23, .binOp .eql 36 (.tmp 22) (.const (.int .i64 0)) 36, 4, some (2, true)), zz 24 (.pick (.tmp 21) (.tmp 23) (.const (.bool false))) 4, zz 25 (.move (.tmp 24)) 4, some (some 26, .fieldAddr 43 (.tmp 3) 0, 0, some (6, true)), some (some 27, .load 3 (.tmp 26), 3, some (6, true)), some (some 28, .binOp .eql 3 (.tmp 27) (.const (.int .i64 2)) 3, 4, some (6, true)), zz 29 (.pick (.tmp 25) (.tmp 28) (.const (.bool false))) 4, zz 30 (.move (.tmp 29)) 4, some (some 31, .fieldAddr 43 (.tmp 3) 1, 0, some (11, true)), some (some 32, .load 3 (.tmp 31), 3, some (11, true)), some (some 33, .binOp .eql 3 (.tmp 32) (.const (.int .i64 0)) 3, 4, some (11, true)), zz 34 (.pick (.tmp 30) (.tmp 33) (.const (.bool false))) 4, zz 35 (.move (.tmp 34)) 4, some (some 36, .fieldAddr 43 (.tmp 3) 2, 0, some (16, true)), some (some 37, .fieldAddr 35 (.tmp 36) 3, 0, some (16, true)), some (some 38, .fieldAddr 32 (.tmp 37) 4, 0, some (16, true)), some (some 39, .load 3 (.tmp 38), 3, some (16, true)), some (some 40, .binOp .eql 3 (.tmp 39) (.const (.int .i64 512)) 3, 4, some (16, true)), zz 41 (.pick (.tmp 35) (.tmp 40) (.const (.bool false))) 4, zz 42 (.move (.tmp 41)) 4, some (some 43, .fieldAddr 43 (.tmp 3) 3, 0, some (23, true)), some (some 44, .load 4 (.tmp 43), 4, some (23, true)), some (some 45, .unOp .not 4 (.tmp 44), 4, some (23, true)), zz 46 (.pick (.tmp 42) (.tmp 45) (.const (.bool false))) 4, zz 47 (.move (.tmp 46)) 4, some (some 48, .fieldAddr 43 (.tmp 3) 2, 0, some (28, true)), some (some 49, .fieldAddr 35 (.tmp 48) 0, 0, some (28, true)), some (some 50, .fieldAddr 27 (.tmp 49) 4, 0, some (28, true)), some (some 51, .load 3 (.tmp 50), 3, some (28, true)), some (some 52, .binOp .eql 3 (.tmp 51) (.const (.int .i64 63)) 3, 4, some (28, true)), zz 53 (.pick (.tmp 47) (.tmp 52) (.const (.bool false))) 4, zz 0 (.assign (.tmp 53)) 4] := by kernel_rfl
theorem g8_3_2 : dstOf (regOf Try.f8 3) 2 = some 21 := by kernel_rfl
theorem g8_3_6 : dstOf (regOf Try.f8 3) 6 = some 25 := by kernel_rfl
theorem g8_3_11 : dstOf (regOf Try.f8 3) 11 = some 30 := by kernel_rfl
theorem g8_3_16 : dstOf (regOf Try.f8 3) 16 = some 35 := by kernel_rfl
theorem tS32 : (Try.prog.info? 32).map (·.size) = some 5 := by kernel_rfl
theorem g8_3_23 : dstOf (regOf Try.f8 3) 23 = some 42 := by kernel_rfl
theorem tS4 : (Try.prog.info? 4).map (·.size) = some 1 := by kernel_rfl
theorem tA4 : (Try.prog.underlying 4).map aggD = some false := by kernel_rfl
theorem g8_3_28 : dstOf (regOf Try.f8 3) 28 = some 47 := by kernel_rfl
theorem tS27 : (Try.prog.info? 27).map (·.size) = some 37 := by kernel_rfl
set_option maxHeartbeats 4000000 in
theorem kn22 (w : World) : Calls Try.prog 8 #[] w fun e w' => e = .returned (.bool true) ∧ Kp w w' (fun _ => False) := by
 have K_0 := Kp.refl w (fun _ => False)
 refine enter (args := []) (n := 54) Try.func8 body8 rfl rfl rfl ?_
 intro a hE
 refine c_reg R8_0_l ?_
 refine q0 p8_0_0 hE (st_assign rfl) ?_; clear hE a; intro a hE
 refine p_nil (x_norm (c_reg R8_1_l ?_))
 refine q0 (pl P8_1 0) hE (st_build (xs := [(0, Operand.const (Value.int IntKind.i64 2)), (1, Operand.const (Value.int IntKind.i64 1))]) (vs := [(0, Value.int .i64 2), (1, Value.int .i64 1)]) (cs := #[Value.int .i64 2, Value.int .i64 1, Value.bool false, Value.pointer none]) rfl (by kernel_rfl)) ?_; clear hE a; intro a hE
 refine p_cons (s_row (xs := [(0, Operand.const (Value.int IntKind.u8 120))]) (vs := [(0, Value.int .u8 120)]) (cs := #[Value.int .u8 120]) (pl P8_1 1) hE wn_none rfl Try.underlying33 rfl (by kernel_rfl) ?_)
 clear hE a; intro g1 w2 z3 B_g1 hk a hE
 have z_0_g1 := Nat.le_trans K_0.kept.1 z3
 replace K_0 := K_0.then_ hk (fun _ h => h.elim)
 clear hk
 refine p_cons (s_convB (pl P8_1 2) hE wn_none rfl Try.underlying33 Try.underlying5 rfl B_g1 ?_)
 clear hE a; intro w4 B_g1' hk a hE
 replace K_0 := K_0.then_ hk (fun k h => by rw [show k = g1 from h]; exact Or.inr z_0_g1)
 replace B_g1 := B_g1'
 clear hk
 refine p_cons (s_row (xs := [(0, Operand.tmp 8)]) (vs := [(0, Value.slice (some ⟨g1, 0, none⟩) 1 1)]) (cs := #[Value.slice (some ⟨g1, 0, none⟩) 1 1]) (pl P8_1 3) hE wn_none rfl Try.underlying86 rfl (by kernel_rfl) ?_)
 clear hE a; intro g5 w6 z7 B_g5 hk a hE
 have n_g1_g5 : g1 ≠ g5 := ne_new B_g1 z7
 have z_0_g5 := Nat.le_trans K_0.kept.1 z7
 replace B_g1 := kp_blk B_g1 hk (fun h => h)
 replace K_0 := K_0.then_ hk (fun _ h => h.elim)
 clear hk
 have hnb_g1 := blk_lt B_g1
 have hnb_g5 := blk_lt B_g5
 have hnz_0 := K_0.kept.1
 refine p_cons (s_call (xs := [Operand.tmp 6, Operand.const (Value.int IntKind.i64 9), Operand.const (Value.int IntKind.i64 0), Operand.const (Value.int IntKind.i64 768), Operand.const (Value.int IntKind.i64 5), Operand.tmp 9]) (args := [Value.agg #[Value.int .i64 2, Value.int .i64 1, Value.bool false, Value.pointer none], Value.int .i64 9, Value.int .i64 0, Value.int .i64 768, Value.int .i64 5, Value.slice (some ⟨g5, 0, none⟩) 1 1]) (pl P8_1 4) hE wn_none rfl rfl Try.func6 cl6 (begin_ok 2 1 false (.pointer none) 9 0 768 5 (some ⟨g5, 0, none⟩) 1 1 [[120]] rfl (by decide +kernel) _ (fun W' hk => C_rows (e := 5) [(some ⟨g1, 0, none⟩, 1, [120])] (kp_blk B_g5 hk (fun h => h)) rfl (Nat.le_of_ble_eq_true rfl) (by intro r hr; simp only [List.mem_cons, List.not_mem_nil, or_false] at hr; subst hr; exact ⟨Nat.le_refl _, C_blk (k := .u8) (l := [120]) (off := 0) (kp_blk B_g1 hk (fun h => h)) ⟨rfl, Nat.le_of_ble_eq_true rfl⟩ rfl⟩)) (by decide) (by decide) (by decide)) ?_)
 rintro e w11 ⟨A9, c10, rfl, O_q8, hk⟩
 replace B_g1 := kp_blk B_g1 hk (fun h => h)
 replace B_g5 := kp_blk B_g5 hk (fun h => h)
 replace K_0 := K_0.then_ hk (fun _ h => h.elim)
 have Nb_q8_g1 : ¬ OB A9 g1 := fun h => by have := (own_ob O_q8 h).1; have := hnb_g1; omega
 have Nb_q8_g5 : ¬ OB A9 g5 := fun h => by have := (own_ob O_q8 h).1; have := hnb_g5; omega
 have Z_0_q8 : ∀ k, OB A9 k → (fun _ => False) k ∨ w.heap.size ≤ k := fun k h => .inr (by have := (own_ob O_q8 h).1; have := hnz_0; omega)
 replace O_q8 := own_lower O_q8 hnz_0
 refine ⟨_, rfl, ?_⟩; clear hE a; intro a hE
 refine qn hE (rc (pl P8_1 5) (st_move rfl) (rc (pl P8_1 6) (st_extract rfl rfl) (rc (pl P8_1 7) (st_extract rfl rfl) rn))) ?_; clear hE a; intro a hE
 refine p_cons (s_alloc (pl P8_1 8) hE wn_none rfl tZ35 ?_)
 clear hE a; intro g12 w13 z14 B_g12 hk a hE
 replace B_g12 : w13.heap[g12]? = some (.cells (([Value.int .i64 0, Value.int .i64 0, Value.int .i64 0, Value.int .i64 0, Value.int .i64 0] ++ b16 (fun _ => 0) ++ b16 (fun _ => 0) ++ [Value.bool false, Value.int .i64 0, Value.int .i64 0, Value.int .i64 0, Value.int .i64 0, Value.int .i64 0, Value.int .i64 0, Value.int .i64 0, Value.int .i64 0, Value.int .i64 0, Value.bool false, Value.bool false] ++ b16 (fun _ => 0) ++ [Value.slice none 0 0, Value.bool false, Value.bool false, Value.bool false, Value.int .i64 0, Value.int .i64 0, Value.int .i64 0, Value.slice none 0 0])).toArray 35 (0, 0)) := B_g12
 have n_g1_g12 : g1 ≠ g12 := ne_new B_g1 z14
 have n_g5_g12 : g5 ≠ g12 := ne_new B_g5 z14
 have z_0_g12 := Nat.le_trans K_0.kept.1 z14
 have Nb_q8_g12 : ¬ OB A9 g12 := fun h => by have := (own_ob O_q8 h).2; omega
 replace B_g1 := kp_blk B_g1 hk (fun h => h)
 replace B_g5 := kp_blk B_g5 hk (fun h => h)
 replace O_q8 := own_keep O_q8 hk (fun _ _ h => h)
 replace K_0 := K_0.then_ hk (fun _ h => h.elim)
 clear hk
 refine p_cons (s_store (off := 0) (k := 73) (cs' := (PA 0 0 0 0 64 (linkF 2) (linkF 9) true zeroM false false false 0 768 5 A9 1 c10).toArray) (pl P8_1 9) hE wn_none tS35 rfl rfl rfl (by exact ones_mv (a := ([Value.int .i64 0, Value.int .i64 0, Value.int .i64 0, Value.int .i64 0, Value.int .i64 64] ++ b16 (linkF 2) ++ b16 (linkF 9) ++ [Value.bool true])) (b := [Value.bool false, Value.bool false, Value.bool false, Value.int .i64 0, Value.int .i64 768, Value.int .i64 5, Value.slice A9 1 c10]) hzeroM rfl rfl) B_g12 (Nat.le_of_ble_eq_true rfl) rfl ?_)
 intro w15 B_g12' hk
 replace B_g1 := kp_blk B_g1 hk n_g1_g12
 replace B_g5 := kp_blk B_g5 hk n_g5_g12
 replace O_q8 := own_keep O_q8 hk (fun k hk2 h2 => Nb_q8_g12 (by rw [show k = g12 from h2] at hk2; exact hk2))
 replace K_0 := K_0.then_ hk (fun k h => by rw [show k = g12 from h]; exact Or.inr z_0_g12)
 replace B_g12 := B_g12'
 clear hk
 refine q0 (pl P8_1 10) hE (st_assign rfl) ?_; clear hE a; intro a hE
 refine p_nil (x_norm (c_reg R8_2_l ?_))
 refine qn hE (rc (pl P8_2 0) (st_loadN (off := 0) (k := 73) (vs := (PA 0 0 0 0 64 (linkF 2) (linkF 9) true zeroM false false false 0 768 5 A9 1 c10)) tA35 tS35 rfl B_g12 rfl rfl) (rc (pl P8_2 1) (st_build (xs := [(0, Operand.const (Value.int IntKind.i64 1)), (1, Operand.const (Value.int IntKind.i64 0))]) (vs := [(0, Value.int .i64 1), (1, Value.int .i64 0)]) (cs := #[Value.int .i64 1, Value.int .i64 0, Value.bool false, Value.pointer none]) rfl (by kernel_rfl)) rn)) ?_; clear hE a; intro a hE
 have hnb_g1 := blk_lt B_g1
 have hnb_g5 := blk_lt B_g5
 have hnb_g12 := blk_lt B_g12
 have hnz_0 := K_0.kept.1
 have hno_q8 := fun k (h : OB A9 k) => (own_ob O_q8 h).2
 refine p_cons (s_call (xs := [Operand.tmp 14, Operand.tmp 15, Operand.const (Value.int IntKind.i64 2), Operand.const (Value.int IntKind.i64 512), Operand.const (Value.int IntKind.i64 256)]) (args := [Value.agg (PA 0 0 0 0 64 (linkF 2) (linkF 9) true zeroM false false false 0 768 5 A9 1 c10).toArray, Value.agg #[Value.int .i64 1, Value.int .i64 0, Value.bool false, Value.pointer none], Value.int .i64 2, Value.int .i64 512, Value.int .i64 256]) (pl P8_2 2) hE wn_none rfl rfl Try.func7 cl7 (handle_ok 0 0 0 0 64 (linkF 2) (linkF 9) zeroM false false false 0 768 5 A9 c10 [120] 1 0 false (.pointer none) (fun _ => -1) (fun _ => (0, 0, 0)) 13 2 512 256 hzeroM (link_bd (by decide) (by decide)) 2 0 false 63 false false false 512 (by kernel_rfl) _ (tb_nil _ _) (fun W' hk => own_told (own_keep O_q8 hk (fun _ _ h => h))) (by decide)) ?_)
 rintro e w19 ⟨A17, c18, rfl, O_q16, hk⟩
 replace B_g1 := kp_blk B_g1 hk (fun h => h)
 replace B_g5 := kp_blk B_g5 hk (fun h => h)
 replace B_g12 := kp_blk B_g12 hk (fun h => h)
 replace O_q8 := own_keep O_q8 hk (fun _ _ h => h)
 replace K_0 := K_0.then_ hk (fun _ h => h.elim)
 have Nb_q16_g1 : ¬ OB A17 g1 := fun h => by have := (own_ob O_q16 h).1; have := hnb_g1; omega
 have Nb_q16_g5 : ¬ OB A17 g5 := fun h => by have := (own_ob O_q16 h).1; have := hnb_g5; omega
 have Nb_q16_g12 : ¬ OB A17 g12 := fun h => by have := (own_ob O_q16 h).1; have := hnb_g12; omega
 have Z_0_q16 : ∀ k, OB A17 k → (fun _ => False) k ∨ w.heap.size ≤ k := fun k h => .inr (by have := (own_ob O_q16 h).1; have := hnz_0; omega)
 have NN_q16_q8 : ∀ k, OB A17 k → ¬ OB A9 k := fun k h h2 => by have := (own_ob O_q16 h).1; have := hno_q8 k h2; omega
 have NN_q8_q16 : ∀ k, OB A9 k → ¬ OB A17 k := fun k h h2 => NN_q16_q8 k h2 h
 replace O_q16 := own_lower O_q16 hnz_0
 refine ⟨_, rfl, ?_⟩; clear hE a; intro a hE
 refine qn hE (rc (pl P8_2 3) (st_move rfl) (rc (pl P8_2 4) (st_extract rfl rfl) (rc (pl P8_2 5) (st_extract rfl rfl) rn))) ?_; clear hE a; intro a hE
 refine p_cons (s_alloc (pl P8_2 6) hE wn_none rfl tZ43 ?_)
 clear hE a; intro g20 w21 z22 B_g20 hk a hE
 replace B_g20 : w21.heap[g20]? = some (.cells (([Value.int .i64 0, Value.int .i64 0, Value.int .i64 0, Value.int .i64 0, Value.int .i64 0, Value.int .i64 0, Value.int .i64 0] ++ b16 (fun _ => 0) ++ b16 (fun _ => 0) ++ [Value.bool false, Value.int .i64 0, Value.int .i64 0, Value.int .i64 0, Value.int .i64 0, Value.int .i64 0, Value.int .i64 0, Value.int .i64 0, Value.int .i64 0, Value.int .i64 0, Value.bool false, Value.bool false] ++ b16 (fun _ => 0) ++ [Value.slice none 0 0, Value.bool false, Value.bool false, Value.bool false, Value.int .i64 0, Value.int .i64 0, Value.int .i64 0, Value.slice none 0 0, Value.bool false])).toArray 43 (0, 0)) := B_g20
 have n_g1_g20 : g1 ≠ g20 := ne_new B_g1 z22
 have n_g5_g20 : g5 ≠ g20 := ne_new B_g5 z22
 have n_g12_g20 : g12 ≠ g20 := ne_new B_g12 z22
 have z_0_g20 := Nat.le_trans K_0.kept.1 z22
 have Nb_q8_g20 : ¬ OB A9 g20 := fun h => by have := (own_ob O_q8 h).2; omega
 have Nb_q16_g20 : ¬ OB A17 g20 := fun h => by have := (own_ob O_q16 h).2; omega
 replace B_g1 := kp_blk B_g1 hk (fun h => h)
 replace B_g5 := kp_blk B_g5 hk (fun h => h)
 replace B_g12 := kp_blk B_g12 hk (fun h => h)
 replace O_q8 := own_keep O_q8 hk (fun _ _ h => h)
 replace O_q16 := own_keep O_q16 hk (fun _ _ h => h)
 replace K_0 := K_0.then_ hk (fun _ h => h.elim)
 clear hk
 refine p_cons (s_store (off := 0) (k := 76) (cs' := (RA 2 0 0 0 0 0 63 (linkF 2) (linkF 9) true zeroM false false false 0 512 5 A17 1 c18 false).toArray) (pl P8_2 7) hE wn_none tS43 rfl rfl rfl (by exact ones_mv (a := ([Value.int .i64 2, Value.int .i64 0, Value.int .i64 0, Value.int .i64 0, Value.int .i64 0, Value.int .i64 0, Value.int .i64 63] ++ b16 (linkF 2) ++ b16 (linkF 9) ++ [Value.bool true])) (b := [Value.bool false, Value.bool false, Value.bool false, Value.int .i64 0, Value.int .i64 512, Value.int .i64 5, Value.slice A17 1 c18, Value.bool false]) hzeroM rfl rfl) B_g20 (Nat.le_of_ble_eq_true rfl) rfl ?_)
 intro w23 B_g20' hk
 replace B_g1 := kp_blk B_g1 hk n_g1_g20
 replace B_g5 := kp_blk B_g5 hk n_g5_g20
 replace B_g12 := kp_blk B_g12 hk n_g12_g20
 replace O_q8 := own_keep O_q8 hk (fun k hk2 h2 => Nb_q8_g20 (by rw [show k = g20 from h2] at hk2; exact hk2))
 replace O_q16 := own_keep O_q16 hk (fun k hk2 h2 => Nb_q16_g20 (by rw [show k = g20 from h2] at hk2; exact hk2))
 replace K_0 := K_0.then_ hk (fun k h => by rw [show k = g20 from h]; exact Or.inr z_0_g20)
 replace B_g20 := B_g20'
 clear hk
 refine q0 (pl P8_2 8) hE (st_assign rfl) ?_; clear hE a; intro a hE
 refine p_nil (x_norm (c_reg R8_3_l ?_))
 refine qn hE (rc (pl P8_3 0) (st_move rfl) (rc (pl P8_3 1) (st_eql (b := true) rfl rfl (by decide)) (rc (pl P8_3 2) (st_move rfl) (rg (pl P8_3 3) (wn_some g8_3_2 rfl rfl) (st_move rfl) (rg (pl P8_3 4) (wn_some g8_3_2 rfl rfl) (st_eql (b := true) rfl rfl (by decide)) (rc (pl P8_3 5) (st_pick rfl rfl) (rc (pl P8_3 6) (st_move rfl) (rg (pl P8_3 7) (wn_some g8_3_6 rfl rfl) (st_fieldAddr Try.underlying43 rfl tS3 rfl rfl) (rg (pl P8_3 8) (wn_some g8_3_6 rfl rfl) (st_load1 tA3 rfl ((blk_cell B_g20 0).trans rfl)) (rg (pl P8_3 9) (wn_some g8_3_6 rfl rfl) (st_eql (b := true) rfl rfl (by decide)) (rc (pl P8_3 10) (st_pick rfl rfl) (rc (pl P8_3 11) (st_move rfl) (rg (pl P8_3 12) (wn_some g8_3_11 rfl rfl) (st_fieldAddr Try.underlying43 rfl tS3 rfl rfl) (rg (pl P8_3 13) (wn_some g8_3_11 rfl rfl) (st_load1 tA3 rfl ((blk_cell B_g20 1).trans rfl)) (rg (pl P8_3 14) (wn_some g8_3_11 rfl rfl) (st_eql (b := true) rfl rfl (by decide)) (rc (pl P8_3 15) (st_pick rfl rfl) (rc (pl P8_3 16) (st_move rfl) (rg (pl P8_3 17) (wn_some g8_3_16 rfl rfl) (st_fieldAddr Try.underlying43 rfl tS35 rfl rfl) (rg (pl P8_3 18) (wn_some g8_3_16 rfl rfl) (st_fieldAddr Try.underlying35 rfl tS32 rfl rfl) (rg (pl P8_3 19) (wn_some g8_3_16 rfl rfl) (st_fieldAddr Try.underlying32 rfl tS3 rfl rfl) (rg (pl P8_3 20) (wn_some g8_3_16 rfl rfl) (st_load1 tA3 rfl ((blk_cell B_g20 72).trans rfl)) (rg (pl P8_3 21) (wn_some g8_3_16 rfl rfl) (st_eql (b := true) rfl rfl (by decide)) (rc (pl P8_3 22) (st_pick rfl rfl) (rc (pl P8_3 23) (st_move rfl) (rg (pl P8_3 24) (wn_some g8_3_23 rfl rfl) (st_fieldAddr Try.underlying43 rfl tS4 rfl rfl) (rg (pl P8_3 25) (wn_some g8_3_23 rfl rfl) (st_load1 tA4 rfl ((blk_cell B_g20 75).trans rfl)) (rg (pl P8_3 26) (wn_some g8_3_23 rfl rfl) (st_not rfl rfl) (rc (pl P8_3 27) (st_pick rfl rfl) (rc (pl P8_3 28) (st_move rfl) (rg (pl P8_3 29) (wn_some g8_3_28 rfl rfl) (st_fieldAddr Try.underlying43 rfl tS35 rfl rfl) (rg (pl P8_3 30) (wn_some g8_3_28 rfl rfl) (st_fieldAddr Try.underlying35 rfl tS27 rfl rfl) (rg (pl P8_3 31) (wn_some g8_3_28 rfl rfl) (st_fieldAddr Try.underlying27 rfl tS3 rfl rfl) (rg (pl P8_3 32) (wn_some g8_3_28 rfl rfl) (st_load1 tA3 rfl ((blk_cell B_g20 6).trans rfl)) (rg (pl P8_3 33) (wn_some g8_3_28 rfl rfl) (st_eql (b := true) rfl rfl (by decide)) (rc (pl P8_3 34) (st_pick rfl rfl) (rc (pl P8_3 35) (st_assign rfl) rn)))))))))))))))))))))))))))))))))))) ?_; clear hE a; intro a hE
 refine p_nil (x_norm (wp_ret ?_))
 refine ret_one (v := Value.bool true) rfl hE (.tmp rfl .nil) ?_
 exact ⟨rfl, K_0⟩
end Go.Proofs.Ytijfocnneccccaa.Bg
