/- Rows of options: what they read as; To and Of. -/
import Derived.Test.YtgpclehnomkbmaaOpt
import Derived.Test.YtgpclehnomkbmaaRs
set_option maxRecDepth 100000
set_option linter.unusedVariables false
set_option linter.unusedSimpArgs false
namespace Go.Proofs.Ytgpclehnomkbmaa.Or
open Go.RowKit Go.Proofs.YtgpclehnomkbmaaW.PrintWords Go.Proofs.Ytgpclehnomkbmaa.Ds Go.Proofs.Ytgpclehnomkbmaa.Op
open Go.Proofs.Ytgpclehnomkbmaa.Pk (Kp fitsF spanF putF digF fits_any put_ok C_take)
/-- An option: its kind, numbers, address, text. -/
abbrev OV := Int × List Int × List Int × List Int
abbrev dO : Kd OV := Kd.pair (Kd.int .i64) (Kd.pair (Kd.slice 3 (Kd.int .i64)) (Kd.pair (Kd.arr 16 (Kd.int .u8) (by decide)) (Kd.slice 5 (Kd.int .u8))))
abbrev zO : OV := (0, [], [], [])
def adr (x : OV) : Nat → Int := fun j => x.2.2.1.getD j 0
theorem b16_list {l : List Int} (h : l.length = 16) : encs (Value.int .u8) l = b16 (fun j => l.getD j 0) := by
 match l, h with
 | [a0, a1, a2, a3, a4, a5, a6, a7, a8, a9, a10, a11, a12, a13, a14, a15], _ => rfl
theorem opt_open {w : World} {x : OV} {c : List Value} (h : Kd.K dO w x c) : ∃ A n' T t, c = ([.int .i64 x.1, .slice A x.2.1.length n'] ++ b16 (adr x) ++ [.slice T x.2.2.2.length t]) ∧ x.2.1.length ≤ n' ∧ x.2.2.2.length ≤ t ∧ Kd.C (Kd.int .i64) w A x.2.1.length x.2.1 ∧ Kd.C (Kd.int .u8) w T x.2.2.2.length x.2.2.2 := by
 obtain ⟨c0, c1, rfl, h0, c2, c3, rfl, ⟨A, n', e1, hl, hC⟩, c4, c5, rfl, h4, ⟨T, t, e2, hl2, hC2⟩⟩ := h
 subst h0; subst e1; subst e2
 refine ⟨A, n', T, t, ?_, hl, hl2, hC, hC2⟩
 rw [Kd.reps_encs (enc := Value.int .u8) h4.2, b16_list h4.1]
 rfl
theorem opt_mk {w : World} (kk : Int) (l : List Int) (f : Nat → Int) (tx : List Int) {A T : Option Addr} {nn n' tn t : Nat} (e1 : nn = l.length) (e2 : tn = tx.length) (h1 : l.length ≤ n') (h2 : tx.length ≤ t) (hC : Kd.C (Kd.int .i64) w A l.length l) (hD : Kd.C (Kd.int .u8) w T tx.length tx) : Kd.K dO w (kk, l, l16 f, tx) ([.int .i64 kk, .slice A nn n'] ++ b16 f ++ [.slice T tn t]) := by
 subst e1; subst e2
 exact ⟨_, [.slice A l.length n'] ++ b16 f ++ [.slice T tx.length t], rfl, rfl, _, b16 f ++ [.slice T tx.length t], rfl, ⟨A, n', rfl, h1, hC⟩, b16 f, _, rfl, ⟨rfl, Kd.reps_scalar (enc := Value.int .u8) (l16 f)⟩, ⟨T, t, rfl, h2, hD⟩⟩
/-- What To makes of an option, of options; what Of makes of one. -/
def toV (x : OV) : OV := (x.1, x.2.1.take 12, l16 (adr x), x.2.2.2.take 100)
def ofV (x : OV) : OV := (x.1, x.2.1, l16 (adr x), x.2.2.2)
def toL (ls : List OV) : List OV := (ls.take 20).map toV
theorem ofV_toV (x : OV) : ofV (toV x) = toV x := rfl
theorem map_snoc {f : OV → OV} {ls : List OV} {k : Nat} (hk : k < ls.length) : (ls.take (k + 1)).map f = (ls.take k).map f ++ [f (ls.getD k zO)] := by
 rw [List.take_succ_eq_append_getElem hk, List.map_append, List.map_singleton, List.getD_eq_getElem?_getD, List.getElem?_eq_getElem hk]
 rfl
theorem R16_0_l : List.range (regOf Try.f16 0).size = [0] := by kernel_rfl
theorem R16_1_l : List.range (regOf Try.f16 1).size = [0] := by kernel_rfl
theorem R16_2_l : List.range (regOf Try.f16 2).size = [0] := by kernel_rfl
theorem R16_3_l : List.range (regOf Try.f16 3).size = [0, 1, 2, 3, 4, 5, 6, 7] := by kernel_rfl
theorem R16_5_l : List.range (regOf Try.f16 5).size = [0, 1, 2, 3, 4, 5] := by kernel_rfl
theorem R16_4_l : List.range (regOf Try.f16 4).size = [0, 1, 2] := by kernel_rfl
theorem R16_7_l : List.range (regOf Try.f16 7).size = [0, 1] := by kernel_rfl
theorem body16 : Try.f16.body = some (.seq (.region 0 (regOf Try.f16 0) false) (.seq (.region 1 (regOf Try.f16 1) false) (.seq (.seq (.region 2 (regOf Try.f16 2) false) (.block 0 (.loop (.seq (.seq (.region 3 (regOf Try.f16 3) false) (.cond (Operand.tmp 13) (.skip) (.exit 0))) (.seq (.block 1 (.seq (.region 5 (regOf Try.f16 5) false) (.region 6 (regOf Try.f16 6) true))) (.region 4 (regOf Try.f16 4) false)))))) (.seq (.region 7 (regOf Try.f16 7) false) (.ret))))) := by kernel_rfl
theorem p16_0_0 : pj (regOf Try.f16 0) 0 = some (some 2, .assign (.const (.slice none 0 0)), 23, none) := by kernel_rfl
theorem p16_1_0 : pj (regOf Try.f16 1) 0 = some (some 3, .assign (.const (.slice none 0 0)), 23, none) := by kernel_rfl
theorem p16_2_0 : pj (regOf Try.f16 2) 0 = some (some 4, .assign (.const (.int .i64 0)), 3, none) := by kernel_rfl
theorem p16_3_0 : pj (regOf Try.f16 3) 0 = some (some 6, .move (.tmp 4), 3, none) := by kernel_rfl
theorem p16_3_1 : pj (regOf Try.f16 3) 1 = some (some 7, .move (.tmp 0), 27, none) := by kernel_rfl
theorem p16_3_2 : pj (regOf Try.f16 3) 2 = some (some 8, .call { callee := .builtin .len, args := #[.tmp 7], argTypes := #[27] }, 3, none) := by kernel_rfl
theorem p16_3_3 : pj (regOf Try.f16 3) 3 = some (some 9, .binOp .lss 3 (.tmp 6) (.tmp 8) 3, 4, none) := by kernel_rfl
theorem p16_3_4 : pj (regOf Try.f16 3) 4 = some (some 10, .move (.tmp 9), 4, none) := by kernel_rfl
theorem p16_3_5 : pj (regOf Try.f16 3) 5 = some (some 11, .move (.tmp 4), 3, some (4, true)) := by kernel_rfl
theorem g16_3_4 : dstOf (regOf Try.f16 3) 4 = some 10 := by kernel_rfl
theorem p16_3_6 : pj (regOf Try.f16 3) 6 = some (some 12, .binOp .lss 3 (.tmp 11) (.const (.int .i64 20)) 3, 4, some (4, true)) := by kernel_rfl
theorem p16_3_7 : pj (regOf Try.f16 3) 7 = some (some 13, .pick (.tmp 10) (.tmp 12) (.const (.bool false)), 4, none) := by kernel_rfl
theorem p16_5_0 : pj (regOf Try.f16 5) 0 = some (some 16, .move (.tmp 0), 27, none) := by kernel_rfl
theorem p16_5_1 : pj (regOf Try.f16 5) 1 = some (some 17, .move (.tmp 4), 3, none) := by kernel_rfl
theorem p16_5_2 : pj (regOf Try.f16 5) 2 = some (some 18, .indexAddr 27 (.tmp 16) (.tmp 17), 0, none) := by kernel_rfl
theorem tS45 : (Try.prog.info? 45).map (·.size) = some 19 := by kernel_rfl
theorem p16_5_3 : pj (regOf Try.f16 5) 3 = some (some 19, .load 45 (.tmp 18), 45, none) := by kernel_rfl
theorem tA45 : (Try.prog.underlying 45).map aggD = some true := by kernel_rfl
theorem p16_5_4 : pj (regOf Try.f16 5) 4 = some (some 5, .alloc 45, 0, none) := by kernel_rfl
theorem tZ45 : (Try.prog.info? 45).bind (·.zero) = some (Value.agg (([Value.int .i64 0, Value.slice none 0 0] ++ b16 (fun _ => 0) ++ [Value.slice none 0 0])).toArray) := by kernel_rfl
theorem p16_5_5 : pj (regOf Try.f16 5) 5 = some (none, .store 45 (.tmp 5) (.tmp 19), 0, none) := by kernel_rfl
theorem ns16_6 : Region.noSelect (regOf Try.f16 6) = true := by kernel_rfl
theorem p16_6_0 : pj (regOf Try.f16 6) 0 = some (some 20, .move (.tmp 3), 23, none) := by kernel_rfl
theorem p16_6_1 : pj (regOf Try.f16 6) 1 = some (some 21, .fieldAddr 45 (.tmp 5) 0, 0, none) := by kernel_rfl
theorem tS3 : (Try.prog.info? 3).map (·.size) = some 1 := by kernel_rfl
theorem p16_6_2 : pj (regOf Try.f16 6) 2 = some (some 22, .load 3 (.tmp 21), 3, none) := by kernel_rfl
theorem tA3 : (Try.prog.underlying 3).map aggD = some false := by kernel_rfl
theorem p16_6_4 : pj (regOf Try.f16 6) 4 = some (some 24, .fieldAddr 45 (.tmp 5) 1, 0, none) := by kernel_rfl
theorem tS42 : (Try.prog.info? 42).map (·.size) = some 1 := by kernel_rfl
theorem p16_6_5 : pj (regOf Try.f16 6) 5 = some (some 25, .load 42 (.tmp 24), 42, none) := by kernel_rfl
theorem tA42 : (Try.prog.underlying 42).map aggD = some false := by kernel_rfl
theorem p16_6_6 : pj (regOf Try.f16 6) 6 = some (some 26, .fieldAddr 45 (.tmp 5) 1, 0, none) := by kernel_rfl
theorem p16_6_7 : pj (regOf Try.f16 6) 7 = some (some 27, .load 42 (.tmp 26), 42, none) := by kernel_rfl
theorem p16_6_8 : pj (regOf Try.f16 6) 8 = some (some 28, .call { callee := .builtin .len, args := #[.tmp 27], argTypes := #[42] }, 3, none) := by kernel_rfl
theorem p16_6_9 : pj (regOf Try.f16 6) 9 = some (some 29, .call { callee := .builtin .min, args := #[.tmp 28, .const (.int .i64 12)], argTypes := #[3, 3] }, 3, none) := by kernel_rfl
theorem p16_6_10 : pj (regOf Try.f16 6) 10 = some (some 30, .slice 42 (.tmp 25) none (some (.tmp 29)) none, 42, none) := by kernel_rfl
theorem p16_6_12 : pj (regOf Try.f16 6) 12 = some (some 32, .fieldAddr 45 (.tmp 5) 2, 0, none) := by kernel_rfl
theorem tS43 : (Try.prog.info? 43).map (·.size) = some 16 := by kernel_rfl
theorem p16_6_13 : pj (regOf Try.f16 6) 13 = some (some 33, .load 43 (.tmp 32), 43, none) := by kernel_rfl
theorem tA43 : (Try.prog.underlying 43).map aggD = some true := by kernel_rfl
theorem p16_6_14 : pj (regOf Try.f16 6) 14 = some (some 34, .fieldAddr 45 (.tmp 5) 3, 0, none) := by kernel_rfl
theorem tS22 : (Try.prog.info? 22).map (·.size) = some 1 := by kernel_rfl
theorem p16_6_15 : pj (regOf Try.f16 6) 15 = some (some 35, .load 22 (.tmp 34), 22, none) := by kernel_rfl
theorem tA22 : (Try.prog.underlying 22).map aggD = some false := by kernel_rfl
theorem p16_6_16 : pj (regOf Try.f16 6) 16 = some (some 36, .fieldAddr 45 (.tmp 5) 3, 0, none) := by kernel_rfl
theorem p16_6_17 : pj (regOf Try.f16 6) 17 = some (some 37, .load 22 (.tmp 36), 22, none) := by kernel_rfl
theorem p16_6_18 : pj (regOf Try.f16 6) 18 = some (some 38, .call { callee := .builtin .len, args := #[.tmp 37], argTypes := #[22] }, 3, none) := by kernel_rfl
theorem p16_6_19 : pj (regOf Try.f16 6) 19 = some (some 39, .call { callee := .builtin .min, args := #[.tmp 38, .const (.int .i64 100)], argTypes := #[3, 3] }, 3, none) := by kernel_rfl
theorem p16_6_20 : pj (regOf Try.f16 6) 20 = some (some 40, .slice 22 (.tmp 35) none (some (.tmp 39)) none, 22, none) := by kernel_rfl
theorem tS5 : (Try.prog.info? 5).map (·.size) = some 1 := by kernel_rfl
theorem p16_6_3 : pj (regOf Try.f16 6) 3 = some (some 23, .buildSlice 42 0 #[], 42, none) := by kernel_rfl
theorem p16_6_11 : pj (regOf Try.f16 6) 11 = some (some 31, .call { callee := .builtin .append, args := #[.tmp 23, .tmp 30], argTypes := #[42, 42] }, 42, none) := by kernel_rfl
theorem eD3 : elemD Try.prog 3 = some (1, 1, 8) := by kernel_rfl
theorem p16_6_21 : pj (regOf Try.f16 6) 21 = some (some 41, .build 50 #[(0, .tmp 22), (1, .tmp 31), (2, .tmp 33), (3, .tmp 40)], 50, none) := by kernel_rfl
theorem p16_6_22 : pj (regOf Try.f16 6) 22 = some (some 42, .buildSlice 23 1 #[(0, .tmp 41)], 23, none) := by kernel_rfl
theorem p16_6_23 : pj (regOf Try.f16 6) 23 = some (some 43, .call { callee := .builtin .append, args := #[.tmp 20, .tmp 42], argTypes := #[23, 23] }, 23, none) := by kernel_rfl
theorem eD50 : elemD Try.prog 50 = some (19, 19, 72) := by kernel_rfl
theorem p16_6_24 : pj (regOf Try.f16 6) 24 = some (some 3, .assign (.tmp 43), 23, none) := by kernel_rfl
theorem p16_4_0 : pj (regOf Try.f16 4) 0 = some (some 14, .move (.tmp 4), 3, none) := by kernel_rfl
theorem p16_4_1 : pj (regOf Try.f16 4) 1 = some (some 15, .binOp .add 3 (.tmp 14) (.const (.int .i64 1)) 3, 3, none) := by kernel_rfl
theorem p16_4_2 : pj (regOf Try.f16 4) 2 = some (some 4, .assign (.tmp 15), 3, none) := by kernel_rfl
theorem p16_7_0 : pj (regOf Try.f16 7) 0 = some (some 44, .move (.tmp 3), 23, none) := by kernel_rfl
theorem p16_7_1 : pj (regOf Try.f16 7) 1 = some (some 2, .assign (.tmp 44), 23, none) := by kernel_rfl
set_option maxHeartbeats 4000000 in
theorem to_far (A : Option Addr) (c : Nat) (ls : List OV) (w : World) (wz : World) (hF : Kd.C dO wz A ls.length ls) (hk00 : Kp wz w (fun _ => False)) (hm : ls.length ≤ c) (hmx : ls.length ≤ maxLen) : Calls Try.prog 16 #[.slice A ls.length c] w fun e w' => ∃ A' c', e = .returned (.slice A' (toL ls).length c') ∧ (toL ls).length ≤ c' ∧ (∀ W', Kp wz W' (fun _ => False) → Kp w' W' (fun k => k < w.heap.size) → Kd.C dO W' A' (toL ls).length (toL ls)) ∧ Kp w w' (fun _ => False) := by
 have K_0 := Kp.refl w (fun _ => False)
 have K_z := hk00
 refine enter (args := [Value.slice A ls.length c]) (n := 45) Try.func16 body16 rfl rfl rfl ?_
 intro a hE
 refine c_reg R16_0_l ?_
 refine q0 p16_0_0 hE (st_assign rfl) ?_; clear hE a; intro a hE
 refine p_nil (x_norm (c_reg R16_1_l ?_))
 refine q0 p16_1_0 hE (st_assign rfl) ?_; clear hE a; intro a hE
 refine p_nil (x_norm (wp_seq (c_reg R16_2_l ?_)))
 refine q0 p16_2_0 hE (st_assign rfl) ?_; clear hE a; intro a hE
 refine p_nil (x_norm (wp_block ?_))
 have O_out := own_none w w.heap.size 50 19
 have Z_0_out : ∀ k, OB none k → (fun _ => False) k ∨ w.heap.size ≤ k := fun k h => absurd h ob_nil
 have Z_z_out : ∀ k, OB none k → (fun _ => False) k ∨ wz.heap.size ≤ k := fun k h => absurd h ob_nil
 refine c_loop (α := Nat) (fun k a W => ∃ (A_out : Option Addr) (c_out : Nat) (n_out : Nat), ∃ (zs : List Value), En 45 a [(0, Value.slice A ls.length c), (2, Value.slice none 0 0), (4, Value.int .i64 (k : Int)), (3, Value.slice A_out n_out c_out)] ∧ (k ≤ ls.length ∧ k ≤ 20) ∧ n_out = k ∧ ((∀ W', Kp wz W' (fun _ => False) → Kp W W' (fun k => OB A_out k ∨ k < w.heap.size) → Reps (Kd.K dO W') 19 ((ls.take k).map toV) zs)) ∧ W.ownsRow w.heap.size 50 19 (.slice A_out n_out c_out) n_out zs ∧ (∀ k, OB A_out k → (fun _ => False) k ∨ w.heap.size ≤ k) ∧ (∀ k, OB A_out k → (fun _ => False) k ∨ wz.heap.size ≤ k) ∧ Kp w W (fun _ => False) ∧ Kp wz W (fun _ => False)) (fun k => ls.length - k) (0) ?_ ?_
 ·
  exact ⟨none, 0, 0, [], En.sub hE ⟨rfl, rfl, rfl, rfl, trivial⟩, ⟨Nat.zero_le _, Nat.zero_le _⟩, rfl, (fun W' hkz hk => Reps.none _ _), O_out, Z_0_out, Z_z_out, K_0, K_z⟩
 ·
  clear hE a
  rintro k a w1 ⟨A_out, c_out, n_out, zs, hE, hk9, hn_out, F_out, O_out, Z_0_out, Z_z_out, K_0, K_z⟩
  refine wp_seq ?_
  rcases Decidable.em ((k : Int) < (ls.length : Int)) with hK1 | hK1
  ·
   rcases Decidable.em ((k : Int) < 20) with hK2 | hK2
   ·
    refine c_reg R16_3_l ?_
    refine q0 p16_3_0 hE (st_move rfl) ?_; clear hE a; intro a hE
    refine q0 p16_3_1 hE (st_move rfl) ?_; clear hE a; intro a hE
    refine q0 p16_3_2 hE (st_len Try.underlying27 rfl) ?_; clear hE a; intro a hE
    refine q0 p16_3_3 hE (st_lss (b := true) rfl rfl (decide_eq_true hK1)) ?_; clear hE a; intro a hE
    refine q0 p16_3_4 hE (st_move rfl) ?_; clear hE a; intro a hE
    refine p_cons (s_still p16_3_5 hE (wn_some g16_3_4 rfl rfl) rfl (st_move rfl) ?_); clear hE a; intro a hE
    refine p_cons (s_still p16_3_6 hE (wn_some g16_3_4 rfl rfl) rfl (st_lss (b := true) rfl rfl (decide_eq_true hK2)) ?_); clear hE a; intro a hE
    refine q0 p16_3_7 hE (st_pick rfl rfl) ?_; clear hE a; intro a hE
    refine p_nil (x_norm ?_)
    refine c_cond (t := true) hE rfl ?_
    refine wp_skip (x_norm (wp_seq (wp_block (c_reg R16_5_l ?_))))
    have K_s2 := Kp.refl w1 (fun k => OB A_out k)
    have Z_s2_out : ∀ k, OB A_out k → (fun k => OB A_out k) k ∨ w1.heap.size ≤ k := fun k h => .inl h
    obtain ⟨hAe3, cce3, hKe3, hce3⟩ := C_elem (i := k) hF zO (show k < ls.length by omega)
    obtain ⟨x, hxe3⟩ : ∃ x, List.getD ls k zO = x := ⟨_, rfl⟩
    rw [hxe3] at hKe3
    obtain ⟨Ae3, qe3, Te3, ce3, rfl, hle3, hme3, hCe3, hDe3⟩ := opt_open hKe3
    refine q0 p16_5_0 hE (st_move rfl) ?_; clear hE a; intro a hE
    refine q0 p16_5_1 hE (st_move rfl) ?_; clear hE a; intro a hE
    refine q0 p16_5_2 hE (st_indexAddrR (i := k) (s := 19) Try.underlying27 tS45 hAe3 rfl rfl (by omega)) ?_; clear hE a; intro a hE
    refine q0 p16_5_3 hE (st_loadR (off := k * 19) (j := 0) (k := 19) (vs := ([Value.int .i64 x.1, Value.slice Ae3 x.2.1.length qe3] ++ b16 (adr x) ++ [Value.slice Te3 x.2.2.2.length ce3])) tA45 tS45 (fun j u h => cell_to K_z (hce3 j u h)) rfl rfl (by omega) rfl) ?_; clear hE a; intro a hE
    refine p_cons (s_alloc p16_5_4 hE wn_none rfl tZ45 ?_)
    clear hE a; intro g4 w5 z6 B_g4 hk a hE
    replace B_g4 : w5.heap[g4]? = some (.cells (([Value.int .i64 0, Value.slice none 0 0] ++ b16 (fun _ => 0) ++ [Value.slice none 0 0])).toArray 45 (0, 0)) := B_g4
    have z_0_g4 := Nat.le_trans K_0.kept.1 z6
    have z_z_g4 := Nat.le_trans K_z.kept.1 z6
    have z_s2_g4 := Nat.le_trans K_s2.kept.1 z6
    have Nb_out_g4 : ¬ OB A_out g4 := fun h => by have := (own_ob O_out h).2; omega
    replace O_out := own_keep O_out hk (fun _ _ h => h)
    replace K_0 := K_0.then_ hk (fun _ h => h.elim)
    replace K_z := K_z.then_ hk (fun _ h => h.elim)
    replace K_s2 := K_s2.then_ hk (fun _ h => h.elim)
    clear hk
    refine p_cons (s_store (off := 0) (k := 19) (cs' := (([Value.int .i64 x.1, Value.slice Ae3 x.2.1.length qe3] ++ b16 (adr x) ++ [Value.slice Te3 x.2.2.2.length ce3])).toArray) p16_5_5 hE wn_none tS45 rfl rfl rfl rfl B_g4 (Nat.le_of_ble_eq_true rfl) rfl ?_)
    intro w7 B_g4' hk
    replace O_out := own_keep O_out hk (fun k hk2 h2 => Nb_out_g4 (by rw [show k = g4 from h2] at hk2; exact hk2))
    replace K_0 := K_0.then_ hk (fun k h => by rw [show k = g4 from h]; exact Or.inr z_0_g4)
    replace K_z := K_z.then_ hk (fun k h => by rw [show k = g4 from h]; exact Or.inr z_z_g4)
    replace K_s2 := K_s2.then_ hk (fun k h => by rw [show k = g4 from h]; exact Or.inr z_s2_g4)
    replace B_g4 := B_g4'
    clear hk
    refine p_nil (x_norm ?_)
    refine c_draw (S := fun W => W.heap[g4]? = some (.cells (([Value.int .i64 x.1, Value.slice Ae3 x.2.1.length qe3] ++ b16 (adr x) ++ [Value.slice Te3 x.2.2.2.length ce3])).toArray 45 (0, 0)) ∧ True) rfl rfl (listed := #[false, false, false, false, false, false, false, false, false, false, false, false, false, false, false, false, false, false, false, false, false, false, false, false, false]) rfl ?_
    intro w8 hh hk
    replace B_g4 := kp_blk B_g4 hk (fun h => h)
    replace O_out := own_keep O_out hk (fun _ _ h => h)
    replace K_0 := K_0.then_ hk (fun _ h => h.elim)
    replace K_z := K_z.then_ hk (fun _ h => h.elim)
    replace K_s2 := K_s2.then_ hk (fun _ h => h.elim)
    clear hh hk
    refine Rv.dq (v := Value.slice A_out n_out c_out) p16_6_0 ns16_6 hE wn_none ⟨B_g4, trivial⟩ (fun W hS => (st_move rfl)) ?_; clear hE a; intro a hE
    refine Rv.dq (v := Value.pointer (some ⟨g4, 0, none⟩)) p16_6_1 ns16_6 hE wn_none ⟨B_g4, trivial⟩ (fun W hS => (st_fieldAddr Try.underlying45 rfl tS3 rfl rfl)) ?_; clear hE a; intro a hE
    refine Rv.dq (v := Value.int .i64 x.1) p16_6_2 ns16_6 hE wn_none ⟨B_g4, trivial⟩ (fun W hS => (st_load1 tA3 rfl ((blk_cell hS.1 0).trans rfl))) ?_; clear hE a; intro a hE
    refine Rv.dq (v := Value.pointer (some ⟨g4, 1, none⟩)) p16_6_4 ns16_6 hE wn_none ⟨B_g4, trivial⟩ (fun W hS => (st_fieldAddr Try.underlying45 rfl tS42 rfl rfl)) ?_; clear hE a; intro a hE
    refine Rv.dq (v := Value.slice Ae3 x.2.1.length qe3) p16_6_5 ns16_6 hE wn_none ⟨B_g4, trivial⟩ (fun W hS => (st_load1 tA42 rfl ((blk_cell hS.1 1).trans rfl))) ?_; clear hE a; intro a hE
    refine Rv.dq (v := Value.pointer (some ⟨g4, 1, none⟩)) p16_6_6 ns16_6 hE wn_none ⟨B_g4, trivial⟩ (fun W hS => (st_fieldAddr Try.underlying45 rfl tS42 rfl rfl)) ?_; clear hE a; intro a hE
    refine Rv.dq (v := Value.slice Ae3 x.2.1.length qe3) p16_6_7 ns16_6 hE wn_none ⟨B_g4, trivial⟩ (fun W hS => (st_load1 tA42 rfl ((blk_cell hS.1 1).trans rfl))) ?_; clear hE a; intro a hE
    refine Rv.dq (v := Value.int .i64 (x.2.1.length : Int)) p16_6_8 ns16_6 hE wn_none ⟨B_g4, trivial⟩ (fun W hS => (st_len Try.underlying42 rfl)) ?_; clear hE a; intro a hE
    refine Rv.dq (v := Value.int .i64 ((min x.2.1.length 12 : Nat) : Int)) p16_6_9 ns16_6 hE wn_none ⟨B_g4, trivial⟩ (fun W hS => (st_min (z := ((min x.2.1.length 12 : Nat) : Int)) rfl rfl (by rw [Nat.min_def]; split <;> split <;> omega))) ?_; clear hE a; intro a hE
    refine Rv.dq (v := Value.slice Ae3 (min x.2.1.length 12) qe3) p16_6_10 ns16_6 hE wn_none ⟨B_g4, trivial⟩ (fun W hS => (st_sliceH (h := min x.2.1.length 12) Try.underlying42 tS3 rfl rfl (by omega))) ?_; clear hE a; intro a hE
    refine Rv.dq (v := Value.pointer (some ⟨g4, 2, none⟩)) p16_6_12 ns16_6 hE wn_none ⟨B_g4, trivial⟩ (fun W hS => (st_fieldAddr Try.underlying45 rfl tS43 rfl rfl)) ?_; clear hE a; intro a hE
    refine Rv.dq (v := Value.agg (b16 (adr x)).toArray) p16_6_13 ns16_6 hE wn_none ⟨B_g4, trivial⟩ (fun W hS => (st_loadN (off := 2) (k := 16) (vs := b16 (adr x)) tA43 tS43 rfl hS.1 rfl rfl)) ?_; clear hE a; intro a hE
    refine Rv.dq (v := Value.pointer (some ⟨g4, 18, none⟩)) p16_6_14 ns16_6 hE wn_none ⟨B_g4, trivial⟩ (fun W hS => (st_fieldAddr Try.underlying45 rfl tS22 rfl rfl)) ?_; clear hE a; intro a hE
    refine Rv.dq (v := Value.slice Te3 x.2.2.2.length ce3) p16_6_15 ns16_6 hE wn_none ⟨B_g4, trivial⟩ (fun W hS => (st_load1 tA22 rfl ((blk_cell hS.1 18).trans rfl))) ?_; clear hE a; intro a hE
    refine Rv.dq (v := Value.pointer (some ⟨g4, 18, none⟩)) p16_6_16 ns16_6 hE wn_none ⟨B_g4, trivial⟩ (fun W hS => (st_fieldAddr Try.underlying45 rfl tS22 rfl rfl)) ?_; clear hE a; intro a hE
    refine Rv.dq (v := Value.slice Te3 x.2.2.2.length ce3) p16_6_17 ns16_6 hE wn_none ⟨B_g4, trivial⟩ (fun W hS => (st_load1 tA22 rfl ((blk_cell hS.1 18).trans rfl))) ?_; clear hE a; intro a hE
    refine Rv.dq (v := Value.int .i64 (x.2.2.2.length : Int)) p16_6_18 ns16_6 hE wn_none ⟨B_g4, trivial⟩ (fun W hS => (st_len Try.underlying22 rfl)) ?_; clear hE a; intro a hE
    refine Rv.dq (v := Value.int .i64 ((min x.2.2.2.length 100 : Nat) : Int)) p16_6_19 ns16_6 hE wn_none ⟨B_g4, trivial⟩ (fun W hS => (st_min (z := ((min x.2.2.2.length 100 : Nat) : Int)) rfl rfl (by rw [Nat.min_def]; split <;> split <;> omega))) ?_; clear hE a; intro a hE
    refine Rv.dq (v := Value.slice Te3 (min x.2.2.2.length 100) ce3) p16_6_20 ns16_6 hE wn_none ⟨B_g4, trivial⟩ (fun W hS => (st_sliceH (h := min x.2.2.2.length 100) Try.underlying22 tS5 rfl rfl (by omega))) ?_; clear hE a; intro a hE
    refine d_one (by kernel_rfl) rfl (s_row (xs := []) (vs := []) (cs := #[]) p16_6_3 hE wn_none rfl Try.underlying42 rfl (by kernel_rfl) ?_)
    clear hE a; intro g9 w10 z11 B_g9 hk a hE
    have n_g4_g9 : g4 ≠ g9 := ne_new B_g4 z11
    have z_0_g9 := Nat.le_trans K_0.kept.1 z11
    have z_z_g9 := Nat.le_trans K_z.kept.1 z11
    have z_s2_g9 := Nat.le_trans K_s2.kept.1 z11
    have Nb_out_g9 : ¬ OB A_out g9 := fun h => by have := (own_ob O_out h).2; omega
    replace B_g4 := kp_blk B_g4 hk (fun h => h)
    replace O_out := own_keep O_out hk (fun _ _ h => h)
    replace K_0 := K_0.then_ hk (fun _ h => h.elim)
    replace K_z := K_z.then_ hk (fun _ h => h.elim)
    replace K_s2 := K_s2.then_ hk (fun _ h => h.elim)
    clear hk
    refine ⟨⟨B_g4, trivial⟩, ?_⟩
    have O_q12 := own_blk9 (k := .i64) (l := []) B_g9 (show w.heap.size ≤ g9 from z_0_g9) rfl (Nat.le_of_ble_eq_true rfl)
    have Nb_q12_g4 : ¬ OB (some ⟨g9, 0, none⟩) g4 := fun h => by have h := ob_blk.1 h; exact (Ne.symm n_g4_g9) h
    have Z_0_q12 : ∀ k, OB (some ⟨g9, 0, none⟩) k → (fun _ => False) k ∨ w.heap.size ≤ k := fun k h => by have h := ob_blk.1 h; subst h; exact Or.inr z_0_g9
    have Z_z_q12 : ∀ k, OB (some ⟨g9, 0, none⟩) k → (fun _ => False) k ∨ wz.heap.size ≤ k := fun k h => by have h := ob_blk.1 h; subst h; exact Or.inr z_z_g9
    have Z_s2_q12 : ∀ k, OB (some ⟨g9, 0, none⟩) k → (fun k => OB A_out k) k ∨ w1.heap.size ≤ k := fun k h => by have h := ob_blk.1 h; subst h; exact Or.inr z_s2_g9
    have NN_q12_out : ∀ k, OB (some ⟨g9, 0, none⟩) k → ¬ OB A_out k := fun k h h2 => by have h := ob_blk.1 h; subst h; exact Nb_out_g9 h2
    have NN_out_q12 : ∀ k, OB A_out k → ¬ OB (some ⟨g9, 0, none⟩) k := fun k h h2 => NN_q12_out k h2 h
    refine d_one (by kernel_rfl) rfl (s_appendC (xs := []) (ys := (x.2.1.take (min x.2.1.length 12))) p16_6_11 hE wn_none rfl Try.underlying42 eD3 rfl O_q12 rfl (C_take (C_to hCe3 K_z) (by omega)) (by omega) (by omega) K_0.kept.1 ?_)
    clear hE a; intro Aq1213 cq1214 w15 O_q12' hk hat a hE
    rw [Nat.zero_add] at hE O_q12'
    rw [List.nil_append] at O_q12'
    have Nb_q12_g4' := grow_n Nb_q12_g4 (blk_lt B_g4) hat
    have NN_out_q12' : ∀ k, OB A_out k → ¬ OB Aq1213 k := fun k h h2 => (hat k h2).elim (NN_out_q12 k h) (fun h3 => by have := (own_ob O_out h).2; omega)
    have Z_0_q12' := grow_z Z_0_q12 K_0.kept.1 hat
    have Z_z_q12' := grow_z Z_z_q12 K_z.kept.1 hat
    have Z_s2_q12' := grow_z Z_s2_q12 K_s2.kept.1 hat
    replace B_g4 := kp_blk B_g4 hk Nb_q12_g4
    replace O_out := own_keep O_out hk NN_out_q12
    replace K_0 := K_0.then_ hk Z_0_q12
    replace K_z := K_z.then_ hk Z_z_q12
    replace K_s2 := K_s2.then_ hk Z_s2_q12
    replace Nb_q12_g4 := Nb_q12_g4'
    replace NN_out_q12 := NN_out_q12'
    replace NN_q12_out : ∀ k, OB Aq1213 k → ¬ OB A_out k := fun k h h2 => NN_out_q12 k h2 h
    replace Z_0_q12 := Z_0_q12'
    replace Z_z_q12 := Z_z_q12'
    replace Z_s2_q12 := Z_s2_q12'
    replace O_q12 : w15.ownsRow _ 3 1 (.slice Aq1213 (min x.2.1.length 12) cq1214) (min x.2.1.length 12) (encs (Value.int .i64) (x.2.1.take (min x.2.1.length 12))) := O_q12'
    clear O_q12' hk hat
    refine ⟨⟨B_g4, trivial⟩, ?_⟩
    refine Rv.dq (v := Value.agg (([Value.int .i64 x.1, Value.slice Aq1213 (min x.2.1.length 12) cq1214] ++ b16 (adr x) ++ [Value.slice Te3 (min x.2.2.2.length 100) ce3])).toArray) p16_6_21 ns16_6 hE wn_none ⟨B_g4, trivial⟩ (fun W hS => (st_build (xs := [(0, Operand.tmp 22), (1, Operand.tmp 31), (2, Operand.tmp 33), (3, Operand.tmp 40)]) (vs := [(0, Value.int .i64 x.1), (1, Value.slice Aq1213 (min x.2.1.length 12) cq1214), (2, Value.agg (b16 (adr x)).toArray), (3, Value.slice Te3 (min x.2.2.2.length 100) ce3)]) (cs := (([Value.int .i64 x.1, Value.slice Aq1213 (min x.2.1.length 12) cq1214] ++ b16 (adr x) ++ [Value.slice Te3 (min x.2.2.2.length 100) ce3])).toArray) rfl (by kernel_rfl))) ?_; clear hE a; intro a hE
    refine d_one (by kernel_rfl) rfl (s_row (xs := [(0, Operand.tmp 41)]) (vs := [(0, Value.agg (([Value.int .i64 x.1, Value.slice Aq1213 (min x.2.1.length 12) cq1214] ++ b16 (adr x) ++ [Value.slice Te3 (min x.2.2.2.length 100) ce3])).toArray)]) (cs := (([Value.int .i64 x.1, Value.slice Aq1213 (min x.2.1.length 12) cq1214] ++ b16 (adr x) ++ [Value.slice Te3 (min x.2.2.2.length 100) ce3])).toArray) p16_6_22 hE wn_none rfl Try.underlying23 rfl (by kernel_rfl) ?_)
    clear hE a; intro g16 w17 z18 B_g16 hk a hE
    have n_g4_g16 : g4 ≠ g16 := ne_new B_g4 z18
    have z_0_g16 := Nat.le_trans K_0.kept.1 z18
    have z_z_g16 := Nat.le_trans K_z.kept.1 z18
    have z_s2_g16 := Nat.le_trans K_s2.kept.1 z18
    have Nb_out_g16 : ¬ OB A_out g16 := fun h => by have := (own_ob O_out h).2; omega
    have Nb_q12_g16 : ¬ OB Aq1213 g16 := fun h => by have := (own_ob O_q12 h).2; omega
    replace B_g4 := kp_blk B_g4 hk (fun h => h)
    replace O_out := own_keep O_out hk (fun _ _ h => h)
    replace O_q12 := own_keep O_q12 hk (fun _ _ h => h)
    replace K_0 := K_0.then_ hk (fun _ h => h.elim)
    replace K_z := K_z.then_ hk (fun _ h => h.elim)
    replace K_s2 := K_s2.then_ hk (fun _ h => h.elim)
    clear hk
    refine ⟨⟨B_g4, trivial⟩, ?_⟩
    refine d_one (by kernel_rfl) rfl (s_append (s := 19) (xs := zs) (news := ([Value.int .i64 x.1, Value.slice Aq1213 (min x.2.1.length 12) cq1214] ++ b16 (adr x) ++ [Value.slice Te3 (min x.2.2.2.length 100) ce3])) p16_6_23 hE wn_none rfl Try.underlying23 eD50 (by decide) rfl O_out rfl rfl (newsB B_g16 rfl) (ones rfl) (by omega) (by omega) K_0.kept.1 ?_)
    clear hE a; intro Aout19 cout20 w21 O_out' hk hat a hE
    have Nb_out_g4' := grow_n Nb_out_g4 (blk_lt B_g4) hat
    have Nb_out_g16' := grow_n Nb_out_g16 (blk_lt B_g16) hat
    have NN_q12_out' : ∀ k, OB Aq1213 k → ¬ OB Aout19 k := fun k h h2 => (hat k h2).elim (NN_q12_out k h) (fun h3 => by have := (own_ob O_q12 h).2; omega)
    have Z_0_out' := grow_z Z_0_out K_0.kept.1 hat
    have Z_z_out' := grow_z Z_z_out K_z.kept.1 hat
    have Z_s2_out' := grow_z Z_s2_out K_s2.kept.1 hat
    replace B_g4 := kp_blk B_g4 hk Nb_out_g4
    replace B_g16 := kp_blk B_g16 hk Nb_out_g16
    replace O_q12 := own_keep O_q12 hk NN_q12_out
    replace K_0 := K_0.then_ hk Z_0_out
    replace K_z := K_z.then_ hk Z_z_out
    replace K_s2 := K_s2.then_ hk Z_s2_out
    replace Nb_out_g4 := Nb_out_g4'
    replace Nb_out_g16 := Nb_out_g16'
    replace NN_q12_out := NN_q12_out'
    replace NN_out_q12 : ∀ k, OB Aout19 k → ¬ OB Aq1213 k := fun k h h2 => NN_q12_out k h2 h
    replace Z_0_out := Z_0_out'
    replace Z_z_out := Z_z_out'
    replace Z_s2_out := Z_s2_out'
    replace O_out := O_out'
    try clear O_out'
    clear hk hat
    refine ⟨⟨B_g4, trivial⟩, ?_⟩
    refine Rv.dq (v := Value.slice Aout19 (n_out + 1) cout20) p16_6_24 ns16_6 hE wn_none ⟨B_g4, trivial⟩ (fun W hS => (st_assign rfl)) ?_; clear hE a; intro a hE
    refine d_end (by kernel_rfl) ?_
    refine x_normB (x_norm (c_regL R16_4_l ?_))
    refine q0 p16_4_0 hE (st_move rfl) ?_; clear hE a; intro a hE
    refine q0 p16_4_1 hE (st_add (z := (k : Int) + 1) rfl rfl (wr_i64 _ (by omega) (by omega))) ?_; clear hE a; intro a hE
    refine q0 p16_4_2 hE (st_assign rfl) ?_; clear hE a; intro a hE
    refine p_nil (x_norm ?_)
    have hcapN := (own_caps O_q12).1
    have F9 : ∀ W', Kp wz W' (fun _ => False) → Kp w21 W' (fun k => OB Aout19 k ∨ k < w.heap.size) → Reps (Kd.K dO W') 19 ((ls.take (k + 1)).map toV) (zs ++ ([Value.int .i64 x.1, Value.slice Aq1213 (min x.2.1.length 12) cq1214] ++ b16 (adr x) ++ [Value.slice Te3 (min x.2.2.2.length 100) ce3])) := fun W' hkz hk => by
     have hk1 : Kp w1 W' (fun k => OB A_out k ∨ k < w.heap.size) := (K_s2.mono (fun _ h => .inl h)).then_ hk (fun k h => h.elim (fun h => (Z_s2_out k h).elim (fun h => .inl (.inl h)) .inr) (fun h => .inl (.inr h)))
     have hk0 := hkz
     rw [map_snoc (by omega), hxe3]
     refine Reps.snoc (F_out W' hkz hk1) ?_ rfl
     have e12 : x.2.1.take (min x.2.1.length 12) = x.2.1.take 12 := by rw [Nat.min_comm]; exact List.take_eq_take_min.symm
     have e100 : x.2.2.2.take (min x.2.2.2.length 100) = x.2.2.2.take 100 := by rw [Nat.min_comm]; exact List.take_eq_take_min.symm
     have hN := own_told (own_keep O_q12 hk (fun k h h2 => h2.elim (fun h2 => NN_q12_out k h h2) (fun h2 => by have := (own_ob O_q12 h).1; omega)))
     have hT := C_take (m := min x.2.2.2.length 100) (C_to hDe3 hk0) (by omega)
     rw [e100] at hT
     rw [e12] at hN
     have hlN : min x.2.1.length 12 = (x.2.1.take 12).length := by rw [List.length_take]; omega
     have hlT : min x.2.2.2.length 100 = (x.2.2.2.take 100).length := by rw [List.length_take]; omega
     refine opt_mk x.1 (x.2.1.take 12) (adr x) (x.2.2.2.take 100) hlN hlT (by rw [← hlN]; exact hcapN) (by rw [← hlT]; omega) (by rw [← hlN]; exact hN) (by rw [← hlT]; exact hT)
    exact ⟨k + 1, by omega, Aout19, cout20, (n_out + 1), (zs ++ ([Value.int .i64 x.1, Value.slice Aq1213 (min x.2.1.length 12) cq1214] ++ b16 (adr x) ++ [Value.slice Te3 (min x.2.2.2.length 100) ce3])), En.sub hE ⟨rfl, rfl, rfl, rfl, trivial⟩, (by omega), (by omega), F9, O_out, Z_0_out, Z_z_out, K_0, K_z⟩
   ·
    refine c_reg R16_3_l ?_
    refine q0 p16_3_0 hE (st_move rfl) ?_; clear hE a; intro a hE
    refine q0 p16_3_1 hE (st_move rfl) ?_; clear hE a; intro a hE
    refine q0 p16_3_2 hE (st_len Try.underlying27 rfl) ?_; clear hE a; intro a hE
    refine q0 p16_3_3 hE (st_lss (b := true) rfl rfl (decide_eq_true hK1)) ?_; clear hE a; intro a hE
    refine q0 p16_3_4 hE (st_move rfl) ?_; clear hE a; intro a hE
    refine p_cons (s_still p16_3_5 hE (wn_some g16_3_4 rfl rfl) rfl (st_move rfl) ?_); clear hE a; intro a hE
    refine p_cons (s_still p16_3_6 hE (wn_some g16_3_4 rfl rfl) rfl (st_lss (b := false) rfl rfl (decide_eq_false hK2)) ?_); clear hE a; intro a hE
    refine q0 p16_3_7 hE (st_pick rfl rfl) ?_; clear hE a; intro a hE
    refine p_nil (x_norm ?_)
    refine c_cond (t := false) hE rfl ?_
    refine wp_exit (x_exit (x_exit (x_in (x_norm (c_reg R16_7_l ?_)))))
    refine q0 p16_7_0 hE (st_move rfl) ?_; clear hE a; intro a hE
    refine q0 p16_7_1 hE (st_assign rfl) ?_; clear hE a; intro a hE
    refine p_nil (x_norm (wp_ret ?_))
    refine ret_one (v := Value.slice A_out n_out c_out) rfl hE (.tmp rfl .nil) ?_
    have ek : ls.take k = ls.take 20 := by
      rcases Decidable.em (k = ls.length) with h | h
      · rw [h, List.take_length, List.take_of_length_le (by omega)]
      · rw [show k = 20 by omega]
    have hlen : (toL ls).length = k := by
      have : k ≤ ls.length := by omega
      rw [show toL ls = (ls.take 20).map toV from rfl, ← ek, List.length_map, List.length_take]; omega
    subst hn_out
    have hcap := (own_caps O_out).1
    exact ⟨A_out, c_out, by rw [hlen], by rw [hlen]; exact hcap, fun W' hkz hk => by
      have hr := F_out W' hkz (hk.mono (fun _ h => .inr h))
      rw [ek] at hr
      have := own_C (d := dO) (own_keep O_out hk (fun k h h2 => by have := (own_ob O_out h).1; omega)) hr hlen
      rw [hlen]; exact this, K_0⟩
  ·
   refine c_reg R16_3_l ?_
   refine q0 p16_3_0 hE (st_move rfl) ?_; clear hE a; intro a hE
   refine q0 p16_3_1 hE (st_move rfl) ?_; clear hE a; intro a hE
   refine q0 p16_3_2 hE (st_len Try.underlying27 rfl) ?_; clear hE a; intro a hE
   refine q0 p16_3_3 hE (st_lss (b := false) rfl rfl (decide_eq_false hK1)) ?_; clear hE a; intro a hE
   refine q0 p16_3_4 hE (st_move rfl) ?_; clear hE a; intro a hE
   refine p_cons (s_skip p16_3_5 hE (wn_some g16_3_4 rfl rfl) rfl ?_); clear hE a; intro a hE
   refine p_cons (s_skip p16_3_6 hE (wn_some g16_3_4 rfl rfl) rfl ?_); clear hE a; intro a hE
   refine q0 p16_3_7 hE (st_pick rfl rfl) ?_; clear hE a; intro a hE
   refine p_nil (x_norm ?_)
   refine c_cond (t := false) hE rfl ?_
   refine wp_exit (x_exit (x_exit (x_in (x_norm (c_reg R16_7_l ?_)))))
   refine q0 p16_7_0 hE (st_move rfl) ?_; clear hE a; intro a hE
   refine q0 p16_7_1 hE (st_assign rfl) ?_; clear hE a; intro a hE
   refine p_nil (x_norm (wp_ret ?_))
   refine ret_one (v := Value.slice A_out n_out c_out) rfl hE (.tmp rfl .nil) ?_
   have ek : ls.take k = ls.take 20 := by
     rcases Decidable.em (k = ls.length) with h | h
     · rw [h, List.take_length, List.take_of_length_le (by omega)]
     · rw [show k = 20 by omega]
   have hlen : (toL ls).length = k := by
     have : k ≤ ls.length := by omega
     rw [show toL ls = (ls.take 20).map toV from rfl, ← ek, List.length_map, List.length_take]; omega
   subst hn_out
   have hcap := (own_caps O_out).1
   exact ⟨A_out, c_out, by rw [hlen], by rw [hlen]; exact hcap, fun W' hkz hk => by
     have hr := F_out W' hkz (hk.mono (fun _ h => .inr h))
     rw [ek] at hr
     have := own_C (d := dO) (own_keep O_out hk (fun k h h2 => by have := (own_ob O_out h).1; omega)) hr hlen
     rw [hlen]; exact this, K_0⟩
theorem to_any (A : Option Addr) (c : Nat) (ls : List OV) (w : World) (hF : Kd.C dO w A ls.length ls) (hm : ls.length ≤ c) (hmx : ls.length ≤ maxLen) : Calls Try.prog 16 #[.slice A ls.length c] w fun e w' => ∃ A' c', e = .returned (.slice A' (toL ls).length c') ∧ (toL ls).length ≤ c' ∧ (∀ W', Kp w' W' (fun _ => False) → Kd.C dO W' A' (toL ls).length (toL ls)) ∧ Kp w w' (fun _ => False) := by
 refine (to_far A c ls w w hF (Kp.refl _ _) hm hmx).mono ?_
 rintro e w1 ⟨A', c', rfl, h1, h2, h3⟩
 exact ⟨A', c', rfl, h1, fun W' hk => h2 W' (h3.then_ hk (fun _ h => h.elim)) (hk.mono (fun _ h => h.elim)), h3⟩
theorem R12_0_l : List.range (regOf Try.f12 0).size = [0] := by kernel_rfl
theorem R12_1_l : List.range (regOf Try.f12 1).size = [0] := by kernel_rfl
theorem R12_2_l : List.range (regOf Try.f12 2).size = [0] := by kernel_rfl
theorem R12_3_l : List.range (regOf Try.f12 3).size = [0, 1, 2, 3] := by kernel_rfl
theorem R12_4_l : List.range (regOf Try.f12 4).size = [0, 1, 2] := by kernel_rfl
theorem R12_6_l : List.range (regOf Try.f12 6).size = [0, 1] := by kernel_rfl
theorem body12 : Try.f12.body = some (.seq (.region 0 (regOf Try.f12 0) false) (.seq (.region 1 (regOf Try.f12 1) false) (.seq (.seq (.region 2 (regOf Try.f12 2) false) (.block 0 (.loop (.seq (.seq (.region 3 (regOf Try.f12 3) false) (.cond (Operand.tmp 8) (.skip) (.exit 0))) (.seq (.block 1 (.region 5 (regOf Try.f12 5) true)) (.region 4 (regOf Try.f12 4) false)))))) (.seq (.region 6 (regOf Try.f12 6) false) (.ret))))) := by kernel_rfl
theorem p12_0_0 : pj (regOf Try.f12 0) 0 = some (some 2, .assign (.const (.slice none 0 0)), 27, none) := by kernel_rfl
theorem p12_1_0 : pj (regOf Try.f12 1) 0 = some (some 3, .assign (.const (.slice none 0 0)), 27, none) := by kernel_rfl
theorem p12_2_0 : pj (regOf Try.f12 2) 0 = some (some 4, .assign (.const (.int .i64 0)), 3, none) := by kernel_rfl
theorem p12_3_0 : pj (regOf Try.f12 3) 0 = some (some 5, .move (.tmp 4), 3, none) := by kernel_rfl
theorem p12_3_1 : pj (regOf Try.f12 3) 1 = some (some 6, .move (.tmp 0), 23, none) := by kernel_rfl
theorem p12_3_2 : pj (regOf Try.f12 3) 2 = some (some 7, .call { callee := .builtin .len, args := #[.tmp 6], argTypes := #[23] }, 3, none) := by kernel_rfl
theorem p12_3_3 : pj (regOf Try.f12 3) 3 = some (some 8, .binOp .lss 3 (.tmp 5) (.tmp 7) 3, 4, none) := by kernel_rfl
theorem ns12_5 : Region.noSelect (regOf Try.f12 5) = true := by kernel_rfl
theorem p12_5_0 : pj (regOf Try.f12 5) 0 = some (some 11, .move (.tmp 3), 27, none) := by kernel_rfl
theorem p12_5_1 : pj (regOf Try.f12 5) 1 = some (some 12, .move (.tmp 0), 23, none) := by kernel_rfl
theorem p12_5_2 : pj (regOf Try.f12 5) 2 = some (some 13, .move (.tmp 4), 3, none) := by kernel_rfl
theorem p12_5_3 : pj (regOf Try.f12 5) 3 = some (some 14, .indexAddr 23 (.tmp 12) (.tmp 13), 0, none) := by kernel_rfl
theorem tS50 : (Try.prog.info? 50).map (·.size) = some 19 := by kernel_rfl
theorem p12_5_4 : pj (regOf Try.f12 5) 4 = some (some 15, .fieldAddr 50 (.tmp 14) 0, 0, none) := by kernel_rfl
theorem p12_5_5 : pj (regOf Try.f12 5) 5 = some (some 16, .load 3 (.tmp 15), 3, none) := by kernel_rfl
theorem p12_5_6 : pj (regOf Try.f12 5) 6 = some (some 17, .move (.tmp 0), 23, none) := by kernel_rfl
theorem p12_5_7 : pj (regOf Try.f12 5) 7 = some (some 18, .move (.tmp 4), 3, none) := by kernel_rfl
theorem p12_5_8 : pj (regOf Try.f12 5) 8 = some (some 19, .indexAddr 23 (.tmp 17) (.tmp 18), 0, none) := by kernel_rfl
theorem p12_5_9 : pj (regOf Try.f12 5) 9 = some (some 20, .fieldAddr 50 (.tmp 19) 1, 0, none) := by kernel_rfl
theorem p12_5_10 : pj (regOf Try.f12 5) 10 = some (some 21, .load 42 (.tmp 20), 42, none) := by kernel_rfl
theorem p12_5_11 : pj (regOf Try.f12 5) 11 = some (some 22, .move (.tmp 0), 23, none) := by kernel_rfl
theorem p12_5_12 : pj (regOf Try.f12 5) 12 = some (some 23, .move (.tmp 4), 3, none) := by kernel_rfl
theorem p12_5_13 : pj (regOf Try.f12 5) 13 = some (some 24, .indexAddr 23 (.tmp 22) (.tmp 23), 0, none) := by kernel_rfl
theorem p12_5_14 : pj (regOf Try.f12 5) 14 = some (some 25, .fieldAddr 50 (.tmp 24) 2, 0, none) := by kernel_rfl
theorem tS48 : (Try.prog.info? 48).map (·.size) = some 16 := by kernel_rfl
theorem p12_5_15 : pj (regOf Try.f12 5) 15 = some (some 26, .load 48 (.tmp 25), 48, none) := by kernel_rfl
theorem tA48 : (Try.prog.underlying 48).map aggD = some true := by kernel_rfl
theorem p12_5_16 : pj (regOf Try.f12 5) 16 = some (some 27, .move (.tmp 0), 23, none) := by kernel_rfl
theorem p12_5_17 : pj (regOf Try.f12 5) 17 = some (some 28, .move (.tmp 4), 3, none) := by kernel_rfl
theorem p12_5_18 : pj (regOf Try.f12 5) 18 = some (some 29, .indexAddr 23 (.tmp 27) (.tmp 28), 0, none) := by kernel_rfl
theorem p12_5_19 : pj (regOf Try.f12 5) 19 = some (some 30, .fieldAddr 50 (.tmp 29) 3, 0, none) := by kernel_rfl
theorem p12_5_20 : pj (regOf Try.f12 5) 20 = some (some 31, .load 22 (.tmp 30), 22, none) := by kernel_rfl
theorem p12_5_21 : pj (regOf Try.f12 5) 21 = some (some 32, .build 45 #[(0, .tmp 16), (1, .tmp 21), (2, .tmp 26), (3, .tmp 31)], 45, none) := by kernel_rfl
theorem p12_5_22 : pj (regOf Try.f12 5) 22 = some (some 33, .buildSlice 27 1 #[(0, .tmp 32)], 27, none) := by kernel_rfl
theorem p12_5_23 : pj (regOf Try.f12 5) 23 = some (some 34, .call { callee := .builtin .append, args := #[.tmp 11, .tmp 33], argTypes := #[27, 27] }, 27, none) := by kernel_rfl
theorem eD45 : elemD Try.prog 45 = some (19, 19, 72) := by kernel_rfl
theorem p12_5_24 : pj (regOf Try.f12 5) 24 = some (some 3, .assign (.tmp 34), 27, none) := by kernel_rfl
theorem p12_4_0 : pj (regOf Try.f12 4) 0 = some (some 9, .move (.tmp 4), 3, none) := by kernel_rfl
theorem p12_4_1 : pj (regOf Try.f12 4) 1 = some (some 10, .binOp .add 3 (.tmp 9) (.const (.int .i64 1)) 3, 3, none) := by kernel_rfl
theorem p12_4_2 : pj (regOf Try.f12 4) 2 = some (some 4, .assign (.tmp 10), 3, none) := by kernel_rfl
theorem p12_6_0 : pj (regOf Try.f12 6) 0 = some (some 35, .move (.tmp 3), 27, none) := by kernel_rfl
theorem p12_6_1 : pj (regOf Try.f12 6) 1 = some (some 2, .assign (.tmp 35), 27, none) := by kernel_rfl
set_option maxHeartbeats 4000000 in
theorem ofl_any (A : Option Addr) (c : Nat) (ls : List OV) (w : World) (hF : Kd.C dO w A ls.length ls) (hm : ls.length ≤ c) (hmx : ls.length ≤ 1954687338211) : Calls Try.prog 12 #[.slice A ls.length c] w fun e w' => ∃ A' c', e = .returned (.slice A' (ls.map ofV).length c') ∧ (ls.map ofV).length ≤ c' ∧ (∀ W', Kp w' W' (fun _ => False) → Kd.C dO W' A' (ls.map ofV).length (ls.map ofV)) ∧ Kp w w' (fun _ => False) := by
 have K_0 := Kp.refl w (fun _ => False)
 refine enter (args := [Value.slice A ls.length c]) (n := 36) Try.func12 body12 rfl rfl rfl ?_
 intro a hE
 refine c_reg R12_0_l ?_
 refine q0 p12_0_0 hE (st_assign rfl) ?_; clear hE a; intro a hE
 refine p_nil (x_norm (c_reg R12_1_l ?_))
 refine q0 p12_1_0 hE (st_assign rfl) ?_; clear hE a; intro a hE
 refine p_nil (x_norm (wp_seq (c_reg R12_2_l ?_)))
 refine q0 p12_2_0 hE (st_assign rfl) ?_; clear hE a; intro a hE
 refine p_nil (x_norm (wp_block ?_))
 have O_out := own_none w w.heap.size 45 19
 have Z_0_out : ∀ k, OB none k → (fun _ => False) k ∨ w.heap.size ≤ k := fun k h => absurd h ob_nil
 refine c_loop (α := Nat) (fun k a W => ∃ (A_out : Option Addr) (c_out : Nat) (n_out : Nat), ∃ (zs : List Value), En 36 a [(0, Value.slice A ls.length c), (2, Value.slice none 0 0), (4, Value.int .i64 (k : Int)), (3, Value.slice A_out n_out c_out)] ∧ (k ≤ ls.length) ∧ n_out = k ∧ (∀ W', Kp W W' (fun k => OB A_out k) → Reps (Kd.K dO W') 19 ((ls.take k).map ofV) zs) ∧ W.ownsRow w.heap.size 45 19 (.slice A_out n_out c_out) n_out zs ∧ (∀ k, OB A_out k → (fun _ => False) k ∨ w.heap.size ≤ k) ∧ Kp w W (fun _ => False)) (fun k => ls.length - k) (0) ?_ ?_
 ·
  exact ⟨none, 0, 0, [], En.sub hE ⟨rfl, rfl, rfl, rfl, trivial⟩, Nat.zero_le _, rfl, (fun W' hk => Reps.none _ _), O_out, Z_0_out, K_0⟩
 ·
  clear hE a
  rintro k a w1 ⟨A_out, c_out, n_out, zs, hE, hk9, hn_out, F_out, O_out, Z_0_out, K_0⟩
  refine wp_seq ?_
  rcases Decidable.em ((k : Int) < (ls.length : Int)) with hK1 | hK1
  ·
   refine c_reg R12_3_l ?_
   refine q0 p12_3_0 hE (st_move rfl) ?_; clear hE a; intro a hE
   refine q0 p12_3_1 hE (st_move rfl) ?_; clear hE a; intro a hE
   refine q0 p12_3_2 hE (st_len Try.underlying23 rfl) ?_; clear hE a; intro a hE
   refine q0 p12_3_3 hE (st_lss (b := true) rfl rfl (decide_eq_true hK1)) ?_; clear hE a; intro a hE
   refine p_nil (x_norm ?_)
   refine c_cond (t := true) hE rfl ?_
   refine wp_skip (x_norm (wp_seq (wp_block ?_)))
   have hkl : k < ls.length := by omega
   have K_s2 := Kp.refl w1 (fun k => OB A_out k)
   have Z_s2_out : ∀ k, OB A_out k → (fun k => OB A_out k) k ∨ w1.heap.size ≤ k := fun k h => .inl h
   obtain ⟨hAe3, cce3, hKe3, hce3⟩ := C_elem (i := k) hF zO (show k < ls.length by omega)
   obtain ⟨x, hxe3⟩ : ∃ x, List.getD ls k zO = x := ⟨_, rfl⟩
   rw [hxe3] at hKe3
   obtain ⟨Ae3, qe3, Te3, ce3, rfl, hle3, hme3, hCe3, hDe3⟩ := opt_open hKe3
   refine c_draw (S := fun W => (∀ j u, (([Value.int .i64 x.1, Value.slice Ae3 x.2.1.length qe3] ++ b16 (adr x) ++ [Value.slice Te3 x.2.2.2.length ce3]))[j]? = some u → W.cell? (ea A (k * 19 + j)) = some u) ∧ True) rfl rfl (listed := #[false, false, false, false, false, false, false, false, false, false, false, false, false, false, false, false, false, false, false, false, false, false, false, false, false]) rfl ?_
   intro w4 hh hk
   replace O_out := own_keep O_out hk (fun _ _ h => h)
   replace K_0 := K_0.then_ hk (fun _ h => h.elim)
   replace K_s2 := K_s2.then_ hk (fun _ h => h.elim)
   clear hh hk
   have hS9 : (∀ j u, (([Value.int .i64 x.1, Value.slice Ae3 x.2.1.length qe3] ++ b16 (adr x) ++ [Value.slice Te3 x.2.2.2.length ce3]))[j]? = some u → w4.cell? (ea A (k * 19 + j)) = some u) ∧ True := ⟨(fun j u h => cell_to K_0 (hce3 j u h)), trivial⟩
   refine Rv.dq (v := Value.slice A_out n_out c_out) p12_5_0 ns12_5 hE wn_none hS9 (fun W hS => (st_move rfl)) ?_; clear hE a; intro a hE
   refine Rv.dq (v := Value.slice A ls.length c) p12_5_1 ns12_5 hE wn_none hS9 (fun W hS => (st_move rfl)) ?_; clear hE a; intro a hE
   refine Rv.dq (v := Value.int .i64 (k : Int)) p12_5_2 ns12_5 hE wn_none hS9 (fun W hS => (st_move rfl)) ?_; clear hE a; intro a hE
   refine Rv.dq (v := Value.pointer (some (ea A (k * 19)))) p12_5_3 ns12_5 hE wn_none hS9 (fun W hS => (st_indexAddrR (i := k) (s := 19) Try.underlying23 tS50 hAe3 rfl rfl (by omega))) ?_; clear hE a; intro a hE
   refine Rv.dq (v := Value.pointer (some (ea A (k * 19)))) p12_5_4 ns12_5 hE wn_none hS9 (fun W hS => (st_fieldAddrR (off := k * 19) (f0 := 0) (o' := k * 19) Try.underlying50 rfl tS3 rfl (by omega) rfl)) ?_; clear hE a; intro a hE
   refine Rv.dq (v := Value.int .i64 x.1) p12_5_5 ns12_5 hE wn_none hS9 (fun W hS => (st_loadR1 (off := k * 19) (j := 0) tA3 (hS.1) rfl (by omega) rfl)) ?_; clear hE a; intro a hE
   refine Rv.dq (v := Value.slice A ls.length c) p12_5_6 ns12_5 hE wn_none hS9 (fun W hS => (st_move rfl)) ?_; clear hE a; intro a hE
   refine Rv.dq (v := Value.int .i64 (k : Int)) p12_5_7 ns12_5 hE wn_none hS9 (fun W hS => (st_move rfl)) ?_; clear hE a; intro a hE
   refine Rv.dq (v := Value.pointer (some (ea A (k * 19)))) p12_5_8 ns12_5 hE wn_none hS9 (fun W hS => (st_indexAddrR (i := k) (s := 19) Try.underlying23 tS50 hAe3 rfl rfl (by omega))) ?_; clear hE a; intro a hE
   refine Rv.dq (v := Value.pointer (some (ea A (k * 19 + 1)))) p12_5_9 ns12_5 hE wn_none hS9 (fun W hS => (st_fieldAddrR (off := k * 19) (f0 := 1) (o' := k * 19 + 1) Try.underlying50 rfl tS42 rfl (by omega) rfl)) ?_; clear hE a; intro a hE
   refine Rv.dq (v := Value.slice Ae3 x.2.1.length qe3) p12_5_10 ns12_5 hE wn_none hS9 (fun W hS => (st_loadR1 (off := k * 19) (j := 1) tA42 (hS.1) rfl (by omega) rfl)) ?_; clear hE a; intro a hE
   refine Rv.dq (v := Value.slice A ls.length c) p12_5_11 ns12_5 hE wn_none hS9 (fun W hS => (st_move rfl)) ?_; clear hE a; intro a hE
   refine Rv.dq (v := Value.int .i64 (k : Int)) p12_5_12 ns12_5 hE wn_none hS9 (fun W hS => (st_move rfl)) ?_; clear hE a; intro a hE
   refine Rv.dq (v := Value.pointer (some (ea A (k * 19)))) p12_5_13 ns12_5 hE wn_none hS9 (fun W hS => (st_indexAddrR (i := k) (s := 19) Try.underlying23 tS50 hAe3 rfl rfl (by omega))) ?_; clear hE a; intro a hE
   refine Rv.dq (v := Value.pointer (some (ea A (k * 19 + 2)))) p12_5_14 ns12_5 hE wn_none hS9 (fun W hS => (st_fieldAddrR (off := k * 19) (f0 := 2) (o' := k * 19 + 2) Try.underlying50 rfl tS48 rfl (by omega) rfl)) ?_; clear hE a; intro a hE
   refine Rv.dq (v := Value.agg (b16 (adr x)).toArray) p12_5_15 ns12_5 hE wn_none hS9 (fun W hS => (st_loadR (off := k * 19) (j := 2) (k := 16) (vs := b16 (adr x)) tA48 tS48 (hS.1) rfl rfl (by omega) rfl)) ?_; clear hE a; intro a hE
   refine Rv.dq (v := Value.slice A ls.length c) p12_5_16 ns12_5 hE wn_none hS9 (fun W hS => (st_move rfl)) ?_; clear hE a; intro a hE
   refine Rv.dq (v := Value.int .i64 (k : Int)) p12_5_17 ns12_5 hE wn_none hS9 (fun W hS => (st_move rfl)) ?_; clear hE a; intro a hE
   refine Rv.dq (v := Value.pointer (some (ea A (k * 19)))) p12_5_18 ns12_5 hE wn_none hS9 (fun W hS => (st_indexAddrR (i := k) (s := 19) Try.underlying23 tS50 hAe3 rfl rfl (by omega))) ?_; clear hE a; intro a hE
   refine Rv.dq (v := Value.pointer (some (ea A (k * 19 + 18)))) p12_5_19 ns12_5 hE wn_none hS9 (fun W hS => (st_fieldAddrR (off := k * 19) (f0 := 18) (o' := k * 19 + 18) Try.underlying50 rfl tS22 rfl (by omega) rfl)) ?_; clear hE a; intro a hE
   refine Rv.dq (v := Value.slice Te3 x.2.2.2.length ce3) p12_5_20 ns12_5 hE wn_none hS9 (fun W hS => (st_loadR1 (off := k * 19) (j := 18) tA22 (hS.1) rfl (by omega) rfl)) ?_; clear hE a; intro a hE
   refine Rv.dq (v := Value.agg (([Value.int .i64 x.1, Value.slice Ae3 x.2.1.length qe3] ++ b16 (adr x) ++ [Value.slice Te3 x.2.2.2.length ce3])).toArray) p12_5_21 ns12_5 hE wn_none hS9 (fun W hS => (st_build (xs := [(0, Operand.tmp 16), (1, Operand.tmp 21), (2, Operand.tmp 26), (3, Operand.tmp 31)]) (vs := [(0, Value.int .i64 x.1), (1, Value.slice Ae3 x.2.1.length qe3), (2, Value.agg (b16 (adr x)).toArray), (3, Value.slice Te3 x.2.2.2.length ce3)]) (cs := (([Value.int .i64 x.1, Value.slice Ae3 x.2.1.length qe3] ++ b16 (adr x) ++ [Value.slice Te3 x.2.2.2.length ce3])).toArray) rfl (by kernel_rfl))) ?_; clear hE a; intro a hE
   refine d_one (by kernel_rfl) rfl (s_row (xs := [(0, Operand.tmp 32)]) (vs := [(0, Value.agg (([Value.int .i64 x.1, Value.slice Ae3 x.2.1.length qe3] ++ b16 (adr x) ++ [Value.slice Te3 x.2.2.2.length ce3])).toArray)]) (cs := (([Value.int .i64 x.1, Value.slice Ae3 x.2.1.length qe3] ++ b16 (adr x) ++ [Value.slice Te3 x.2.2.2.length ce3])).toArray) p12_5_22 hE wn_none rfl Try.underlying27 rfl (by kernel_rfl) ?_)
   clear hE a; intro g5 w6 z7 B_g5 hk a hE
   have z_0_g5 := Nat.le_trans K_0.kept.1 z7
   have z_s2_g5 := Nat.le_trans K_s2.kept.1 z7
   have Nb_out_g5 : ¬ OB A_out g5 := fun h => by have := (own_ob O_out h).2; omega
   replace O_out := own_keep O_out hk (fun _ _ h => h)
   replace K_0 := K_0.then_ hk (fun _ h => h.elim)
   replace K_s2 := K_s2.then_ hk (fun _ h => h.elim)
   clear hk
   refine ⟨⟨(fun j u h => cell_to K_0 (hce3 j u h)), trivial⟩, ?_⟩
   refine d_one (by kernel_rfl) rfl (s_append (s := 19) (xs := zs) (news := ([Value.int .i64 x.1, Value.slice Ae3 x.2.1.length qe3] ++ b16 (adr x) ++ [Value.slice Te3 x.2.2.2.length ce3])) p12_5_23 hE wn_none rfl Try.underlying27 eD45 (by decide) rfl O_out rfl rfl (newsB B_g5 rfl) (ones rfl) (by omega) (by omega) K_0.kept.1 ?_)
   clear hE a; intro Aout8 cout9 w10 O_out' hk hat a hE
   have Nb_out_g5' := grow_n Nb_out_g5 (blk_lt B_g5) hat
   have Z_0_out' := grow_z Z_0_out K_0.kept.1 hat
   have Z_s2_out' := grow_z Z_s2_out K_s2.kept.1 hat
   replace B_g5 := kp_blk B_g5 hk Nb_out_g5
   replace K_0 := K_0.then_ hk Z_0_out
   replace K_s2 := K_s2.then_ hk Z_s2_out
   replace Nb_out_g5 := Nb_out_g5'
   replace Z_0_out := Z_0_out'
   replace Z_s2_out := Z_s2_out'
   replace O_out := O_out'
   try clear O_out'
   clear hk hat
   refine ⟨⟨(fun j u h => cell_to K_0 (hce3 j u h)), trivial⟩, ?_⟩
   have hS9 : (∀ j u, (([Value.int .i64 x.1, Value.slice Ae3 x.2.1.length qe3] ++ b16 (adr x) ++ [Value.slice Te3 x.2.2.2.length ce3]))[j]? = some u → w10.cell? (ea A (k * 19 + j)) = some u) ∧ True := ⟨(fun j u h => cell_to K_0 (hce3 j u h)), trivial⟩
   refine Rv.dq (v := Value.slice Aout8 (n_out + 1) cout9) p12_5_24 ns12_5 hE wn_none hS9 (fun W hS => (st_assign rfl)) ?_; clear hE a; intro a hE
   refine d_end (by kernel_rfl) ?_
   refine x_normB (x_norm (c_regL R12_4_l ?_))
   refine q0 p12_4_0 hE (st_move rfl) ?_; clear hE a; intro a hE
   refine q0 p12_4_1 hE (st_add (z := (k : Int) + 1) rfl rfl (wr_i64 _ (by omega) (by omega))) ?_; clear hE a; intro a hE
   refine q0 p12_4_2 hE (st_assign rfl) ?_; clear hE a; intro a hE
   refine p_nil (x_norm ?_)
   have F9 : ∀ W', Kp w10 W' (fun k => OB Aout8 k) → Reps (Kd.K dO W') 19 ((ls.take (k + 1)).map ofV) (zs ++ ([Value.int .i64 x.1, Value.slice Ae3 x.2.1.length qe3] ++ b16 (adr x) ++ [Value.slice Te3 x.2.2.2.length ce3])) := fun W' hk => by
    have hk1 : Kp w1 W' (fun k => OB A_out k) := K_s2.then_ hk (fun k h => Z_s2_out k h)
    have hk0 : Kp w W' (fun _ => False) := K_0.then_ hk (fun k h => Z_0_out k h)
    rw [map_snoc (by omega), hxe3]
    refine Reps.snoc (F_out W' hk1) ?_ rfl
    exact opt_mk x.1 x.2.1 (adr x) x.2.2.2 rfl rfl hle3 hme3 (C_to hCe3 hk0) (C_to hDe3 hk0)
   exact ⟨k + 1, by omega, Aout8, cout9, (n_out + 1), (zs ++ ([Value.int .i64 x.1, Value.slice Ae3 x.2.1.length qe3] ++ b16 (adr x) ++ [Value.slice Te3 x.2.2.2.length ce3])), En.sub hE ⟨rfl, rfl, rfl, rfl, trivial⟩, (by omega), (by omega), F9, O_out, Z_0_out, K_0⟩
  ·
   refine c_reg R12_3_l ?_
   refine q0 p12_3_0 hE (st_move rfl) ?_; clear hE a; intro a hE
   refine q0 p12_3_1 hE (st_move rfl) ?_; clear hE a; intro a hE
   refine q0 p12_3_2 hE (st_len Try.underlying23 rfl) ?_; clear hE a; intro a hE
   refine q0 p12_3_3 hE (st_lss (b := false) rfl rfl (decide_eq_false hK1)) ?_; clear hE a; intro a hE
   refine p_nil (x_norm ?_)
   refine c_cond (t := false) hE rfl ?_
   refine wp_exit (x_exit (x_exit (x_in (x_norm (c_reg R12_6_l ?_)))))
   refine q0 p12_6_0 hE (st_move rfl) ?_; clear hE a; intro a hE
   refine q0 p12_6_1 hE (st_assign rfl) ?_; clear hE a; intro a hE
   refine p_nil (x_norm (wp_ret ?_))
   refine ret_one (v := Value.slice A_out n_out c_out) rfl hE (.tmp rfl .nil) ?_
   have ek : ls.take k = ls := by
     rw [show k = ls.length by omega, List.take_length]
   have hlen : (ls.map ofV).length = k := by
     have : k ≤ ls.length := by omega
     rw [show (ls.map ofV) = ((ls).map ofV) from rfl, ← ek, List.length_map, List.length_take]; omega
   subst hn_out
   have hcap := (own_caps O_out).1
   exact ⟨A_out, c_out, by rw [hlen], by rw [hlen]; exact hcap, fun W' hk => by
     have hr := F_out W' (hk.mono (fun _ h => h.elim))
     rw [ek] at hr
     have := own_C (d := dO) (own_keep O_out hk (fun _ _ h => h)) hr hlen
     rw [hlen]; exact this, K_0⟩
end Go.Proofs.Ytgpclehnomkbmaa.Or
