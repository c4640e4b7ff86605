/- The law MetricLinks, walked. -/
import Derived.Test.YtpnpfapdjdcnbaaMetCos
import Derived.Test.YtpnpfapdjdcnbaaKdOpen
set_option maxRecDepth 100000
set_option linter.unusedVariables false
set_option linter.unusedSimpArgs false
namespace Go.Proofs.Ytpnpfapdjdcnbaa.MLin
open Go.RowKit Go.Proofs.YtpnpfapdjdcnbaaW.PrintWords Go.Proofs.Ytpnpfapdjdcnbaa.Ds Go.Proofs.Ytpnpfapdjdcnbaa.Fl Go.Proofs.Ytpnpfapdjdcnbaa.Me Go.Proofs.Ytpnpfapdjdcnbaa.MCos Go.Proofs.Ytpnpfapdjdcnbaa.KdOpen
open Go.Proofs.Ytpnpfapdjdcnbaa.Pk (Kp)
open Ieee (double)
theorem wf_bd {n : Int} (h : (Lit.int .i64 n).wf = true) : -9223372036854775808 ≤ n ∧ n ≤ 9223372036854775807 := by
  simpa [Lit.wf, IntKind.min, IntKind.max, IntKind.signed, IntKind.bits] using h
theorem act_open {w : World} {x : Int × Int × Nat} {c : List Value} (h : Kd.K (Kd.pair (Kd.int .i64) (Kd.pair (Kd.int .i64) Kf)) w x c) : c = [.int .i64 x.1, .int .i64 x.2.1, .float .f64 x.2.2] := by
  obtain ⟨c0, c1, rfl, h0, c2, c3, rfl, h1, h2⟩ := h
  subst h0; subst h1; subst h2
  rfl
theorem getD_mem {α : Type} {l : List α} {i : Nat} (h : i < l.length) (z : α) : l.getD i z ∈ l := by
  rw [List.getD_eq_getElem?_getD, List.getElem?_eq_getElem h]
  exact List.getElem_mem h
theorem R18_0_l : List.range (regOf Try.f18 0).size = [0, 1, 2] := by kernel_rfl
theorem R18_1_l : List.range (regOf Try.f18 1).size = [0, 1, 2, 3] := by kernel_rfl
theorem R18_2_l : List.range (regOf Try.f18 2).size = [0, 1, 2, 3, 4, 5, 6, 7, 8] := by kernel_rfl
theorem R18_3_l : List.range (regOf Try.f18 3).size = [0, 1, 2, 3, 4, 5, 6, 7, 8] := by kernel_rfl
theorem R18_4_l : List.range (regOf Try.f18 4).size = [0, 1, 2, 3, 4, 5, 6, 7, 8, 9] := by kernel_rfl
theorem R18_5_l : List.range (regOf Try.f18 5).size = [0, 1, 2, 3, 4] := by kernel_rfl
theorem R18_6_l : List.range (regOf Try.f18 6).size = [0, 1, 2, 3] := by kernel_rfl
theorem body18 : Try.f18.body = some (.seq (.region 0 (regOf Try.f18 0) false) (.seq (.seq (.region 1 (regOf Try.f18 1) false) (.cond (Operand.tmp 10) (.region 2 (regOf Try.f18 2) false) (.skip))) (.seq (.region 3 (regOf Try.f18 3) false) (.seq (.region 4 (regOf Try.f18 4) false) (.seq (.region 5 (regOf Try.f18 5) false) (.cond (Operand.tmp 39) (.region 6 (regOf Try.f18 6) false) (.skip))))))) := by kernel_rfl
theorem p18_0_0 : pj (regOf Try.f18 0) 0 = some (some 5, Op.move (Operand.tmp 1), 3, none) := by kernel_rfl
theorem p18_0_1 : pj (regOf Try.f18 0) 1 = some (some 6, Op.convert 3 22 (Operand.tmp 5), 22, none) := by kernel_rfl
theorem p18_0_2 : pj (regOf Try.f18 0) 2 = some (some 4, Op.assign (Operand.tmp 6), 22, none) := by kernel_rfl
theorem p18_1_0 : pj (regOf Try.f18 1) 0 = some (some 7, Op.move (Operand.tmp 0), 39, none) := by kernel_rfl
theorem p18_1_1 : pj (regOf Try.f18 1) 1 = some (some 8, Op.nilCheck (Operand.tmp 7), 0, none) := by kernel_rfl
theorem p18_1_2 : pj (regOf Try.f18 1) 2 = some (some 9, Op.fieldAddr 41 (Operand.tmp 8) 1, 0, none) := by kernel_rfl
theorem tS4 : (Try.prog.info? 4).map (·.size) = some 1 := by kernel_rfl
theorem p18_1_3 : pj (regOf Try.f18 1) 3 = some (some 10, Op.load 4 (Operand.tmp 9), 4, none) := by kernel_rfl
theorem tA4 : (Try.prog.underlying 4).map aggD = some false := by kernel_rfl
theorem p18_2_0 : pj (regOf Try.f18 2) 0 = some (some 11, Op.move (Operand.tmp 0), 39, none) := by kernel_rfl
theorem p18_2_1 : pj (regOf Try.f18 2) 1 = some (some 12, Op.nilCheck (Operand.tmp 11), 0, none) := by kernel_rfl
theorem p18_2_2 : pj (regOf Try.f18 2) 2 = some (some 13, Op.fieldAddr 41 (Operand.tmp 12) 0, 0, none) := by kernel_rfl
theorem tS22 : (Try.prog.info? 22).map (·.size) = some 1 := by kernel_rfl
theorem p18_2_3 : pj (regOf Try.f18 2) 3 = some (some 14, Op.load 22 (Operand.tmp 13), 22, none) := by kernel_rfl
theorem tA22 : (Try.prog.underlying 22).map aggD = some false := by kernel_rfl
theorem p18_2_4 : pj (regOf Try.f18 2) 4 = some (some 15, Op.binOp BinOp.mul 22 (Operand.tmp 14) (Operand.const (Value.float FloatKind.f64 4619567317775286272)) 22, 22, none) := by kernel_rfl
theorem p18_2_5 : pj (regOf Try.f18 2) 5 = some (some 16, Op.move (Operand.tmp 4), 22, none) := by kernel_rfl
theorem p18_2_6 : pj (regOf Try.f18 2) 6 = some (some 17, Op.binOp BinOp.add 22 (Operand.tmp 15) (Operand.tmp 16) 22, 22, none) := by kernel_rfl
theorem p18_2_7 : pj (regOf Try.f18 2) 7 = some (some 18, Op.binOp BinOp.quo 22 (Operand.tmp 17) (Operand.const (Value.float FloatKind.f64 4620693217682128896)) 22, 22, none) := by kernel_rfl
theorem p18_2_8 : pj (regOf Try.f18 2) 8 = some (some 4, Op.assign (Operand.tmp 18), 22, none) := by kernel_rfl
theorem p18_3_0 : pj (regOf Try.f18 3) 0 = some (some 19, Op.move (Operand.tmp 0), 39, none) := by kernel_rfl
theorem p18_3_1 : pj (regOf Try.f18 3) 1 = some (some 20, Op.move (Operand.tmp 0), 39, none) := by kernel_rfl
theorem p18_3_2 : pj (regOf Try.f18 3) 2 = some (some 21, Op.move (Operand.tmp 4), 22, none) := by kernel_rfl
theorem p18_3_3 : pj (regOf Try.f18 3) 3 = some (some 22, Op.nilCheck (Operand.tmp 19), 0, none) := by kernel_rfl
theorem p18_3_4 : pj (regOf Try.f18 3) 4 = some (some 23, Op.fieldAddr 41 (Operand.tmp 22) 0, 0, none) := by kernel_rfl
theorem p18_3_5 : pj (regOf Try.f18 3) 5 = some (none, Op.store 22 (Operand.tmp 23) (Operand.tmp 21), 0, none) := by kernel_rfl
theorem p18_3_6 : pj (regOf Try.f18 3) 6 = some (some 24, Op.nilCheck (Operand.tmp 20), 0, none) := by kernel_rfl
theorem p18_3_7 : pj (regOf Try.f18 3) 7 = some (some 25, Op.fieldAddr 41 (Operand.tmp 24) 1, 0, none) := by kernel_rfl
theorem p18_3_8 : pj (regOf Try.f18 3) 8 = some (none, Op.store 4 (Operand.tmp 25) (Operand.const (Value.bool true)), 0, none) := by kernel_rfl
theorem p18_4_0 : pj (regOf Try.f18 4) 0 = some (some 26, Op.move (Operand.tmp 0), 39, none) := by kernel_rfl
theorem p18_4_1 : pj (regOf Try.f18 4) 1 = some (some 27, Op.move (Operand.tmp 0), 39, none) := by kernel_rfl
theorem p18_4_2 : pj (regOf Try.f18 4) 2 = some (some 28, Op.nilCheck (Operand.tmp 27), 0, none) := by kernel_rfl
theorem p18_4_3 : pj (regOf Try.f18 4) 3 = some (some 29, Op.fieldAddr 41 (Operand.tmp 28) 2, 0, none) := by kernel_rfl
theorem tS3 : (Try.prog.info? 3).map (·.size) = some 1 := by kernel_rfl
theorem p18_4_4 : pj (regOf Try.f18 4) 4 = some (some 30, Op.load 3 (Operand.tmp 29), 3, none) := by kernel_rfl
theorem tA3 : (Try.prog.underlying 3).map aggD = some false := by kernel_rfl
theorem p18_4_5 : pj (regOf Try.f18 4) 5 = some (some 31, Op.move (Operand.tmp 1), 3, none) := by kernel_rfl
theorem p18_4_6 : pj (regOf Try.f18 4) 6 = some (some 32, Op.binOp BinOp.add 3 (Operand.tmp 30) (Operand.tmp 31) 3, 3, none) := by kernel_rfl
theorem p18_4_7 : pj (regOf Try.f18 4) 7 = some (some 33, Op.nilCheck (Operand.tmp 26), 0, none) := by kernel_rfl
theorem p18_4_8 : pj (regOf Try.f18 4) 8 = some (some 34, Op.fieldAddr 41 (Operand.tmp 33) 2, 0, none) := by kernel_rfl
theorem p18_4_9 : pj (regOf Try.f18 4) 9 = some (none, Op.store 3 (Operand.tmp 34) (Operand.tmp 32), 0, none) := by kernel_rfl
theorem p18_5_0 : pj (regOf Try.f18 5) 0 = some (some 35, Op.move (Operand.tmp 0), 39, none) := by kernel_rfl
theorem p18_5_1 : pj (regOf Try.f18 5) 1 = some (some 36, Op.nilCheck (Operand.tmp 35), 0, none) := by kernel_rfl
theorem p18_5_2 : pj (regOf Try.f18 5) 2 = some (some 37, Op.fieldAddr 41 (Operand.tmp 36) 2, 0, none) := by kernel_rfl
theorem p18_5_3 : pj (regOf Try.f18 5) 3 = some (some 38, Op.load 3 (Operand.tmp 37), 3, none) := by kernel_rfl
theorem p18_5_4 : pj (regOf Try.f18 5) 4 = some (some 39, Op.binOp BinOp.gtr 3 (Operand.tmp 38) (Operand.const (Value.int IntKind.i64 1099511627776)) 3, 4, none) := by kernel_rfl
theorem p18_6_0 : pj (regOf Try.f18 6) 0 = some (some 40, Op.move (Operand.tmp 0), 39, none) := by kernel_rfl
theorem p18_6_1 : pj (regOf Try.f18 6) 1 = some (some 41, Op.nilCheck (Operand.tmp 40), 0, none) := by kernel_rfl
theorem p18_6_2 : pj (regOf Try.f18 6) 2 = some (some 42, Op.fieldAddr 41 (Operand.tmp 41) 2, 0, none) := by kernel_rfl
theorem p18_6_3 : pj (regOf Try.f18 6) 3 = some (none, Op.store 3 (Operand.tmp 42) (Operand.const (Value.int IntKind.i64 1099511627776)), 0, none) := by kernel_rfl
set_option maxHeartbeats 4000000 in
theorem rsample (b m n : Nat) (is : Bool) (s : Int) (hm : is = true → right m) (h1 : 1 ≤ n) (h2 : n ≤ 16) (hs : 0 ≤ s ∧ s ≤ 1099511627776) (w : World) (hb : w.heap[b]? = some (.cells #[.float .f64 m, .bool is, .int .i64 s] 41 (0, 0))) : Calls Try.prog 18 #[.pointer (some ⟨b, 0, none⟩), .int .i64 (n : Int)] w fun e w' => e = .returned (.tuple #[]) ∧ w'.heap[b]? = some (.cells #[.float .f64 (moveF is m n), .bool true, .int .i64 (senF s (n : Int))] 41 (0, 0)) ∧ Kp w w' (fun k => k = b) := by
  have K_0 := Kp.refl w (fun k => k = b)
  have B_b := hb
  refine enter (args := [Value.pointer (some ⟨b, 0, none⟩), Value.int .i64 (n : Int)]) (n := 43) Try.func18 body18 rfl rfl rfl ?_
  intro a hE
  refine c_reg R18_0_l ?_
  refine p_cons (s_still p18_0_0 hE wn_none rfl (st_move rfl) ?_)
  clear hE a; intro a hE
  refine p_cons (s_still p18_0_1 hE wn_none rfl (st_i2f (z := (fl n)) (by kernel_rfl) Try.underlying22 rfl (i2f_nat _)) ?_)
  clear hE a; intro a hE
  refine p_cons (s_still p18_0_2 hE wn_none rfl (st_assign rfl) ?_)
  clear hE a; intro a hE
  refine p_nil ?_
  refine x_norm ?_
  refine wp_seq ?_
  rcases Decidable.em (is = true) with hIS | hIS
  ·
    obtain rfl : is = true := hIS
    obtain ⟨r1, r2, r3, hr1, hr2, hr3, hr4⟩ := move_ok (hm rfl) h1 h2
    refine c_reg R18_1_l ?_
    refine p_cons (s_still p18_1_0 hE wn_none rfl (st_move rfl) ?_)
    clear hE a; intro a hE
    refine p_cons (s_still p18_1_1 hE wn_none rfl (st_nil rfl) ?_)
    clear hE a; intro a hE
    refine p_cons (s_still p18_1_2 hE wn_none rfl (st_fieldAddr Try.underlying41 rfl tS4 rfl rfl) ?_)
    clear hE a; intro a hE
    refine p_cons (s_still p18_1_3 hE wn_none rfl (st_load1 tA4 rfl ((blk_cell B_b 1).trans rfl)) ?_)
    clear hE a; intro a hE
    refine p_nil ?_
    refine x_norm ?_
    refine c_cond (t := true) hE rfl ?_
    refine c_regL R18_2_l ?_
    refine p_cons (s_still p18_2_0 hE wn_none rfl (st_move rfl) ?_)
    clear hE a; intro a hE
    refine p_cons (s_still p18_2_1 hE wn_none rfl (st_nil rfl) ?_)
    clear hE a; intro a hE
    refine p_cons (s_still p18_2_2 hE wn_none rfl (st_fieldAddr Try.underlying41 rfl tS22 rfl rfl) ?_)
    clear hE a; intro a hE
    refine p_cons (s_still p18_2_3 hE wn_none rfl (st_load1 tA22 rfl ((blk_cell B_b 0).trans rfl)) ?_)
    clear hE a; intro a hE
    refine p_cons (s_still p18_2_4 hE wn_none rfl (st_farith (z := r1) rfl rfl rfl hr1) ?_)
    clear hE a; intro a hE
    refine p_cons (s_still p18_2_5 hE wn_none rfl (st_move rfl) ?_)
    clear hE a; intro a hE
    refine p_cons (s_still p18_2_6 hE wn_none rfl (st_farith (z := r2) rfl rfl rfl hr2) ?_)
    clear hE a; intro a hE
    refine p_cons (s_still p18_2_7 hE wn_none rfl (st_farith (z := r3) rfl rfl rfl hr3) ?_)
    clear hE a; intro a hE
    refine p_cons (s_still p18_2_8 hE wn_none rfl (st_assign rfl) ?_)
    clear hE a; intro a hE
    refine p_nil ?_
    refine x_norm ?_
    refine c_reg R18_3_l ?_
    refine p_cons (s_still p18_3_0 hE wn_none rfl (st_move rfl) ?_)
    clear hE a; intro a hE
    refine p_cons (s_still p18_3_1 hE wn_none rfl (st_move rfl) ?_)
    clear hE a; intro a hE
    refine p_cons (s_still p18_3_2 hE wn_none rfl (st_move rfl) ?_)
    clear hE a; intro a hE
    refine p_cons (s_still p18_3_3 hE wn_none rfl (st_nil rfl) ?_)
    clear hE a; intro a hE
    refine p_cons (s_still p18_3_4 hE wn_none rfl (st_fieldAddr Try.underlying41 rfl tS22 rfl rfl) ?_)
    clear hE a; intro a hE
    refine p_cons (s_store (off := 0) (k := 1) (cs' := #[Value.float .f64 r3, Value.bool true, Value.int .i64 s]) p18_3_5 hE wn_none tS22 rfl rfl rfl rfl B_b (Nat.le_of_ble_eq_true rfl) rfl ?_)
    intro w1 B_b' hk
    replace K_0 := K_0.then_ hk (fun k h => by rw [show k = b from h]; exact Or.inl rfl)
    replace B_b := B_b'
    clear hk
    refine p_cons (s_still p18_3_6 hE wn_none rfl (st_nil rfl) ?_)
    clear hE a; intro a hE
    refine p_cons (s_still p18_3_7 hE wn_none rfl (st_fieldAddr Try.underlying41 rfl tS4 rfl rfl) ?_)
    clear hE a; intro a hE
    refine p_cons (s_store (off := 1) (k := 1) (cs' := #[Value.float .f64 r3, Value.bool true, Value.int .i64 s]) p18_3_8 hE wn_none tS4 rfl rfl rfl rfl B_b (Nat.le_of_ble_eq_true rfl) rfl ?_)
    intro w2 B_b' hk
    replace K_0 := K_0.then_ hk (fun k h => by rw [show k = b from h]; exact Or.inl rfl)
    replace B_b := B_b'
    clear hk
    refine p_nil ?_
    refine x_norm ?_
    rcases Decidable.em (1099511627776 < s + (n : Int)) with hBIG | hBIG
    ·
      refine c_reg R18_4_l ?_
      refine p_cons (s_still p18_4_0 hE wn_none rfl (st_move rfl) ?_)
      clear hE a; intro a hE
      refine p_cons (s_still p18_4_1 hE wn_none rfl (st_move rfl) ?_)
      clear hE a; intro a hE
      refine p_cons (s_still p18_4_2 hE wn_none rfl (st_nil rfl) ?_)
      clear hE a; intro a hE
      refine p_cons (s_still p18_4_3 hE wn_none rfl (st_fieldAddr Try.underlying41 rfl tS3 rfl rfl) ?_)
      clear hE a; intro a hE
      refine p_cons (s_still p18_4_4 hE wn_none rfl (st_load1 tA3 rfl ((blk_cell B_b 2).trans rfl)) ?_)
      clear hE a; intro a hE
      refine p_cons (s_still p18_4_5 hE wn_none rfl (st_move rfl) ?_)
      clear hE a; intro a hE
      refine p_cons (s_still p18_4_6 hE wn_none rfl (st_add (z := s + (n : Int)) rfl rfl (wr_i64 _ (by omega) (by omega))) ?_)
      clear hE a; intro a hE
      refine p_cons (s_still p18_4_7 hE wn_none rfl (st_nil rfl) ?_)
      clear hE a; intro a hE
      refine p_cons (s_still p18_4_8 hE wn_none rfl (st_fieldAddr Try.underlying41 rfl tS3 rfl rfl) ?_)
      clear hE a; intro a hE
      refine p_cons (s_store (off := 2) (k := 1) (cs' := #[Value.float .f64 r3, Value.bool true, Value.int .i64 (s + (n : Int))]) p18_4_9 hE wn_none tS3 rfl rfl rfl rfl B_b (Nat.le_of_ble_eq_true rfl) rfl ?_)
      intro w3 B_b' hk
      replace K_0 := K_0.then_ hk (fun k h => by rw [show k = b from h]; exact Or.inl rfl)
      replace B_b := B_b'
      clear hk
      refine p_nil ?_
      refine x_norm ?_
      refine c_reg R18_5_l ?_
      refine p_cons (s_still p18_5_0 hE wn_none rfl (st_move rfl) ?_)
      clear hE a; intro a hE
      refine p_cons (s_still p18_5_1 hE wn_none rfl (st_nil rfl) ?_)
      clear hE a; intro a hE
      refine p_cons (s_still p18_5_2 hE wn_none rfl (st_fieldAddr Try.underlying41 rfl tS3 rfl rfl) ?_)
      clear hE a; intro a hE
      refine p_cons (s_still p18_5_3 hE wn_none rfl (st_load1 tA3 rfl ((blk_cell B_b 2).trans rfl)) ?_)
      clear hE a; intro a hE
      refine p_cons (s_still p18_5_4 hE wn_none rfl (st_gtr (b := true) rfl rfl (decide_eq_true (by omega))) ?_)
      clear hE a; intro a hE
      refine p_nil ?_
      refine x_norm ?_
      refine c_cond (t := true) hE rfl ?_
      refine c_regL R18_6_l ?_
      refine p_cons (s_still p18_6_0 hE wn_none rfl (st_move rfl) ?_)
      clear hE a; intro a hE
      refine p_cons (s_still p18_6_1 hE wn_none rfl (st_nil rfl) ?_)
      clear hE a; intro a hE
      refine p_cons (s_still p18_6_2 hE wn_none rfl (st_fieldAddr Try.underlying41 rfl tS3 rfl rfl) ?_)
      clear hE a; intro a hE
      refine p_cons (s_store (off := 2) (k := 1) (cs' := #[Value.float .f64 r3, Value.bool true, Value.int .i64 1099511627776]) p18_6_3 hE wn_none tS3 rfl rfl rfl rfl B_b (Nat.le_of_ble_eq_true rfl) rfl ?_)
      intro w4 B_b' hk
      replace K_0 := K_0.then_ hk (fun k h => by rw [show k = b from h]; exact Or.inl rfl)
      replace B_b := B_b'
      clear hk
      refine p_nil ?_
      refine end_of_ret ?_
      refine ret_list (rs := []) (vs := []) rfl hE .nil rfl ?_
      have e9 : senF s (n : Int) = 1099511627776 := by unfold senF; rw [if_pos hBIG]
      exact ⟨rfl, by rw [moveF_yes hr1 hr2 hr3, e9]; exact B_b, K_0⟩
    ·
      refine c_reg R18_4_l ?_
      refine p_cons (s_still p18_4_0 hE wn_none rfl (st_move rfl) ?_)
      clear hE a; intro a hE
      refine p_cons (s_still p18_4_1 hE wn_none rfl (st_move rfl) ?_)
      clear hE a; intro a hE
      refine p_cons (s_still p18_4_2 hE wn_none rfl (st_nil rfl) ?_)
      clear hE a; intro a hE
      refine p_cons (s_still p18_4_3 hE wn_none rfl (st_fieldAddr Try.underlying41 rfl tS3 rfl rfl) ?_)
      clear hE a; intro a hE
      refine p_cons (s_still p18_4_4 hE wn_none rfl (st_load1 tA3 rfl ((blk_cell B_b 2).trans rfl)) ?_)
      clear hE a; intro a hE
      refine p_cons (s_still p18_4_5 hE wn_none rfl (st_move rfl) ?_)
      clear hE a; intro a hE
      refine p_cons (s_still p18_4_6 hE wn_none rfl (st_add (z := s + (n : Int)) rfl rfl (wr_i64 _ (by omega) (by omega))) ?_)
      clear hE a; intro a hE
      refine p_cons (s_still p18_4_7 hE wn_none rfl (st_nil rfl) ?_)
      clear hE a; intro a hE
      refine p_cons (s_still p18_4_8 hE wn_none rfl (st_fieldAddr Try.underlying41 rfl tS3 rfl rfl) ?_)
      clear hE a; intro a hE
      refine p_cons (s_store (off := 2) (k := 1) (cs' := #[Value.float .f64 r3, Value.bool true, Value.int .i64 (s + (n : Int))]) p18_4_9 hE wn_none tS3 rfl rfl rfl rfl B_b (Nat.le_of_ble_eq_true rfl) rfl ?_)
      intro w5 B_b' hk
      replace K_0 := K_0.then_ hk (fun k h => by rw [show k = b from h]; exact Or.inl rfl)
      replace B_b := B_b'
      clear hk
      refine p_nil ?_
      refine x_norm ?_
      refine c_reg R18_5_l ?_
      refine p_cons (s_still p18_5_0 hE wn_none rfl (st_move rfl) ?_)
      clear hE a; intro a hE
      refine p_cons (s_still p18_5_1 hE wn_none rfl (st_nil rfl) ?_)
      clear hE a; intro a hE
      refine p_cons (s_still p18_5_2 hE wn_none rfl (st_fieldAddr Try.underlying41 rfl tS3 rfl rfl) ?_)
      clear hE a; intro a hE
      refine p_cons (s_still p18_5_3 hE wn_none rfl (st_load1 tA3 rfl ((blk_cell B_b 2).trans rfl)) ?_)
      clear hE a; intro a hE
      refine p_cons (s_still p18_5_4 hE wn_none rfl (st_gtr (b := false) rfl rfl (decide_eq_false (by omega))) ?_)
      clear hE a; intro a hE
      refine p_nil ?_
      refine x_norm ?_
      refine c_cond (t := false) hE rfl ?_
      refine wp_skip ?_
      refine end_of_ret ?_
      refine ret_list (rs := []) (vs := []) rfl hE .nil rfl ?_
      have e9 : senF s (n : Int) = s + (n : Int) := by unfold senF; rw [if_neg hBIG]
      exact ⟨rfl, by rw [moveF_yes hr1 hr2 hr3, e9]; exact B_b, K_0⟩
  ·
    obtain rfl : is = false := by simpa using hIS
    refine c_reg R18_1_l ?_
    refine p_cons (s_still p18_1_0 hE wn_none rfl (st_move rfl) ?_)
    clear hE a; intro a hE
    refine p_cons (s_still p18_1_1 hE wn_none rfl (st_nil rfl) ?_)
    clear hE a; intro a hE
    refine p_cons (s_still p18_1_2 hE wn_none rfl (st_fieldAddr Try.underlying41 rfl tS4 rfl rfl) ?_)
    clear hE a; intro a hE
    refine p_cons (s_still p18_1_3 hE wn_none rfl (st_load1 tA4 rfl ((blk_cell B_b 1).trans rfl)) ?_)
    clear hE a; intro a hE
    refine p_nil ?_
    refine x_norm ?_
    refine c_cond (t := false) hE rfl ?_
    refine wp_skip ?_
    refine x_norm ?_
    refine c_reg R18_3_l ?_
    refine p_cons (s_still p18_3_0 hE wn_none rfl (st_move rfl) ?_)
    clear hE a; intro a hE
    refine p_cons (s_still p18_3_1 hE wn_none rfl (st_move rfl) ?_)
    clear hE a; intro a hE
    refine p_cons (s_still p18_3_2 hE wn_none rfl (st_move rfl) ?_)
    clear hE a; intro a hE
    refine p_cons (s_still p18_3_3 hE wn_none rfl (st_nil rfl) ?_)
    clear hE a; intro a hE
    refine p_cons (s_still p18_3_4 hE wn_none rfl (st_fieldAddr Try.underlying41 rfl tS22 rfl rfl) ?_)
    clear hE a; intro a hE
    refine p_cons (s_store (off := 0) (k := 1) (cs' := #[Value.float .f64 (fl n), Value.bool false, Value.int .i64 s]) p18_3_5 hE wn_none tS22 rfl rfl rfl rfl B_b (Nat.le_of_ble_eq_true rfl) rfl ?_)
    intro w6 B_b' hk
    replace K_0 := K_0.then_ hk (fun k h => by rw [show k = b from h]; exact Or.inl rfl)
    replace B_b := B_b'
    clear hk
    refine p_cons (s_still p18_3_6 hE wn_none rfl (st_nil rfl) ?_)
    clear hE a; intro a hE
    refine p_cons (s_still p18_3_7 hE wn_none rfl (st_fieldAddr Try.underlying41 rfl tS4 rfl rfl) ?_)
    clear hE a; intro a hE
    refine p_cons (s_store (off := 1) (k := 1) (cs' := #[Value.float .f64 (fl n), Value.bool true, Value.int .i64 s]) p18_3_8 hE wn_none tS4 rfl rfl rfl rfl B_b (Nat.le_of_ble_eq_true rfl) rfl ?_)
    intro w7 B_b' hk
    replace K_0 := K_0.then_ hk (fun k h => by rw [show k = b from h]; exact Or.inl rfl)
    replace B_b := B_b'
    clear hk
    refine p_nil ?_
    refine x_norm ?_
    rcases Decidable.em (1099511627776 < s + (n : Int)) with hBIG | hBIG
    ·
      refine c_reg R18_4_l ?_
      refine p_cons (s_still p18_4_0 hE wn_none rfl (st_move rfl) ?_)
      clear hE a; intro a hE
      refine p_cons (s_still p18_4_1 hE wn_none rfl (st_move rfl) ?_)
      clear hE a; intro a hE
      refine p_cons (s_still p18_4_2 hE wn_none rfl (st_nil rfl) ?_)
      clear hE a; intro a hE
      refine p_cons (s_still p18_4_3 hE wn_none rfl (st_fieldAddr Try.underlying41 rfl tS3 rfl rfl) ?_)
      clear hE a; intro a hE
      refine p_cons (s_still p18_4_4 hE wn_none rfl (st_load1 tA3 rfl ((blk_cell B_b 2).trans rfl)) ?_)
      clear hE a; intro a hE
      refine p_cons (s_still p18_4_5 hE wn_none rfl (st_move rfl) ?_)
      clear hE a; intro a hE
      refine p_cons (s_still p18_4_6 hE wn_none rfl (st_add (z := s + (n : Int)) rfl rfl (wr_i64 _ (by omega) (by omega))) ?_)
      clear hE a; intro a hE
      refine p_cons (s_still p18_4_7 hE wn_none rfl (st_nil rfl) ?_)
      clear hE a; intro a hE
      refine p_cons (s_still p18_4_8 hE wn_none rfl (st_fieldAddr Try.underlying41 rfl tS3 rfl rfl) ?_)
      clear hE a; intro a hE
      refine p_cons (s_store (off := 2) (k := 1) (cs' := #[Value.float .f64 (fl n), Value.bool true, Value.int .i64 (s + (n : Int))]) p18_4_9 hE wn_none tS3 rfl rfl rfl rfl B_b (Nat.le_of_ble_eq_true rfl) rfl ?_)
      intro w8 B_b' hk
      replace K_0 := K_0.then_ hk (fun k h => by rw [show k = b from h]; exact Or.inl rfl)
      replace B_b := B_b'
      clear hk
      refine p_nil ?_
      refine x_norm ?_
      refine c_reg R18_5_l ?_
      refine p_cons (s_still p18_5_0 hE wn_none rfl (st_move rfl) ?_)
      clear hE a; intro a hE
      refine p_cons (s_still p18_5_1 hE wn_none rfl (st_nil rfl) ?_)
      clear hE a; intro a hE
      refine p_cons (s_still p18_5_2 hE wn_none rfl (st_fieldAddr Try.underlying41 rfl tS3 rfl rfl) ?_)
      clear hE a; intro a hE
      refine p_cons (s_still p18_5_3 hE wn_none rfl (st_load1 tA3 rfl ((blk_cell B_b 2).trans rfl)) ?_)
      clear hE a; intro a hE
      refine p_cons (s_still p18_5_4 hE wn_none rfl (st_gtr (b := true) rfl rfl (decide_eq_true (by omega))) ?_)
      clear hE a; intro a hE
      refine p_nil ?_
      refine x_norm ?_
      refine c_cond (t := true) hE rfl ?_
      refine c_regL R18_6_l ?_
      refine p_cons (s_still p18_6_0 hE wn_none rfl (st_move rfl) ?_)
      clear hE a; intro a hE
      refine p_cons (s_still p18_6_1 hE wn_none rfl (st_nil rfl) ?_)
      clear hE a; intro a hE
      refine p_cons (s_still p18_6_2 hE wn_none rfl (st_fieldAddr Try.underlying41 rfl tS3 rfl rfl) ?_)
      clear hE a; intro a hE
      refine p_cons (s_store (off := 2) (k := 1) (cs' := #[Value.float .f64 (fl n), Value.bool true, Value.int .i64 1099511627776]) p18_6_3 hE wn_none tS3 rfl rfl rfl rfl B_b (Nat.le_of_ble_eq_true rfl) rfl ?_)
      intro w9 B_b' hk
      replace K_0 := K_0.then_ hk (fun k h => by rw [show k = b from h]; exact Or.inl rfl)
      replace B_b := B_b'
      clear hk
      refine p_nil ?_
      refine end_of_ret ?_
      refine ret_list (rs := []) (vs := []) rfl hE .nil rfl ?_
      have e9 : senF s (n : Int) = 1099511627776 := by unfold senF; rw [if_pos hBIG]
      exact ⟨rfl, by rw [moveF_no, e9]; exact B_b, K_0⟩
    ·
      refine c_reg R18_4_l ?_
      refine p_cons (s_still p18_4_0 hE wn_none rfl (st_move rfl) ?_)
      clear hE a; intro a hE
      refine p_cons (s_still p18_4_1 hE wn_none rfl (st_move rfl) ?_)
      clear hE a; intro a hE
      refine p_cons (s_still p18_4_2 hE wn_none rfl (st_nil rfl) ?_)
      clear hE a; intro a hE
      refine p_cons (s_still p18_4_3 hE wn_none rfl (st_fieldAddr Try.underlying41 rfl tS3 rfl rfl) ?_)
      clear hE a; intro a hE
      refine p_cons (s_still p18_4_4 hE wn_none rfl (st_load1 tA3 rfl ((blk_cell B_b 2).trans rfl)) ?_)
      clear hE a; intro a hE
      refine p_cons (s_still p18_4_5 hE wn_none rfl (st_move rfl) ?_)
      clear hE a; intro a hE
      refine p_cons (s_still p18_4_6 hE wn_none rfl (st_add (z := s + (n : Int)) rfl rfl (wr_i64 _ (by omega) (by omega))) ?_)
      clear hE a; intro a hE
      refine p_cons (s_still p18_4_7 hE wn_none rfl (st_nil rfl) ?_)
      clear hE a; intro a hE
      refine p_cons (s_still p18_4_8 hE wn_none rfl (st_fieldAddr Try.underlying41 rfl tS3 rfl rfl) ?_)
      clear hE a; intro a hE
      refine p_cons (s_store (off := 2) (k := 1) (cs' := #[Value.float .f64 (fl n), Value.bool true, Value.int .i64 (s + (n : Int))]) p18_4_9 hE wn_none tS3 rfl rfl rfl rfl B_b (Nat.le_of_ble_eq_true rfl) rfl ?_)
      intro w10 B_b' hk
      replace K_0 := K_0.then_ hk (fun k h => by rw [show k = b from h]; exact Or.inl rfl)
      replace B_b := B_b'
      clear hk
      refine p_nil ?_
      refine x_norm ?_
      refine c_reg R18_5_l ?_
      refine p_cons (s_still p18_5_0 hE wn_none rfl (st_move rfl) ?_)
      clear hE a; intro a hE
      refine p_cons (s_still p18_5_1 hE wn_none rfl (st_nil rfl) ?_)
      clear hE a; intro a hE
      refine p_cons (s_still p18_5_2 hE wn_none rfl (st_fieldAddr Try.underlying41 rfl tS3 rfl rfl) ?_)
      clear hE a; intro a hE
      refine p_cons (s_still p18_5_3 hE wn_none rfl (st_load1 tA3 rfl ((blk_cell B_b 2).trans rfl)) ?_)
      clear hE a; intro a hE
      refine p_cons (s_still p18_5_4 hE wn_none rfl (st_gtr (b := false) rfl rfl (decide_eq_false (by omega))) ?_)
      clear hE a; intro a hE
      refine p_nil ?_
      refine x_norm ?_
      refine c_cond (t := false) hE rfl ?_
      refine wp_skip ?_
      refine end_of_ret ?_
      refine ret_list (rs := []) (vs := []) rfl hE .nil rfl ?_
      have e9 : senF s (n : Int) = s + (n : Int) := by unfold senF; rw [if_neg hBIG]
      exact ⟨rfl, by rw [moveF_no, e9]; exact B_b, K_0⟩
theorem ext_bits (n : Nat) (w : World) : (callFunc 48 #[.float .f64 n]).run Try.prog w = .ok (.value (.int .u64 (n : Int))) w := by
  rw [run_callFunc_extern Try.func48 (by kernel_rfl) (by kernel_rfl) (by kernel_rfl) (e := Extern.MathFloatBits.float64bits) (by kernel_rfl)]
  rfl
theorem R25_0_l : List.range (regOf Try.f25 0).size = [0] := by kernel_rfl
theorem R25_1_l : List.range (regOf Try.f25 1).size = [0, 1, 2, 3, 4, 5] := by kernel_rfl
theorem body25 : Try.f25.body = some (.seq (.region 0 (regOf Try.f25 0) false) (.seq (.region 1 (regOf Try.f25 1) false) (.ret))) := by kernel_rfl
theorem p25_0_0 : pj (regOf Try.f25 0) 0 = some (some 4, Op.assign (Operand.const (Value.bool false)), 4, none) := by kernel_rfl
theorem p25_1_0 : pj (regOf Try.f25 1) 0 = some (some 5, Op.move (Operand.tmp 0), 22, none) := by kernel_rfl
theorem p25_1_1 : pj (regOf Try.f25 1) 1 = some (some 6, Op.call { callee := Callee.value (Operand.func 48), args := #[Operand.tmp 5], argTypes := #[22] }, 44, none) := by kernel_rfl
theorem p25_1_2 : pj (regOf Try.f25 1) 2 = some (some 7, Op.move (Operand.tmp 1), 22, none) := by kernel_rfl
theorem p25_1_3 : pj (regOf Try.f25 1) 3 = some (some 8, Op.call { callee := Callee.value (Operand.func 48), args := #[Operand.tmp 7], argTypes := #[22] }, 44, none) := by kernel_rfl
theorem p25_1_4 : pj (regOf Try.f25 1) 4 = some (some 9, Op.binOp BinOp.eql 44 (Operand.tmp 6) (Operand.tmp 8) 44, 4, none) := by kernel_rfl
theorem p25_1_5 : pj (regOf Try.f25 1) 5 = some (some 4, Op.assign (Operand.tmp 9), 4, none) := by kernel_rfl
set_option maxHeartbeats 4000000 in
theorem same_self (x : Nat) (w : World) : Calls Try.prog 25 #[.float .f64 x, .float .f64 x] w fun e w' => e = .returned (.bool true) ∧ Kp w w' (fun _ => False) := by
  have K_0 := Kp.refl w (fun _ => False)
  refine enter (args := [Value.float .f64 x, Value.float .f64 x]) (n := 10) Try.func25 body25 rfl rfl rfl ?_
  intro a hE
  refine c_reg R25_0_l ?_
  refine p_cons (s_still p25_0_0 hE wn_none rfl (st_assign rfl) ?_)
  clear hE a; intro a hE
  refine p_nil ?_
  refine x_norm ?_
  refine c_reg R25_1_l ?_
  refine p_cons (s_still p25_1_0 hE wn_none rfl (st_move rfl) ?_)
  clear hE a; intro a hE
  refine p_cons (s_still p25_1_1 hE wn_none rfl (st_ext (v := Value.int .u64 (x : Int)) (xs := [Operand.tmp 5]) (args := [Value.float .f64 x]) rfl (ext_bits x)) ?_)
  clear hE a; intro a hE
  refine p_cons (s_still p25_1_2 hE wn_none rfl (st_move rfl) ?_)
  clear hE a; intro a hE
  refine p_cons (s_still p25_1_3 hE wn_none rfl (st_ext (v := Value.int .u64 (x : Int)) (xs := [Operand.tmp 7]) (args := [Value.float .f64 x]) rfl (ext_bits x)) ?_)
  clear hE a; intro a hE
  refine p_cons (s_still p25_1_4 hE wn_none rfl (st_eql (b := true) rfl rfl (by simp)) ?_)
  clear hE a; intro a hE
  refine p_cons (s_still p25_1_5 hE wn_none rfl (st_assign rfl) ?_)
  clear hE a; intro a hE
  refine p_nil ?_
  refine x_norm ?_
  refine wp_ret ?_
  refine ret_one (v := Value.bool true) rfl hE (.tmp rfl .nil) ?_
  exact ⟨rfl, K_0⟩
end Go.Proofs.Ytpnpfapdjdcnbaa.MLin
