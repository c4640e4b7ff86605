/- Options as bytes. -/
import Derived.Test.YtgpclehnomkbmaaObd
set_option maxRecDepth 100000
set_option linter.unusedVariables false
set_option linter.unusedSimpArgs false
namespace Go.Proofs.Ytgpclehnomkbmaa.Oe
open Go.RowKit Go.Proofs.YtgpclehnomkbmaaW.PrintWords Go.Proofs.Ytgpclehnomkbmaa.Ds Go.Proofs.Ytgpclehnomkbmaa.Op Go.Proofs.Ytgpclehnomkbmaa.Oc Go.Proofs.Ytgpclehnomkbmaa.Or Go.Proofs.Ytgpclehnomkbmaa.Ow Go.Proofs.Ytgpclehnomkbmaa.Ob
open Go.Proofs.Ytgpclehnomkbmaa.Pk (Kp fitsF spanF putF digF fits_any put_ok C_take)
/-- What is wrong with an option; its bytes; those of options. -/
def chkV (x : OV) : Int := chkO x.1 x.2.1.length x.2.1 (adr x) x.2.2.2.length
def optB (x : OV) : List Int := bytesF x.1.toNat x.2.1 (adr x) x.2.2.2
def allB (xs : List OV) : List Int := (xs.map optB).flatten
def firstBad : List OV → Int
 | [] => 0
 | x :: xs => if chkV x = 0 then firstBad xs else chkV x
def encE (xs : List OV) : Int := if 16 < xs.length then 2 else if firstBad xs ≠ 0 then firstBad xs else if 1280 < (allB xs).length then 2 else 0
def encB (xs : List OV) : List Int := if encE xs = 0 then allB xs else []
theorem firstBad_at : ∀ {xs : List OV} {k : Nat}, k < xs.length → (∀ j, j < k → chkV (xs.getD j zO) = 0) → chkV (xs.getD k zO) ≠ 0 → firstBad xs = chkV (xs.getD k zO)
 | [], k, h, _, _ => absurd h (Nat.not_lt_zero k)
 | x :: xs, 0, _, _, h => by simp only [firstBad]; exact if_neg (by simpa using h)
 | x :: xs, k + 1, hk, hj, h => by
  simp only [firstBad]
  rw [if_pos (by have := hj 0 (by omega); simpa using this)]
  have := firstBad_at (xs := xs) (k := k) (by simpa using hk) (fun j hj' => by have := hj (j + 1) (by omega); simpa using this) (by simpa using h)
  simpa using this
theorem firstBad_none : ∀ {xs : List OV}, (∀ j, j < xs.length → chkV (xs.getD j zO) = 0) → firstBad xs = 0
 | [], _ => rfl
 | x :: xs, h => by
  simp only [firstBad]
  rw [if_pos (by have := h 0 (by simp); simpa using this)]
  exact firstBad_none (fun j hj => by have := h (j + 1) (by simpa using hj); simpa using this)
theorem allB_succ {xs : List OV} {k : Nat} (hk : k < xs.length) : allB (xs.take (k + 1)) = allB (xs.take k) ++ optB (xs.getD k zO) := by
 unfold allB
 rw [List.take_succ_eq_append_getElem hk, List.map_append, List.flatten_append, List.getD_eq_getElem?_getD, List.getElem?_eq_getElem hk]
 simp
theorem chk_zero {x : OV} (h : chkV x = 0) : 0 ≤ x.1 ∧ x.1 ≤ 9 ∧ x.2.1.length = (sizesF x.1.toNat).length ∧ numB (sizesF x.1.toNat) (lenF x.1.toNat) (zeroF x.1.toNat) x.2.1 = true ∧ x.2.2.2.length ≤ 64 := by
 unfold chkV chkO at h
 split at h
 ·
  rename_i h9
  unfold chkF at h
  split at h
  · cases h
  ·
   rename_i h1
   split at h
   · cases h
   ·
    rename_i h2
    split at h
    · cases h
    ·
     rename_i h3
     refine ⟨h9.1, h9.2, ?_, ?_, by omega⟩
     · exact Decidable.byContradiction fun h4 => h1 (.inl h4)
     · exact Decidable.byContradiction fun h4 => h2 h4
 · cases h
theorem optB_len {x : OV} (h : chkV x = 0) : (optB x).length ≤ 257 := by
 obtain ⟨h0, h9, hl, hN, ht⟩ := chk_zero h
 have := body_len (k := x.1.toNat) (by omega) (adr x) hN ht
 unfold optB bytesF
 split
 · simp
 · simp only [List.length_append, List.length_cons, List.length_nil]; omega
theorem bytes_x (x : OV) (B T : Option Addr) (q ct : Nat) (hc : chkV x = 0) (w : World) (hF : ∀ W', Kp w W' (fun _ => False) → Kd.C (Kd.int .i64) W' B x.2.1.length x.2.1) (hG : ∀ W', Kp w W' (fun _ => False) → Kd.C (Kd.int .u8) W' T x.2.2.2.length x.2.2.2) : Calls Try.prog 56 #[Value.agg (([Value.int .i64 x.1, Value.slice B x.2.1.length q] ++ b16 (adr x) ++ [Value.slice T x.2.2.2.length ct])).toArray] w fun e w' => ∃ A' n c', e = .returned (.slice A' n c') ∧ n = (optB x).length ∧ w'.ownsRow w.heap.size 5 1 (.slice A' n c') n (encs (Value.int .u8) (optB x)) ∧ Kp w w' (fun _ => False) := by
 obtain ⟨h0, h9, hl, hN, ht⟩ := chk_zero hc
 have e : x.1 = (x.1.toNat : Int) := by omega
 have := bytes_any x.1.toNat (by omega) x.2.1 x.2.2.2 (adr x) B T q ct hl hN ht w hF hG
 rw [← e] at this
 exact this
theorem R14_0_l : List.range (regOf Try.f14 0).size = [0, 1] := by kernel_rfl
theorem R14_1_l : List.range (regOf Try.f14 1).size = [0, 1, 2] := by kernel_rfl
theorem R14_2_l : List.range (regOf Try.f14 2).size = [0, 1] := by kernel_rfl
theorem R14_3_l : List.range (regOf Try.f14 3).size = [0] := by kernel_rfl
theorem R14_4_l : List.range (regOf Try.f14 4).size = [0, 1, 2] := by kernel_rfl
theorem R14_5_l : List.range (regOf Try.f14 5).size = [0] := by kernel_rfl
theorem R14_6_l : List.range (regOf Try.f14 6).size = [0, 1, 2, 3] := by kernel_rfl
theorem R14_7_l : List.range (regOf Try.f14 7).size = [0, 1, 2] := by kernel_rfl
theorem R14_8_l : List.range (regOf Try.f14 8).size = [0, 1] := by kernel_rfl
theorem R14_9_l : List.range (regOf Try.f14 9).size = [0, 1, 2] := by kernel_rfl
theorem R14_10_l : List.range (regOf Try.f14 10).size = [0, 1, 2, 3, 4] := by kernel_rfl
theorem R14_11_l : List.range (regOf Try.f14 11).size = [0, 1] := by kernel_rfl
theorem R14_12_l : List.range (regOf Try.f14 12).size = [0, 1, 2] := by kernel_rfl
theorem R14_13_l : List.range (regOf Try.f14 13).size = [0, 1] := by kernel_rfl
theorem R14_14_l : List.range (regOf Try.f14 14).size = [0, 1, 2] := by kernel_rfl
theorem body14 : Try.f14.body = some (.seq (.region 0 (regOf Try.f14 0) false) (.seq (.seq (.region 1 (regOf Try.f14 1) false) (.cond (Operand.tmp 10) (.seq (.region 2 (regOf Try.f14 2) false) (.ret)) (.skip))) (.seq (.region 3 (regOf Try.f14 3) false) (.seq (.seq (.region 4 (regOf Try.f14 4) false) (.block 0 (.loop (.seq (.region 5 (regOf Try.f14 5) false) (.seq (.cond (Operand.tmp 14) (.skip) (.exit 0)) (.seq (.block 1 (.seq (.region 6 (regOf Try.f14 6) false) (.seq (.seq (.region 7 (regOf Try.f14 7) false) (.seq (.region 8 (regOf Try.f14 8) false) (.cond (Operand.tmp 20) (.seq (.region 9 (regOf Try.f14 9) false) (.ret)) (.skip)))) (.region 10 (regOf Try.f14 10) false)))) (.region 11 (regOf Try.f14 11) false))))))) (.seq (.seq (.region 12 (regOf Try.f14 12) false) (.cond (Operand.tmp 29) (.seq (.region 13 (regOf Try.f14 13) false) (.ret)) (.skip))) (.seq (.region 14 (regOf Try.f14 14) false) (.ret))))))) := by kernel_rfl
theorem p14_0_0 : pj (regOf Try.f14 0) 0 = some (some 2, .assign (.const (.slice none 0 0)), 22, none) := by kernel_rfl
theorem p14_0_1 : pj (regOf Try.f14 0) 1 = some (some 3, .assign (.const (.int .i64 0)), 24, none) := by kernel_rfl
theorem p14_1_0 : pj (regOf Try.f14 1) 0 = some (some 8, .move (.tmp 0), 23, none) := by kernel_rfl
theorem p14_1_1 : pj (regOf Try.f14 1) 1 = some (some 9, .call { callee := .builtin .len, args := #[.tmp 8], argTypes := #[23] }, 3, none) := by kernel_rfl
theorem p14_1_2 : pj (regOf Try.f14 1) 2 = some (some 10, .binOp .gtr 3 (.tmp 9) (.const (.int .i64 16)) 3, 4, none) := by kernel_rfl
theorem p14_2_0 : pj (regOf Try.f14 2) 0 = some (some 2, .assign (.const (.slice none 0 0)), 22, none) := by kernel_rfl
theorem p14_2_1 : pj (regOf Try.f14 2) 1 = some (some 3, .assign (.const (.int .i64 2)), 24, none) := by kernel_rfl
theorem p14_3_0 : pj (regOf Try.f14 3) 0 = some (some 4, .assign (.const (.slice none 0 0)), 22, none) := by kernel_rfl
theorem p14_4_0 : pj (regOf Try.f14 4) 0 = some (some 11, .move (.tmp 0), 23, none) := by kernel_rfl
theorem p14_4_1 : pj (regOf Try.f14 4) 1 = some (some 12, .call { callee := .builtin .len, args := #[.tmp 11], argTypes := #[23] }, 3, none) := by kernel_rfl
theorem p14_4_2 : pj (regOf Try.f14 4) 2 = some (some 13, .move (.const (.int .i64 0)), 3, none) := by kernel_rfl
theorem p14_5_0 : pj (regOf Try.f14 5) 0 = some (some 14, .binOp .lss 3 (.tmp 13) (.tmp 12) 3, 0, none) := by kernel_rfl
theorem p14_6_0 : pj (regOf Try.f14 6) 0 = some (some 15, .indexAddr 23 (.tmp 11) (.tmp 13), 0, none) := by kernel_rfl
theorem tS50 : (Try.prog.info? 50).map (·.size) = some 19 := by kernel_rfl
theorem p14_6_1 : pj (regOf Try.f14 6) 1 = some (some 16, .load 50 (.tmp 15), 50, none) := by kernel_rfl
theorem tA50 : (Try.prog.underlying 50).map aggD = some true := by kernel_rfl
theorem p14_6_2 : pj (regOf Try.f14 6) 2 = some (some 6, .alloc 50, 0, none) := by kernel_rfl
theorem tZ50 : (Try.prog.info? 50).bind (·.zero) = some (Value.agg (([Value.int .i64 0, Value.slice none 0 0] ++ b16 (fun _ => 0) ++ [Value.slice none 0 0])).toArray) := by kernel_rfl
theorem p14_6_3 : pj (regOf Try.f14 6) 3 = some (none, .store 50 (.tmp 6) (.tmp 16), 0, none) := by kernel_rfl
theorem p14_7_0 : pj (regOf Try.f14 7) 0 = some (some 17, .load 50 (.tmp 6), 50, none) := by kernel_rfl
theorem p14_7_1 : pj (regOf Try.f14 7) 1 = some (some 18, .call { callee := .value (.func 22), args := #[.tmp 17], argTypes := #[50] }, 24, none) := by kernel_rfl
theorem cl22 : callable Try.f22 = true := by kernel_rfl
theorem p14_7_2 : pj (regOf Try.f14 7) 2 = some (some 7, .assign (.tmp 18), 24, none) := by kernel_rfl
theorem p14_8_0 : pj (regOf Try.f14 8) 0 = some (some 19, .move (.tmp 7), 24, none) := by kernel_rfl
theorem p14_8_1 : pj (regOf Try.f14 8) 1 = some (some 20, .binOp .neq 24 (.tmp 19) (.const (.int .i64 0)) 24, 4, none) := by kernel_rfl
theorem p14_10_0 : pj (regOf Try.f14 10) 0 = some (some 22, .move (.tmp 4), 22, none) := by kernel_rfl
theorem p14_10_1 : pj (regOf Try.f14 10) 1 = some (some 23, .load 50 (.tmp 6), 50, none) := by kernel_rfl
theorem p14_10_2 : pj (regOf Try.f14 10) 2 = some (some 24, .call { callee := .value (.func 56), args := #[.tmp 23], argTypes := #[50] }, 22, none) := by kernel_rfl
theorem cl56 : callable Try.f56 = true := by kernel_rfl
theorem p14_10_3 : pj (regOf Try.f14 10) 3 = some (some 25, .call { callee := .builtin .append, args := #[.tmp 22, .tmp 24], argTypes := #[22, 22] }, 22, none) := by kernel_rfl
theorem eD5 : elemD Try.prog 5 = some (1, 1, 1) := by kernel_rfl
theorem p14_10_4 : pj (regOf Try.f14 10) 4 = some (some 4, .assign (.tmp 25), 22, none) := by kernel_rfl
theorem p14_11_0 : pj (regOf Try.f14 11) 0 = some (some 26, .binOp .add 3 (.tmp 13) (.const (.int .i64 1)) 3, 3, none) := by kernel_rfl
theorem p14_11_1 : pj (regOf Try.f14 11) 1 = some (some 13, .move (.tmp 26), 3, none) := by kernel_rfl
theorem p14_9_0 : pj (regOf Try.f14 9) 0 = some (some 21, .move (.tmp 7), 24, none) := by kernel_rfl
theorem p14_9_1 : pj (regOf Try.f14 9) 1 = some (some 2, .assign (.const (.slice none 0 0)), 22, none) := by kernel_rfl
theorem p14_9_2 : pj (regOf Try.f14 9) 2 = some (some 3, .assign (.tmp 21), 24, none) := by kernel_rfl
theorem p14_12_0 : pj (regOf Try.f14 12) 0 = some (some 27, .move (.tmp 4), 22, none) := by kernel_rfl
theorem p14_12_1 : pj (regOf Try.f14 12) 1 = some (some 28, .call { callee := .builtin .len, args := #[.tmp 27], argTypes := #[22] }, 3, none) := by kernel_rfl
theorem p14_12_2 : pj (regOf Try.f14 12) 2 = some (some 29, .binOp .gtr 3 (.tmp 28) (.const (.int .i64 1280)) 3, 4, none) := by kernel_rfl
theorem p14_13_0 : pj (regOf Try.f14 13) 0 = some (some 2, .assign (.const (.slice none 0 0)), 22, none) := by kernel_rfl
theorem p14_13_1 : pj (regOf Try.f14 13) 1 = some (some 3, .assign (.const (.int .i64 2)), 24, none) := by kernel_rfl
theorem p14_14_0 : pj (regOf Try.f14 14) 0 = some (some 30, .move (.tmp 4), 22, none) := by kernel_rfl
theorem p14_14_1 : pj (regOf Try.f14 14) 1 = some (some 2, .assign (.tmp 30), 22, none) := by kernel_rfl
theorem p14_14_2 : pj (regOf Try.f14 14) 2 = some (some 3, .assign (.const (.int .i64 0)), 24, none) := by kernel_rfl
set_option maxHeartbeats 4000000 in
theorem enc_anyS (A : Option Addr) (c : Nat) (xs : List OV) (w : World) (hF : Kd.C dO w A xs.length xs) (hmx : xs.length ≤ 1000000000000) : Calls Try.prog 14 #[.slice A xs.length c] w fun e w' => ∃ A' c', e = .returned (.tuple #[.slice A' (encB xs).length c', .int .i64 (encE xs)]) ∧ ((encB xs).length ≤ c' ∧ c' ≤ 9223372036854775807) ∧ (∀ W', Kp w' W' (fun _ => False) → Kd.C (Kd.int .u8) W' A' (encB xs).length (encB xs)) ∧ Kp w w' (fun _ => False) := by
 have K_0 := Kp.refl w (fun _ => False)
 refine enter (args := [Value.slice A xs.length c]) (n := 31) Try.func14 body14 rfl rfl rfl ?_
 intro a hE
 refine c_reg R14_0_l ?_
 refine q0 p14_0_0 hE (st_assign rfl) ?_; clear hE a; intro a hE
 refine q0 p14_0_1 hE (st_assign rfl) ?_; clear hE a; intro a hE
 refine p_nil (x_norm (wp_seq ?_))
 rcases Decidable.em (16 < xs.length) with hL16 | hL16
 ·
  refine c_reg R14_1_l ?_
  refine q0 p14_1_0 hE (st_move rfl) ?_; clear hE a; intro a hE
  refine q0 p14_1_1 hE (st_len Try.underlying23 rfl) ?_; clear hE a; intro a hE
  refine q0 p14_1_2 hE (st_gtr (b := true) rfl rfl (decide_eq_true (by omega))) ?_; clear hE a; intro a hE
  refine p_nil (x_norm ?_)
  refine c_cond (t := true) hE rfl ?_
  refine c_reg R14_2_l ?_
  refine q0 p14_2_0 hE (st_assign rfl) ?_; clear hE a; intro a hE
  refine q0 p14_2_1 hE (st_assign rfl) ?_; clear hE a; intro a hE
  refine p_nil (x_norm (wp_ret (x_ret ?_)))
  refine ret_list (rs := [.tmp 2, .tmp 3]) (vs := [Value.slice none 0 0, Value.int .i64 2]) rfl hE (.tmp rfl (.tmp rfl .nil)) rfl ?_
  have eE : encE xs = 2 := by unfold encE; rw [if_pos (by omega)]
  have eB : encB xs = [] := by unfold encB; rw [eE]; exact if_neg (by decide)
  exact ⟨none, 0, by rw [eB]; exact congrArg (fun z => Ending.returned (.tuple #[.slice none 0 0, .int .i64 z])) eE.symm, by rw [eB]; exact ⟨Nat.le_refl _, Nat.zero_le _⟩, fun W' hk => by rw [eB]; exact Kd.C_nil _ _, K_0⟩
 ·
  refine c_reg R14_1_l ?_
  refine q0 p14_1_0 hE (st_move rfl) ?_; clear hE a; intro a hE
  refine q0 p14_1_1 hE (st_len Try.underlying23 rfl) ?_; clear hE a; intro a hE
  refine q0 p14_1_2 hE (st_gtr (b := false) rfl rfl (decide_eq_false (by omega))) ?_; clear hE a; intro a hE
  refine p_nil (x_norm ?_)
  refine c_cond (t := false) hE rfl ?_
  refine wp_skip (x_norm (c_reg R14_3_l ?_))
  refine q0 p14_3_0 hE (st_assign rfl) ?_; clear hE a; intro a hE
  refine p_nil (x_norm (wp_seq (c_reg R14_4_l ?_)))
  refine q0 p14_4_0 hE (st_move rfl) ?_; clear hE a; intro a hE
  refine q0 p14_4_1 hE (st_len Try.underlying23 rfl) ?_; clear hE a; intro a hE
  refine q0 p14_4_2 hE (st_move rfl) ?_; clear hE a; intro a hE
  refine p_nil (x_norm (wp_block ?_))
  have O_out := own_none w w.heap.size 5 1
  have Z_0_out : ∀ k, OB none k → (fun _ => False) k ∨ w.heap.size ≤ k := fun k h => absurd h ob_nil
  refine c_loop (α := Nat) (fun k a W => ∃ (A_out : Option Addr) (c_out : Nat) (n_out : Nat), En 31 a [(0, Value.slice A xs.length c), (10, Value.bool false), (11, Value.slice A xs.length c), (12, Value.int .i64 (xs.length : Int)), (13, Value.int .i64 (k : Int)), (4, Value.slice A_out n_out c_out)] ∧ k ≤ xs.length ∧ n_out ≤ 257 * k ∧ (∀ j, j < k → chkV (xs.getD j zO) = 0) ∧ n_out = (allB (xs.take k)).length ∧ W.ownsRow w.heap.size 5 1 (.slice A_out n_out c_out) n_out (encs (Value.int .u8) (allB (xs.take k))) ∧ (∀ k, OB A_out k → (fun _ => False) k ∨ w.heap.size ≤ k) ∧ Kp w W (fun _ => False)) (fun k => xs.length - k) (0) ?_ ?_
  ·
   exact ⟨none, 0, 0, En.sub hE ⟨rfl, rfl, rfl, rfl, rfl, rfl, trivial⟩, Nat.zero_le _, (Nat.zero_le _), fun j hj => absurd hj (Nat.not_lt_zero j), rfl, O_out, Z_0_out, K_0⟩
  ·
   clear hE a
   rintro k a w1 ⟨A_out, c_out, n_out, hE, hk9, hlo, hall, hn_out, O_out, Z_0_out, K_0⟩
   rcases Decidable.em ((k : Int) < (xs.length : Int)) with hK1 | hK1
   ·
    refine c_reg R14_5_l ?_
    refine q0 p14_5_0 hE (st_lss (b := true) rfl rfl (decide_eq_true hK1)) ?_; clear hE a; intro a hE
    refine p_nil (x_norm (wp_seq ?_))
    refine c_cond (t := true) hE rfl ?_
    refine wp_skip (x_norm (wp_seq (wp_block (c_reg R14_6_l ?_))))
    have hkx : k < xs.length := by omega
    obtain ⟨hAe2, cce2, hKe2, hce2⟩ := C_elem (i := k) hF zO (show k < xs.length by omega)
    obtain ⟨x, hxe2⟩ : ∃ x, List.getD xs k zO = x := ⟨_, rfl⟩
    rw [hxe2] at hKe2
    obtain ⟨Ae2, qe2, Te2, ce2, rfl, hle2, hme2, hCe2, hDe2⟩ := opt_open hKe2
    refine q0 p14_6_0 hE (st_indexAddrR (i := k) (s := 19) Try.underlying23 tS50 hAe2 rfl rfl (by omega)) ?_; clear hE a; intro a hE
    refine q0 p14_6_1 hE (st_loadR (off := k * 19) (j := 0) (k := 19) (vs := ([Value.int .i64 x.1, Value.slice Ae2 x.2.1.length qe2] ++ b16 (adr x) ++ [Value.slice Te2 x.2.2.2.length ce2])) tA50 tS50 (fun j u h => cell_to K_0 (hce2 j u h)) rfl rfl (by omega) rfl) ?_; clear hE a; intro a hE
    refine p_cons (s_alloc p14_6_2 hE wn_none rfl tZ50 ?_)
    clear hE a; intro g3 w4 z5 B_g3 hk a hE
    replace B_g3 : w4.heap[g3]? = some (.cells (([Value.int .i64 0, Value.slice none 0 0] ++ b16 (fun _ => 0) ++ [Value.slice none 0 0])).toArray 50 (0, 0)) := B_g3
    have z_0_g3 := Nat.le_trans K_0.kept.1 z5
    have Nb_out_g3 : ¬ OB A_out g3 := fun h => by have := (own_ob O_out h).2; omega
    replace O_out := own_keep O_out hk (fun _ _ h => h)
    replace K_0 := K_0.then_ hk (fun _ h => h.elim)
    clear hk
    refine p_cons (s_store (off := 0) (k := 19) (cs' := (([Value.int .i64 x.1, Value.slice Ae2 x.2.1.length qe2] ++ b16 (adr x) ++ [Value.slice Te2 x.2.2.2.length ce2])).toArray) p14_6_3 hE wn_none tS50 rfl rfl rfl rfl B_g3 (Nat.le_of_ble_eq_true rfl) rfl ?_)
    intro w6 B_g3' hk
    replace O_out := own_keep O_out hk (fun k hk2 h2 => Nb_out_g3 (by rw [show k = g3 from h2] at hk2; exact hk2))
    replace K_0 := K_0.then_ hk (fun k h => by rw [show k = g3 from h]; exact Or.inr z_0_g3)
    replace B_g3 := B_g3'
    clear hk
    refine p_nil (x_norm (wp_seq (c_reg R14_7_l ?_)))
    refine q0 p14_7_0 hE (st_loadN (off := 0) (k := 19) (vs := ([Value.int .i64 x.1, Value.slice Ae2 x.2.1.length qe2] ++ b16 (adr x) ++ [Value.slice Te2 x.2.2.2.length ce2])) tA50 tS50 rfl B_g3 rfl rfl) ?_; clear hE a; intro a hE
    refine p_cons (s_call (xs := [Operand.tmp 17]) (args := [Value.agg (([Value.int .i64 x.1, Value.slice Ae2 x.2.1.length qe2] ++ b16 (adr x) ++ [Value.slice Te2 x.2.2.2.length ce2])).toArray]) p14_7_1 hE wn_none rfl rfl Try.func22 cl22 (check_any x.1 Ae2 Te2 x.2.1.length qe2 x.2.2.2.length ce2 x.2.1 (adr x) _ (fun W' hk => C_to hCe2 (K_0.then_ hk (fun _ h => h.elim)))) ?_)
    rintro e w7 ⟨rfl, hk⟩
    replace B_g3 := kp_blk B_g3 hk (fun h => h)
    replace O_out := own_keep O_out hk (fun _ _ h => h)
    replace K_0 := K_0.then_ hk (fun _ h => h.elim)
    refine ⟨_, rfl, ?_⟩; clear hE a; intro a hE
    refine q0 p14_7_2 hE (st_assign rfl) ?_; clear hE a; intro a hE
    refine p_nil (x_norm ?_)
    rcases Decidable.em (chkV x = 0) with hCZ | hCZ
    ·
     refine c_reg R14_8_l ?_
     refine q0 p14_8_0 hE (st_move rfl) ?_; clear hE a; intro a hE
     refine q0 p14_8_1 hE (st_neq (b := false) rfl rfl (by show (!decide (chkV x = 0)) = _; simp [hCZ])) ?_; clear hE a; intro a hE
     refine p_nil (x_norm ?_)
     refine c_cond (t := false) hE rfl ?_
     refine wp_skip (x_norm (c_regL R14_10_l ?_))
     have hob := optB_len hCZ
     refine q0 p14_10_0 hE (st_move rfl) ?_; clear hE a; intro a hE
     refine q0 p14_10_1 hE (st_loadN (off := 0) (k := 19) (vs := ([Value.int .i64 x.1, Value.slice Ae2 x.2.1.length qe2] ++ b16 (adr x) ++ [Value.slice Te2 x.2.2.2.length ce2])) tA50 tS50 rfl B_g3 rfl rfl) ?_; clear hE a; intro a hE
     have hnb_g3 := blk_lt B_g3
     have hnz_0 := K_0.kept.1
     have hno_out := fun k (h : OB A_out k) => (own_ob O_out h).2
     refine p_cons (s_call (xs := [Operand.tmp 23]) (args := [Value.agg (([Value.int .i64 x.1, Value.slice Ae2 x.2.1.length qe2] ++ b16 (adr x) ++ [Value.slice Te2 x.2.2.2.length ce2])).toArray]) p14_10_2 hE wn_none rfl rfl Try.func56 cl56 (bytes_x x Ae2 Te2 qe2 ce2 hCZ _ (fun W' hk => C_to hCe2 (K_0.then_ hk (fun _ h => h.elim))) (fun W' hk => C_to hDe2 (K_0.then_ hk (fun _ h => h.elim)))) ?_)
     rintro e w11 ⟨A9, n9, c10, rfl, hn9, O_q8, hk⟩
     subst hn9
     replace B_g3 := kp_blk B_g3 hk (fun h => h)
     replace O_out := own_keep O_out hk (fun _ _ h => h)
     replace K_0 := K_0.then_ hk (fun _ h => h.elim)
     have Nb_q8_g3 : ¬ OB A9 g3 := fun h => by have := (own_ob O_q8 h).1; have := hnb_g3; omega
     have Z_0_q8 : ∀ k, OB A9 k → (fun _ => False) k ∨ w.heap.size ≤ k := fun k h => .inr (by have := (own_ob O_q8 h).1; have := hnz_0; omega)
     have NN_q8_out : ∀ k, OB A9 k → ¬ OB A_out k := fun k h h2 => by have := (own_ob O_q8 h).1; have := hno_out k h2; omega
     have NN_out_q8 : ∀ k, OB A_out k → ¬ OB A9 k := fun k h h2 => NN_q8_out k h2 h
     replace O_q8 := own_lower O_q8 hnz_0
     refine ⟨_, rfl, ?_⟩; clear hE a; intro a hE
     refine p_cons (s_appendC (xs := (allB (xs.take k))) (ys := (optB x)) p14_10_3 hE wn_none rfl Try.underlying22 eD5 rfl O_out rfl (own_told O_q8) (by omega) (by omega) K_0.kept.1 ?_)
     clear hE a; intro Aout12 cout13 w14 O_out' hk hat a hE
     have Nb_out_g3' := grow_n Nb_out_g3 (blk_lt B_g3) hat
     have NN_q8_out' : ∀ k, OB A9 k → ¬ OB Aout12 k := fun k h h2 => (hat k h2).elim (NN_q8_out k h) (fun h3 => by have := (own_ob O_q8 h).2; omega)
     have Z_0_out' := grow_z Z_0_out K_0.kept.1 hat
     replace B_g3 := kp_blk B_g3 hk Nb_out_g3
     replace O_q8 := own_keep O_q8 hk NN_q8_out
     replace K_0 := K_0.then_ hk Z_0_out
     replace Nb_out_g3 := Nb_out_g3'
     replace NN_q8_out := NN_q8_out'
     replace NN_out_q8 : ∀ k, OB Aout12 k → ¬ OB A9 k := fun k h h2 => NN_q8_out k h2 h
     replace Z_0_out := Z_0_out'
     replace O_out : w14.ownsRow _ 5 1 (.slice Aout12 (n_out + (optB x).length) cout13) (n_out + (optB x).length) (encs (Value.int .u8) ((allB (xs.take k)) ++ (optB x))) := O_out'
     clear O_out' hk hat
     refine q0 p14_10_4 hE (st_assign rfl) ?_; clear hE a; intro a hE
     refine p_nil (x_normB (x_norm (c_regL R14_11_l ?_)))
     refine q0 p14_11_0 hE (st_add (z := (k : Int) + 1) rfl rfl (wr_i64 _ (by omega) (by omega))) ?_; clear hE a; intro a hE
     refine q0 p14_11_1 hE (st_move rfl) ?_; clear hE a; intro a hE
     refine p_nil (x_norm ?_)
     have e9 : allB (xs.take k) ++ optB x = allB (xs.take (k + 1)) := by rw [allB_succ hkx, hxe2]
     rw [e9] at O_out
     have hz9 : chkV (xs.getD k zO) = 0 := by rw [hxe2]; exact hCZ
     exact ⟨k + 1, by omega, Aout12, cout13, (n_out + (optB x).length), En.sub hE ⟨rfl, rfl, rfl, rfl, rfl, rfl, trivial⟩, (by omega), (by omega), fun j hj => by rcases Nat.lt_succ_iff_lt_or_eq.1 hj with h | h; exact hall j h; rw [h]; exact hz9, (by rw [← e9, List.length_append, ← hn_out]), O_out, Z_0_out, K_0⟩
    ·
     refine c_reg R14_8_l ?_
     refine q0 p14_8_0 hE (st_move rfl) ?_; clear hE a; intro a hE
     refine q0 p14_8_1 hE (st_neq (b := true) rfl rfl (by show (!decide (chkV x = 0)) = _; simp [hCZ])) ?_; clear hE a; intro a hE
     refine p_nil (x_norm ?_)
     refine c_cond (t := true) hE rfl ?_
     refine c_reg R14_9_l ?_
     refine q0 p14_9_0 hE (st_move rfl) ?_; clear hE a; intro a hE
     refine q0 p14_9_1 hE (st_assign rfl) ?_; clear hE a; intro a hE
     refine q0 p14_9_2 hE (st_assign rfl) ?_; clear hE a; intro a hE
     refine p_nil (x_norm (wp_ret (x_ret (x_retB (x_ret (x_ret (x_retB (x_ret ?_))))))))
     refine ret_list (rs := [.tmp 2, .tmp 3]) (vs := [Value.slice none 0 0, Value.int .i64 (chkV x)]) rfl hE (.tmp rfl (.tmp rfl .nil)) rfl ?_
     have eF : firstBad xs = chkV x := by rw [firstBad_at hkx hall (by rw [hxe2]; exact hCZ), hxe2]
     have eE : encE xs = chkV x := by unfold encE; rw [if_neg (by omega), eF, if_pos hCZ]
     have eB : encB xs = [] := by unfold encB; rw [eE, if_neg hCZ]
     exact ⟨none, 0, by rw [eB]; exact congrArg (fun z => Ending.returned (.tuple #[.slice none 0 0, .int .i64 z])) eE.symm, by rw [eB]; exact ⟨Nat.le_refl _, Nat.zero_le _⟩, fun W' hk => by rw [eB]; exact Kd.C_nil _ _, K_0⟩
   ·
    refine c_reg R14_5_l ?_
    refine q0 p14_5_0 hE (st_lss (b := false) rfl rfl (decide_eq_false hK1)) ?_; clear hE a; intro a hE
    refine p_nil (x_norm (wp_seq ?_))
    refine c_cond (t := false) hE rfl ?_
    refine wp_exit (x_exit (x_exit (x_in (x_norm (wp_seq ?_)))))
    rcases Decidable.em (1280 < n_out) with hLG | hLG
    ·
     refine c_reg R14_12_l ?_
     refine q0 p14_12_0 hE (st_move rfl) ?_; clear hE a; intro a hE
     refine q0 p14_12_1 hE (st_len Try.underlying22 rfl) ?_; clear hE a; intro a hE
     refine q0 p14_12_2 hE (st_gtr (b := true) rfl rfl (decide_eq_true (by omega))) ?_; clear hE a; intro a hE
     refine p_nil (x_norm ?_)
     refine c_cond (t := true) hE rfl ?_
     refine c_reg R14_13_l ?_
     refine q0 p14_13_0 hE (st_assign rfl) ?_; clear hE a; intro a hE
     refine q0 p14_13_1 hE (st_assign rfl) ?_; clear hE a; intro a hE
     refine p_nil (x_norm (wp_ret (x_ret ?_)))
     refine ret_list (rs := [.tmp 2, .tmp 3]) (vs := [Value.slice none 0 0, Value.int .i64 2]) rfl hE (.tmp rfl (.tmp rfl .nil)) rfl ?_
     obtain rfl : k = xs.length := by omega
     have eF : firstBad xs = 0 := firstBad_none hall
     rw [List.take_length] at O_out hn_out
     have eE : encE xs = 2 := by unfold encE; rw [if_neg (by omega), eF, if_neg (fun h => h rfl), if_pos (by omega)]
     have eB : encB xs = [] := by unfold encB; rw [eE]; exact if_neg (by decide)
     exact ⟨none, 0, by rw [eB]; exact congrArg (fun z => Ending.returned (.tuple #[.slice none 0 0, .int .i64 z])) eE.symm, by rw [eB]; exact ⟨Nat.le_refl _, Nat.zero_le _⟩, fun W' hk => by rw [eB]; exact Kd.C_nil _ _, K_0⟩
    ·
     refine c_reg R14_12_l ?_
     refine q0 p14_12_0 hE (st_move rfl) ?_; clear hE a; intro a hE
     refine q0 p14_12_1 hE (st_len Try.underlying22 rfl) ?_; clear hE a; intro a hE
     refine q0 p14_12_2 hE (st_gtr (b := false) rfl rfl (decide_eq_false (by omega))) ?_; clear hE a; intro a hE
     refine p_nil (x_norm ?_)
     refine c_cond (t := false) hE rfl ?_
     refine wp_skip (x_norm (c_reg R14_14_l ?_))
     refine q0 p14_14_0 hE (st_move rfl) ?_; clear hE a; intro a hE
     refine q0 p14_14_1 hE (st_assign rfl) ?_; clear hE a; intro a hE
     refine q0 p14_14_2 hE (st_assign rfl) ?_; clear hE a; intro a hE
     refine p_nil (x_norm (wp_ret ?_))
     refine ret_list (rs := [.tmp 2, .tmp 3]) (vs := [Value.slice A_out n_out c_out, Value.int .i64 0]) rfl hE (.tmp rfl (.tmp rfl .nil)) rfl ?_
     obtain rfl : k = xs.length := by omega
     have eF : firstBad xs = 0 := firstBad_none hall
     rw [List.take_length] at O_out hn_out
     have eE : encE xs = 0 := by unfold encE; rw [if_neg (by omega), eF, if_neg (fun h => h rfl), if_neg (by omega)]
     have eB : encB xs = allB xs := by unfold encB; rw [if_pos eE]
     subst hn_out
     exact ⟨A_out, c_out, by rw [eB, eE], by rw [eB]; exact own_caps O_out, fun W' hk => by rw [eB]; exact own_told (own_keep O_out hk (fun _ _ h => h)), K_0⟩
theorem enc_any (A : Option Addr) (c : Nat) (xs : List OV) (w : World) (hF : Kd.C dO w A xs.length xs) (hmx : xs.length ≤ 1000000000000) : Calls Try.prog 14 #[.slice A xs.length c] w fun e w' => ∃ A' c', e = .returned (.tuple #[.slice A' (encB xs).length c', .int .i64 (encE xs)]) ∧ (encB xs).length ≤ c' ∧ (∀ W', Kp w' W' (fun _ => False) → Kd.C (Kd.int .u8) W' A' (encB xs).length (encB xs)) ∧ Kp w w' (fun _ => False) := by
 refine (enc_anyS A c xs w hF hmx).mono ?_
 rintro e w' ⟨A', c', h1, h2, h3, h4⟩
 exact ⟨A', c', h1, h2.1, h3, h4⟩
theorem C_one {α : Type} {d : Kd α} {w : World} {g T0 : Nat} {cs : Array Value} {fr : Nat × Nat} {x : α} (hb : w.heap[g]? = some (.cells cs T0 fr)) (hK : d.K w x cs.toList) : d.C w (some ⟨g, 0, none⟩) 1 [x] := by
 refine ⟨rfl, by decide, fun _ => ⟨_, rfl, fun j p hj => ?_⟩⟩
 have h0 : j = 0 := by have := (List.getElem?_eq_some_iff.1 hj).1; simpa using this
 subst h0
 obtain rfl : x = p := by simpa using hj
 refine ⟨cs.toList, d.K_len hK, hK, fun i u hu => ?_⟩
 rw [add_mk, Nat.zero_mul, Nat.zero_add, Nat.zero_add, cell_of_row w g i cs T0 fr hb, ← Array.getElem?_toList]
 exact hu
theorem encB_bd (xs : List OV) (h : (encB xs).length ≤ 1280 ∨ True) : (encB xs).length ≤ 1280 := by
 unfold encB
 split
 ·
  rename_i he
  unfold encE at he
  split at he
  · cases he
  ·
   split at he
   · rename_i h2; exact absurd he h2
   ·
    split at he
    · cases he
    · omega
 · simp
theorem enc_any0 (A : Option Addr) (c : Nat) (xs : List OV) (w : World) (hF : Kd.C dO w A xs.length xs) (hmx : xs.length ≤ 1000000000000) (h0 : encE xs = 0) : Calls Try.prog 14 #[.slice A xs.length c] w fun e w' => ∃ A' c', e = .returned (.tuple #[.slice A' (encB xs).length c', .int .i64 0]) ∧ (encB xs).length ≤ c' ∧ (∀ W', Kp w' W' (fun _ => False) → Kd.C (Kd.int .u8) W' A' (encB xs).length (encB xs)) ∧ Kp w w' (fun _ => False) := by
 have := enc_any A c xs w hF hmx
 rw [h0] at this
 exact this
theorem R13_0_l : List.range (regOf Try.f13 0).size = [0] := by kernel_rfl
theorem R13_1_l : List.range (regOf Try.f13 1).size = [0, 1, 2, 3, 4, 5, 6, 7, 8] := by kernel_rfl
theorem R13_2_l : List.range (regOf Try.f13 2).size = [0, 1, 2, 3, 4, 5, 6, 7, 8] := by kernel_rfl
theorem R13_3_l : List.range (regOf Try.f13 3).size = [0, 1, 2, 3, 4, 5, 6, 7, 8, 9, 10, 11, 12, 13, 14, 15, 16, 17, 18, 19, 20] := by kernel_rfl
theorem body13 : Try.f13.body = some (.seq (.region 0 (regOf Try.f13 0) false) (.seq (.region 1 (regOf Try.f13 1) false) (.seq (.region 2 (regOf Try.f13 2) false) (.seq (.region 3 (regOf Try.f13 3) false) (.ret))))) := by kernel_rfl
theorem p13_0_0 : pj (regOf Try.f13 0) 0 = some (some 0, .assign (.const (.bool false)), 4, none) := by kernel_rfl
theorem p13_1_0 : pj (regOf Try.f13 1) 0 = some (some 6, .buildSlice 42 4 #[(0, .const (.int .i64 0)), (1, .const (.int .i64 0)), (2, .const (.int .i64 5)), (3, .const (.int .i64 255))], 42, none) := by kernel_rfl
theorem p13_1_1 : pj (regOf Try.f13 1) 1 = some (some 7, .build 50 #[(0, .const (.int .i64 6)), (1, .tmp 6)], 50, none) := by kernel_rfl
theorem p13_1_2 : pj (regOf Try.f13 1) 2 = some (some 8, .buildSlice 23 1 #[(0, .tmp 7)], 23, none) := by kernel_rfl
theorem p13_1_3 : pj (regOf Try.f13 1) 3 = some (some 9, .call { callee := .value (.func 14), args := #[.tmp 8], argTypes := #[23] }, 33, none) := by kernel_rfl
theorem cl14 : callable Try.f14 = true := by kernel_rfl
theorem p13_1_4 : pj (regOf Try.f13 1) 4 = some (some 5, .move (.tmp 9), 33, none) := by kernel_rfl
theorem p13_1_5 : pj (regOf Try.f13 1) 5 = some (some 10, .extract (.tmp 5) 0, 22, none) := by kernel_rfl
theorem p13_1_6 : pj (regOf Try.f13 1) 6 = some (some 11, .extract (.tmp 5) 1, 24, none) := by kernel_rfl
theorem p13_1_7 : pj (regOf Try.f13 1) 7 = some (some 1, .assign (.tmp 10), 22, none) := by kernel_rfl
theorem p13_1_8 : pj (regOf Try.f13 1) 8 = some (some 2, .assign (.tmp 11), 24, none) := by kernel_rfl
theorem p13_2_0 : pj (regOf Try.f13 2) 0 = some (some 13, .buildSlice 42 1 #[(0, .const (.int .i64 2))], 42, none) := by kernel_rfl
theorem p13_2_1 : pj (regOf Try.f13 2) 1 = some (some 14, .build 50 #[(0, .const (.int .i64 1)), (1, .tmp 13)], 50, none) := by kernel_rfl
theorem p13_2_2 : pj (regOf Try.f13 2) 2 = some (some 15, .buildSlice 23 1 #[(0, .tmp 14)], 23, none) := by kernel_rfl
theorem p13_2_3 : pj (regOf Try.f13 2) 3 = some (some 16, .call { callee := .value (.func 14), args := #[.tmp 15], argTypes := #[23] }, 33, none) := by kernel_rfl
theorem p13_2_4 : pj (regOf Try.f13 2) 4 = some (some 12, .move (.tmp 16), 33, none) := by kernel_rfl
theorem p13_2_5 : pj (regOf Try.f13 2) 5 = some (some 17, .extract (.tmp 12) 0, 22, none) := by kernel_rfl
theorem p13_2_6 : pj (regOf Try.f13 2) 6 = some (some 18, .extract (.tmp 12) 1, 24, none) := by kernel_rfl
theorem p13_2_7 : pj (regOf Try.f13 2) 7 = some (some 3, .assign (.tmp 17), 22, none) := by kernel_rfl
theorem p13_2_8 : pj (regOf Try.f13 2) 8 = some (some 4, .assign (.tmp 18), 24, none) := by kernel_rfl
theorem p13_3_0 : pj (regOf Try.f13 3) 0 = some (some 19, .move (.tmp 2), 24, none) := by kernel_rfl
theorem p13_3_1 : pj (regOf Try.f13 3) 1 = some (some 20, .binOp .eql 24 (.tmp 19) (.const (.int .i64 0)) 24, 4, none) := by kernel_rfl
theorem p13_3_2 : pj (regOf Try.f13 3) 2 = some (some 21, .move (.tmp 20), 4, none) := by kernel_rfl
theorem p13_3_3 : pj (regOf Try.f13 3) 3 = some (some 22, .move (.tmp 1), 22, some (2, true)) := by kernel_rfl
theorem g13_3_2 : dstOf (regOf Try.f13 3) 2 = some 21 := by kernel_rfl
theorem p13_3_4 : pj (regOf Try.f13 3) 4 = some (some 23, .buildSlice 22 6 #[(0, .const (.int .u8 6)), (1, .const (.int .u8 4)), (2, .const (.int .u8 0)), (3, .const (.int .u8 0)), (4, .const (.int .u8 5)), (5, .const (.int .u8 255))], 22, some (2, true)) := by kernel_rfl
theorem p13_3_5 : pj (regOf Try.f13 3) 5 = some (some 24, .call { callee := .value (.func 15), args := #[.tmp 22, .tmp 23], argTypes := #[22, 22] }, 4, some (2, true)) := by kernel_rfl
theorem cl15 : callable Try.f15 = true := by kernel_rfl
theorem p13_3_6 : pj (regOf Try.f13 3) 6 = some (some 25, .pick (.tmp 21) (.tmp 24) (.const (.bool false)), 4, none) := by kernel_rfl
theorem p13_3_7 : pj (regOf Try.f13 3) 7 = some (some 26, .move (.tmp 25), 4, none) := by kernel_rfl
theorem p13_3_8 : pj (regOf Try.f13 3) 8 = some (some 27, .move (.tmp 4), 24, some (7, true)) := by kernel_rfl
theorem g13_3_7 : dstOf (regOf Try.f13 3) 7 = some 26 := by kernel_rfl
theorem p13_3_9 : pj (regOf Try.f13 3) 9 = some (some 28, .binOp .eql 24 (.tmp 27) (.const (.int .i64 0)) 24, 4, some (7, true)) := by kernel_rfl
theorem p13_3_10 : pj (regOf Try.f13 3) 10 = some (some 29, .pick (.tmp 26) (.tmp 28) (.const (.bool false)), 4, none) := by kernel_rfl
theorem p13_3_11 : pj (regOf Try.f13 3) 11 = some (some 30, .move (.tmp 29), 4, none) := by kernel_rfl
theorem p13_3_12 : pj (regOf Try.f13 3) 12 = some (some 31, .move (.tmp 3), 22, some (11, true)) := by kernel_rfl
theorem g13_3_11 : dstOf (regOf Try.f13 3) 11 = some 30 := by kernel_rfl
theorem p13_3_13 : pj (regOf Try.f13 3) 13 = some (some 32, .buildSlice 22 4 #[(0, .const (.int .u8 1)), (1, .const (.int .u8 2)), (2, .const (.int .u8 0)), (3, .const (.int .u8 0))], 22, some (11, true)) := by kernel_rfl
theorem p13_3_14 : pj (regOf Try.f13 3) 14 = some (some 33, .call { callee := .value (.func 15), args := #[.tmp 31, .tmp 32], argTypes := #[22, 22] }, 4, some (11, true)) := by kernel_rfl
theorem p13_3_15 : pj (regOf Try.f13 3) 15 = some (some 34, .pick (.tmp 30) (.tmp 33) (.const (.bool false)), 4, none) := by kernel_rfl
theorem p13_3_16 : pj (regOf Try.f13 3) 16 = some (some 35, .move (.tmp 34), 4, none) := by kernel_rfl
theorem p13_3_17 : pj (regOf Try.f13 3) 17 = some (some 36, .call { callee := .value (.func 18), args := #[.const (.int .i64 3)], argTypes := #[3] }, 9, some (16, true)) := by kernel_rfl
theorem g13_3_16 : dstOf (regOf Try.f13 3) 16 = some 35 := by kernel_rfl
theorem cl18 : callable Try.f18 = true := by kernel_rfl
theorem p13_3_18 : pj (regOf Try.f13 3) 18 = some (some 37, .binOp .eql 9 (.tmp 36) (.const (.string { data := #[114, 111, 117, 116, 101] })) 9, 4, some (16, true)) := by kernel_rfl
theorem p13_3_19 : pj (regOf Try.f13 3) 19 = some (some 38, .pick (.tmp 35) (.tmp 37) (.const (.bool false)), 4, none) := by kernel_rfl
theorem p13_3_20 : pj (regOf Try.f13 3) 20 = some (some 0, .assign (.tmp 38), 4, none) := by kernel_rfl
set_option maxHeartbeats 4000000 in
theorem known_any (w : World) : Calls Try.prog 13 #[] w fun e w' => e = .returned (.bool true) ∧ Kp w w' (fun _ => False) := by
 have K_0 := Kp.refl w (fun _ => False)
 refine enter (args := []) (n := 39) Try.func13 body13 rfl rfl rfl ?_
 intro a hE
 refine c_reg R13_0_l ?_
 refine q0 p13_0_0 hE (st_assign rfl) ?_; clear hE a; intro a hE
 refine p_nil (x_norm (c_reg R13_1_l ?_))
 refine p_cons (s_row (xs := [(0, Operand.const (Value.int IntKind.i64 0)), (1, Operand.const (Value.int IntKind.i64 0)), (2, Operand.const (Value.int IntKind.i64 5)), (3, Operand.const (Value.int IntKind.i64 255))]) (vs := [(0, Value.int .i64 0), (1, Value.int .i64 0), (2, Value.int .i64 5), (3, Value.int .i64 255)]) (cs := #[Value.int .i64 0, Value.int .i64 0, Value.int .i64 5, Value.int .i64 255]) p13_1_0 hE wn_none rfl Try.underlying42 rfl (by kernel_rfl) ?_)
 clear hE a; intro g1 w2 z3 B_g1 hk a hE
 have z_0_g1 := Nat.le_trans K_0.kept.1 z3
 replace K_0 := K_0.then_ hk (fun _ h => h.elim)
 clear hk
 refine q0 p13_1_1 hE (st_build (xs := [(0, Operand.const (Value.int IntKind.i64 6)), (1, Operand.tmp 6)]) (vs := [(0, Value.int .i64 6), (1, Value.slice (some ⟨g1, 0, none⟩) 4 4)]) (cs := (([Value.int .i64 6, Value.slice (some ⟨g1, 0, none⟩) 4 4] ++ b16 (fun _ => 0) ++ [Value.slice none 0 0])).toArray) rfl (by kernel_rfl)) ?_; clear hE a; intro a hE
 refine p_cons (s_row (xs := [(0, Operand.tmp 7)]) (vs := [(0, Value.agg (([Value.int .i64 6, Value.slice (some ⟨g1, 0, none⟩) 4 4] ++ b16 (fun _ => 0) ++ [Value.slice none 0 0])).toArray)]) (cs := (([Value.int .i64 6, Value.slice (some ⟨g1, 0, none⟩) 4 4] ++ b16 (fun _ => 0) ++ [Value.slice none 0 0])).toArray) p13_1_2 hE wn_none rfl Try.underlying23 rfl (by kernel_rfl) ?_)
 clear hE a; intro g4 w5 z6 B_g4 hk a hE
 have n_g1_g4 : g1 ≠ g4 := ne_new B_g1 z6
 have z_0_g4 := Nat.le_trans K_0.kept.1 z6
 replace B_g1 := kp_blk B_g1 hk (fun h => h)
 replace K_0 := K_0.then_ hk (fun _ h => h.elim)
 clear hk
 refine p_cons (s_call (xs := [Operand.tmp 8]) (args := [Value.slice (some ⟨g4, 0, none⟩) 1 1]) p13_1_3 hE wn_none rfl rfl Try.func14 cl14 (enc_any0 (some ⟨g4, 0, none⟩) 1 ([((6 : Int), ([0, 0, 5, 255] : List Int), l16 (fun _ => 0), ([] : List Int))]) _ (C_one (d := dO) B_g4 (opt_mk 6 [0, 0, 5, 255] (fun _ => 0) [] rfl rfl (Nat.le_refl _) (Nat.le_refl _) (C_blk (k := .i64) (l := [0, 0, 5, 255]) (off := 0) B_g1 ⟨rfl, Nat.le_of_ble_eq_true rfl⟩ rfl) (Kd.C_nil _ _))) (by decide) (by decide +kernel)) ?_)
 rintro e w10 ⟨A7, c8, rfl, hcapf9, hF9, hk⟩
 replace B_g1 := kp_blk B_g1 hk (fun h => h)
 replace B_g4 := kp_blk B_g4 hk (fun h => h)
 replace K_0 := K_0.then_ hk (fun _ h => h.elim)
 have K_s11 := Kp.refl w10 (fun _ => False)
 have hRf9 := hF9 _ (Kp.refl _ _)
 refine ⟨_, rfl, ?_⟩; clear hE a; intro a hE
 refine q0 p13_1_4 hE (st_move rfl) ?_; clear hE a; intro a hE
 refine q0 p13_1_5 hE (st_extract rfl rfl) ?_; clear hE a; intro a hE
 refine q0 p13_1_6 hE (st_extract rfl rfl) ?_; clear hE a; intro a hE
 refine q0 p13_1_7 hE (st_assign rfl) ?_; clear hE a; intro a hE
 refine q0 p13_1_8 hE (st_assign rfl) ?_; clear hE a; intro a hE
 refine p_nil (x_norm (c_reg R13_2_l ?_))
 refine p_cons (s_row (xs := [(0, Operand.const (Value.int IntKind.i64 2))]) (vs := [(0, Value.int .i64 2)]) (cs := #[Value.int .i64 2]) p13_2_0 hE wn_none rfl Try.underlying42 rfl (by kernel_rfl) ?_)
 clear hE a; intro g12 w13 z14 B_g12 hk a hE
 have n_g1_g12 : g1 ≠ g12 := ne_new B_g1 z14
 have n_g4_g12 : g4 ≠ g12 := ne_new B_g4 z14
 have z_0_g12 := Nat.le_trans K_0.kept.1 z14
 have z_s11_g12 := Nat.le_trans K_s11.kept.1 z14
 replace B_g1 := kp_blk B_g1 hk (fun h => h)
 replace B_g4 := kp_blk B_g4 hk (fun h => h)
 replace K_0 := K_0.then_ hk (fun _ h => h.elim)
 replace K_s11 := K_s11.then_ hk (fun _ h => h.elim)
 clear hk
 refine q0 p13_2_1 hE (st_build (xs := [(0, Operand.const (Value.int IntKind.i64 1)), (1, Operand.tmp 13)]) (vs := [(0, Value.int .i64 1), (1, Value.slice (some ⟨g12, 0, none⟩) 1 1)]) (cs := (([Value.int .i64 1, Value.slice (some ⟨g12, 0, none⟩) 1 1] ++ b16 (fun _ => 0) ++ [Value.slice none 0 0])).toArray) rfl (by kernel_rfl)) ?_; clear hE a; intro a hE
 refine p_cons (s_row (xs := [(0, Operand.tmp 14)]) (vs := [(0, Value.agg (([Value.int .i64 1, Value.slice (some ⟨g12, 0, none⟩) 1 1] ++ b16 (fun _ => 0) ++ [Value.slice none 0 0])).toArray)]) (cs := (([Value.int .i64 1, Value.slice (some ⟨g12, 0, none⟩) 1 1] ++ b16 (fun _ => 0) ++ [Value.slice none 0 0])).toArray) p13_2_2 hE wn_none rfl Try.underlying23 rfl (by kernel_rfl) ?_)
 clear hE a; intro g15 w16 z17 B_g15 hk a hE
 have n_g1_g15 : g1 ≠ g15 := ne_new B_g1 z17
 have n_g4_g15 : g4 ≠ g15 := ne_new B_g4 z17
 have n_g12_g15 : g12 ≠ g15 := ne_new B_g12 z17
 have z_0_g15 := Nat.le_trans K_0.kept.1 z17
 have z_s11_g15 := Nat.le_trans K_s11.kept.1 z17
 replace B_g1 := kp_blk B_g1 hk (fun h => h)
 replace B_g4 := kp_blk B_g4 hk (fun h => h)
 replace B_g12 := kp_blk B_g12 hk (fun h => h)
 replace K_0 := K_0.then_ hk (fun _ h => h.elim)
 replace K_s11 := K_s11.then_ hk (fun _ h => h.elim)
 clear hk
 refine p_cons (s_call (xs := [Operand.tmp 15]) (args := [Value.slice (some ⟨g15, 0, none⟩) 1 1]) p13_2_3 hE wn_none rfl rfl Try.func14 cl14 (enc_any0 (some ⟨g15, 0, none⟩) 1 ([((1 : Int), ([2] : List Int), l16 (fun _ => 0), ([] : List Int))]) _ (C_one (d := dO) B_g15 (opt_mk 1 [2] (fun _ => 0) [] rfl rfl (Nat.le_refl _) (Nat.le_refl _) (C_blk (k := .i64) (l := [2]) (off := 0) B_g12 ⟨rfl, Nat.le_of_ble_eq_true rfl⟩ rfl) (Kd.C_nil _ _))) (by decide) (by decide +kernel)) ?_)
 rintro e w21 ⟨A18, c19, rfl, hcapf20, hF9, hk⟩
 replace B_g1 := kp_blk B_g1 hk (fun h => h)
 replace B_g4 := kp_blk B_g4 hk (fun h => h)
 replace B_g12 := kp_blk B_g12 hk (fun h => h)
 replace B_g15 := kp_blk B_g15 hk (fun h => h)
 replace K_0 := K_0.then_ hk (fun _ h => h.elim)
 replace K_s11 := K_s11.then_ hk (fun _ h => h.elim)
 have K_s22 := Kp.refl w21 (fun _ => False)
 have hRf20 := hF9 _ (Kp.refl _ _)
 refine ⟨_, rfl, ?_⟩; clear hE a; intro a hE
 refine q0 p13_2_4 hE (st_move rfl) ?_; clear hE a; intro a hE
 refine q0 p13_2_5 hE (st_extract rfl rfl) ?_; clear hE a; intro a hE
 refine q0 p13_2_6 hE (st_extract rfl rfl) ?_; clear hE a; intro a hE
 refine q0 p13_2_7 hE (st_assign rfl) ?_; clear hE a; intro a hE
 refine q0 p13_2_8 hE (st_assign rfl) ?_; clear hE a; intro a hE
 refine p_nil (x_norm (c_reg R13_3_l ?_))
 refine q0 p13_3_0 hE (st_move rfl) ?_; clear hE a; intro a hE
 refine q0 p13_3_1 hE (st_eql (b := true) rfl rfl (by decide)) ?_; clear hE a; intro a hE
 refine q0 p13_3_2 hE (st_move rfl) ?_; clear hE a; intro a hE
 refine p_cons (s_still p13_3_3 hE (wn_some g13_3_2 rfl rfl) rfl (st_move rfl) ?_); clear hE a; intro a hE
 refine p_cons (s_row (xs := [(0, Operand.const (Value.int IntKind.u8 6)), (1, Operand.const (Value.int IntKind.u8 4)), (2, Operand.const (Value.int IntKind.u8 0)), (3, Operand.const (Value.int IntKind.u8 0)), (4, Operand.const (Value.int IntKind.u8 5)), (5, Operand.const (Value.int IntKind.u8 255))]) (vs := [(0, Value.int .u8 6), (1, Value.int .u8 4), (2, Value.int .u8 0), (3, Value.int .u8 0), (4, Value.int .u8 5), (5, Value.int .u8 255)]) (cs := #[Value.int .u8 6, Value.int .u8 4, Value.int .u8 0, Value.int .u8 0, Value.int .u8 5, Value.int .u8 255]) p13_3_4 hE (wn_some g13_3_2 rfl rfl) rfl Try.underlying22 rfl (by kernel_rfl) ?_)
 clear hE a; intro g23 w24 z25 B_g23 hk a hE
 have n_g1_g23 : g1 ≠ g23 := ne_new B_g1 z25
 have n_g4_g23 : g4 ≠ g23 := ne_new B_g4 z25
 have n_g12_g23 : g12 ≠ g23 := ne_new B_g12 z25
 have n_g15_g23 : g15 ≠ g23 := ne_new B_g15 z25
 have z_0_g23 := Nat.le_trans K_0.kept.1 z25
 have z_s11_g23 := Nat.le_trans K_s11.kept.1 z25
 have z_s22_g23 := Nat.le_trans K_s22.kept.1 z25
 replace B_g1 := kp_blk B_g1 hk (fun h => h)
 replace B_g4 := kp_blk B_g4 hk (fun h => h)
 replace B_g12 := kp_blk B_g12 hk (fun h => h)
 replace B_g15 := kp_blk B_g15 hk (fun h => h)
 replace K_0 := K_0.then_ hk (fun _ h => h.elim)
 replace K_s11 := K_s11.then_ hk (fun _ h => h.elim)
 replace K_s22 := K_s22.then_ hk (fun _ h => h.elim)
 clear hk
 refine p_cons (s_call (xs := [Operand.tmp 22, Operand.tmp 23]) (args := [Value.slice A7 ((encB ([((6 : Int), ([0, 0, 5, 255] : List Int), l16 (fun _ => 0), ([] : List Int))])).length) c8, Value.slice (some ⟨g23, 0, none⟩) 6 6]) p13_3_5 hE (wn_some g13_3_2 rfl rfl) rfl rfl Try.func15 cl15 (Go.Proofs.Ytgpclehnomkbmaa.Pk.same_any A7 (some ⟨g23, 0, none⟩) c8 6 (encB ([((6 : Int), ([0, 0, 5, 255] : List Int), l16 (fun _ => 0), ([] : List Int))])) [6, 4, 0, 0, 5, 255] true (by decide +kernel) _ (C_to hRf9 K_s11) hcapf9 (C_blk (k := .u8) (l := [6, 4, 0, 0, 5, 255]) (off := 0) B_g23 ⟨rfl, Nat.le_of_ble_eq_true rfl⟩ rfl) (by decide) (by have := encB_bd ([((6 : Int), ([0, 0, 5, 255] : List Int), l16 (fun _ => 0), ([] : List Int))]) (.inr trivial); omega)) ?_)
 rintro e w26 ⟨rfl, hn⟩
 have hk := kp_n hn (fun _ => False)
 replace B_g1 := kp_blk B_g1 hk (fun h => h)
 replace B_g4 := kp_blk B_g4 hk (fun h => h)
 replace B_g12 := kp_blk B_g12 hk (fun h => h)
 replace B_g15 := kp_blk B_g15 hk (fun h => h)
 replace B_g23 := kp_blk B_g23 hk (fun h => h)
 replace K_0 := K_0.then_ hk (fun _ h => h.elim)
 replace K_s11 := K_s11.then_ hk (fun _ h => h.elim)
 replace K_s22 := K_s22.then_ hk (fun _ h => h.elim)
 refine ⟨_, rfl, ?_⟩; clear hE a; intro a hE
 refine q0 p13_3_6 hE (st_pick rfl rfl) ?_; clear hE a; intro a hE
 refine q0 p13_3_7 hE (st_move rfl) ?_; clear hE a; intro a hE
 refine p_cons (s_still p13_3_8 hE (wn_some g13_3_7 rfl rfl) rfl (st_move rfl) ?_); clear hE a; intro a hE
 refine p_cons (s_still p13_3_9 hE (wn_some g13_3_7 rfl rfl) rfl (st_eql (b := true) rfl rfl (by decide)) ?_); clear hE a; intro a hE
 refine q0 p13_3_10 hE (st_pick rfl rfl) ?_; clear hE a; intro a hE
 refine q0 p13_3_11 hE (st_move rfl) ?_; clear hE a; intro a hE
 refine p_cons (s_still p13_3_12 hE (wn_some g13_3_11 rfl rfl) rfl (st_move rfl) ?_); clear hE a; intro a hE
 refine p_cons (s_row (xs := [(0, Operand.const (Value.int IntKind.u8 1)), (1, Operand.const (Value.int IntKind.u8 2)), (2, Operand.const (Value.int IntKind.u8 0)), (3, Operand.const (Value.int IntKind.u8 0))]) (vs := [(0, Value.int .u8 1), (1, Value.int .u8 2), (2, Value.int .u8 0), (3, Value.int .u8 0)]) (cs := #[Value.int .u8 1, Value.int .u8 2, Value.int .u8 0, Value.int .u8 0]) p13_3_13 hE (wn_some g13_3_11 rfl rfl) rfl Try.underlying22 rfl (by kernel_rfl) ?_)
 clear hE a; intro g27 w28 z29 B_g27 hk a hE
 have n_g1_g27 : g1 ≠ g27 := ne_new B_g1 z29
 have n_g4_g27 : g4 ≠ g27 := ne_new B_g4 z29
 have n_g12_g27 : g12 ≠ g27 := ne_new B_g12 z29
 have n_g15_g27 : g15 ≠ g27 := ne_new B_g15 z29
 have n_g23_g27 : g23 ≠ g27 := ne_new B_g23 z29
 have z_0_g27 := Nat.le_trans K_0.kept.1 z29
 have z_s11_g27 := Nat.le_trans K_s11.kept.1 z29
 have z_s22_g27 := Nat.le_trans K_s22.kept.1 z29
 replace B_g1 := kp_blk B_g1 hk (fun h => h)
 replace B_g4 := kp_blk B_g4 hk (fun h => h)
 replace B_g12 := kp_blk B_g12 hk (fun h => h)
 replace B_g15 := kp_blk B_g15 hk (fun h => h)
 replace B_g23 := kp_blk B_g23 hk (fun h => h)
 replace K_0 := K_0.then_ hk (fun _ h => h.elim)
 replace K_s11 := K_s11.then_ hk (fun _ h => h.elim)
 replace K_s22 := K_s22.then_ hk (fun _ h => h.elim)
 clear hk
 refine p_cons (s_call (xs := [Operand.tmp 31, Operand.tmp 32]) (args := [Value.slice A18 ((encB ([((1 : Int), ([2] : List Int), l16 (fun _ => 0), ([] : List Int))])).length) c19, Value.slice (some ⟨g27, 0, none⟩) 4 4]) p13_3_14 hE (wn_some g13_3_11 rfl rfl) rfl rfl Try.func15 cl15 (Go.Proofs.Ytgpclehnomkbmaa.Pk.same_any A18 (some ⟨g27, 0, none⟩) c19 4 (encB ([((1 : Int), ([2] : List Int), l16 (fun _ => 0), ([] : List Int))])) [1, 2, 0, 0] true (by decide +kernel) _ (C_to hRf20 K_s22) hcapf20 (C_blk (k := .u8) (l := [1, 2, 0, 0]) (off := 0) B_g27 ⟨rfl, Nat.le_of_ble_eq_true rfl⟩ rfl) (by decide) (by have := encB_bd ([((1 : Int), ([2] : List Int), l16 (fun _ => 0), ([] : List Int))]) (.inr trivial); omega)) ?_)
 rintro e w30 ⟨rfl, hn⟩
 have hk := kp_n hn (fun _ => False)
 replace B_g1 := kp_blk B_g1 hk (fun h => h)
 replace B_g4 := kp_blk B_g4 hk (fun h => h)
 replace B_g12 := kp_blk B_g12 hk (fun h => h)
 replace B_g15 := kp_blk B_g15 hk (fun h => h)
 replace B_g23 := kp_blk B_g23 hk (fun h => h)
 replace B_g27 := kp_blk B_g27 hk (fun h => h)
 replace K_0 := K_0.then_ hk (fun _ h => h.elim)
 replace K_s11 := K_s11.then_ hk (fun _ h => h.elim)
 replace K_s22 := K_s22.then_ hk (fun _ h => h.elim)
 refine ⟨_, rfl, ?_⟩; clear hE a; intro a hE
 refine q0 p13_3_15 hE (st_pick rfl rfl) ?_; clear hE a; intro a hE
 refine q0 p13_3_16 hE (st_move rfl) ?_; clear hE a; intro a hE
 refine p_cons (s_call (xs := [Operand.const (Value.int IntKind.i64 3)]) (args := [Value.int .i64 3]) p13_3_17 hE (wn_some g13_3_16 rfl rfl) rfl rfl Try.func18 cl18 (word_any 3 _) ?_)
 rintro e w31 ⟨rfl, hk⟩
 replace B_g1 := kp_blk B_g1 hk (fun h => h)
 replace B_g4 := kp_blk B_g4 hk (fun h => h)
 replace B_g12 := kp_blk B_g12 hk (fun h => h)
 replace B_g15 := kp_blk B_g15 hk (fun h => h)
 replace B_g23 := kp_blk B_g23 hk (fun h => h)
 replace B_g27 := kp_blk B_g27 hk (fun h => h)
 replace K_0 := K_0.then_ hk (fun _ h => h.elim)
 replace K_s11 := K_s11.then_ hk (fun _ h => h.elim)
 replace K_s22 := K_s22.then_ hk (fun _ h => h.elim)
 refine ⟨_, rfl, ?_⟩; clear hE a; intro a hE
 refine p_cons (s_still p13_3_18 hE (wn_some g13_3_16 rfl rfl) rfl (st_eqlS (b := true) rfl rfl (by decide +kernel)) ?_); clear hE a; intro a hE
 refine q0 p13_3_19 hE (st_pick rfl rfl) ?_; clear hE a; intro a hE
 refine q0 p13_3_20 hE (st_assign rfl) ?_; clear hE a; intro a hE
 refine p_nil (x_norm (wp_ret ?_))
 refine ret_one (v := Value.bool true) rfl hE (.tmp rfl .nil) ?_
 exact ⟨rfl, K_0⟩
end Go.Proofs.Ytgpclehnomkbmaa.Oe
