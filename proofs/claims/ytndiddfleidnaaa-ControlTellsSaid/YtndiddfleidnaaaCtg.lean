/- A message's targets; To. -/
import Derived.Test.YtndiddfleidnaaaCtk
import Derived.Test.YtndiddfleidnaaaOfi
set_option maxRecDepth 100000
set_option linter.unusedVariables false
set_option linter.unusedSimpArgs false
namespace Go.Proofs.Ytndiddfleidnaaa.Cg
open Go.RowKit Go.Proofs.YtndiddfleidnaaaW.PrintWords Go.Proofs.Ytndiddfleidnaaa.Ds Go.Proofs.Ytndiddfleidnaaa.Op Go.Proofs.Ytndiddfleidnaaa.Or Go.Proofs.Ytndiddfleidnaaa.Os Go.Proofs.Ytndiddfleidnaaa.Of Go.Proofs.Ytndiddfleidnaaa.Ct Go.Proofs.Ytndiddfleidnaaa.Ck
open Go.Proofs.Ytndiddfleidnaaa.Pk (Kp fitsF spanF putF digF fits_any put_ok put_bd C_take)
theorem C_drop {α : Type} {dd : Kd α} {w : World} {n : Nat} {xs : List α} {A : Option Addr} {lo : Nat} (hC : dd.C w A n xs) (h : lo < n) : dd.C w (A.map (·.add (lo * dd.sz))) (n - lo) (xs.drop lo) := by
  refine ⟨by have := hC.1; simp; omega, by have := hC.2.1; omega, fun _ => ?_⟩
  obtain ⟨ad, he, hc⟩ := hC.2.2 (by omega)
  refine ⟨ad.add (lo * dd.sz), by rw [he]; rfl, fun j x hj => ?_⟩
  rw [List.getElem?_drop] at hj
  obtain ⟨c, hl, hK, hu⟩ := hc (lo + j) x hj
  refine ⟨c, hl, hK, fun i u hi => ?_⟩
  have := hu i u hi
  rw [addr_add2, show lo * dd.sz + (j * dd.sz + i) = (lo + j) * dd.sz + i by rw [Nat.add_mul]; omega]
  exact this
/-- The targets of options. -/
def isT (x : OV) : Bool := decide (x.1 = 5)
def tgt (xs : List OV) : List OV := (xs.filter isT).map cpV
theorem tgt_succ {xs : List OV} {k : Nat} (hk : k < xs.length) : tgt (xs.take (k + 1)) = tgt (xs.take k) ++ (if isT (xs.getD k zO) then [cpV (xs.getD k zO)] else []) := by
  unfold tgt
  rw [List.take_succ_eq_append_getElem hk, List.filter_append, List.map_append, List.getD_eq_getElem?_getD, List.getElem?_eq_getElem hk]
  congr 1
  simp only [Option.getD_some]
  have e : List.filter isT [xs[k]] = if isT xs[k] then [xs[k]] else [] := by
    rw [List.filter_cons]
    cases isT xs[k] <;> rfl
  rw [e]
  split <;> rfl
theorem tgt_len (xs : List OV) : (tgt xs).length ≤ xs.length := by unfold tgt; rw [List.length_map]; exact List.length_filter_le _ _
theorem at_head {xs : List OV} {v : Int} {i : Nat} {x : OV} (h : AtP [5] (xs.drop i) (xs.drop i).length v) (hi : i < xs.length) (hx : xs.getD i zO = x) (h5 : x.1 = 5) : v = 0 := by
  have h0 : (xs.drop i).getD 0 zO = x := by rw [← hx, List.getD_eq_getElem?_getD, List.getElem?_drop, List.getD_eq_getElem?_getD, Nat.add_zero]
  have hof : ofK [5] ((xs.drop i).getD 0 zO) = true := by rw [h0]; unfold ofK; simp [h5]
  rcases h with ⟨_, h2⟩ | ⟨k, h1, h2, h3, h4⟩
  · have := h2 0 (by rw [List.length_drop]; omega)
    rw [hof] at this; cases this
  · rcases Nat.eq_zero_or_pos k with hk | hk
    · rw [h2, hk]; rfl
    · have := h4 0 hk
      rw [hof] at this; cases this
theorem drop_head {xs : List OV} {i : Nat} {x : OV} (hx : xs.getD i zO = x) : (xs.drop i).getD 0 zO = x := by
  rw [← hx, List.getD_eq_getElem?_getD, List.getElem?_drop, List.getD_eq_getElem?_getD, Nat.add_zero]
theorem find_n9 (A B : Option Addr) (c cb n : Nat) (xs : List OV) (ks : List Int) (hn : xs.length = n) (hx : ∀ x ∈ xs, okO x) (w : World) (hF : Kd.C dO w A n xs) (hG : ∀ W', Kp w W' (fun _ => False) → Kd.C (Kd.int .i64) W' B ks.length ks) (hmx : n ≤ 1000000) (hmk : ks.length ≤ 1000000000000 := by decide) : Calls Try.prog 35 #[.slice A n c, .slice B ks.length cb] w fun e w' => ∃ (y : OV) (v : Int) (A' T' : Option Addr) (q' c' : Nat), e = .returned (.tuple #[Value.agg (([Value.int .i64 y.1, Value.slice A' y.2.1.length q'] ++ b16 (adr y) ++ [Value.slice T' y.2.2.2.length c'])).toArray, .bool (decide (0 ≤ v))]) ∧ AtP ks xs xs.length v ∧ (0 ≤ v → y = xs.getD v.toNat zO) ∧ y.2.1.length ≤ q' ∧ y.2.2.2.length ≤ c' ∧ (∀ W', Kp w' W' (fun k => k < w.heap.size) → Kd.C (Kd.int .i64) W' A' y.2.1.length y.2.1) ∧ (∀ W', Kp w' W' (fun k => k < w.heap.size) → Kd.C (Kd.int .u8) W' T' y.2.2.2.length y.2.2.2) ∧ Kp w w' (fun _ => False) := by
  subst hn; exact find_far A B c cb xs ks hx w hF hG hmx hmk
theorem R50_0_l : List.range (regOf Try.f50 0).size = [0, 1] := by kernel_rfl
theorem R50_1_l : List.range (regOf Try.f50 1).size = [0] := by kernel_rfl
theorem R50_2_l : List.range (regOf Try.f50 2).size = [0, 1, 2, 3] := by kernel_rfl
theorem R50_3_l : List.range (regOf Try.f50 3).size = [0] := by kernel_rfl
theorem R50_4_l : List.range (regOf Try.f50 4).size = [0, 1, 2, 3, 4, 5] := by kernel_rfl
theorem R50_5_l : List.range (regOf Try.f50 5).size = [0, 1, 2] := by kernel_rfl
theorem R50_6_l : List.range (regOf Try.f50 6).size = [0, 1, 2, 3, 4, 5, 6, 7, 8, 9, 10, 11] := by kernel_rfl
theorem R50_7_l : List.range (regOf Try.f50 7).size = [0, 1, 2, 3, 4] := by kernel_rfl
theorem R50_8_l : List.range (regOf Try.f50 8).size = [0, 1] := by kernel_rfl
theorem R50_9_l : List.range (regOf Try.f50 9).size = [0, 1] := by kernel_rfl
theorem body50 : Try.f50.body = some (.seq (.region 0 (regOf Try.f50 0) false) (.seq (.region 1 (regOf Try.f50 1) false) (.seq (.seq (.region 2 (regOf Try.f50 2) false) (.block 0 (.loop (.seq (.region 3 (regOf Try.f50 3) false) (.seq (.cond (Operand.tmp 12) (.skip) (.exit 0)) (.seq (.block 1 (.seq (.region 4 (regOf Try.f50 4) false) (.seq (.region 5 (regOf Try.f50 5) false) (.cond (Operand.tmp 18) (.seq (.region 6 (regOf Try.f50 6) false) (.region 7 (regOf Try.f50 7) false)) (.skip))))) (.region 8 (regOf Try.f50 8) false))))))) (.seq (.region 9 (regOf Try.f50 9) false) (.ret))))) := by kernel_rfl
theorem p50_0_0 : pj (regOf Try.f50 0) 0 = some (some 1, .box 89 (.tmp 0), 0, none) := by kernel_rfl
theorem p50_0_1 : pj (regOf Try.f50 0) 1 = some (some 2, .assign (.const (.slice none 0 0)), 58, none) := by kernel_rfl
theorem p50_1_0 : pj (regOf Try.f50 1) 0 = some (some 3, .assign (.const (.slice none 0 0)), 58, none) := by kernel_rfl
theorem p50_2_0 : pj (regOf Try.f50 2) 0 = some (some 8, .fieldAddr 89 (.tmp 1) 12, 0, none) := by kernel_rfl
theorem tS58 : (Try.prog.info? 58).map (·.size) = some 1 := by kernel_rfl
theorem p50_2_1 : pj (regOf Try.f50 2) 1 = some (some 9, .load 58 (.tmp 8), 58, none) := by kernel_rfl
theorem tA58 : (Try.prog.underlying 58).map aggD = some false := by kernel_rfl
theorem p50_2_2 : pj (regOf Try.f50 2) 2 = some (some 10, .call { callee := .builtin .len, args := #[.tmp 9], argTypes := #[58] }, 3, none) := by kernel_rfl
theorem p50_2_3 : pj (regOf Try.f50 2) 3 = some (some 11, .move (.const (.int .i64 0)), 3, none) := by kernel_rfl
theorem p50_3_0 : pj (regOf Try.f50 3) 0 = some (some 12, .binOp .lss 3 (.tmp 11) (.tmp 10) 3, 0, none) := by kernel_rfl
theorem p50_4_0 : pj (regOf Try.f50 4) 0 = some (some 13, .move (.tmp 11), 3, none) := by kernel_rfl
theorem p50_4_1 : pj (regOf Try.f50 4) 1 = some (some 14, .indexAddr 58 (.tmp 9) (.tmp 11), 0, none) := by kernel_rfl
theorem tS64 : (Try.prog.info? 64).map (·.size) = some 19 := by kernel_rfl
theorem p50_4_2 : pj (regOf Try.f50 4) 2 = some (some 15, .load 64 (.tmp 14), 64, none) := by kernel_rfl
theorem tA64 : (Try.prog.underlying 64).map aggD = some true := by kernel_rfl
theorem p50_4_3 : pj (regOf Try.f50 4) 3 = some (some 5, .alloc 64, 0, none) := by kernel_rfl
theorem tZ64 : (Try.prog.info? 64).bind (·.zero) = some (Value.agg (([Value.int .i64 0, Value.slice none 0 0] ++ b16 (fun _ => 0) ++ [Value.slice none 0 0])).toArray) := by kernel_rfl
theorem p50_4_4 : pj (regOf Try.f50 4) 4 = some (some 4, .assign (.tmp 13), 3, none) := by kernel_rfl
theorem p50_4_5 : pj (regOf Try.f50 4) 5 = some (none, .store 64 (.tmp 5) (.tmp 15), 0, none) := by kernel_rfl
theorem p50_5_0 : pj (regOf Try.f50 5) 0 = some (some 16, .fieldAddr 64 (.tmp 5) 0, 0, none) := by kernel_rfl
theorem tS3 : (Try.prog.info? 3).map (·.size) = some 1 := by kernel_rfl
theorem p50_5_1 : pj (regOf Try.f50 5) 1 = some (some 17, .load 3 (.tmp 16), 3, none) := by kernel_rfl
theorem tA3 : (Try.prog.underlying 3).map aggD = some false := by kernel_rfl
theorem p50_5_2 : pj (regOf Try.f50 5) 2 = some (some 18, .binOp .eql 3 (.tmp 17) (.const (.int .i64 5)) 3, 4, none) := by kernel_rfl
theorem p50_6_0 : pj (regOf Try.f50 6) 0 = some (some 20, .fieldAddr 89 (.tmp 1) 12, 0, none) := by kernel_rfl
theorem p50_6_1 : pj (regOf Try.f50 6) 1 = some (some 21, .load 58 (.tmp 20), 58, none) := by kernel_rfl
theorem p50_6_2 : pj (regOf Try.f50 6) 2 = some (some 22, .move (.tmp 4), 3, none) := by kernel_rfl
theorem p50_6_3 : pj (regOf Try.f50 6) 3 = some (some 23, .slice 58 (.tmp 21) (some (.tmp 22)) none none, 58, none) := by kernel_rfl
theorem p50_6_4 : pj (regOf Try.f50 6) 4 = some (some 24, .buildSlice 62 1 #[(0, .const (.int .i64 5))], 62, none) := by kernel_rfl
theorem p50_6_5 : pj (regOf Try.f50 6) 5 = some (some 25, .call { callee := .value (.func 35), args := #[.tmp 23, .tmp 24], argTypes := #[58, 62] }, 65, none) := by kernel_rfl
theorem cl35 : callable Try.f35 = true := by kernel_rfl
theorem p50_6_6 : pj (regOf Try.f50 6) 6 = some (some 19, .move (.tmp 25), 65, none) := by kernel_rfl
theorem p50_6_7 : pj (regOf Try.f50 6) 7 = some (some 26, .extract (.tmp 19) 0, 64, none) := by kernel_rfl
theorem p50_6_8 : pj (regOf Try.f50 6) 8 = some (some 27, .extract (.tmp 19) 1, 4, none) := by kernel_rfl
theorem p50_6_9 : pj (regOf Try.f50 6) 9 = some (some 6, .alloc 64, 0, none) := by kernel_rfl
theorem p50_6_10 : pj (regOf Try.f50 6) 10 = some (none, .store 64 (.tmp 6) (.tmp 26), 0, none) := by kernel_rfl
theorem p50_6_11 : pj (regOf Try.f50 6) 11 = some (some 7, .assign (.tmp 27), 4, none) := by kernel_rfl
theorem p50_7_0 : pj (regOf Try.f50 7) 0 = some (some 28, .move (.tmp 3), 58, none) := by kernel_rfl
theorem p50_7_1 : pj (regOf Try.f50 7) 1 = some (some 29, .load 64 (.tmp 6), 64, none) := by kernel_rfl
theorem p50_7_2 : pj (regOf Try.f50 7) 2 = some (some 30, .buildSlice 58 1 #[(0, .tmp 29)], 58, none) := by kernel_rfl
theorem p50_7_3 : pj (regOf Try.f50 7) 3 = some (some 31, .call { callee := .builtin .append, args := #[.tmp 28, .tmp 30], argTypes := #[58, 58] }, 58, none) := by kernel_rfl
theorem eD64 : elemD Try.prog 64 = some (19, 19, 72) := by kernel_rfl
theorem p50_7_4 : pj (regOf Try.f50 7) 4 = some (some 3, .assign (.tmp 31), 58, none) := by kernel_rfl
theorem p50_8_0 : pj (regOf Try.f50 8) 0 = some (some 32, .binOp .add 3 (.tmp 11) (.const (.int .i64 1)) 3, 3, none) := by kernel_rfl
theorem p50_8_1 : pj (regOf Try.f50 8) 1 = some (some 11, .move (.tmp 32), 3, none) := by kernel_rfl
theorem p50_9_0 : pj (regOf Try.f50 9) 0 = some (some 33, .move (.tmp 3), 58, none) := by kernel_rfl
theorem p50_9_1 : pj (regOf Try.f50 9) 1 = some (some 2, .assign (.tmp 33), 58, none) := by kernel_rfl
set_option maxHeartbeats 4000000 in
theorem targets_any (m0 m1 m2 m3 m4 m5 m6 m7 m8 : Int) (gr ask : Bool) (rt : Nat → Int) (A : Option Addr) (c : Nat) (xs : List OV) (hx : ∀ x ∈ xs, okO x) (w : World) (hF : Kd.C dO w A xs.length xs) (hc : xs.length ≤ c) (hmx : xs.length ≤ 1000000) : Calls Try.prog 50 #[Value.agg (([Value.int .i64 m0, Value.int .i64 m1, Value.int .i64 m2, Value.int .i64 m3, Value.int .i64 m4, Value.int .i64 m5, Value.int .i64 m6, Value.int .i64 m7, Value.int .i64 m8, Value.bool gr, Value.bool ask] ++ b16 rt ++ [Value.slice A xs.length c])).toArray] w fun e w' => ∃ A' c', e = .returned (.slice A' (tgt xs).length c') ∧ (tgt xs).length ≤ c' ∧ (∀ W', Kp w' W' (fun _ => False) → Kd.C dO W' A' (tgt xs).length (tgt xs)) ∧ Kp w w' (fun _ => False) := by
  have K_0 := Kp.refl w (fun _ => False)
  refine enter (args := [Value.agg (([Value.int .i64 m0, Value.int .i64 m1, Value.int .i64 m2, Value.int .i64 m3, Value.int .i64 m4, Value.int .i64 m5, Value.int .i64 m6, Value.int .i64 m7, Value.int .i64 m8, Value.bool gr, Value.bool ask] ++ b16 rt ++ [Value.slice A xs.length c])).toArray]) (n := 34) Try.func50 body50 rfl rfl rfl ?_
  intro a hE
  refine c_reg R50_0_l ?_
  refine p_cons (s_box p50_0_0 hE wn_none rfl rfl ?_)
  clear hE a; intro g1 w2 z3 B_g1 hk a hE
  replace B_g1 : w2.heap[g1]? = some (.cells (([Value.int .i64 m0, Value.int .i64 m1, Value.int .i64 m2, Value.int .i64 m3, Value.int .i64 m4, Value.int .i64 m5, Value.int .i64 m6, Value.int .i64 m7, Value.int .i64 m8, Value.bool gr, Value.bool ask] ++ b16 rt ++ [Value.slice A xs.length c])).toArray 89 (0, 0)) := B_g1
  have z_0_g1 := Nat.le_trans K_0.kept.1 z3
  replace K_0 := K_0.then_ hk (fun _ h => h.elim)
  clear hk
  refine q0 p50_0_1 hE (st_assign rfl) ?_
  clear hE a; intro a hE
  refine p_nil ?_
  refine x_norm ?_
  refine c_reg R50_1_l ?_
  refine q0 p50_1_0 hE (st_assign rfl) ?_
  clear hE a; intro a hE
  refine p_nil ?_
  refine x_norm ?_
  refine wp_seq ?_
  refine c_reg R50_2_l ?_
  refine q0 p50_2_0 hE (st_fieldAddr Try.underlying89 rfl tS58 rfl rfl) ?_
  clear hE a; intro a hE
  refine q0 p50_2_1 hE (st_load1 tA58 rfl ((blk_cell B_g1 27).trans rfl)) ?_
  clear hE a; intro a hE
  refine q0 p50_2_2 hE (st_len Try.underlying58 rfl) ?_
  clear hE a; intro a hE
  refine q0 p50_2_3 hE (st_move rfl) ?_
  clear hE a; intro a hE
  refine p_nil ?_
  refine x_norm ?_
  refine wp_block ?_
  have O_out := own_none w2 w.heap.size 64 19
  have Nb_out_g1 : ¬ OB none g1 := ob_nil
  have Z_0_out : ∀ k, OB none k → (fun _ => False) k ∨ w.heap.size ≤ k := fun k h => absurd h ob_nil
  refine c_loop (α := Nat) (fun k a W => ∃ (A_out : Option Addr) (c_out : Nat) (n_out : Nat), ∃ (zs : List Value), En 34 a [(0, Value.agg (([Value.int .i64 m0, Value.int .i64 m1, Value.int .i64 m2, Value.int .i64 m3, Value.int .i64 m4, Value.int .i64 m5, Value.int .i64 m6, Value.int .i64 m7, Value.int .i64 m8, Value.bool gr, Value.bool ask] ++ b16 rt ++ [Value.slice A xs.length c])).toArray), (1, Value.pointer (some ⟨g1, 0, none⟩)), (2, Value.slice none 0 0), (9, Value.slice A xs.length c), (10, Value.int .i64 (xs.length : Int)), (11, Value.int .i64 (k : Int)), (3, Value.slice A_out n_out c_out)] ∧ k ≤ xs.length ∧ n_out = (tgt (xs.take k)).length ∧ n_out ≤ k ∧ (∀ W', Kp W W' (fun k => OB A_out k) → Reps (Kd.K dO W') 19 (tgt (xs.take k)) zs) ∧ W.heap[g1]? = some (.cells (([Value.int .i64 m0, Value.int .i64 m1, Value.int .i64 m2, Value.int .i64 m3, Value.int .i64 m4, Value.int .i64 m5, Value.int .i64 m6, Value.int .i64 m7, Value.int .i64 m8, Value.bool gr, Value.bool ask] ++ b16 rt ++ [Value.slice A xs.length c])).toArray 89 (0, 0)) ∧ W.ownsRow w.heap.size 64 19 (.slice A_out n_out c_out) n_out zs ∧ ¬ OB A_out g1 ∧ (∀ k, OB A_out k → (fun _ => False) k ∨ w.heap.size ≤ k) ∧ Kp w W (fun _ => False)) (fun k => xs.length - k) (0) ?_ ?_
  ·
    exact ⟨none, 0, 0, [], En.sub hE ⟨rfl, rfl, rfl, rfl, rfl, rfl, rfl, trivial⟩, Nat.zero_le _, rfl, Nat.le_refl _, (fun W' hk => Reps.none _ _), B_g1, O_out, Nb_out_g1, Z_0_out, K_0⟩
  ·
    clear hE a
    rintro k a w4 ⟨A_out, c_out, n_out, zs, hE, hk9, hn_out, hlo, F_out, B_g1, O_out, Nb_out_g1, Z_0_out, K_0⟩
    rcases Decidable.em ((k : Int) < (xs.length : Int)) with hK1 | hK1
    ·
      refine c_reg R50_3_l ?_
      refine q0 p50_3_0 hE (st_lss (b := true) rfl rfl (decide_eq_true hK1)) ?_
      clear hE a; intro a hE
      refine p_nil ?_
      refine x_norm ?_
      refine wp_seq ?_
      refine c_cond (t := true) hE rfl ?_
      refine wp_skip ?_
      refine x_norm ?_
      refine wp_seq ?_
      refine wp_block ?_
      refine c_reg R50_4_l ?_
      have hkx : k < xs.length := by omega
      have K_s5 := Kp.refl w4 (fun k => OB A_out k)
      have Z_s5_out : ∀ k, OB A_out k → (fun k => OB A_out k) k ∨ w4.heap.size ≤ k := fun k h => .inl h
      obtain ⟨hAe6, cce6, hKe6, hce6⟩ := C_elem (i := k) hF zO (show k < xs.length by omega)
      obtain ⟨x, hxe6⟩ : ∃ x, List.getD xs k zO = x := ⟨_, rfl⟩
      rw [hxe6] at hKe6
      obtain ⟨Ae6, qe6, Te6, ce6, rfl, hle6, hme6, hCe6, hDe6⟩ := opt_open hKe6
      refine q0 p50_4_0 hE (st_move rfl) ?_
      clear hE a; intro a hE
      refine q0 p50_4_1 hE (st_indexAddrR (i := k) (s := 19) Try.underlying58 tS64 hAe6 rfl rfl (by omega)) ?_
      clear hE a; intro a hE
      refine q0 p50_4_2 hE (st_loadR (off := k * 19) (j := 0) (k := 19) (vs := ([Value.int .i64 x.1, Value.slice Ae6 x.2.1.length qe6] ++ b16 (adr x) ++ [Value.slice Te6 x.2.2.2.length ce6])) tA64 tS64 (fun j u h => cell_to K_0 (hce6 j u h)) rfl rfl (by omega) rfl) ?_
      clear hE a; intro a hE
      refine p_cons (s_alloc p50_4_3 hE wn_none rfl tZ64 ?_)
      clear hE a; intro g7 w8 z9 B_g7 hk a hE
      replace B_g7 : w8.heap[g7]? = some (.cells (([Value.int .i64 0, Value.slice none 0 0] ++ b16 (fun _ => 0) ++ [Value.slice none 0 0])).toArray 64 (0, 0)) := B_g7
      have n_g1_g7 : g1 ≠ g7 := ne_new B_g1 z9
      have z_0_g7 := Nat.le_trans K_0.kept.1 z9
      have z_s5_g7 := Nat.le_trans K_s5.kept.1 z9
      have Nb_out_g7 : ¬ OB A_out g7 := fun h => by have := (own_ob O_out h).2; omega
      replace B_g1 := kp_blk B_g1 hk (fun h => h)
      replace O_out := own_keep O_out hk (fun _ _ h => h)
      replace K_0 := K_0.then_ hk (fun _ h => h.elim)
      replace K_s5 := K_s5.then_ hk (fun _ h => h.elim)
      clear hk
      refine q0 p50_4_4 hE (st_assign rfl) ?_
      clear hE a; intro a hE
      refine p_cons (s_store (off := 0) (k := 19) (cs' := (([Value.int .i64 x.1, Value.slice Ae6 x.2.1.length qe6] ++ b16 (adr x) ++ [Value.slice Te6 x.2.2.2.length ce6])).toArray) p50_4_5 hE wn_none tS64 rfl rfl rfl rfl B_g7 (Nat.le_of_ble_eq_true rfl) rfl ?_)
      intro w10 B_g7' hk
      replace B_g1 := kp_blk B_g1 hk n_g1_g7
      replace O_out := own_keep O_out hk (fun k hk2 h2 => Nb_out_g7 (by rw [show k = g7 from h2] at hk2; exact hk2))
      replace K_0 := K_0.then_ hk (fun k h => by rw [show k = g7 from h]; exact Or.inr z_0_g7)
      replace K_s5 := K_s5.then_ hk (fun k h => by rw [show k = g7 from h]; exact Or.inr z_s5_g7)
      replace B_g7 := B_g7'
      clear hk
      refine p_nil ?_
      refine x_norm ?_
      rcases Decidable.em (x.1 = 5) with hE5 | hE5
      ·
        refine c_reg R50_5_l ?_
        refine q0 p50_5_0 hE (st_fieldAddr Try.underlying64 rfl tS3 rfl rfl) ?_
        clear hE a; intro a hE
        refine q0 p50_5_1 hE (st_load1 tA3 rfl ((blk_cell B_g7 0).trans rfl)) ?_
        clear hE a; intro a hE
        refine q0 p50_5_2 hE (st_eql (b := true) rfl rfl (decide_eq_true hE5)) ?_
        clear hE a; intro a hE
        refine p_nil ?_
        refine x_norm ?_
        refine c_cond (t := true) hE rfl ?_
        refine c_reg R50_6_l ?_
        refine q0 p50_6_0 hE (st_fieldAddr Try.underlying89 rfl tS58 rfl rfl) ?_
        clear hE a; intro a hE
        refine q0 p50_6_1 hE (st_load1 tA58 rfl ((blk_cell B_g1 27).trans rfl)) ?_
        clear hE a; intro a hE
        refine q0 p50_6_2 hE (st_move rfl) ?_
        clear hE a; intro a hE
        refine q0 p50_6_3 hE (st_sliceL (lo := k) (A' := (Option.map (fun z => Addr.add z (k * 19)) A)) Try.underlying58 tS64 rfl rfl (by omega) rfl rfl (by rw [if_neg (by omega)])) ?_
        clear hE a; intro a hE
        refine p_cons (s_row (xs := [(0, Operand.const (Value.int IntKind.i64 5))]) (vs := [(0, Value.int .i64 5)]) (cs := #[Value.int .i64 5]) p50_6_4 hE wn_none rfl Try.underlying62 rfl (by kernel_rfl) ?_)
        clear hE a; intro g11 w12 z13 B_g11 hk a hE
        have n_g1_g11 : g1 ≠ g11 := ne_new B_g1 z13
        have n_g7_g11 : g7 ≠ g11 := ne_new B_g7 z13
        have z_0_g11 := Nat.le_trans K_0.kept.1 z13
        have z_s5_g11 := Nat.le_trans K_s5.kept.1 z13
        have Nb_out_g11 : ¬ OB A_out g11 := fun h => by have := (own_ob O_out h).2; omega
        replace B_g1 := kp_blk B_g1 hk (fun h => h)
        replace B_g7 := kp_blk B_g7 hk (fun h => h)
        replace O_out := own_keep O_out hk (fun _ _ h => h)
        replace K_0 := K_0.then_ hk (fun _ h => h.elim)
        replace K_s5 := K_s5.then_ hk (fun _ h => h.elim)
        clear hk
        have hdl : (xs.drop k).length = xs.length - k := List.length_drop
        have hlo9 := fun k (h : OB A_out k) => (own_ob O_out h).2
        refine p_cons (s_call (xs := [Operand.tmp 23, Operand.tmp 24]) (args := [Value.slice (Option.map (fun z => Addr.add z (k * 19)) A) (xs.length - k) (c - k), Value.slice (some ⟨g11, 0, none⟩) 1 1]) p50_6_5 hE wn_none rfl rfl Try.func35 cl35 (find_n9 _ _ (c - k) 1 (xs.length - k) (xs.drop k) [5] hdl (fun z hz => hx z (List.mem_of_mem_drop hz)) _ (C_to (C_drop hF hkx) K_0) (fun W' hk => C_blk (k := .i64) (l := [5]) (off := 0) (kp_blk B_g11 hk (fun h => h)) ⟨rfl, Nat.le_of_ble_eq_true rfl⟩ rfl) (by omega)) ?_)
        rintro e w15 ⟨y, v, Ao14, To14, qo14, co14, rfl, hAt, hyv, hlo14, hmo14, Fio14, Fto14, hk⟩
        replace B_g1 := kp_blk B_g1 hk (fun h => h)
        replace B_g7 := kp_blk B_g7 hk (fun h => h)
        replace B_g11 := kp_blk B_g11 hk (fun h => h)
        replace O_out := own_keep O_out hk (fun _ _ h => h)
        replace K_0 := K_0.then_ hk (fun _ h => h.elim)
        replace K_s5 := K_s5.then_ hk (fun _ h => h.elim)
        have hv0 := at_head hAt hkx hxe6 hE5
        have hyx : y = x := (hyv (by omega)).trans (by rw [hv0]; exact drop_head hxe6)
        have hb9 : decide (0 ≤ v) = true := decide_eq_true (by omega)
        replace hyx := hyx.symm
        subst hyx
        have K_s16 := Kp.refl w15 (fun k => OB A_out k)
        have Z_s16_out : ∀ k, OB A_out k → (fun k => OB A_out k) k ∨ w15.heap.size ≤ k := fun k h => .inl h
        replace Fio14 : ∀ W', Kp w15 W' (fun k => OB A_out k) → Kd.C (Kd.int .i64) W' Ao14 x.2.1.length x.2.1 := fun W' hk => Fio14 W' (hk.mono (fun k h => hlo9 k h))
        replace Fto14 : ∀ W', Kp w15 W' (fun k => OB A_out k) → Kd.C (Kd.int .u8) W' To14 x.2.2.2.length x.2.2.2 := fun W' hk => Fto14 W' (hk.mono (fun k h => hlo9 k h))
        refine ⟨_, rfl, ?_⟩
        clear hE a; intro a hE
        refine q0 p50_6_6 hE (st_move rfl) ?_
        clear hE a; intro a hE
        refine q0 p50_6_7 hE (st_extract rfl rfl) ?_
        clear hE a; intro a hE
        refine q0 p50_6_8 hE (st_extract rfl rfl) ?_
        clear hE a; intro a hE
        refine p_cons (s_alloc p50_6_9 hE wn_none rfl tZ64 ?_)
        clear hE a; intro g17 w18 z19 B_g17 hk a hE
        replace B_g17 : w18.heap[g17]? = some (.cells (([Value.int .i64 0, Value.slice none 0 0] ++ b16 (fun _ => 0) ++ [Value.slice none 0 0])).toArray 64 (0, 0)) := B_g17
        have n_g1_g17 : g1 ≠ g17 := ne_new B_g1 z19
        have n_g7_g17 : g7 ≠ g17 := ne_new B_g7 z19
        have n_g11_g17 : g11 ≠ g17 := ne_new B_g11 z19
        have z_0_g17 := Nat.le_trans K_0.kept.1 z19
        have z_s5_g17 := Nat.le_trans K_s5.kept.1 z19
        have z_s16_g17 := Nat.le_trans K_s16.kept.1 z19
        have Nb_out_g17 : ¬ OB A_out g17 := fun h => by have := (own_ob O_out h).2; omega
        replace B_g1 := kp_blk B_g1 hk (fun h => h)
        replace B_g7 := kp_blk B_g7 hk (fun h => h)
        replace B_g11 := kp_blk B_g11 hk (fun h => h)
        replace O_out := own_keep O_out hk (fun _ _ h => h)
        replace K_0 := K_0.then_ hk (fun _ h => h.elim)
        replace K_s5 := K_s5.then_ hk (fun _ h => h.elim)
        replace K_s16 := K_s16.then_ hk (fun _ h => h.elim)
        clear hk
        refine p_cons (s_store (off := 0) (k := 19) (cs' := (([Value.int .i64 x.1, Value.slice Ao14 x.2.1.length qo14] ++ b16 (adr x) ++ [Value.slice To14 x.2.2.2.length co14])).toArray) p50_6_10 hE wn_none tS64 rfl rfl rfl rfl B_g17 (Nat.le_of_ble_eq_true rfl) rfl ?_)
        intro w20 B_g17' hk
        replace B_g1 := kp_blk B_g1 hk n_g1_g17
        replace B_g7 := kp_blk B_g7 hk n_g7_g17
        replace B_g11 := kp_blk B_g11 hk n_g11_g17
        replace O_out := own_keep O_out hk (fun k hk2 h2 => Nb_out_g17 (by rw [show k = g17 from h2] at hk2; exact hk2))
        replace K_0 := K_0.then_ hk (fun k h => by rw [show k = g17 from h]; exact Or.inr z_0_g17)
        replace K_s5 := K_s5.then_ hk (fun k h => by rw [show k = g17 from h]; exact Or.inr z_s5_g17)
        replace K_s16 := K_s16.then_ hk (fun k h => by rw [show k = g17 from h]; exact Or.inr z_s16_g17)
        replace B_g17 := B_g17'
        clear hk
        refine q0 p50_6_11 hE (st_assign rfl) ?_
        clear hE a; intro a hE
        refine p_nil ?_
        refine x_norm ?_
        refine c_regL R50_7_l ?_
        refine q0 p50_7_0 hE (st_move rfl) ?_
        clear hE a; intro a hE
        refine q0 p50_7_1 hE (st_loadN (off := 0) (k := 19) (vs := ([Value.int .i64 x.1, Value.slice Ao14 x.2.1.length qo14] ++ b16 (adr x) ++ [Value.slice To14 x.2.2.2.length co14])) tA64 tS64 rfl B_g17 rfl rfl) ?_
        clear hE a; intro a hE
        refine p_cons (s_row (xs := [(0, Operand.tmp 29)]) (vs := [(0, Value.agg (([Value.int .i64 x.1, Value.slice Ao14 x.2.1.length qo14] ++ b16 (adr x) ++ [Value.slice To14 x.2.2.2.length co14])).toArray)]) (cs := (([Value.int .i64 x.1, Value.slice Ao14 x.2.1.length qo14] ++ b16 (adr x) ++ [Value.slice To14 x.2.2.2.length co14])).toArray) p50_7_2 hE wn_none rfl Try.underlying58 rfl (by kernel_rfl) ?_)
        clear hE a; intro g21 w22 z23 B_g21 hk a hE
        have n_g1_g21 : g1 ≠ g21 := ne_new B_g1 z23
        have n_g7_g21 : g7 ≠ g21 := ne_new B_g7 z23
        have n_g11_g21 : g11 ≠ g21 := ne_new B_g11 z23
        have n_g17_g21 : g17 ≠ g21 := ne_new B_g17 z23
        have z_0_g21 := Nat.le_trans K_0.kept.1 z23
        have z_s5_g21 := Nat.le_trans K_s5.kept.1 z23
        have z_s16_g21 := Nat.le_trans K_s16.kept.1 z23
        have Nb_out_g21 : ¬ OB A_out g21 := fun h => by have := (own_ob O_out h).2; omega
        replace B_g1 := kp_blk B_g1 hk (fun h => h)
        replace B_g7 := kp_blk B_g7 hk (fun h => h)
        replace B_g11 := kp_blk B_g11 hk (fun h => h)
        replace B_g17 := kp_blk B_g17 hk (fun h => h)
        replace O_out := own_keep O_out hk (fun _ _ h => h)
        replace K_0 := K_0.then_ hk (fun _ h => h.elim)
        replace K_s5 := K_s5.then_ hk (fun _ h => h.elim)
        replace K_s16 := K_s16.then_ hk (fun _ h => h.elim)
        clear hk
        refine p_cons (s_append (s := 19) (xs := zs) (news := ([Value.int .i64 x.1, Value.slice Ao14 x.2.1.length qo14] ++ b16 (adr x) ++ [Value.slice To14 x.2.2.2.length co14])) p50_7_3 hE wn_none rfl Try.underlying58 eD64 (by decide) rfl O_out rfl rfl (newsB B_g21 rfl) (ones rfl) (by omega) (by omega) K_0.kept.1 ?_)
        clear hE a; intro Aout24 cout25 w26 O_out' hk hat a hE
        have Nb_out_g1' := grow_n Nb_out_g1 (blk_lt B_g1) hat
        have Nb_out_g7' := grow_n Nb_out_g7 (blk_lt B_g7) hat
        have Nb_out_g11' := grow_n Nb_out_g11 (blk_lt B_g11) hat
        have Nb_out_g17' := grow_n Nb_out_g17 (blk_lt B_g17) hat
        have Nb_out_g21' := grow_n Nb_out_g21 (blk_lt B_g21) hat
        have Z_0_out' := grow_z Z_0_out K_0.kept.1 hat
        have Z_s5_out' := grow_z Z_s5_out K_s5.kept.1 hat
        have Z_s16_out' := grow_z Z_s16_out K_s16.kept.1 hat
        replace B_g1 := kp_blk B_g1 hk Nb_out_g1
        replace B_g7 := kp_blk B_g7 hk Nb_out_g7
        replace B_g11 := kp_blk B_g11 hk Nb_out_g11
        replace B_g17 := kp_blk B_g17 hk Nb_out_g17
        replace B_g21 := kp_blk B_g21 hk Nb_out_g21
        replace K_0 := K_0.then_ hk Z_0_out
        replace K_s5 := K_s5.then_ hk Z_s5_out
        replace K_s16 := K_s16.then_ hk Z_s16_out
        replace Nb_out_g1 := Nb_out_g1'
        replace Nb_out_g7 := Nb_out_g7'
        replace Nb_out_g11 := Nb_out_g11'
        replace Nb_out_g17 := Nb_out_g17'
        replace Nb_out_g21 := Nb_out_g21'
        replace Z_0_out := Z_0_out'
        replace Z_s5_out := Z_s5_out'
        replace Z_s16_out := Z_s16_out'
        replace O_out := O_out'
        try clear O_out'
        clear hk hat
        refine q0 p50_7_4 hE (st_assign rfl) ?_
        clear hE a; intro a hE
        refine p_nil ?_
        refine x_normB ?_
        refine x_norm ?_
        refine c_regL R50_8_l ?_
        refine q0 p50_8_0 hE (st_add (z := (k : Int) + 1) rfl rfl (wr_i64 _ (by omega) (by omega))) ?_
        clear hE a; intro a hE
        refine q0 p50_8_1 hE (st_move rfl) ?_
        clear hE a; intro a hE
        refine p_nil ?_
        refine x_norm ?_
        have F9 : ∀ W', Kp w26 W' (fun k => OB Aout24 k) → Reps (Kd.K dO W') 19 (tgt (xs.take (k + 1))) (zs ++ ([Value.int .i64 x.1, Value.slice Ao14 x.2.1.length qo14] ++ b16 (adr x) ++ [Value.slice To14 x.2.2.2.length co14])) := fun W' hk => by
          have hk1 : Kp w4 W' (fun k => OB A_out k) := K_s5.then_ hk (fun k h => Z_s5_out k h)
          have hk2 := K_s16.then_ hk (fun k h => Z_s16_out k h)
          rw [tgt_succ hkx, hxe6, if_pos (show isT x = true from decide_eq_true hE5)]
          refine Reps.snoc (F_out W' hk1) ?_ rfl
          exact opt_mk x.1 x.2.1 (adr x) x.2.2.2 rfl rfl hlo14 hmo14 (Fio14 W' hk2) (Fto14 W' hk2)
        have hln9 : (n_out + 1) = (tgt (xs.take (k + 1))).length := by rw [tgt_succ hkx, hxe6, List.length_append, ← hn_out]; rw [if_pos (show isT x = true from decide_eq_true hE5)]; rfl
        exact ⟨k + 1, by omega, Aout24, cout25, (n_out + 1), (zs ++ ([Value.int .i64 x.1, Value.slice Ao14 x.2.1.length qo14] ++ b16 (adr x) ++ [Value.slice To14 x.2.2.2.length co14])), En.sub hE ⟨rfl, rfl, rfl, rfl, rfl, rfl, rfl, trivial⟩, by omega, hln9, (by omega), F9, B_g1, O_out, Nb_out_g1, Z_0_out, K_0⟩
      ·
        refine c_reg R50_5_l ?_
        refine q0 p50_5_0 hE (st_fieldAddr Try.underlying64 rfl tS3 rfl rfl) ?_
        clear hE a; intro a hE
        refine q0 p50_5_1 hE (st_load1 tA3 rfl ((blk_cell B_g7 0).trans rfl)) ?_
        clear hE a; intro a hE
        refine q0 p50_5_2 hE (st_eql (b := false) rfl rfl (decide_eq_false hE5)) ?_
        clear hE a; intro a hE
        refine p_nil ?_
        refine x_norm ?_
        refine c_cond (t := false) hE rfl ?_
        refine wp_skip ?_
        refine x_normB ?_
        refine x_norm ?_
        refine c_regL R50_8_l ?_
        refine q0 p50_8_0 hE (st_add (z := (k : Int) + 1) rfl rfl (wr_i64 _ (by omega) (by omega))) ?_
        clear hE a; intro a hE
        refine q0 p50_8_1 hE (st_move rfl) ?_
        clear hE a; intro a hE
        refine p_nil ?_
        refine x_norm ?_
        have F9 : ∀ W', Kp w10 W' (fun k => OB A_out k) → Reps (Kd.K dO W') 19 (tgt (xs.take (k + 1))) zs := fun W' hk => by
          have hk1 : Kp w4 W' (fun k => OB A_out k) := K_s5.then_ hk (fun k h => Z_s5_out k h)
          rw [tgt_succ hkx, hxe6, if_neg (show ¬ (isT x = true) from fun h => hE5 (of_decide_eq_true h)), List.append_nil]; exact F_out W' hk1
        have hln9 : n_out = (tgt (xs.take (k + 1))).length := by rw [tgt_succ hkx, hxe6, List.length_append, ← hn_out]; rw [if_neg (show ¬ (isT x = true) from fun h => hE5 (of_decide_eq_true h))]; rfl
        exact ⟨k + 1, by omega, A_out, c_out, n_out, zs, En.sub hE ⟨rfl, rfl, rfl, rfl, rfl, rfl, rfl, trivial⟩, by omega, hln9, (by omega), F9, B_g1, O_out, Nb_out_g1, Z_0_out, K_0⟩
    ·
      refine c_reg R50_3_l ?_
      refine q0 p50_3_0 hE (st_lss (b := false) rfl rfl (decide_eq_false hK1)) ?_
      clear hE a; intro a hE
      refine p_nil ?_
      refine x_norm ?_
      refine wp_seq ?_
      refine c_cond (t := false) hE rfl ?_
      refine wp_exit ?_
      refine x_exit ?_
      refine x_exit ?_
      refine x_in ?_
      refine x_norm ?_
      refine c_reg R50_9_l ?_
      refine q0 p50_9_0 hE (st_move rfl) ?_
      clear hE a; intro a hE
      refine q0 p50_9_1 hE (st_assign rfl) ?_
      clear hE a; intro a hE
      refine p_nil ?_
      refine x_norm ?_
      refine wp_ret ?_
      refine ret_one (v := Value.slice A_out n_out c_out) rfl hE (.tmp rfl .nil) ?_
      obtain rfl : k = xs.length := by omega
      rw [List.take_length] at hn_out F_out
      subst hn_out
      exact ⟨A_out, c_out, rfl, (own_caps O_out).1, fun W' hk => own_C (d := dO) (own_keep O_out hk (fun _ _ h => h)) (F_out W' (hk.mono (fun _ h => h.elim))) rfl, K_0⟩
abbrev MV := Int × Int × Int × Int × Int × Int × Int × Int × Int × Bool × Bool × List Int × List OV
abbrev dM : Kd MV := Kd.pair (Kd.int .i64) (Kd.pair (Kd.int .i64) (Kd.pair (Kd.int .i64) (Kd.pair (Kd.int .i64) (Kd.pair (Kd.int .i64) (Kd.pair (Kd.int .i64) (Kd.pair (Kd.int .i64) (Kd.pair (Kd.int .i64) (Kd.pair (Kd.int .i64) (Kd.pair Kd.bool (Kd.pair Kd.bool (Kd.pair (Kd.arr 16 (Kd.int .u8) (by decide)) (Kd.slice 80 dO))))))))))))
theorem msg_open {w : World} {m0 m1 m2 m3 m4 m5 m6 m7 m8 : Int} {gr ask : Bool} {l : List Int} {os : List OV} {c : List Value} (h : Kd.K dM w (m0, m1, m2, m3, m4, m5, m6, m7, m8, gr, ask, l, os) c) : ∃ A n', c = ([.int .i64 m0, .int .i64 m1, .int .i64 m2, .int .i64 m3, .int .i64 m4, .int .i64 m5, .int .i64 m6, .int .i64 m7, .int .i64 m8, .bool gr, .bool ask] ++ b16 (fun j => l.getD j 0) ++ [.slice A os.length n']) ∧ os.length ≤ n' ∧ Kd.C dO w A os.length os := by
  obtain ⟨c0, d0, rfl, h0, c1, d1, rfl, h1, c2, d2, rfl, h2, c3, d3, rfl, h3, c4, d4, rfl, h4, c5, d5, rfl, h5, c6, d6, rfl, h6, c7, d7, rfl, h7, c8, d8, rfl, h8, c9, d9, rfl, h9, ca, da, rfl, ha, cb, db, rfl, hb, A, n', e1, hl, hC⟩ := h
  subst h0; subst h1; subst h2; subst h3; subst h4; subst h5; subst h6; subst h7; subst h8; subst h9; subst ha; subst e1
  refine ⟨A, n', ?_, hl, hC⟩
  rw [Kd.reps_encs (enc := Value.int .u8) hb.2, b16_list hb.1]
  rfl
theorem R49_0_l : List.range (regOf Try.f49 0).size = [0, 1] := by kernel_rfl
theorem R49_1_l : List.range (regOf Try.f49 1).size = [0, 1, 2, 3, 4, 5, 6, 7, 8, 9, 10, 11, 12, 13, 14, 15, 16, 17, 18, 19, 20, 21, 22, 23, 24, 25, 26, 27, 28] := by kernel_rfl
theorem body49 : Try.f49.body = some (.seq (.region 0 (regOf Try.f49 0) false) (.seq (.region 1 (regOf Try.f49 1) true) (.ret))) := by kernel_rfl
theorem p49_0_0 : pj (regOf Try.f49 0) 0 = some (some 1, .box 86 (.tmp 0), 0, none) := by kernel_rfl
theorem p49_0_1 : pj (regOf Try.f49 0) 1 = some (some 2, .alloc 89, 0, none) := by kernel_rfl
theorem tZ89 : (Try.prog.info? 89).bind (·.zero) = some (Value.agg (([Value.int .i64 0, Value.int .i64 0, Value.int .i64 0, Value.int .i64 0, Value.int .i64 0, Value.int .i64 0, Value.int .i64 0, Value.int .i64 0, Value.int .i64 0, Value.bool false, Value.bool false] ++ b16 (fun _ => 0) ++ [Value.slice none 0 0])).toArray) := by kernel_rfl
theorem ns49_1 : Region.noSelect (regOf Try.f49 1) = true := by kernel_rfl
theorem p49_1_0 : pj (regOf Try.f49 1) 0 = some (some 3, .fieldAddr 86 (.tmp 1) 0, 0, none) := by kernel_rfl
theorem p49_1_1 : pj (regOf Try.f49 1) 1 = some (some 4, .load 3 (.tmp 3), 3, none) := by kernel_rfl
theorem p49_1_2 : pj (regOf Try.f49 1) 2 = some (some 5, .fieldAddr 86 (.tmp 1) 1, 0, none) := by kernel_rfl
theorem p49_1_3 : pj (regOf Try.f49 1) 3 = some (some 6, .load 3 (.tmp 5), 3, none) := by kernel_rfl
theorem p49_1_4 : pj (regOf Try.f49 1) 4 = some (some 7, .fieldAddr 86 (.tmp 1) 2, 0, none) := by kernel_rfl
theorem p49_1_5 : pj (regOf Try.f49 1) 5 = some (some 8, .load 3 (.tmp 7), 3, none) := by kernel_rfl
theorem p49_1_6 : pj (regOf Try.f49 1) 6 = some (some 9, .fieldAddr 86 (.tmp 1) 3, 0, none) := by kernel_rfl
theorem p49_1_7 : pj (regOf Try.f49 1) 7 = some (some 10, .load 3 (.tmp 9), 3, none) := by kernel_rfl
theorem p49_1_8 : pj (regOf Try.f49 1) 8 = some (some 11, .fieldAddr 86 (.tmp 1) 4, 0, none) := by kernel_rfl
theorem p49_1_9 : pj (regOf Try.f49 1) 9 = some (some 12, .load 3 (.tmp 11), 3, none) := by kernel_rfl
theorem p49_1_10 : pj (regOf Try.f49 1) 10 = some (some 13, .fieldAddr 86 (.tmp 1) 5, 0, none) := by kernel_rfl
theorem p49_1_11 : pj (regOf Try.f49 1) 11 = some (some 14, .load 3 (.tmp 13), 3, none) := by kernel_rfl
theorem p49_1_12 : pj (regOf Try.f49 1) 12 = some (some 15, .fieldAddr 86 (.tmp 1) 6, 0, none) := by kernel_rfl
theorem p49_1_13 : pj (regOf Try.f49 1) 13 = some (some 16, .load 3 (.tmp 15), 3, none) := by kernel_rfl
theorem p49_1_14 : pj (regOf Try.f49 1) 14 = some (some 17, .fieldAddr 86 (.tmp 1) 7, 0, none) := by kernel_rfl
theorem p49_1_15 : pj (regOf Try.f49 1) 15 = some (some 18, .load 3 (.tmp 17), 3, none) := by kernel_rfl
theorem p49_1_16 : pj (regOf Try.f49 1) 16 = some (some 19, .fieldAddr 86 (.tmp 1) 8, 0, none) := by kernel_rfl
theorem p49_1_17 : pj (regOf Try.f49 1) 17 = some (some 20, .load 3 (.tmp 19), 3, none) := by kernel_rfl
theorem p49_1_18 : pj (regOf Try.f49 1) 18 = some (some 21, .fieldAddr 86 (.tmp 1) 9, 0, none) := by kernel_rfl
theorem tS4 : (Try.prog.info? 4).map (·.size) = some 1 := by kernel_rfl
theorem p49_1_19 : pj (regOf Try.f49 1) 19 = some (some 22, .load 4 (.tmp 21), 4, none) := by kernel_rfl
theorem tA4 : (Try.prog.underlying 4).map aggD = some false := by kernel_rfl
theorem p49_1_20 : pj (regOf Try.f49 1) 20 = some (some 23, .fieldAddr 86 (.tmp 1) 10, 0, none) := by kernel_rfl
theorem p49_1_21 : pj (regOf Try.f49 1) 21 = some (some 24, .load 4 (.tmp 23), 4, none) := by kernel_rfl
theorem p49_1_22 : pj (regOf Try.f49 1) 22 = some (some 25, .fieldAddr 86 (.tmp 1) 11, 0, none) := by kernel_rfl
theorem tS22 : (Try.prog.info? 22).map (·.size) = some 16 := by kernel_rfl
theorem p49_1_23 : pj (regOf Try.f49 1) 23 = some (some 26, .load 22 (.tmp 25), 22, none) := by kernel_rfl
theorem tA22 : (Try.prog.underlying 22).map aggD = some true := by kernel_rfl
theorem p49_1_24 : pj (regOf Try.f49 1) 24 = some (some 27, .fieldAddr 86 (.tmp 1) 12, 0, none) := by kernel_rfl
theorem tS57 : (Try.prog.info? 57).map (·.size) = some 1 := by kernel_rfl
theorem p49_1_25 : pj (regOf Try.f49 1) 25 = some (some 28, .load 57 (.tmp 27), 57, none) := by kernel_rfl
theorem tA57 : (Try.prog.underlying 57).map aggD = some false := by kernel_rfl
theorem p49_1_26 : pj (regOf Try.f49 1) 26 = some (some 29, .call { callee := .value (.func 32), args := #[.tmp 28], argTypes := #[57] }, 58, none) := by kernel_rfl
theorem cl32 : callable Try.f32 = true := by kernel_rfl
theorem p49_1_27 : pj (regOf Try.f49 1) 27 = some (some 30, .build 89 #[(0, .tmp 4), (1, .tmp 6), (2, .tmp 8), (3, .tmp 10), (4, .tmp 12), (5, .tmp 14), (6, .tmp 16), (7, .tmp 18), (8, .tmp 20), (9, .tmp 22), (10, .tmp 24), (11, .tmp 26), (12, .tmp 29)], 89, none) := by kernel_rfl
theorem p49_1_28 : pj (regOf Try.f49 1) 28 = some (none, .store 89 (.tmp 2) (.tmp 30), 0, none) := by kernel_rfl
theorem tS89 : (Try.prog.info? 89).map (·.size) = some 28 := by kernel_rfl
theorem tA89 : (Try.prog.underlying 89).map aggD = some true := by kernel_rfl
set_option maxHeartbeats 4000000 in
theorem mto_any (m0 m1 m2 m3 m4 m5 m6 m7 m8 : Int) (gr ask : Bool) (rt : Nat → Int) (A : Option Addr) (c : Nat) (os : List OV) (w : World) (hF : Kd.C dO w A os.length os) (hm : os.length ≤ c) (hmx : os.length ≤ maxLen) : Calls Try.prog 49 #[Value.agg (([Value.int .i64 m0, Value.int .i64 m1, Value.int .i64 m2, Value.int .i64 m3, Value.int .i64 m4, Value.int .i64 m5, Value.int .i64 m6, Value.int .i64 m7, Value.int .i64 m8, Value.bool gr, Value.bool ask] ++ b16 rt ++ [Value.slice A os.length c])).toArray] w fun e w' => ∃ A' c', e = .returned (Value.agg (([Value.int .i64 m0, Value.int .i64 m1, Value.int .i64 m2, Value.int .i64 m3, Value.int .i64 m4, Value.int .i64 m5, Value.int .i64 m6, Value.int .i64 m7, Value.int .i64 m8, Value.bool gr, Value.bool ask] ++ b16 rt ++ [Value.slice A' ((toL os).length) c'])).toArray) ∧ (toL os).length ≤ c' ∧ (∀ W', Kp w' W' (fun _ => False) → Kd.C dO W' A' (toL os).length (toL os)) ∧ Kp w w' (fun _ => False) := by
  have K_0 := Kp.refl w (fun _ => False)
  refine enter (args := [Value.agg (([Value.int .i64 m0, Value.int .i64 m1, Value.int .i64 m2, Value.int .i64 m3, Value.int .i64 m4, Value.int .i64 m5, Value.int .i64 m6, Value.int .i64 m7, Value.int .i64 m8, Value.bool gr, Value.bool ask] ++ b16 rt ++ [Value.slice A os.length c])).toArray]) (n := 31) Try.func49 body49 rfl rfl rfl ?_
  intro a hE
  refine c_reg R49_0_l ?_
  refine p_cons (s_box p49_0_0 hE wn_none rfl rfl ?_)
  clear hE a; intro g1 w2 z3 B_g1 hk a hE
  replace B_g1 : w2.heap[g1]? = some (.cells (([Value.int .i64 m0, Value.int .i64 m1, Value.int .i64 m2, Value.int .i64 m3, Value.int .i64 m4, Value.int .i64 m5, Value.int .i64 m6, Value.int .i64 m7, Value.int .i64 m8, Value.bool gr, Value.bool ask] ++ b16 rt ++ [Value.slice A os.length c])).toArray 86 (0, 0)) := B_g1
  have z_0_g1 := Nat.le_trans K_0.kept.1 z3
  replace K_0 := K_0.then_ hk (fun _ h => h.elim)
  clear hk
  refine p_cons (s_alloc p49_0_1 hE wn_none rfl tZ89 ?_)
  clear hE a; intro g4 w5 z6 B_g4 hk a hE
  replace B_g4 : w5.heap[g4]? = some (.cells (([Value.int .i64 0, Value.int .i64 0, Value.int .i64 0, Value.int .i64 0, Value.int .i64 0, Value.int .i64 0, Value.int .i64 0, Value.int .i64 0, Value.int .i64 0, Value.bool false, Value.bool false] ++ b16 (fun _ => 0) ++ [Value.slice none 0 0])).toArray 89 (0, 0)) := B_g4
  have n_g1_g4 : g1 ≠ g4 := ne_new B_g1 z6
  have z_0_g4 := Nat.le_trans K_0.kept.1 z6
  replace B_g1 := kp_blk B_g1 hk (fun h => h)
  replace K_0 := K_0.then_ hk (fun _ h => h.elim)
  clear hk
  refine p_nil ?_
  refine x_norm ?_
  refine c_drawS (S := fun W => W.heap[g1]? = some (.cells (([Value.int .i64 m0, Value.int .i64 m1, Value.int .i64 m2, Value.int .i64 m3, Value.int .i64 m4, Value.int .i64 m5, Value.int .i64 m6, Value.int .i64 m7, Value.int .i64 m8, Value.bool gr, Value.bool ask] ++ b16 rt ++ [Value.slice A os.length c])).toArray 86 (0, 0)) ∧ True) rfl rfl (listed := #[false, false, false, false, false, false, false, false, false, false, false, false, false, false, false, false, false, false, false, false, false, false, false, false, false, false, false, false, false]) rfl ?_
  intro w7 hh hk
  replace B_g1 := kp_blk B_g1 hk (fun h => h)
  replace B_g4 := kp_blk B_g4 hk (fun h => h)
  replace K_0 := K_0.then_ hk (fun _ h => h.elim)
  clear hh hk
  refine d_take (v := Value.pointer (some ⟨g1, 0, none⟩)) p49_1_0 ns49_1 (by kernel_rfl) (by kernel_rfl) (fun _ _ _ h => h) hE wn_none rfl ⟨B_g1, trivial⟩ (fun W hS => (st_fieldAddr Try.underlying86 rfl tS3 rfl rfl)) rfl ?_
  clear hE a; intro a hE
  refine d_take (v := Value.int .i64 m0) p49_1_1 ns49_1 (by kernel_rfl) (by kernel_rfl) (fun _ _ _ h => h) hE wn_none rfl ⟨B_g1, trivial⟩ (fun W hS => (st_load1 tA3 rfl ((blk_cell hS.1 0).trans rfl))) rfl ?_
  clear hE a; intro a hE
  refine d_take (v := Value.pointer (some ⟨g1, 1, none⟩)) p49_1_2 ns49_1 (by kernel_rfl) (by kernel_rfl) (fun _ _ _ h => h) hE wn_none rfl ⟨B_g1, trivial⟩ (fun W hS => (st_fieldAddr Try.underlying86 rfl tS3 rfl rfl)) rfl ?_
  clear hE a; intro a hE
  refine d_take (v := Value.int .i64 m1) p49_1_3 ns49_1 (by kernel_rfl) (by kernel_rfl) (fun _ _ _ h => h) hE wn_none rfl ⟨B_g1, trivial⟩ (fun W hS => (st_load1 tA3 rfl ((blk_cell hS.1 1).trans rfl))) rfl ?_
  clear hE a; intro a hE
  refine d_take (v := Value.pointer (some ⟨g1, 2, none⟩)) p49_1_4 ns49_1 (by kernel_rfl) (by kernel_rfl) (fun _ _ _ h => h) hE wn_none rfl ⟨B_g1, trivial⟩ (fun W hS => (st_fieldAddr Try.underlying86 rfl tS3 rfl rfl)) rfl ?_
  clear hE a; intro a hE
  refine d_take (v := Value.int .i64 m2) p49_1_5 ns49_1 (by kernel_rfl) (by kernel_rfl) (fun _ _ _ h => h) hE wn_none rfl ⟨B_g1, trivial⟩ (fun W hS => (st_load1 tA3 rfl ((blk_cell hS.1 2).trans rfl))) rfl ?_
  clear hE a; intro a hE
  refine d_take (v := Value.pointer (some ⟨g1, 3, none⟩)) p49_1_6 ns49_1 (by kernel_rfl) (by kernel_rfl) (fun _ _ _ h => h) hE wn_none rfl ⟨B_g1, trivial⟩ (fun W hS => (st_fieldAddr Try.underlying86 rfl tS3 rfl rfl)) rfl ?_
  clear hE a; intro a hE
  refine d_take (v := Value.int .i64 m3) p49_1_7 ns49_1 (by kernel_rfl) (by kernel_rfl) (fun _ _ _ h => h) hE wn_none rfl ⟨B_g1, trivial⟩ (fun W hS => (st_load1 tA3 rfl ((blk_cell hS.1 3).trans rfl))) rfl ?_
  clear hE a; intro a hE
  refine d_take (v := Value.pointer (some ⟨g1, 4, none⟩)) p49_1_8 ns49_1 (by kernel_rfl) (by kernel_rfl) (fun _ _ _ h => h) hE wn_none rfl ⟨B_g1, trivial⟩ (fun W hS => (st_fieldAddr Try.underlying86 rfl tS3 rfl rfl)) rfl ?_
  clear hE a; intro a hE
  refine d_take (v := Value.int .i64 m4) p49_1_9 ns49_1 (by kernel_rfl) (by kernel_rfl) (fun _ _ _ h => h) hE wn_none rfl ⟨B_g1, trivial⟩ (fun W hS => (st_load1 tA3 rfl ((blk_cell hS.1 4).trans rfl))) rfl ?_
  clear hE a; intro a hE
  refine d_take (v := Value.pointer (some ⟨g1, 5, none⟩)) p49_1_10 ns49_1 (by kernel_rfl) (by kernel_rfl) (fun _ _ _ h => h) hE wn_none rfl ⟨B_g1, trivial⟩ (fun W hS => (st_fieldAddr Try.underlying86 rfl tS3 rfl rfl)) rfl ?_
  clear hE a; intro a hE
  refine d_take (v := Value.int .i64 m5) p49_1_11 ns49_1 (by kernel_rfl) (by kernel_rfl) (fun _ _ _ h => h) hE wn_none rfl ⟨B_g1, trivial⟩ (fun W hS => (st_load1 tA3 rfl ((blk_cell hS.1 5).trans rfl))) rfl ?_
  clear hE a; intro a hE
  refine d_take (v := Value.pointer (some ⟨g1, 6, none⟩)) p49_1_12 ns49_1 (by kernel_rfl) (by kernel_rfl) (fun _ _ _ h => h) hE wn_none rfl ⟨B_g1, trivial⟩ (fun W hS => (st_fieldAddr Try.underlying86 rfl tS3 rfl rfl)) rfl ?_
  clear hE a; intro a hE
  refine d_take (v := Value.int .i64 m6) p49_1_13 ns49_1 (by kernel_rfl) (by kernel_rfl) (fun _ _ _ h => h) hE wn_none rfl ⟨B_g1, trivial⟩ (fun W hS => (st_load1 tA3 rfl ((blk_cell hS.1 6).trans rfl))) rfl ?_
  clear hE a; intro a hE
  refine d_take (v := Value.pointer (some ⟨g1, 7, none⟩)) p49_1_14 ns49_1 (by kernel_rfl) (by kernel_rfl) (fun _ _ _ h => h) hE wn_none rfl ⟨B_g1, trivial⟩ (fun W hS => (st_fieldAddr Try.underlying86 rfl tS3 rfl rfl)) rfl ?_
  clear hE a; intro a hE
  refine d_take (v := Value.int .i64 m7) p49_1_15 ns49_1 (by kernel_rfl) (by kernel_rfl) (fun _ _ _ h => h) hE wn_none rfl ⟨B_g1, trivial⟩ (fun W hS => (st_load1 tA3 rfl ((blk_cell hS.1 7).trans rfl))) rfl ?_
  clear hE a; intro a hE
  refine d_take (v := Value.pointer (some ⟨g1, 8, none⟩)) p49_1_16 ns49_1 (by kernel_rfl) (by kernel_rfl) (fun _ _ _ h => h) hE wn_none rfl ⟨B_g1, trivial⟩ (fun W hS => (st_fieldAddr Try.underlying86 rfl tS3 rfl rfl)) rfl ?_
  clear hE a; intro a hE
  refine d_take (v := Value.int .i64 m8) p49_1_17 ns49_1 (by kernel_rfl) (by kernel_rfl) (fun _ _ _ h => h) hE wn_none rfl ⟨B_g1, trivial⟩ (fun W hS => (st_load1 tA3 rfl ((blk_cell hS.1 8).trans rfl))) rfl ?_
  clear hE a; intro a hE
  refine d_take (v := Value.pointer (some ⟨g1, 9, none⟩)) p49_1_18 ns49_1 (by kernel_rfl) (by kernel_rfl) (fun _ _ _ h => h) hE wn_none rfl ⟨B_g1, trivial⟩ (fun W hS => (st_fieldAddr Try.underlying86 rfl tS4 rfl rfl)) rfl ?_
  clear hE a; intro a hE
  refine d_take (v := Value.bool gr) p49_1_19 ns49_1 (by kernel_rfl) (by kernel_rfl) (fun _ _ _ h => h) hE wn_none rfl ⟨B_g1, trivial⟩ (fun W hS => (st_load1 tA4 rfl ((blk_cell hS.1 9).trans rfl))) rfl ?_
  clear hE a; intro a hE
  refine d_take (v := Value.pointer (some ⟨g1, 10, none⟩)) p49_1_20 ns49_1 (by kernel_rfl) (by kernel_rfl) (fun _ _ _ h => h) hE wn_none rfl ⟨B_g1, trivial⟩ (fun W hS => (st_fieldAddr Try.underlying86 rfl tS4 rfl rfl)) rfl ?_
  clear hE a; intro a hE
  refine d_take (v := Value.bool ask) p49_1_21 ns49_1 (by kernel_rfl) (by kernel_rfl) (fun _ _ _ h => h) hE wn_none rfl ⟨B_g1, trivial⟩ (fun W hS => (st_load1 tA4 rfl ((blk_cell hS.1 10).trans rfl))) rfl ?_
  clear hE a; intro a hE
  refine d_take (v := Value.pointer (some ⟨g1, 11, none⟩)) p49_1_22 ns49_1 (by kernel_rfl) (by kernel_rfl) (fun _ _ _ h => h) hE wn_none rfl ⟨B_g1, trivial⟩ (fun W hS => (st_fieldAddr Try.underlying86 rfl tS22 rfl rfl)) rfl ?_
  clear hE a; intro a hE
  refine d_take (v := Value.agg (b16 rt).toArray) p49_1_23 ns49_1 (by kernel_rfl) (by kernel_rfl) (fun _ _ _ h => h) hE wn_none rfl ⟨B_g1, trivial⟩ (fun W hS => (st_loadN (off := 11) (k := 16) (vs := b16 rt) tA22 tS22 rfl hS.1 rfl rfl)) rfl ?_
  clear hE a; intro a hE
  refine d_take (v := Value.pointer (some ⟨g1, 27, none⟩)) p49_1_24 ns49_1 (by kernel_rfl) (by kernel_rfl) (fun _ _ _ h => h) hE wn_none rfl ⟨B_g1, trivial⟩ (fun W hS => (st_fieldAddr Try.underlying86 rfl tS57 rfl rfl)) rfl ?_
  clear hE a; intro a hE
  refine d_take (v := Value.slice A os.length c) p49_1_25 ns49_1 (by kernel_rfl) (by kernel_rfl) (fun _ _ _ h => h) hE wn_none rfl ⟨B_g1, trivial⟩ (fun W hS => (st_load1 tA57 rfl ((blk_cell hS.1 27).trans rfl))) rfl ?_
  clear hE a; intro a hE
  have hltR := blk_lt B_g4
  refine d_one (by kernel_rfl) rfl (s_call (xs := [Operand.tmp 28]) (args := [Value.slice A os.length c]) p49_1_26 hE wn_none rfl rfl Try.func32 cl32 (to_far A c os _ w hF K_0 hm hmx) ?_)
  rintro e w8 ⟨A9, c9, rfl, hc9, hF9, hk⟩
  replace B_g1 := kp_blk B_g1 hk (fun h => h)
  replace B_g4 := kp_blk B_g4 hk (fun h => h)
  replace K_0 := K_0.then_ hk (fun _ h => h.elim)
  have K_s9 := Kp.refl w8 (fun k => k = g4)
  refine ⟨_, rfl, ?_⟩
  clear hE a; intro a hE
  refine ⟨⟨B_g1, trivial⟩, ?_⟩
  refine d_take (v := Value.agg (([Value.int .i64 m0, Value.int .i64 m1, Value.int .i64 m2, Value.int .i64 m3, Value.int .i64 m4, Value.int .i64 m5, Value.int .i64 m6, Value.int .i64 m7, Value.int .i64 m8, Value.bool gr, Value.bool ask] ++ b16 rt ++ [Value.slice A9 ((toL os).length) c9])).toArray) p49_1_27 ns49_1 (by kernel_rfl) (by kernel_rfl) (fun _ _ _ h => h) hE wn_none rfl ⟨B_g1, trivial⟩ (fun W hS => (st_build (xs := [(0, Operand.tmp 4), (1, Operand.tmp 6), (2, Operand.tmp 8), (3, Operand.tmp 10), (4, Operand.tmp 12), (5, Operand.tmp 14), (6, Operand.tmp 16), (7, Operand.tmp 18), (8, Operand.tmp 20), (9, Operand.tmp 22), (10, Operand.tmp 24), (11, Operand.tmp 26), (12, Operand.tmp 29)]) (vs := [(0, Value.int .i64 m0), (1, Value.int .i64 m1), (2, Value.int .i64 m2), (3, Value.int .i64 m3), (4, Value.int .i64 m4), (5, Value.int .i64 m5), (6, Value.int .i64 m6), (7, Value.int .i64 m7), (8, Value.int .i64 m8), (9, Value.bool gr), (10, Value.bool ask), (11, Value.agg (b16 rt).toArray), (12, Value.slice A9 ((toL os).length) c9)]) (cs := (([Value.int .i64 m0, Value.int .i64 m1, Value.int .i64 m2, Value.int .i64 m3, Value.int .i64 m4, Value.int .i64 m5, Value.int .i64 m6, Value.int .i64 m7, Value.int .i64 m8, Value.bool gr, Value.bool ask] ++ b16 rt ++ [Value.slice A9 ((toL os).length) c9])).toArray) rfl (by kernel_rfl))) rfl ?_
  clear hE a; intro a hE
  refine d_one (by kernel_rfl) rfl (s_store (off := 0) (k := 28) (cs' := (([Value.int .i64 m0, Value.int .i64 m1, Value.int .i64 m2, Value.int .i64 m3, Value.int .i64 m4, Value.int .i64 m5, Value.int .i64 m6, Value.int .i64 m7, Value.int .i64 m8, Value.bool gr, Value.bool ask] ++ b16 rt ++ [Value.slice A9 ((toL os).length) c9])).toArray) p49_1_28 hE wn_none tS89 rfl rfl rfl rfl B_g4 (Nat.le_of_ble_eq_true rfl) rfl ?_)
  intro w10 B_g4' hk
  replace B_g1 := kp_blk B_g1 hk n_g1_g4
  replace K_0 := K_0.then_ hk (fun k h => by rw [show k = g4 from h]; exact Or.inr z_0_g4)
  replace K_s9 := K_s9.then_ hk (fun k h => by rw [show k = g4 from h]; exact Or.inl rfl)
  replace B_g4 := B_g4'
  clear hk
  refine ⟨⟨B_g1, trivial⟩, ?_⟩
  refine d_end (by kernel_rfl) ?_
  refine x_norm ?_
  refine wp_ret ?_
  refine ret_one (v := Value.agg (([Value.int .i64 m0, Value.int .i64 m1, Value.int .i64 m2, Value.int .i64 m3, Value.int .i64 m4, Value.int .i64 m5, Value.int .i64 m6, Value.int .i64 m7, Value.int .i64 m8, Value.bool gr, Value.bool ask] ++ b16 rt ++ [Value.slice A9 ((toL os).length) c9])).toArray) rfl hE (.cellN (us := ([Value.int .i64 m0, Value.int .i64 m1, Value.int .i64 m2, Value.int .i64 m3, Value.int .i64 m4, Value.int .i64 m5, Value.int .i64 m6, Value.int .i64 m7, Value.int .i64 m8, Value.bool gr, Value.bool ask] ++ b16 rt ++ [Value.slice A9 ((toL os).length) c9])) tA89 tS89 rfl B_g4 rfl .nil) ?_
  exact ⟨A9, c9, rfl, hc9, fun W' hk => hF9 W' (K_0.then_ hk (fun _ h => h.elim)) ((K_s9.mono (fun k h => by rw [show k = g4 from h]; exact hltR)).then_ hk (fun _ h => h.elim)), K_0⟩
end Go.Proofs.Ytndiddfleidnaaa.Cg
