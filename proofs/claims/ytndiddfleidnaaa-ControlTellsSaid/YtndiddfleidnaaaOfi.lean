/- Options of some kinds. -/
import Derived.Test.YtndiddfleidnaaaOsm
set_option maxRecDepth 100000
set_option linter.unusedVariables false
set_option linter.unusedSimpArgs false
namespace Go.Proofs.Ytndiddfleidnaaa.Of
open Go.RowKit Go.Proofs.YtndiddfleidnaaaW.PrintWords Go.Proofs.Ytndiddfleidnaaa.Ds Go.Proofs.Ytndiddfleidnaaa.Op Go.Proofs.Ytndiddfleidnaaa.Or Go.Proofs.Ytndiddfleidnaaa.Os
open Go.Proofs.Ytndiddfleidnaaa.Pk (Kp fitsF spanF putF digF fits_any put_ok put_bd C_take)
/-- Is an option of one of the kinds? -/
def ofK (ks : List Int) (x : OV) : Bool := decide (x.1 ∈ ks)
def cpV (x : OV) : OV := (x.1, x.2.1, l16 (adr x), x.2.2.2)
def without (ks : List Int) (xs : List OV) : List OV := (xs.filter fun x => !ofK ks x).map cpV
theorem without_succ {ks : List Int} {xs : List OV} {k : Nat} (hk : k < xs.length) : without ks (xs.take (k + 1)) = without ks (xs.take k) ++ (if ofK ks (xs.getD k zO) then [] else [cpV (xs.getD k zO)]) := by
  unfold without
  rw [List.take_succ_eq_append_getElem hk, List.filter_append, List.map_append, List.getD_eq_getElem?_getD, List.getElem?_eq_getElem hk]
  congr 1
  simp only [Option.getD_some]
  have e : List.filter (fun x => !ofK ks x) [xs[k]] = if ofK ks xs[k] then [] else [xs[k]] := by
    rw [List.filter_cons]
    cases ofK ks xs[k] <;> rfl
  rw [e]
  split <;> rfl
theorem R35_0_l : List.range (regOf Try.f35 0).size = [0, 1] := by kernel_rfl
theorem R35_1_l : List.range (regOf Try.f35 1).size = [0, 1, 2] := by kernel_rfl
theorem R35_2_l : List.range (regOf Try.f35 2).size = [0] := by kernel_rfl
theorem R35_3_l : List.range (regOf Try.f35 3).size = [0, 1, 2, 3] := by kernel_rfl
theorem R35_4_l : List.range (regOf Try.f35 4).size = [0, 1, 2, 3] := by kernel_rfl
theorem R35_5_l : List.range (regOf Try.f35 5).size = [0, 1, 2, 3] := by kernel_rfl
theorem R35_6_l : List.range (regOf Try.f35 6).size = [0, 1] := by kernel_rfl
theorem R35_7_l : List.range (regOf Try.f35 7).size = [0, 1, 2] := by kernel_rfl
theorem body35 : Try.f35.body = some (.seq (.region 0 (regOf Try.f35 0) false) (.seq (.seq (.region 1 (regOf Try.f35 1) false) (.block 0 (.loop (.seq (.region 2 (regOf Try.f35 2) false) (.seq (.cond (Operand.tmp 11) (.skip) (.exit 0)) (.seq (.block 1 (.seq (.region 3 (regOf Try.f35 3) false) (.seq (.region 4 (regOf Try.f35 4) false) (.cond (Operand.tmp 17) (.seq (.region 5 (regOf Try.f35 5) false) (.ret)) (.skip))))) (.region 6 (regOf Try.f35 6) false))))))) (.seq (.region 7 (regOf Try.f35 7) false) (.ret)))) := by kernel_rfl
theorem p35_0_0 : pj (regOf Try.f35 0) 0 = some (some 4, .alloc 64, 0, none) := by kernel_rfl
theorem tZ64 : (Try.prog.info? 64).bind (·.zero) = some (Value.agg (([Value.int .i64 0, Value.slice none 0 0] ++ b16 (fun _ => 0) ++ [Value.slice none 0 0])).toArray) := by kernel_rfl
theorem p35_0_1 : pj (regOf Try.f35 0) 1 = some (some 5, .assign (.const (.bool false)), 4, none) := by kernel_rfl
theorem p35_1_0 : pj (regOf Try.f35 1) 0 = some (some 8, .move (.tmp 0), 58, none) := by kernel_rfl
theorem p35_1_1 : pj (regOf Try.f35 1) 1 = some (some 9, .call { callee := .builtin .len, args := #[.tmp 8], argTypes := #[58] }, 3, none) := by kernel_rfl
theorem p35_1_2 : pj (regOf Try.f35 1) 2 = some (some 10, .move (.const (.int .i64 0)), 3, none) := by kernel_rfl
theorem p35_2_0 : pj (regOf Try.f35 2) 0 = some (some 11, .binOp .lss 3 (.tmp 10) (.tmp 9) 3, 0, none) := by kernel_rfl
theorem p35_3_0 : pj (regOf Try.f35 3) 0 = some (some 12, .indexAddr 58 (.tmp 8) (.tmp 10), 0, none) := by kernel_rfl
theorem tS64 : (Try.prog.info? 64).map (·.size) = some 19 := by kernel_rfl
theorem p35_3_1 : pj (regOf Try.f35 3) 1 = some (some 13, .load 64 (.tmp 12), 64, none) := by kernel_rfl
theorem tA64 : (Try.prog.underlying 64).map aggD = some true := by kernel_rfl
theorem p35_3_2 : pj (regOf Try.f35 3) 2 = some (some 7, .alloc 64, 0, none) := by kernel_rfl
theorem p35_3_3 : pj (regOf Try.f35 3) 3 = some (none, .store 64 (.tmp 7) (.tmp 13), 0, none) := by kernel_rfl
theorem p35_4_0 : pj (regOf Try.f35 4) 0 = some (some 14, .move (.tmp 1), 62, none) := by kernel_rfl
theorem p35_4_1 : pj (regOf Try.f35 4) 1 = some (some 15, .fieldAddr 64 (.tmp 7) 0, 0, none) := by kernel_rfl
theorem tS3 : (Try.prog.info? 3).map (·.size) = some 1 := by kernel_rfl
theorem p35_4_2 : pj (regOf Try.f35 4) 2 = some (some 16, .load 3 (.tmp 15), 3, none) := by kernel_rfl
theorem tA3 : (Try.prog.underlying 3).map aggD = some false := by kernel_rfl
theorem p35_4_3 : pj (regOf Try.f35 4) 3 = some (some 17, .call { callee := .value (.func 86), args := #[.tmp 14, .tmp 16], argTypes := #[62, 3] }, 4, none) := by kernel_rfl
theorem cl86 : callable Try.f86 = true := by kernel_rfl
theorem p35_5_0 : pj (regOf Try.f35 5) 0 = some (some 18, .load 64 (.tmp 7), 64, none) := by kernel_rfl
theorem p35_5_1 : pj (regOf Try.f35 5) 1 = some (some 19, .call { callee := .value (.func 87), args := #[.tmp 18], argTypes := #[64] }, 64, none) := by kernel_rfl
theorem cl87 : callable Try.f87 = true := by kernel_rfl
theorem p35_5_2 : pj (regOf Try.f35 5) 2 = some (none, .store 64 (.tmp 4) (.tmp 19), 0, none) := by kernel_rfl
theorem p35_5_3 : pj (regOf Try.f35 5) 3 = some (some 5, .assign (.const (.bool true)), 4, none) := by kernel_rfl
theorem p35_6_0 : pj (regOf Try.f35 6) 0 = some (some 20, .binOp .add 3 (.tmp 10) (.const (.int .i64 1)) 3, 3, none) := by kernel_rfl
theorem p35_6_1 : pj (regOf Try.f35 6) 1 = some (some 10, .move (.tmp 20), 3, none) := by kernel_rfl
theorem p35_7_0 : pj (regOf Try.f35 7) 0 = some (some 21, .build 64 #[], 64, none) := by kernel_rfl
theorem p35_7_1 : pj (regOf Try.f35 7) 1 = some (none, .store 64 (.tmp 4) (.tmp 21), 0, none) := by kernel_rfl
theorem p35_7_2 : pj (regOf Try.f35 7) 2 = some (some 5, .assign (.const (.bool false)), 4, none) := by kernel_rfl
set_option maxHeartbeats 4000000 in
theorem find_R {R : Ending → World → Prop} (A B : Option Addr) (c cb : Nat) (xs : List OV) (ks : List Int) (hx : ∀ x ∈ xs, okO x) (w : World) (hF : Kd.C dO w A xs.length xs) (hG : ∀ W', Kp w W' (fun _ => False) → Kd.C (Kd.int .i64) W' B ks.length ks) (hmx : xs.length ≤ 1000000) (hmk : ks.length ≤ 1000000000000) (h1 : ∀ k x, k < xs.length → (∀ j, j < k → ofK ks (xs.getD j zO) = false) → xs.getD k zO = x → ofK ks x = true → ∀ A' T' q' c' w', x.2.1.length ≤ q' → x.2.2.2.length ≤ c' → (∀ W', Kp w' W' (fun k => k < w.heap.size) → Kd.C (Kd.int .i64) W' A' x.2.1.length x.2.1) → (∀ W', Kp w' W' (fun k => k < w.heap.size) → Kd.C (Kd.int .u8) W' T' x.2.2.2.length x.2.2.2) → Kp w w' (fun _ => False) → R (.returned (.tuple #[Value.agg (([Value.int .i64 x.1, Value.slice A' x.2.1.length q'] ++ b16 (adr x) ++ [Value.slice T' x.2.2.2.length c'])).toArray, .bool true])) w') (h0 : (∀ j, j < xs.length → ofK ks (xs.getD j zO) = false) → ∀ w', Kp w w' (fun _ => False) → R (.returned (.tuple #[Value.agg (([Value.int .i64 0, Value.slice none 0 0] ++ b16 (fun _ => 0) ++ [Value.slice none 0 0])).toArray, .bool false])) w') : Calls Try.prog 35 #[.slice A xs.length c, .slice B ks.length cb] w R := by
  have K_0 := Kp.refl w (fun _ => False)
  refine enter (args := [Value.slice A xs.length c, Value.slice B ks.length cb]) (n := 22) Try.func35 body35 rfl rfl rfl ?_
  intro a hE
  refine c_reg R35_0_l ?_
  refine p_cons (s_alloc p35_0_0 hE wn_none rfl tZ64 ?_)
  clear hE a; intro g1 w2 z3 B_g1 hk a hE
  replace B_g1 : w2.heap[g1]? = some (.cells (([Value.int .i64 0, Value.slice none 0 0] ++ b16 (fun _ => 0) ++ [Value.slice none 0 0])).toArray 64 (0, 0)) := B_g1
  have z_0_g1 := Nat.le_trans K_0.kept.1 z3
  replace K_0 := K_0.then_ hk (fun _ h => h.elim)
  clear hk
  refine q0 p35_0_1 hE (st_assign rfl) ?_
  clear hE a; intro a hE
  refine p_nil ?_
  refine x_norm ?_
  refine wp_seq ?_
  refine c_reg R35_1_l ?_
  refine q0 p35_1_0 hE (st_move rfl) ?_
  clear hE a; intro a hE
  refine q0 p35_1_1 hE (st_len Try.underlying58 rfl) ?_
  clear hE a; intro a hE
  refine q0 p35_1_2 hE (st_move rfl) ?_
  clear hE a; intro a hE
  refine p_nil ?_
  refine x_norm ?_
  refine wp_block ?_
  refine c_loop (α := Nat) (fun k a W => En 22 a [(0, Value.slice A xs.length c), (1, Value.slice B ks.length cb), (4, Value.pointer (some ⟨g1, 0, none⟩)), (8, Value.slice A xs.length c), (9, Value.int .i64 (xs.length : Int)), (10, Value.int .i64 (k : Int))] ∧ k ≤ xs.length ∧ (∀ j, j < k → ofK ks (xs.getD j zO) = false) ∧ W.heap[g1]? = some (.cells (([Value.int .i64 0, Value.slice none 0 0] ++ b16 (fun _ => 0) ++ [Value.slice none 0 0])).toArray 64 (0, 0)) ∧ Kp w W (fun _ => False)) (fun k => xs.length - k) (0) ?_ ?_
  ·
    exact ⟨En.sub hE ⟨rfl, rfl, rfl, rfl, rfl, rfl, trivial⟩, Nat.zero_le _, fun j hj => absurd hj (Nat.not_lt_zero j), B_g1, K_0⟩
  ·
    clear hE a
    rintro k a w4 ⟨hE, hk9, hall, B_g1, K_0⟩
    rcases Decidable.em ((k : Int) < (xs.length : Int)) with hK1 | hK1
    ·
      refine c_reg R35_2_l ?_
      refine q0 p35_2_0 hE (st_lss (b := true) rfl rfl (decide_eq_true hK1)) ?_
      clear hE a; intro a hE
      refine p_nil ?_
      refine x_norm ?_
      refine wp_seq ?_
      refine c_cond (t := true) hE rfl ?_
      refine wp_skip ?_
      refine x_norm ?_
      refine wp_seq ?_
      refine wp_block ?_
      refine c_reg R35_3_l ?_
      have hkx : k < xs.length := by omega
      obtain ⟨hAe5, cce5, hKe5, hce5⟩ := C_elem (i := k) hF zO (show k < xs.length by omega)
      obtain ⟨x, hxe5⟩ : ∃ x, List.getD xs k zO = x := ⟨_, rfl⟩
      rw [hxe5] at hKe5
      obtain ⟨Ae5, qe5, Te5, ce5, rfl, hle5, hme5, hCe5, hDe5⟩ := opt_open hKe5
      refine q0 p35_3_0 hE (st_indexAddrR (i := k) (s := 19) Try.underlying58 tS64 hAe5 rfl rfl (by omega)) ?_
      clear hE a; intro a hE
      refine q0 p35_3_1 hE (st_loadR (off := k * 19) (j := 0) (k := 19) (vs := ([Value.int .i64 x.1, Value.slice Ae5 x.2.1.length qe5] ++ b16 (adr x) ++ [Value.slice Te5 x.2.2.2.length ce5])) tA64 tS64 (fun j u h => cell_to K_0 (hce5 j u h)) rfl rfl (by omega) rfl) ?_
      clear hE a; intro a hE
      refine p_cons (s_alloc p35_3_2 hE wn_none rfl tZ64 ?_)
      clear hE a; intro g6 w7 z8 B_g6 hk a hE
      replace B_g6 : w7.heap[g6]? = some (.cells (([Value.int .i64 0, Value.slice none 0 0] ++ b16 (fun _ => 0) ++ [Value.slice none 0 0])).toArray 64 (0, 0)) := B_g6
      have n_g1_g6 : g1 ≠ g6 := ne_new B_g1 z8
      have z_0_g6 := Nat.le_trans K_0.kept.1 z8
      replace B_g1 := kp_blk B_g1 hk (fun h => h)
      replace K_0 := K_0.then_ hk (fun _ h => h.elim)
      clear hk
      refine p_cons (s_store (off := 0) (k := 19) (cs' := (([Value.int .i64 x.1, Value.slice Ae5 x.2.1.length qe5] ++ b16 (adr x) ++ [Value.slice Te5 x.2.2.2.length ce5])).toArray) p35_3_3 hE wn_none tS64 rfl rfl rfl rfl B_g6 (Nat.le_of_ble_eq_true rfl) rfl ?_)
      intro w9 B_g6' hk
      replace B_g1 := kp_blk B_g1 hk n_g1_g6
      replace K_0 := K_0.then_ hk (fun k h => by rw [show k = g6 from h]; exact Or.inr z_0_g6)
      replace B_g6 := B_g6'
      clear hk
      refine p_nil ?_
      refine x_norm ?_
      have hokx := hx _ (getD_mem hkx zO)
      rw [hxe5] at hokx
      rcases Decidable.em (ofK ks x = true) with hIN | hIN
      ·
        refine c_reg R35_4_l ?_
        refine q0 p35_4_0 hE (st_move rfl) ?_
        clear hE a; intro a hE
        refine q0 p35_4_1 hE (st_fieldAddr Try.underlying64 rfl tS3 rfl rfl) ?_
        clear hE a; intro a hE
        refine q0 p35_4_2 hE (st_load1 tA3 rfl ((blk_cell B_g6 0).trans rfl)) ?_
        clear hE a; intro a hE
        refine p_cons (s_call (xs := [Operand.tmp 14, Operand.tmp 16]) (args := [Value.slice B ks.length cb, Value.int .i64 x.1]) p35_4_3 hE wn_none rfl rfl Try.func86 cl86 (contains_any B cb ks x.1 true hIN _ (fun W' hk => hG W' (K_0.then_ hk (fun _ h => h.elim))) hmk) ?_)
        rintro e w10 ⟨rfl, hk⟩
        replace B_g1 := kp_blk B_g1 hk (fun h => h)
        replace B_g6 := kp_blk B_g6 hk (fun h => h)
        replace K_0 := K_0.then_ hk (fun _ h => h.elim)
        refine ⟨_, rfl, ?_⟩
        clear hE a; intro a hE
        refine p_nil ?_
        refine x_norm ?_
        refine c_cond (t := true) hE rfl ?_
        refine c_reg R35_5_l ?_
        refine q0 p35_5_0 hE (st_loadN (off := 0) (k := 19) (vs := ([Value.int .i64 x.1, Value.slice Ae5 x.2.1.length qe5] ++ b16 (adr x) ++ [Value.slice Te5 x.2.2.2.length ce5])) tA64 tS64 rfl B_g6 rfl rfl) ?_
        clear hE a; intro a hE
        have hlt_g1 := blk_lt B_g1
        have hlt_g6 := blk_lt B_g6
        have hle9 := K_0.kept.1
        refine p_cons (s_call (xs := [Operand.tmp 18]) (args := [Value.agg (([Value.int .i64 x.1, Value.slice Ae5 x.2.1.length qe5] ++ b16 (adr x) ++ [Value.slice Te5 x.2.2.2.length ce5])).toArray]) p35_5_1 hE wn_none rfl rfl Try.func87 cl87 (copied_any x.1 x.2.1 x.2.2.2 (adr x) Ae5 Te5 qe5 ce5 _ (fun W' hk => C_to hCe5 (K_0.then_ hk (fun _ h => h.elim))) (fun W' hk => C_to hDe5 (K_0.then_ hk (fun _ h => h.elim))) hokx.2.1 (by have := hokx.2.2; omega)) ?_)
        rintro e w12 ⟨Ap11, qp11, Tp11, cp11, rfl, hlp11, hmp11, hFi, hFt, hk⟩
        replace B_g1 := kp_blk B_g1 hk (fun h => h)
        replace B_g6 := kp_blk B_g6 hk (fun h => h)
        replace K_0 := K_0.then_ hk (fun _ h => h.elim)
        have K_s13 := Kp.refl w12 (fun k => k = g1 ∨ k = g6)
        have Fip11 : ∀ W', Kp w12 W' (fun k => k = g1 ∨ k = g6) → Kd.C (Kd.int .i64) W' Ap11 x.2.1.length x.2.1 := fun W' hk => hFi W' (hk.mono (fun k h => by
            rcases h with h | h
            · rw [h]; exact hlt_g1
            · rw [h]; exact hlt_g6))
        have Ftp11 : ∀ W', Kp w12 W' (fun k => k = g1 ∨ k = g6) → Kd.C (Kd.int .u8) W' Tp11 x.2.2.2.length x.2.2.2 := fun W' hk => hFt W' (hk.mono (fun k h => by
            rcases h with h | h
            · rw [h]; exact hlt_g1
            · rw [h]; exact hlt_g6))
        refine ⟨_, rfl, ?_⟩
        clear hE a; intro a hE
        refine p_cons (s_store (off := 0) (k := 19) (cs' := (([Value.int .i64 x.1, Value.slice Ap11 x.2.1.length qp11] ++ b16 (adr x) ++ [Value.slice Tp11 x.2.2.2.length cp11])).toArray) p35_5_2 hE wn_none tS64 rfl rfl rfl rfl B_g1 (Nat.le_of_ble_eq_true rfl) rfl ?_)
        intro w14 B_g1' hk
        replace B_g6 := kp_blk B_g6 hk (Ne.symm n_g1_g6)
        replace K_0 := K_0.then_ hk (fun k h => by rw [show k = g1 from h]; exact Or.inr z_0_g1)
        replace K_s13 := K_s13.then_ hk (fun k h => by rw [show k = g1 from h]; exact Or.inl (Or.inl rfl))
        replace B_g1 := B_g1'
        clear hk
        refine q0 p35_5_3 hE (st_assign rfl) ?_
        clear hE a; intro a hE
        refine p_nil ?_
        refine x_norm ?_
        refine wp_ret ?_
        refine x_retB ?_
        refine x_ret ?_
        refine x_ret ?_
        refine x_retB ?_
        refine x_ret ?_
        refine ret_list (rs := [.cell 4 64, .tmp 5]) (vs := [Value.agg (([Value.int .i64 x.1, Value.slice Ap11 x.2.1.length qp11] ++ b16 (adr x) ++ [Value.slice Tp11 x.2.2.2.length cp11])).toArray, Value.bool true]) rfl hE (.cellN (us := ([Value.int .i64 x.1, Value.slice Ap11 x.2.1.length qp11] ++ b16 (adr x) ++ [Value.slice Tp11 x.2.2.2.length cp11])) tA64 tS64 rfl B_g1 rfl (.tmp rfl .nil)) rfl ?_
        exact h1 k x hkx (fun j hj => hall j hj) (by rw [hxe5]) hIN Ap11 Tp11 qp11 cp11 _ hlp11 hmp11 (fun W' hk => hFi W' ((K_s13.mono (fun k h => by
            rcases h with h | h
            · rw [h]; exact hlt_g1
            · rw [h]; exact hlt_g6)).then_ hk (fun k h => .inl (Nat.lt_of_lt_of_le h hle9)))) (fun W' hk => hFt W' ((K_s13.mono (fun k h => by
            rcases h with h | h
            · rw [h]; exact hlt_g1
            · rw [h]; exact hlt_g6)).then_ hk (fun k h => .inl (Nat.lt_of_lt_of_le h hle9)))) K_0
      ·
        refine c_reg R35_4_l ?_
        refine q0 p35_4_0 hE (st_move rfl) ?_
        clear hE a; intro a hE
        refine q0 p35_4_1 hE (st_fieldAddr Try.underlying64 rfl tS3 rfl rfl) ?_
        clear hE a; intro a hE
        refine q0 p35_4_2 hE (st_load1 tA3 rfl ((blk_cell B_g6 0).trans rfl)) ?_
        clear hE a; intro a hE
        refine p_cons (s_call (xs := [Operand.tmp 14, Operand.tmp 16]) (args := [Value.slice B ks.length cb, Value.int .i64 x.1]) p35_4_3 hE wn_none rfl rfl Try.func86 cl86 (contains_any B cb ks x.1 false (by simpa [ofK] using hIN) _ (fun W' hk => hG W' (K_0.then_ hk (fun _ h => h.elim))) hmk) ?_)
        rintro e w15 ⟨rfl, hk⟩
        replace B_g1 := kp_blk B_g1 hk (fun h => h)
        replace B_g6 := kp_blk B_g6 hk (fun h => h)
        replace K_0 := K_0.then_ hk (fun _ h => h.elim)
        refine ⟨_, rfl, ?_⟩
        clear hE a; intro a hE
        refine p_nil ?_
        refine x_norm ?_
        refine c_cond (t := false) hE rfl ?_
        refine wp_skip ?_
        refine x_normB ?_
        refine x_norm ?_
        refine c_regL R35_6_l ?_
        refine q0 p35_6_0 hE (st_add (z := (k : Int) + 1) rfl rfl (wr_i64 _ (by omega) (by omega))) ?_
        clear hE a; intro a hE
        refine q0 p35_6_1 hE (st_move rfl) ?_
        clear hE a; intro a hE
        refine p_nil ?_
        refine x_norm ?_
        have hno : ofK ks (xs.getD k zO) = false := by rw [hxe5]; simpa using hIN
        exact ⟨k + 1, by omega, En.sub hE ⟨rfl, rfl, rfl, rfl, rfl, rfl, trivial⟩, by omega, fun j hj => by rcases Nat.lt_succ_iff_lt_or_eq.1 hj with h | h; exact hall j h; rw [h]; exact hno, B_g1, K_0⟩
    ·
      refine c_reg R35_2_l ?_
      refine q0 p35_2_0 hE (st_lss (b := false) rfl rfl (decide_eq_false hK1)) ?_
      clear hE a; intro a hE
      refine p_nil ?_
      refine x_norm ?_
      refine wp_seq ?_
      refine c_cond (t := false) hE rfl ?_
      refine wp_exit ?_
      refine x_exit ?_
      refine x_exit ?_
      refine x_in ?_
      refine x_norm ?_
      refine c_reg R35_7_l ?_
      refine q0 p35_7_0 hE (st_build (xs := []) (vs := []) (cs := (([Value.int .i64 0, Value.slice none 0 0] ++ b16 (fun _ => 0) ++ [Value.slice none 0 0])).toArray) rfl (by kernel_rfl)) ?_
      clear hE a; intro a hE
      refine p_cons (s_store (off := 0) (k := 19) (cs' := (([Value.int .i64 0, Value.slice none 0 0] ++ b16 (fun _ => 0) ++ [Value.slice none 0 0])).toArray) p35_7_1 hE wn_none tS64 rfl rfl rfl rfl B_g1 (Nat.le_of_ble_eq_true rfl) rfl ?_)
      intro w16 B_g1' hk
      replace K_0 := K_0.then_ hk (fun k h => by rw [show k = g1 from h]; exact Or.inr z_0_g1)
      replace B_g1 := B_g1'
      clear hk
      refine q0 p35_7_2 hE (st_assign rfl) ?_
      clear hE a; intro a hE
      refine p_nil ?_
      refine x_norm ?_
      refine wp_ret ?_
      refine ret_list (rs := [.cell 4 64, .tmp 5]) (vs := [Value.agg (([Value.int .i64 0, Value.slice none 0 0] ++ b16 (fun _ => 0) ++ [Value.slice none 0 0])).toArray, Value.bool false]) rfl hE (.cellN (us := ([Value.int .i64 0, Value.slice none 0 0] ++ b16 (fun _ => 0) ++ [Value.slice none 0 0])) tA64 tS64 rfl B_g1 rfl (.tmp rfl .nil)) rfl ?_
      exact h0 (fun j hj => hall j (by omega)) _ K_0
theorem R36_0_l : List.range (regOf Try.f36 0).size = [0] := by kernel_rfl
theorem R36_1_l : List.range (regOf Try.f36 1).size = [0] := by kernel_rfl
theorem R36_2_l : List.range (regOf Try.f36 2).size = [0, 1, 2] := by kernel_rfl
theorem R36_3_l : List.range (regOf Try.f36 3).size = [0] := by kernel_rfl
theorem R36_4_l : List.range (regOf Try.f36 4).size = [0, 1, 2, 3] := by kernel_rfl
theorem R36_5_l : List.range (regOf Try.f36 5).size = [0, 1, 2, 3, 4] := by kernel_rfl
theorem R36_6_l : List.range (regOf Try.f36 6).size = [0, 1, 2, 3, 4, 5] := by kernel_rfl
theorem R36_7_l : List.range (regOf Try.f36 7).size = [0, 1] := by kernel_rfl
theorem R36_8_l : List.range (regOf Try.f36 8).size = [0, 1] := by kernel_rfl
theorem body36 : Try.f36.body = some (.seq (.region 0 (regOf Try.f36 0) false) (.seq (.region 1 (regOf Try.f36 1) false) (.seq (.seq (.region 2 (regOf Try.f36 2) false) (.block 0 (.loop (.seq (.region 3 (regOf Try.f36 3) false) (.seq (.cond (Operand.tmp 11) (.skip) (.exit 0)) (.seq (.block 1 (.seq (.region 4 (regOf Try.f36 4) false) (.seq (.region 5 (regOf Try.f36 5) false) (.cond (Operand.tmp 18) (.region 6 (regOf Try.f36 6) false) (.skip))))) (.region 7 (regOf Try.f36 7) false))))))) (.seq (.region 8 (regOf Try.f36 8) false) (.ret))))) := by kernel_rfl
theorem p36_0_0 : pj (regOf Try.f36 0) 0 = some (some 4, .assign (.const (.slice none 0 0)), 58, none) := by kernel_rfl
theorem p36_1_0 : pj (regOf Try.f36 1) 0 = some (some 5, .assign (.const (.slice none 0 0)), 58, none) := by kernel_rfl
theorem p36_2_0 : pj (regOf Try.f36 2) 0 = some (some 8, .move (.tmp 0), 58, none) := by kernel_rfl
theorem p36_2_1 : pj (regOf Try.f36 2) 1 = some (some 9, .call { callee := .builtin .len, args := #[.tmp 8], argTypes := #[58] }, 3, none) := by kernel_rfl
theorem p36_2_2 : pj (regOf Try.f36 2) 2 = some (some 10, .move (.const (.int .i64 0)), 3, none) := by kernel_rfl
theorem p36_3_0 : pj (regOf Try.f36 3) 0 = some (some 11, .binOp .lss 3 (.tmp 10) (.tmp 9) 3, 0, none) := by kernel_rfl
theorem p36_4_0 : pj (regOf Try.f36 4) 0 = some (some 12, .indexAddr 58 (.tmp 8) (.tmp 10), 0, none) := by kernel_rfl
theorem p36_4_1 : pj (regOf Try.f36 4) 1 = some (some 13, .load 64 (.tmp 12), 64, none) := by kernel_rfl
theorem p36_4_2 : pj (regOf Try.f36 4) 2 = some (some 7, .alloc 64, 0, none) := by kernel_rfl
theorem p36_4_3 : pj (regOf Try.f36 4) 3 = some (none, .store 64 (.tmp 7) (.tmp 13), 0, none) := by kernel_rfl
theorem p36_5_0 : pj (regOf Try.f36 5) 0 = some (some 14, .move (.tmp 1), 62, none) := by kernel_rfl
theorem p36_5_1 : pj (regOf Try.f36 5) 1 = some (some 15, .fieldAddr 64 (.tmp 7) 0, 0, none) := by kernel_rfl
theorem p36_5_2 : pj (regOf Try.f36 5) 2 = some (some 16, .load 3 (.tmp 15), 3, none) := by kernel_rfl
theorem p36_5_3 : pj (regOf Try.f36 5) 3 = some (some 17, .call { callee := .value (.func 86), args := #[.tmp 14, .tmp 16], argTypes := #[62, 3] }, 4, none) := by kernel_rfl
theorem p36_5_4 : pj (regOf Try.f36 5) 4 = some (some 18, .unOp .not 4 (.tmp 17), 4, none) := by kernel_rfl
theorem p36_7_0 : pj (regOf Try.f36 7) 0 = some (some 24, .binOp .add 3 (.tmp 10) (.const (.int .i64 1)) 3, 3, none) := by kernel_rfl
theorem p36_7_1 : pj (regOf Try.f36 7) 1 = some (some 10, .move (.tmp 24), 3, none) := by kernel_rfl
theorem p36_6_0 : pj (regOf Try.f36 6) 0 = some (some 19, .move (.tmp 5), 58, none) := by kernel_rfl
theorem p36_6_1 : pj (regOf Try.f36 6) 1 = some (some 20, .load 64 (.tmp 7), 64, none) := by kernel_rfl
theorem p36_6_2 : pj (regOf Try.f36 6) 2 = some (some 21, .call { callee := .value (.func 87), args := #[.tmp 20], argTypes := #[64] }, 64, none) := by kernel_rfl
theorem p36_6_3 : pj (regOf Try.f36 6) 3 = some (some 22, .buildSlice 58 1 #[(0, .tmp 21)], 58, none) := by kernel_rfl
theorem p36_6_4 : pj (regOf Try.f36 6) 4 = some (some 23, .call { callee := .builtin .append, args := #[.tmp 19, .tmp 22], argTypes := #[58, 58] }, 58, none) := by kernel_rfl
theorem eD64 : elemD Try.prog 64 = some (19, 19, 72) := by kernel_rfl
theorem p36_6_5 : pj (regOf Try.f36 6) 5 = some (some 5, .assign (.tmp 23), 58, none) := by kernel_rfl
theorem p36_8_0 : pj (regOf Try.f36 8) 0 = some (some 25, .move (.tmp 5), 58, none) := by kernel_rfl
theorem p36_8_1 : pj (regOf Try.f36 8) 1 = some (some 4, .assign (.tmp 25), 58, none) := by kernel_rfl
set_option maxHeartbeats 4000000 in
theorem without_any (A B : Option Addr) (c cb : Nat) (xs : List OV) (ks : List Int) (hx : ∀ x ∈ xs, okO x) (w : World) (hF : Kd.C dO w A xs.length xs) (hG : ∀ W', Kp w W' (fun _ => False) → Kd.C (Kd.int .i64) W' B ks.length ks) (hmx : xs.length ≤ 1000000) (hmk : ks.length ≤ 1000000000000) : Calls Try.prog 36 #[.slice A xs.length c, .slice B ks.length cb] w fun e w' => ∃ A' c', e = .returned (.slice A' (without ks xs).length c') ∧ (without ks xs).length ≤ c' ∧ (∀ W', Kp w' W' (fun _ => False) → Kd.C dO W' A' (without ks xs).length (without ks xs)) ∧ Kp w w' (fun _ => False) := by
  have K_0 := Kp.refl w (fun _ => False)
  refine enter (args := [Value.slice A xs.length c, Value.slice B ks.length cb]) (n := 26) Try.func36 body36 rfl rfl rfl ?_
  intro a hE
  refine c_reg R36_0_l ?_
  refine q0 p36_0_0 hE (st_assign rfl) ?_
  clear hE a; intro a hE
  refine p_nil ?_
  refine x_norm ?_
  refine c_reg R36_1_l ?_
  refine q0 p36_1_0 hE (st_assign rfl) ?_
  clear hE a; intro a hE
  refine p_nil ?_
  refine x_norm ?_
  refine wp_seq ?_
  refine c_reg R36_2_l ?_
  refine q0 p36_2_0 hE (st_move rfl) ?_
  clear hE a; intro a hE
  refine q0 p36_2_1 hE (st_len Try.underlying58 rfl) ?_
  clear hE a; intro a hE
  refine q0 p36_2_2 hE (st_move rfl) ?_
  clear hE a; intro a hE
  refine p_nil ?_
  refine x_norm ?_
  refine wp_block ?_
  have O_out := own_none w w.heap.size 64 19
  have Z_0_out : ∀ k, OB none k → (fun _ => False) k ∨ w.heap.size ≤ k := fun k h => absurd h ob_nil
  refine c_loop (α := Nat) (fun k a W => ∃ (A_out : Option Addr) (c_out : Nat) (n_out : Nat), ∃ (zs : List Value), En 26 a [(0, Value.slice A xs.length c), (1, Value.slice B ks.length cb), (4, Value.slice none 0 0), (8, Value.slice A xs.length c), (9, Value.int .i64 (xs.length : Int)), (10, Value.int .i64 (k : Int)), (5, Value.slice A_out n_out c_out)] ∧ k ≤ xs.length ∧ n_out = (without ks (xs.take k)).length ∧ n_out ≤ k ∧ (∀ W', Kp W W' (fun k => OB A_out k) → Reps (Kd.K dO W') 19 (without ks (xs.take k)) zs) ∧ W.ownsRow w.heap.size 64 19 (.slice A_out n_out c_out) n_out zs ∧ (∀ k, OB A_out k → (fun _ => False) k ∨ w.heap.size ≤ k) ∧ Kp w W (fun _ => False)) (fun k => xs.length - k) (0) ?_ ?_
  ·
    exact ⟨none, 0, 0, [], En.sub hE ⟨rfl, rfl, rfl, rfl, rfl, rfl, rfl, trivial⟩, Nat.zero_le _, rfl, Nat.le_refl _, (fun W' hk => Reps.none _ _), O_out, Z_0_out, K_0⟩
  ·
    clear hE a
    rintro k a w1 ⟨A_out, c_out, n_out, zs, hE, hk9, hn_out, hlo, F_out, O_out, Z_0_out, K_0⟩
    rcases Decidable.em ((k : Int) < (xs.length : Int)) with hK1 | hK1
    ·
      refine c_reg R36_3_l ?_
      refine q0 p36_3_0 hE (st_lss (b := true) rfl rfl (decide_eq_true hK1)) ?_
      clear hE a; intro a hE
      refine p_nil ?_
      refine x_norm ?_
      refine wp_seq ?_
      refine c_cond (t := true) hE rfl ?_
      refine wp_skip ?_
      refine x_norm ?_
      refine wp_seq ?_
      refine wp_block ?_
      refine c_reg R36_4_l ?_
      have hkx : k < xs.length := by omega
      have K_s2 := Kp.refl w1 (fun k => OB A_out k)
      have Z_s2_out : ∀ k, OB A_out k → (fun k => OB A_out k) k ∨ w1.heap.size ≤ k := fun k h => .inl h
      obtain ⟨hAe3, cce3, hKe3, hce3⟩ := C_elem (i := k) hF zO (show k < xs.length by omega)
      obtain ⟨x, hxe3⟩ : ∃ x, List.getD xs k zO = x := ⟨_, rfl⟩
      rw [hxe3] at hKe3
      obtain ⟨Ae3, qe3, Te3, ce3, rfl, hle3, hme3, hCe3, hDe3⟩ := opt_open hKe3
      refine q0 p36_4_0 hE (st_indexAddrR (i := k) (s := 19) Try.underlying58 tS64 hAe3 rfl rfl (by omega)) ?_
      clear hE a; intro a hE
      refine q0 p36_4_1 hE (st_loadR (off := k * 19) (j := 0) (k := 19) (vs := ([Value.int .i64 x.1, Value.slice Ae3 x.2.1.length qe3] ++ b16 (adr x) ++ [Value.slice Te3 x.2.2.2.length ce3])) tA64 tS64 (fun j u h => cell_to K_0 (hce3 j u h)) rfl rfl (by omega) rfl) ?_
      clear hE a; intro a hE
      refine p_cons (s_alloc p36_4_2 hE wn_none rfl tZ64 ?_)
      clear hE a; intro g4 w5 z6 B_g4 hk a hE
      replace B_g4 : w5.heap[g4]? = some (.cells (([Value.int .i64 0, Value.slice none 0 0] ++ b16 (fun _ => 0) ++ [Value.slice none 0 0])).toArray 64 (0, 0)) := B_g4
      have z_0_g4 := Nat.le_trans K_0.kept.1 z6
      have z_s2_g4 := Nat.le_trans K_s2.kept.1 z6
      have Nb_out_g4 : ¬ OB A_out g4 := fun h => by have := (own_ob O_out h).2; omega
      replace O_out := own_keep O_out hk (fun _ _ h => h)
      replace K_0 := K_0.then_ hk (fun _ h => h.elim)
      replace K_s2 := K_s2.then_ hk (fun _ h => h.elim)
      clear hk
      refine p_cons (s_store (off := 0) (k := 19) (cs' := (([Value.int .i64 x.1, Value.slice Ae3 x.2.1.length qe3] ++ b16 (adr x) ++ [Value.slice Te3 x.2.2.2.length ce3])).toArray) p36_4_3 hE wn_none tS64 rfl rfl rfl rfl B_g4 (Nat.le_of_ble_eq_true rfl) rfl ?_)
      intro w7 B_g4' hk
      replace O_out := own_keep O_out hk (fun k hk2 h2 => Nb_out_g4 (by rw [show k = g4 from h2] at hk2; exact hk2))
      replace K_0 := K_0.then_ hk (fun k h => by rw [show k = g4 from h]; exact Or.inr z_0_g4)
      replace K_s2 := K_s2.then_ hk (fun k h => by rw [show k = g4 from h]; exact Or.inr z_s2_g4)
      replace B_g4 := B_g4'
      clear hk
      refine p_nil ?_
      refine x_norm ?_
      have hokx := hx _ (getD_mem hkx zO)
      rw [hxe3] at hokx
      rcases Decidable.em (ofK ks x = true) with hIN | hIN
      ·
        refine c_reg R36_5_l ?_
        refine q0 p36_5_0 hE (st_move rfl) ?_
        clear hE a; intro a hE
        refine q0 p36_5_1 hE (st_fieldAddr Try.underlying64 rfl tS3 rfl rfl) ?_
        clear hE a; intro a hE
        refine q0 p36_5_2 hE (st_load1 tA3 rfl ((blk_cell B_g4 0).trans rfl)) ?_
        clear hE a; intro a hE
        refine p_cons (s_call (xs := [Operand.tmp 14, Operand.tmp 16]) (args := [Value.slice B ks.length cb, Value.int .i64 x.1]) p36_5_3 hE wn_none rfl rfl Try.func86 cl86 (contains_any B cb ks x.1 true hIN _ (fun W' hk => hG W' (K_0.then_ hk (fun _ h => h.elim))) hmk) ?_)
        rintro e w8 ⟨rfl, hk⟩
        replace B_g4 := kp_blk B_g4 hk (fun h => h)
        replace O_out := own_keep O_out hk (fun _ _ h => h)
        replace K_0 := K_0.then_ hk (fun _ h => h.elim)
        replace K_s2 := K_s2.then_ hk (fun _ h => h.elim)
        refine ⟨_, rfl, ?_⟩
        clear hE a; intro a hE
        refine q0 p36_5_4 hE (st_not rfl rfl) ?_
        clear hE a; intro a hE
        refine p_nil ?_
        refine x_norm ?_
        refine c_cond (t := false) hE rfl ?_
        refine wp_skip ?_
        refine x_normB ?_
        refine x_norm ?_
        refine c_regL R36_7_l ?_
        refine q0 p36_7_0 hE (st_add (z := (k : Int) + 1) rfl rfl (wr_i64 _ (by omega) (by omega))) ?_
        clear hE a; intro a hE
        refine q0 p36_7_1 hE (st_move rfl) ?_
        clear hE a; intro a hE
        refine p_nil ?_
        refine x_norm ?_
        have F9 : ∀ W', Kp w8 W' (fun k => OB A_out k) → Reps (Kd.K dO W') 19 (without ks (xs.take (k + 1))) zs := fun W' hk => by
          have hk1 : Kp w1 W' (fun k => OB A_out k) := K_s2.then_ hk (fun k h => Z_s2_out k h)
          rw [without_succ hkx, hxe3, if_pos hIN, List.append_nil]; exact F_out W' hk1
        have hln9 : n_out = (without ks (xs.take (k + 1))).length := by rw [without_succ hkx, hxe3, List.length_append, ← hn_out]; rw [if_pos hIN]; rfl
        exact ⟨k + 1, by omega, A_out, c_out, n_out, zs, En.sub hE ⟨rfl, rfl, rfl, rfl, rfl, rfl, rfl, trivial⟩, by omega, hln9, (by omega), F9, O_out, Z_0_out, K_0⟩
      ·
        refine c_reg R36_5_l ?_
        refine q0 p36_5_0 hE (st_move rfl) ?_
        clear hE a; intro a hE
        refine q0 p36_5_1 hE (st_fieldAddr Try.underlying64 rfl tS3 rfl rfl) ?_
        clear hE a; intro a hE
        refine q0 p36_5_2 hE (st_load1 tA3 rfl ((blk_cell B_g4 0).trans rfl)) ?_
        clear hE a; intro a hE
        refine p_cons (s_call (xs := [Operand.tmp 14, Operand.tmp 16]) (args := [Value.slice B ks.length cb, Value.int .i64 x.1]) p36_5_3 hE wn_none rfl rfl Try.func86 cl86 (contains_any B cb ks x.1 false (by simpa [ofK] using hIN) _ (fun W' hk => hG W' (K_0.then_ hk (fun _ h => h.elim))) hmk) ?_)
        rintro e w9 ⟨rfl, hk⟩
        replace B_g4 := kp_blk B_g4 hk (fun h => h)
        replace O_out := own_keep O_out hk (fun _ _ h => h)
        replace K_0 := K_0.then_ hk (fun _ h => h.elim)
        replace K_s2 := K_s2.then_ hk (fun _ h => h.elim)
        refine ⟨_, rfl, ?_⟩
        clear hE a; intro a hE
        refine q0 p36_5_4 hE (st_not rfl rfl) ?_
        clear hE a; intro a hE
        refine p_nil ?_
        refine x_norm ?_
        refine c_cond (t := true) hE rfl ?_
        refine c_regL R36_6_l ?_
        refine q0 p36_6_0 hE (st_move rfl) ?_
        clear hE a; intro a hE
        refine q0 p36_6_1 hE (st_loadN (off := 0) (k := 19) (vs := ([Value.int .i64 x.1, Value.slice Ae3 x.2.1.length qe3] ++ b16 (adr x) ++ [Value.slice Te3 x.2.2.2.length ce3])) tA64 tS64 rfl B_g4 rfl rfl) ?_
        clear hE a; intro a hE
        have hlt_g4 := blk_lt B_g4
        have hlo_out := fun k (h : OB A_out k) => (own_ob O_out h).2
        have hle9 := K_0.kept.1
        refine p_cons (s_call (xs := [Operand.tmp 20]) (args := [Value.agg (([Value.int .i64 x.1, Value.slice Ae3 x.2.1.length qe3] ++ b16 (adr x) ++ [Value.slice Te3 x.2.2.2.length ce3])).toArray]) p36_6_2 hE wn_none rfl rfl Try.func87 cl87 (copied_any x.1 x.2.1 x.2.2.2 (adr x) Ae3 Te3 qe3 ce3 _ (fun W' hk => C_to hCe3 (K_0.then_ hk (fun _ h => h.elim))) (fun W' hk => C_to hDe3 (K_0.then_ hk (fun _ h => h.elim))) hokx.2.1 (by have := hokx.2.2; omega)) ?_)
        rintro e w11 ⟨Ap10, qp10, Tp10, cp10, rfl, hlp10, hmp10, hFi, hFt, hk⟩
        replace B_g4 := kp_blk B_g4 hk (fun h => h)
        replace O_out := own_keep O_out hk (fun _ _ h => h)
        replace K_0 := K_0.then_ hk (fun _ h => h.elim)
        replace K_s2 := K_s2.then_ hk (fun _ h => h.elim)
        have K_s12 := Kp.refl w11 (fun k => k = g4 ∨ OB A_out k)
        have Z_s12_out : ∀ k, OB A_out k → (fun k => k = g4 ∨ OB A_out k) k ∨ w11.heap.size ≤ k := fun k h => .inl (Or.inr h)
        have Fip10 : ∀ W', Kp w11 W' (fun k => k = g4 ∨ OB A_out k) → Kd.C (Kd.int .i64) W' Ap10 x.2.1.length x.2.1 := fun W' hk => hFi W' (hk.mono (fun k h => by
            rcases h with h | h
            · rw [h]; exact hlt_g4
            · exact hlo_out k h))
        have Ftp10 : ∀ W', Kp w11 W' (fun k => k = g4 ∨ OB A_out k) → Kd.C (Kd.int .u8) W' Tp10 x.2.2.2.length x.2.2.2 := fun W' hk => hFt W' (hk.mono (fun k h => by
            rcases h with h | h
            · rw [h]; exact hlt_g4
            · exact hlo_out k h))
        refine ⟨_, rfl, ?_⟩
        clear hE a; intro a hE
        refine p_cons (s_row (xs := [(0, Operand.tmp 21)]) (vs := [(0, Value.agg (([Value.int .i64 x.1, Value.slice Ap10 x.2.1.length qp10] ++ b16 (adr x) ++ [Value.slice Tp10 x.2.2.2.length cp10])).toArray)]) (cs := (([Value.int .i64 x.1, Value.slice Ap10 x.2.1.length qp10] ++ b16 (adr x) ++ [Value.slice Tp10 x.2.2.2.length cp10])).toArray) p36_6_3 hE wn_none rfl Try.underlying58 rfl (by kernel_rfl) ?_)
        clear hE a; intro g13 w14 z15 B_g13 hk a hE
        have n_g4_g13 : g4 ≠ g13 := ne_new B_g4 z15
        have z_0_g13 := Nat.le_trans K_0.kept.1 z15
        have z_s2_g13 := Nat.le_trans K_s2.kept.1 z15
        have z_s12_g13 := Nat.le_trans K_s12.kept.1 z15
        have Nb_out_g13 : ¬ OB A_out g13 := fun h => by have := (own_ob O_out h).2; omega
        replace B_g4 := kp_blk B_g4 hk (fun h => h)
        replace O_out := own_keep O_out hk (fun _ _ h => h)
        replace K_0 := K_0.then_ hk (fun _ h => h.elim)
        replace K_s2 := K_s2.then_ hk (fun _ h => h.elim)
        replace K_s12 := K_s12.then_ hk (fun _ h => h.elim)
        clear hk
        refine p_cons (s_append (s := 19) (xs := zs) (news := ([Value.int .i64 x.1, Value.slice Ap10 x.2.1.length qp10] ++ b16 (adr x) ++ [Value.slice Tp10 x.2.2.2.length cp10])) p36_6_4 hE wn_none rfl Try.underlying58 eD64 (by decide) rfl O_out rfl rfl (newsB B_g13 rfl) (ones rfl) (by omega) (by omega) K_0.kept.1 ?_)
        clear hE a; intro Aout16 cout17 w18 O_out' hk hat a hE
        have Nb_out_g4' := grow_n Nb_out_g4 (blk_lt B_g4) hat
        have Nb_out_g13' := grow_n Nb_out_g13 (blk_lt B_g13) hat
        have Z_0_out' := grow_z Z_0_out K_0.kept.1 hat
        have Z_s2_out' := grow_z Z_s2_out K_s2.kept.1 hat
        have Z_s12_out' := grow_z Z_s12_out K_s12.kept.1 hat
        replace B_g4 := kp_blk B_g4 hk Nb_out_g4
        replace B_g13 := kp_blk B_g13 hk Nb_out_g13
        replace K_0 := K_0.then_ hk Z_0_out
        replace K_s2 := K_s2.then_ hk Z_s2_out
        replace K_s12 := K_s12.then_ hk Z_s12_out
        replace Nb_out_g4 := Nb_out_g4'
        replace Nb_out_g13 := Nb_out_g13'
        replace Z_0_out := Z_0_out'
        replace Z_s2_out := Z_s2_out'
        replace Z_s12_out := Z_s12_out'
        replace O_out := O_out'
        try clear O_out'
        clear hk hat
        refine q0 p36_6_5 hE (st_assign rfl) ?_
        clear hE a; intro a hE
        refine p_nil ?_
        refine x_normB ?_
        refine x_norm ?_
        refine c_regL R36_7_l ?_
        refine q0 p36_7_0 hE (st_add (z := (k : Int) + 1) rfl rfl (wr_i64 _ (by omega) (by omega))) ?_
        clear hE a; intro a hE
        refine q0 p36_7_1 hE (st_move rfl) ?_
        clear hE a; intro a hE
        refine p_nil ?_
        refine x_norm ?_
        have F9 : ∀ W', Kp w18 W' (fun k => OB Aout16 k) → Reps (Kd.K dO W') 19 (without ks (xs.take (k + 1))) (zs ++ ([Value.int .i64 x.1, Value.slice Ap10 x.2.1.length qp10] ++ b16 (adr x) ++ [Value.slice Tp10 x.2.2.2.length cp10])) := fun W' hk => by
          have hk1 : Kp w1 W' (fun k => OB A_out k) := K_s2.then_ hk (fun k h => Z_s2_out k h)
          have hk2 := K_s12.then_ hk (fun k h => Z_s12_out k h)
          rw [without_succ hkx, hxe3, if_neg hIN]
          refine Reps.snoc (F_out W' hk1) ?_ rfl
          exact opt_mk x.1 x.2.1 (adr x) x.2.2.2 rfl rfl hlp10 hmp10 (Fip10 W' hk2) (Ftp10 W' hk2)
        have hln9 : (n_out + 1) = (without ks (xs.take (k + 1))).length := by rw [without_succ hkx, hxe3, List.length_append, ← hn_out]; rw [if_neg hIN]; rfl
        exact ⟨k + 1, by omega, Aout16, cout17, (n_out + 1), (zs ++ ([Value.int .i64 x.1, Value.slice Ap10 x.2.1.length qp10] ++ b16 (adr x) ++ [Value.slice Tp10 x.2.2.2.length cp10])), En.sub hE ⟨rfl, rfl, rfl, rfl, rfl, rfl, rfl, trivial⟩, by omega, hln9, (by omega), F9, O_out, Z_0_out, K_0⟩
    ·
      refine c_reg R36_3_l ?_
      refine q0 p36_3_0 hE (st_lss (b := false) rfl rfl (decide_eq_false hK1)) ?_
      clear hE a; intro a hE
      refine p_nil ?_
      refine x_norm ?_
      refine wp_seq ?_
      refine c_cond (t := false) hE rfl ?_
      refine wp_exit ?_
      refine x_exit ?_
      refine x_exit ?_
      refine x_in ?_
      refine x_norm ?_
      refine c_reg R36_8_l ?_
      refine q0 p36_8_0 hE (st_move rfl) ?_
      clear hE a; intro a hE
      refine q0 p36_8_1 hE (st_assign rfl) ?_
      clear hE a; intro a hE
      refine p_nil ?_
      refine x_norm ?_
      refine wp_ret ?_
      refine ret_one (v := Value.slice A_out n_out c_out) rfl hE (.tmp rfl .nil) ?_
      obtain rfl : k = xs.length := by omega
      rw [List.take_length] at hn_out F_out
      subst hn_out
      exact ⟨A_out, c_out, rfl, (own_caps O_out).1, fun W' hk => own_C (d := dO) (own_keep O_out hk (fun _ _ h => h)) (F_out W' (hk.mono (fun _ h => h.elim))) rfl, K_0⟩
/-- The first option of some kinds among the first i: its place, -1 where there is none. -/
def AtP (ks : List Int) (xs : List OV) (i : Nat) (v : Int) : Prop := (v = -1 ∧ ∀ j, j < i → ofK ks (xs.getD j zO) = false) ∨ (∃ k : Nat, k < i ∧ v = (k : Int) ∧ ofK ks (xs.getD k zO) = true ∧ ∀ j, j < k → ofK ks (xs.getD j zO) = false)
theorem at_zero (ks : List Int) (xs : List OV) : AtP ks xs 0 (-1) := .inl ⟨rfl, fun j hj => absurd hj (Nat.not_lt_zero j)⟩
theorem at_no {ks : List Int} {xs : List OV} {i : Nat} {v : Int} (h : AtP ks xs i v) (hi : ofK ks (xs.getD i zO) = false) : AtP ks xs (i + 1) v := by
  rcases h with ⟨h1, h2⟩ | ⟨k, h1, h2, h3, h4⟩
  · exact .inl ⟨h1, fun j hj => by rcases Nat.lt_succ_iff_lt_or_eq.1 hj with h | h; exact h2 j h; rw [h]; exact hi⟩
  · exact .inr ⟨k, by omega, h2, h3, h4⟩
theorem at_old {ks : List Int} {xs : List OV} {i : Nat} {v : Int} (h : AtP ks xs i v) (hv : ¬ v < 0) : AtP ks xs (i + 1) v := by
  rcases h with ⟨h1, h2⟩ | ⟨k, h1, h2, h3, h4⟩
  · omega
  · exact .inr ⟨k, by omega, h2, h3, h4⟩
theorem at_new {ks : List Int} {xs : List OV} {i : Nat} {v : Int} (h : AtP ks xs i v) (hv : v < 0) (hi : ofK ks (xs.getD i zO) = true) : AtP ks xs (i + 1) (i : Int) := by
  rcases h with ⟨h1, h2⟩ | ⟨k, h1, h2, h3, h4⟩
  · exact .inr ⟨i, by omega, rfl, hi, h2⟩
  · omega
theorem at_eq {ks : List Int} {xs : List OV} {i : Nat} {v v' : Int} (h : AtP ks xs i v) (h' : AtP ks xs i v') : v = v' := by
  rcases h with ⟨h1, h2⟩ | ⟨k, h1, h2, h3, h4⟩
  · rcases h' with ⟨g1, _⟩ | ⟨j, g1, _, g3, _⟩
    · omega
    · rw [h2 j g1] at g3; cases g3
  · rcases h' with ⟨_, g2⟩ | ⟨j, g1, g2, g3, g4⟩
    · rw [g2 k h1] at h3; cases h3
    · rcases Nat.lt_trichotomy k j with h | h | h
      · rw [g4 k h] at h3; cases h3
      · omega
      · rw [h4 j h] at g3; cases g3
theorem at_bd {ks : List Int} {xs : List OV} {i : Nat} {v : Int} (h : AtP ks xs i v) : -1 ≤ v ∧ v < (i : Int) := by
  rcases h with ⟨h1, _⟩ | ⟨k, h1, h2, _⟩ <;> omega
theorem find_far (A B : Option Addr) (c cb : Nat) (xs : List OV) (ks : List Int) (hx : ∀ x ∈ xs, okO x) (w : World) (hF : Kd.C dO w A xs.length xs) (hG : ∀ W', Kp w W' (fun _ => False) → Kd.C (Kd.int .i64) W' B ks.length ks) (hmx : xs.length ≤ 1000000) (hmk : ks.length ≤ 1000000000000) : Calls Try.prog 35 #[.slice A xs.length c, .slice B ks.length cb] w fun e w' => ∃ (y : OV) (v : Int) (A' T' : Option Addr) (q' c' : Nat), e = .returned (.tuple #[Value.agg (([Value.int .i64 y.1, Value.slice A' y.2.1.length q'] ++ b16 (adr y) ++ [Value.slice T' y.2.2.2.length c'])).toArray, .bool (decide (0 ≤ v))]) ∧ AtP ks xs xs.length v ∧ (0 ≤ v → y = xs.getD v.toNat zO) ∧ y.2.1.length ≤ q' ∧ y.2.2.2.length ≤ c' ∧ (∀ W', Kp w' W' (fun k => k < w.heap.size) → Kd.C (Kd.int .i64) W' A' y.2.1.length y.2.1) ∧ (∀ W', Kp w' W' (fun k => k < w.heap.size) → Kd.C (Kd.int .u8) W' T' y.2.2.2.length y.2.2.2) ∧ Kp w w' (fun _ => False) :=
  find_R A B c cb xs ks hx w hF hG hmx hmk
    (fun k x hk hj hx' hi A' T' q' c' w' h1 h2 h3 h4 h5 => ⟨x, (k : Int), A', T', q', c', by rw [decide_eq_true (by omega)], .inr ⟨k, hk, rfl, by rw [hx']; exact hi, hj⟩, fun _ => by rw [Int.toNat_natCast]; exact hx'.symm, h1, h2, h3, h4, h5⟩)
    (fun hj w' h5 => ⟨(0, [], l16 (fun _ => 0), []), -1, none, none, 0, 0, rfl, .inl ⟨rfl, hj⟩, fun h => absurd h (by decide), Nat.le_refl _, Nat.le_refl _, fun W' hk => Kd.C_nil _ _, fun W' hk => Kd.C_nil _ _, h5⟩)
theorem find_any (A B : Option Addr) (c cb : Nat) (xs : List OV) (ks : List Int) (hx : ∀ x ∈ xs, okO x) (w : World) (hF : Kd.C dO w A xs.length xs) (hG : ∀ W', Kp w W' (fun _ => False) → Kd.C (Kd.int .i64) W' B ks.length ks) (hmx : xs.length ≤ 1000000) (hmk : ks.length ≤ 1000000000000) : Calls Try.prog 35 #[.slice A xs.length c, .slice B ks.length cb] w fun e w' => ∃ (y : OV) (v : Int) (A' T' : Option Addr) (q' c' : Nat), e = .returned (.tuple #[Value.agg (([Value.int .i64 y.1, Value.slice A' y.2.1.length q'] ++ b16 (adr y) ++ [Value.slice T' y.2.2.2.length c'])).toArray, .bool (decide (0 ≤ v))]) ∧ AtP ks xs xs.length v ∧ (0 ≤ v → y = xs.getD v.toNat zO) ∧ y.2.1.length ≤ q' ∧ y.2.2.2.length ≤ c' ∧ (∀ W', Kp w' W' (fun _ => False) → Kd.C (Kd.int .i64) W' A' y.2.1.length y.2.1) ∧ (∀ W', Kp w' W' (fun _ => False) → Kd.C (Kd.int .u8) W' T' y.2.2.2.length y.2.2.2) ∧ Kp w w' (fun _ => False) := by
  refine (find_far A B c cb xs ks hx w hF hG hmx hmk).mono ?_
  rintro e w1 ⟨y, v, A', T', q', c', h0, h1, h2, h3, h4, h5, h6, h7⟩
  exact ⟨y, v, A', T', q', c', h0, h1, h2, h3, h4, fun W' hk => h5 W' (hk.mono (fun _ h => h.elim)), fun W' hk => h6 W' (hk.mono (fun _ h => h.elim)), h7⟩
theorem without_len (ks : List Int) (xs : List OV) : (without ks xs).length ≤ xs.length := by unfold without; rw [List.length_map]; exact List.length_filter_le _ _
theorem fits16 (f : Nat → Int) : fits (List.replicate 16 (some .u8)) (b16 f) = true := rfl
theorem osame_cp (x : OV) : osame (cpV x) x = true := by
  unfold osame sameB
  rw [show (cpV x).1 = x.1 from rfl, show (cpV x).2.1 = x.2.1 from rfl, show (cpV x).2.2.2 = x.2.2.2 from rfl, show b16 (adr (cpV x)) = b16 (adr x) from rfl, eqL_refl _ _ (fits16 (adr x))]
  simp
theorem osame_refl (x : OV) : osame x x = true := by
  unfold osame sameB
  rw [eqL_refl _ _ (fits16 (adr x))]
  simp
theorem lsame_refl (xs : List OV) : lsame xs xs = true := lsame_yes rfl (fun j _ => osame_refl _)
theorem lsame_one {x y : OV} (h : osame x y = true) : lsame [x] [y] = true := lsame_yes rfl (fun j hj => by
  have : j = 0 := by simpa using hj
  subst this; exact h)
theorem without_at {ks : List Int} {xs : List OV} {k : Nat} (hk : k < xs.length) (h : ofK ks (xs.getD k zO) = false) : (without ks (xs.take k)).length < (without ks xs).length ∧ (without ks xs).getD (without ks (xs.take k)).length zO = cpV (xs.getD k zO) := by
  have e : without ks xs = without ks (xs.take (k + 1)) ++ without ks (xs.drop (k + 1)) := by
    unfold without
    rw [← List.map_append, ← List.filter_append, List.take_append_drop]
  rw [without_succ hk, h] at e
  rw [e]
  simp
theorem ofl_to (z : List OV) : (toL z).map ofV = toL z := by
  unfold toL
  rw [List.map_map]
  rfl
theorem take_pre {α : Type} (l : List α) (m : Nat) (j : Nat) (hj : j < m) (hm : m ≤ l.length) (z : α) : (l.take m).getD j z = l.getD j z := by
  rw [List.getD_eq_getElem?_getD, List.getD_eq_getElem?_getD, List.getElem?_take, if_pos hj]
theorem wf8 {x : Int} (h : (Lit.int .u8 x).wf = true) : 0 ≤ x ∧ x ≤ 255 := by simpa [Lit.wf, IntKind.min, IntKind.max, IntKind.signed, IntKind.bits] using h
theorem toL_ok {z : List OV} (h : (z.length ≤ maxLen ∧ ∀ x0 ∈ z, ((Lit.int .i64 x0.1).wf = true ∧ ((x0.2.1.length ≤ maxLen ∧ ∀ x1 ∈ x0.2.1, (Lit.int .i64 x1).wf = true) ∧ ((x0.2.2.1.length = 16 ∧ ∀ x1 ∈ x0.2.2.1, (Lit.int .u8 x1).wf = true) ∧ ((x0.2.2.2.length ≤ maxLen ∧ ∀ x1 ∈ x0.2.2.2, (Lit.int .u8 x1).wf = true))))))) : ∀ x ∈ toL z, okO x := by
  intro x hx
  obtain ⟨y, hy, rfl⟩ := List.mem_map.1 hx
  have hy2 := h.2 y (List.mem_of_mem_take hy)
  refine ⟨fun v hv => wf8 (hy2.2.2.2.2 v (List.mem_of_mem_take hv)), ?_, ?_⟩
  · show (y.2.1.take 12).length ≤ _
    rw [List.length_take]; omega
  · show (y.2.2.2.take 100).length ≤ _
    rw [List.length_take]; omega
theorem sub_bytes (n : Nat) (h : n * Try.prog.bytesOf 80 ≤ 140737488351232) : n ≤ 1954687338211 := by
  have e : Try.prog.bytesOf 80 = 72 := by kernel_rfl
  rw [e] at h
  omega
/-- The kinds up to some place hold one. -/
theorem hit_succ {ks : List Int} {v : Int} {j : Nat} (hj : j < ks.length) : decide (v ∈ ks.take (j + 1)) = (decide (v ∈ ks.take j) || decide (rd ks (j : Int) = v)) := by
  have e2 : v ∈ ks.take (j + 1) ↔ v ∈ ks.take j ∨ v = ks[j] := by
    rw [List.take_succ_eq_append_getElem hj]
    simp only [List.mem_append, List.mem_singleton]
  have e : rd ks (j : Int) = ks[j] := by simp [rd, rdOf, List.getD_eq_getElem?_getD, hj]
  rw [e]
  by_cases h1 : v ∈ ks.take j
  · rw [decide_eq_true (e2.2 (.inl h1)), decide_eq_true h1]; rfl
  · by_cases h2 : ks[j] = v
    · rw [decide_eq_true (e2.2 (.inr h2.symm)), decide_eq_true h2]; simp
    · rw [decide_eq_false (fun h => (e2.1 h).elim h1 (fun h => h2 h.symm)), decide_eq_false h1, decide_eq_false h2]; rfl
end Go.Proofs.Ytndiddfleidnaaa.Of
