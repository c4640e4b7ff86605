/- The document's wheel: Cancel, Set, Due. -/
import Derived.Test.YtlmjbmeigclihaaWhl
import Derived.Test.YtlmjbmeigclihaaRdv
set_option maxRecDepth 100000
set_option linter.unusedVariables false
set_option linter.unusedSimpArgs false
namespace Go.Proofs.Ytlmjbmeigclihaa.Wd
open Go.RowKit Go.Proofs.YtlmjbmeigclihaaW.PrintWords Go.Proofs.Ytlmjbmeigclihaa.Ds Go.Proofs.Ytlmjbmeigclihaa.Wp Go.Proofs.Ytlmjbmeigclihaa.Wh
open Go.Proofs.Ytlmjbmeigclihaa.Pk (Kp)
open Go.Proofs.Ytlmjbmeigclihaa.Mi (st_eqlP st_neqP x_normS x_retS x_exitS MapI getI putI delI)
def fl2 (o : Int × Int) : List Value := [.int .i64 o.1, .int .i64 o.2]
def flT (L : LW) : List Value := L.flatMap fl2
theorem flT_ones (L : LW) : ∀ u ∈ flT L, u.oneCell' = true := fun u hu => by
  obtain ⟨o, _, h⟩ := List.mem_flatMap.1 hu
  simp only [fl2, List.mem_cons, List.not_mem_nil, or_false] at h
  rcases h with rfl | rfl <;> rfl
theorem dl_at : ∀ {L : LW} {s : Int} {i : Nat} {o : Int × Int}, L[i]? = some o → o.1 = s → (∀ j p, j < i → L[j]? = some p → p.1 ≠ s) → delI L s = L.take i ++ L.drop (i + 1) ∧ getI L s = some o.2
  | [], _, _, _, h, _, _ => by cases h
  | a :: L, s, 0, o, h, he, _ => by
    injection h with h
    unfold delI getI
    rw [if_pos (by rw [h]; exact he), if_pos (by rw [h]; exact he), h]
    exact ⟨rfl, rfl⟩
  | a :: L, s, i + 1, o, h, he, hn => by
    have ih := dl_at (L := L) (i := i) h he (fun j p hj hp => hn (j + 1) p (by omega) hp)
    have hne := hn 0 a (by omega) rfl
    unfold delI getI
    rw [if_neg hne, if_neg hne, ih.1, ih.2]
    exact ⟨rfl, rfl⟩
theorem dl_none {L : LW} {s : Int} (h : ∀ j p, j < L.length → L[j]? = some p → p.1 ≠ s) : delI L s = L ∧ getI L s = none := by
  have h' : ∀ p ∈ L, p.1 ≠ s := fun p hp => by
    obtain ⟨j, hj, e⟩ := List.getElem_of_mem hp
    exact h j p hj (by rw [List.getElem?_eq_getElem hj, e])
  exact ⟨Mi.delI_none h', Mi.getI_none.2 h'⟩
theorem cut2 (L : LW) (i : Nat) : (([] ++ (flT L).take (i * 2)) ++ (flT L).drop ((i + 1) * 2)) = flT (L.take i ++ L.drop (i + 1)) := by
  unfold flT
  rw [List.nil_append, Rv.flat_take (fl := fl2) (fun _ => rfl), Rv.flat_drop (fl := fl2) (fun _ => rfl), List.flatMap_append]
theorem drop_cap {A AD : Option Addr} {c lo k : Nat} (hc : A = none → c = 0) (h : (if c = lo then A else A.map (·.add k)) = AD) : AD = none → c - lo = 0 := fun e => by
  split at h
  · omega
  · cases A with
    | none => have := hc rfl; omega
    | some a => rw [← h] at e; cases e
theorem own_cap0 {w : World} {base e s n c : Nat} {A : Option Addr} {xs : List Value} (h : w.ownsRow base e s (.slice A n c) n xs) : A = none → c = 0 := fun e1 => by
  subst e1
  rcases h.2 with ⟨h2, _⟩ | ⟨g, cap, cur, h2, _⟩
  · injection h2
  · injection h2 with h3; cases h3
theorem R19_0_l : List.range (regOf Try.f19 0).size = [0] := by kernel_rfl
theorem R19_1_l : List.range (regOf Try.f19 1).size = [0] := by kernel_rfl
theorem R19_2_l : List.range (regOf Try.f19 2).size = [0, 1, 2, 3, 4, 5, 6] := by kernel_rfl
theorem R19_4_l : List.range (regOf Try.f19 4).size = [0, 1, 2, 3, 4, 5, 6, 7, 8, 9] := by kernel_rfl
theorem R19_5_l : List.range (regOf Try.f19 5).size = [0, 1, 2, 3, 4, 5, 6, 7, 8, 9, 10, 11, 12, 13, 14, 15, 16, 17, 18, 19] := by kernel_rfl
theorem R19_6_l : List.range (regOf Try.f19 6).size = [0] := by kernel_rfl
theorem R19_3_l : List.range (regOf Try.f19 3).size = [0, 1, 2] := by kernel_rfl
theorem R19_7_l : List.range (regOf Try.f19 7).size = [0] := by kernel_rfl
theorem body19 : Try.f19.body = some (.seq (.region 0 (regOf Try.f19 0) false) (.seq (.seq (.region 1 (regOf Try.f19 1) false) (.block 0 (.loop (.seq (.seq (.region 2 (regOf Try.f19 2) false) (.cond (Operand.tmp 12) (.skip) (.exit 0))) (.seq (.block 1 (.seq (.region 4 (regOf Try.f19 4) false) (.cond (Operand.tmp 24) (.seq (.region 5 (regOf Try.f19 5) true) (.seq (.region 6 (regOf Try.f19 6) false) (.ret))) (.skip)))) (.region 3 (regOf Try.f19 3) false)))))) (.seq (.region 7 (regOf Try.f19 7) false) (.ret)))) := by kernel_rfl
theorem p19_0_0 : pj (regOf Try.f19 0) 0 = some (some 4, .assign (.const (.bool false)), 4, none) := by kernel_rfl
theorem p19_1_0 : pj (regOf Try.f19 1) 0 = some (some 5, .assign (.const (.int .i64 0)), 3, none) := by kernel_rfl
theorem p19_2_0 : pj (regOf Try.f19 2) 0 = some (some 6, .move (.tmp 5), 3, none) := by kernel_rfl
theorem p19_2_1 : pj (regOf Try.f19 2) 1 = some (some 7, .move (.tmp 0), 47, none) := by kernel_rfl
theorem p19_2_2 : pj (regOf Try.f19 2) 2 = some (some 8, .nilCheck (.tmp 7), 0, none) := by kernel_rfl
theorem p19_2_3 : pj (regOf Try.f19 2) 3 = some (some 9, .fieldAddr 50 (.tmp 8) 1, 0, none) := by kernel_rfl
theorem tS48 : (Try.prog.info? 48).map (·.size) = some 1 := by kernel_rfl
theorem p19_2_4 : pj (regOf Try.f19 2) 4 = some (some 10, .load 48 (.tmp 9), 48, none) := by kernel_rfl
theorem tA48 : (Try.prog.underlying 48).map aggD = some false := by kernel_rfl
theorem p19_2_5 : pj (regOf Try.f19 2) 5 = some (some 11, .call { callee := .builtin .len, args := #[.tmp 10], argTypes := #[48] }, 3, none) := by kernel_rfl
theorem p19_2_6 : pj (regOf Try.f19 2) 6 = some (some 12, .binOp .lss 3 (.tmp 6) (.tmp 11) 3, 4, none) := by kernel_rfl
theorem p19_4_0 : pj (regOf Try.f19 4) 0 = some (some 15, .move (.tmp 0), 47, none) := by kernel_rfl
theorem p19_4_1 : pj (regOf Try.f19 4) 1 = some (some 16, .nilCheck (.tmp 15), 0, none) := by kernel_rfl
theorem p19_4_2 : pj (regOf Try.f19 4) 2 = some (some 17, .fieldAddr 50 (.tmp 16) 1, 0, none) := by kernel_rfl
theorem p19_4_3 : pj (regOf Try.f19 4) 3 = some (some 18, .load 48 (.tmp 17), 48, none) := by kernel_rfl
theorem p19_4_4 : pj (regOf Try.f19 4) 4 = some (some 19, .move (.tmp 5), 3, none) := by kernel_rfl
theorem p19_4_5 : pj (regOf Try.f19 4) 5 = some (some 20, .indexAddr 48 (.tmp 18) (.tmp 19), 0, none) := by kernel_rfl
theorem tS77 : (Try.prog.info? 77).map (·.size) = some 2 := by kernel_rfl
theorem p19_4_6 : pj (regOf Try.f19 4) 6 = some (some 21, .fieldAddr 77 (.tmp 20) 0, 0, none) := by kernel_rfl
theorem tS3 : (Try.prog.info? 3).map (·.size) = some 1 := by kernel_rfl
theorem p19_4_7 : pj (regOf Try.f19 4) 7 = some (some 22, .load 3 (.tmp 21), 3, none) := by kernel_rfl
theorem tA3 : (Try.prog.underlying 3).map aggD = some false := by kernel_rfl
theorem p19_4_8 : pj (regOf Try.f19 4) 8 = some (some 23, .move (.tmp 1), 3, none) := by kernel_rfl
theorem p19_4_9 : pj (regOf Try.f19 4) 9 = some (some 24, .binOp .eql 3 (.tmp 22) (.tmp 23) 3, 4, none) := by kernel_rfl
theorem ns19_5 : Region.noSelect (regOf Try.f19 5) = true := by kernel_rfl
theorem p19_5_0 : pj (regOf Try.f19 5) 0 = some (some 25, .move (.tmp 0), 47, none) := by kernel_rfl
theorem p19_5_2 : pj (regOf Try.f19 5) 2 = some (some 27, .move (.tmp 0), 47, none) := by kernel_rfl
theorem p19_5_3 : pj (regOf Try.f19 5) 3 = some (some 28, .nilCheck (.tmp 27), 0, none) := by kernel_rfl
theorem p19_5_4 : pj (regOf Try.f19 5) 4 = some (some 29, .fieldAddr 50 (.tmp 28) 1, 0, none) := by kernel_rfl
theorem p19_5_6 : pj (regOf Try.f19 5) 6 = some (some 31, .move (.tmp 5), 3, none) := by kernel_rfl
theorem p19_5_9 : pj (regOf Try.f19 5) 9 = some (some 34, .move (.tmp 0), 47, none) := by kernel_rfl
theorem p19_5_10 : pj (regOf Try.f19 5) 10 = some (some 35, .nilCheck (.tmp 34), 0, none) := by kernel_rfl
theorem p19_5_11 : pj (regOf Try.f19 5) 11 = some (some 36, .fieldAddr 50 (.tmp 35) 1, 0, none) := by kernel_rfl
theorem p19_5_13 : pj (regOf Try.f19 5) 13 = some (some 38, .move (.tmp 5), 3, none) := by kernel_rfl
theorem p19_5_14 : pj (regOf Try.f19 5) 14 = some (some 39, .binOp .add 3 (.tmp 38) (.const (.int .i64 1)) 3, 3, none) := by kernel_rfl
theorem p19_5_1 : pj (regOf Try.f19 5) 1 = some (some 26, .buildSlice 48 0 #[], 48, none) := by kernel_rfl
theorem p19_5_5 : pj (regOf Try.f19 5) 5 = some (some 30, .load 48 (.tmp 29), 48, none) := by kernel_rfl
theorem p19_5_7 : pj (regOf Try.f19 5) 7 = some (some 32, .slice 48 (.tmp 30) none (some (.tmp 31)) none, 48, none) := by kernel_rfl
theorem p19_5_12 : pj (regOf Try.f19 5) 12 = some (some 37, .load 48 (.tmp 36), 48, none) := by kernel_rfl
theorem p19_5_15 : pj (regOf Try.f19 5) 15 = some (some 40, .slice 48 (.tmp 37) (some (.tmp 39)) none none, 48, none) := by kernel_rfl
theorem p19_5_8 : pj (regOf Try.f19 5) 8 = some (some 33, .call { callee := .builtin .append, args := #[.tmp 26, .tmp 32], argTypes := #[48, 48] }, 48, none) := by kernel_rfl
theorem eD77 : elemD Try.prog 77 = some (2, 2, 16) := by kernel_rfl
theorem p19_5_16 : pj (regOf Try.f19 5) 16 = some (some 41, .call { callee := .builtin .append, args := #[.tmp 33, .tmp 40], argTypes := #[48, 48] }, 48, none) := by kernel_rfl
theorem p19_5_17 : pj (regOf Try.f19 5) 17 = some (some 42, .nilCheck (.tmp 25), 0, none) := by kernel_rfl
theorem p19_5_18 : pj (regOf Try.f19 5) 18 = some (some 43, .fieldAddr 50 (.tmp 42) 1, 0, none) := by kernel_rfl
theorem p19_5_19 : pj (regOf Try.f19 5) 19 = some (none, .store 48 (.tmp 43) (.tmp 41), 0, none) := by kernel_rfl
theorem p19_6_0 : pj (regOf Try.f19 6) 0 = some (some 4, .assign (.const (.bool true)), 4, none) := by kernel_rfl
theorem p19_3_0 : pj (regOf Try.f19 3) 0 = some (some 13, .move (.tmp 5), 3, none) := by kernel_rfl
theorem p19_3_1 : pj (regOf Try.f19 3) 1 = some (some 14, .binOp .add 3 (.tmp 13) (.const (.int .i64 1)) 3, 3, none) := by kernel_rfl
theorem p19_3_2 : pj (regOf Try.f19 3) 2 = some (some 5, .assign (.tmp 14), 3, none) := by kernel_rfl
theorem p19_7_0 : pj (regOf Try.f19 7) 0 = some (some 4, .assign (.const (.bool false)), 4, none) := by kernel_rfl
set_option maxHeartbeats 4000000 in
theorem rcan_any (gd : Nat) (A : Option Addr) (c : Nat) (L : LW) (now : Int) (s : Int) (w : World) (hd : w.heap[gd]? = some (.cells #[.int .i64 now, .slice A L.length c] 50 (0, 0))) (hR : Rv.RdV w A L.length 2 (flT L)) (hcA : L.length ≤ c ∧ (A = none → c = 0)) (hll : L.length ≤ 1000) (hnd : ¬ OB A gd) : Calls Try.prog 19 #[.pointer (some ⟨gd, 0, none⟩), .int .i64 s] w fun e w' => ∃ A' c', e = .returned (.bool (getI L s).isSome) ∧ w'.heap[gd]? = some (.cells #[.int .i64 (now), .slice A' (delI L s).length c'] 50 (0, 0)) ∧ Rv.RdV w' A' (delI L s).length 2 (flT (delI L s)) ∧ ((delI L s).length ≤ c' ∧ (A' = none → c' = 0)) ∧ (∀ k, OB A' k → OB A k ∨ w.heap.size ≤ k) ∧ Kp w w' (fun k => k = gd) := by
  have K_0 := Kp.refl w (fun k => k = gd)
  have B_gd := hd
  have O_L := hR
  have Nb_L_gd := hnd
  refine enter (args := [Value.pointer (some ⟨gd, 0, none⟩), Value.int .i64 s]) (n := 44) Try.func19 body19 rfl rfl rfl ?_
  intro a hE
  refine c_reg R19_0_l ?_
  refine q0 p19_0_0 hE (st_assign rfl) ?_
  clear hE a; intro a hE
  refine p_nil ?_
  refine x_norm ?_
  refine wp_seq ?_
  refine c_reg R19_1_l ?_
  refine q0 p19_1_0 hE (st_assign rfl) ?_
  clear hE a; intro a hE
  refine p_nil ?_
  refine x_norm ?_
  refine wp_block ?_
  refine c_loop (α := Nat) (fun i a W => En 44 a [(0, Value.pointer (some ⟨gd, 0, none⟩)), (1, Value.int .i64 s), (5, Value.int .i64 (i : Int))] ∧ i ≤ L.length ∧ (∀ j p, j < i → L[j]? = some p → p.1 ≠ s) ∧ W.heap[gd]? = some (.cells #[Value.int .i64 now, Value.slice A L.length c] 50 (0, 0)) ∧ Rv.RdV W A L.length 2 (flT L) ∧ ¬ OB A gd ∧ Kp w W (fun k => k = gd)) (fun i => L.length - i) (0) ?_ ?_
  ·
    exact ⟨En.sub hE ⟨rfl, rfl, rfl, trivial⟩, Nat.zero_le _, (fun j p h => absurd h (Nat.not_lt_zero _)), B_gd, O_L, Nb_L_gd, K_0⟩
  ·
    clear hE a
    rintro i a w1 ⟨hE, hi9, hno, B_gd, O_L, Nb_L_gd, K_0⟩
    refine wp_seq ?_
    rcases Decidable.em ((i : Int) < (L.length : Int)) with hK1 | hK1
    ·
      refine c_reg R19_2_l ?_
      refine q0 p19_2_0 hE (st_move rfl) ?_
      clear hE a; intro a hE
      refine q0 p19_2_1 hE (st_move rfl) ?_
      clear hE a; intro a hE
      refine q0 p19_2_2 hE (st_nil rfl) ?_
      clear hE a; intro a hE
      refine q0 p19_2_3 hE (st_fieldAddr Try.underlying50 rfl tS48 rfl rfl) ?_
      clear hE a; intro a hE
      refine q0 p19_2_4 hE (st_load1 tA48 rfl ((blk_cell B_gd 1).trans rfl)) ?_
      clear hE a; intro a hE
      refine q0 p19_2_5 hE (st_len Try.underlying48 rfl) ?_
      clear hE a; intro a hE
      refine q0 p19_2_6 hE (st_lss (b := true) rfl rfl (decide_eq_true hK1)) ?_
      clear hE a; intro a hE
      refine p_nil ?_
      refine x_norm ?_
      refine c_cond (t := true) hE rfl ?_
      refine wp_skip ?_
      refine x_norm ?_
      refine wp_seq ?_
      refine wp_block ?_
      obtain ⟨o, hx⟩ : ∃ o, L[i]? = some o := ⟨_, List.getElem?_eq_getElem (by omega)⟩
      have hAeo := (Rv.rdv_elem (fl := fl2) O_L (by decide) (fun _ => rfl) hx).1
      rcases Decidable.em (o.1 = s) with hEQ | hEQ
      ·
        refine c_reg R19_4_l ?_
        refine q0 p19_4_0 hE (st_move rfl) ?_
        clear hE a; intro a hE
        refine q0 p19_4_1 hE (st_nil rfl) ?_
        clear hE a; intro a hE
        refine q0 p19_4_2 hE (st_fieldAddr Try.underlying50 rfl tS48 rfl rfl) ?_
        clear hE a; intro a hE
        refine q0 p19_4_3 hE (st_load1 tA48 rfl ((blk_cell B_gd 1).trans rfl)) ?_
        clear hE a; intro a hE
        refine q0 p19_4_4 hE (st_move rfl) ?_
        clear hE a; intro a hE
        refine q0 p19_4_5 hE (st_indexAddrR (i := i) (s := 2) Try.underlying48 tS77 hAeo rfl rfl (by omega)) ?_
        clear hE a; intro a hE
        refine q0 p19_4_6 hE (st_fieldAddrR (off := i * 2) (f0 := 0) (o' := i * 2) Try.underlying77 rfl tS3 rfl (by omega) rfl) ?_
        clear hE a; intro a hE
        refine q0 p19_4_7 hE (st_loadR1 (off := i * 2) (j := 0) tA3 (Rv.rdv_elem (fl := fl2) O_L (by decide) (fun _ => rfl) hx).2 rfl (by omega) rfl) ?_
        clear hE a; intro a hE
        refine q0 p19_4_8 hE (st_move rfl) ?_
        clear hE a; intro a hE
        refine q0 p19_4_9 hE (st_eql (b := true) rfl rfl (decide_eq_true hEQ)) ?_
        clear hE a; intro a hE
        refine p_nil ?_
        refine x_norm ?_
        refine c_cond (t := true) hE rfl ?_
        obtain ⟨AD, hAD⟩ : ∃ z, (if c = (i + 1) then A else A.map (·.add ((i + 1) * 2))) = z := ⟨_, rfl⟩
        have hiL : i < L.length := by omega
        refine c_drawMS (S := fun W => True) rfl rfl (listed := #[false, false, false, false, false, false, false, false, false, false, false, false, false, false, false, false, false, false, false, false]) rfl (by repeat' first | exact pan_body | refine pan_then ?_ | refine pan_block ?_) (fun QQ hQ hend => ?_)
        have dr5_11 : ∀ (A5_16 : Option Addr) (A5_8 : Option Addr) (c5_16 : Nat) (c5_8 : Nat) (g5_1 : Nat) (W : World) (a : Act), En 44 a [(0, Value.pointer (some ⟨gd, 0, none⟩)), (1, Value.int .i64 s), (5, Value.int .i64 (i : Int)), (12, Value.bool true), (24, Value.bool true), (25, Value.pointer (some ⟨gd, 0, none⟩)), (26, Value.slice (some ⟨g5_1, 0, none⟩) 0 0), (27, Value.pointer (some ⟨gd, 0, none⟩)), (28, Value.pointer (some ⟨gd, 0, none⟩)), (29, Value.pointer (some ⟨gd, 1, none⟩)), (30, Value.slice A L.length c), (31, Value.int .i64 (i : Int)), (32, Value.slice A i c), (33, Value.slice A5_8 (0 + i) c5_8), (34, Value.pointer (some ⟨gd, 0, none⟩)), (35, Value.pointer (some ⟨gd, 0, none⟩)), (36, Value.pointer (some ⟨gd, 1, none⟩)), (37, Value.slice A L.length c), (38, Value.int .i64 (i : Int)), (39, Value.int .i64 ((i : Int) + 1)), (40, Value.slice AD (L.length - (i + 1)) (c - (i + 1))), (41, Value.slice A5_16 ((0 + i) + (L.length - (i + 1))) c5_16), (42, Value.pointer (some ⟨gd, 0, none⟩)), (43, Value.pointer (some ⟨gd, 1, none⟩))] → W.heap[gd]? = some (.cells #[Value.int .i64 now, Value.slice A5_16 ((0 + i) + (L.length - (i + 1))) c5_16] 50 (0, 0)) → (∀ k, OB A k → ¬ OB A5_16 k) → ¬ OB A5_16 gd → (∀ k, OB A5_16 k → (fun k => k = gd) k ∨ w.heap.size ≤ k) → (∀ k, OB A5_16 k → ¬ OB A k) → Rv.RdV W A L.length 2 (flT L) → W.ownsRow w.heap.size 77 2 (.slice A5_16 ((0 + i) + (L.length - (i + 1))) c5_16) ((0 + i) + (L.length - (i + 1))) (([] ++ ((flT L).take (i * 2))) ++ ((flT L).drop ((i + 1) * 2))) → Kp w W (fun k => k = gd) → wpAnyH Try.prog .any (regOf Try.f19 5) QQ (fun W => True) 0 #[true, true, true, true, true, true, true, true, true, true, true, true, true, true, true, true, true, true, true, true] a W := by
          intro A5_16 A5_8 c5_16 c5_8 g5_1 w15 a hE B_gd NN_L_q5_8 Nb_q5_8_gd Z_0_q5_8 NN_q5_8_L O_L O_q5_8 K_0
          refine d_end (by kernel_rfl) (hend _ _ ?_)
          refine c_reg R19_6_l ?_
          refine q0 p19_6_0 hE (st_assign rfl) ?_
          clear hE a; intro a hE
          refine p_nil ?_
          refine x_norm ?_
          refine wp_ret ?_
          refine x_retB ?_
          refine x_ret ?_
          refine x_ret ?_
          refine x_retB ?_
          refine x_ret ?_
          refine ret_one (v := Value.bool true) rfl hE (.tmp rfl .nil) ?_
          have hra := dl_at hx hEQ hno
          rw [cut2, ← hra.1] at O_q5_8
          have hln : ((0 + i) + (L.length - (i + 1))) = (delI L s).length := by rw [hra.1, List.length_append, List.length_take, List.length_drop]; omega
          rw [hln] at O_q5_8 B_gd
          exact ⟨A5_16, c5_16, by rw [hra.2]; rfl, B_gd, Rv.own_rdv O_q5_8 (flT_ones _), ⟨(own_caps O_q5_8).1, own_cap0 O_q5_8⟩, fun k h => .inr (own_ob O_q5_8 h).1, K_0⟩
        have dr5_10 : ∀ (A5_16 : Option Addr) (A5_8 : Option Addr) (c5_16 : Nat) (c5_8 : Nat) (g5_1 : Nat) (W : World) (a : Act), En 44 a [(0, Value.pointer (some ⟨gd, 0, none⟩)), (1, Value.int .i64 s), (5, Value.int .i64 (i : Int)), (12, Value.bool true), (24, Value.bool true), (25, Value.pointer (some ⟨gd, 0, none⟩)), (26, Value.slice (some ⟨g5_1, 0, none⟩) 0 0), (27, Value.pointer (some ⟨gd, 0, none⟩)), (28, Value.pointer (some ⟨gd, 0, none⟩)), (29, Value.pointer (some ⟨gd, 1, none⟩)), (30, Value.slice A L.length c), (31, Value.int .i64 (i : Int)), (32, Value.slice A i c), (33, Value.slice A5_8 (0 + i) c5_8), (34, Value.pointer (some ⟨gd, 0, none⟩)), (35, Value.pointer (some ⟨gd, 0, none⟩)), (36, Value.pointer (some ⟨gd, 1, none⟩)), (37, Value.slice A L.length c), (38, Value.int .i64 (i : Int)), (39, Value.int .i64 ((i : Int) + 1)), (40, Value.slice AD (L.length - (i + 1)) (c - (i + 1))), (41, Value.slice A5_16 ((0 + i) + (L.length - (i + 1))) c5_16), (42, Value.pointer (some ⟨gd, 0, none⟩)), (43, Value.pointer (some ⟨gd, 1, none⟩))] → W.heap[gd]? = some (.cells #[Value.int .i64 now, Value.slice A L.length c] 50 (0, 0)) → (∀ k, OB A k → ¬ OB A5_16 k) → ¬ OB A5_16 gd → (∀ k, OB A5_16 k → (fun k => k = gd) k ∨ w.heap.size ≤ k) → (∀ k, OB A5_16 k → ¬ OB A k) → Rv.RdV W A L.length 2 (flT L) → W.ownsRow w.heap.size 77 2 (.slice A5_16 ((0 + i) + (L.length - (i + 1))) c5_16) ((0 + i) + (L.length - (i + 1))) (([] ++ ((flT L).take (i * 2))) ++ ((flT L).drop ((i + 1) * 2))) → Kp w W (fun k => k = gd) → wpAnyH Try.prog .any (regOf Try.f19 5) QQ (fun W => True) 1 #[true, true, true, true, true, true, true, true, true, true, true, true, true, true, true, true, true, true, true, false] a W := by
          intro A5_16 A5_8 c5_16 c5_8 g5_1 w16 a hE B_gd NN_L_q5_8 Nb_q5_8_gd Z_0_q5_8 NN_q5_8_L O_L O_q5_8 K_0
          refine d_all (rs := [19]) (by kernel_rfl) rfl ?_
          refine all_cons (d_lit (listed' := #[true, true, true, true, true, true, true, true, true, true, true, true, true, true, true, true, true, true, true, true]) rfl ?_) ?_
          ·
            refine (s_store (off := 1) (k := 1) (cs' := #[Value.int .i64 now, Value.slice A5_16 ((0 + i) + (L.length - (i + 1))) c5_16]) p19_5_19 hE wn_none tS48 rfl rfl rfl rfl B_gd (Nat.le_of_ble_eq_true rfl) rfl ?_)
            intro w17 B_gd' hk
            replace O_L := Rv.rdv_keep O_L hk (fun k hk2 h2 => Nb_L_gd (by rw [show k = gd from h2] at hk2; exact hk2))
            replace O_q5_8 := own_keep O_q5_8 hk (fun k hk2 h2 => Nb_q5_8_gd (by rw [show k = gd from h2] at hk2; exact hk2))
            replace K_0 := K_0.then_ hk (fun k h => by rw [show k = gd from h]; exact Or.inl rfl)
            replace B_gd := B_gd'
            clear hk
            refine ⟨trivial, ?_⟩
            exact dr5_11 A5_16 A5_8 c5_16 c5_8 g5_1 _ a (En.sub hE ⟨rfl, rfl, rfl, rfl, rfl, rfl, rfl, rfl, rfl, rfl, rfl, rfl, rfl, rfl, rfl, rfl, rfl, rfl, rfl, rfl, rfl, rfl, rfl, rfl, trivial⟩) B_gd NN_L_q5_8 Nb_q5_8_gd Z_0_q5_8 NN_q5_8_L O_L O_q5_8 K_0
          exact all_nil
        have dr5_9 : ∀ (A5_8 : Option Addr) (c5_8 : Nat) (g5_1 : Nat) (W : World) (a : Act), En 44 a [(0, Value.pointer (some ⟨gd, 0, none⟩)), (1, Value.int .i64 s), (5, Value.int .i64 (i : Int)), (12, Value.bool true), (24, Value.bool true), (25, Value.pointer (some ⟨gd, 0, none⟩)), (26, Value.slice (some ⟨g5_1, 0, none⟩) 0 0), (27, Value.pointer (some ⟨gd, 0, none⟩)), (28, Value.pointer (some ⟨gd, 0, none⟩)), (29, Value.pointer (some ⟨gd, 1, none⟩)), (30, Value.slice A L.length c), (31, Value.int .i64 (i : Int)), (32, Value.slice A i c), (33, Value.slice A5_8 (0 + i) c5_8), (34, Value.pointer (some ⟨gd, 0, none⟩)), (35, Value.pointer (some ⟨gd, 0, none⟩)), (36, Value.pointer (some ⟨gd, 1, none⟩)), (37, Value.slice A L.length c), (38, Value.int .i64 (i : Int)), (39, Value.int .i64 ((i : Int) + 1)), (40, Value.slice AD (L.length - (i + 1)) (c - (i + 1)))] → W.heap[gd]? = some (.cells #[Value.int .i64 now, Value.slice A L.length c] 50 (0, 0)) → (∀ k, OB A k → ¬ OB A5_8 k) → ¬ OB A5_8 gd → (∀ k, OB A5_8 k → (fun k => k = gd) k ∨ w.heap.size ≤ k) → (∀ k, OB A5_8 k → ¬ OB A k) → Rv.RdV W A L.length 2 (flT L) → W.ownsRow w.heap.size 77 2 (.slice A5_8 (0 + i) c5_8) (0 + i) ([] ++ ((flT L).take (i * 2))) → Kp w W (fun k => k = gd) → wpAnyH Try.prog .any (regOf Try.f19 5) QQ (fun W => True) 4 #[true, true, true, true, true, true, true, true, true, true, true, true, true, true, true, true, false, false, false, false] a W := by
          intro A5_8 c5_8 g5_1 w18 a hE B_gd NN_L_q5_8 Nb_q5_8_gd Z_0_q5_8 NN_q5_8_L O_L O_q5_8 K_0
          refine d_all (rs := [16]) (by kernel_rfl) rfl ?_
          refine all_cons (d_lit (listed' := #[true, true, true, true, true, true, true, true, true, true, true, true, true, true, true, true, true, false, false, false]) rfl ?_) ?_
          ·
            refine (Rv.s_appendV (s := 2) (xs := ([] ++ ((flT L).take (i * 2)))) p19_5_16 hE wn_none rfl Try.underlying48 eD77 (by decide) rfl O_q5_8 rfl (Rv.rdv_drop O_L (by omega) hcA.1 rfl hAD) (by omega) (by omega) K_0.kept.1 ?_ (drop_cap hcA.2 hAD))
            clear hE a; intro A5_16 c5_16 w19 O_q5_8' hk hat a hE
            have Nb_q5_8_gd' := grow_n Nb_q5_8_gd (blk_lt B_gd) hat
            have NN_L_q5_8' : ∀ k, OB A k → ¬ OB A5_16 k := fun k h h2 => (hat k h2).elim (NN_L_q5_8 k h) (fun h3 => by have := (Rv.rdv_ob O_L h).2; omega)
            have Z_0_q5_8' := grow_z Z_0_q5_8 K_0.kept.1 hat
            replace B_gd := kp_blk B_gd hk Nb_q5_8_gd
            replace O_L := Rv.rdv_keep O_L hk NN_L_q5_8
            replace K_0 := K_0.then_ hk Z_0_q5_8
            replace Nb_q5_8_gd := Nb_q5_8_gd'
            replace NN_L_q5_8 := NN_L_q5_8'
            replace NN_q5_8_L : ∀ k, OB A5_16 k → ¬ OB A k := fun k h h2 => NN_L_q5_8 k h2 h
            replace Z_0_q5_8 := Z_0_q5_8'
            replace O_q5_8 := O_q5_8'
            try clear O_q5_8'
            clear hk hat
            refine ⟨trivial, ?_⟩
            refine Rv.dq (listed' := #[true, true, true, true, true, true, true, true, true, true, true, true, true, true, true, true, true, true, false, false]) (v := Value.pointer (some ⟨gd, 0, none⟩)) p19_5_17 ns19_5 hE wn_none trivial (fun W hS => (st_nil rfl)) ?_ (fun c a w h => hQ c a _ _ w h); clear hE a; intro a hE
            refine Rv.dq (listed' := #[true, true, true, true, true, true, true, true, true, true, true, true, true, true, true, true, true, true, true, false]) (v := Value.pointer (some ⟨gd, 1, none⟩)) p19_5_18 ns19_5 hE wn_none trivial (fun W hS => (st_fieldAddr Try.underlying50 rfl tS48 rfl rfl)) ?_ (fun c a w h => hQ c a _ _ w h); clear hE a; intro a hE
            exact dr5_10 A5_16 A5_8 c5_16 c5_8 g5_1 _ a (En.sub hE ⟨rfl, rfl, rfl, rfl, rfl, rfl, rfl, rfl, rfl, rfl, rfl, rfl, rfl, rfl, rfl, rfl, rfl, rfl, rfl, rfl, rfl, rfl, rfl, rfl, trivial⟩) B_gd NN_L_q5_8 Nb_q5_8_gd Z_0_q5_8 NN_q5_8_L O_L O_q5_8 K_0
          exact all_nil
        have dr5_8 : ∀ (g5_1 : Nat) (W : World) (a : Act), En 44 a [(0, Value.pointer (some ⟨gd, 0, none⟩)), (1, Value.int .i64 s), (5, Value.int .i64 (i : Int)), (12, Value.bool true), (24, Value.bool true), (25, Value.pointer (some ⟨gd, 0, none⟩)), (26, Value.slice (some ⟨g5_1, 0, none⟩) 0 0), (27, Value.pointer (some ⟨gd, 0, none⟩)), (28, Value.pointer (some ⟨gd, 0, none⟩)), (29, Value.pointer (some ⟨gd, 1, none⟩)), (30, Value.slice A L.length c), (31, Value.int .i64 (i : Int)), (32, Value.slice A i c), (34, Value.pointer (some ⟨gd, 0, none⟩)), (35, Value.pointer (some ⟨gd, 0, none⟩)), (36, Value.pointer (some ⟨gd, 1, none⟩)), (37, Value.slice A L.length c), (38, Value.int .i64 (i : Int)), (39, Value.int .i64 ((i : Int) + 1)), (40, Value.slice AD (L.length - (i + 1)) (c - (i + 1)))] → W.heap[gd]? = some (.cells #[Value.int .i64 now, Value.slice A L.length c] 50 (0, 0)) → W.heap[g5_1]? = some (.cells #[] 77 (0, 0)) → g5_1 ≠ gd → w.heap.size ≤ g5_1 → ¬ OB A g5_1 → Rv.RdV W A L.length 2 (flT L) → Kp w W (fun k => k = gd) → wpAnyH Try.prog .any (regOf Try.f19 5) QQ (fun W => True) 5 #[true, true, true, true, true, true, true, true, false, true, true, true, true, true, true, true, false, false, false, false] a W := by
          intro g5_1 w20 a hE B_gd B_g5_1 n_g5_1_gd z_0_g5_1 Nb_L_g5_1 O_L K_0
          refine d_all (rs := [8]) (by kernel_rfl) rfl ?_
          refine all_cons (d_lit (listed' := #[true, true, true, true, true, true, true, true, true, true, true, true, true, true, true, true, false, false, false, false]) rfl ?_) ?_
          ·
            have O_q5_8 := own_blk0 (s := 2) B_g5_1 (show w.heap.size ≤ g5_1 from z_0_g5_1)
            have Nb_q5_8_gd : ¬ OB (some ⟨g5_1, 0, none⟩) gd := fun h => by have h := ob_blk.1 h; exact n_g5_1_gd h
            have Z_0_q5_8 : ∀ k, OB (some ⟨g5_1, 0, none⟩) k → (fun k => k = gd) k ∨ w.heap.size ≤ k := fun k h => by have h := ob_blk.1 h; subst h; exact Or.inr z_0_g5_1
            have NN_q5_8_L : ∀ k, OB (some ⟨g5_1, 0, none⟩) k → ¬ OB A k := fun k h h2 => by have h := ob_blk.1 h; subst h; exact Nb_L_g5_1 h2
            have NN_L_q5_8 : ∀ k, OB A k → ¬ OB (some ⟨g5_1, 0, none⟩) k := fun k h h2 => NN_q5_8_L k h2 h
            refine (Rv.s_appendV (s := 2) (xs := []) p19_5_8 hE wn_none rfl Try.underlying48 eD77 (by decide) rfl O_q5_8 rfl (Rv.rdv_take O_L (by omega)) (by omega) (by omega) K_0.kept.1 ?_ hcA.2)
            clear hE a; intro A5_8 c5_8 w21 O_q5_8' hk hat a hE
            have Nb_q5_8_gd' := grow_n Nb_q5_8_gd (blk_lt B_gd) hat
            have NN_L_q5_8' : ∀ k, OB A k → ¬ OB A5_8 k := fun k h h2 => (hat k h2).elim (NN_L_q5_8 k h) (fun h3 => by have := (Rv.rdv_ob O_L h).2; omega)
            have Z_0_q5_8' := grow_z Z_0_q5_8 K_0.kept.1 hat
            replace B_gd := kp_blk B_gd hk Nb_q5_8_gd
            replace O_L := Rv.rdv_keep O_L hk NN_L_q5_8
            replace K_0 := K_0.then_ hk Z_0_q5_8
            replace Nb_q5_8_gd := Nb_q5_8_gd'
            replace NN_L_q5_8 := NN_L_q5_8'
            replace NN_q5_8_L : ∀ k, OB A5_8 k → ¬ OB A k := fun k h h2 => NN_L_q5_8 k h2 h
            replace Z_0_q5_8 := Z_0_q5_8'
            replace O_q5_8 := O_q5_8'
            try clear O_q5_8'
            clear hk hat
            refine ⟨trivial, ?_⟩
            exact dr5_9 A5_8 c5_8 g5_1 _ a (En.sub hE ⟨rfl, rfl, rfl, rfl, rfl, rfl, rfl, rfl, rfl, rfl, rfl, rfl, rfl, rfl, rfl, rfl, rfl, rfl, rfl, rfl, rfl, trivial⟩) B_gd NN_L_q5_8 Nb_q5_8_gd Z_0_q5_8 NN_q5_8_L O_L O_q5_8 K_0
          exact all_nil
        have dr5_7 : ∀ (A5_8 : Option Addr) (c5_8 : Nat) (g5_1 : Nat) (W : World) (a : Act), En 44 a [(0, Value.pointer (some ⟨gd, 0, none⟩)), (1, Value.int .i64 s), (5, Value.int .i64 (i : Int)), (12, Value.bool true), (24, Value.bool true), (25, Value.pointer (some ⟨gd, 0, none⟩)), (26, Value.slice (some ⟨g5_1, 0, none⟩) 0 0), (27, Value.pointer (some ⟨gd, 0, none⟩)), (28, Value.pointer (some ⟨gd, 0, none⟩)), (29, Value.pointer (some ⟨gd, 1, none⟩)), (30, Value.slice A L.length c), (31, Value.int .i64 (i : Int)), (32, Value.slice A i c), (33, Value.slice A5_8 (0 + i) c5_8), (34, Value.pointer (some ⟨gd, 0, none⟩)), (35, Value.pointer (some ⟨gd, 0, none⟩)), (36, Value.pointer (some ⟨gd, 1, none⟩)), (38, Value.int .i64 (i : Int)), (39, Value.int .i64 ((i : Int) + 1))] → W.heap[gd]? = some (.cells #[Value.int .i64 now, Value.slice A L.length c] 50 (0, 0)) → (∀ k, OB A k → ¬ OB A5_8 k) → ¬ OB A5_8 gd → (∀ k, OB A5_8 k → (fun k => k = gd) k ∨ w.heap.size ≤ k) → (∀ k, OB A5_8 k → ¬ OB A k) → Rv.RdV W A L.length 2 (flT L) → W.ownsRow w.heap.size 77 2 (.slice A5_8 (0 + i) c5_8) (0 + i) ([] ++ ((flT L).take (i * 2))) → Kp w W (fun k => k = gd) → wpAnyH Try.prog .any (regOf Try.f19 5) QQ (fun W => True) 6 #[true, true, true, true, true, true, true, true, true, true, true, true, false, true, true, false, false, false, false, false] a W := by
          intro A5_8 c5_8 g5_1 w22 a hE B_gd NN_L_q5_8 Nb_q5_8_gd Z_0_q5_8 NN_q5_8_L O_L O_q5_8 K_0
          refine d_all (rs := [12]) (by kernel_rfl) rfl ?_
          refine all_cons (d_lit (listed' := #[true, true, true, true, true, true, true, true, true, true, true, true, true, true, true, false, false, false, false, false]) rfl ?_) ?_
          ·
            refine (s_still p19_5_12 hE wn_none rfl (st_load1 tA48 rfl ((blk_cell B_gd 1).trans rfl)) ?_)
            clear hE a; intro a hE
            refine ⟨trivial, ?_⟩
            refine Rv.dq (listed' := #[true, true, true, true, true, true, true, true, true, true, true, true, true, true, true, true, false, false, false, false]) (v := Value.slice AD (L.length - (i + 1)) (c - (i + 1))) p19_5_15 ns19_5 hE wn_none trivial (fun W hS => (st_sliceL (lo := i + 1) (A' := AD) Try.underlying48 tS77 rfl rfl (by omega) rfl rfl hAD)) ?_ (fun c a w h => hQ c a _ _ w h); clear hE a; intro a hE
            exact dr5_9 A5_8 c5_8 g5_1 _ a (En.sub hE ⟨rfl, rfl, rfl, rfl, rfl, rfl, rfl, rfl, rfl, rfl, rfl, rfl, rfl, rfl, rfl, rfl, rfl, rfl, rfl, rfl, rfl, trivial⟩) B_gd NN_L_q5_8 Nb_q5_8_gd Z_0_q5_8 NN_q5_8_L O_L O_q5_8 K_0
          exact all_nil
        have dr5_6 : ∀ (W : World) (a : Act), En 44 a [(0, Value.pointer (some ⟨gd, 0, none⟩)), (1, Value.int .i64 s), (5, Value.int .i64 (i : Int)), (12, Value.bool true), (24, Value.bool true), (25, Value.pointer (some ⟨gd, 0, none⟩)), (27, Value.pointer (some ⟨gd, 0, none⟩)), (28, Value.pointer (some ⟨gd, 0, none⟩)), (29, Value.pointer (some ⟨gd, 1, none⟩)), (30, Value.slice A L.length c), (31, Value.int .i64 (i : Int)), (32, Value.slice A i c), (34, Value.pointer (some ⟨gd, 0, none⟩)), (35, Value.pointer (some ⟨gd, 0, none⟩)), (36, Value.pointer (some ⟨gd, 1, none⟩)), (37, Value.slice A L.length c), (38, Value.int .i64 (i : Int)), (39, Value.int .i64 ((i : Int) + 1)), (40, Value.slice AD (L.length - (i + 1)) (c - (i + 1)))] → W.heap[gd]? = some (.cells #[Value.int .i64 now, Value.slice A L.length c] 50 (0, 0)) → Rv.RdV W A L.length 2 (flT L) → Kp w W (fun k => k = gd) → wpAnyH Try.prog .any (regOf Try.f19 5) QQ (fun W => True) 6 #[true, false, true, true, true, true, true, true, false, true, true, true, true, true, true, true, false, false, false, false] a W := by
          intro w23 a hE B_gd O_L K_0
          refine d_all (rs := [1]) (by kernel_rfl) rfl ?_
          refine all_cons (d_lit (listed' := #[true, true, true, true, true, true, true, true, false, true, true, true, true, true, true, true, false, false, false, false]) rfl ?_) ?_
          ·
            refine (s_row (xs := []) (vs := []) (cs := #[]) p19_5_1 hE wn_none rfl Try.underlying48 rfl (by kernel_rfl) ?_)
            clear hE a; intro g5_1 w24 z25 B_g5_1 hk a hE
            have n_gd_g5_1 : gd ≠ g5_1 := ne_new B_gd z25
            have z_0_g5_1 := Nat.le_trans K_0.kept.1 z25
            have Nb_L_g5_1 : ¬ OB A g5_1 := fun h => by have := (Rv.rdv_ob O_L h).2; omega
            replace B_gd := kp_blk B_gd hk (fun h => h)
            replace O_L := Rv.rdv_keep O_L hk (fun _ _ h => h)
            replace K_0 := K_0.then_ hk (fun _ h => h.elim)
            clear hk
            refine ⟨trivial, ?_⟩
            have n_g5_1_gd := Ne.symm n_gd_g5_1
            exact dr5_8 g5_1 _ a (En.sub hE ⟨rfl, rfl, rfl, rfl, rfl, rfl, rfl, rfl, rfl, rfl, rfl, rfl, rfl, rfl, rfl, rfl, rfl, rfl, rfl, rfl, trivial⟩) B_gd B_g5_1 n_g5_1_gd z_0_g5_1 Nb_L_g5_1 O_L K_0
          exact all_nil
        have dr5_5 : ∀ (g5_1 : Nat) (W : World) (a : Act), En 44 a [(0, Value.pointer (some ⟨gd, 0, none⟩)), (1, Value.int .i64 s), (5, Value.int .i64 (i : Int)), (12, Value.bool true), (24, Value.bool true), (25, Value.pointer (some ⟨gd, 0, none⟩)), (26, Value.slice (some ⟨g5_1, 0, none⟩) 0 0), (27, Value.pointer (some ⟨gd, 0, none⟩)), (28, Value.pointer (some ⟨gd, 0, none⟩)), (29, Value.pointer (some ⟨gd, 1, none⟩)), (30, Value.slice A L.length c), (31, Value.int .i64 (i : Int)), (32, Value.slice A i c), (34, Value.pointer (some ⟨gd, 0, none⟩)), (35, Value.pointer (some ⟨gd, 0, none⟩)), (36, Value.pointer (some ⟨gd, 1, none⟩)), (38, Value.int .i64 (i : Int)), (39, Value.int .i64 ((i : Int) + 1))] → W.heap[gd]? = some (.cells #[Value.int .i64 now, Value.slice A L.length c] 50 (0, 0)) → W.heap[g5_1]? = some (.cells #[] 77 (0, 0)) → g5_1 ≠ gd → w.heap.size ≤ g5_1 → ¬ OB A g5_1 → Rv.RdV W A L.length 2 (flT L) → Kp w W (fun k => k = gd) → wpAnyH Try.prog .any (regOf Try.f19 5) QQ (fun W => True) 7 #[true, true, true, true, true, true, true, true, false, true, true, true, false, true, true, false, false, false, false, false] a W := by
          intro g5_1 w26 a hE B_gd B_g5_1 n_g5_1_gd z_0_g5_1 Nb_L_g5_1 O_L K_0
          refine d_all (rs := [8, 12]) (by kernel_rfl) rfl ?_
          refine all_cons (d_lit (listed' := #[true, true, true, true, true, true, true, true, true, true, true, true, false, true, true, false, false, false, false, false]) rfl ?_) ?_
          ·
            have O_q5_8 := own_blk0 (s := 2) B_g5_1 (show w.heap.size ≤ g5_1 from z_0_g5_1)
            have Nb_q5_8_gd : ¬ OB (some ⟨g5_1, 0, none⟩) gd := fun h => by have h := ob_blk.1 h; exact n_g5_1_gd h
            have Z_0_q5_8 : ∀ k, OB (some ⟨g5_1, 0, none⟩) k → (fun k => k = gd) k ∨ w.heap.size ≤ k := fun k h => by have h := ob_blk.1 h; subst h; exact Or.inr z_0_g5_1
            have NN_q5_8_L : ∀ k, OB (some ⟨g5_1, 0, none⟩) k → ¬ OB A k := fun k h h2 => by have h := ob_blk.1 h; subst h; exact Nb_L_g5_1 h2
            have NN_L_q5_8 : ∀ k, OB A k → ¬ OB (some ⟨g5_1, 0, none⟩) k := fun k h h2 => NN_q5_8_L k h2 h
            refine (Rv.s_appendV (s := 2) (xs := []) p19_5_8 hE wn_none rfl Try.underlying48 eD77 (by decide) rfl O_q5_8 rfl (Rv.rdv_take O_L (by omega)) (by omega) (by omega) K_0.kept.1 ?_ hcA.2)
            clear hE a; intro A5_8 c5_8 w27 O_q5_8' hk hat a hE
            have Nb_q5_8_gd' := grow_n Nb_q5_8_gd (blk_lt B_gd) hat
            have NN_L_q5_8' : ∀ k, OB A k → ¬ OB A5_8 k := fun k h h2 => (hat k h2).elim (NN_L_q5_8 k h) (fun h3 => by have := (Rv.rdv_ob O_L h).2; omega)
            have Z_0_q5_8' := grow_z Z_0_q5_8 K_0.kept.1 hat
            replace B_gd := kp_blk B_gd hk Nb_q5_8_gd
            replace O_L := Rv.rdv_keep O_L hk NN_L_q5_8
            replace K_0 := K_0.then_ hk Z_0_q5_8
            replace Nb_q5_8_gd := Nb_q5_8_gd'
            replace NN_L_q5_8 := NN_L_q5_8'
            replace NN_q5_8_L : ∀ k, OB A5_8 k → ¬ OB A k := fun k h h2 => NN_L_q5_8 k h2 h
            replace Z_0_q5_8 := Z_0_q5_8'
            replace O_q5_8 := O_q5_8'
            try clear O_q5_8'
            clear hk hat
            refine ⟨trivial, ?_⟩
            exact dr5_7 A5_8 c5_8 g5_1 _ a (En.sub hE ⟨rfl, rfl, rfl, rfl, rfl, rfl, rfl, rfl, rfl, rfl, rfl, rfl, rfl, rfl, rfl, rfl, rfl, rfl, rfl, trivial⟩) B_gd NN_L_q5_8 Nb_q5_8_gd Z_0_q5_8 NN_q5_8_L O_L O_q5_8 K_0
          refine all_cons (d_lit (listed' := #[true, true, true, true, true, true, true, true, false, true, true, true, true, true, true, false, false, false, false, false]) rfl ?_) ?_
          ·
            refine (s_still p19_5_12 hE wn_none rfl (st_load1 tA48 rfl ((blk_cell B_gd 1).trans rfl)) ?_)
            clear hE a; intro a hE
            refine ⟨trivial, ?_⟩
            refine Rv.dq (listed' := #[true, true, true, true, true, true, true, true, false, true, true, true, true, true, true, true, false, false, false, false]) (v := Value.slice AD (L.length - (i + 1)) (c - (i + 1))) p19_5_15 ns19_5 hE wn_none trivial (fun W hS => (st_sliceL (lo := i + 1) (A' := AD) Try.underlying48 tS77 rfl rfl (by omega) rfl rfl hAD)) ?_ (fun c a w h => hQ c a _ _ w h); clear hE a; intro a hE
            exact dr5_8 g5_1 _ a (En.sub hE ⟨rfl, rfl, rfl, rfl, rfl, rfl, rfl, rfl, rfl, rfl, rfl, rfl, rfl, rfl, rfl, rfl, rfl, rfl, rfl, rfl, trivial⟩) B_gd B_g5_1 n_g5_1_gd z_0_g5_1 Nb_L_g5_1 O_L K_0
          exact all_nil
        have dr5_4 : ∀ (g5_1 : Nat) (W : World) (a : Act), En 44 a [(0, Value.pointer (some ⟨gd, 0, none⟩)), (1, Value.int .i64 s), (5, Value.int .i64 (i : Int)), (12, Value.bool true), (24, Value.bool true), (25, Value.pointer (some ⟨gd, 0, none⟩)), (26, Value.slice (some ⟨g5_1, 0, none⟩) 0 0), (27, Value.pointer (some ⟨gd, 0, none⟩)), (28, Value.pointer (some ⟨gd, 0, none⟩)), (29, Value.pointer (some ⟨gd, 1, none⟩)), (31, Value.int .i64 (i : Int)), (34, Value.pointer (some ⟨gd, 0, none⟩)), (35, Value.pointer (some ⟨gd, 0, none⟩)), (36, Value.pointer (some ⟨gd, 1, none⟩)), (37, Value.slice A L.length c), (38, Value.int .i64 (i : Int)), (39, Value.int .i64 ((i : Int) + 1)), (40, Value.slice AD (L.length - (i + 1)) (c - (i + 1)))] → W.heap[gd]? = some (.cells #[Value.int .i64 now, Value.slice A L.length c] 50 (0, 0)) → W.heap[g5_1]? = some (.cells #[] 77 (0, 0)) → g5_1 ≠ gd → w.heap.size ≤ g5_1 → ¬ OB A g5_1 → Rv.RdV W A L.length 2 (flT L) → Kp w W (fun k => k = gd) → wpAnyH Try.prog .any (regOf Try.f19 5) QQ (fun W => True) 7 #[true, true, true, true, true, false, true, false, false, true, true, true, true, true, true, true, false, false, false, false] a W := by
          intro g5_1 w28 a hE B_gd B_g5_1 n_g5_1_gd z_0_g5_1 Nb_L_g5_1 O_L K_0
          refine d_all (rs := [5]) (by kernel_rfl) rfl ?_
          refine all_cons (d_lit (listed' := #[true, true, true, true, true, true, true, false, false, true, true, true, true, true, true, true, false, false, false, false]) rfl ?_) ?_
          ·
            refine (s_still p19_5_5 hE wn_none rfl (st_load1 tA48 rfl ((blk_cell B_gd 1).trans rfl)) ?_)
            clear hE a; intro a hE
            refine ⟨trivial, ?_⟩
            refine Rv.dq (listed' := #[true, true, true, true, true, true, true, true, false, true, true, true, true, true, true, true, false, false, false, false]) (v := Value.slice A i c) p19_5_7 ns19_5 hE wn_none trivial (fun W hS => (st_sliceH (h := i) Try.underlying48 tS77 rfl rfl (by omega))) ?_ (fun c a w h => hQ c a _ _ w h); clear hE a; intro a hE
            exact dr5_8 g5_1 _ a (En.sub hE ⟨rfl, rfl, rfl, rfl, rfl, rfl, rfl, rfl, rfl, rfl, rfl, rfl, rfl, rfl, rfl, rfl, rfl, rfl, rfl, rfl, trivial⟩) B_gd B_g5_1 n_g5_1_gd z_0_g5_1 Nb_L_g5_1 O_L K_0
          exact all_nil
        have dr5_3 : ∀ (W : World) (a : Act), En 44 a [(0, Value.pointer (some ⟨gd, 0, none⟩)), (1, Value.int .i64 s), (5, Value.int .i64 (i : Int)), (12, Value.bool true), (24, Value.bool true), (25, Value.pointer (some ⟨gd, 0, none⟩)), (27, Value.pointer (some ⟨gd, 0, none⟩)), (28, Value.pointer (some ⟨gd, 0, none⟩)), (29, Value.pointer (some ⟨gd, 1, none⟩)), (31, Value.int .i64 (i : Int)), (34, Value.pointer (some ⟨gd, 0, none⟩)), (35, Value.pointer (some ⟨gd, 0, none⟩)), (36, Value.pointer (some ⟨gd, 1, none⟩)), (37, Value.slice A L.length c), (38, Value.int .i64 (i : Int)), (39, Value.int .i64 ((i : Int) + 1)), (40, Value.slice AD (L.length - (i + 1)) (c - (i + 1)))] → W.heap[gd]? = some (.cells #[Value.int .i64 now, Value.slice A L.length c] 50 (0, 0)) → Rv.RdV W A L.length 2 (flT L) → Kp w W (fun k => k = gd) → wpAnyH Try.prog .any (regOf Try.f19 5) QQ (fun W => True) 8 #[true, false, true, true, true, false, true, false, false, true, true, true, true, true, true, true, false, false, false, false] a W := by
          intro w29 a hE B_gd O_L K_0
          refine d_all (rs := [1, 5]) (by kernel_rfl) rfl ?_
          refine all_cons (d_lit (listed' := #[true, true, true, true, true, false, true, false, false, true, true, true, true, true, true, true, false, false, false, false]) rfl ?_) ?_
          ·
            refine (s_row (xs := []) (vs := []) (cs := #[]) p19_5_1 hE wn_none rfl Try.underlying48 rfl (by kernel_rfl) ?_)
            clear hE a; intro g5_1 w30 z31 B_g5_1 hk a hE
            have n_gd_g5_1 : gd ≠ g5_1 := ne_new B_gd z31
            have z_0_g5_1 := Nat.le_trans K_0.kept.1 z31
            have Nb_L_g5_1 : ¬ OB A g5_1 := fun h => by have := (Rv.rdv_ob O_L h).2; omega
            replace B_gd := kp_blk B_gd hk (fun h => h)
            replace O_L := Rv.rdv_keep O_L hk (fun _ _ h => h)
            replace K_0 := K_0.then_ hk (fun _ h => h.elim)
            clear hk
            refine ⟨trivial, ?_⟩
            have n_g5_1_gd := Ne.symm n_gd_g5_1
            exact dr5_4 g5_1 _ a (En.sub hE ⟨rfl, rfl, rfl, rfl, rfl, rfl, rfl, rfl, rfl, rfl, rfl, rfl, rfl, rfl, rfl, rfl, rfl, rfl, trivial⟩) B_gd B_g5_1 n_g5_1_gd z_0_g5_1 Nb_L_g5_1 O_L K_0
          refine all_cons (d_lit (listed' := #[true, false, true, true, true, true, true, false, false, true, true, true, true, true, true, true, false, false, false, false]) rfl ?_) ?_
          ·
            refine (s_still p19_5_5 hE wn_none rfl (st_load1 tA48 rfl ((blk_cell B_gd 1).trans rfl)) ?_)
            clear hE a; intro a hE
            refine ⟨trivial, ?_⟩
            refine Rv.dq (listed' := #[true, false, true, true, true, true, true, true, false, true, true, true, true, true, true, true, false, false, false, false]) (v := Value.slice A i c) p19_5_7 ns19_5 hE wn_none trivial (fun W hS => (st_sliceH (h := i) Try.underlying48 tS77 rfl rfl (by omega))) ?_ (fun c a w h => hQ c a _ _ w h); clear hE a; intro a hE
            exact dr5_6 _ a (En.sub hE ⟨rfl, rfl, rfl, rfl, rfl, rfl, rfl, rfl, rfl, rfl, rfl, rfl, rfl, rfl, rfl, rfl, rfl, rfl, rfl, trivial⟩) B_gd O_L K_0
          exact all_nil
        have dr5_2 : ∀ (W : World) (a : Act), En 44 a [(0, Value.pointer (some ⟨gd, 0, none⟩)), (1, Value.int .i64 s), (5, Value.int .i64 (i : Int)), (12, Value.bool true), (24, Value.bool true), (25, Value.pointer (some ⟨gd, 0, none⟩)), (27, Value.pointer (some ⟨gd, 0, none⟩)), (28, Value.pointer (some ⟨gd, 0, none⟩)), (29, Value.pointer (some ⟨gd, 1, none⟩)), (30, Value.slice A L.length c), (31, Value.int .i64 (i : Int)), (32, Value.slice A i c), (34, Value.pointer (some ⟨gd, 0, none⟩)), (35, Value.pointer (some ⟨gd, 0, none⟩)), (36, Value.pointer (some ⟨gd, 1, none⟩)), (38, Value.int .i64 (i : Int)), (39, Value.int .i64 ((i : Int) + 1))] → W.heap[gd]? = some (.cells #[Value.int .i64 now, Value.slice A L.length c] 50 (0, 0)) → Rv.RdV W A L.length 2 (flT L) → Kp w W (fun k => k = gd) → wpAnyH Try.prog .any (regOf Try.f19 5) QQ (fun W => True) 8 #[true, false, true, true, true, true, true, true, false, true, true, true, false, true, true, false, false, false, false, false] a W := by
          intro w32 a hE B_gd O_L K_0
          refine d_all (rs := [1, 12]) (by kernel_rfl) rfl ?_
          refine all_cons (d_lit (listed' := #[true, true, true, true, true, true, true, true, false, true, true, true, false, true, true, false, false, false, false, false]) rfl ?_) ?_
          ·
            refine (s_row (xs := []) (vs := []) (cs := #[]) p19_5_1 hE wn_none rfl Try.underlying48 rfl (by kernel_rfl) ?_)
            clear hE a; intro g5_1 w33 z34 B_g5_1 hk a hE
            have n_gd_g5_1 : gd ≠ g5_1 := ne_new B_gd z34
            have z_0_g5_1 := Nat.le_trans K_0.kept.1 z34
            have Nb_L_g5_1 : ¬ OB A g5_1 := fun h => by have := (Rv.rdv_ob O_L h).2; omega
            replace B_gd := kp_blk B_gd hk (fun h => h)
            replace O_L := Rv.rdv_keep O_L hk (fun _ _ h => h)
            replace K_0 := K_0.then_ hk (fun _ h => h.elim)
            clear hk
            refine ⟨trivial, ?_⟩
            have n_g5_1_gd := Ne.symm n_gd_g5_1
            exact dr5_5 g5_1 _ a (En.sub hE ⟨rfl, rfl, rfl, rfl, rfl, rfl, rfl, rfl, rfl, rfl, rfl, rfl, rfl, rfl, rfl, rfl, rfl, rfl, trivial⟩) B_gd B_g5_1 n_g5_1_gd z_0_g5_1 Nb_L_g5_1 O_L K_0
          refine all_cons (d_lit (listed' := #[true, false, true, true, true, true, true, true, false, true, true, true, true, true, true, false, false, false, false, false]) rfl ?_) ?_
          ·
            refine (s_still p19_5_12 hE wn_none rfl (st_load1 tA48 rfl ((blk_cell B_gd 1).trans rfl)) ?_)
            clear hE a; intro a hE
            refine ⟨trivial, ?_⟩
            refine Rv.dq (listed' := #[true, false, true, true, true, true, true, true, false, true, true, true, true, true, true, true, false, false, false, false]) (v := Value.slice AD (L.length - (i + 1)) (c - (i + 1))) p19_5_15 ns19_5 hE wn_none trivial (fun W hS => (st_sliceL (lo := i + 1) (A' := AD) Try.underlying48 tS77 rfl rfl (by omega) rfl rfl hAD)) ?_ (fun c a w h => hQ c a _ _ w h); clear hE a; intro a hE
            exact dr5_6 _ a (En.sub hE ⟨rfl, rfl, rfl, rfl, rfl, rfl, rfl, rfl, rfl, rfl, rfl, rfl, rfl, rfl, rfl, rfl, rfl, rfl, rfl, trivial⟩) B_gd O_L K_0
          exact all_nil
        have dr5_1 : ∀ (g5_1 : Nat) (W : World) (a : Act), En 44 a [(0, Value.pointer (some ⟨gd, 0, none⟩)), (1, Value.int .i64 s), (5, Value.int .i64 (i : Int)), (12, Value.bool true), (24, Value.bool true), (25, Value.pointer (some ⟨gd, 0, none⟩)), (26, Value.slice (some ⟨g5_1, 0, none⟩) 0 0), (27, Value.pointer (some ⟨gd, 0, none⟩)), (28, Value.pointer (some ⟨gd, 0, none⟩)), (29, Value.pointer (some ⟨gd, 1, none⟩)), (31, Value.int .i64 (i : Int)), (34, Value.pointer (some ⟨gd, 0, none⟩)), (35, Value.pointer (some ⟨gd, 0, none⟩)), (36, Value.pointer (some ⟨gd, 1, none⟩)), (38, Value.int .i64 (i : Int)), (39, Value.int .i64 ((i : Int) + 1))] → W.heap[gd]? = some (.cells #[Value.int .i64 now, Value.slice A L.length c] 50 (0, 0)) → W.heap[g5_1]? = some (.cells #[] 77 (0, 0)) → g5_1 ≠ gd → w.heap.size ≤ g5_1 → ¬ OB A g5_1 → Rv.RdV W A L.length 2 (flT L) → Kp w W (fun k => k = gd) → wpAnyH Try.prog .any (regOf Try.f19 5) QQ (fun W => True) 9 #[true, true, true, true, true, false, true, false, false, true, true, true, false, true, true, false, false, false, false, false] a W := by
          intro g5_1 w35 a hE B_gd B_g5_1 n_g5_1_gd z_0_g5_1 Nb_L_g5_1 O_L K_0
          refine d_all (rs := [5, 12]) (by kernel_rfl) rfl ?_
          refine all_cons (d_lit (listed' := #[true, true, true, true, true, true, true, false, false, true, true, true, false, true, true, false, false, false, false, false]) rfl ?_) ?_
          ·
            refine (s_still p19_5_5 hE wn_none rfl (st_load1 tA48 rfl ((blk_cell B_gd 1).trans rfl)) ?_)
            clear hE a; intro a hE
            refine ⟨trivial, ?_⟩
            refine Rv.dq (listed' := #[true, true, true, true, true, true, true, true, false, true, true, true, false, true, true, false, false, false, false, false]) (v := Value.slice A i c) p19_5_7 ns19_5 hE wn_none trivial (fun W hS => (st_sliceH (h := i) Try.underlying48 tS77 rfl rfl (by omega))) ?_ (fun c a w h => hQ c a _ _ w h); clear hE a; intro a hE
            exact dr5_5 g5_1 _ a (En.sub hE ⟨rfl, rfl, rfl, rfl, rfl, rfl, rfl, rfl, rfl, rfl, rfl, rfl, rfl, rfl, rfl, rfl, rfl, rfl, trivial⟩) B_gd B_g5_1 n_g5_1_gd z_0_g5_1 Nb_L_g5_1 O_L K_0
          refine all_cons (d_lit (listed' := #[true, true, true, true, true, false, true, false, false, true, true, true, true, true, true, false, false, false, false, false]) rfl ?_) ?_
          ·
            refine (s_still p19_5_12 hE wn_none rfl (st_load1 tA48 rfl ((blk_cell B_gd 1).trans rfl)) ?_)
            clear hE a; intro a hE
            refine ⟨trivial, ?_⟩
            refine Rv.dq (listed' := #[true, true, true, true, true, false, true, false, false, true, true, true, true, true, true, true, false, false, false, false]) (v := Value.slice AD (L.length - (i + 1)) (c - (i + 1))) p19_5_15 ns19_5 hE wn_none trivial (fun W hS => (st_sliceL (lo := i + 1) (A' := AD) Try.underlying48 tS77 rfl rfl (by omega) rfl rfl hAD)) ?_ (fun c a w h => hQ c a _ _ w h); clear hE a; intro a hE
            exact dr5_4 g5_1 _ a (En.sub hE ⟨rfl, rfl, rfl, rfl, rfl, rfl, rfl, rfl, rfl, rfl, rfl, rfl, rfl, rfl, rfl, rfl, rfl, rfl, trivial⟩) B_gd B_g5_1 n_g5_1_gd z_0_g5_1 Nb_L_g5_1 O_L K_0
          exact all_nil
        have dr5_0 : ∀ (W : World) (a : Act), En 44 a [(0, Value.pointer (some ⟨gd, 0, none⟩)), (1, Value.int .i64 s), (5, Value.int .i64 (i : Int)), (12, Value.bool true), (24, Value.bool true), (25, Value.pointer (some ⟨gd, 0, none⟩)), (27, Value.pointer (some ⟨gd, 0, none⟩)), (28, Value.pointer (some ⟨gd, 0, none⟩)), (29, Value.pointer (some ⟨gd, 1, none⟩)), (31, Value.int .i64 (i : Int)), (34, Value.pointer (some ⟨gd, 0, none⟩)), (35, Value.pointer (some ⟨gd, 0, none⟩)), (36, Value.pointer (some ⟨gd, 1, none⟩)), (38, Value.int .i64 (i : Int)), (39, Value.int .i64 ((i : Int) + 1))] → W.heap[gd]? = some (.cells #[Value.int .i64 now, Value.slice A L.length c] 50 (0, 0)) → Rv.RdV W A L.length 2 (flT L) → Kp w W (fun k => k = gd) → wpAnyH Try.prog .any (regOf Try.f19 5) QQ (fun W => True) 10 #[true, false, true, true, true, false, true, false, false, true, true, true, false, true, true, false, false, false, false, false] a W := by
          intro w36 a hE B_gd O_L K_0
          refine d_all (rs := [1, 5, 12]) (by kernel_rfl) rfl ?_
          refine all_cons (d_lit (listed' := #[true, true, true, true, true, false, true, false, false, true, true, true, false, true, true, false, false, false, false, false]) rfl ?_) ?_
          ·
            refine (s_row (xs := []) (vs := []) (cs := #[]) p19_5_1 hE wn_none rfl Try.underlying48 rfl (by kernel_rfl) ?_)
            clear hE a; intro g5_1 w37 z38 B_g5_1 hk a hE
            have n_gd_g5_1 : gd ≠ g5_1 := ne_new B_gd z38
            have z_0_g5_1 := Nat.le_trans K_0.kept.1 z38
            have Nb_L_g5_1 : ¬ OB A g5_1 := fun h => by have := (Rv.rdv_ob O_L h).2; omega
            replace B_gd := kp_blk B_gd hk (fun h => h)
            replace O_L := Rv.rdv_keep O_L hk (fun _ _ h => h)
            replace K_0 := K_0.then_ hk (fun _ h => h.elim)
            clear hk
            refine ⟨trivial, ?_⟩
            have n_g5_1_gd := Ne.symm n_gd_g5_1
            exact dr5_1 g5_1 _ a (En.sub hE ⟨rfl, rfl, rfl, rfl, rfl, rfl, rfl, rfl, rfl, rfl, rfl, rfl, rfl, rfl, rfl, rfl, trivial⟩) B_gd B_g5_1 n_g5_1_gd z_0_g5_1 Nb_L_g5_1 O_L K_0
          refine all_cons (d_lit (listed' := #[true, false, true, true, true, true, true, false, false, true, true, true, false, true, true, false, false, false, false, false]) rfl ?_) ?_
          ·
            refine (s_still p19_5_5 hE wn_none rfl (st_load1 tA48 rfl ((blk_cell B_gd 1).trans rfl)) ?_)
            clear hE a; intro a hE
            refine ⟨trivial, ?_⟩
            refine Rv.dq (listed' := #[true, false, true, true, true, true, true, true, false, true, true, true, false, true, true, false, false, false, false, false]) (v := Value.slice A i c) p19_5_7 ns19_5 hE wn_none trivial (fun W hS => (st_sliceH (h := i) Try.underlying48 tS77 rfl rfl (by omega))) ?_ (fun c a w h => hQ c a _ _ w h); clear hE a; intro a hE
            exact dr5_2 _ a (En.sub hE ⟨rfl, rfl, rfl, rfl, rfl, rfl, rfl, rfl, rfl, rfl, rfl, rfl, rfl, rfl, rfl, rfl, rfl, trivial⟩) B_gd O_L K_0
          refine all_cons (d_lit (listed' := #[true, false, true, true, true, false, true, false, false, true, true, true, true, true, true, false, false, false, false, false]) rfl ?_) ?_
          ·
            refine (s_still p19_5_12 hE wn_none rfl (st_load1 tA48 rfl ((blk_cell B_gd 1).trans rfl)) ?_)
            clear hE a; intro a hE
            refine ⟨trivial, ?_⟩
            refine Rv.dq (listed' := #[true, false, true, true, true, false, true, false, false, true, true, true, true, true, true, true, false, false, false, false]) (v := Value.slice AD (L.length - (i + 1)) (c - (i + 1))) p19_5_15 ns19_5 hE wn_none trivial (fun W hS => (st_sliceL (lo := i + 1) (A' := AD) Try.underlying48 tS77 rfl rfl (by omega) rfl rfl hAD)) ?_ (fun c a w h => hQ c a _ _ w h); clear hE a; intro a hE
            exact dr5_3 _ a (En.sub hE ⟨rfl, rfl, rfl, rfl, rfl, rfl, rfl, rfl, rfl, rfl, rfl, rfl, rfl, rfl, rfl, rfl, rfl, trivial⟩) B_gd O_L K_0
          exact all_nil
        intro w2 hh hk
        replace B_gd := kp_blk B_gd hk (fun h => h)
        replace O_L := Rv.rdv_keep O_L hk (fun _ _ h => h)
        replace K_0 := K_0.then_ hk (fun _ h => h.elim)
        clear hh hk
        refine Rv.dq (listed' := #[true, false, false, false, false, false, false, false, false, false, false, false, false, false, false, false, false, false, false, false]) (v := Value.pointer (some ⟨gd, 0, none⟩)) p19_5_0 ns19_5 hE wn_none trivial (fun W hS => (st_move rfl)) ?_ (fun c a w h => hQ c a _ _ w h); clear hE a; intro a hE
        refine Rv.dq (listed' := #[true, false, true, false, false, false, false, false, false, false, false, false, false, false, false, false, false, false, false, false]) (v := Value.pointer (some ⟨gd, 0, none⟩)) p19_5_2 ns19_5 hE wn_none trivial (fun W hS => (st_move rfl)) ?_ (fun c a w h => hQ c a _ _ w h); clear hE a; intro a hE
        refine Rv.dq (listed' := #[true, false, true, true, false, false, false, false, false, false, false, false, false, false, false, false, false, false, false, false]) (v := Value.pointer (some ⟨gd, 0, none⟩)) p19_5_3 ns19_5 hE wn_none trivial (fun W hS => (st_nil rfl)) ?_ (fun c a w h => hQ c a _ _ w h); clear hE a; intro a hE
        refine Rv.dq (listed' := #[true, false, true, true, true, false, false, false, false, false, false, false, false, false, false, false, false, false, false, false]) (v := Value.pointer (some ⟨gd, 1, none⟩)) p19_5_4 ns19_5 hE wn_none trivial (fun W hS => (st_fieldAddr Try.underlying50 rfl tS48 rfl rfl)) ?_ (fun c a w h => hQ c a _ _ w h); clear hE a; intro a hE
        refine Rv.dq (listed' := #[true, false, true, true, true, false, true, false, false, false, false, false, false, false, false, false, false, false, false, false]) (v := Value.int .i64 (i : Int)) p19_5_6 ns19_5 hE wn_none trivial (fun W hS => (st_move rfl)) ?_ (fun c a w h => hQ c a _ _ w h); clear hE a; intro a hE
        refine Rv.dq (listed' := #[true, false, true, true, true, false, true, false, false, true, false, false, false, false, false, false, false, false, false, false]) (v := Value.pointer (some ⟨gd, 0, none⟩)) p19_5_9 ns19_5 hE wn_none trivial (fun W hS => (st_move rfl)) ?_ (fun c a w h => hQ c a _ _ w h); clear hE a; intro a hE
        refine Rv.dq (listed' := #[true, false, true, true, true, false, true, false, false, true, true, false, false, false, false, false, false, false, false, false]) (v := Value.pointer (some ⟨gd, 0, none⟩)) p19_5_10 ns19_5 hE wn_none trivial (fun W hS => (st_nil rfl)) ?_ (fun c a w h => hQ c a _ _ w h); clear hE a; intro a hE
        refine Rv.dq (listed' := #[true, false, true, true, true, false, true, false, false, true, true, true, false, false, false, false, false, false, false, false]) (v := Value.pointer (some ⟨gd, 1, none⟩)) p19_5_11 ns19_5 hE wn_none trivial (fun W hS => (st_fieldAddr Try.underlying50 rfl tS48 rfl rfl)) ?_ (fun c a w h => hQ c a _ _ w h); clear hE a; intro a hE
        refine Rv.dq (listed' := #[true, false, true, true, true, false, true, false, false, true, true, true, false, true, false, false, false, false, false, false]) (v := Value.int .i64 (i : Int)) p19_5_13 ns19_5 hE wn_none trivial (fun W hS => (st_move rfl)) ?_ (fun c a w h => hQ c a _ _ w h); clear hE a; intro a hE
        refine Rv.dq (listed' := #[true, false, true, true, true, false, true, false, false, true, true, true, false, true, true, false, false, false, false, false]) (v := Value.int .i64 ((i : Int) + 1)) p19_5_14 ns19_5 hE wn_none trivial (fun W hS => (st_add (z := (i : Int) + 1) rfl rfl (wr_i64 _ (by omega) (by omega)))) ?_ (fun c a w h => hQ c a _ _ w h); clear hE a; intro a hE
        exact dr5_0 _ a (En.sub hE ⟨rfl, rfl, rfl, rfl, rfl, rfl, rfl, rfl, rfl, rfl, rfl, rfl, rfl, rfl, rfl, trivial⟩) B_gd O_L K_0
      ·
        refine c_reg R19_4_l ?_
        refine q0 p19_4_0 hE (st_move rfl) ?_
        clear hE a; intro a hE
        refine q0 p19_4_1 hE (st_nil rfl) ?_
        clear hE a; intro a hE
        refine q0 p19_4_2 hE (st_fieldAddr Try.underlying50 rfl tS48 rfl rfl) ?_
        clear hE a; intro a hE
        refine q0 p19_4_3 hE (st_load1 tA48 rfl ((blk_cell B_gd 1).trans rfl)) ?_
        clear hE a; intro a hE
        refine q0 p19_4_4 hE (st_move rfl) ?_
        clear hE a; intro a hE
        refine q0 p19_4_5 hE (st_indexAddrR (i := i) (s := 2) Try.underlying48 tS77 hAeo rfl rfl (by omega)) ?_
        clear hE a; intro a hE
        refine q0 p19_4_6 hE (st_fieldAddrR (off := i * 2) (f0 := 0) (o' := i * 2) Try.underlying77 rfl tS3 rfl (by omega) rfl) ?_
        clear hE a; intro a hE
        refine q0 p19_4_7 hE (st_loadR1 (off := i * 2) (j := 0) tA3 (Rv.rdv_elem (fl := fl2) O_L (by decide) (fun _ => rfl) hx).2 rfl (by omega) rfl) ?_
        clear hE a; intro a hE
        refine q0 p19_4_8 hE (st_move rfl) ?_
        clear hE a; intro a hE
        refine q0 p19_4_9 hE (st_eql (b := false) rfl rfl (decide_eq_false hEQ)) ?_
        clear hE a; intro a hE
        refine p_nil ?_
        refine x_norm ?_
        refine c_cond (t := false) hE rfl ?_
        refine wp_skip ?_
        refine x_normB ?_
        refine x_norm ?_
        refine c_regL R19_3_l ?_
        refine q0 p19_3_0 hE (st_move rfl) ?_
        clear hE a; intro a hE
        refine q0 p19_3_1 hE (st_add (z := (i : Int) + 1) rfl rfl (wr_i64 _ (by omega) (by omega))) ?_
        clear hE a; intro a hE
        refine q0 p19_3_2 hE (st_assign rfl) ?_
        clear hE a; intro a hE
        refine p_nil ?_
        refine x_norm ?_
        have hno9 : ∀ j p, j < i + 1 → L[j]? = some p → p.1 ≠ s := fun j p hj hp => by
          rcases Nat.lt_or_ge j i with q | q
          · exact hno j p q hp
          · obtain rfl : j = i := by omega
            rw [hx] at hp
            injection hp with hp
            rw [← hp]; exact hEQ
        exact ⟨i + 1, by omega, En.sub hE ⟨rfl, rfl, rfl, trivial⟩, by omega, hno9, B_gd, O_L, Nb_L_gd, K_0⟩
    ·
      refine c_reg R19_2_l ?_
      refine q0 p19_2_0 hE (st_move rfl) ?_
      clear hE a; intro a hE
      refine q0 p19_2_1 hE (st_move rfl) ?_
      clear hE a; intro a hE
      refine q0 p19_2_2 hE (st_nil rfl) ?_
      clear hE a; intro a hE
      refine q0 p19_2_3 hE (st_fieldAddr Try.underlying50 rfl tS48 rfl rfl) ?_
      clear hE a; intro a hE
      refine q0 p19_2_4 hE (st_load1 tA48 rfl ((blk_cell B_gd 1).trans rfl)) ?_
      clear hE a; intro a hE
      refine q0 p19_2_5 hE (st_len Try.underlying48 rfl) ?_
      clear hE a; intro a hE
      refine q0 p19_2_6 hE (st_lss (b := false) rfl rfl (decide_eq_false hK1)) ?_
      clear hE a; intro a hE
      refine p_nil ?_
      refine x_norm ?_
      refine c_cond (t := false) hE rfl ?_
      refine wp_exit ?_
      refine x_exit ?_
      refine x_exit ?_
      obtain rfl : i = L.length := by omega
      have hrn := dl_none hno
      refine x_in ?_
      refine x_norm ?_
      refine c_reg R19_7_l ?_
      refine q0 p19_7_0 hE (st_assign rfl) ?_
      clear hE a; intro a hE
      refine p_nil ?_
      refine x_norm ?_
      refine wp_ret ?_
      refine ret_one (v := Value.bool false) rfl hE (.tmp rfl .nil) ?_
      exact ⟨A, c, by rw [hrn.2]; rfl, by rw [hrn.1]; exact B_gd, by rw [hrn.1]; exact O_L, by rw [hrn.1]; exact hcA, fun k h => .inl h, K_0⟩
theorem R38_0_l : List.range (regOf Try.f38 0).size = [0] := by kernel_rfl
theorem R38_1_l : List.range (regOf Try.f38 1).size = [0] := by kernel_rfl
theorem R38_2_l : List.range (regOf Try.f38 2).size = [0, 1, 2, 3, 4, 5, 6] := by kernel_rfl
theorem R38_4_l : List.range (regOf Try.f38 4).size = [0, 1, 2, 3, 4, 5, 6, 7, 8, 9] := by kernel_rfl
theorem R38_5_l : List.range (regOf Try.f38 5).size = [0, 1, 2, 3, 4, 5, 6, 7, 8] := by kernel_rfl
theorem R38_3_l : List.range (regOf Try.f38 3).size = [0, 1, 2] := by kernel_rfl
theorem R38_6_l : List.range (regOf Try.f38 6).size = [0] := by kernel_rfl
theorem body38 : Try.f38.body = some (.seq (.region 0 (regOf Try.f38 0) false) (.seq (.seq (.region 1 (regOf Try.f38 1) false) (.block 0 (.loop (.seq (.seq (.region 2 (regOf Try.f38 2) false) (.cond (Operand.tmp 12) (.skip) (.exit 0))) (.seq (.block 1 (.seq (.region 4 (regOf Try.f38 4) false) (.cond (Operand.tmp 24) (.seq (.region 5 (regOf Try.f38 5) false) (.ret)) (.skip)))) (.region 3 (regOf Try.f38 3) false)))))) (.seq (.region 6 (regOf Try.f38 6) false) (.ret)))) := by kernel_rfl
theorem p38_0_0 : pj (regOf Try.f38 0) 0 = some (some 4, .assign (.const (.int .i64 0)), 3, none) := by kernel_rfl
theorem p38_1_0 : pj (regOf Try.f38 1) 0 = some (some 5, .assign (.const (.int .i64 0)), 3, none) := by kernel_rfl
theorem p38_2_0 : pj (regOf Try.f38 2) 0 = some (some 6, .move (.tmp 5), 3, none) := by kernel_rfl
theorem p38_2_1 : pj (regOf Try.f38 2) 1 = some (some 7, .move (.tmp 0), 47, none) := by kernel_rfl
theorem p38_2_2 : pj (regOf Try.f38 2) 2 = some (some 8, .nilCheck (.tmp 7), 0, none) := by kernel_rfl
theorem p38_2_3 : pj (regOf Try.f38 2) 3 = some (some 9, .fieldAddr 50 (.tmp 8) 1, 0, none) := by kernel_rfl
theorem p38_2_4 : pj (regOf Try.f38 2) 4 = some (some 10, .load 48 (.tmp 9), 48, none) := by kernel_rfl
theorem p38_2_5 : pj (regOf Try.f38 2) 5 = some (some 11, .call { callee := .builtin .len, args := #[.tmp 10], argTypes := #[48] }, 3, none) := by kernel_rfl
theorem p38_2_6 : pj (regOf Try.f38 2) 6 = some (some 12, .binOp .lss 3 (.tmp 6) (.tmp 11) 3, 4, none) := by kernel_rfl
theorem p38_4_0 : pj (regOf Try.f38 4) 0 = some (some 15, .move (.tmp 0), 47, none) := by kernel_rfl
theorem p38_4_1 : pj (regOf Try.f38 4) 1 = some (some 16, .nilCheck (.tmp 15), 0, none) := by kernel_rfl
theorem p38_4_2 : pj (regOf Try.f38 4) 2 = some (some 17, .fieldAddr 50 (.tmp 16) 1, 0, none) := by kernel_rfl
theorem p38_4_3 : pj (regOf Try.f38 4) 3 = some (some 18, .load 48 (.tmp 17), 48, none) := by kernel_rfl
theorem p38_4_4 : pj (regOf Try.f38 4) 4 = some (some 19, .move (.tmp 5), 3, none) := by kernel_rfl
theorem p38_4_5 : pj (regOf Try.f38 4) 5 = some (some 20, .indexAddr 48 (.tmp 18) (.tmp 19), 0, none) := by kernel_rfl
theorem p38_4_6 : pj (regOf Try.f38 4) 6 = some (some 21, .fieldAddr 77 (.tmp 20) 0, 0, none) := by kernel_rfl
theorem p38_4_7 : pj (regOf Try.f38 4) 7 = some (some 22, .load 3 (.tmp 21), 3, none) := by kernel_rfl
theorem p38_4_8 : pj (regOf Try.f38 4) 8 = some (some 23, .move (.tmp 1), 3, none) := by kernel_rfl
theorem p38_4_9 : pj (regOf Try.f38 4) 9 = some (some 24, .binOp .eql 3 (.tmp 22) (.tmp 23) 3, 4, none) := by kernel_rfl
theorem p38_5_0 : pj (regOf Try.f38 5) 0 = some (some 25, .move (.tmp 0), 47, none) := by kernel_rfl
theorem p38_5_1 : pj (regOf Try.f38 5) 1 = some (some 26, .nilCheck (.tmp 25), 0, none) := by kernel_rfl
theorem p38_5_2 : pj (regOf Try.f38 5) 2 = some (some 27, .fieldAddr 50 (.tmp 26) 1, 0, none) := by kernel_rfl
theorem p38_5_3 : pj (regOf Try.f38 5) 3 = some (some 28, .load 48 (.tmp 27), 48, none) := by kernel_rfl
theorem p38_5_4 : pj (regOf Try.f38 5) 4 = some (some 29, .move (.tmp 5), 3, none) := by kernel_rfl
theorem p38_5_5 : pj (regOf Try.f38 5) 5 = some (some 30, .indexAddr 48 (.tmp 28) (.tmp 29), 0, none) := by kernel_rfl
theorem p38_5_6 : pj (regOf Try.f38 5) 6 = some (some 31, .fieldAddr 77 (.tmp 30) 1, 0, none) := by kernel_rfl
theorem p38_5_7 : pj (regOf Try.f38 5) 7 = some (some 32, .load 3 (.tmp 31), 3, none) := by kernel_rfl
theorem p38_5_8 : pj (regOf Try.f38 5) 8 = some (some 4, .assign (.tmp 32), 3, none) := by kernel_rfl
theorem p38_3_0 : pj (regOf Try.f38 3) 0 = some (some 13, .move (.tmp 5), 3, none) := by kernel_rfl
theorem p38_3_1 : pj (regOf Try.f38 3) 1 = some (some 14, .binOp .add 3 (.tmp 13) (.const (.int .i64 1)) 3, 3, none) := by kernel_rfl
theorem p38_3_2 : pj (regOf Try.f38 3) 2 = some (some 5, .assign (.tmp 14), 3, none) := by kernel_rfl
theorem p38_6_0 : pj (regOf Try.f38 6) 0 = some (some 4, .assign (.const (.int .i64 (-1))), 3, none) := by kernel_rfl
set_option maxHeartbeats 4000000 in
theorem rdue_any (gd : Nat) (A : Option Addr) (c : Nat) (L : LW) (now : Int) (s : Int) (w : World) (hd : w.heap[gd]? = some (.cells #[.int .i64 now, .slice A L.length c] 50 (0, 0))) (hR : Rv.RdV w A L.length 2 (flT L)) (hcA : L.length ≤ c ∧ (A = none → c = 0)) (hll : L.length ≤ 1000) (hnd : ¬ OB A gd) : Calls Try.prog 38 #[.pointer (some ⟨gd, 0, none⟩), .int .i64 s] w fun e w' => e = .returned (.int .i64 ((getI L s).getD (-1))) ∧ Kp w w' (fun _ => False) := by
  have K_0 := Kp.refl w (fun _ => False)
  have B_gd := hd
  have O_L := hR
  have Nb_L_gd := hnd
  refine enter (args := [Value.pointer (some ⟨gd, 0, none⟩), Value.int .i64 s]) (n := 33) Try.func38 body38 rfl rfl rfl ?_
  intro a hE
  refine c_reg R38_0_l ?_
  refine q0 p38_0_0 hE (st_assign rfl) ?_
  clear hE a; intro a hE
  refine p_nil ?_
  refine x_norm ?_
  refine wp_seq ?_
  refine c_reg R38_1_l ?_
  refine q0 p38_1_0 hE (st_assign rfl) ?_
  clear hE a; intro a hE
  refine p_nil ?_
  refine x_norm ?_
  refine wp_block ?_
  refine c_loop (α := Nat) (fun i a W => En 33 a [(0, Value.pointer (some ⟨gd, 0, none⟩)), (1, Value.int .i64 s), (5, Value.int .i64 (i : Int))] ∧ i ≤ L.length ∧ (∀ j p, j < i → L[j]? = some p → p.1 ≠ s) ∧ W.heap[gd]? = some (.cells #[Value.int .i64 now, Value.slice A L.length c] 50 (0, 0)) ∧ Rv.RdV W A L.length 2 (flT L) ∧ ¬ OB A gd ∧ Kp w W (fun _ => False)) (fun i => L.length - i) (0) ?_ ?_
  ·
    exact ⟨En.sub hE ⟨rfl, rfl, rfl, trivial⟩, Nat.zero_le _, (fun j p h => absurd h (Nat.not_lt_zero _)), B_gd, O_L, Nb_L_gd, K_0⟩
  ·
    clear hE a
    rintro i a w1 ⟨hE, hi9, hno, B_gd, O_L, Nb_L_gd, K_0⟩
    refine wp_seq ?_
    rcases Decidable.em ((i : Int) < (L.length : Int)) with hK1 | hK1
    ·
      refine c_reg R38_2_l ?_
      refine q0 p38_2_0 hE (st_move rfl) ?_
      clear hE a; intro a hE
      refine q0 p38_2_1 hE (st_move rfl) ?_
      clear hE a; intro a hE
      refine q0 p38_2_2 hE (st_nil rfl) ?_
      clear hE a; intro a hE
      refine q0 p38_2_3 hE (st_fieldAddr Try.underlying50 rfl tS48 rfl rfl) ?_
      clear hE a; intro a hE
      refine q0 p38_2_4 hE (st_load1 tA48 rfl ((blk_cell B_gd 1).trans rfl)) ?_
      clear hE a; intro a hE
      refine q0 p38_2_5 hE (st_len Try.underlying48 rfl) ?_
      clear hE a; intro a hE
      refine q0 p38_2_6 hE (st_lss (b := true) rfl rfl (decide_eq_true hK1)) ?_
      clear hE a; intro a hE
      refine p_nil ?_
      refine x_norm ?_
      refine c_cond (t := true) hE rfl ?_
      refine wp_skip ?_
      refine x_norm ?_
      refine wp_seq ?_
      refine wp_block ?_
      obtain ⟨o, hx⟩ : ∃ o, L[i]? = some o := ⟨_, List.getElem?_eq_getElem (by omega)⟩
      have hAeo := (Rv.rdv_elem (fl := fl2) O_L (by decide) (fun _ => rfl) hx).1
      rcases Decidable.em (o.1 = s) with hEQ | hEQ
      ·
        refine c_reg R38_4_l ?_
        refine q0 p38_4_0 hE (st_move rfl) ?_
        clear hE a; intro a hE
        refine q0 p38_4_1 hE (st_nil rfl) ?_
        clear hE a; intro a hE
        refine q0 p38_4_2 hE (st_fieldAddr Try.underlying50 rfl tS48 rfl rfl) ?_
        clear hE a; intro a hE
        refine q0 p38_4_3 hE (st_load1 tA48 rfl ((blk_cell B_gd 1).trans rfl)) ?_
        clear hE a; intro a hE
        refine q0 p38_4_4 hE (st_move rfl) ?_
        clear hE a; intro a hE
        refine q0 p38_4_5 hE (st_indexAddrR (i := i) (s := 2) Try.underlying48 tS77 hAeo rfl rfl (by omega)) ?_
        clear hE a; intro a hE
        refine q0 p38_4_6 hE (st_fieldAddrR (off := i * 2) (f0 := 0) (o' := i * 2) Try.underlying77 rfl tS3 rfl (by omega) rfl) ?_
        clear hE a; intro a hE
        refine q0 p38_4_7 hE (st_loadR1 (off := i * 2) (j := 0) tA3 (Rv.rdv_elem (fl := fl2) O_L (by decide) (fun _ => rfl) hx).2 rfl (by omega) rfl) ?_
        clear hE a; intro a hE
        refine q0 p38_4_8 hE (st_move rfl) ?_
        clear hE a; intro a hE
        refine q0 p38_4_9 hE (st_eql (b := true) rfl rfl (decide_eq_true hEQ)) ?_
        clear hE a; intro a hE
        refine p_nil ?_
        refine x_norm ?_
        refine c_cond (t := true) hE rfl ?_
        refine c_reg R38_5_l ?_
        refine q0 p38_5_0 hE (st_move rfl) ?_
        clear hE a; intro a hE
        refine q0 p38_5_1 hE (st_nil rfl) ?_
        clear hE a; intro a hE
        refine q0 p38_5_2 hE (st_fieldAddr Try.underlying50 rfl tS48 rfl rfl) ?_
        clear hE a; intro a hE
        refine q0 p38_5_3 hE (st_load1 tA48 rfl ((blk_cell B_gd 1).trans rfl)) ?_
        clear hE a; intro a hE
        refine q0 p38_5_4 hE (st_move rfl) ?_
        clear hE a; intro a hE
        refine q0 p38_5_5 hE (st_indexAddrR (i := i) (s := 2) Try.underlying48 tS77 hAeo rfl rfl (by omega)) ?_
        clear hE a; intro a hE
        refine q0 p38_5_6 hE (st_fieldAddrR (off := i * 2) (f0 := 1) (o' := i * 2 + 1) Try.underlying77 rfl tS3 rfl (by omega) rfl) ?_
        clear hE a; intro a hE
        refine q0 p38_5_7 hE (st_loadR1 (off := i * 2) (j := 1) tA3 (Rv.rdv_elem (fl := fl2) O_L (by decide) (fun _ => rfl) hx).2 rfl (by omega) rfl) ?_
        clear hE a; intro a hE
        refine q0 p38_5_8 hE (st_assign rfl) ?_
        clear hE a; intro a hE
        refine p_nil ?_
        refine x_norm ?_
        refine wp_ret ?_
        refine x_retB ?_
        refine x_ret ?_
        refine x_ret ?_
        refine x_retB ?_
        refine x_ret ?_
        refine ret_one (v := Value.int .i64 o.2) rfl hE (.tmp rfl .nil) ?_
        have hra := dl_at hx hEQ hno
        exact ⟨by rw [hra.2]; rfl, K_0⟩
      ·
        refine c_reg R38_4_l ?_
        refine q0 p38_4_0 hE (st_move rfl) ?_
        clear hE a; intro a hE
        refine q0 p38_4_1 hE (st_nil rfl) ?_
        clear hE a; intro a hE
        refine q0 p38_4_2 hE (st_fieldAddr Try.underlying50 rfl tS48 rfl rfl) ?_
        clear hE a; intro a hE
        refine q0 p38_4_3 hE (st_load1 tA48 rfl ((blk_cell B_gd 1).trans rfl)) ?_
        clear hE a; intro a hE
        refine q0 p38_4_4 hE (st_move rfl) ?_
        clear hE a; intro a hE
        refine q0 p38_4_5 hE (st_indexAddrR (i := i) (s := 2) Try.underlying48 tS77 hAeo rfl rfl (by omega)) ?_
        clear hE a; intro a hE
        refine q0 p38_4_6 hE (st_fieldAddrR (off := i * 2) (f0 := 0) (o' := i * 2) Try.underlying77 rfl tS3 rfl (by omega) rfl) ?_
        clear hE a; intro a hE
        refine q0 p38_4_7 hE (st_loadR1 (off := i * 2) (j := 0) tA3 (Rv.rdv_elem (fl := fl2) O_L (by decide) (fun _ => rfl) hx).2 rfl (by omega) rfl) ?_
        clear hE a; intro a hE
        refine q0 p38_4_8 hE (st_move rfl) ?_
        clear hE a; intro a hE
        refine q0 p38_4_9 hE (st_eql (b := false) rfl rfl (decide_eq_false hEQ)) ?_
        clear hE a; intro a hE
        refine p_nil ?_
        refine x_norm ?_
        refine c_cond (t := false) hE rfl ?_
        refine wp_skip ?_
        refine x_normB ?_
        refine x_norm ?_
        refine c_regL R38_3_l ?_
        refine q0 p38_3_0 hE (st_move rfl) ?_
        clear hE a; intro a hE
        refine q0 p38_3_1 hE (st_add (z := (i : Int) + 1) rfl rfl (wr_i64 _ (by omega) (by omega))) ?_
        clear hE a; intro a hE
        refine q0 p38_3_2 hE (st_assign rfl) ?_
        clear hE a; intro a hE
        refine p_nil ?_
        refine x_norm ?_
        have hno9 : ∀ j p, j < i + 1 → L[j]? = some p → p.1 ≠ s := fun j p hj hp => by
          rcases Nat.lt_or_ge j i with q | q
          · exact hno j p q hp
          · obtain rfl : j = i := by omega
            rw [hx] at hp
            injection hp with hp
            rw [← hp]; exact hEQ
        exact ⟨i + 1, by omega, En.sub hE ⟨rfl, rfl, rfl, trivial⟩, by omega, hno9, B_gd, O_L, Nb_L_gd, K_0⟩
    ·
      refine c_reg R38_2_l ?_
      refine q0 p38_2_0 hE (st_move rfl) ?_
      clear hE a; intro a hE
      refine q0 p38_2_1 hE (st_move rfl) ?_
      clear hE a; intro a hE
      refine q0 p38_2_2 hE (st_nil rfl) ?_
      clear hE a; intro a hE
      refine q0 p38_2_3 hE (st_fieldAddr Try.underlying50 rfl tS48 rfl rfl) ?_
      clear hE a; intro a hE
      refine q0 p38_2_4 hE (st_load1 tA48 rfl ((blk_cell B_gd 1).trans rfl)) ?_
      clear hE a; intro a hE
      refine q0 p38_2_5 hE (st_len Try.underlying48 rfl) ?_
      clear hE a; intro a hE
      refine q0 p38_2_6 hE (st_lss (b := false) rfl rfl (decide_eq_false hK1)) ?_
      clear hE a; intro a hE
      refine p_nil ?_
      refine x_norm ?_
      refine c_cond (t := false) hE rfl ?_
      refine wp_exit ?_
      refine x_exit ?_
      refine x_exit ?_
      obtain rfl : i = L.length := by omega
      have hrn := dl_none hno
      refine x_in ?_
      refine x_norm ?_
      refine c_reg R38_6_l ?_
      refine q0 p38_6_0 hE (st_assign rfl) ?_
      clear hE a; intro a hE
      refine p_nil ?_
      refine x_norm ?_
      refine wp_ret ?_
      refine ret_one (v := Value.int .i64 (-1)) rfl hE (.tmp rfl .nil) ?_
      exact ⟨by rw [hrn.2]; rfl, K_0⟩
def setR (L : LW) (now x n : Int) : LW := if codeW now x n = 0 then delI L x ++ [(x, now + n)] else L
theorem del_len (L : LW) (s : Int) : (delI L s).length ≤ L.length := (Mi.delI_sub s).length_le
theorem app1 (M : LW) (x v : Int) : (([] ++ flT M) ++ [Value.int .i64 x, Value.int .i64 v]) = flT (M ++ [(x, v)]) := by
  unfold flT
  rw [List.nil_append, List.flatMap_append]
  rfl
theorem R18_0_l : List.range (regOf Try.f18 0).size = [0] := by kernel_rfl
theorem R18_1_l : List.range (regOf Try.f18 1).size = [0, 1, 2, 3, 4, 5, 6, 7, 8, 9, 10, 11, 12, 13] := by kernel_rfl
theorem R18_2_l : List.range (regOf Try.f18 2).size = [0] := by kernel_rfl
theorem R18_3_l : List.range (regOf Try.f18 3).size = [0, 1, 2, 3, 4, 5, 6] := by kernel_rfl
theorem R18_4_l : List.range (regOf Try.f18 4).size = [0] := by kernel_rfl
theorem R18_5_l : List.range (regOf Try.f18 5).size = [0, 1, 2] := by kernel_rfl
theorem R18_6_l : List.range (regOf Try.f18 6).size = [0, 1, 2, 3, 4, 5, 6, 7, 8, 9, 10, 11, 12, 13, 14, 15, 16, 17, 18, 19] := by kernel_rfl
theorem R18_7_l : List.range (regOf Try.f18 7).size = [0] := by kernel_rfl
theorem body18 : Try.f18.body = some (.seq (.region 0 (regOf Try.f18 0) false) (.seq (.seq (.region 1 (regOf Try.f18 1) false) (.cond (Operand.tmp 20) (.seq (.region 2 (regOf Try.f18 2) false) (.ret)) (.skip))) (.seq (.seq (.region 3 (regOf Try.f18 3) false) (.cond (Operand.tmp 27) (.seq (.region 4 (regOf Try.f18 4) false) (.ret)) (.skip))) (.seq (.region 5 (regOf Try.f18 5) false) (.seq (.region 6 (regOf Try.f18 6) true) (.seq (.region 7 (regOf Try.f18 7) false) (.ret))))))) := by kernel_rfl
theorem p18_0_0 : pj (regOf Try.f18 0) 0 = some (some 6, .assign (.const (.int .i64 0)), 3, none) := by kernel_rfl
theorem p18_1_0 : pj (regOf Try.f18 1) 0 = some (some 7, .move (.tmp 1), 3, none) := by kernel_rfl
theorem p18_1_1 : pj (regOf Try.f18 1) 1 = some (some 8, .binOp .lss 3 (.tmp 7) (.const (.int .i64 0)) 3, 4, none) := by kernel_rfl
theorem p18_1_2 : pj (regOf Try.f18 1) 2 = some (some 9, .move (.tmp 8), 4, none) := by kernel_rfl
theorem p18_1_3 : pj (regOf Try.f18 1) 3 = some (some 10, .move (.tmp 1), 3, some (2, false)) := by kernel_rfl
theorem g18_1_2 : dstOf (regOf Try.f18 1) 2 = some 9 := by kernel_rfl
theorem p18_1_4 : pj (regOf Try.f18 1) 4 = some (some 11, .binOp .gtr 3 (.tmp 10) (.const (.int .i64 255)) 3, 4, some (2, false)) := by kernel_rfl
theorem p18_1_5 : pj (regOf Try.f18 1) 5 = some (some 12, .pick (.tmp 9) (.const (.bool true)) (.tmp 11), 4, none) := by kernel_rfl
theorem p18_1_6 : pj (regOf Try.f18 1) 6 = some (some 13, .move (.tmp 12), 4, none) := by kernel_rfl
theorem p18_1_7 : pj (regOf Try.f18 1) 7 = some (some 14, .move (.tmp 2), 3, some (6, false)) := by kernel_rfl
theorem g18_1_6 : dstOf (regOf Try.f18 1) 6 = some 13 := by kernel_rfl
theorem p18_1_8 : pj (regOf Try.f18 1) 8 = some (some 15, .binOp .lss 3 (.tmp 14) (.const (.int .i64 1)) 3, 4, some (6, false)) := by kernel_rfl
theorem p18_1_9 : pj (regOf Try.f18 1) 9 = some (some 16, .pick (.tmp 13) (.const (.bool true)) (.tmp 15), 4, none) := by kernel_rfl
theorem p18_1_10 : pj (regOf Try.f18 1) 10 = some (some 17, .move (.tmp 16), 4, none) := by kernel_rfl
theorem p18_1_11 : pj (regOf Try.f18 1) 11 = some (some 18, .move (.tmp 2), 3, some (10, false)) := by kernel_rfl
theorem g18_1_10 : dstOf (regOf Try.f18 1) 10 = some 17 := by kernel_rfl
theorem p18_1_12 : pj (regOf Try.f18 1) 12 = some (some 19, .binOp .gtr 3 (.tmp 18) (.const (.int .i64 1099511627776)) 3, 4, some (10, false)) := by kernel_rfl
theorem p18_1_13 : pj (regOf Try.f18 1) 13 = some (some 20, .pick (.tmp 17) (.const (.bool true)) (.tmp 19), 4, none) := by kernel_rfl
theorem p18_2_0 : pj (regOf Try.f18 2) 0 = some (some 6, .assign (.const (.int .i64 1)), 3, none) := by kernel_rfl
theorem p18_3_0 : pj (regOf Try.f18 3) 0 = some (some 21, .move (.tmp 2), 3, none) := by kernel_rfl
theorem p18_3_1 : pj (regOf Try.f18 3) 1 = some (some 22, .move (.tmp 0), 47, none) := by kernel_rfl
theorem p18_3_2 : pj (regOf Try.f18 3) 2 = some (some 23, .nilCheck (.tmp 22), 0, none) := by kernel_rfl
theorem p18_3_3 : pj (regOf Try.f18 3) 3 = some (some 24, .fieldAddr 50 (.tmp 23) 0, 0, none) := by kernel_rfl
theorem p18_3_4 : pj (regOf Try.f18 3) 4 = some (some 25, .load 3 (.tmp 24), 3, none) := by kernel_rfl
theorem p18_3_5 : pj (regOf Try.f18 3) 5 = some (some 26, .binOp .sub 3 (.const (.int .i64 2305843009213693952)) (.tmp 25) 3, 3, none) := by kernel_rfl
theorem p18_3_6 : pj (regOf Try.f18 3) 6 = some (some 27, .binOp .gtr 3 (.tmp 21) (.tmp 26) 3, 4, none) := by kernel_rfl
theorem p18_4_0 : pj (regOf Try.f18 4) 0 = some (some 6, .assign (.const (.int .i64 14)), 3, none) := by kernel_rfl
theorem p18_5_0 : pj (regOf Try.f18 5) 0 = some (some 28, .move (.tmp 0), 47, none) := by kernel_rfl
theorem p18_5_1 : pj (regOf Try.f18 5) 1 = some (some 29, .move (.tmp 1), 3, none) := by kernel_rfl
theorem p18_5_2 : pj (regOf Try.f18 5) 2 = some (some 30, .call { callee := .value (.func 19), args := #[.tmp 28, .tmp 29], argTypes := #[47, 3] }, 4, none) := by kernel_rfl
theorem cl19 : callable Try.f19 = true := by kernel_rfl
theorem ns18_6 : Region.noSelect (regOf Try.f18 6) = true := by kernel_rfl
theorem p18_6_0 : pj (regOf Try.f18 6) 0 = some (some 31, .move (.tmp 0), 47, none) := by kernel_rfl
theorem p18_6_2 : pj (regOf Try.f18 6) 2 = some (some 33, .move (.tmp 0), 47, none) := by kernel_rfl
theorem p18_6_3 : pj (regOf Try.f18 6) 3 = some (some 34, .nilCheck (.tmp 33), 0, none) := by kernel_rfl
theorem p18_6_4 : pj (regOf Try.f18 6) 4 = some (some 35, .fieldAddr 50 (.tmp 34) 1, 0, none) := by kernel_rfl
theorem p18_6_7 : pj (regOf Try.f18 6) 7 = some (some 38, .move (.tmp 1), 3, none) := by kernel_rfl
theorem p18_6_8 : pj (regOf Try.f18 6) 8 = some (some 39, .move (.tmp 0), 47, none) := by kernel_rfl
theorem p18_6_9 : pj (regOf Try.f18 6) 9 = some (some 40, .nilCheck (.tmp 39), 0, none) := by kernel_rfl
theorem p18_6_10 : pj (regOf Try.f18 6) 10 = some (some 41, .fieldAddr 50 (.tmp 40) 0, 0, none) := by kernel_rfl
theorem p18_6_12 : pj (regOf Try.f18 6) 12 = some (some 43, .move (.tmp 2), 3, none) := by kernel_rfl
theorem p18_6_1 : pj (regOf Try.f18 6) 1 = some (some 32, .buildSlice 48 0 #[], 48, none) := by kernel_rfl
theorem p18_6_5 : pj (regOf Try.f18 6) 5 = some (some 36, .load 48 (.tmp 35), 48, none) := by kernel_rfl
theorem p18_6_11 : pj (regOf Try.f18 6) 11 = some (some 42, .load 3 (.tmp 41), 3, none) := by kernel_rfl
theorem p18_6_13 : pj (regOf Try.f18 6) 13 = some (some 44, .binOp .add 3 (.tmp 42) (.tmp 43) 3, 3, none) := by kernel_rfl
theorem p18_6_14 : pj (regOf Try.f18 6) 14 = some (some 45, .build 77 #[(0, .tmp 38), (1, .tmp 44)], 77, none) := by kernel_rfl
theorem p18_6_6 : pj (regOf Try.f18 6) 6 = some (some 37, .call { callee := .builtin .append, args := #[.tmp 32, .tmp 36], argTypes := #[48, 48] }, 48, none) := by kernel_rfl
theorem p18_6_15 : pj (regOf Try.f18 6) 15 = some (some 46, .buildSlice 48 1 #[(0, .tmp 45)], 48, none) := by kernel_rfl
theorem p18_6_16 : pj (regOf Try.f18 6) 16 = some (some 47, .call { callee := .builtin .append, args := #[.tmp 37, .tmp 46], argTypes := #[48, 48] }, 48, none) := by kernel_rfl
theorem p18_6_17 : pj (regOf Try.f18 6) 17 = some (some 48, .nilCheck (.tmp 31), 0, none) := by kernel_rfl
theorem p18_6_18 : pj (regOf Try.f18 6) 18 = some (some 49, .fieldAddr 50 (.tmp 48) 1, 0, none) := by kernel_rfl
theorem p18_6_19 : pj (regOf Try.f18 6) 19 = some (none, .store 48 (.tmp 49) (.tmp 47), 0, none) := by kernel_rfl
theorem p18_7_0 : pj (regOf Try.f18 7) 0 = some (some 6, .assign (.const (.int .i64 0)), 3, none) := by kernel_rfl
set_option maxHeartbeats 4000000 in
theorem rset_any (gd : Nat) (A : Option Addr) (c : Nat) (L : LW) (now : Int) (x n : Int) (hnow : 0 ≤ now ∧ now ≤ 2305843009213693952) (w : World) (hd : w.heap[gd]? = some (.cells #[.int .i64 now, .slice A L.length c] 50 (0, 0))) (hR : Rv.RdV w A L.length 2 (flT L)) (hcA : L.length ≤ c ∧ (A = none → c = 0)) (hll : L.length ≤ 1000) (hnd : ¬ OB A gd) : Calls Try.prog 18 #[.pointer (some ⟨gd, 0, none⟩), .int .i64 x, .int .i64 n] w fun e w' => ∃ A' c', e = .returned (.int .i64 (codeW now x n)) ∧ w'.heap[gd]? = some (.cells #[.int .i64 (now), .slice A' (setR L now x n).length c'] 50 (0, 0)) ∧ Rv.RdV w' A' (setR L now x n).length 2 (flT (setR L now x n)) ∧ ((setR L now x n).length ≤ c' ∧ (A' = none → c' = 0)) ∧ (∀ k, OB A' k → OB A k ∨ w.heap.size ≤ k) ∧ Kp w w' (fun k => k = gd) := by
  have K_0 := Kp.refl w (fun k => k = gd)
  have B_gd := hd
  have O_L := hR
  have Nb_L_gd := hnd
  refine enter (args := [Value.pointer (some ⟨gd, 0, none⟩), Value.int .i64 x, Value.int .i64 n]) (n := 50) Try.func18 body18 rfl rfl rfl ?_
  intro a hE
  refine c_reg R18_0_l ?_
  refine q0 p18_0_0 hE (st_assign rfl) ?_
  clear hE a; intro a hE
  refine p_nil ?_
  refine x_norm ?_
  refine wp_seq ?_
  rcases Decidable.em (x < 0) with hA1 | hA1
  ·
    refine c_reg R18_1_l ?_
    refine q0 p18_1_0 hE (st_move rfl) ?_
    clear hE a; intro a hE
    refine q0 p18_1_1 hE (st_lss (b := true) rfl rfl (decide_eq_true hA1)) ?_
    clear hE a; intro a hE
    refine q0 p18_1_2 hE (st_move rfl) ?_
    clear hE a; intro a hE
    refine p_cons (s_skip p18_1_3 hE (wn_some g18_1_2 rfl rfl) rfl ?_)
    clear hE a; intro a hE
    refine p_cons (s_skip p18_1_4 hE (wn_some g18_1_2 rfl rfl) rfl ?_)
    clear hE a; intro a hE
    refine q0 p18_1_5 hE (st_pick rfl rfl) ?_
    clear hE a; intro a hE
    refine q0 p18_1_6 hE (st_move rfl) ?_
    clear hE a; intro a hE
    refine p_cons (s_skip p18_1_7 hE (wn_some g18_1_6 rfl rfl) rfl ?_)
    clear hE a; intro a hE
    refine p_cons (s_skip p18_1_8 hE (wn_some g18_1_6 rfl rfl) rfl ?_)
    clear hE a; intro a hE
    refine q0 p18_1_9 hE (st_pick rfl rfl) ?_
    clear hE a; intro a hE
    refine q0 p18_1_10 hE (st_move rfl) ?_
    clear hE a; intro a hE
    refine p_cons (s_skip p18_1_11 hE (wn_some g18_1_10 rfl rfl) rfl ?_)
    clear hE a; intro a hE
    refine p_cons (s_skip p18_1_12 hE (wn_some g18_1_10 rfl rfl) rfl ?_)
    clear hE a; intro a hE
    refine q0 p18_1_13 hE (st_pick rfl rfl) ?_
    clear hE a; intro a hE
    refine p_nil ?_
    refine x_norm ?_
    refine c_cond (t := true) hE rfl ?_
    refine c_reg R18_2_l ?_
    refine q0 p18_2_0 hE (st_assign rfl) ?_
    clear hE a; intro a hE
    refine p_nil ?_
    refine x_norm ?_
    refine wp_ret ?_
    refine x_ret ?_
    refine ret_one (v := Value.int .i64 1) rfl hE (.tmp rfl .nil) ?_
    have hc9 : codeW now x n = 1 := by unfold codeW seqB; rw [if_neg (fun q => by have h1 := of_decide_eq_true q.1; omega)]
    have hsr : setR L now x n = L := by unfold setR; rw [if_neg (by rw [hc9]; decide)]
    rw [hsr]
    exact ⟨A, c, by rw [hc9], B_gd, O_L, hcA, fun k h => .inl h, K_0⟩
  ·
    rcases Decidable.em (255 < x) with hA2 | hA2
    ·
      refine c_reg R18_1_l ?_
      refine q0 p18_1_0 hE (st_move rfl) ?_
      clear hE a; intro a hE
      refine q0 p18_1_1 hE (st_lss (b := false) rfl rfl (decide_eq_false hA1)) ?_
      clear hE a; intro a hE
      refine q0 p18_1_2 hE (st_move rfl) ?_
      clear hE a; intro a hE
      refine p_cons (s_still p18_1_3 hE (wn_some g18_1_2 rfl rfl) rfl (st_move rfl) ?_)
      clear hE a; intro a hE
      refine p_cons (s_still p18_1_4 hE (wn_some g18_1_2 rfl rfl) rfl (st_gtr (b := true) rfl rfl (decide_eq_true hA2)) ?_)
      clear hE a; intro a hE
      refine q0 p18_1_5 hE (st_pick rfl rfl) ?_
      clear hE a; intro a hE
      refine q0 p18_1_6 hE (st_move rfl) ?_
      clear hE a; intro a hE
      refine p_cons (s_skip p18_1_7 hE (wn_some g18_1_6 rfl rfl) rfl ?_)
      clear hE a; intro a hE
      refine p_cons (s_skip p18_1_8 hE (wn_some g18_1_6 rfl rfl) rfl ?_)
      clear hE a; intro a hE
      refine q0 p18_1_9 hE (st_pick rfl rfl) ?_
      clear hE a; intro a hE
      refine q0 p18_1_10 hE (st_move rfl) ?_
      clear hE a; intro a hE
      refine p_cons (s_skip p18_1_11 hE (wn_some g18_1_10 rfl rfl) rfl ?_)
      clear hE a; intro a hE
      refine p_cons (s_skip p18_1_12 hE (wn_some g18_1_10 rfl rfl) rfl ?_)
      clear hE a; intro a hE
      refine q0 p18_1_13 hE (st_pick rfl rfl) ?_
      clear hE a; intro a hE
      refine p_nil ?_
      refine x_norm ?_
      refine c_cond (t := true) hE rfl ?_
      refine c_reg R18_2_l ?_
      refine q0 p18_2_0 hE (st_assign rfl) ?_
      clear hE a; intro a hE
      refine p_nil ?_
      refine x_norm ?_
      refine wp_ret ?_
      refine x_ret ?_
      refine ret_one (v := Value.int .i64 1) rfl hE (.tmp rfl .nil) ?_
      have hc9 : codeW now x n = 1 := by unfold codeW seqB; rw [if_neg (fun q => by have h1 := of_decide_eq_true q.1; omega)]
      have hsr : setR L now x n = L := by unfold setR; rw [if_neg (by rw [hc9]; decide)]
      rw [hsr]
      exact ⟨A, c, by rw [hc9], B_gd, O_L, hcA, fun k h => .inl h, K_0⟩
    ·
      rcases Decidable.em (n < 1) with hA3 | hA3
      ·
        refine c_reg R18_1_l ?_
        refine q0 p18_1_0 hE (st_move rfl) ?_
        clear hE a; intro a hE
        refine q0 p18_1_1 hE (st_lss (b := false) rfl rfl (decide_eq_false hA1)) ?_
        clear hE a; intro a hE
        refine q0 p18_1_2 hE (st_move rfl) ?_
        clear hE a; intro a hE
        refine p_cons (s_still p18_1_3 hE (wn_some g18_1_2 rfl rfl) rfl (st_move rfl) ?_)
        clear hE a; intro a hE
        refine p_cons (s_still p18_1_4 hE (wn_some g18_1_2 rfl rfl) rfl (st_gtr (b := false) rfl rfl (decide_eq_false hA2)) ?_)
        clear hE a; intro a hE
        refine q0 p18_1_5 hE (st_pick rfl rfl) ?_
        clear hE a; intro a hE
        refine q0 p18_1_6 hE (st_move rfl) ?_
        clear hE a; intro a hE
        refine p_cons (s_still p18_1_7 hE (wn_some g18_1_6 rfl rfl) rfl (st_move rfl) ?_)
        clear hE a; intro a hE
        refine p_cons (s_still p18_1_8 hE (wn_some g18_1_6 rfl rfl) rfl (st_lss (b := true) rfl rfl (decide_eq_true hA3)) ?_)
        clear hE a; intro a hE
        refine q0 p18_1_9 hE (st_pick rfl rfl) ?_
        clear hE a; intro a hE
        refine q0 p18_1_10 hE (st_move rfl) ?_
        clear hE a; intro a hE
        refine p_cons (s_skip p18_1_11 hE (wn_some g18_1_10 rfl rfl) rfl ?_)
        clear hE a; intro a hE
        refine p_cons (s_skip p18_1_12 hE (wn_some g18_1_10 rfl rfl) rfl ?_)
        clear hE a; intro a hE
        refine q0 p18_1_13 hE (st_pick rfl rfl) ?_
        clear hE a; intro a hE
        refine p_nil ?_
        refine x_norm ?_
        refine c_cond (t := true) hE rfl ?_
        refine c_reg R18_2_l ?_
        refine q0 p18_2_0 hE (st_assign rfl) ?_
        clear hE a; intro a hE
        refine p_nil ?_
        refine x_norm ?_
        refine wp_ret ?_
        refine x_ret ?_
        refine ret_one (v := Value.int .i64 1) rfl hE (.tmp rfl .nil) ?_
        have hc9 : codeW now x n = 1 := by unfold codeW seqB; rw [if_neg (fun q => by have h1 := of_decide_eq_true q.1; omega)]
        have hsr : setR L now x n = L := by unfold setR; rw [if_neg (by rw [hc9]; decide)]
        rw [hsr]
        exact ⟨A, c, by rw [hc9], B_gd, O_L, hcA, fun k h => .inl h, K_0⟩
      ·
        rcases Decidable.em (1099511627776 < n) with hA4 | hA4
        ·
          refine c_reg R18_1_l ?_
          refine q0 p18_1_0 hE (st_move rfl) ?_
          clear hE a; intro a hE
          refine q0 p18_1_1 hE (st_lss (b := false) rfl rfl (decide_eq_false hA1)) ?_
          clear hE a; intro a hE
          refine q0 p18_1_2 hE (st_move rfl) ?_
          clear hE a; intro a hE
          refine p_cons (s_still p18_1_3 hE (wn_some g18_1_2 rfl rfl) rfl (st_move rfl) ?_)
          clear hE a; intro a hE
          refine p_cons (s_still p18_1_4 hE (wn_some g18_1_2 rfl rfl) rfl (st_gtr (b := false) rfl rfl (decide_eq_false hA2)) ?_)
          clear hE a; intro a hE
          refine q0 p18_1_5 hE (st_pick rfl rfl) ?_
          clear hE a; intro a hE
          refine q0 p18_1_6 hE (st_move rfl) ?_
          clear hE a; intro a hE
          refine p_cons (s_still p18_1_7 hE (wn_some g18_1_6 rfl rfl) rfl (st_move rfl) ?_)
          clear hE a; intro a hE
          refine p_cons (s_still p18_1_8 hE (wn_some g18_1_6 rfl rfl) rfl (st_lss (b := false) rfl rfl (decide_eq_false hA3)) ?_)
          clear hE a; intro a hE
          refine q0 p18_1_9 hE (st_pick rfl rfl) ?_
          clear hE a; intro a hE
          refine q0 p18_1_10 hE (st_move rfl) ?_
          clear hE a; intro a hE
          refine p_cons (s_still p18_1_11 hE (wn_some g18_1_10 rfl rfl) rfl (st_move rfl) ?_)
          clear hE a; intro a hE
          refine p_cons (s_still p18_1_12 hE (wn_some g18_1_10 rfl rfl) rfl (st_gtr (b := true) rfl rfl (decide_eq_true hA4)) ?_)
          clear hE a; intro a hE
          refine q0 p18_1_13 hE (st_pick rfl rfl) ?_
          clear hE a; intro a hE
          refine p_nil ?_
          refine x_norm ?_
          refine c_cond (t := true) hE rfl ?_
          refine c_reg R18_2_l ?_
          refine q0 p18_2_0 hE (st_assign rfl) ?_
          clear hE a; intro a hE
          refine p_nil ?_
          refine x_norm ?_
          refine wp_ret ?_
          refine x_ret ?_
          refine ret_one (v := Value.int .i64 1) rfl hE (.tmp rfl .nil) ?_
          have hc9 : codeW now x n = 1 := by unfold codeW seqB; rw [if_neg (fun q => by have h1 := of_decide_eq_true q.1; omega)]
          have hsr : setR L now x n = L := by unfold setR; rw [if_neg (by rw [hc9]; decide)]
          rw [hsr]
          exact ⟨A, c, by rw [hc9], B_gd, O_L, hcA, fun k h => .inl h, K_0⟩
        ·
          refine c_reg R18_1_l ?_
          refine q0 p18_1_0 hE (st_move rfl) ?_
          clear hE a; intro a hE
          refine q0 p18_1_1 hE (st_lss (b := false) rfl rfl (decide_eq_false hA1)) ?_
          clear hE a; intro a hE
          refine q0 p18_1_2 hE (st_move rfl) ?_
          clear hE a; intro a hE
          refine p_cons (s_still p18_1_3 hE (wn_some g18_1_2 rfl rfl) rfl (st_move rfl) ?_)
          clear hE a; intro a hE
          refine p_cons (s_still p18_1_4 hE (wn_some g18_1_2 rfl rfl) rfl (st_gtr (b := false) rfl rfl (decide_eq_false hA2)) ?_)
          clear hE a; intro a hE
          refine q0 p18_1_5 hE (st_pick rfl rfl) ?_
          clear hE a; intro a hE
          refine q0 p18_1_6 hE (st_move rfl) ?_
          clear hE a; intro a hE
          refine p_cons (s_still p18_1_7 hE (wn_some g18_1_6 rfl rfl) rfl (st_move rfl) ?_)
          clear hE a; intro a hE
          refine p_cons (s_still p18_1_8 hE (wn_some g18_1_6 rfl rfl) rfl (st_lss (b := false) rfl rfl (decide_eq_false hA3)) ?_)
          clear hE a; intro a hE
          refine q0 p18_1_9 hE (st_pick rfl rfl) ?_
          clear hE a; intro a hE
          refine q0 p18_1_10 hE (st_move rfl) ?_
          clear hE a; intro a hE
          refine p_cons (s_still p18_1_11 hE (wn_some g18_1_10 rfl rfl) rfl (st_move rfl) ?_)
          clear hE a; intro a hE
          refine p_cons (s_still p18_1_12 hE (wn_some g18_1_10 rfl rfl) rfl (st_gtr (b := false) rfl rfl (decide_eq_false hA4)) ?_)
          clear hE a; intro a hE
          refine q0 p18_1_13 hE (st_pick rfl rfl) ?_
          clear hE a; intro a hE
          refine p_nil ?_
          refine x_norm ?_
          refine c_cond (t := false) hE rfl ?_
          refine wp_skip ?_
          refine x_norm ?_
          refine wp_seq ?_
          rcases Decidable.em (2305843009213693952 - now < n) with hOV | hOV
          ·
            refine c_reg R18_3_l ?_
            refine q0 p18_3_0 hE (st_move rfl) ?_
            clear hE a; intro a hE
            refine q0 p18_3_1 hE (st_move rfl) ?_
            clear hE a; intro a hE
            refine q0 p18_3_2 hE (st_nil rfl) ?_
            clear hE a; intro a hE
            refine q0 p18_3_3 hE (st_fieldAddr Try.underlying50 rfl tS3 rfl rfl) ?_
            clear hE a; intro a hE
            refine q0 p18_3_4 hE (st_load1 tA3 rfl ((blk_cell B_gd 0).trans rfl)) ?_
            clear hE a; intro a hE
            refine q0 p18_3_5 hE (st_sub (z := 2305843009213693952 - now) rfl rfl (wr_i64 _ (by omega) (by omega))) ?_
            clear hE a; intro a hE
            refine q0 p18_3_6 hE (st_gtr (b := true) rfl rfl (decide_eq_true hOV)) ?_
            clear hE a; intro a hE
            refine p_nil ?_
            refine x_norm ?_
            refine c_cond (t := true) hE rfl ?_
            refine c_reg R18_4_l ?_
            refine q0 p18_4_0 hE (st_assign rfl) ?_
            clear hE a; intro a hE
            refine p_nil ?_
            refine x_norm ?_
            refine wp_ret ?_
            refine x_ret ?_
            refine ret_one (v := Value.int .i64 14) rfl hE (.tmp rfl .nil) ?_
            have hc9 : codeW now x n = 14 := by unfold codeW seqB; rw [if_pos ⟨decide_eq_true (by omega), by omega, by omega⟩, if_pos hOV]
            have hsr : setR L now x n = L := by unfold setR; rw [if_neg (by rw [hc9]; decide)]
            rw [hsr]
            exact ⟨A, c, by rw [hc9], B_gd, O_L, hcA, fun k h => .inl h, K_0⟩
          ·
            refine c_reg R18_3_l ?_
            refine q0 p18_3_0 hE (st_move rfl) ?_
            clear hE a; intro a hE
            refine q0 p18_3_1 hE (st_move rfl) ?_
            clear hE a; intro a hE
            refine q0 p18_3_2 hE (st_nil rfl) ?_
            clear hE a; intro a hE
            refine q0 p18_3_3 hE (st_fieldAddr Try.underlying50 rfl tS3 rfl rfl) ?_
            clear hE a; intro a hE
            refine q0 p18_3_4 hE (st_load1 tA3 rfl ((blk_cell B_gd 0).trans rfl)) ?_
            clear hE a; intro a hE
            refine q0 p18_3_5 hE (st_sub (z := 2305843009213693952 - now) rfl rfl (wr_i64 _ (by omega) (by omega))) ?_
            clear hE a; intro a hE
            refine q0 p18_3_6 hE (st_gtr (b := false) rfl rfl (decide_eq_false hOV)) ?_
            clear hE a; intro a hE
            refine p_nil ?_
            refine x_norm ?_
            refine c_cond (t := false) hE rfl ?_
            refine wp_skip ?_
            refine x_norm ?_
            refine c_reg R18_5_l ?_
            refine q0 p18_5_0 hE (st_move rfl) ?_
            clear hE a; intro a hE
            refine q0 p18_5_1 hE (st_move rfl) ?_
            clear hE a; intro a hE
            have hnb_gd := blk_lt B_gd
            have hkz9 := K_0.kept.1
            refine p_cons (s_call (xs := [Operand.tmp 28, Operand.tmp 29]) (args := [Value.pointer (some ⟨gd, 0, none⟩), Value.int .i64 x]) p18_5_2 hE wn_none rfl rfl Try.func19 cl19 (rcan_any gd A c L now x _ B_gd O_L hcA hll Nb_L_gd) ?_)
            rintro e w3 ⟨AM1, cM2, rfl, B_gd', O_M, hc_M, hg9, hk⟩
            replace O_L := Rv.rdv_keep O_L hk (fun k hk2 h2 => Nb_L_gd (by rw [show k = gd from h2] at hk2; exact hk2))
            replace K_0 := K_0.then_ hk (fun k h => by rw [show k = gd from h]; exact Or.inl rfl)
            replace B_gd := B_gd'
            have Nb_M_gd : ¬ OB AM1 gd := fun h => (hg9 _ h).elim Nb_L_gd (fun h2 => by have := hnb_gd; omega)
            refine ⟨_, rfl, ?_⟩
            clear hE a; intro a hE
            refine p_nil ?_
            refine x_norm ?_
            obtain ⟨M, hM⟩ : ∃ M, delI L x = M := ⟨_, rfl⟩
            have hml := del_len L x
            rw [hM] at hml O_M hc_M B_gd
            refine c_drawMS (S := fun W => True) rfl rfl (listed := #[false, false, false, false, false, false, false, false, false, false, false, false, false, false, false, false, false, false, false, false]) rfl pan_body (fun QQ hQ hend => ?_)
            have dr6_16 : ∀ (A6_16 : Option Addr) (A6_6 : Option Addr) (c6_16 : Nat) (c6_6 : Nat) (g6_1 : Nat) (g6_15 : Nat) (W : World) (a : Act), En 50 a [(0, Value.pointer (some ⟨gd, 0, none⟩)), (1, Value.int .i64 x), (2, Value.int .i64 n), (6, Value.int .i64 0), (20, Value.bool false), (27, Value.bool false), (31, Value.pointer (some ⟨gd, 0, none⟩)), (32, Value.slice (some ⟨g6_1, 0, none⟩) 0 0), (33, Value.pointer (some ⟨gd, 0, none⟩)), (34, Value.pointer (some ⟨gd, 0, none⟩)), (35, Value.pointer (some ⟨gd, 1, none⟩)), (36, Value.slice AM1 M.length cM2), (37, Value.slice A6_6 (0 + M.length) c6_6), (38, Value.int .i64 x), (39, Value.pointer (some ⟨gd, 0, none⟩)), (40, Value.pointer (some ⟨gd, 0, none⟩)), (41, Value.pointer (some ⟨gd, 0, none⟩)), (42, Value.int .i64 now), (43, Value.int .i64 n), (44, Value.int .i64 (now + n)), (45, Value.agg #[Value.int .i64 x, Value.int .i64 (now + n)]), (46, Value.slice (some ⟨g6_15, 0, none⟩) 1 1), (47, Value.slice A6_16 ((0 + M.length) + 1) c6_16), (48, Value.pointer (some ⟨gd, 0, none⟩)), (49, Value.pointer (some ⟨gd, 1, none⟩))] → W.heap[gd]? = some (.cells #[Value.int .i64 now, Value.slice A6_16 ((0 + M.length) + 1) c6_16] 50 (0, 0)) → W.heap[g6_15]? = some (.cells #[Value.int .i64 x, Value.int .i64 (now + n)] 77 (0, 0)) → g6_15 ≠ gd → w.heap.size ≤ g6_15 → ¬ OB AM1 g6_15 → (∀ k, OB AM1 k → ¬ OB A6_16 k) → ¬ OB A6_16 gd → ¬ OB A6_16 g6_15 → (∀ k, OB A6_16 k → (fun k => k = gd) k ∨ w.heap.size ≤ k) → (∀ k, OB A6_16 k → ¬ OB AM1 k) → Rv.RdV W AM1 M.length 2 (flT M) → W.ownsRow w.heap.size 77 2 (.slice A6_16 ((0 + M.length) + 1) c6_16) ((0 + M.length) + 1) (([] ++ (flT M)) ++ [Value.int .i64 x, Value.int .i64 (now + n)]) → Kp w W (fun k => k = gd) → wpAnyH Try.prog .any (regOf Try.f18 6) QQ (fun W => True) 0 #[true, true, true, true, true, true, true, true, true, true, true, true, true, true, true, true, true, true, true, true] a W := by
              intro A6_16 A6_6 c6_16 c6_6 g6_1 g6_15 w32 a hE B_gd B_g6_15 n_g6_15_gd z_0_g6_15 Nb_M_g6_15 NN_M_q6_6 Nb_q6_6_gd Nb_q6_6_g6_15 Z_0_q6_6 NN_q6_6_M O_M O_q6_6 K_0
              refine d_end (by kernel_rfl) (hend _ _ ?_)
              refine c_reg R18_7_l ?_
              refine q0 p18_7_0 hE (st_assign rfl) ?_
              clear hE a; intro a hE
              refine p_nil ?_
              refine x_norm ?_
              refine wp_ret ?_
              refine ret_one (v := Value.int .i64 0) rfl hE (.tmp rfl .nil) ?_
              have hc9 : codeW now x n = 0 := by unfold codeW seqB; rw [if_pos ⟨decide_eq_true (by omega), by omega, by omega⟩, if_neg hOV]
              have hsr : setR L now x n = M ++ [(x, now + n)] := by unfold setR; rw [if_pos hc9, hM]
              rw [app1, ← hsr] at O_q6_6
              have hln : ((0 + M.length) + 1) = (setR L now x n).length := by rw [hsr, List.length_append]; show _ = M.length + 1; omega
              rw [hln] at O_q6_6 B_gd
              exact ⟨A6_16, c6_16, by rw [hc9], B_gd, Rv.own_rdv O_q6_6 (flT_ones _), ⟨(own_caps O_q6_6).1, own_cap0 O_q6_6⟩, fun k h => .inr (own_ob O_q6_6 h).1, K_0⟩
            have dr6_15 : ∀ (A6_16 : Option Addr) (A6_6 : Option Addr) (c6_16 : Nat) (c6_6 : Nat) (g6_1 : Nat) (g6_15 : Nat) (W : World) (a : Act), En 50 a [(0, Value.pointer (some ⟨gd, 0, none⟩)), (1, Value.int .i64 x), (2, Value.int .i64 n), (6, Value.int .i64 0), (20, Value.bool false), (27, Value.bool false), (31, Value.pointer (some ⟨gd, 0, none⟩)), (32, Value.slice (some ⟨g6_1, 0, none⟩) 0 0), (33, Value.pointer (some ⟨gd, 0, none⟩)), (34, Value.pointer (some ⟨gd, 0, none⟩)), (35, Value.pointer (some ⟨gd, 1, none⟩)), (36, Value.slice AM1 M.length cM2), (37, Value.slice A6_6 (0 + M.length) c6_6), (38, Value.int .i64 x), (39, Value.pointer (some ⟨gd, 0, none⟩)), (40, Value.pointer (some ⟨gd, 0, none⟩)), (41, Value.pointer (some ⟨gd, 0, none⟩)), (42, Value.int .i64 now), (43, Value.int .i64 n), (44, Value.int .i64 (now + n)), (45, Value.agg #[Value.int .i64 x, Value.int .i64 (now + n)]), (46, Value.slice (some ⟨g6_15, 0, none⟩) 1 1), (47, Value.slice A6_16 ((0 + M.length) + 1) c6_16), (48, Value.pointer (some ⟨gd, 0, none⟩)), (49, Value.pointer (some ⟨gd, 1, none⟩))] → W.heap[gd]? = some (.cells #[Value.int .i64 now, Value.slice AM1 M.length cM2] 50 (0, 0)) → W.heap[g6_15]? = some (.cells #[Value.int .i64 x, Value.int .i64 (now + n)] 77 (0, 0)) → g6_15 ≠ gd → w.heap.size ≤ g6_15 → ¬ OB AM1 g6_15 → (∀ k, OB AM1 k → ¬ OB A6_16 k) → ¬ OB A6_16 gd → ¬ OB A6_16 g6_15 → (∀ k, OB A6_16 k → (fun k => k = gd) k ∨ w.heap.size ≤ k) → (∀ k, OB A6_16 k → ¬ OB AM1 k) → Rv.RdV W AM1 M.length 2 (flT M) → W.ownsRow w.heap.size 77 2 (.slice A6_16 ((0 + M.length) + 1) c6_16) ((0 + M.length) + 1) (([] ++ (flT M)) ++ [Value.int .i64 x, Value.int .i64 (now + n)]) → Kp w W (fun k => k = gd) → wpAnyH Try.prog .any (regOf Try.f18 6) QQ (fun W => True) 1 #[true, true, true, true, true, true, true, true, true, true, true, true, true, true, true, true, true, true, true, false] a W := by
              intro A6_16 A6_6 c6_16 c6_6 g6_1 g6_15 w33 a hE B_gd B_g6_15 n_g6_15_gd z_0_g6_15 Nb_M_g6_15 NN_M_q6_6 Nb_q6_6_gd Nb_q6_6_g6_15 Z_0_q6_6 NN_q6_6_M O_M O_q6_6 K_0
              refine d_all (rs := [19]) (by kernel_rfl) rfl ?_
              refine all_cons (d_lit (listed' := #[true, true, true, true, true, true, true, true, true, true, true, true, true, true, true, true, true, true, true, true]) rfl ?_) ?_
              ·
                refine (s_store (off := 1) (k := 1) (cs' := #[Value.int .i64 now, Value.slice A6_16 ((0 + M.length) + 1) c6_16]) p18_6_19 hE wn_none tS48 rfl rfl rfl rfl B_gd (Nat.le_of_ble_eq_true rfl) rfl ?_)
                intro w34 B_gd' hk
                replace B_g6_15 := kp_blk B_g6_15 hk n_g6_15_gd
                replace O_M := Rv.rdv_keep O_M hk (fun k hk2 h2 => Nb_M_gd (by rw [show k = gd from h2] at hk2; exact hk2))
                replace O_q6_6 := own_keep O_q6_6 hk (fun k hk2 h2 => Nb_q6_6_gd (by rw [show k = gd from h2] at hk2; exact hk2))
                replace K_0 := K_0.then_ hk (fun k h => by rw [show k = gd from h]; exact Or.inl rfl)
                replace B_gd := B_gd'
                clear hk
                refine ⟨trivial, ?_⟩
                exact dr6_16 A6_16 A6_6 c6_16 c6_6 g6_1 g6_15 _ a (En.sub hE ⟨rfl, rfl, rfl, rfl, rfl, rfl, rfl, rfl, rfl, rfl, rfl, rfl, rfl, rfl, rfl, rfl, rfl, rfl, rfl, rfl, rfl, rfl, rfl, rfl, rfl, trivial⟩) B_gd B_g6_15 n_g6_15_gd z_0_g6_15 Nb_M_g6_15 NN_M_q6_6 Nb_q6_6_gd Nb_q6_6_g6_15 Z_0_q6_6 NN_q6_6_M O_M O_q6_6 K_0
              exact all_nil
            have dr6_14 : ∀ (A6_6 : Option Addr) (c6_6 : Nat) (g6_1 : Nat) (g6_15 : Nat) (W : World) (a : Act), En 50 a [(0, Value.pointer (some ⟨gd, 0, none⟩)), (1, Value.int .i64 x), (2, Value.int .i64 n), (6, Value.int .i64 0), (20, Value.bool false), (27, Value.bool false), (31, Value.pointer (some ⟨gd, 0, none⟩)), (32, Value.slice (some ⟨g6_1, 0, none⟩) 0 0), (33, Value.pointer (some ⟨gd, 0, none⟩)), (34, Value.pointer (some ⟨gd, 0, none⟩)), (35, Value.pointer (some ⟨gd, 1, none⟩)), (36, Value.slice AM1 M.length cM2), (37, Value.slice A6_6 (0 + M.length) c6_6), (38, Value.int .i64 x), (39, Value.pointer (some ⟨gd, 0, none⟩)), (40, Value.pointer (some ⟨gd, 0, none⟩)), (41, Value.pointer (some ⟨gd, 0, none⟩)), (42, Value.int .i64 now), (43, Value.int .i64 n), (44, Value.int .i64 (now + n)), (45, Value.agg #[Value.int .i64 x, Value.int .i64 (now + n)]), (46, Value.slice (some ⟨g6_15, 0, none⟩) 1 1)] → W.heap[gd]? = some (.cells #[Value.int .i64 now, Value.slice AM1 M.length cM2] 50 (0, 0)) → W.heap[g6_15]? = some (.cells #[Value.int .i64 x, Value.int .i64 (now + n)] 77 (0, 0)) → g6_15 ≠ gd → w.heap.size ≤ g6_15 → ¬ OB AM1 g6_15 → (∀ k, OB AM1 k → ¬ OB A6_6 k) → ¬ OB A6_6 gd → ¬ OB A6_6 g6_15 → (∀ k, OB A6_6 k → (fun k => k = gd) k ∨ w.heap.size ≤ k) → (∀ k, OB A6_6 k → ¬ OB AM1 k) → Rv.RdV W AM1 M.length 2 (flT M) → W.ownsRow w.heap.size 77 2 (.slice A6_6 (0 + M.length) c6_6) (0 + M.length) ([] ++ (flT M)) → Kp w W (fun k => k = gd) → wpAnyH Try.prog .any (regOf Try.f18 6) QQ (fun W => True) 4 #[true, true, true, true, true, true, true, true, true, true, true, true, true, true, true, true, false, false, false, false] a W := by
              intro A6_6 c6_6 g6_1 g6_15 w35 a hE B_gd B_g6_15 n_g6_15_gd z_0_g6_15 Nb_M_g6_15 NN_M_q6_6 Nb_q6_6_gd Nb_q6_6_g6_15 Z_0_q6_6 NN_q6_6_M O_M O_q6_6 K_0
              refine d_all (rs := [16]) (by kernel_rfl) rfl ?_
              refine all_cons (d_lit (listed' := #[true, true, true, true, true, true, true, true, true, true, true, true, true, true, true, true, true, false, false, false]) rfl ?_) ?_
              ·
                refine (s_append (s := 2) (xs := ([] ++ (flT M))) (news := [Value.int .i64 x, Value.int .i64 (now + n)]) p18_6_16 hE wn_none rfl Try.underlying48 eD77 (by decide) rfl O_q6_6 rfl rfl (newsB B_g6_15 rfl) (ones rfl) (by omega) (by omega) K_0.kept.1 ?_)
                clear hE a; intro A6_16 c6_16 w36 O_q6_6' hk hat a hE
                have Nb_q6_6_gd' := grow_n Nb_q6_6_gd (blk_lt B_gd) hat
                have Nb_q6_6_g6_15' := grow_n Nb_q6_6_g6_15 (blk_lt B_g6_15) hat
                have NN_M_q6_6' : ∀ k, OB AM1 k → ¬ OB A6_16 k := fun k h h2 => (hat k h2).elim (NN_M_q6_6 k h) (fun h3 => by have := (Rv.rdv_ob O_M h).2; omega)
                have Z_0_q6_6' := grow_z Z_0_q6_6 K_0.kept.1 hat
                replace B_gd := kp_blk B_gd hk Nb_q6_6_gd
                replace B_g6_15 := kp_blk B_g6_15 hk Nb_q6_6_g6_15
                replace O_M := Rv.rdv_keep O_M hk NN_M_q6_6
                replace K_0 := K_0.then_ hk Z_0_q6_6
                replace Nb_q6_6_gd := Nb_q6_6_gd'
                replace Nb_q6_6_g6_15 := Nb_q6_6_g6_15'
                replace NN_M_q6_6 := NN_M_q6_6'
                replace NN_q6_6_M : ∀ k, OB A6_16 k → ¬ OB AM1 k := fun k h h2 => NN_M_q6_6 k h2 h
                replace Z_0_q6_6 := Z_0_q6_6'
                replace O_q6_6 := O_q6_6'
                try clear O_q6_6'
                clear hk hat
                refine ⟨trivial, ?_⟩
                refine Rv.dq (listed' := #[true, true, true, true, true, true, true, true, true, true, true, true, true, true, true, true, true, true, false, false]) (v := Value.pointer (some ⟨gd, 0, none⟩)) p18_6_17 ns18_6 hE wn_none trivial (fun W hS => (st_nil rfl)) ?_ (fun c a w h => hQ c a _ _ w h); clear hE a; intro a hE
                refine Rv.dq (listed' := #[true, true, true, true, true, true, true, true, true, true, true, true, true, true, true, true, true, true, true, false]) (v := Value.pointer (some ⟨gd, 1, none⟩)) p18_6_18 ns18_6 hE wn_none trivial (fun W hS => (st_fieldAddr Try.underlying50 rfl tS48 rfl rfl)) ?_ (fun c a w h => hQ c a _ _ w h); clear hE a; intro a hE
                exact dr6_15 A6_16 A6_6 c6_16 c6_6 g6_1 g6_15 _ a (En.sub hE ⟨rfl, rfl, rfl, rfl, rfl, rfl, rfl, rfl, rfl, rfl, rfl, rfl, rfl, rfl, rfl, rfl, rfl, rfl, rfl, rfl, rfl, rfl, rfl, rfl, rfl, trivial⟩) B_gd B_g6_15 n_g6_15_gd z_0_g6_15 Nb_M_g6_15 NN_M_q6_6 Nb_q6_6_gd Nb_q6_6_g6_15 Z_0_q6_6 NN_q6_6_M O_M O_q6_6 K_0
              exact all_nil
            have dr6_13 : ∀ (g6_1 : Nat) (g6_15 : Nat) (W : World) (a : Act), En 50 a [(0, Value.pointer (some ⟨gd, 0, none⟩)), (1, Value.int .i64 x), (2, Value.int .i64 n), (6, Value.int .i64 0), (20, Value.bool false), (27, Value.bool false), (31, Value.pointer (some ⟨gd, 0, none⟩)), (32, Value.slice (some ⟨g6_1, 0, none⟩) 0 0), (33, Value.pointer (some ⟨gd, 0, none⟩)), (34, Value.pointer (some ⟨gd, 0, none⟩)), (35, Value.pointer (some ⟨gd, 1, none⟩)), (36, Value.slice AM1 M.length cM2), (38, Value.int .i64 x), (39, Value.pointer (some ⟨gd, 0, none⟩)), (40, Value.pointer (some ⟨gd, 0, none⟩)), (41, Value.pointer (some ⟨gd, 0, none⟩)), (42, Value.int .i64 now), (43, Value.int .i64 n), (44, Value.int .i64 (now + n)), (45, Value.agg #[Value.int .i64 x, Value.int .i64 (now + n)]), (46, Value.slice (some ⟨g6_15, 0, none⟩) 1 1)] → W.heap[gd]? = some (.cells #[Value.int .i64 now, Value.slice AM1 M.length cM2] 50 (0, 0)) → W.heap[g6_1]? = some (.cells #[] 77 (0, 0)) → W.heap[g6_15]? = some (.cells #[Value.int .i64 x, Value.int .i64 (now + n)] 77 (0, 0)) → g6_1 ≠ g6_15 → g6_1 ≠ gd → g6_15 ≠ gd → w.heap.size ≤ g6_1 → w.heap.size ≤ g6_15 → ¬ OB AM1 g6_1 → ¬ OB AM1 g6_15 → Rv.RdV W AM1 M.length 2 (flT M) → Kp w W (fun k => k = gd) → wpAnyH Try.prog .any (regOf Try.f18 6) QQ (fun W => True) 5 #[true, true, true, true, true, true, false, true, true, true, true, true, true, true, true, true, false, false, false, false] a W := by
              intro g6_1 g6_15 w37 a hE B_gd B_g6_1 B_g6_15 n_g6_1_g6_15 n_g6_1_gd n_g6_15_gd z_0_g6_1 z_0_g6_15 Nb_M_g6_1 Nb_M_g6_15 O_M K_0
              refine d_all (rs := [6]) (by kernel_rfl) rfl ?_
              refine all_cons (d_lit (listed' := #[true, true, true, true, true, true, true, true, true, true, true, true, true, true, true, true, false, false, false, false]) rfl ?_) ?_
              ·
                have O_q6_6 := own_blk0 (s := 2) B_g6_1 (show w.heap.size ≤ g6_1 from z_0_g6_1)
                have Nb_q6_6_gd : ¬ OB (some ⟨g6_1, 0, none⟩) gd := fun h => by have h := ob_blk.1 h; exact n_g6_1_gd h
                have Nb_q6_6_g6_15 : ¬ OB (some ⟨g6_1, 0, none⟩) g6_15 := fun h => by have h := ob_blk.1 h; exact n_g6_1_g6_15 h
                have Z_0_q6_6 : ∀ k, OB (some ⟨g6_1, 0, none⟩) k → (fun k => k = gd) k ∨ w.heap.size ≤ k := fun k h => by have h := ob_blk.1 h; subst h; exact Or.inr z_0_g6_1
                have NN_q6_6_M : ∀ k, OB (some ⟨g6_1, 0, none⟩) k → ¬ OB AM1 k := fun k h h2 => by have h := ob_blk.1 h; subst h; exact Nb_M_g6_1 h2
                have NN_M_q6_6 : ∀ k, OB AM1 k → ¬ OB (some ⟨g6_1, 0, none⟩) k := fun k h h2 => NN_q6_6_M k h2 h
                refine (Rv.s_appendV (s := 2) (xs := []) p18_6_6 hE wn_none rfl Try.underlying48 eD77 (by decide) rfl O_q6_6 rfl O_M (by omega) (by omega) K_0.kept.1 ?_ hc_M.2)
                clear hE a; intro A6_6 c6_6 w38 O_q6_6' hk hat a hE
                have Nb_q6_6_gd' := grow_n Nb_q6_6_gd (blk_lt B_gd) hat
                have Nb_q6_6_g6_15' := grow_n Nb_q6_6_g6_15 (blk_lt B_g6_15) hat
                have NN_M_q6_6' : ∀ k, OB AM1 k → ¬ OB A6_6 k := fun k h h2 => (hat k h2).elim (NN_M_q6_6 k h) (fun h3 => by have := (Rv.rdv_ob O_M h).2; omega)
                have Z_0_q6_6' := grow_z Z_0_q6_6 K_0.kept.1 hat
                replace B_gd := kp_blk B_gd hk Nb_q6_6_gd
                replace B_g6_15 := kp_blk B_g6_15 hk Nb_q6_6_g6_15
                replace O_M := Rv.rdv_keep O_M hk NN_M_q6_6
                replace K_0 := K_0.then_ hk Z_0_q6_6
                replace Nb_q6_6_gd := Nb_q6_6_gd'
                replace Nb_q6_6_g6_15 := Nb_q6_6_g6_15'
                replace NN_M_q6_6 := NN_M_q6_6'
                replace NN_q6_6_M : ∀ k, OB A6_6 k → ¬ OB AM1 k := fun k h h2 => NN_M_q6_6 k h2 h
                replace Z_0_q6_6 := Z_0_q6_6'
                replace O_q6_6 := O_q6_6'
                try clear O_q6_6'
                clear hk hat
                refine ⟨trivial, ?_⟩
                exact dr6_14 A6_6 c6_6 g6_1 g6_15 _ a (En.sub hE ⟨rfl, rfl, rfl, rfl, rfl, rfl, rfl, rfl, rfl, rfl, rfl, rfl, rfl, rfl, rfl, rfl, rfl, rfl, rfl, rfl, rfl, rfl, trivial⟩) B_gd B_g6_15 n_g6_15_gd z_0_g6_15 Nb_M_g6_15 NN_M_q6_6 Nb_q6_6_gd Nb_q6_6_g6_15 Z_0_q6_6 NN_q6_6_M O_M O_q6_6 K_0
              exact all_nil
            have dr6_12 : ∀ (A6_6 : Option Addr) (c6_6 : Nat) (g6_1 : Nat) (W : World) (a : Act), En 50 a [(0, Value.pointer (some ⟨gd, 0, none⟩)), (1, Value.int .i64 x), (2, Value.int .i64 n), (6, Value.int .i64 0), (20, Value.bool false), (27, Value.bool false), (31, Value.pointer (some ⟨gd, 0, none⟩)), (32, Value.slice (some ⟨g6_1, 0, none⟩) 0 0), (33, Value.pointer (some ⟨gd, 0, none⟩)), (34, Value.pointer (some ⟨gd, 0, none⟩)), (35, Value.pointer (some ⟨gd, 1, none⟩)), (36, Value.slice AM1 M.length cM2), (37, Value.slice A6_6 (0 + M.length) c6_6), (38, Value.int .i64 x), (39, Value.pointer (some ⟨gd, 0, none⟩)), (40, Value.pointer (some ⟨gd, 0, none⟩)), (41, Value.pointer (some ⟨gd, 0, none⟩)), (42, Value.int .i64 now), (43, Value.int .i64 n), (44, Value.int .i64 (now + n)), (45, Value.agg #[Value.int .i64 x, Value.int .i64 (now + n)])] → W.heap[gd]? = some (.cells #[Value.int .i64 now, Value.slice AM1 M.length cM2] 50 (0, 0)) → (∀ k, OB AM1 k → ¬ OB A6_6 k) → ¬ OB A6_6 gd → (∀ k, OB A6_6 k → (fun k => k = gd) k ∨ w.heap.size ≤ k) → (∀ k, OB A6_6 k → ¬ OB AM1 k) → Rv.RdV W AM1 M.length 2 (flT M) → W.ownsRow w.heap.size 77 2 (.slice A6_6 (0 + M.length) c6_6) (0 + M.length) ([] ++ (flT M)) → Kp w W (fun k => k = gd) → wpAnyH Try.prog .any (regOf Try.f18 6) QQ (fun W => True) 5 #[true, true, true, true, true, true, true, true, true, true, true, true, true, true, true, false, false, false, false, false] a W := by
              intro A6_6 c6_6 g6_1 w39 a hE B_gd NN_M_q6_6 Nb_q6_6_gd Z_0_q6_6 NN_q6_6_M O_M O_q6_6 K_0
              refine d_all (rs := [15]) (by kernel_rfl) rfl ?_
              refine all_cons (d_lit (listed' := #[true, true, true, true, true, true, true, true, true, true, true, true, true, true, true, true, false, false, false, false]) rfl ?_) ?_
              ·
                refine (s_row (xs := [(0, Operand.tmp 45)]) (vs := [(0, Value.agg #[Value.int .i64 x, Value.int .i64 (now + n)])]) (cs := #[Value.int .i64 x, Value.int .i64 (now + n)]) p18_6_15 hE wn_none rfl Try.underlying48 rfl (by kernel_rfl) ?_)
                clear hE a; intro g6_15 w40 z41 B_g6_15 hk a hE
                have n_gd_g6_15 : gd ≠ g6_15 := ne_new B_gd z41
                have z_0_g6_15 := Nat.le_trans K_0.kept.1 z41
                have Nb_M_g6_15 : ¬ OB AM1 g6_15 := fun h => by have := (Rv.rdv_ob O_M h).2; omega
                have Nb_q6_6_g6_15 : ¬ OB A6_6 g6_15 := fun h => by have := (own_ob O_q6_6 h).2; omega
                replace B_gd := kp_blk B_gd hk (fun h => h)
                replace O_M := Rv.rdv_keep O_M hk (fun _ _ h => h)
                replace O_q6_6 := own_keep O_q6_6 hk (fun _ _ h => h)
                replace K_0 := K_0.then_ hk (fun _ h => h.elim)
                clear hk
                refine ⟨trivial, ?_⟩
                have n_g6_15_gd := Ne.symm n_gd_g6_15
                exact dr6_14 A6_6 c6_6 g6_1 g6_15 _ a (En.sub hE ⟨rfl, rfl, rfl, rfl, rfl, rfl, rfl, rfl, rfl, rfl, rfl, rfl, rfl, rfl, rfl, rfl, rfl, rfl, rfl, rfl, rfl, rfl, trivial⟩) B_gd B_g6_15 n_g6_15_gd z_0_g6_15 Nb_M_g6_15 NN_M_q6_6 Nb_q6_6_gd Nb_q6_6_g6_15 Z_0_q6_6 NN_q6_6_M O_M O_q6_6 K_0
              exact all_nil
            have dr6_11 : ∀ (g6_15 : Nat) (W : World) (a : Act), En 50 a [(0, Value.pointer (some ⟨gd, 0, none⟩)), (1, Value.int .i64 x), (2, Value.int .i64 n), (6, Value.int .i64 0), (20, Value.bool false), (27, Value.bool false), (31, Value.pointer (some ⟨gd, 0, none⟩)), (33, Value.pointer (some ⟨gd, 0, none⟩)), (34, Value.pointer (some ⟨gd, 0, none⟩)), (35, Value.pointer (some ⟨gd, 1, none⟩)), (36, Value.slice AM1 M.length cM2), (38, Value.int .i64 x), (39, Value.pointer (some ⟨gd, 0, none⟩)), (40, Value.pointer (some ⟨gd, 0, none⟩)), (41, Value.pointer (some ⟨gd, 0, none⟩)), (42, Value.int .i64 now), (43, Value.int .i64 n), (44, Value.int .i64 (now + n)), (45, Value.agg #[Value.int .i64 x, Value.int .i64 (now + n)]), (46, Value.slice (some ⟨g6_15, 0, none⟩) 1 1)] → W.heap[gd]? = some (.cells #[Value.int .i64 now, Value.slice AM1 M.length cM2] 50 (0, 0)) → W.heap[g6_15]? = some (.cells #[Value.int .i64 x, Value.int .i64 (now + n)] 77 (0, 0)) → g6_15 ≠ gd → w.heap.size ≤ g6_15 → ¬ OB AM1 g6_15 → Rv.RdV W AM1 M.length 2 (flT M) → Kp w W (fun k => k = gd) → wpAnyH Try.prog .any (regOf Try.f18 6) QQ (fun W => True) 6 #[true, false, true, true, true, true, false, true, true, true, true, true, true, true, true, true, false, false, false, false] a W := by
              intro g6_15 w42 a hE B_gd B_g6_15 n_g6_15_gd z_0_g6_15 Nb_M_g6_15 O_M K_0
              refine d_all (rs := [1]) (by kernel_rfl) rfl ?_
              refine all_cons (d_lit (listed' := #[true, true, true, true, true, true, false, true, true, true, true, true, true, true, true, true, false, false, false, false]) rfl ?_) ?_
              ·
                refine (s_row (xs := []) (vs := []) (cs := #[]) p18_6_1 hE wn_none rfl Try.underlying48 rfl (by kernel_rfl) ?_)
                clear hE a; intro g6_1 w43 z44 B_g6_1 hk a hE
                have n_gd_g6_1 : gd ≠ g6_1 := ne_new B_gd z44
                have n_g6_15_g6_1 : g6_15 ≠ g6_1 := ne_new B_g6_15 z44
                have z_0_g6_1 := Nat.le_trans K_0.kept.1 z44
                have Nb_M_g6_1 : ¬ OB AM1 g6_1 := fun h => by have := (Rv.rdv_ob O_M h).2; omega
                replace B_gd := kp_blk B_gd hk (fun h => h)
                replace B_g6_15 := kp_blk B_g6_15 hk (fun h => h)
                replace O_M := Rv.rdv_keep O_M hk (fun _ _ h => h)
                replace K_0 := K_0.then_ hk (fun _ h => h.elim)
                clear hk
                refine ⟨trivial, ?_⟩
                have n_g6_1_g6_15 := Ne.symm n_g6_15_g6_1
                have n_g6_1_gd := Ne.symm n_gd_g6_1
                exact dr6_13 g6_1 g6_15 _ a (En.sub hE ⟨rfl, rfl, rfl, rfl, rfl, rfl, rfl, rfl, rfl, rfl, rfl, rfl, rfl, rfl, rfl, rfl, rfl, rfl, rfl, rfl, rfl, trivial⟩) B_gd B_g6_1 B_g6_15 n_g6_1_g6_15 n_g6_1_gd n_g6_15_gd z_0_g6_1 z_0_g6_15 Nb_M_g6_1 Nb_M_g6_15 O_M K_0
              exact all_nil
            have dr6_10 : ∀ (g6_1 : Nat) (W : World) (a : Act), En 50 a [(0, Value.pointer (some ⟨gd, 0, none⟩)), (1, Value.int .i64 x), (2, Value.int .i64 n), (6, Value.int .i64 0), (20, Value.bool false), (27, Value.bool false), (31, Value.pointer (some ⟨gd, 0, none⟩)), (32, Value.slice (some ⟨g6_1, 0, none⟩) 0 0), (33, Value.pointer (some ⟨gd, 0, none⟩)), (34, Value.pointer (some ⟨gd, 0, none⟩)), (35, Value.pointer (some ⟨gd, 1, none⟩)), (36, Value.slice AM1 M.length cM2), (38, Value.int .i64 x), (39, Value.pointer (some ⟨gd, 0, none⟩)), (40, Value.pointer (some ⟨gd, 0, none⟩)), (41, Value.pointer (some ⟨gd, 0, none⟩)), (42, Value.int .i64 now), (43, Value.int .i64 n), (44, Value.int .i64 (now + n)), (45, Value.agg #[Value.int .i64 x, Value.int .i64 (now + n)])] → W.heap[gd]? = some (.cells #[Value.int .i64 now, Value.slice AM1 M.length cM2] 50 (0, 0)) → W.heap[g6_1]? = some (.cells #[] 77 (0, 0)) → g6_1 ≠ gd → w.heap.size ≤ g6_1 → ¬ OB AM1 g6_1 → Rv.RdV W AM1 M.length 2 (flT M) → Kp w W (fun k => k = gd) → wpAnyH Try.prog .any (regOf Try.f18 6) QQ (fun W => True) 6 #[true, true, true, true, true, true, false, true, true, true, true, true, true, true, true, false, false, false, false, false] a W := by
              intro g6_1 w45 a hE B_gd B_g6_1 n_g6_1_gd z_0_g6_1 Nb_M_g6_1 O_M K_0
              refine d_all (rs := [6, 15]) (by kernel_rfl) rfl ?_
              refine all_cons (d_lit (listed' := #[true, true, true, true, true, true, true, true, true, true, true, true, true, true, true, false, false, false, false, false]) rfl ?_) ?_
              ·
                have O_q6_6 := own_blk0 (s := 2) B_g6_1 (show w.heap.size ≤ g6_1 from z_0_g6_1)
                have Nb_q6_6_gd : ¬ OB (some ⟨g6_1, 0, none⟩) gd := fun h => by have h := ob_blk.1 h; exact n_g6_1_gd h
                have Z_0_q6_6 : ∀ k, OB (some ⟨g6_1, 0, none⟩) k → (fun k => k = gd) k ∨ w.heap.size ≤ k := fun k h => by have h := ob_blk.1 h; subst h; exact Or.inr z_0_g6_1
                have NN_q6_6_M : ∀ k, OB (some ⟨g6_1, 0, none⟩) k → ¬ OB AM1 k := fun k h h2 => by have h := ob_blk.1 h; subst h; exact Nb_M_g6_1 h2
                have NN_M_q6_6 : ∀ k, OB AM1 k → ¬ OB (some ⟨g6_1, 0, none⟩) k := fun k h h2 => NN_q6_6_M k h2 h
                refine (Rv.s_appendV (s := 2) (xs := []) p18_6_6 hE wn_none rfl Try.underlying48 eD77 (by decide) rfl O_q6_6 rfl O_M (by omega) (by omega) K_0.kept.1 ?_ hc_M.2)
                clear hE a; intro A6_6 c6_6 w46 O_q6_6' hk hat a hE
                have Nb_q6_6_gd' := grow_n Nb_q6_6_gd (blk_lt B_gd) hat
                have NN_M_q6_6' : ∀ k, OB AM1 k → ¬ OB A6_6 k := fun k h h2 => (hat k h2).elim (NN_M_q6_6 k h) (fun h3 => by have := (Rv.rdv_ob O_M h).2; omega)
                have Z_0_q6_6' := grow_z Z_0_q6_6 K_0.kept.1 hat
                replace B_gd := kp_blk B_gd hk Nb_q6_6_gd
                replace O_M := Rv.rdv_keep O_M hk NN_M_q6_6
                replace K_0 := K_0.then_ hk Z_0_q6_6
                replace Nb_q6_6_gd := Nb_q6_6_gd'
                replace NN_M_q6_6 := NN_M_q6_6'
                replace NN_q6_6_M : ∀ k, OB A6_6 k → ¬ OB AM1 k := fun k h h2 => NN_M_q6_6 k h2 h
                replace Z_0_q6_6 := Z_0_q6_6'
                replace O_q6_6 := O_q6_6'
                try clear O_q6_6'
                clear hk hat
                refine ⟨trivial, ?_⟩
                exact dr6_12 A6_6 c6_6 g6_1 _ a (En.sub hE ⟨rfl, rfl, rfl, rfl, rfl, rfl, rfl, rfl, rfl, rfl, rfl, rfl, rfl, rfl, rfl, rfl, rfl, rfl, rfl, rfl, rfl, trivial⟩) B_gd NN_M_q6_6 Nb_q6_6_gd Z_0_q6_6 NN_q6_6_M O_M O_q6_6 K_0
              refine all_cons (d_lit (listed' := #[true, true, true, true, true, true, false, true, true, true, true, true, true, true, true, true, false, false, false, false]) rfl ?_) ?_
              ·
                refine (s_row (xs := [(0, Operand.tmp 45)]) (vs := [(0, Value.agg #[Value.int .i64 x, Value.int .i64 (now + n)])]) (cs := #[Value.int .i64 x, Value.int .i64 (now + n)]) p18_6_15 hE wn_none rfl Try.underlying48 rfl (by kernel_rfl) ?_)
                clear hE a; intro g6_15 w47 z48 B_g6_15 hk a hE
                have n_gd_g6_15 : gd ≠ g6_15 := ne_new B_gd z48
                have n_g6_1_g6_15 : g6_1 ≠ g6_15 := ne_new B_g6_1 z48
                have z_0_g6_15 := Nat.le_trans K_0.kept.1 z48
                have Nb_M_g6_15 : ¬ OB AM1 g6_15 := fun h => by have := (Rv.rdv_ob O_M h).2; omega
                replace B_gd := kp_blk B_gd hk (fun h => h)
                replace B_g6_1 := kp_blk B_g6_1 hk (fun h => h)
                replace O_M := Rv.rdv_keep O_M hk (fun _ _ h => h)
                replace K_0 := K_0.then_ hk (fun _ h => h.elim)
                clear hk
                refine ⟨trivial, ?_⟩
                have n_g6_15_gd := Ne.symm n_gd_g6_15
                exact dr6_13 g6_1 g6_15 _ a (En.sub hE ⟨rfl, rfl, rfl, rfl, rfl, rfl, rfl, rfl, rfl, rfl, rfl, rfl, rfl, rfl, rfl, rfl, rfl, rfl, rfl, rfl, rfl, trivial⟩) B_gd B_g6_1 B_g6_15 n_g6_1_g6_15 n_g6_1_gd n_g6_15_gd z_0_g6_1 z_0_g6_15 Nb_M_g6_1 Nb_M_g6_15 O_M K_0
              exact all_nil
            have dr6_9 : ∀ (g6_1 : Nat) (g6_15 : Nat) (W : World) (a : Act), En 50 a [(0, Value.pointer (some ⟨gd, 0, none⟩)), (1, Value.int .i64 x), (2, Value.int .i64 n), (6, Value.int .i64 0), (20, Value.bool false), (27, Value.bool false), (31, Value.pointer (some ⟨gd, 0, none⟩)), (32, Value.slice (some ⟨g6_1, 0, none⟩) 0 0), (33, Value.pointer (some ⟨gd, 0, none⟩)), (34, Value.pointer (some ⟨gd, 0, none⟩)), (35, Value.pointer (some ⟨gd, 1, none⟩)), (38, Value.int .i64 x), (39, Value.pointer (some ⟨gd, 0, none⟩)), (40, Value.pointer (some ⟨gd, 0, none⟩)), (41, Value.pointer (some ⟨gd, 0, none⟩)), (42, Value.int .i64 now), (43, Value.int .i64 n), (44, Value.int .i64 (now + n)), (45, Value.agg #[Value.int .i64 x, Value.int .i64 (now + n)]), (46, Value.slice (some ⟨g6_15, 0, none⟩) 1 1)] → W.heap[gd]? = some (.cells #[Value.int .i64 now, Value.slice AM1 M.length cM2] 50 (0, 0)) → W.heap[g6_1]? = some (.cells #[] 77 (0, 0)) → W.heap[g6_15]? = some (.cells #[Value.int .i64 x, Value.int .i64 (now + n)] 77 (0, 0)) → g6_1 ≠ g6_15 → g6_1 ≠ gd → g6_15 ≠ gd → w.heap.size ≤ g6_1 → w.heap.size ≤ g6_15 → ¬ OB AM1 g6_1 → ¬ OB AM1 g6_15 → Rv.RdV W AM1 M.length 2 (flT M) → Kp w W (fun k => k = gd) → wpAnyH Try.prog .any (regOf Try.f18 6) QQ (fun W => True) 6 #[true, true, true, true, true, false, false, true, true, true, true, true, true, true, true, true, false, false, false, false] a W := by
              intro g6_1 g6_15 w49 a hE B_gd B_g6_1 B_g6_15 n_g6_1_g6_15 n_g6_1_gd n_g6_15_gd z_0_g6_1 z_0_g6_15 Nb_M_g6_1 Nb_M_g6_15 O_M K_0
              refine d_all (rs := [5]) (by kernel_rfl) rfl ?_
              refine all_cons (d_lit (listed' := #[true, true, true, true, true, true, false, true, true, true, true, true, true, true, true, true, false, false, false, false]) rfl ?_) ?_
              ·
                refine (s_still p18_6_5 hE wn_none rfl (st_load1 tA48 rfl ((blk_cell B_gd 1).trans rfl)) ?_)
                clear hE a; intro a hE
                refine ⟨trivial, ?_⟩
                exact dr6_13 g6_1 g6_15 _ a (En.sub hE ⟨rfl, rfl, rfl, rfl, rfl, rfl, rfl, rfl, rfl, rfl, rfl, rfl, rfl, rfl, rfl, rfl, rfl, rfl, rfl, rfl, rfl, trivial⟩) B_gd B_g6_1 B_g6_15 n_g6_1_g6_15 n_g6_1_gd n_g6_15_gd z_0_g6_1 z_0_g6_15 Nb_M_g6_1 Nb_M_g6_15 O_M K_0
              exact all_nil
            have dr6_8 : ∀ (g6_15 : Nat) (W : World) (a : Act), En 50 a [(0, Value.pointer (some ⟨gd, 0, none⟩)), (1, Value.int .i64 x), (2, Value.int .i64 n), (6, Value.int .i64 0), (20, Value.bool false), (27, Value.bool false), (31, Value.pointer (some ⟨gd, 0, none⟩)), (33, Value.pointer (some ⟨gd, 0, none⟩)), (34, Value.pointer (some ⟨gd, 0, none⟩)), (35, Value.pointer (some ⟨gd, 1, none⟩)), (38, Value.int .i64 x), (39, Value.pointer (some ⟨gd, 0, none⟩)), (40, Value.pointer (some ⟨gd, 0, none⟩)), (41, Value.pointer (some ⟨gd, 0, none⟩)), (42, Value.int .i64 now), (43, Value.int .i64 n), (44, Value.int .i64 (now + n)), (45, Value.agg #[Value.int .i64 x, Value.int .i64 (now + n)]), (46, Value.slice (some ⟨g6_15, 0, none⟩) 1 1)] → W.heap[gd]? = some (.cells #[Value.int .i64 now, Value.slice AM1 M.length cM2] 50 (0, 0)) → W.heap[g6_15]? = some (.cells #[Value.int .i64 x, Value.int .i64 (now + n)] 77 (0, 0)) → g6_15 ≠ gd → w.heap.size ≤ g6_15 → ¬ OB AM1 g6_15 → Rv.RdV W AM1 M.length 2 (flT M) → Kp w W (fun k => k = gd) → wpAnyH Try.prog .any (regOf Try.f18 6) QQ (fun W => True) 7 #[true, false, true, true, true, false, false, true, true, true, true, true, true, true, true, true, false, false, false, false] a W := by
              intro g6_15 w50 a hE B_gd B_g6_15 n_g6_15_gd z_0_g6_15 Nb_M_g6_15 O_M K_0
              refine d_all (rs := [1, 5]) (by kernel_rfl) rfl ?_
              refine all_cons (d_lit (listed' := #[true, true, true, true, true, false, false, true, true, true, true, true, true, true, true, true, false, false, false, false]) rfl ?_) ?_
              ·
                refine (s_row (xs := []) (vs := []) (cs := #[]) p18_6_1 hE wn_none rfl Try.underlying48 rfl (by kernel_rfl) ?_)
                clear hE a; intro g6_1 w51 z52 B_g6_1 hk a hE
                have n_gd_g6_1 : gd ≠ g6_1 := ne_new B_gd z52
                have n_g6_15_g6_1 : g6_15 ≠ g6_1 := ne_new B_g6_15 z52
                have z_0_g6_1 := Nat.le_trans K_0.kept.1 z52
                have Nb_M_g6_1 : ¬ OB AM1 g6_1 := fun h => by have := (Rv.rdv_ob O_M h).2; omega
                replace B_gd := kp_blk B_gd hk (fun h => h)
                replace B_g6_15 := kp_blk B_g6_15 hk (fun h => h)
                replace O_M := Rv.rdv_keep O_M hk (fun _ _ h => h)
                replace K_0 := K_0.then_ hk (fun _ h => h.elim)
                clear hk
                refine ⟨trivial, ?_⟩
                have n_g6_1_g6_15 := Ne.symm n_g6_15_g6_1
                have n_g6_1_gd := Ne.symm n_gd_g6_1
                exact dr6_9 g6_1 g6_15 _ a (En.sub hE ⟨rfl, rfl, rfl, rfl, rfl, rfl, rfl, rfl, rfl, rfl, rfl, rfl, rfl, rfl, rfl, rfl, rfl, rfl, rfl, rfl, trivial⟩) B_gd B_g6_1 B_g6_15 n_g6_1_g6_15 n_g6_1_gd n_g6_15_gd z_0_g6_1 z_0_g6_15 Nb_M_g6_1 Nb_M_g6_15 O_M K_0
              refine all_cons (d_lit (listed' := #[true, false, true, true, true, true, false, true, true, true, true, true, true, true, true, true, false, false, false, false]) rfl ?_) ?_
              ·
                refine (s_still p18_6_5 hE wn_none rfl (st_load1 tA48 rfl ((blk_cell B_gd 1).trans rfl)) ?_)
                clear hE a; intro a hE
                refine ⟨trivial, ?_⟩
                exact dr6_11 g6_15 _ a (En.sub hE ⟨rfl, rfl, rfl, rfl, rfl, rfl, rfl, rfl, rfl, rfl, rfl, rfl, rfl, rfl, rfl, rfl, rfl, rfl, rfl, rfl, trivial⟩) B_gd B_g6_15 n_g6_15_gd z_0_g6_15 Nb_M_g6_15 O_M K_0
              exact all_nil
            have dr6_7 : ∀ (g6_1 : Nat) (W : World) (a : Act), En 50 a [(0, Value.pointer (some ⟨gd, 0, none⟩)), (1, Value.int .i64 x), (2, Value.int .i64 n), (6, Value.int .i64 0), (20, Value.bool false), (27, Value.bool false), (31, Value.pointer (some ⟨gd, 0, none⟩)), (32, Value.slice (some ⟨g6_1, 0, none⟩) 0 0), (33, Value.pointer (some ⟨gd, 0, none⟩)), (34, Value.pointer (some ⟨gd, 0, none⟩)), (35, Value.pointer (some ⟨gd, 1, none⟩)), (38, Value.int .i64 x), (39, Value.pointer (some ⟨gd, 0, none⟩)), (40, Value.pointer (some ⟨gd, 0, none⟩)), (41, Value.pointer (some ⟨gd, 0, none⟩)), (42, Value.int .i64 now), (43, Value.int .i64 n), (44, Value.int .i64 (now + n)), (45, Value.agg #[Value.int .i64 x, Value.int .i64 (now + n)])] → W.heap[gd]? = some (.cells #[Value.int .i64 now, Value.slice AM1 M.length cM2] 50 (0, 0)) → W.heap[g6_1]? = some (.cells #[] 77 (0, 0)) → g6_1 ≠ gd → w.heap.size ≤ g6_1 → ¬ OB AM1 g6_1 → Rv.RdV W AM1 M.length 2 (flT M) → Kp w W (fun k => k = gd) → wpAnyH Try.prog .any (regOf Try.f18 6) QQ (fun W => True) 7 #[true, true, true, true, true, false, false, true, true, true, true, true, true, true, true, false, false, false, false, false] a W := by
              intro g6_1 w53 a hE B_gd B_g6_1 n_g6_1_gd z_0_g6_1 Nb_M_g6_1 O_M K_0
              refine d_all (rs := [5, 15]) (by kernel_rfl) rfl ?_
              refine all_cons (d_lit (listed' := #[true, true, true, true, true, true, false, true, true, true, true, true, true, true, true, false, false, false, false, false]) rfl ?_) ?_
              ·
                refine (s_still p18_6_5 hE wn_none rfl (st_load1 tA48 rfl ((blk_cell B_gd 1).trans rfl)) ?_)
                clear hE a; intro a hE
                refine ⟨trivial, ?_⟩
                exact dr6_10 g6_1 _ a (En.sub hE ⟨rfl, rfl, rfl, rfl, rfl, rfl, rfl, rfl, rfl, rfl, rfl, rfl, rfl, rfl, rfl, rfl, rfl, rfl, rfl, rfl, trivial⟩) B_gd B_g6_1 n_g6_1_gd z_0_g6_1 Nb_M_g6_1 O_M K_0
              refine all_cons (d_lit (listed' := #[true, true, true, true, true, false, false, true, true, true, true, true, true, true, true, true, false, false, false, false]) rfl ?_) ?_
              ·
                refine (s_row (xs := [(0, Operand.tmp 45)]) (vs := [(0, Value.agg #[Value.int .i64 x, Value.int .i64 (now + n)])]) (cs := #[Value.int .i64 x, Value.int .i64 (now + n)]) p18_6_15 hE wn_none rfl Try.underlying48 rfl (by kernel_rfl) ?_)
                clear hE a; intro g6_15 w54 z55 B_g6_15 hk a hE
                have n_gd_g6_15 : gd ≠ g6_15 := ne_new B_gd z55
                have n_g6_1_g6_15 : g6_1 ≠ g6_15 := ne_new B_g6_1 z55
                have z_0_g6_15 := Nat.le_trans K_0.kept.1 z55
                have Nb_M_g6_15 : ¬ OB AM1 g6_15 := fun h => by have := (Rv.rdv_ob O_M h).2; omega
                replace B_gd := kp_blk B_gd hk (fun h => h)
                replace B_g6_1 := kp_blk B_g6_1 hk (fun h => h)
                replace O_M := Rv.rdv_keep O_M hk (fun _ _ h => h)
                replace K_0 := K_0.then_ hk (fun _ h => h.elim)
                clear hk
                refine ⟨trivial, ?_⟩
                have n_g6_15_gd := Ne.symm n_gd_g6_15
                exact dr6_9 g6_1 g6_15 _ a (En.sub hE ⟨rfl, rfl, rfl, rfl, rfl, rfl, rfl, rfl, rfl, rfl, rfl, rfl, rfl, rfl, rfl, rfl, rfl, rfl, rfl, rfl, trivial⟩) B_gd B_g6_1 B_g6_15 n_g6_1_g6_15 n_g6_1_gd n_g6_15_gd z_0_g6_1 z_0_g6_15 Nb_M_g6_1 Nb_M_g6_15 O_M K_0
              exact all_nil
            have dr6_6 : ∀ (W : World) (a : Act), En 50 a [(0, Value.pointer (some ⟨gd, 0, none⟩)), (1, Value.int .i64 x), (2, Value.int .i64 n), (6, Value.int .i64 0), (20, Value.bool false), (27, Value.bool false), (31, Value.pointer (some ⟨gd, 0, none⟩)), (33, Value.pointer (some ⟨gd, 0, none⟩)), (34, Value.pointer (some ⟨gd, 0, none⟩)), (35, Value.pointer (some ⟨gd, 1, none⟩)), (36, Value.slice AM1 M.length cM2), (38, Value.int .i64 x), (39, Value.pointer (some ⟨gd, 0, none⟩)), (40, Value.pointer (some ⟨gd, 0, none⟩)), (41, Value.pointer (some ⟨gd, 0, none⟩)), (42, Value.int .i64 now), (43, Value.int .i64 n), (44, Value.int .i64 (now + n)), (45, Value.agg #[Value.int .i64 x, Value.int .i64 (now + n)])] → W.heap[gd]? = some (.cells #[Value.int .i64 now, Value.slice AM1 M.length cM2] 50 (0, 0)) → Rv.RdV W AM1 M.length 2 (flT M) → Kp w W (fun k => k = gd) → wpAnyH Try.prog .any (regOf Try.f18 6) QQ (fun W => True) 7 #[true, false, true, true, true, true, false, true, true, true, true, true, true, true, true, false, false, false, false, false] a W := by
              intro w56 a hE B_gd O_M K_0
              refine d_all (rs := [1, 15]) (by kernel_rfl) rfl ?_
              refine all_cons (d_lit (listed' := #[true, true, true, true, true, true, false, true, true, true, true, true, true, true, true, false, false, false, false, false]) rfl ?_) ?_
              ·
                refine (s_row (xs := []) (vs := []) (cs := #[]) p18_6_1 hE wn_none rfl Try.underlying48 rfl (by kernel_rfl) ?_)
                clear hE a; intro g6_1 w57 z58 B_g6_1 hk a hE
                have n_gd_g6_1 : gd ≠ g6_1 := ne_new B_gd z58
                have z_0_g6_1 := Nat.le_trans K_0.kept.1 z58
                have Nb_M_g6_1 : ¬ OB AM1 g6_1 := fun h => by have := (Rv.rdv_ob O_M h).2; omega
                replace B_gd := kp_blk B_gd hk (fun h => h)
                replace O_M := Rv.rdv_keep O_M hk (fun _ _ h => h)
                replace K_0 := K_0.then_ hk (fun _ h => h.elim)
                clear hk
                refine ⟨trivial, ?_⟩
                have n_g6_1_gd := Ne.symm n_gd_g6_1
                exact dr6_10 g6_1 _ a (En.sub hE ⟨rfl, rfl, rfl, rfl, rfl, rfl, rfl, rfl, rfl, rfl, rfl, rfl, rfl, rfl, rfl, rfl, rfl, rfl, rfl, rfl, trivial⟩) B_gd B_g6_1 n_g6_1_gd z_0_g6_1 Nb_M_g6_1 O_M K_0
              refine all_cons (d_lit (listed' := #[true, false, true, true, true, true, false, true, true, true, true, true, true, true, true, true, false, false, false, false]) rfl ?_) ?_
              ·
                refine (s_row (xs := [(0, Operand.tmp 45)]) (vs := [(0, Value.agg #[Value.int .i64 x, Value.int .i64 (now + n)])]) (cs := #[Value.int .i64 x, Value.int .i64 (now + n)]) p18_6_15 hE wn_none rfl Try.underlying48 rfl (by kernel_rfl) ?_)
                clear hE a; intro g6_15 w59 z60 B_g6_15 hk a hE
                have n_gd_g6_15 : gd ≠ g6_15 := ne_new B_gd z60
                have z_0_g6_15 := Nat.le_trans K_0.kept.1 z60
                have Nb_M_g6_15 : ¬ OB AM1 g6_15 := fun h => by have := (Rv.rdv_ob O_M h).2; omega
                replace B_gd := kp_blk B_gd hk (fun h => h)
                replace O_M := Rv.rdv_keep O_M hk (fun _ _ h => h)
                replace K_0 := K_0.then_ hk (fun _ h => h.elim)
                clear hk
                refine ⟨trivial, ?_⟩
                have n_g6_15_gd := Ne.symm n_gd_g6_15
                exact dr6_11 g6_15 _ a (En.sub hE ⟨rfl, rfl, rfl, rfl, rfl, rfl, rfl, rfl, rfl, rfl, rfl, rfl, rfl, rfl, rfl, rfl, rfl, rfl, rfl, rfl, trivial⟩) B_gd B_g6_15 n_g6_15_gd z_0_g6_15 Nb_M_g6_15 O_M K_0
              exact all_nil
            have dr6_5 : ∀ (A6_6 : Option Addr) (c6_6 : Nat) (g6_1 : Nat) (W : World) (a : Act), En 50 a [(0, Value.pointer (some ⟨gd, 0, none⟩)), (1, Value.int .i64 x), (2, Value.int .i64 n), (6, Value.int .i64 0), (20, Value.bool false), (27, Value.bool false), (31, Value.pointer (some ⟨gd, 0, none⟩)), (32, Value.slice (some ⟨g6_1, 0, none⟩) 0 0), (33, Value.pointer (some ⟨gd, 0, none⟩)), (34, Value.pointer (some ⟨gd, 0, none⟩)), (35, Value.pointer (some ⟨gd, 1, none⟩)), (36, Value.slice AM1 M.length cM2), (37, Value.slice A6_6 (0 + M.length) c6_6), (38, Value.int .i64 x), (39, Value.pointer (some ⟨gd, 0, none⟩)), (40, Value.pointer (some ⟨gd, 0, none⟩)), (41, Value.pointer (some ⟨gd, 0, none⟩)), (43, Value.int .i64 n)] → W.heap[gd]? = some (.cells #[Value.int .i64 now, Value.slice AM1 M.length cM2] 50 (0, 0)) → (∀ k, OB AM1 k → ¬ OB A6_6 k) → ¬ OB A6_6 gd → (∀ k, OB A6_6 k → (fun k => k = gd) k ∨ w.heap.size ≤ k) → (∀ k, OB A6_6 k → ¬ OB AM1 k) → Rv.RdV W AM1 M.length 2 (flT M) → W.ownsRow w.heap.size 77 2 (.slice A6_6 (0 + M.length) c6_6) (0 + M.length) ([] ++ (flT M)) → Kp w W (fun k => k = gd) → wpAnyH Try.prog .any (regOf Try.f18 6) QQ (fun W => True) 8 #[true, true, true, true, true, true, true, true, true, true, true, false, true, false, false, false, false, false, false, false] a W := by
              intro A6_6 c6_6 g6_1 w61 a hE B_gd NN_M_q6_6 Nb_q6_6_gd Z_0_q6_6 NN_q6_6_M O_M O_q6_6 K_0
              refine d_all (rs := [11]) (by kernel_rfl) rfl ?_
              refine all_cons (d_lit (listed' := #[true, true, true, true, true, true, true, true, true, true, true, true, true, false, false, false, false, false, false, false]) rfl ?_) ?_
              ·
                refine (s_still p18_6_11 hE wn_none rfl (st_load1 tA3 rfl ((blk_cell B_gd 0).trans rfl)) ?_)
                clear hE a; intro a hE
                refine ⟨trivial, ?_⟩
                refine Rv.dq (listed' := #[true, true, true, true, true, true, true, true, true, true, true, true, true, true, false, false, false, false, false, false]) (v := Value.int .i64 (now + n)) p18_6_13 ns18_6 hE wn_none trivial (fun W hS => (st_add (z := now + n) rfl rfl (wr_i64 _ (by omega) (by omega)))) ?_ (fun c a w h => hQ c a _ _ w h); clear hE a; intro a hE
                refine Rv.dq (listed' := #[true, true, true, true, true, true, true, true, true, true, true, true, true, true, true, false, false, false, false, false]) (v := Value.agg #[Value.int .i64 x, Value.int .i64 (now + n)]) p18_6_14 ns18_6 hE wn_none trivial (fun W hS => (st_build (xs := [(0, Operand.tmp 38), (1, Operand.tmp 44)]) (vs := [(0, Value.int .i64 x), (1, Value.int .i64 (now + n))]) (cs := #[Value.int .i64 x, Value.int .i64 (now + n)]) rfl (by kernel_rfl))) ?_ (fun c a w h => hQ c a _ _ w h); clear hE a; intro a hE
                exact dr6_12 A6_6 c6_6 g6_1 _ a (En.sub hE ⟨rfl, rfl, rfl, rfl, rfl, rfl, rfl, rfl, rfl, rfl, rfl, rfl, rfl, rfl, rfl, rfl, rfl, rfl, rfl, rfl, rfl, trivial⟩) B_gd NN_M_q6_6 Nb_q6_6_gd Z_0_q6_6 NN_q6_6_M O_M O_q6_6 K_0
              exact all_nil
            have dr6_4 : ∀ (W : World) (a : Act), En 50 a [(0, Value.pointer (some ⟨gd, 0, none⟩)), (1, Value.int .i64 x), (2, Value.int .i64 n), (6, Value.int .i64 0), (20, Value.bool false), (27, Value.bool false), (31, Value.pointer (some ⟨gd, 0, none⟩)), (33, Value.pointer (some ⟨gd, 0, none⟩)), (34, Value.pointer (some ⟨gd, 0, none⟩)), (35, Value.pointer (some ⟨gd, 1, none⟩)), (38, Value.int .i64 x), (39, Value.pointer (some ⟨gd, 0, none⟩)), (40, Value.pointer (some ⟨gd, 0, none⟩)), (41, Value.pointer (some ⟨gd, 0, none⟩)), (42, Value.int .i64 now), (43, Value.int .i64 n), (44, Value.int .i64 (now + n)), (45, Value.agg #[Value.int .i64 x, Value.int .i64 (now + n)])] → W.heap[gd]? = some (.cells #[Value.int .i64 now, Value.slice AM1 M.length cM2] 50 (0, 0)) → Rv.RdV W AM1 M.length 2 (flT M) → Kp w W (fun k => k = gd) → wpAnyH Try.prog .any (regOf Try.f18 6) QQ (fun W => True) 8 #[true, false, true, true, true, false, false, true, true, true, true, true, true, true, true, false, false, false, false, false] a W := by
              intro w62 a hE B_gd O_M K_0
              refine d_all (rs := [1, 5, 15]) (by kernel_rfl) rfl ?_
              refine all_cons (d_lit (listed' := #[true, true, true, true, true, false, false, true, true, true, true, true, true, true, true, false, false, false, false, false]) rfl ?_) ?_
              ·
                refine (s_row (xs := []) (vs := []) (cs := #[]) p18_6_1 hE wn_none rfl Try.underlying48 rfl (by kernel_rfl) ?_)
                clear hE a; intro g6_1 w63 z64 B_g6_1 hk a hE
                have n_gd_g6_1 : gd ≠ g6_1 := ne_new B_gd z64
                have z_0_g6_1 := Nat.le_trans K_0.kept.1 z64
                have Nb_M_g6_1 : ¬ OB AM1 g6_1 := fun h => by have := (Rv.rdv_ob O_M h).2; omega
                replace B_gd := kp_blk B_gd hk (fun h => h)
                replace O_M := Rv.rdv_keep O_M hk (fun _ _ h => h)
                replace K_0 := K_0.then_ hk (fun _ h => h.elim)
                clear hk
                refine ⟨trivial, ?_⟩
                have n_g6_1_gd := Ne.symm n_gd_g6_1
                exact dr6_7 g6_1 _ a (En.sub hE ⟨rfl, rfl, rfl, rfl, rfl, rfl, rfl, rfl, rfl, rfl, rfl, rfl, rfl, rfl, rfl, rfl, rfl, rfl, rfl, trivial⟩) B_gd B_g6_1 n_g6_1_gd z_0_g6_1 Nb_M_g6_1 O_M K_0
              refine all_cons (d_lit (listed' := #[true, false, true, true, true, true, false, true, true, true, true, true, true, true, true, false, false, false, false, false]) rfl ?_) ?_
              ·
                refine (s_still p18_6_5 hE wn_none rfl (st_load1 tA48 rfl ((blk_cell B_gd 1).trans rfl)) ?_)
                clear hE a; intro a hE
                refine ⟨trivial, ?_⟩
                exact dr6_6 _ a (En.sub hE ⟨rfl, rfl, rfl, rfl, rfl, rfl, rfl, rfl, rfl, rfl, rfl, rfl, rfl, rfl, rfl, rfl, rfl, rfl, rfl, trivial⟩) B_gd O_M K_0
              refine all_cons (d_lit (listed' := #[true, false, true, true, true, false, false, true, true, true, true, true, true, true, true, true, false, false, false, false]) rfl ?_) ?_
              ·
                refine (s_row (xs := [(0, Operand.tmp 45)]) (vs := [(0, Value.agg #[Value.int .i64 x, Value.int .i64 (now + n)])]) (cs := #[Value.int .i64 x, Value.int .i64 (now + n)]) p18_6_15 hE wn_none rfl Try.underlying48 rfl (by kernel_rfl) ?_)
                clear hE a; intro g6_15 w65 z66 B_g6_15 hk a hE
                have n_gd_g6_15 : gd ≠ g6_15 := ne_new B_gd z66
                have z_0_g6_15 := Nat.le_trans K_0.kept.1 z66
                have Nb_M_g6_15 : ¬ OB AM1 g6_15 := fun h => by have := (Rv.rdv_ob O_M h).2; omega
                replace B_gd := kp_blk B_gd hk (fun h => h)
                replace O_M := Rv.rdv_keep O_M hk (fun _ _ h => h)
                replace K_0 := K_0.then_ hk (fun _ h => h.elim)
                clear hk
                refine ⟨trivial, ?_⟩
                have n_g6_15_gd := Ne.symm n_gd_g6_15
                exact dr6_8 g6_15 _ a (En.sub hE ⟨rfl, rfl, rfl, rfl, rfl, rfl, rfl, rfl, rfl, rfl, rfl, rfl, rfl, rfl, rfl, rfl, rfl, rfl, rfl, trivial⟩) B_gd B_g6_15 n_g6_15_gd z_0_g6_15 Nb_M_g6_15 O_M K_0
              exact all_nil
            have dr6_3 : ∀ (g6_1 : Nat) (W : World) (a : Act), En 50 a [(0, Value.pointer (some ⟨gd, 0, none⟩)), (1, Value.int .i64 x), (2, Value.int .i64 n), (6, Value.int .i64 0), (20, Value.bool false), (27, Value.bool false), (31, Value.pointer (some ⟨gd, 0, none⟩)), (32, Value.slice (some ⟨g6_1, 0, none⟩) 0 0), (33, Value.pointer (some ⟨gd, 0, none⟩)), (34, Value.pointer (some ⟨gd, 0, none⟩)), (35, Value.pointer (some ⟨gd, 1, none⟩)), (36, Value.slice AM1 M.length cM2), (38, Value.int .i64 x), (39, Value.pointer (some ⟨gd, 0, none⟩)), (40, Value.pointer (some ⟨gd, 0, none⟩)), (41, Value.pointer (some ⟨gd, 0, none⟩)), (43, Value.int .i64 n)] → W.heap[gd]? = some (.cells #[Value.int .i64 now, Value.slice AM1 M.length cM2] 50 (0, 0)) → W.heap[g6_1]? = some (.cells #[] 77 (0, 0)) → g6_1 ≠ gd → w.heap.size ≤ g6_1 → ¬ OB AM1 g6_1 → Rv.RdV W AM1 M.length 2 (flT M) → Kp w W (fun k => k = gd) → wpAnyH Try.prog .any (regOf Try.f18 6) QQ (fun W => True) 9 #[true, true, true, true, true, true, false, true, true, true, true, false, true, false, false, false, false, false, false, false] a W := by
              intro g6_1 w67 a hE B_gd B_g6_1 n_g6_1_gd z_0_g6_1 Nb_M_g6_1 O_M K_0
              refine d_all (rs := [6, 11]) (by kernel_rfl) rfl ?_
              refine all_cons (d_lit (listed' := #[true, true, true, true, true, true, true, true, true, true, true, false, true, false, false, false, false, false, false, false]) rfl ?_) ?_
              ·
                have O_q6_6 := own_blk0 (s := 2) B_g6_1 (show w.heap.size ≤ g6_1 from z_0_g6_1)
                have Nb_q6_6_gd : ¬ OB (some ⟨g6_1, 0, none⟩) gd := fun h => by have h := ob_blk.1 h; exact n_g6_1_gd h
                have Z_0_q6_6 : ∀ k, OB (some ⟨g6_1, 0, none⟩) k → (fun k => k = gd) k ∨ w.heap.size ≤ k := fun k h => by have h := ob_blk.1 h; subst h; exact Or.inr z_0_g6_1
                have NN_q6_6_M : ∀ k, OB (some ⟨g6_1, 0, none⟩) k → ¬ OB AM1 k := fun k h h2 => by have h := ob_blk.1 h; subst h; exact Nb_M_g6_1 h2
                have NN_M_q6_6 : ∀ k, OB AM1 k → ¬ OB (some ⟨g6_1, 0, none⟩) k := fun k h h2 => NN_q6_6_M k h2 h
                refine (Rv.s_appendV (s := 2) (xs := []) p18_6_6 hE wn_none rfl Try.underlying48 eD77 (by decide) rfl O_q6_6 rfl O_M (by omega) (by omega) K_0.kept.1 ?_ hc_M.2)
                clear hE a; intro A6_6 c6_6 w68 O_q6_6' hk hat a hE
                have Nb_q6_6_gd' := grow_n Nb_q6_6_gd (blk_lt B_gd) hat
                have NN_M_q6_6' : ∀ k, OB AM1 k → ¬ OB A6_6 k := fun k h h2 => (hat k h2).elim (NN_M_q6_6 k h) (fun h3 => by have := (Rv.rdv_ob O_M h).2; omega)
                have Z_0_q6_6' := grow_z Z_0_q6_6 K_0.kept.1 hat
                replace B_gd := kp_blk B_gd hk Nb_q6_6_gd
                replace O_M := Rv.rdv_keep O_M hk NN_M_q6_6
                replace K_0 := K_0.then_ hk Z_0_q6_6
                replace Nb_q6_6_gd := Nb_q6_6_gd'
                replace NN_M_q6_6 := NN_M_q6_6'
                replace NN_q6_6_M : ∀ k, OB A6_6 k → ¬ OB AM1 k := fun k h h2 => NN_M_q6_6 k h2 h
                replace Z_0_q6_6 := Z_0_q6_6'
                replace O_q6_6 := O_q6_6'
                try clear O_q6_6'
                clear hk hat
                refine ⟨trivial, ?_⟩
                exact dr6_5 A6_6 c6_6 g6_1 _ a (En.sub hE ⟨rfl, rfl, rfl, rfl, rfl, rfl, rfl, rfl, rfl, rfl, rfl, rfl, rfl, rfl, rfl, rfl, rfl, rfl, trivial⟩) B_gd NN_M_q6_6 Nb_q6_6_gd Z_0_q6_6 NN_q6_6_M O_M O_q6_6 K_0
              refine all_cons (d_lit (listed' := #[true, true, true, true, true, true, false, true, true, true, true, true, true, false, false, false, false, false, false, false]) rfl ?_) ?_
              ·
                refine (s_still p18_6_11 hE wn_none rfl (st_load1 tA3 rfl ((blk_cell B_gd 0).trans rfl)) ?_)
                clear hE a; intro a hE
                refine ⟨trivial, ?_⟩
                refine Rv.dq (listed' := #[true, true, true, true, true, true, false, true, true, true, true, true, true, true, false, false, false, false, false, false]) (v := Value.int .i64 (now + n)) p18_6_13 ns18_6 hE wn_none trivial (fun W hS => (st_add (z := now + n) rfl rfl (wr_i64 _ (by omega) (by omega)))) ?_ (fun c a w h => hQ c a _ _ w h); clear hE a; intro a hE
                refine Rv.dq (listed' := #[true, true, true, true, true, true, false, true, true, true, true, true, true, true, true, false, false, false, false, false]) (v := Value.agg #[Value.int .i64 x, Value.int .i64 (now + n)]) p18_6_14 ns18_6 hE wn_none trivial (fun W hS => (st_build (xs := [(0, Operand.tmp 38), (1, Operand.tmp 44)]) (vs := [(0, Value.int .i64 x), (1, Value.int .i64 (now + n))]) (cs := #[Value.int .i64 x, Value.int .i64 (now + n)]) rfl (by kernel_rfl))) ?_ (fun c a w h => hQ c a _ _ w h); clear hE a; intro a hE
                exact dr6_10 g6_1 _ a (En.sub hE ⟨rfl, rfl, rfl, rfl, rfl, rfl, rfl, rfl, rfl, rfl, rfl, rfl, rfl, rfl, rfl, rfl, rfl, rfl, rfl, rfl, trivial⟩) B_gd B_g6_1 n_g6_1_gd z_0_g6_1 Nb_M_g6_1 O_M K_0
              exact all_nil
            have dr6_2 : ∀ (W : World) (a : Act), En 50 a [(0, Value.pointer (some ⟨gd, 0, none⟩)), (1, Value.int .i64 x), (2, Value.int .i64 n), (6, Value.int .i64 0), (20, Value.bool false), (27, Value.bool false), (31, Value.pointer (some ⟨gd, 0, none⟩)), (33, Value.pointer (some ⟨gd, 0, none⟩)), (34, Value.pointer (some ⟨gd, 0, none⟩)), (35, Value.pointer (some ⟨gd, 1, none⟩)), (36, Value.slice AM1 M.length cM2), (38, Value.int .i64 x), (39, Value.pointer (some ⟨gd, 0, none⟩)), (40, Value.pointer (some ⟨gd, 0, none⟩)), (41, Value.pointer (some ⟨gd, 0, none⟩)), (43, Value.int .i64 n)] → W.heap[gd]? = some (.cells #[Value.int .i64 now, Value.slice AM1 M.length cM2] 50 (0, 0)) → Rv.RdV W AM1 M.length 2 (flT M) → Kp w W (fun k => k = gd) → wpAnyH Try.prog .any (regOf Try.f18 6) QQ (fun W => True) 10 #[true, false, true, true, true, true, false, true, true, true, true, false, true, false, false, false, false, false, false, false] a W := by
              intro w69 a hE B_gd O_M K_0
              refine d_all (rs := [1, 11]) (by kernel_rfl) rfl ?_
              refine all_cons (d_lit (listed' := #[true, true, true, true, true, true, false, true, true, true, true, false, true, false, false, false, false, false, false, false]) rfl ?_) ?_
              ·
                refine (s_row (xs := []) (vs := []) (cs := #[]) p18_6_1 hE wn_none rfl Try.underlying48 rfl (by kernel_rfl) ?_)
                clear hE a; intro g6_1 w70 z71 B_g6_1 hk a hE
                have n_gd_g6_1 : gd ≠ g6_1 := ne_new B_gd z71
                have z_0_g6_1 := Nat.le_trans K_0.kept.1 z71
                have Nb_M_g6_1 : ¬ OB AM1 g6_1 := fun h => by have := (Rv.rdv_ob O_M h).2; omega
                replace B_gd := kp_blk B_gd hk (fun h => h)
                replace O_M := Rv.rdv_keep O_M hk (fun _ _ h => h)
                replace K_0 := K_0.then_ hk (fun _ h => h.elim)
                clear hk
                refine ⟨trivial, ?_⟩
                have n_g6_1_gd := Ne.symm n_gd_g6_1
                exact dr6_3 g6_1 _ a (En.sub hE ⟨rfl, rfl, rfl, rfl, rfl, rfl, rfl, rfl, rfl, rfl, rfl, rfl, rfl, rfl, rfl, rfl, rfl, trivial⟩) B_gd B_g6_1 n_g6_1_gd z_0_g6_1 Nb_M_g6_1 O_M K_0
              refine all_cons (d_lit (listed' := #[true, false, true, true, true, true, false, true, true, true, true, true, true, false, false, false, false, false, false, false]) rfl ?_) ?_
              ·
                refine (s_still p18_6_11 hE wn_none rfl (st_load1 tA3 rfl ((blk_cell B_gd 0).trans rfl)) ?_)
                clear hE a; intro a hE
                refine ⟨trivial, ?_⟩
                refine Rv.dq (listed' := #[true, false, true, true, true, true, false, true, true, true, true, true, true, true, false, false, false, false, false, false]) (v := Value.int .i64 (now + n)) p18_6_13 ns18_6 hE wn_none trivial (fun W hS => (st_add (z := now + n) rfl rfl (wr_i64 _ (by omega) (by omega)))) ?_ (fun c a w h => hQ c a _ _ w h); clear hE a; intro a hE
                refine Rv.dq (listed' := #[true, false, true, true, true, true, false, true, true, true, true, true, true, true, true, false, false, false, false, false]) (v := Value.agg #[Value.int .i64 x, Value.int .i64 (now + n)]) p18_6_14 ns18_6 hE wn_none trivial (fun W hS => (st_build (xs := [(0, Operand.tmp 38), (1, Operand.tmp 44)]) (vs := [(0, Value.int .i64 x), (1, Value.int .i64 (now + n))]) (cs := #[Value.int .i64 x, Value.int .i64 (now + n)]) rfl (by kernel_rfl))) ?_ (fun c a w h => hQ c a _ _ w h); clear hE a; intro a hE
                exact dr6_6 _ a (En.sub hE ⟨rfl, rfl, rfl, rfl, rfl, rfl, rfl, rfl, rfl, rfl, rfl, rfl, rfl, rfl, rfl, rfl, rfl, rfl, rfl, trivial⟩) B_gd O_M K_0
              exact all_nil
            have dr6_1 : ∀ (g6_1 : Nat) (W : World) (a : Act), En 50 a [(0, Value.pointer (some ⟨gd, 0, none⟩)), (1, Value.int .i64 x), (2, Value.int .i64 n), (6, Value.int .i64 0), (20, Value.bool false), (27, Value.bool false), (31, Value.pointer (some ⟨gd, 0, none⟩)), (32, Value.slice (some ⟨g6_1, 0, none⟩) 0 0), (33, Value.pointer (some ⟨gd, 0, none⟩)), (34, Value.pointer (some ⟨gd, 0, none⟩)), (35, Value.pointer (some ⟨gd, 1, none⟩)), (38, Value.int .i64 x), (39, Value.pointer (some ⟨gd, 0, none⟩)), (40, Value.pointer (some ⟨gd, 0, none⟩)), (41, Value.pointer (some ⟨gd, 0, none⟩)), (43, Value.int .i64 n)] → W.heap[gd]? = some (.cells #[Value.int .i64 now, Value.slice AM1 M.length cM2] 50 (0, 0)) → W.heap[g6_1]? = some (.cells #[] 77 (0, 0)) → g6_1 ≠ gd → w.heap.size ≤ g6_1 → ¬ OB AM1 g6_1 → Rv.RdV W AM1 M.length 2 (flT M) → Kp w W (fun k => k = gd) → wpAnyH Try.prog .any (regOf Try.f18 6) QQ (fun W => True) 10 #[true, true, true, true, true, false, false, true, true, true, true, false, true, false, false, false, false, false, false, false] a W := by
              intro g6_1 w72 a hE B_gd B_g6_1 n_g6_1_gd z_0_g6_1 Nb_M_g6_1 O_M K_0
              refine d_all (rs := [5, 11]) (by kernel_rfl) rfl ?_
              refine all_cons (d_lit (listed' := #[true, true, true, true, true, true, false, true, true, true, true, false, true, false, false, false, false, false, false, false]) rfl ?_) ?_
              ·
                refine (s_still p18_6_5 hE wn_none rfl (st_load1 tA48 rfl ((blk_cell B_gd 1).trans rfl)) ?_)
                clear hE a; intro a hE
                refine ⟨trivial, ?_⟩
                exact dr6_3 g6_1 _ a (En.sub hE ⟨rfl, rfl, rfl, rfl, rfl, rfl, rfl, rfl, rfl, rfl, rfl, rfl, rfl, rfl, rfl, rfl, rfl, trivial⟩) B_gd B_g6_1 n_g6_1_gd z_0_g6_1 Nb_M_g6_1 O_M K_0
              refine all_cons (d_lit (listed' := #[true, true, true, true, true, false, false, true, true, true, true, true, true, false, false, false, false, false, false, false]) rfl ?_) ?_
              ·
                refine (s_still p18_6_11 hE wn_none rfl (st_load1 tA3 rfl ((blk_cell B_gd 0).trans rfl)) ?_)
                clear hE a; intro a hE
                refine ⟨trivial, ?_⟩
                refine Rv.dq (listed' := #[true, true, true, true, true, false, false, true, true, true, true, true, true, true, false, false, false, false, false, false]) (v := Value.int .i64 (now + n)) p18_6_13 ns18_6 hE wn_none trivial (fun W hS => (st_add (z := now + n) rfl rfl (wr_i64 _ (by omega) (by omega)))) ?_ (fun c a w h => hQ c a _ _ w h); clear hE a; intro a hE
                refine Rv.dq (listed' := #[true, true, true, true, true, false, false, true, true, true, true, true, true, true, true, false, false, false, false, false]) (v := Value.agg #[Value.int .i64 x, Value.int .i64 (now + n)]) p18_6_14 ns18_6 hE wn_none trivial (fun W hS => (st_build (xs := [(0, Operand.tmp 38), (1, Operand.tmp 44)]) (vs := [(0, Value.int .i64 x), (1, Value.int .i64 (now + n))]) (cs := #[Value.int .i64 x, Value.int .i64 (now + n)]) rfl (by kernel_rfl))) ?_ (fun c a w h => hQ c a _ _ w h); clear hE a; intro a hE
                exact dr6_7 g6_1 _ a (En.sub hE ⟨rfl, rfl, rfl, rfl, rfl, rfl, rfl, rfl, rfl, rfl, rfl, rfl, rfl, rfl, rfl, rfl, rfl, rfl, rfl, trivial⟩) B_gd B_g6_1 n_g6_1_gd z_0_g6_1 Nb_M_g6_1 O_M K_0
              exact all_nil
            have dr6_0 : ∀ (W : World) (a : Act), En 50 a [(0, Value.pointer (some ⟨gd, 0, none⟩)), (1, Value.int .i64 x), (2, Value.int .i64 n), (6, Value.int .i64 0), (20, Value.bool false), (27, Value.bool false), (31, Value.pointer (some ⟨gd, 0, none⟩)), (33, Value.pointer (some ⟨gd, 0, none⟩)), (34, Value.pointer (some ⟨gd, 0, none⟩)), (35, Value.pointer (some ⟨gd, 1, none⟩)), (38, Value.int .i64 x), (39, Value.pointer (some ⟨gd, 0, none⟩)), (40, Value.pointer (some ⟨gd, 0, none⟩)), (41, Value.pointer (some ⟨gd, 0, none⟩)), (43, Value.int .i64 n)] → W.heap[gd]? = some (.cells #[Value.int .i64 now, Value.slice AM1 M.length cM2] 50 (0, 0)) → Rv.RdV W AM1 M.length 2 (flT M) → Kp w W (fun k => k = gd) → wpAnyH Try.prog .any (regOf Try.f18 6) QQ (fun W => True) 11 #[true, false, true, true, true, false, false, true, true, true, true, false, true, false, false, false, false, false, false, false] a W := by
              intro w73 a hE B_gd O_M K_0
              refine d_all (rs := [1, 5, 11]) (by kernel_rfl) rfl ?_
              refine all_cons (d_lit (listed' := #[true, true, true, true, true, false, false, true, true, true, true, false, true, false, false, false, false, false, false, false]) rfl ?_) ?_
              ·
                refine (s_row (xs := []) (vs := []) (cs := #[]) p18_6_1 hE wn_none rfl Try.underlying48 rfl (by kernel_rfl) ?_)
                clear hE a; intro g6_1 w74 z75 B_g6_1 hk a hE
                have n_gd_g6_1 : gd ≠ g6_1 := ne_new B_gd z75
                have z_0_g6_1 := Nat.le_trans K_0.kept.1 z75
                have Nb_M_g6_1 : ¬ OB AM1 g6_1 := fun h => by have := (Rv.rdv_ob O_M h).2; omega
                replace B_gd := kp_blk B_gd hk (fun h => h)
                replace O_M := Rv.rdv_keep O_M hk (fun _ _ h => h)
                replace K_0 := K_0.then_ hk (fun _ h => h.elim)
                clear hk
                refine ⟨trivial, ?_⟩
                have n_g6_1_gd := Ne.symm n_gd_g6_1
                exact dr6_1 g6_1 _ a (En.sub hE ⟨rfl, rfl, rfl, rfl, rfl, rfl, rfl, rfl, rfl, rfl, rfl, rfl, rfl, rfl, rfl, rfl, trivial⟩) B_gd B_g6_1 n_g6_1_gd z_0_g6_1 Nb_M_g6_1 O_M K_0
              refine all_cons (d_lit (listed' := #[true, false, true, true, true, true, false, true, true, true, true, false, true, false, false, false, false, false, false, false]) rfl ?_) ?_
              ·
                refine (s_still p18_6_5 hE wn_none rfl (st_load1 tA48 rfl ((blk_cell B_gd 1).trans rfl)) ?_)
                clear hE a; intro a hE
                refine ⟨trivial, ?_⟩
                exact dr6_2 _ a (En.sub hE ⟨rfl, rfl, rfl, rfl, rfl, rfl, rfl, rfl, rfl, rfl, rfl, rfl, rfl, rfl, rfl, rfl, trivial⟩) B_gd O_M K_0
              refine all_cons (d_lit (listed' := #[true, false, true, true, true, false, false, true, true, true, true, true, true, false, false, false, false, false, false, false]) rfl ?_) ?_
              ·
                refine (s_still p18_6_11 hE wn_none rfl (st_load1 tA3 rfl ((blk_cell B_gd 0).trans rfl)) ?_)
                clear hE a; intro a hE
                refine ⟨trivial, ?_⟩
                refine Rv.dq (listed' := #[true, false, true, true, true, false, false, true, true, true, true, true, true, true, false, false, false, false, false, false]) (v := Value.int .i64 (now + n)) p18_6_13 ns18_6 hE wn_none trivial (fun W hS => (st_add (z := now + n) rfl rfl (wr_i64 _ (by omega) (by omega)))) ?_ (fun c a w h => hQ c a _ _ w h); clear hE a; intro a hE
                refine Rv.dq (listed' := #[true, false, true, true, true, false, false, true, true, true, true, true, true, true, true, false, false, false, false, false]) (v := Value.agg #[Value.int .i64 x, Value.int .i64 (now + n)]) p18_6_14 ns18_6 hE wn_none trivial (fun W hS => (st_build (xs := [(0, Operand.tmp 38), (1, Operand.tmp 44)]) (vs := [(0, Value.int .i64 x), (1, Value.int .i64 (now + n))]) (cs := #[Value.int .i64 x, Value.int .i64 (now + n)]) rfl (by kernel_rfl))) ?_ (fun c a w h => hQ c a _ _ w h); clear hE a; intro a hE
                exact dr6_4 _ a (En.sub hE ⟨rfl, rfl, rfl, rfl, rfl, rfl, rfl, rfl, rfl, rfl, rfl, rfl, rfl, rfl, rfl, rfl, rfl, rfl, trivial⟩) B_gd O_M K_0
              exact all_nil
            intro w4 hh hk
            replace B_gd := kp_blk B_gd hk (fun h => h)
            replace O_M := Rv.rdv_keep O_M hk (fun _ _ h => h)
            replace K_0 := K_0.then_ hk (fun _ h => h.elim)
            clear hh hk
            refine Rv.dq (listed' := #[true, false, false, false, false, false, false, false, false, false, false, false, false, false, false, false, false, false, false, false]) (v := Value.pointer (some ⟨gd, 0, none⟩)) p18_6_0 ns18_6 hE wn_none trivial (fun W hS => (st_move rfl)) ?_ (fun c a w h => hQ c a _ _ w h); clear hE a; intro a hE
            refine Rv.dq (listed' := #[true, false, true, false, false, false, false, false, false, false, false, false, false, false, false, false, false, false, false, false]) (v := Value.pointer (some ⟨gd, 0, none⟩)) p18_6_2 ns18_6 hE wn_none trivial (fun W hS => (st_move rfl)) ?_ (fun c a w h => hQ c a _ _ w h); clear hE a; intro a hE
            refine Rv.dq (listed' := #[true, false, true, true, false, false, false, false, false, false, false, false, false, false, false, false, false, false, false, false]) (v := Value.pointer (some ⟨gd, 0, none⟩)) p18_6_3 ns18_6 hE wn_none trivial (fun W hS => (st_nil rfl)) ?_ (fun c a w h => hQ c a _ _ w h); clear hE a; intro a hE
            refine Rv.dq (listed' := #[true, false, true, true, true, false, false, false, false, false, false, false, false, false, false, false, false, false, false, false]) (v := Value.pointer (some ⟨gd, 1, none⟩)) p18_6_4 ns18_6 hE wn_none trivial (fun W hS => (st_fieldAddr Try.underlying50 rfl tS48 rfl rfl)) ?_ (fun c a w h => hQ c a _ _ w h); clear hE a; intro a hE
            refine Rv.dq (listed' := #[true, false, true, true, true, false, false, true, false, false, false, false, false, false, false, false, false, false, false, false]) (v := Value.int .i64 x) p18_6_7 ns18_6 hE wn_none trivial (fun W hS => (st_move rfl)) ?_ (fun c a w h => hQ c a _ _ w h); clear hE a; intro a hE
            refine Rv.dq (listed' := #[true, false, true, true, true, false, false, true, true, false, false, false, false, false, false, false, false, false, false, false]) (v := Value.pointer (some ⟨gd, 0, none⟩)) p18_6_8 ns18_6 hE wn_none trivial (fun W hS => (st_move rfl)) ?_ (fun c a w h => hQ c a _ _ w h); clear hE a; intro a hE
            refine Rv.dq (listed' := #[true, false, true, true, true, false, false, true, true, true, false, false, false, false, false, false, false, false, false, false]) (v := Value.pointer (some ⟨gd, 0, none⟩)) p18_6_9 ns18_6 hE wn_none trivial (fun W hS => (st_nil rfl)) ?_ (fun c a w h => hQ c a _ _ w h); clear hE a; intro a hE
            refine Rv.dq (listed' := #[true, false, true, true, true, false, false, true, true, true, true, false, false, false, false, false, false, false, false, false]) (v := Value.pointer (some ⟨gd, 0, none⟩)) p18_6_10 ns18_6 hE wn_none trivial (fun W hS => (st_fieldAddr Try.underlying50 rfl tS3 rfl rfl)) ?_ (fun c a w h => hQ c a _ _ w h); clear hE a; intro a hE
            refine Rv.dq (listed' := #[true, false, true, true, true, false, false, true, true, true, true, false, true, false, false, false, false, false, false, false]) (v := Value.int .i64 n) p18_6_12 ns18_6 hE wn_none trivial (fun W hS => (st_move rfl)) ?_ (fun c a w h => hQ c a _ _ w h); clear hE a; intro a hE
            exact dr6_0 _ a (En.sub hE ⟨rfl, rfl, rfl, rfl, rfl, rfl, rfl, rfl, rfl, rfl, rfl, rfl, rfl, rfl, rfl, trivial⟩) B_gd O_M K_0
/-- The least time so far. -/
def LeastT (L : LW) (i : Nat) (b : Int) : Prop := (i = 0 ∧ b = -1) ∨ (0 ≤ b ∧ (∃ p ∈ L, p.2 = b) ∧ ∀ j p, j < i → L[j]? = some p → b ≤ p.2)
def nextR (L : LW) : Int := match firstI L with | none => -1 | some p => p.2
theorem least_take {L : LW} {i : Nat} {b : Int} {o : Int × Int} (h : LeastT L i b) (hx : L[i]? = some o) (ho : 0 ≤ o.2) (hc : b < 0 ∨ o.2 < b) : LeastT L (i + 1) o.2 := by
  refine .inr ⟨ho, ⟨o, List.mem_of_getElem? hx, rfl⟩, fun j p hj hp => ?_⟩
  rcases Nat.lt_or_ge j i with q | q
  · rcases h with ⟨h1, _⟩ | ⟨h1, _, h3⟩
    · omega
    · have := h3 j p q hp; omega
  · obtain rfl : j = i := by omega
    rw [hx] at hp
    injection hp with hp
    rw [hp]; exact Int.le_refl _
theorem least_keep {L : LW} {i : Nat} {b : Int} {o : Int × Int} (h : LeastT L i b) (hx : L[i]? = some o) (h0 : ¬ b < 0) (hc : ¬ o.2 < b) : LeastT L (i + 1) b := by
  rcases h with ⟨_, h2⟩ | ⟨h1, h2, h3⟩
  · omega
  · refine .inr ⟨h1, h2, fun j p hj hp => ?_⟩
    rcases Nat.lt_or_ge j i with q | q
    · exact h3 j p q hp
    · obtain rfl : j = i := by omega
      rw [hx] at hp
      injection hp with hp
      rw [← hp]; omega
theorem least_end {L : LW} {b : Int} (h : LeastT L L.length b) : b = nextR L := by
  unfold nextR
  cases hf : firstI L with
  | none =>
    have := firstI_none.1 hf
    subst this
    rcases h with ⟨_, h⟩ | ⟨_, ⟨p, hp, _⟩, _⟩
    · exact h
    · cases hp
  | some p =>
    obtain ⟨h1, h2⟩ := firstI_spec hf
    rcases h with ⟨h0, _⟩ | ⟨h3, ⟨q, hq, he⟩, h4⟩
    · have := List.eq_nil_of_length_eq_zero h0; subst this; cases hf
    · obtain ⟨j, hj, e⟩ := List.getElem_of_mem h1
      have a := h4 j p hj (by rw [List.getElem?_eq_getElem hj, e])
      have b := h2 q hq
      unfold lex at b
      show _ = p.2
      omega
theorem R39_0_l : List.range (regOf Try.f39 0).size = [0] := by kernel_rfl
theorem R39_1_l : List.range (regOf Try.f39 1).size = [0] := by kernel_rfl
theorem R39_2_l : List.range (regOf Try.f39 2).size = [0] := by kernel_rfl
theorem R39_3_l : List.range (regOf Try.f39 3).size = [0, 1, 2, 3, 4, 5, 6] := by kernel_rfl
theorem R39_5_l : List.range (regOf Try.f39 5).size = [0, 1, 2, 3, 4, 5, 6, 7, 8, 9, 10, 11, 12, 13] := by kernel_rfl
theorem R39_6_l : List.range (regOf Try.f39 6).size = [0, 1, 2, 3, 4, 5, 6, 7, 8] := by kernel_rfl
theorem R39_4_l : List.range (regOf Try.f39 4).size = [0, 1, 2] := by kernel_rfl
theorem R39_7_l : List.range (regOf Try.f39 7).size = [0, 1] := by kernel_rfl
theorem body39 : Try.f39.body = some (.seq (.region 0 (regOf Try.f39 0) false) (.seq (.region 1 (regOf Try.f39 1) false) (.seq (.seq (.region 2 (regOf Try.f39 2) false) (.block 0 (.loop (.seq (.seq (.region 3 (regOf Try.f39 3) false) (.cond (Operand.tmp 11) (.skip) (.exit 0))) (.seq (.block 1 (.seq (.region 5 (regOf Try.f39 5) false) (.cond (Operand.tmp 27) (.region 6 (regOf Try.f39 6) false) (.skip)))) (.region 4 (regOf Try.f39 4) false)))))) (.seq (.region 7 (regOf Try.f39 7) false) (.ret))))) := by kernel_rfl
theorem p39_0_0 : pj (regOf Try.f39 0) 0 = some (some 2, .assign (.const (.int .i64 0)), 3, none) := by kernel_rfl
theorem p39_1_0 : pj (regOf Try.f39 1) 0 = some (some 3, .assign (.const (.int .i64 (-1))), 3, none) := by kernel_rfl
theorem p39_2_0 : pj (regOf Try.f39 2) 0 = some (some 4, .assign (.const (.int .i64 0)), 3, none) := by kernel_rfl
theorem p39_3_0 : pj (regOf Try.f39 3) 0 = some (some 5, .move (.tmp 4), 3, none) := by kernel_rfl
theorem p39_3_1 : pj (regOf Try.f39 3) 1 = some (some 6, .move (.tmp 0), 47, none) := by kernel_rfl
theorem p39_3_2 : pj (regOf Try.f39 3) 2 = some (some 7, .nilCheck (.tmp 6), 0, none) := by kernel_rfl
theorem p39_3_3 : pj (regOf Try.f39 3) 3 = some (some 8, .fieldAddr 50 (.tmp 7) 1, 0, none) := by kernel_rfl
theorem p39_3_4 : pj (regOf Try.f39 3) 4 = some (some 9, .load 48 (.tmp 8), 48, none) := by kernel_rfl
theorem p39_3_5 : pj (regOf Try.f39 3) 5 = some (some 10, .call { callee := .builtin .len, args := #[.tmp 9], argTypes := #[48] }, 3, none) := by kernel_rfl
theorem p39_3_6 : pj (regOf Try.f39 3) 6 = some (some 11, .binOp .lss 3 (.tmp 5) (.tmp 10) 3, 4, none) := by kernel_rfl
theorem p39_5_0 : pj (regOf Try.f39 5) 0 = some (some 14, .move (.tmp 3), 3, none) := by kernel_rfl
theorem p39_5_1 : pj (regOf Try.f39 5) 1 = some (some 15, .binOp .lss 3 (.tmp 14) (.const (.int .i64 0)) 3, 4, none) := by kernel_rfl
theorem p39_5_2 : pj (regOf Try.f39 5) 2 = some (some 16, .move (.tmp 15), 4, none) := by kernel_rfl
theorem p39_5_3 : pj (regOf Try.f39 5) 3 = some (some 17, .move (.tmp 0), 47, some (2, false)) := by kernel_rfl
theorem g39_5_2 : dstOf (regOf Try.f39 5) 2 = some 16 := by kernel_rfl
theorem p39_5_4 : pj (regOf Try.f39 5) 4 = some (some 18, .nilCheck (.tmp 17), 0, some (2, false)) := by kernel_rfl
theorem p39_5_5 : pj (regOf Try.f39 5) 5 = some (some 19, .fieldAddr 50 (.tmp 18) 1, 0, some (2, false)) := by kernel_rfl
theorem p39_5_6 : pj (regOf Try.f39 5) 6 = some (some 20, .load 48 (.tmp 19), 48, some (2, false)) := by kernel_rfl
theorem p39_5_7 : pj (regOf Try.f39 5) 7 = some (some 21, .move (.tmp 4), 3, some (2, false)) := by kernel_rfl
theorem p39_5_8 : pj (regOf Try.f39 5) 8 = some (some 22, .indexAddr 48 (.tmp 20) (.tmp 21), 0, some (2, false)) := by kernel_rfl
theorem p39_5_9 : pj (regOf Try.f39 5) 9 = some (some 23, .fieldAddr 77 (.tmp 22) 1, 0, some (2, false)) := by kernel_rfl
theorem p39_5_10 : pj (regOf Try.f39 5) 10 = some (some 24, .load 3 (.tmp 23), 3, some (2, false)) := by kernel_rfl
theorem p39_5_11 : pj (regOf Try.f39 5) 11 = some (some 25, .move (.tmp 3), 3, some (2, false)) := by kernel_rfl
theorem p39_5_12 : pj (regOf Try.f39 5) 12 = some (some 26, .binOp .lss 3 (.tmp 24) (.tmp 25) 3, 4, some (2, false)) := by kernel_rfl
theorem p39_5_13 : pj (regOf Try.f39 5) 13 = some (some 27, .pick (.tmp 16) (.const (.bool true)) (.tmp 26), 4, none) := by kernel_rfl
theorem p39_6_0 : pj (regOf Try.f39 6) 0 = some (some 28, .move (.tmp 0), 47, none) := by kernel_rfl
theorem p39_6_1 : pj (regOf Try.f39 6) 1 = some (some 29, .nilCheck (.tmp 28), 0, none) := by kernel_rfl
theorem p39_6_2 : pj (regOf Try.f39 6) 2 = some (some 30, .fieldAddr 50 (.tmp 29) 1, 0, none) := by kernel_rfl
theorem p39_6_3 : pj (regOf Try.f39 6) 3 = some (some 31, .load 48 (.tmp 30), 48, none) := by kernel_rfl
theorem p39_6_4 : pj (regOf Try.f39 6) 4 = some (some 32, .move (.tmp 4), 3, none) := by kernel_rfl
theorem p39_6_5 : pj (regOf Try.f39 6) 5 = some (some 33, .indexAddr 48 (.tmp 31) (.tmp 32), 0, none) := by kernel_rfl
theorem p39_6_6 : pj (regOf Try.f39 6) 6 = some (some 34, .fieldAddr 77 (.tmp 33) 1, 0, none) := by kernel_rfl
theorem p39_6_7 : pj (regOf Try.f39 6) 7 = some (some 35, .load 3 (.tmp 34), 3, none) := by kernel_rfl
theorem p39_6_8 : pj (regOf Try.f39 6) 8 = some (some 3, .assign (.tmp 35), 3, none) := by kernel_rfl
theorem p39_4_0 : pj (regOf Try.f39 4) 0 = some (some 12, .move (.tmp 4), 3, none) := by kernel_rfl
theorem p39_4_1 : pj (regOf Try.f39 4) 1 = some (some 13, .binOp .add 3 (.tmp 12) (.const (.int .i64 1)) 3, 3, none) := by kernel_rfl
theorem p39_4_2 : pj (regOf Try.f39 4) 2 = some (some 4, .assign (.tmp 13), 3, none) := by kernel_rfl
theorem p39_7_0 : pj (regOf Try.f39 7) 0 = some (some 36, .move (.tmp 3), 3, none) := by kernel_rfl
theorem p39_7_1 : pj (regOf Try.f39 7) 1 = some (some 2, .assign (.tmp 36), 3, none) := by kernel_rfl
set_option maxHeartbeats 4000000 in
theorem rnext_any (gd : Nat) (A : Option Addr) (c : Nat) (L : LW) (now : Int) (hps : ∀ p ∈ L, 0 ≤ p.2) (w : World) (hd : w.heap[gd]? = some (.cells #[.int .i64 now, .slice A L.length c] 50 (0, 0))) (hR : Rv.RdV w A L.length 2 (flT L)) (hcA : L.length ≤ c ∧ (A = none → c = 0)) (hll : L.length ≤ 1000) (hnd : ¬ OB A gd) : Calls Try.prog 39 #[.pointer (some ⟨gd, 0, none⟩)] w fun e w' => e = .returned (.int .i64 (nextR L)) ∧ Kp w w' (fun _ => False) := by
  have K_0 := Kp.refl w (fun _ => False)
  have B_gd := hd
  have O_L := hR
  have Nb_L_gd := hnd
  refine enter (args := [Value.pointer (some ⟨gd, 0, none⟩)]) (n := 37) Try.func39 body39 rfl rfl rfl ?_
  intro a hE
  refine c_reg R39_0_l ?_
  refine q0 p39_0_0 hE (st_assign rfl) ?_
  clear hE a; intro a hE
  refine p_nil ?_
  refine x_norm ?_
  refine c_reg R39_1_l ?_
  refine q0 p39_1_0 hE (st_assign rfl) ?_
  clear hE a; intro a hE
  refine p_nil ?_
  refine x_norm ?_
  refine wp_seq ?_
  refine c_reg R39_2_l ?_
  refine q0 p39_2_0 hE (st_assign rfl) ?_
  clear hE a; intro a hE
  refine p_nil ?_
  refine x_norm ?_
  refine wp_block ?_
  refine c_loop (α := Nat) (fun i a W => ∃ (best : Int), En 37 a [(0, Value.pointer (some ⟨gd, 0, none⟩)), (2, Value.int .i64 0), (4, Value.int .i64 (i : Int)), (3, Value.int .i64 best)] ∧ i ≤ L.length ∧ LeastT L i best ∧ W.heap[gd]? = some (.cells #[Value.int .i64 now, Value.slice A L.length c] 50 (0, 0)) ∧ Rv.RdV W A L.length 2 (flT L) ∧ ¬ OB A gd ∧ Kp w W (fun _ => False)) (fun i => L.length - i) (0) ?_ ?_
  ·
    exact ⟨(-1), En.sub hE ⟨rfl, rfl, rfl, rfl, trivial⟩, Nat.zero_le _, (.inl ⟨rfl, rfl⟩), B_gd, O_L, Nb_L_gd, K_0⟩
  ·
    clear hE a
    rintro i a w1 ⟨best, hE, hi9, hle, B_gd, O_L, Nb_L_gd, K_0⟩
    refine wp_seq ?_
    rcases Decidable.em ((i : Int) < (L.length : Int)) with hK1 | hK1
    ·
      refine c_reg R39_3_l ?_
      refine q0 p39_3_0 hE (st_move rfl) ?_
      clear hE a; intro a hE
      refine q0 p39_3_1 hE (st_move rfl) ?_
      clear hE a; intro a hE
      refine q0 p39_3_2 hE (st_nil rfl) ?_
      clear hE a; intro a hE
      refine q0 p39_3_3 hE (st_fieldAddr Try.underlying50 rfl tS48 rfl rfl) ?_
      clear hE a; intro a hE
      refine q0 p39_3_4 hE (st_load1 tA48 rfl ((blk_cell B_gd 1).trans rfl)) ?_
      clear hE a; intro a hE
      refine q0 p39_3_5 hE (st_len Try.underlying48 rfl) ?_
      clear hE a; intro a hE
      refine q0 p39_3_6 hE (st_lss (b := true) rfl rfl (decide_eq_true hK1)) ?_
      clear hE a; intro a hE
      refine p_nil ?_
      refine x_norm ?_
      refine c_cond (t := true) hE rfl ?_
      refine wp_skip ?_
      refine x_norm ?_
      refine wp_seq ?_
      refine wp_block ?_
      obtain ⟨o, hx⟩ : ∃ o, L[i]? = some o := ⟨_, List.getElem?_eq_getElem (by omega)⟩
      have hAeo := (Rv.rdv_elem (fl := fl2) O_L (by decide) (fun _ => rfl) hx).1
      rcases Decidable.em (best < 0) with hB0 | hB0
      ·
        refine c_reg R39_5_l ?_
        refine q0 p39_5_0 hE (st_move rfl) ?_
        clear hE a; intro a hE
        refine q0 p39_5_1 hE (st_lss (b := true) rfl rfl (decide_eq_true hB0)) ?_
        clear hE a; intro a hE
        refine q0 p39_5_2 hE (st_move rfl) ?_
        clear hE a; intro a hE
        refine p_cons (s_skip p39_5_3 hE (wn_some g39_5_2 rfl rfl) rfl ?_)
        clear hE a; intro a hE
        refine p_cons (s_skip p39_5_4 hE (wn_some g39_5_2 rfl rfl) rfl ?_)
        clear hE a; intro a hE
        refine p_cons (s_skip p39_5_5 hE (wn_some g39_5_2 rfl rfl) rfl ?_)
        clear hE a; intro a hE
        refine p_cons (s_skip p39_5_6 hE (wn_some g39_5_2 rfl rfl) rfl ?_)
        clear hE a; intro a hE
        refine p_cons (s_skip p39_5_7 hE (wn_some g39_5_2 rfl rfl) rfl ?_)
        clear hE a; intro a hE
        refine p_cons (s_skip p39_5_8 hE (wn_some g39_5_2 rfl rfl) rfl ?_)
        clear hE a; intro a hE
        refine p_cons (s_skip p39_5_9 hE (wn_some g39_5_2 rfl rfl) rfl ?_)
        clear hE a; intro a hE
        refine p_cons (s_skip p39_5_10 hE (wn_some g39_5_2 rfl rfl) rfl ?_)
        clear hE a; intro a hE
        refine p_cons (s_skip p39_5_11 hE (wn_some g39_5_2 rfl rfl) rfl ?_)
        clear hE a; intro a hE
        refine p_cons (s_skip p39_5_12 hE (wn_some g39_5_2 rfl rfl) rfl ?_)
        clear hE a; intro a hE
        refine q0 p39_5_13 hE (st_pick rfl rfl) ?_
        clear hE a; intro a hE
        refine p_nil ?_
        refine x_norm ?_
        refine c_cond (t := true) hE rfl ?_
        refine c_regL R39_6_l ?_
        refine q0 p39_6_0 hE (st_move rfl) ?_
        clear hE a; intro a hE
        refine q0 p39_6_1 hE (st_nil rfl) ?_
        clear hE a; intro a hE
        refine q0 p39_6_2 hE (st_fieldAddr Try.underlying50 rfl tS48 rfl rfl) ?_
        clear hE a; intro a hE
        refine q0 p39_6_3 hE (st_load1 tA48 rfl ((blk_cell B_gd 1).trans rfl)) ?_
        clear hE a; intro a hE
        refine q0 p39_6_4 hE (st_move rfl) ?_
        clear hE a; intro a hE
        refine q0 p39_6_5 hE (st_indexAddrR (i := i) (s := 2) Try.underlying48 tS77 hAeo rfl rfl (by omega)) ?_
        clear hE a; intro a hE
        refine q0 p39_6_6 hE (st_fieldAddrR (off := i * 2) (f0 := 1) (o' := i * 2 + 1) Try.underlying77 rfl tS3 rfl (by omega) rfl) ?_
        clear hE a; intro a hE
        refine q0 p39_6_7 hE (st_loadR1 (off := i * 2) (j := 1) tA3 (Rv.rdv_elem (fl := fl2) O_L (by decide) (fun _ => rfl) hx).2 rfl (by omega) rfl) ?_
        clear hE a; intro a hE
        refine q0 p39_6_8 hE (st_assign rfl) ?_
        clear hE a; intro a hE
        refine p_nil ?_
        refine x_normB ?_
        refine x_norm ?_
        refine c_regL R39_4_l ?_
        refine q0 p39_4_0 hE (st_move rfl) ?_
        clear hE a; intro a hE
        refine q0 p39_4_1 hE (st_add (z := (i : Int) + 1) rfl rfl (wr_i64 _ (by omega) (by omega))) ?_
        clear hE a; intro a hE
        refine q0 p39_4_2 hE (st_assign rfl) ?_
        clear hE a; intro a hE
        refine p_nil ?_
        refine x_norm ?_
        have hle9 := least_take hle hx (hps o (List.mem_of_getElem? hx)) (.inl hB0)
        exact ⟨i + 1, by omega, o.2, En.sub hE ⟨rfl, rfl, rfl, rfl, trivial⟩, by omega, hle9, B_gd, O_L, Nb_L_gd, K_0⟩
      ·
        rcases Decidable.em (o.2 < best) with hLT | hLT
        ·
          refine c_reg R39_5_l ?_
          refine q0 p39_5_0 hE (st_move rfl) ?_
          clear hE a; intro a hE
          refine q0 p39_5_1 hE (st_lss (b := false) rfl rfl (decide_eq_false hB0)) ?_
          clear hE a; intro a hE
          refine q0 p39_5_2 hE (st_move rfl) ?_
          clear hE a; intro a hE
          refine p_cons (s_still p39_5_3 hE (wn_some g39_5_2 rfl rfl) rfl (st_move rfl) ?_)
          clear hE a; intro a hE
          refine p_cons (s_still p39_5_4 hE (wn_some g39_5_2 rfl rfl) rfl (st_nil rfl) ?_)
          clear hE a; intro a hE
          refine p_cons (s_still p39_5_5 hE (wn_some g39_5_2 rfl rfl) rfl (st_fieldAddr Try.underlying50 rfl tS48 rfl rfl) ?_)
          clear hE a; intro a hE
          refine p_cons (s_still p39_5_6 hE (wn_some g39_5_2 rfl rfl) rfl (st_load1 tA48 rfl ((blk_cell B_gd 1).trans rfl)) ?_)
          clear hE a; intro a hE
          refine p_cons (s_still p39_5_7 hE (wn_some g39_5_2 rfl rfl) rfl (st_move rfl) ?_)
          clear hE a; intro a hE
          refine p_cons (s_still p39_5_8 hE (wn_some g39_5_2 rfl rfl) rfl (st_indexAddrR (i := i) (s := 2) Try.underlying48 tS77 hAeo rfl rfl (by omega)) ?_)
          clear hE a; intro a hE
          refine p_cons (s_still p39_5_9 hE (wn_some g39_5_2 rfl rfl) rfl (st_fieldAddrR (off := i * 2) (f0 := 1) (o' := i * 2 + 1) Try.underlying77 rfl tS3 rfl (by omega) rfl) ?_)
          clear hE a; intro a hE
          refine p_cons (s_still p39_5_10 hE (wn_some g39_5_2 rfl rfl) rfl (st_loadR1 (off := i * 2) (j := 1) tA3 (Rv.rdv_elem (fl := fl2) O_L (by decide) (fun _ => rfl) hx).2 rfl (by omega) rfl) ?_)
          clear hE a; intro a hE
          refine p_cons (s_still p39_5_11 hE (wn_some g39_5_2 rfl rfl) rfl (st_move rfl) ?_)
          clear hE a; intro a hE
          refine p_cons (s_still p39_5_12 hE (wn_some g39_5_2 rfl rfl) rfl (st_lss (b := true) rfl rfl (decide_eq_true hLT)) ?_)
          clear hE a; intro a hE
          refine q0 p39_5_13 hE (st_pick rfl rfl) ?_
          clear hE a; intro a hE
          refine p_nil ?_
          refine x_norm ?_
          refine c_cond (t := true) hE rfl ?_
          refine c_regL R39_6_l ?_
          refine q0 p39_6_0 hE (st_move rfl) ?_
          clear hE a; intro a hE
          refine q0 p39_6_1 hE (st_nil rfl) ?_
          clear hE a; intro a hE
          refine q0 p39_6_2 hE (st_fieldAddr Try.underlying50 rfl tS48 rfl rfl) ?_
          clear hE a; intro a hE
          refine q0 p39_6_3 hE (st_load1 tA48 rfl ((blk_cell B_gd 1).trans rfl)) ?_
          clear hE a; intro a hE
          refine q0 p39_6_4 hE (st_move rfl) ?_
          clear hE a; intro a hE
          refine q0 p39_6_5 hE (st_indexAddrR (i := i) (s := 2) Try.underlying48 tS77 hAeo rfl rfl (by omega)) ?_
          clear hE a; intro a hE
          refine q0 p39_6_6 hE (st_fieldAddrR (off := i * 2) (f0 := 1) (o' := i * 2 + 1) Try.underlying77 rfl tS3 rfl (by omega) rfl) ?_
          clear hE a; intro a hE
          refine q0 p39_6_7 hE (st_loadR1 (off := i * 2) (j := 1) tA3 (Rv.rdv_elem (fl := fl2) O_L (by decide) (fun _ => rfl) hx).2 rfl (by omega) rfl) ?_
          clear hE a; intro a hE
          refine q0 p39_6_8 hE (st_assign rfl) ?_
          clear hE a; intro a hE
          refine p_nil ?_
          refine x_normB ?_
          refine x_norm ?_
          refine c_regL R39_4_l ?_
          refine q0 p39_4_0 hE (st_move rfl) ?_
          clear hE a; intro a hE
          refine q0 p39_4_1 hE (st_add (z := (i : Int) + 1) rfl rfl (wr_i64 _ (by omega) (by omega))) ?_
          clear hE a; intro a hE
          refine q0 p39_4_2 hE (st_assign rfl) ?_
          clear hE a; intro a hE
          refine p_nil ?_
          refine x_norm ?_
          have hle9 := least_take hle hx (hps o (List.mem_of_getElem? hx)) (.inr hLT)
          exact ⟨i + 1, by omega, o.2, En.sub hE ⟨rfl, rfl, rfl, rfl, trivial⟩, by omega, hle9, B_gd, O_L, Nb_L_gd, K_0⟩
        ·
          refine c_reg R39_5_l ?_
          refine q0 p39_5_0 hE (st_move rfl) ?_
          clear hE a; intro a hE
          refine q0 p39_5_1 hE (st_lss (b := false) rfl rfl (decide_eq_false hB0)) ?_
          clear hE a; intro a hE
          refine q0 p39_5_2 hE (st_move rfl) ?_
          clear hE a; intro a hE
          refine p_cons (s_still p39_5_3 hE (wn_some g39_5_2 rfl rfl) rfl (st_move rfl) ?_)
          clear hE a; intro a hE
          refine p_cons (s_still p39_5_4 hE (wn_some g39_5_2 rfl rfl) rfl (st_nil rfl) ?_)
          clear hE a; intro a hE
          refine p_cons (s_still p39_5_5 hE (wn_some g39_5_2 rfl rfl) rfl (st_fieldAddr Try.underlying50 rfl tS48 rfl rfl) ?_)
          clear hE a; intro a hE
          refine p_cons (s_still p39_5_6 hE (wn_some g39_5_2 rfl rfl) rfl (st_load1 tA48 rfl ((blk_cell B_gd 1).trans rfl)) ?_)
          clear hE a; intro a hE
          refine p_cons (s_still p39_5_7 hE (wn_some g39_5_2 rfl rfl) rfl (st_move rfl) ?_)
          clear hE a; intro a hE
          refine p_cons (s_still p39_5_8 hE (wn_some g39_5_2 rfl rfl) rfl (st_indexAddrR (i := i) (s := 2) Try.underlying48 tS77 hAeo rfl rfl (by omega)) ?_)
          clear hE a; intro a hE
          refine p_cons (s_still p39_5_9 hE (wn_some g39_5_2 rfl rfl) rfl (st_fieldAddrR (off := i * 2) (f0 := 1) (o' := i * 2 + 1) Try.underlying77 rfl tS3 rfl (by omega) rfl) ?_)
          clear hE a; intro a hE
          refine p_cons (s_still p39_5_10 hE (wn_some g39_5_2 rfl rfl) rfl (st_loadR1 (off := i * 2) (j := 1) tA3 (Rv.rdv_elem (fl := fl2) O_L (by decide) (fun _ => rfl) hx).2 rfl (by omega) rfl) ?_)
          clear hE a; intro a hE
          refine p_cons (s_still p39_5_11 hE (wn_some g39_5_2 rfl rfl) rfl (st_move rfl) ?_)
          clear hE a; intro a hE
          refine p_cons (s_still p39_5_12 hE (wn_some g39_5_2 rfl rfl) rfl (st_lss (b := false) rfl rfl (decide_eq_false hLT)) ?_)
          clear hE a; intro a hE
          refine q0 p39_5_13 hE (st_pick rfl rfl) ?_
          clear hE a; intro a hE
          refine p_nil ?_
          refine x_norm ?_
          refine c_cond (t := false) hE rfl ?_
          refine wp_skip ?_
          refine x_normB ?_
          refine x_norm ?_
          refine c_regL R39_4_l ?_
          refine q0 p39_4_0 hE (st_move rfl) ?_
          clear hE a; intro a hE
          refine q0 p39_4_1 hE (st_add (z := (i : Int) + 1) rfl rfl (wr_i64 _ (by omega) (by omega))) ?_
          clear hE a; intro a hE
          refine q0 p39_4_2 hE (st_assign rfl) ?_
          clear hE a; intro a hE
          refine p_nil ?_
          refine x_norm ?_
          have hle9 := least_keep hle hx hB0 hLT
          exact ⟨i + 1, by omega, best, En.sub hE ⟨rfl, rfl, rfl, rfl, trivial⟩, by omega, hle9, B_gd, O_L, Nb_L_gd, K_0⟩
    ·
      refine c_reg R39_3_l ?_
      refine q0 p39_3_0 hE (st_move rfl) ?_
      clear hE a; intro a hE
      refine q0 p39_3_1 hE (st_move rfl) ?_
      clear hE a; intro a hE
      refine q0 p39_3_2 hE (st_nil rfl) ?_
      clear hE a; intro a hE
      refine q0 p39_3_3 hE (st_fieldAddr Try.underlying50 rfl tS48 rfl rfl) ?_
      clear hE a; intro a hE
      refine q0 p39_3_4 hE (st_load1 tA48 rfl ((blk_cell B_gd 1).trans rfl)) ?_
      clear hE a; intro a hE
      refine q0 p39_3_5 hE (st_len Try.underlying48 rfl) ?_
      clear hE a; intro a hE
      refine q0 p39_3_6 hE (st_lss (b := false) rfl rfl (decide_eq_false hK1)) ?_
      clear hE a; intro a hE
      refine p_nil ?_
      refine x_norm ?_
      refine c_cond (t := false) hE rfl ?_
      refine wp_exit ?_
      refine x_exit ?_
      refine x_exit ?_
      obtain rfl : i = L.length := by omega
      refine x_in ?_
      refine x_norm ?_
      refine c_reg R39_7_l ?_
      refine q0 p39_7_0 hE (st_move rfl) ?_
      clear hE a; intro a hE
      refine q0 p39_7_1 hE (st_assign rfl) ?_
      clear hE a; intro a hE
      refine p_nil ?_
      refine x_norm ?_
      refine wp_ret ?_
      refine ret_one (v := Value.int .i64 best) rfl hE (.tmp rfl .nil) ?_
      exact ⟨by rw [least_end hle], K_0⟩
end Go.Proofs.Ytlmjbmeigclihaa.Wd
