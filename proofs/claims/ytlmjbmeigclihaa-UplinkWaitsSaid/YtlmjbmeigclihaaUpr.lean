/- The document's waiting. -/
import Derived.Test.YtlmjbmeigclihaaUpl
import Derived.Test.YtlmjbmeigclihaaRdv
set_option maxRecDepth 100000
set_option linter.unusedVariables false
set_option linter.unusedSimpArgs false
namespace Go.Proofs.Ytlmjbmeigclihaa.Ur
open Go.RowKit Go.Proofs.YtlmjbmeigclihaaW.PrintWords Go.Proofs.Ytlmjbmeigclihaa.Ds Go.Proofs.Ytlmjbmeigclihaa.Up
open Go.Proofs.Ytlmjbmeigclihaa.Pk (Kp)
open Go.Proofs.Ytlmjbmeigclihaa.Mi (st_eqlP st_neqP x_normS x_retS x_exitS MapI getI putI delI)
theorem wn_undef {R : Array Oper} {m : List (Nat × Value)} {j : Nat} {want : Bool} {t : Nat} (hj : dstOf R j = some t) (hl : Go.Proofs.Ytlmjbmeigclihaa.Ds.look m t = some undef) : Wn R m (some (j, want)) false := fun n a hE o ho => by
  unfold Region.wanted
  rw [ho]
  simp only
  have h1 : yielded R a.tmps j = none := by
    unfold yielded
    unfold dstOf at hj
    rw [hj]
    simp [hE.get t _ hl, undef]
  rw [h1]
  rfl
abbrev L3 := List (Int × Int × Int)
def fl3 (o : Int × Int × Int) : List Value := [.int .i64 o.1, .int .i64 o.2.1, .int .i64 o.2.2]
def flO (L : L3) : List Value := L.flatMap fl3
theorem flO_ones (L : L3) : ∀ u ∈ flO L, u.oneCell' = true := fun u hu => by
  obtain ⟨o, _, h⟩ := List.mem_flatMap.1 hu
  simp only [fl3, List.mem_cons, List.not_mem_nil, or_false] at h
  rcases h with rfl | rfl | rfl <;> rfl
def rmL : L3 → Int → L3
  | [], _ => []
  | o :: L, s => if o.1 = s then L else o :: rmL L s
def hasL (L : L3) (s : Int) : Bool := L.any (fun o => decide (o.1 = s))
theorem rm_at : ∀ {L : L3} {s : Int} {i : Nat} {o : Int × Int × Int}, L[i]? = some o → o.1 = s → (∀ j p, j < i → L[j]? = some p → p.1 ≠ s) → rmL L s = L.take i ++ L.drop (i + 1)
  | [], _, _, _, h, _, _ => by cases h
  | a :: L, s, 0, o, h, he, _ => by
    injection h with h
    unfold rmL
    rw [if_pos (by rw [h]; exact he)]
    rfl
  | a :: L, s, i + 1, o, h, he, hn => by
    unfold rmL
    rw [if_neg (hn 0 a (by omega) rfl), rm_at (L := L) (i := i) h he (fun j p hj hp => hn (j + 1) p (by omega) hp)]
    rfl
theorem rm_none {L : L3} {s : Int} (h : ∀ j p, j < L.length → L[j]? = some p → p.1 ≠ s) : rmL L s = L ∧ hasL L s = false := by
  have h' : ∀ p ∈ L, p.1 ≠ s := fun p hp => by
    obtain ⟨j, hj, e⟩ := List.getElem_of_mem hp
    exact h j p hj (by rw [List.getElem?_eq_getElem hj, e])
  refine ⟨?_, by unfold hasL; rw [List.any_eq_false]; intro p hp; simp; exact h' p hp⟩
  clear h
  induction L with
  | nil => rfl
  | cons a L ih => unfold rmL; rw [if_neg (h' a (List.mem_cons_self ..)), ih (fun p hp => h' p (List.mem_cons_of_mem _ hp))]
theorem has_at {L : L3} {s : Int} {i : Nat} {o : Int × Int × Int} (h : L[i]? = some o) (he : o.1 = s) : hasL L s = true := by
  unfold hasL; rw [List.any_eq_true]; exact ⟨o, List.mem_of_getElem? h, decide_eq_true he⟩
theorem cut2 (L : L3) (i : Nat) : (([] ++ (flO L).take (i * 3)) ++ (flO L).drop ((i + 1) * 3)) = flO (L.take i ++ L.drop (i + 1)) := by
  unfold flO
  rw [List.nil_append, Rv.flat_take (fl := fl3) (fun _ => rfl), Rv.flat_drop (fl := fl3) (fun _ => rfl), List.flatMap_append]
theorem drop_cap {A AD : Option Addr} {c lo k : Nat} (hc : A = none → c = 0) (h : (if c = lo then A else A.map (·.add k)) = AD) : AD = none → c - lo = 0 := fun e => by
  split at h
  · omega
  · cases A with
    | none => have := hc rfl; omega
    | some a => rw [← h] at e; cases e
theorem own_cap0 {w : World} {base e s n c : Nat} {A : Option Addr} {xs : List Value} (h : w.ownsRow base e s (.slice A n c) n xs) : A = none → c = 0 := fun e1 => by
  subst e1
  rcases h.2 with ⟨h2, _⟩ | ⟨g, cap, cur, h2, _⟩
  · injection h2
  · injection h2 with h3; cases h3
theorem R29_0_l : List.range (regOf Try.f29 0).size = [0] := by kernel_rfl
theorem R29_1_l : List.range (regOf Try.f29 1).size = [0] := by kernel_rfl
theorem R29_2_l : List.range (regOf Try.f29 2).size = [0, 1, 2, 3, 4, 5, 6] := by kernel_rfl
theorem R29_4_l : List.range (regOf Try.f29 4).size = [0, 1, 2, 3, 4, 5, 6, 7, 8, 9] := by kernel_rfl
theorem R29_5_l : List.range (regOf Try.f29 5).size = [0, 1, 2, 3, 4, 5, 6, 7, 8, 9, 10, 11, 12, 13, 14, 15, 16, 17, 18, 19] := by kernel_rfl
theorem R29_6_l : List.range (regOf Try.f29 6).size = [0] := by kernel_rfl
theorem R29_3_l : List.range (regOf Try.f29 3).size = [0, 1, 2] := by kernel_rfl
theorem R29_7_l : List.range (regOf Try.f29 7).size = [0] := by kernel_rfl
theorem body29 : Try.f29.body = some (.seq (.region 0 (regOf Try.f29 0) false) (.seq (.seq (.region 1 (regOf Try.f29 1) false) (.block 0 (.loop (.seq (.seq (.region 2 (regOf Try.f29 2) false) (.cond (Operand.tmp 12) (.skip) (.exit 0))) (.seq (.block 1 (.seq (.region 4 (regOf Try.f29 4) false) (.cond (Operand.tmp 24) (.seq (.region 5 (regOf Try.f29 5) true) (.seq (.region 6 (regOf Try.f29 6) false) (.ret))) (.skip)))) (.region 3 (regOf Try.f29 3) false)))))) (.seq (.region 7 (regOf Try.f29 7) false) (.ret)))) := by kernel_rfl
theorem p29_0_0 : pj (regOf Try.f29 0) 0 = some (some 4, .assign (.const (.bool false)), 4, none) := by kernel_rfl
theorem p29_1_0 : pj (regOf Try.f29 1) 0 = some (some 5, .assign (.const (.int .i64 0)), 3, none) := by kernel_rfl
theorem p29_2_0 : pj (regOf Try.f29 2) 0 = some (some 6, .move (.tmp 5), 3, none) := by kernel_rfl
theorem p29_2_1 : pj (regOf Try.f29 2) 1 = some (some 7, .move (.tmp 0), 63, none) := by kernel_rfl
theorem p29_2_2 : pj (regOf Try.f29 2) 2 = some (some 8, .nilCheck (.tmp 7), 0, none) := by kernel_rfl
theorem p29_2_3 : pj (regOf Try.f29 2) 3 = some (some 9, .fieldAddr 66 (.tmp 8) 2, 0, none) := by kernel_rfl
theorem tS64 : (Try.prog.info? 64).map (·.size) = some 1 := by kernel_rfl
theorem p29_2_4 : pj (regOf Try.f29 2) 4 = some (some 10, .load 64 (.tmp 9), 64, none) := by kernel_rfl
theorem tA64 : (Try.prog.underlying 64).map aggD = some false := by kernel_rfl
theorem p29_2_5 : pj (regOf Try.f29 2) 5 = some (some 11, .call { callee := .builtin .len, args := #[.tmp 10], argTypes := #[64] }, 3, none) := by kernel_rfl
theorem p29_2_6 : pj (regOf Try.f29 2) 6 = some (some 12, .binOp .lss 3 (.tmp 6) (.tmp 11) 3, 4, none) := by kernel_rfl
theorem p29_4_0 : pj (regOf Try.f29 4) 0 = some (some 15, .move (.tmp 0), 63, none) := by kernel_rfl
theorem p29_4_1 : pj (regOf Try.f29 4) 1 = some (some 16, .nilCheck (.tmp 15), 0, none) := by kernel_rfl
theorem p29_4_2 : pj (regOf Try.f29 4) 2 = some (some 17, .fieldAddr 66 (.tmp 16) 2, 0, none) := by kernel_rfl
theorem p29_4_3 : pj (regOf Try.f29 4) 3 = some (some 18, .load 64 (.tmp 17), 64, none) := by kernel_rfl
theorem p29_4_4 : pj (regOf Try.f29 4) 4 = some (some 19, .move (.tmp 5), 3, none) := by kernel_rfl
theorem p29_4_5 : pj (regOf Try.f29 4) 5 = some (some 20, .indexAddr 64 (.tmp 18) (.tmp 19), 0, none) := by kernel_rfl
theorem tS70 : (Try.prog.info? 70).map (·.size) = some 3 := by kernel_rfl
theorem p29_4_6 : pj (regOf Try.f29 4) 6 = some (some 21, .fieldAddr 70 (.tmp 20) 0, 0, none) := by kernel_rfl
theorem tS3 : (Try.prog.info? 3).map (·.size) = some 1 := by kernel_rfl
theorem p29_4_7 : pj (regOf Try.f29 4) 7 = some (some 22, .load 3 (.tmp 21), 3, none) := by kernel_rfl
theorem tA3 : (Try.prog.underlying 3).map aggD = some false := by kernel_rfl
theorem p29_4_8 : pj (regOf Try.f29 4) 8 = some (some 23, .move (.tmp 1), 3, none) := by kernel_rfl
theorem p29_4_9 : pj (regOf Try.f29 4) 9 = some (some 24, .binOp .eql 3 (.tmp 22) (.tmp 23) 3, 4, none) := by kernel_rfl
theorem ns29_5 : Region.noSelect (regOf Try.f29 5) = true := by kernel_rfl
theorem p29_5_0 : pj (regOf Try.f29 5) 0 = some (some 25, .move (.tmp 0), 63, none) := by kernel_rfl
theorem p29_5_2 : pj (regOf Try.f29 5) 2 = some (some 27, .move (.tmp 0), 63, none) := by kernel_rfl
theorem p29_5_3 : pj (regOf Try.f29 5) 3 = some (some 28, .nilCheck (.tmp 27), 0, none) := by kernel_rfl
theorem p29_5_4 : pj (regOf Try.f29 5) 4 = some (some 29, .fieldAddr 66 (.tmp 28) 2, 0, none) := by kernel_rfl
theorem p29_5_6 : pj (regOf Try.f29 5) 6 = some (some 31, .move (.tmp 5), 3, none) := by kernel_rfl
theorem p29_5_9 : pj (regOf Try.f29 5) 9 = some (some 34, .move (.tmp 0), 63, none) := by kernel_rfl
theorem p29_5_10 : pj (regOf Try.f29 5) 10 = some (some 35, .nilCheck (.tmp 34), 0, none) := by kernel_rfl
theorem p29_5_11 : pj (regOf Try.f29 5) 11 = some (some 36, .fieldAddr 66 (.tmp 35) 2, 0, none) := by kernel_rfl
theorem p29_5_13 : pj (regOf Try.f29 5) 13 = some (some 38, .move (.tmp 5), 3, none) := by kernel_rfl
theorem p29_5_14 : pj (regOf Try.f29 5) 14 = some (some 39, .binOp .add 3 (.tmp 38) (.const (.int .i64 1)) 3, 3, none) := by kernel_rfl
theorem p29_5_1 : pj (regOf Try.f29 5) 1 = some (some 26, .buildSlice 64 0 #[], 64, none) := by kernel_rfl
theorem p29_5_5 : pj (regOf Try.f29 5) 5 = some (some 30, .load 64 (.tmp 29), 64, none) := by kernel_rfl
theorem p29_5_7 : pj (regOf Try.f29 5) 7 = some (some 32, .slice 64 (.tmp 30) none (some (.tmp 31)) none, 64, none) := by kernel_rfl
theorem p29_5_12 : pj (regOf Try.f29 5) 12 = some (some 37, .load 64 (.tmp 36), 64, none) := by kernel_rfl
theorem p29_5_15 : pj (regOf Try.f29 5) 15 = some (some 40, .slice 64 (.tmp 37) (some (.tmp 39)) none none, 64, none) := by kernel_rfl
theorem p29_5_8 : pj (regOf Try.f29 5) 8 = some (some 33, .call { callee := .builtin .append, args := #[.tmp 26, .tmp 32], argTypes := #[64, 64] }, 64, none) := by kernel_rfl
theorem eD70 : elemD Try.prog 70 = some (3, 3, 24) := by kernel_rfl
theorem p29_5_16 : pj (regOf Try.f29 5) 16 = some (some 41, .call { callee := .builtin .append, args := #[.tmp 33, .tmp 40], argTypes := #[64, 64] }, 64, none) := by kernel_rfl
theorem p29_5_17 : pj (regOf Try.f29 5) 17 = some (some 42, .nilCheck (.tmp 25), 0, none) := by kernel_rfl
theorem p29_5_18 : pj (regOf Try.f29 5) 18 = some (some 43, .fieldAddr 66 (.tmp 42) 2, 0, none) := by kernel_rfl
theorem p29_5_19 : pj (regOf Try.f29 5) 19 = some (none, .store 64 (.tmp 43) (.tmp 41), 0, none) := by kernel_rfl
theorem p29_6_0 : pj (regOf Try.f29 6) 0 = some (some 4, .assign (.const (.bool true)), 4, none) := by kernel_rfl
theorem p29_3_0 : pj (regOf Try.f29 3) 0 = some (some 13, .move (.tmp 5), 3, none) := by kernel_rfl
theorem p29_3_1 : pj (regOf Try.f29 3) 1 = some (some 14, .binOp .add 3 (.tmp 13) (.const (.int .i64 1)) 3, 3, none) := by kernel_rfl
theorem p29_3_2 : pj (regOf Try.f29 3) 2 = some (some 5, .assign (.tmp 14), 3, none) := by kernel_rfl
theorem p29_7_0 : pj (regOf Try.f29 7) 0 = some (some 4, .assign (.const (.bool false)), 4, none) := by kernel_rfl
set_option maxHeartbeats 4000000 in
theorem rack_any (gd : Nat) (A : Option Addr) (c : Nat) (L : List (Int × Int × Int)) (wt tr : Int) (s : Int) (w : World) (hd : w.heap[gd]? = some (.cells #[.int .i64 wt, .int .i64 tr, .slice A L.length c] 66 (0, 0))) (hR : Rv.RdV w A L.length 3 (flO L)) (hcA : L.length ≤ c ∧ (A = none → c = 0)) (hll : L.length ≤ 1000) (hnd : ¬ OB A gd) : Calls Try.prog 29 #[.pointer (some ⟨gd, 0, none⟩), .int .i64 s] w fun e w' => ∃ A' c', e = .returned (.bool (hasL L s)) ∧ w'.heap[gd]? = some (.cells #[.int .i64 wt, .int .i64 tr, .slice A' (rmL L s).length c'] 66 (0, 0)) ∧ Rv.RdV w' A' (rmL L s).length 3 (flO (rmL L s)) ∧ ((rmL L s).length ≤ c' ∧ (A' = none → c' = 0)) ∧ (∀ k, OB A' k → OB A k ∨ w.heap.size ≤ k) ∧ Kp w w' (fun k => k = gd) := by
  have K_0 := Kp.refl w (fun k => k = gd)
  have B_gd := hd
  have O_L := hR
  have Nb_L_gd := hnd
  refine enter (args := [Value.pointer (some ⟨gd, 0, none⟩), Value.int .i64 s]) (n := 44) Try.func29 body29 rfl rfl rfl ?_
  intro a hE
  refine c_reg R29_0_l ?_
  refine q0 p29_0_0 hE (st_assign rfl) ?_
  clear hE a; intro a hE
  refine p_nil ?_
  refine x_norm ?_
  refine wp_seq ?_
  refine c_reg R29_1_l ?_
  refine q0 p29_1_0 hE (st_assign rfl) ?_
  clear hE a; intro a hE
  refine p_nil ?_
  refine x_norm ?_
  refine wp_block ?_
  refine c_loop (α := Nat) (fun i a W => En 44 a [(0, Value.pointer (some ⟨gd, 0, none⟩)), (1, Value.int .i64 s), (5, Value.int .i64 (i : Int))] ∧ i ≤ L.length ∧ (∀ j p, j < i → L[j]? = some p → p.1 ≠ s) ∧ W.heap[gd]? = some (.cells #[Value.int .i64 wt, Value.int .i64 tr, Value.slice A L.length c] 66 (0, 0)) ∧ Rv.RdV W A L.length 3 (flO L) ∧ ¬ OB A gd ∧ Kp w W (fun k => k = gd)) (fun i => L.length - i) (0) ?_ ?_
  ·
    exact ⟨En.sub hE ⟨rfl, rfl, rfl, trivial⟩, Nat.zero_le _, (fun j p h => absurd h (Nat.not_lt_zero _)), B_gd, O_L, Nb_L_gd, K_0⟩
  ·
    clear hE a
    rintro i a w1 ⟨hE, hi9, hno, B_gd, O_L, Nb_L_gd, K_0⟩
    refine wp_seq ?_
    rcases Decidable.em ((i : Int) < (L.length : Int)) with hK1 | hK1
    ·
      refine c_reg R29_2_l ?_
      refine q0 p29_2_0 hE (st_move rfl) ?_
      clear hE a; intro a hE
      refine q0 p29_2_1 hE (st_move rfl) ?_
      clear hE a; intro a hE
      refine q0 p29_2_2 hE (st_nil rfl) ?_
      clear hE a; intro a hE
      refine q0 p29_2_3 hE (st_fieldAddr Try.underlying66 rfl tS64 rfl rfl) ?_
      clear hE a; intro a hE
      refine q0 p29_2_4 hE (st_load1 tA64 rfl ((blk_cell B_gd 2).trans rfl)) ?_
      clear hE a; intro a hE
      refine q0 p29_2_5 hE (st_len Try.underlying64 rfl) ?_
      clear hE a; intro a hE
      refine q0 p29_2_6 hE (st_lss (b := true) rfl rfl (decide_eq_true hK1)) ?_
      clear hE a; intro a hE
      refine p_nil ?_
      refine x_norm ?_
      refine c_cond (t := true) hE rfl ?_
      refine wp_skip ?_
      refine x_norm ?_
      refine wp_seq ?_
      refine wp_block ?_
      obtain ⟨o, hx⟩ : ∃ o, L[i]? = some o := ⟨_, List.getElem?_eq_getElem (by omega)⟩
      obtain ⟨hAeo, hCeo⟩ := Rv.rdv_elem (fl := fl3) O_L (by decide) (fun _ => rfl) hx
      rcases Decidable.em (o.1 = s) with hEQ | hEQ
      ·
        refine c_reg R29_4_l ?_
        refine q0 p29_4_0 hE (st_move rfl) ?_
        clear hE a; intro a hE
        refine q0 p29_4_1 hE (st_nil rfl) ?_
        clear hE a; intro a hE
        refine q0 p29_4_2 hE (st_fieldAddr Try.underlying66 rfl tS64 rfl rfl) ?_
        clear hE a; intro a hE
        refine q0 p29_4_3 hE (st_load1 tA64 rfl ((blk_cell B_gd 2).trans rfl)) ?_
        clear hE a; intro a hE
        refine q0 p29_4_4 hE (st_move rfl) ?_
        clear hE a; intro a hE
        refine q0 p29_4_5 hE (st_indexAddrR (i := i) (s := 3) Try.underlying64 tS70 hAeo rfl rfl (by omega)) ?_
        clear hE a; intro a hE
        refine q0 p29_4_6 hE (st_fieldAddrR (off := i * 3) (f0 := 0) (o' := i * 3) Try.underlying70 rfl tS3 rfl (by omega) rfl) ?_
        clear hE a; intro a hE
        refine q0 p29_4_7 hE (st_loadR1 (off := i * 3) (j := 0) tA3 (fun j u h => hCeo j u h) rfl (by omega) rfl) ?_
        clear hE a; intro a hE
        refine q0 p29_4_8 hE (st_move rfl) ?_
        clear hE a; intro a hE
        refine q0 p29_4_9 hE (st_eql (b := true) rfl rfl (decide_eq_true hEQ)) ?_
        clear hE a; intro a hE
        refine p_nil ?_
        refine x_norm ?_
        refine c_cond (t := true) hE rfl ?_
        obtain ⟨AD, hAD⟩ : ∃ z, (if c = (i + 1) then A else A.map (·.add ((i + 1) * 3))) = z := ⟨_, rfl⟩
        have hiL : i < L.length := by omega
        refine c_drawMS (S := fun W => True) rfl rfl (listed := #[false, false, false, false, false, false, false, false, false, false, false, false, false, false, false, false, false, false, false, false]) rfl (by repeat' first | exact pan_body | refine pan_then ?_ | refine pan_block ?_) (fun QQ hQ hend => ?_)
        have dr5_11 : ∀ (A5_16 : Option Addr) (A5_8 : Option Addr) (c5_16 : Nat) (c5_8 : Nat) (g5_1 : Nat) (W : World) (a : Act), En 44 a [(0, Value.pointer (some ⟨gd, 0, none⟩)), (1, Value.int .i64 s), (5, Value.int .i64 (i : Int)), (12, Value.bool true), (24, Value.bool true), (25, Value.pointer (some ⟨gd, 0, none⟩)), (26, Value.slice (some ⟨g5_1, 0, none⟩) 0 0), (27, Value.pointer (some ⟨gd, 0, none⟩)), (28, Value.pointer (some ⟨gd, 0, none⟩)), (29, Value.pointer (some ⟨gd, 2, none⟩)), (30, Value.slice A L.length c), (31, Value.int .i64 (i : Int)), (32, Value.slice A i c), (33, Value.slice A5_8 (0 + i) c5_8), (34, Value.pointer (some ⟨gd, 0, none⟩)), (35, Value.pointer (some ⟨gd, 0, none⟩)), (36, Value.pointer (some ⟨gd, 2, none⟩)), (37, Value.slice A L.length c), (38, Value.int .i64 (i : Int)), (39, Value.int .i64 ((i : Int) + 1)), (40, Value.slice AD (L.length - (i + 1)) (c - (i + 1))), (41, Value.slice A5_16 ((0 + i) + (L.length - (i + 1))) c5_16), (42, Value.pointer (some ⟨gd, 0, none⟩)), (43, Value.pointer (some ⟨gd, 2, none⟩))] → W.heap[gd]? = some (.cells #[Value.int .i64 wt, Value.int .i64 tr, Value.slice A5_16 ((0 + i) + (L.length - (i + 1))) c5_16] 66 (0, 0)) → (∀ k, OB A k → ¬ OB A5_16 k) → ¬ OB A5_16 gd → (∀ k, OB A5_16 k → (fun k => k = gd) k ∨ w.heap.size ≤ k) → (∀ k, OB A5_16 k → ¬ OB A k) → Rv.RdV W A L.length 3 (flO L) → W.ownsRow w.heap.size 70 3 (.slice A5_16 ((0 + i) + (L.length - (i + 1))) c5_16) ((0 + i) + (L.length - (i + 1))) (([] ++ ((flO L).take (i * 3))) ++ ((flO L).drop ((i + 1) * 3))) → Kp w W (fun k => k = gd) → wpAnyH Try.prog .any (regOf Try.f29 5) QQ (fun W => True) 0 #[true, true, true, true, true, true, true, true, true, true, true, true, true, true, true, true, true, true, true, true] a W := by
          intro A5_16 A5_8 c5_16 c5_8 g5_1 w15 a hE B_gd NN_L_q5_8 Nb_q5_8_gd Z_0_q5_8 NN_q5_8_L O_L O_q5_8 K_0
          refine d_end (by kernel_rfl) (hend _ _ ?_)
          refine c_reg R29_6_l ?_
          refine q0 p29_6_0 hE (st_assign rfl) ?_
          clear hE a; intro a hE
          refine p_nil ?_
          refine x_norm ?_
          refine wp_ret ?_
          refine x_retB ?_
          refine x_ret ?_
          refine x_ret ?_
          refine x_retB ?_
          refine x_ret ?_
          refine ret_one (v := Value.bool true) rfl hE (.tmp rfl .nil) ?_
          have hra := rm_at hx hEQ hno
          rw [cut2, ← hra] at O_q5_8
          have hln : ((0 + i) + (L.length - (i + 1))) = (rmL L s).length := by rw [hra, List.length_append, List.length_take, List.length_drop]; omega
          rw [hln] at O_q5_8 B_gd
          exact ⟨A5_16, c5_16, by rw [has_at hx hEQ], B_gd, Rv.own_rdv O_q5_8 (flO_ones _), ⟨(own_caps O_q5_8).1, own_cap0 O_q5_8⟩, fun k h => .inr (own_ob O_q5_8 h).1, K_0⟩
        have dr5_10 : ∀ (A5_16 : Option Addr) (A5_8 : Option Addr) (c5_16 : Nat) (c5_8 : Nat) (g5_1 : Nat) (W : World) (a : Act), En 44 a [(0, Value.pointer (some ⟨gd, 0, none⟩)), (1, Value.int .i64 s), (5, Value.int .i64 (i : Int)), (12, Value.bool true), (24, Value.bool true), (25, Value.pointer (some ⟨gd, 0, none⟩)), (26, Value.slice (some ⟨g5_1, 0, none⟩) 0 0), (27, Value.pointer (some ⟨gd, 0, none⟩)), (28, Value.pointer (some ⟨gd, 0, none⟩)), (29, Value.pointer (some ⟨gd, 2, none⟩)), (30, Value.slice A L.length c), (31, Value.int .i64 (i : Int)), (32, Value.slice A i c), (33, Value.slice A5_8 (0 + i) c5_8), (34, Value.pointer (some ⟨gd, 0, none⟩)), (35, Value.pointer (some ⟨gd, 0, none⟩)), (36, Value.pointer (some ⟨gd, 2, none⟩)), (37, Value.slice A L.length c), (38, Value.int .i64 (i : Int)), (39, Value.int .i64 ((i : Int) + 1)), (40, Value.slice AD (L.length - (i + 1)) (c - (i + 1))), (41, Value.slice A5_16 ((0 + i) + (L.length - (i + 1))) c5_16), (42, Value.pointer (some ⟨gd, 0, none⟩)), (43, Value.pointer (some ⟨gd, 2, none⟩))] → W.heap[gd]? = some (.cells #[Value.int .i64 wt, Value.int .i64 tr, Value.slice A L.length c] 66 (0, 0)) → (∀ k, OB A k → ¬ OB A5_16 k) → ¬ OB A5_16 gd → (∀ k, OB A5_16 k → (fun k => k = gd) k ∨ w.heap.size ≤ k) → (∀ k, OB A5_16 k → ¬ OB A k) → Rv.RdV W A L.length 3 (flO L) → W.ownsRow w.heap.size 70 3 (.slice A5_16 ((0 + i) + (L.length - (i + 1))) c5_16) ((0 + i) + (L.length - (i + 1))) (([] ++ ((flO L).take (i * 3))) ++ ((flO L).drop ((i + 1) * 3))) → Kp w W (fun k => k = gd) → wpAnyH Try.prog .any (regOf Try.f29 5) QQ (fun W => True) 1 #[true, true, true, true, true, true, true, true, true, true, true, true, true, true, true, true, true, true, true, false] a W := by
          intro A5_16 A5_8 c5_16 c5_8 g5_1 w16 a hE B_gd NN_L_q5_8 Nb_q5_8_gd Z_0_q5_8 NN_q5_8_L O_L O_q5_8 K_0
          refine d_all (rs := [19]) (by kernel_rfl) rfl ?_
          refine all_cons (d_lit (listed' := #[true, true, true, true, true, true, true, true, true, true, true, true, true, true, true, true, true, true, true, true]) rfl ?_) ?_
          ·
            refine (s_store (off := 2) (k := 1) (cs' := #[Value.int .i64 wt, Value.int .i64 tr, Value.slice A5_16 ((0 + i) + (L.length - (i + 1))) c5_16]) p29_5_19 hE wn_none tS64 rfl rfl rfl rfl B_gd (Nat.le_of_ble_eq_true rfl) rfl ?_)
            intro w17 B_gd' hk
            replace O_L := Rv.rdv_keep O_L hk (fun k hk2 h2 => Nb_L_gd (by rw [show k = gd from h2] at hk2; exact hk2))
            replace O_q5_8 := own_keep O_q5_8 hk (fun k hk2 h2 => Nb_q5_8_gd (by rw [show k = gd from h2] at hk2; exact hk2))
            replace K_0 := K_0.then_ hk (fun k h => by rw [show k = gd from h]; exact Or.inl rfl)
            replace B_gd := B_gd'
            clear hk
            refine ⟨trivial, ?_⟩
            exact dr5_11 A5_16 A5_8 c5_16 c5_8 g5_1 _ a (En.sub hE ⟨rfl, rfl, rfl, rfl, rfl, rfl, rfl, rfl, rfl, rfl, rfl, rfl, rfl, rfl, rfl, rfl, rfl, rfl, rfl, rfl, rfl, rfl, rfl, rfl, trivial⟩) B_gd NN_L_q5_8 Nb_q5_8_gd Z_0_q5_8 NN_q5_8_L O_L O_q5_8 K_0
          exact all_nil
        have dr5_9 : ∀ (A5_8 : Option Addr) (c5_8 : Nat) (g5_1 : Nat) (W : World) (a : Act), En 44 a [(0, Value.pointer (some ⟨gd, 0, none⟩)), (1, Value.int .i64 s), (5, Value.int .i64 (i : Int)), (12, Value.bool true), (24, Value.bool true), (25, Value.pointer (some ⟨gd, 0, none⟩)), (26, Value.slice (some ⟨g5_1, 0, none⟩) 0 0), (27, Value.pointer (some ⟨gd, 0, none⟩)), (28, Value.pointer (some ⟨gd, 0, none⟩)), (29, Value.pointer (some ⟨gd, 2, none⟩)), (30, Value.slice A L.length c), (31, Value.int .i64 (i : Int)), (32, Value.slice A i c), (33, Value.slice A5_8 (0 + i) c5_8), (34, Value.pointer (some ⟨gd, 0, none⟩)), (35, Value.pointer (some ⟨gd, 0, none⟩)), (36, Value.pointer (some ⟨gd, 2, none⟩)), (37, Value.slice A L.length c), (38, Value.int .i64 (i : Int)), (39, Value.int .i64 ((i : Int) + 1)), (40, Value.slice AD (L.length - (i + 1)) (c - (i + 1)))] → W.heap[gd]? = some (.cells #[Value.int .i64 wt, Value.int .i64 tr, Value.slice A L.length c] 66 (0, 0)) → (∀ k, OB A k → ¬ OB A5_8 k) → ¬ OB A5_8 gd → (∀ k, OB A5_8 k → (fun k => k = gd) k ∨ w.heap.size ≤ k) → (∀ k, OB A5_8 k → ¬ OB A k) → Rv.RdV W A L.length 3 (flO L) → W.ownsRow w.heap.size 70 3 (.slice A5_8 (0 + i) c5_8) (0 + i) ([] ++ ((flO L).take (i * 3))) → Kp w W (fun k => k = gd) → wpAnyH Try.prog .any (regOf Try.f29 5) QQ (fun W => True) 4 #[true, true, true, true, true, true, true, true, true, true, true, true, true, true, true, true, false, false, false, false] a W := by
          intro A5_8 c5_8 g5_1 w18 a hE B_gd NN_L_q5_8 Nb_q5_8_gd Z_0_q5_8 NN_q5_8_L O_L O_q5_8 K_0
          refine d_all (rs := [16]) (by kernel_rfl) rfl ?_
          refine all_cons (d_lit (listed' := #[true, true, true, true, true, true, true, true, true, true, true, true, true, true, true, true, true, false, false, false]) rfl ?_) ?_
          ·
            refine (Rv.s_appendV (s := 3) (xs := ([] ++ ((flO L).take (i * 3)))) p29_5_16 hE wn_none rfl Try.underlying64 eD70 (by decide) rfl O_q5_8 rfl (Rv.rdv_drop O_L (by omega) hcA.1 rfl hAD) (by omega) (by omega) K_0.kept.1 ?_ (drop_cap hcA.2 hAD))
            clear hE a; intro A5_16 c5_16 w19 O_q5_8' hk hat a hE
            have Nb_q5_8_gd' := grow_n Nb_q5_8_gd (blk_lt B_gd) hat
            have NN_L_q5_8' : ∀ k, OB A k → ¬ OB A5_16 k := fun k h h2 => (hat k h2).elim (NN_L_q5_8 k h) (fun h3 => by have := (Rv.rdv_ob O_L h).2; omega)
            have Z_0_q5_8' := grow_z Z_0_q5_8 K_0.kept.1 hat
            replace B_gd := kp_blk B_gd hk Nb_q5_8_gd
            replace O_L := Rv.rdv_keep O_L hk NN_L_q5_8
            replace K_0 := K_0.then_ hk Z_0_q5_8
            replace Nb_q5_8_gd := Nb_q5_8_gd'
            replace NN_L_q5_8 := NN_L_q5_8'
            replace NN_q5_8_L : ∀ k, OB A5_16 k → ¬ OB A k := fun k h h2 => NN_L_q5_8 k h2 h
            replace Z_0_q5_8 := Z_0_q5_8'
            replace O_q5_8 := O_q5_8'
            try clear O_q5_8'
            clear hk hat
            refine ⟨trivial, ?_⟩
            refine d_take (v := Value.pointer (some ⟨gd, 0, none⟩)) p29_5_17 ns29_5 (by kernel_rfl) (by kernel_rfl) (fun c a w h => hQ c a _ _ w h) hE wn_none rfl trivial (fun W hS => (st_nil rfl)) (listed' := #[true, true, true, true, true, true, true, true, true, true, true, true, true, true, true, true, true, true, false, false]) rfl ?_
            clear hE a; intro a hE
            refine d_take (v := Value.pointer (some ⟨gd, 2, none⟩)) p29_5_18 ns29_5 (by kernel_rfl) (by kernel_rfl) (fun c a w h => hQ c a _ _ w h) hE wn_none rfl trivial (fun W hS => (st_fieldAddr Try.underlying66 rfl tS64 rfl rfl)) (listed' := #[true, true, true, true, true, true, true, true, true, true, true, true, true, true, true, true, true, true, true, false]) rfl ?_
            clear hE a; intro a hE
            exact dr5_10 A5_16 A5_8 c5_16 c5_8 g5_1 _ a (En.sub hE ⟨rfl, rfl, rfl, rfl, rfl, rfl, rfl, rfl, rfl, rfl, rfl, rfl, rfl, rfl, rfl, rfl, rfl, rfl, rfl, rfl, rfl, rfl, rfl, rfl, trivial⟩) B_gd NN_L_q5_8 Nb_q5_8_gd Z_0_q5_8 NN_q5_8_L O_L O_q5_8 K_0
          exact all_nil
        have dr5_8 : ∀ (g5_1 : Nat) (W : World) (a : Act), En 44 a [(0, Value.pointer (some ⟨gd, 0, none⟩)), (1, Value.int .i64 s), (5, Value.int .i64 (i : Int)), (12, Value.bool true), (24, Value.bool true), (25, Value.pointer (some ⟨gd, 0, none⟩)), (26, Value.slice (some ⟨g5_1, 0, none⟩) 0 0), (27, Value.pointer (some ⟨gd, 0, none⟩)), (28, Value.pointer (some ⟨gd, 0, none⟩)), (29, Value.pointer (some ⟨gd, 2, none⟩)), (30, Value.slice A L.length c), (31, Value.int .i64 (i : Int)), (32, Value.slice A i c), (34, Value.pointer (some ⟨gd, 0, none⟩)), (35, Value.pointer (some ⟨gd, 0, none⟩)), (36, Value.pointer (some ⟨gd, 2, none⟩)), (37, Value.slice A L.length c), (38, Value.int .i64 (i : Int)), (39, Value.int .i64 ((i : Int) + 1)), (40, Value.slice AD (L.length - (i + 1)) (c - (i + 1)))] → W.heap[gd]? = some (.cells #[Value.int .i64 wt, Value.int .i64 tr, Value.slice A L.length c] 66 (0, 0)) → W.heap[g5_1]? = some (.cells #[] 70 (0, 0)) → g5_1 ≠ gd → w.heap.size ≤ g5_1 → ¬ OB A g5_1 → Rv.RdV W A L.length 3 (flO L) → Kp w W (fun k => k = gd) → wpAnyH Try.prog .any (regOf Try.f29 5) QQ (fun W => True) 5 #[true, true, true, true, true, true, true, true, false, true, true, true, true, true, true, true, false, false, false, false] a W := by
          intro g5_1 w20 a hE B_gd B_g5_1 n_g5_1_gd z_0_g5_1 Nb_L_g5_1 O_L K_0
          refine d_all (rs := [8]) (by kernel_rfl) rfl ?_
          refine all_cons (d_lit (listed' := #[true, true, true, true, true, true, true, true, true, true, true, true, true, true, true, true, false, false, false, false]) rfl ?_) ?_
          ·
            have O_q5_8 := own_blk0 (s := 3) B_g5_1 (show w.heap.size ≤ g5_1 from z_0_g5_1)
            have Nb_q5_8_gd : ¬ OB (some ⟨g5_1, 0, none⟩) gd := fun h => by have h := ob_blk.1 h; exact n_g5_1_gd h
            have Z_0_q5_8 : ∀ k, OB (some ⟨g5_1, 0, none⟩) k → (fun k => k = gd) k ∨ w.heap.size ≤ k := fun k h => by have h := ob_blk.1 h; subst h; exact Or.inr z_0_g5_1
            have NN_q5_8_L : ∀ k, OB (some ⟨g5_1, 0, none⟩) k → ¬ OB A k := fun k h h2 => by have h := ob_blk.1 h; subst h; exact Nb_L_g5_1 h2
            have NN_L_q5_8 : ∀ k, OB A k → ¬ OB (some ⟨g5_1, 0, none⟩) k := fun k h h2 => NN_q5_8_L k h2 h
            refine (Rv.s_appendV (s := 3) (xs := []) p29_5_8 hE wn_none rfl Try.underlying64 eD70 (by decide) rfl O_q5_8 rfl (Rv.rdv_take O_L (by omega)) (by omega) (by omega) K_0.kept.1 ?_ hcA.2)
            clear hE a; intro A5_8 c5_8 w21 O_q5_8' hk hat a hE
            have Nb_q5_8_gd' := grow_n Nb_q5_8_gd (blk_lt B_gd) hat
            have NN_L_q5_8' : ∀ k, OB A k → ¬ OB A5_8 k := fun k h h2 => (hat k h2).elim (NN_L_q5_8 k h) (fun h3 => by have := (Rv.rdv_ob O_L h).2; omega)
            have Z_0_q5_8' := grow_z Z_0_q5_8 K_0.kept.1 hat
            replace B_gd := kp_blk B_gd hk Nb_q5_8_gd
            replace O_L := Rv.rdv_keep O_L hk NN_L_q5_8
            replace K_0 := K_0.then_ hk Z_0_q5_8
            replace Nb_q5_8_gd := Nb_q5_8_gd'
            replace NN_L_q5_8 := NN_L_q5_8'
            replace NN_q5_8_L : ∀ k, OB A5_8 k → ¬ OB A k := fun k h h2 => NN_L_q5_8 k h2 h
            replace Z_0_q5_8 := Z_0_q5_8'
            replace O_q5_8 := O_q5_8'
            try clear O_q5_8'
            clear hk hat
            refine ⟨trivial, ?_⟩
            exact dr5_9 A5_8 c5_8 g5_1 _ a (En.sub hE ⟨rfl, rfl, rfl, rfl, rfl, rfl, rfl, rfl, rfl, rfl, rfl, rfl, rfl, rfl, rfl, rfl, rfl, rfl, rfl, rfl, rfl, trivial⟩) B_gd NN_L_q5_8 Nb_q5_8_gd Z_0_q5_8 NN_q5_8_L O_L O_q5_8 K_0
          exact all_nil
        have dr5_7 : ∀ (A5_8 : Option Addr) (c5_8 : Nat) (g5_1 : Nat) (W : World) (a : Act), En 44 a [(0, Value.pointer (some ⟨gd, 0, none⟩)), (1, Value.int .i64 s), (5, Value.int .i64 (i : Int)), (12, Value.bool true), (24, Value.bool true), (25, Value.pointer (some ⟨gd, 0, none⟩)), (26, Value.slice (some ⟨g5_1, 0, none⟩) 0 0), (27, Value.pointer (some ⟨gd, 0, none⟩)), (28, Value.pointer (some ⟨gd, 0, none⟩)), (29, Value.pointer (some ⟨gd, 2, none⟩)), (30, Value.slice A L.length c), (31, Value.int .i64 (i : Int)), (32, Value.slice A i c), (33, Value.slice A5_8 (0 + i) c5_8), (34, Value.pointer (some ⟨gd, 0, none⟩)), (35, Value.pointer (some ⟨gd, 0, none⟩)), (36, Value.pointer (some ⟨gd, 2, none⟩)), (38, Value.int .i64 (i : Int)), (39, Value.int .i64 ((i : Int) + 1))] → W.heap[gd]? = some (.cells #[Value.int .i64 wt, Value.int .i64 tr, Value.slice A L.length c] 66 (0, 0)) → (∀ k, OB A k → ¬ OB A5_8 k) → ¬ OB A5_8 gd → (∀ k, OB A5_8 k → (fun k => k = gd) k ∨ w.heap.size ≤ k) → (∀ k, OB A5_8 k → ¬ OB A k) → Rv.RdV W A L.length 3 (flO L) → W.ownsRow w.heap.size 70 3 (.slice A5_8 (0 + i) c5_8) (0 + i) ([] ++ ((flO L).take (i * 3))) → Kp w W (fun k => k = gd) → wpAnyH Try.prog .any (regOf Try.f29 5) QQ (fun W => True) 6 #[true, true, true, true, true, true, true, true, true, true, true, true, false, true, true, false, false, false, false, false] a W := by
          intro A5_8 c5_8 g5_1 w22 a hE B_gd NN_L_q5_8 Nb_q5_8_gd Z_0_q5_8 NN_q5_8_L O_L O_q5_8 K_0
          refine d_all (rs := [12]) (by kernel_rfl) rfl ?_
          refine all_cons (d_lit (listed' := #[true, true, true, true, true, true, true, true, true, true, true, true, true, true, true, false, false, false, false, false]) rfl ?_) ?_
          ·
            refine (s_still p29_5_12 hE wn_none rfl (st_load1 tA64 rfl ((blk_cell B_gd 2).trans rfl)) ?_)
            clear hE a; intro a hE
            refine ⟨trivial, ?_⟩
            refine d_take (v := Value.slice AD (L.length - (i + 1)) (c - (i + 1))) p29_5_15 ns29_5 (by kernel_rfl) (by kernel_rfl) (fun c a w h => hQ c a _ _ w h) hE wn_none rfl trivial (fun W hS => (st_sliceL (lo := i + 1) (A' := AD) Try.underlying64 tS70 rfl rfl (by omega) rfl rfl hAD)) (listed' := #[true, true, true, true, true, true, true, true, true, true, true, true, true, true, true, true, false, false, false, false]) rfl ?_
            clear hE a; intro a hE
            exact dr5_9 A5_8 c5_8 g5_1 _ a (En.sub hE ⟨rfl, rfl, rfl, rfl, rfl, rfl, rfl, rfl, rfl, rfl, rfl, rfl, rfl, rfl, rfl, rfl, rfl, rfl, rfl, rfl, rfl, trivial⟩) B_gd NN_L_q5_8 Nb_q5_8_gd Z_0_q5_8 NN_q5_8_L O_L O_q5_8 K_0
          exact all_nil
        have dr5_6 : ∀ (W : World) (a : Act), En 44 a [(0, Value.pointer (some ⟨gd, 0, none⟩)), (1, Value.int .i64 s), (5, Value.int .i64 (i : Int)), (12, Value.bool true), (24, Value.bool true), (25, Value.pointer (some ⟨gd, 0, none⟩)), (27, Value.pointer (some ⟨gd, 0, none⟩)), (28, Value.pointer (some ⟨gd, 0, none⟩)), (29, Value.pointer (some ⟨gd, 2, none⟩)), (30, Value.slice A L.length c), (31, Value.int .i64 (i : Int)), (32, Value.slice A i c), (34, Value.pointer (some ⟨gd, 0, none⟩)), (35, Value.pointer (some ⟨gd, 0, none⟩)), (36, Value.pointer (some ⟨gd, 2, none⟩)), (37, Value.slice A L.length c), (38, Value.int .i64 (i : Int)), (39, Value.int .i64 ((i : Int) + 1)), (40, Value.slice AD (L.length - (i + 1)) (c - (i + 1)))] → W.heap[gd]? = some (.cells #[Value.int .i64 wt, Value.int .i64 tr, Value.slice A L.length c] 66 (0, 0)) → Rv.RdV W A L.length 3 (flO L) → Kp w W (fun k => k = gd) → wpAnyH Try.prog .any (regOf Try.f29 5) QQ (fun W => True) 6 #[true, false, true, true, true, true, true, true, false, true, true, true, true, true, true, true, false, false, false, false] a W := by
          intro w23 a hE B_gd O_L K_0
          refine d_all (rs := [1]) (by kernel_rfl) rfl ?_
          refine all_cons (d_lit (listed' := #[true, true, true, true, true, true, true, true, false, true, true, true, true, true, true, true, false, false, false, false]) rfl ?_) ?_
          ·
            refine (s_row (xs := []) (vs := []) (cs := #[]) p29_5_1 hE wn_none rfl Try.underlying64 rfl (by kernel_rfl) ?_)
            clear hE a; intro g5_1 w24 z25 B_g5_1 hk a hE
            have n_gd_g5_1 : gd ≠ g5_1 := ne_new B_gd z25
            have z_0_g5_1 := Nat.le_trans K_0.kept.1 z25
            have Nb_L_g5_1 : ¬ OB A g5_1 := fun h => by have := (Rv.rdv_ob O_L h).2; omega
            replace B_gd := kp_blk B_gd hk (fun h => h)
            replace O_L := Rv.rdv_keep O_L hk (fun _ _ h => h)
            replace K_0 := K_0.then_ hk (fun _ h => h.elim)
            clear hk
            refine ⟨trivial, ?_⟩
            have n_g5_1_gd := Ne.symm n_gd_g5_1
            exact dr5_8 g5_1 _ a (En.sub hE ⟨rfl, rfl, rfl, rfl, rfl, rfl, rfl, rfl, rfl, rfl, rfl, rfl, rfl, rfl, rfl, rfl, rfl, rfl, rfl, rfl, trivial⟩) B_gd B_g5_1 n_g5_1_gd z_0_g5_1 Nb_L_g5_1 O_L K_0
          exact all_nil
        have dr5_5 : ∀ (g5_1 : Nat) (W : World) (a : Act), En 44 a [(0, Value.pointer (some ⟨gd, 0, none⟩)), (1, Value.int .i64 s), (5, Value.int .i64 (i : Int)), (12, Value.bool true), (24, Value.bool true), (25, Value.pointer (some ⟨gd, 0, none⟩)), (26, Value.slice (some ⟨g5_1, 0, none⟩) 0 0), (27, Value.pointer (some ⟨gd, 0, none⟩)), (28, Value.pointer (some ⟨gd, 0, none⟩)), (29, Value.pointer (some ⟨gd, 2, none⟩)), (30, Value.slice A L.length c), (31, Value.int .i64 (i : Int)), (32, Value.slice A i c), (34, Value.pointer (some ⟨gd, 0, none⟩)), (35, Value.pointer (some ⟨gd, 0, none⟩)), (36, Value.pointer (some ⟨gd, 2, none⟩)), (38, Value.int .i64 (i : Int)), (39, Value.int .i64 ((i : Int) + 1))] → W.heap[gd]? = some (.cells #[Value.int .i64 wt, Value.int .i64 tr, Value.slice A L.length c] 66 (0, 0)) → W.heap[g5_1]? = some (.cells #[] 70 (0, 0)) → g5_1 ≠ gd → w.heap.size ≤ g5_1 → ¬ OB A g5_1 → Rv.RdV W A L.length 3 (flO L) → Kp w W (fun k => k = gd) → wpAnyH Try.prog .any (regOf Try.f29 5) QQ (fun W => True) 7 #[true, true, true, true, true, true, true, true, false, true, true, true, false, true, true, false, false, false, false, false] a W := by
          intro g5_1 w26 a hE B_gd B_g5_1 n_g5_1_gd z_0_g5_1 Nb_L_g5_1 O_L K_0
          refine d_all (rs := [8, 12]) (by kernel_rfl) rfl ?_
          refine all_cons (d_lit (listed' := #[true, true, true, true, true, true, true, true, true, true, true, true, false, true, true, false, false, false, false, false]) rfl ?_) ?_
          ·
            have O_q5_8 := own_blk0 (s := 3) B_g5_1 (show w.heap.size ≤ g5_1 from z_0_g5_1)
            have Nb_q5_8_gd : ¬ OB (some ⟨g5_1, 0, none⟩) gd := fun h => by have h := ob_blk.1 h; exact n_g5_1_gd h
            have Z_0_q5_8 : ∀ k, OB (some ⟨g5_1, 0, none⟩) k → (fun k => k = gd) k ∨ w.heap.size ≤ k := fun k h => by have h := ob_blk.1 h; subst h; exact Or.inr z_0_g5_1
            have NN_q5_8_L : ∀ k, OB (some ⟨g5_1, 0, none⟩) k → ¬ OB A k := fun k h h2 => by have h := ob_blk.1 h; subst h; exact Nb_L_g5_1 h2
            have NN_L_q5_8 : ∀ k, OB A k → ¬ OB (some ⟨g5_1, 0, none⟩) k := fun k h h2 => NN_q5_8_L k h2 h
            refine (Rv.s_appendV (s := 3) (xs := []) p29_5_8 hE wn_none rfl Try.underlying64 eD70 (by decide) rfl O_q5_8 rfl (Rv.rdv_take O_L (by omega)) (by omega) (by omega) K_0.kept.1 ?_ hcA.2)
            clear hE a; intro A5_8 c5_8 w27 O_q5_8' hk hat a hE
            have Nb_q5_8_gd' := grow_n Nb_q5_8_gd (blk_lt B_gd) hat
            have NN_L_q5_8' : ∀ k, OB A k → ¬ OB A5_8 k := fun k h h2 => (hat k h2).elim (NN_L_q5_8 k h) (fun h3 => by have := (Rv.rdv_ob O_L h).2; omega)
            have Z_0_q5_8' := grow_z Z_0_q5_8 K_0.kept.1 hat
            replace B_gd := kp_blk B_gd hk Nb_q5_8_gd
            replace O_L := Rv.rdv_keep O_L hk NN_L_q5_8
            replace K_0 := K_0.then_ hk Z_0_q5_8
            replace Nb_q5_8_gd := Nb_q5_8_gd'
            replace NN_L_q5_8 := NN_L_q5_8'
            replace NN_q5_8_L : ∀ k, OB A5_8 k → ¬ OB A k := fun k h h2 => NN_L_q5_8 k h2 h
            replace Z_0_q5_8 := Z_0_q5_8'
            replace O_q5_8 := O_q5_8'
            try clear O_q5_8'
            clear hk hat
            refine ⟨trivial, ?_⟩
            exact dr5_7 A5_8 c5_8 g5_1 _ a (En.sub hE ⟨rfl, rfl, rfl, rfl, rfl, rfl, rfl, rfl, rfl, rfl, rfl, rfl, rfl, rfl, rfl, rfl, rfl, rfl, rfl, trivial⟩) B_gd NN_L_q5_8 Nb_q5_8_gd Z_0_q5_8 NN_q5_8_L O_L O_q5_8 K_0
          refine all_cons (d_lit (listed' := #[true, true, true, true, true, true, true, true, false, true, true, true, true, true, true, false, false, false, false, false]) rfl ?_) ?_
          ·
            refine (s_still p29_5_12 hE wn_none rfl (st_load1 tA64 rfl ((blk_cell B_gd 2).trans rfl)) ?_)
            clear hE a; intro a hE
            refine ⟨trivial, ?_⟩
            refine d_take (v := Value.slice AD (L.length - (i + 1)) (c - (i + 1))) p29_5_15 ns29_5 (by kernel_rfl) (by kernel_rfl) (fun c a w h => hQ c a _ _ w h) hE wn_none rfl trivial (fun W hS => (st_sliceL (lo := i + 1) (A' := AD) Try.underlying64 tS70 rfl rfl (by omega) rfl rfl hAD)) (listed' := #[true, true, true, true, true, true, true, true, false, true, true, true, true, true, true, true, false, false, false, false]) rfl ?_
            clear hE a; intro a hE
            exact dr5_8 g5_1 _ a (En.sub hE ⟨rfl, rfl, rfl, rfl, rfl, rfl, rfl, rfl, rfl, rfl, rfl, rfl, rfl, rfl, rfl, rfl, rfl, rfl, rfl, rfl, trivial⟩) B_gd B_g5_1 n_g5_1_gd z_0_g5_1 Nb_L_g5_1 O_L K_0
          exact all_nil
        have dr5_4 : ∀ (g5_1 : Nat) (W : World) (a : Act), En 44 a [(0, Value.pointer (some ⟨gd, 0, none⟩)), (1, Value.int .i64 s), (5, Value.int .i64 (i : Int)), (12, Value.bool true), (24, Value.bool true), (25, Value.pointer (some ⟨gd, 0, none⟩)), (26, Value.slice (some ⟨g5_1, 0, none⟩) 0 0), (27, Value.pointer (some ⟨gd, 0, none⟩)), (28, Value.pointer (some ⟨gd, 0, none⟩)), (29, Value.pointer (some ⟨gd, 2, none⟩)), (31, Value.int .i64 (i : Int)), (34, Value.pointer (some ⟨gd, 0, none⟩)), (35, Value.pointer (some ⟨gd, 0, none⟩)), (36, Value.pointer (some ⟨gd, 2, none⟩)), (37, Value.slice A L.length c), (38, Value.int .i64 (i : Int)), (39, Value.int .i64 ((i : Int) + 1)), (40, Value.slice AD (L.length - (i + 1)) (c - (i + 1)))] → W.heap[gd]? = some (.cells #[Value.int .i64 wt, Value.int .i64 tr, Value.slice A L.length c] 66 (0, 0)) → W.heap[g5_1]? = some (.cells #[] 70 (0, 0)) → g5_1 ≠ gd → w.heap.size ≤ g5_1 → ¬ OB A g5_1 → Rv.RdV W A L.length 3 (flO L) → Kp w W (fun k => k = gd) → wpAnyH Try.prog .any (regOf Try.f29 5) QQ (fun W => True) 7 #[true, true, true, true, true, false, true, false, false, true, true, true, true, true, true, true, false, false, false, false] a W := by
          intro g5_1 w28 a hE B_gd B_g5_1 n_g5_1_gd z_0_g5_1 Nb_L_g5_1 O_L K_0
          refine d_all (rs := [5]) (by kernel_rfl) rfl ?_
          refine all_cons (d_lit (listed' := #[true, true, true, true, true, true, true, false, false, true, true, true, true, true, true, true, false, false, false, false]) rfl ?_) ?_
          ·
            refine (s_still p29_5_5 hE wn_none rfl (st_load1 tA64 rfl ((blk_cell B_gd 2).trans rfl)) ?_)
            clear hE a; intro a hE
            refine ⟨trivial, ?_⟩
            refine d_take (v := Value.slice A i c) p29_5_7 ns29_5 (by kernel_rfl) (by kernel_rfl) (fun c a w h => hQ c a _ _ w h) hE wn_none rfl trivial (fun W hS => (st_sliceH (h := i) Try.underlying64 tS70 rfl rfl (by omega))) (listed' := #[true, true, true, true, true, true, true, true, false, true, true, true, true, true, true, true, false, false, false, false]) rfl ?_
            clear hE a; intro a hE
            exact dr5_8 g5_1 _ a (En.sub hE ⟨rfl, rfl, rfl, rfl, rfl, rfl, rfl, rfl, rfl, rfl, rfl, rfl, rfl, rfl, rfl, rfl, rfl, rfl, rfl, rfl, trivial⟩) B_gd B_g5_1 n_g5_1_gd z_0_g5_1 Nb_L_g5_1 O_L K_0
          exact all_nil
        have dr5_3 : ∀ (W : World) (a : Act), En 44 a [(0, Value.pointer (some ⟨gd, 0, none⟩)), (1, Value.int .i64 s), (5, Value.int .i64 (i : Int)), (12, Value.bool true), (24, Value.bool true), (25, Value.pointer (some ⟨gd, 0, none⟩)), (27, Value.pointer (some ⟨gd, 0, none⟩)), (28, Value.pointer (some ⟨gd, 0, none⟩)), (29, Value.pointer (some ⟨gd, 2, none⟩)), (31, Value.int .i64 (i : Int)), (34, Value.pointer (some ⟨gd, 0, none⟩)), (35, Value.pointer (some ⟨gd, 0, none⟩)), (36, Value.pointer (some ⟨gd, 2, none⟩)), (37, Value.slice A L.length c), (38, Value.int .i64 (i : Int)), (39, Value.int .i64 ((i : Int) + 1)), (40, Value.slice AD (L.length - (i + 1)) (c - (i + 1)))] → W.heap[gd]? = some (.cells #[Value.int .i64 wt, Value.int .i64 tr, Value.slice A L.length c] 66 (0, 0)) → Rv.RdV W A L.length 3 (flO L) → Kp w W (fun k => k = gd) → wpAnyH Try.prog .any (regOf Try.f29 5) QQ (fun W => True) 8 #[true, false, true, true, true, false, true, false, false, true, true, true, true, true, true, true, false, false, false, false] a W := by
          intro w29 a hE B_gd O_L K_0
          refine d_all (rs := [1, 5]) (by kernel_rfl) rfl ?_
          refine all_cons (d_lit (listed' := #[true, true, true, true, true, false, true, false, false, true, true, true, true, true, true, true, false, false, false, false]) rfl ?_) ?_
          ·
            refine (s_row (xs := []) (vs := []) (cs := #[]) p29_5_1 hE wn_none rfl Try.underlying64 rfl (by kernel_rfl) ?_)
            clear hE a; intro g5_1 w30 z31 B_g5_1 hk a hE
            have n_gd_g5_1 : gd ≠ g5_1 := ne_new B_gd z31
            have z_0_g5_1 := Nat.le_trans K_0.kept.1 z31
            have Nb_L_g5_1 : ¬ OB A g5_1 := fun h => by have := (Rv.rdv_ob O_L h).2; omega
            replace B_gd := kp_blk B_gd hk (fun h => h)
            replace O_L := Rv.rdv_keep O_L hk (fun _ _ h => h)
            replace K_0 := K_0.then_ hk (fun _ h => h.elim)
            clear hk
            refine ⟨trivial, ?_⟩
            have n_g5_1_gd := Ne.symm n_gd_g5_1
            exact dr5_4 g5_1 _ a (En.sub hE ⟨rfl, rfl, rfl, rfl, rfl, rfl, rfl, rfl, rfl, rfl, rfl, rfl, rfl, rfl, rfl, rfl, rfl, rfl, trivial⟩) B_gd B_g5_1 n_g5_1_gd z_0_g5_1 Nb_L_g5_1 O_L K_0
          refine all_cons (d_lit (listed' := #[true, false, true, true, true, true, true, false, false, true, true, true, true, true, true, true, false, false, false, false]) rfl ?_) ?_
          ·
            refine (s_still p29_5_5 hE wn_none rfl (st_load1 tA64 rfl ((blk_cell B_gd 2).trans rfl)) ?_)
            clear hE a; intro a hE
            refine ⟨trivial, ?_⟩
            refine d_take (v := Value.slice A i c) p29_5_7 ns29_5 (by kernel_rfl) (by kernel_rfl) (fun c a w h => hQ c a _ _ w h) hE wn_none rfl trivial (fun W hS => (st_sliceH (h := i) Try.underlying64 tS70 rfl rfl (by omega))) (listed' := #[true, false, true, true, true, true, true, true, false, true, true, true, true, true, true, true, false, false, false, false]) rfl ?_
            clear hE a; intro a hE
            exact dr5_6 _ a (En.sub hE ⟨rfl, rfl, rfl, rfl, rfl, rfl, rfl, rfl, rfl, rfl, rfl, rfl, rfl, rfl, rfl, rfl, rfl, rfl, rfl, trivial⟩) B_gd O_L K_0
          exact all_nil
        have dr5_2 : ∀ (W : World) (a : Act), En 44 a [(0, Value.pointer (some ⟨gd, 0, none⟩)), (1, Value.int .i64 s), (5, Value.int .i64 (i : Int)), (12, Value.bool true), (24, Value.bool true), (25, Value.pointer (some ⟨gd, 0, none⟩)), (27, Value.pointer (some ⟨gd, 0, none⟩)), (28, Value.pointer (some ⟨gd, 0, none⟩)), (29, Value.pointer (some ⟨gd, 2, none⟩)), (30, Value.slice A L.length c), (31, Value.int .i64 (i : Int)), (32, Value.slice A i c), (34, Value.pointer (some ⟨gd, 0, none⟩)), (35, Value.pointer (some ⟨gd, 0, none⟩)), (36, Value.pointer (some ⟨gd, 2, none⟩)), (38, Value.int .i64 (i : Int)), (39, Value.int .i64 ((i : Int) + 1))] → W.heap[gd]? = some (.cells #[Value.int .i64 wt, Value.int .i64 tr, Value.slice A L.length c] 66 (0, 0)) → Rv.RdV W A L.length 3 (flO L) → Kp w W (fun k => k = gd) → wpAnyH Try.prog .any (regOf Try.f29 5) QQ (fun W => True) 8 #[true, false, true, true, true, true, true, true, false, true, true, true, false, true, true, false, false, false, false, false] a W := by
          intro w32 a hE B_gd O_L K_0
          refine d_all (rs := [1, 12]) (by kernel_rfl) rfl ?_
          refine all_cons (d_lit (listed' := #[true, true, true, true, true, true, true, true, false, true, true, true, false, true, true, false, false, false, false, false]) rfl ?_) ?_
          ·
            refine (s_row (xs := []) (vs := []) (cs := #[]) p29_5_1 hE wn_none rfl Try.underlying64 rfl (by kernel_rfl) ?_)
            clear hE a; intro g5_1 w33 z34 B_g5_1 hk a hE
            have n_gd_g5_1 : gd ≠ g5_1 := ne_new B_gd z34
            have z_0_g5_1 := Nat.le_trans K_0.kept.1 z34
            have Nb_L_g5_1 : ¬ OB A g5_1 := fun h => by have := (Rv.rdv_ob O_L h).2; omega
            replace B_gd := kp_blk B_gd hk (fun h => h)
            replace O_L := Rv.rdv_keep O_L hk (fun _ _ h => h)
            replace K_0 := K_0.then_ hk (fun _ h => h.elim)
            clear hk
            refine ⟨trivial, ?_⟩
            have n_g5_1_gd := Ne.symm n_gd_g5_1
            exact dr5_5 g5_1 _ a (En.sub hE ⟨rfl, rfl, rfl, rfl, rfl, rfl, rfl, rfl, rfl, rfl, rfl, rfl, rfl, rfl, rfl, rfl, rfl, rfl, trivial⟩) B_gd B_g5_1 n_g5_1_gd z_0_g5_1 Nb_L_g5_1 O_L K_0
          refine all_cons (d_lit (listed' := #[true, false, true, true, true, true, true, true, false, true, true, true, true, true, true, false, false, false, false, false]) rfl ?_) ?_
          ·
            refine (s_still p29_5_12 hE wn_none rfl (st_load1 tA64 rfl ((blk_cell B_gd 2).trans rfl)) ?_)
            clear hE a; intro a hE
            refine ⟨trivial, ?_⟩
            refine d_take (v := Value.slice AD (L.length - (i + 1)) (c - (i + 1))) p29_5_15 ns29_5 (by kernel_rfl) (by kernel_rfl) (fun c a w h => hQ c a _ _ w h) hE wn_none rfl trivial (fun W hS => (st_sliceL (lo := i + 1) (A' := AD) Try.underlying64 tS70 rfl rfl (by omega) rfl rfl hAD)) (listed' := #[true, false, true, true, true, true, true, true, false, true, true, true, true, true, true, true, false, false, false, false]) rfl ?_
            clear hE a; intro a hE
            exact dr5_6 _ a (En.sub hE ⟨rfl, rfl, rfl, rfl, rfl, rfl, rfl, rfl, rfl, rfl, rfl, rfl, rfl, rfl, rfl, rfl, rfl, rfl, rfl, trivial⟩) B_gd O_L K_0
          exact all_nil
        have dr5_1 : ∀ (g5_1 : Nat) (W : World) (a : Act), En 44 a [(0, Value.pointer (some ⟨gd, 0, none⟩)), (1, Value.int .i64 s), (5, Value.int .i64 (i : Int)), (12, Value.bool true), (24, Value.bool true), (25, Value.pointer (some ⟨gd, 0, none⟩)), (26, Value.slice (some ⟨g5_1, 0, none⟩) 0 0), (27, Value.pointer (some ⟨gd, 0, none⟩)), (28, Value.pointer (some ⟨gd, 0, none⟩)), (29, Value.pointer (some ⟨gd, 2, none⟩)), (31, Value.int .i64 (i : Int)), (34, Value.pointer (some ⟨gd, 0, none⟩)), (35, Value.pointer (some ⟨gd, 0, none⟩)), (36, Value.pointer (some ⟨gd, 2, none⟩)), (38, Value.int .i64 (i : Int)), (39, Value.int .i64 ((i : Int) + 1))] → W.heap[gd]? = some (.cells #[Value.int .i64 wt, Value.int .i64 tr, Value.slice A L.length c] 66 (0, 0)) → W.heap[g5_1]? = some (.cells #[] 70 (0, 0)) → g5_1 ≠ gd → w.heap.size ≤ g5_1 → ¬ OB A g5_1 → Rv.RdV W A L.length 3 (flO L) → Kp w W (fun k => k = gd) → wpAnyH Try.prog .any (regOf Try.f29 5) QQ (fun W => True) 9 #[true, true, true, true, true, false, true, false, false, true, true, true, false, true, true, false, false, false, false, false] a W := by
          intro g5_1 w35 a hE B_gd B_g5_1 n_g5_1_gd z_0_g5_1 Nb_L_g5_1 O_L K_0
          refine d_all (rs := [5, 12]) (by kernel_rfl) rfl ?_
          refine all_cons (d_lit (listed' := #[true, true, true, true, true, true, true, false, false, true, true, true, false, true, true, false, false, false, false, false]) rfl ?_) ?_
          ·
            refine (s_still p29_5_5 hE wn_none rfl (st_load1 tA64 rfl ((blk_cell B_gd 2).trans rfl)) ?_)
            clear hE a; intro a hE
            refine ⟨trivial, ?_⟩
            refine d_take (v := Value.slice A i c) p29_5_7 ns29_5 (by kernel_rfl) (by kernel_rfl) (fun c a w h => hQ c a _ _ w h) hE wn_none rfl trivial (fun W hS => (st_sliceH (h := i) Try.underlying64 tS70 rfl rfl (by omega))) (listed' := #[true, true, true, true, true, true, true, true, false, true, true, true, false, true, true, false, false, false, false, false]) rfl ?_
            clear hE a; intro a hE
            exact dr5_5 g5_1 _ a (En.sub hE ⟨rfl, rfl, rfl, rfl, rfl, rfl, rfl, rfl, rfl, rfl, rfl, rfl, rfl, rfl, rfl, rfl, rfl, rfl, trivial⟩) B_gd B_g5_1 n_g5_1_gd z_0_g5_1 Nb_L_g5_1 O_L K_0
          refine all_cons (d_lit (listed' := #[true, true, true, true, true, false, true, false, false, true, true, true, true, true, true, false, false, false, false, false]) rfl ?_) ?_
          ·
            refine (s_still p29_5_12 hE wn_none rfl (st_load1 tA64 rfl ((blk_cell B_gd 2).trans rfl)) ?_)
            clear hE a; intro a hE
            refine ⟨trivial, ?_⟩
            refine d_take (v := Value.slice AD (L.length - (i + 1)) (c - (i + 1))) p29_5_15 ns29_5 (by kernel_rfl) (by kernel_rfl) (fun c a w h => hQ c a _ _ w h) hE wn_none rfl trivial (fun W hS => (st_sliceL (lo := i + 1) (A' := AD) Try.underlying64 tS70 rfl rfl (by omega) rfl rfl hAD)) (listed' := #[true, true, true, true, true, false, true, false, false, true, true, true, true, true, true, true, false, false, false, false]) rfl ?_
            clear hE a; intro a hE
            exact dr5_4 g5_1 _ a (En.sub hE ⟨rfl, rfl, rfl, rfl, rfl, rfl, rfl, rfl, rfl, rfl, rfl, rfl, rfl, rfl, rfl, rfl, rfl, rfl, trivial⟩) B_gd B_g5_1 n_g5_1_gd z_0_g5_1 Nb_L_g5_1 O_L K_0
          exact all_nil
        have dr5_0 : ∀ (W : World) (a : Act), En 44 a [(0, Value.pointer (some ⟨gd, 0, none⟩)), (1, Value.int .i64 s), (5, Value.int .i64 (i : Int)), (12, Value.bool true), (24, Value.bool true), (25, Value.pointer (some ⟨gd, 0, none⟩)), (27, Value.pointer (some ⟨gd, 0, none⟩)), (28, Value.pointer (some ⟨gd, 0, none⟩)), (29, Value.pointer (some ⟨gd, 2, none⟩)), (31, Value.int .i64 (i : Int)), (34, Value.pointer (some ⟨gd, 0, none⟩)), (35, Value.pointer (some ⟨gd, 0, none⟩)), (36, Value.pointer (some ⟨gd, 2, none⟩)), (38, Value.int .i64 (i : Int)), (39, Value.int .i64 ((i : Int) + 1))] → W.heap[gd]? = some (.cells #[Value.int .i64 wt, Value.int .i64 tr, Value.slice A L.length c] 66 (0, 0)) → Rv.RdV W A L.length 3 (flO L) → Kp w W (fun k => k = gd) → wpAnyH Try.prog .any (regOf Try.f29 5) QQ (fun W => True) 10 #[true, false, true, true, true, false, true, false, false, true, true, true, false, true, true, false, false, false, false, false] a W := by
          intro w36 a hE B_gd O_L K_0
          refine d_all (rs := [1, 5, 12]) (by kernel_rfl) rfl ?_
          refine all_cons (d_lit (listed' := #[true, true, true, true, true, false, true, false, false, true, true, true, false, true, true, false, false, false, false, false]) rfl ?_) ?_
          ·
            refine (s_row (xs := []) (vs := []) (cs := #[]) p29_5_1 hE wn_none rfl Try.underlying64 rfl (by kernel_rfl) ?_)
            clear hE a; intro g5_1 w37 z38 B_g5_1 hk a hE
            have n_gd_g5_1 : gd ≠ g5_1 := ne_new B_gd z38
            have z_0_g5_1 := Nat.le_trans K_0.kept.1 z38
            have Nb_L_g5_1 : ¬ OB A g5_1 := fun h => by have := (Rv.rdv_ob O_L h).2; omega
            replace B_gd := kp_blk B_gd hk (fun h => h)
            replace O_L := Rv.rdv_keep O_L hk (fun _ _ h => h)
            replace K_0 := K_0.then_ hk (fun _ h => h.elim)
            clear hk
            refine ⟨trivial, ?_⟩
            have n_g5_1_gd := Ne.symm n_gd_g5_1
            exact dr5_1 g5_1 _ a (En.sub hE ⟨rfl, rfl, rfl, rfl, rfl, rfl, rfl, rfl, rfl, rfl, rfl, rfl, rfl, rfl, rfl, rfl, trivial⟩) B_gd B_g5_1 n_g5_1_gd z_0_g5_1 Nb_L_g5_1 O_L K_0
          refine all_cons (d_lit (listed' := #[true, false, true, true, true, true, true, false, false, true, true, true, false, true, true, false, false, false, false, false]) rfl ?_) ?_
          ·
            refine (s_still p29_5_5 hE wn_none rfl (st_load1 tA64 rfl ((blk_cell B_gd 2).trans rfl)) ?_)
            clear hE a; intro a hE
            refine ⟨trivial, ?_⟩
            refine d_take (v := Value.slice A i c) p29_5_7 ns29_5 (by kernel_rfl) (by kernel_rfl) (fun c a w h => hQ c a _ _ w h) hE wn_none rfl trivial (fun W hS => (st_sliceH (h := i) Try.underlying64 tS70 rfl rfl (by omega))) (listed' := #[true, false, true, true, true, true, true, true, false, true, true, true, false, true, true, false, false, false, false, false]) rfl ?_
            clear hE a; intro a hE
            exact dr5_2 _ a (En.sub hE ⟨rfl, rfl, rfl, rfl, rfl, rfl, rfl, rfl, rfl, rfl, rfl, rfl, rfl, rfl, rfl, rfl, rfl, trivial⟩) B_gd O_L K_0
          refine all_cons (d_lit (listed' := #[true, false, true, true, true, false, true, false, false, true, true, true, true, true, true, false, false, false, false, false]) rfl ?_) ?_
          ·
            refine (s_still p29_5_12 hE wn_none rfl (st_load1 tA64 rfl ((blk_cell B_gd 2).trans rfl)) ?_)
            clear hE a; intro a hE
            refine ⟨trivial, ?_⟩
            refine d_take (v := Value.slice AD (L.length - (i + 1)) (c - (i + 1))) p29_5_15 ns29_5 (by kernel_rfl) (by kernel_rfl) (fun c a w h => hQ c a _ _ w h) hE wn_none rfl trivial (fun W hS => (st_sliceL (lo := i + 1) (A' := AD) Try.underlying64 tS70 rfl rfl (by omega) rfl rfl hAD)) (listed' := #[true, false, true, true, true, false, true, false, false, true, true, true, true, true, true, true, false, false, false, false]) rfl ?_
            clear hE a; intro a hE
            exact dr5_3 _ a (En.sub hE ⟨rfl, rfl, rfl, rfl, rfl, rfl, rfl, rfl, rfl, rfl, rfl, rfl, rfl, rfl, rfl, rfl, rfl, trivial⟩) B_gd O_L K_0
          exact all_nil
        intro w2 hh hk
        replace B_gd := kp_blk B_gd hk (fun h => h)
        replace O_L := Rv.rdv_keep O_L hk (fun _ _ h => h)
        replace K_0 := K_0.then_ hk (fun _ h => h.elim)
        clear hh hk
        refine d_take (v := Value.pointer (some ⟨gd, 0, none⟩)) p29_5_0 ns29_5 (by kernel_rfl) (by kernel_rfl) (fun c a w h => hQ c a _ _ w h) hE wn_none rfl trivial (fun W hS => (st_move rfl)) (listed' := #[true, false, false, false, false, false, false, false, false, false, false, false, false, false, false, false, false, false, false, false]) rfl ?_
        clear hE a; intro a hE
        refine d_take (v := Value.pointer (some ⟨gd, 0, none⟩)) p29_5_2 ns29_5 (by kernel_rfl) (by kernel_rfl) (fun c a w h => hQ c a _ _ w h) hE wn_none rfl trivial (fun W hS => (st_move rfl)) (listed' := #[true, false, true, false, false, false, false, false, false, false, false, false, false, false, false, false, false, false, false, false]) rfl ?_
        clear hE a; intro a hE
        refine d_take (v := Value.pointer (some ⟨gd, 0, none⟩)) p29_5_3 ns29_5 (by kernel_rfl) (by kernel_rfl) (fun c a w h => hQ c a _ _ w h) hE wn_none rfl trivial (fun W hS => (st_nil rfl)) (listed' := #[true, false, true, true, false, false, false, false, false, false, false, false, false, false, false, false, false, false, false, false]) rfl ?_
        clear hE a; intro a hE
        refine d_take (v := Value.pointer (some ⟨gd, 2, none⟩)) p29_5_4 ns29_5 (by kernel_rfl) (by kernel_rfl) (fun c a w h => hQ c a _ _ w h) hE wn_none rfl trivial (fun W hS => (st_fieldAddr Try.underlying66 rfl tS64 rfl rfl)) (listed' := #[true, false, true, true, true, false, false, false, false, false, false, false, false, false, false, false, false, false, false, false]) rfl ?_
        clear hE a; intro a hE
        refine d_take (v := Value.int .i64 (i : Int)) p29_5_6 ns29_5 (by kernel_rfl) (by kernel_rfl) (fun c a w h => hQ c a _ _ w h) hE wn_none rfl trivial (fun W hS => (st_move rfl)) (listed' := #[true, false, true, true, true, false, true, false, false, false, false, false, false, false, false, false, false, false, false, false]) rfl ?_
        clear hE a; intro a hE
        refine d_take (v := Value.pointer (some ⟨gd, 0, none⟩)) p29_5_9 ns29_5 (by kernel_rfl) (by kernel_rfl) (fun c a w h => hQ c a _ _ w h) hE wn_none rfl trivial (fun W hS => (st_move rfl)) (listed' := #[true, false, true, true, true, false, true, false, false, true, false, false, false, false, false, false, false, false, false, false]) rfl ?_
        clear hE a; intro a hE
        refine d_take (v := Value.pointer (some ⟨gd, 0, none⟩)) p29_5_10 ns29_5 (by kernel_rfl) (by kernel_rfl) (fun c a w h => hQ c a _ _ w h) hE wn_none rfl trivial (fun W hS => (st_nil rfl)) (listed' := #[true, false, true, true, true, false, true, false, false, true, true, false, false, false, false, false, false, false, false, false]) rfl ?_
        clear hE a; intro a hE
        refine d_take (v := Value.pointer (some ⟨gd, 2, none⟩)) p29_5_11 ns29_5 (by kernel_rfl) (by kernel_rfl) (fun c a w h => hQ c a _ _ w h) hE wn_none rfl trivial (fun W hS => (st_fieldAddr Try.underlying66 rfl tS64 rfl rfl)) (listed' := #[true, false, true, true, true, false, true, false, false, true, true, true, false, false, false, false, false, false, false, false]) rfl ?_
        clear hE a; intro a hE
        refine d_take (v := Value.int .i64 (i : Int)) p29_5_13 ns29_5 (by kernel_rfl) (by kernel_rfl) (fun c a w h => hQ c a _ _ w h) hE wn_none rfl trivial (fun W hS => (st_move rfl)) (listed' := #[true, false, true, true, true, false, true, false, false, true, true, true, false, true, false, false, false, false, false, false]) rfl ?_
        clear hE a; intro a hE
        refine d_take (v := Value.int .i64 ((i : Int) + 1)) p29_5_14 ns29_5 (by kernel_rfl) (by kernel_rfl) (fun c a w h => hQ c a _ _ w h) hE wn_none rfl trivial (fun W hS => (st_add (z := (i : Int) + 1) rfl rfl (wr_i64 _ (by omega) (by omega)))) (listed' := #[true, false, true, true, true, false, true, false, false, true, true, true, false, true, true, false, false, false, false, false]) rfl ?_
        clear hE a; intro a hE
        exact dr5_0 _ a (En.sub hE ⟨rfl, rfl, rfl, rfl, rfl, rfl, rfl, rfl, rfl, rfl, rfl, rfl, rfl, rfl, rfl, trivial⟩) B_gd O_L K_0
      ·
        refine c_reg R29_4_l ?_
        refine q0 p29_4_0 hE (st_move rfl) ?_
        clear hE a; intro a hE
        refine q0 p29_4_1 hE (st_nil rfl) ?_
        clear hE a; intro a hE
        refine q0 p29_4_2 hE (st_fieldAddr Try.underlying66 rfl tS64 rfl rfl) ?_
        clear hE a; intro a hE
        refine q0 p29_4_3 hE (st_load1 tA64 rfl ((blk_cell B_gd 2).trans rfl)) ?_
        clear hE a; intro a hE
        refine q0 p29_4_4 hE (st_move rfl) ?_
        clear hE a; intro a hE
        refine q0 p29_4_5 hE (st_indexAddrR (i := i) (s := 3) Try.underlying64 tS70 hAeo rfl rfl (by omega)) ?_
        clear hE a; intro a hE
        refine q0 p29_4_6 hE (st_fieldAddrR (off := i * 3) (f0 := 0) (o' := i * 3) Try.underlying70 rfl tS3 rfl (by omega) rfl) ?_
        clear hE a; intro a hE
        refine q0 p29_4_7 hE (st_loadR1 (off := i * 3) (j := 0) tA3 (fun j u h => hCeo j u h) rfl (by omega) rfl) ?_
        clear hE a; intro a hE
        refine q0 p29_4_8 hE (st_move rfl) ?_
        clear hE a; intro a hE
        refine q0 p29_4_9 hE (st_eql (b := false) rfl rfl (decide_eq_false hEQ)) ?_
        clear hE a; intro a hE
        refine p_nil ?_
        refine x_norm ?_
        refine c_cond (t := false) hE rfl ?_
        refine wp_skip ?_
        refine x_normB ?_
        refine x_norm ?_
        refine c_regL R29_3_l ?_
        refine q0 p29_3_0 hE (st_move rfl) ?_
        clear hE a; intro a hE
        refine q0 p29_3_1 hE (st_add (z := (i : Int) + 1) rfl rfl (wr_i64 _ (by omega) (by omega))) ?_
        clear hE a; intro a hE
        refine q0 p29_3_2 hE (st_assign rfl) ?_
        clear hE a; intro a hE
        refine p_nil ?_
        refine x_norm ?_
        have hno9 : ∀ j p, j < i + 1 → L[j]? = some p → p.1 ≠ s := fun j p hj hp => by
          rcases Nat.lt_or_ge j i with q | q
          · exact hno j p q hp
          · obtain rfl : j = i := by omega
            rw [hx] at hp
            injection hp with hp
            rw [← hp]; exact hEQ
        exact ⟨i + 1, by omega, En.sub hE ⟨rfl, rfl, rfl, trivial⟩, by omega, hno9, B_gd, O_L, Nb_L_gd, K_0⟩
    ·
      refine c_reg R29_2_l ?_
      refine q0 p29_2_0 hE (st_move rfl) ?_
      clear hE a; intro a hE
      refine q0 p29_2_1 hE (st_move rfl) ?_
      clear hE a; intro a hE
      refine q0 p29_2_2 hE (st_nil rfl) ?_
      clear hE a; intro a hE
      refine q0 p29_2_3 hE (st_fieldAddr Try.underlying66 rfl tS64 rfl rfl) ?_
      clear hE a; intro a hE
      refine q0 p29_2_4 hE (st_load1 tA64 rfl ((blk_cell B_gd 2).trans rfl)) ?_
      clear hE a; intro a hE
      refine q0 p29_2_5 hE (st_len Try.underlying64 rfl) ?_
      clear hE a; intro a hE
      refine q0 p29_2_6 hE (st_lss (b := false) rfl rfl (decide_eq_false hK1)) ?_
      clear hE a; intro a hE
      refine p_nil ?_
      refine x_norm ?_
      refine c_cond (t := false) hE rfl ?_
      refine wp_exit ?_
      refine x_exit ?_
      refine x_exit ?_
      obtain rfl : i = L.length := by omega
      have hrn := rm_none hno
      refine x_in ?_
      refine x_norm ?_
      refine c_reg R29_7_l ?_
      refine q0 p29_7_0 hE (st_assign rfl) ?_
      clear hE a; intro a hE
      refine p_nil ?_
      refine x_norm ?_
      refine wp_ret ?_
      refine ret_one (v := Value.bool false) rfl hE (.tmp rfl .nil) ?_
      exact ⟨A, c, by rw [hrn.2], by rw [hrn.1]; exact B_gd, by rw [hrn.1]; exact O_L, by rw [hrn.1]; exact hcA, fun k h => .inl h, K_0⟩
def insL : L3 → Int × Int × Int → L3
  | [], o => [o]
  | a :: L, o => if a.1 < o.1 then a :: insL L o else o :: a :: L
theorem ins_at : ∀ {L : L3} {o : Int × Int × Int} {i : Nat}, i ≤ L.length → (∀ j p, j < i → L[j]? = some p → p.1 < o.1) → (∀ p, L[i]? = some p → ¬ p.1 < o.1) → insL L o = L.take i ++ o :: L.drop i
  | [], o, i, hi, _, _ => by
    have : i = 0 := by simpa using hi
    subst this
    rfl
  | a :: L, o, 0, _, _, h2 => by
    unfold insL
    rw [if_neg (h2 a rfl)]
    rfl
  | a :: L, o, i + 1, hi, h1, h2 => by
    unfold insL
    rw [if_pos (h1 0 a (by omega) rfl), ins_at (L := L) (i := i) (by simpa using hi) (fun j p hj hp => h1 (j + 1) p (by omega) hp) (fun p hp => h2 p hp)]
    rfl
theorem cut3 (L : L3) (i : Nat) (o : Int × Int × Int) : ((([] ++ (flO L).take (i * 3)) ++ [Value.int .i64 o.1, Value.int .i64 o.2.1, Value.int .i64 o.2.2]) ++ (flO L).drop (i * 3)) = flO (L.take i ++ o :: L.drop i) := by
  unfold flO
  rw [List.nil_append, Rv.flat_take (fl := fl3) (fun _ => rfl), Rv.flat_drop (fl := fl3) (fun _ => rfl), List.flatMap_append, List.flatMap_cons, List.append_assoc]
  rfl
theorem rm_len (L : L3) (s : Int) : (rmL L s).length ≤ L.length := by
  induction L with
  | nil => exact Nat.le_refl _
  | cons a L ih =>
    unfold rmL
    split
    · exact Nat.le_succ _
    · exact Nat.succ_le_succ ih
theorem ins_len (L : L3) (o : Int × Int × Int) : (insL L o).length = L.length + 1 := by
  induction L with
  | nil => rfl
  | cons a L ih =>
    unfold insL
    split
    · rw [List.length_cons, ih, List.length_cons]
    · rfl
theorem R44_5_l : List.range (regOf Try.f44 5).size = [0, 1, 2, 3, 4, 5, 6, 7, 8, 9, 10, 11, 12, 13, 14, 15, 16, 17, 18, 19, 20, 21] := by kernel_rfl
theorem ns44_5 : Region.noSelect (regOf Try.f44 5) = true := by kernel_rfl
theorem p44_5_0 : pj (regOf Try.f44 5) 0 = some (some 31, .move (.tmp 0), 63, none) := by kernel_rfl
theorem p44_5_2 : pj (regOf Try.f44 5) 2 = some (some 33, .move (.tmp 0), 63, none) := by kernel_rfl
theorem p44_5_3 : pj (regOf Try.f44 5) 3 = some (some 34, .nilCheck (.tmp 33), 0, none) := by kernel_rfl
theorem p44_5_4 : pj (regOf Try.f44 5) 4 = some (some 35, .fieldAddr 66 (.tmp 34) 2, 0, none) := by kernel_rfl
theorem p44_5_6 : pj (regOf Try.f44 5) 6 = some (some 37, .move (.tmp 4), 3, none) := by kernel_rfl
theorem p44_5_9 : pj (regOf Try.f44 5) 9 = some (some 40, .load 70 (.tmp 3), 70, none) := by kernel_rfl
theorem tA70 : (Try.prog.underlying 70).map aggD = some true := by kernel_rfl
theorem p44_5_12 : pj (regOf Try.f44 5) 12 = some (some 43, .move (.tmp 0), 63, none) := by kernel_rfl
theorem p44_5_13 : pj (regOf Try.f44 5) 13 = some (some 44, .nilCheck (.tmp 43), 0, none) := by kernel_rfl
theorem p44_5_14 : pj (regOf Try.f44 5) 14 = some (some 45, .fieldAddr 66 (.tmp 44) 2, 0, none) := by kernel_rfl
theorem p44_5_16 : pj (regOf Try.f44 5) 16 = some (some 47, .move (.tmp 4), 3, none) := by kernel_rfl
theorem p44_5_1 : pj (regOf Try.f44 5) 1 = some (some 32, .buildSlice 64 0 #[], 64, none) := by kernel_rfl
theorem p44_5_5 : pj (regOf Try.f44 5) 5 = some (some 36, .load 64 (.tmp 35), 64, none) := by kernel_rfl
theorem p44_5_7 : pj (regOf Try.f44 5) 7 = some (some 38, .slice 64 (.tmp 36) none (some (.tmp 37)) none, 64, none) := by kernel_rfl
theorem p44_5_10 : pj (regOf Try.f44 5) 10 = some (some 41, .buildSlice 64 1 #[(0, .tmp 40)], 64, none) := by kernel_rfl
theorem p44_5_15 : pj (regOf Try.f44 5) 15 = some (some 46, .load 64 (.tmp 45), 64, none) := by kernel_rfl
theorem p44_5_17 : pj (regOf Try.f44 5) 17 = some (some 48, .slice 64 (.tmp 46) (some (.tmp 47)) none none, 64, none) := by kernel_rfl
theorem p44_5_8 : pj (regOf Try.f44 5) 8 = some (some 39, .call { callee := .builtin .append, args := #[.tmp 32, .tmp 38], argTypes := #[64, 64] }, 64, none) := by kernel_rfl
theorem p44_5_11 : pj (regOf Try.f44 5) 11 = some (some 42, .call { callee := .builtin .append, args := #[.tmp 39, .tmp 41], argTypes := #[64, 64] }, 64, none) := by kernel_rfl
theorem p44_5_18 : pj (regOf Try.f44 5) 18 = some (some 49, .call { callee := .builtin .append, args := #[.tmp 42, .tmp 48], argTypes := #[64, 64] }, 64, none) := by kernel_rfl
theorem p44_5_19 : pj (regOf Try.f44 5) 19 = some (some 50, .nilCheck (.tmp 31), 0, none) := by kernel_rfl
theorem p44_5_20 : pj (regOf Try.f44 5) 20 = some (some 51, .fieldAddr 66 (.tmp 50) 2, 0, none) := by kernel_rfl
theorem p44_5_21 : pj (regOf Try.f44 5) 21 = some (none, .store 64 (.tmp 51) (.tmp 49), 0, none) := by kernel_rfl
set_option maxHeartbeats 4000000 in
theorem put5 {R : Ending → World → Prop} (w W : World) (gd : Nat) (A : Option Addr) (c : Nat) (L : List (Int × Int × Int)) (wt tr : Int) (o : Int × Int × Int) (i gb : Nat) (B_gd : W.heap[gd]? = some (.cells #[.int .i64 wt, .int .i64 tr, .slice A L.length c] 66 (0, 0))) (O_L : Rv.RdV W A L.length 3 (flO L)) (hcA : L.length ≤ c ∧ (A = none → c = 0)) (hll : L.length ≤ 1000) (Nb_L_gd : ¬ OB A gd) (Nb_L_gb : ¬ OB A gb) (B_gb : W.heap[gb]? = some (.cells #[.int .i64 o.1, .int .i64 o.2.1, .int .i64 o.2.2] 70 (0, 0))) (n_gd_gb : gd ≠ gb) (K_0 : Kp w W (fun k => k = gd)) (hi9 : i ≤ L.length) (hlow : ∀ j p, j < i → L[j]? = some p → p.1 < o.1) (hhigh : ∀ p, L[i]? = some p → ¬ p.1 < o.1) (hRR : ∀ A' c' W', W'.heap[gd]? = some (.cells #[.int .i64 wt, .int .i64 tr, .slice A' (insL L o).length c'] 66 (0, 0)) → Rv.RdV W' A' (insL L o).length 3 (flO (insL L o)) → ((insL L o).length ≤ c' ∧ (A' = none → c' = 0)) → (∀ k, OB A' k → w.heap.size ≤ k) → Kp w W' (fun k => k = gd) → R (.returned (.tuple #[])) W') (a : Act) (hE : En 52 a [(0, Value.pointer (some ⟨gd, 0, none⟩)), (3, Value.pointer (some ⟨gb, 0, none⟩)), (4, Value.int .i64 (i : Int))]) : Code.wp Try.prog (.region 5 (regOf Try.f44 5) true) (bodyPost Try.prog Try.f44 R) a W := by
  have hiL : i ≤ L.length := hi9
  obtain ⟨AD, hAD⟩ : ∃ z, (if c = i then A else A.map (·.add (i * 3))) = z := ⟨_, rfl⟩
  refine c_drawM (S := fun W => W.heap[gb]? = some (.cells #[Value.int .i64 o.1, Value.int .i64 o.2.1, Value.int .i64 o.2.2] 70 (0, 0)) ∧ True) rfl rfl (listed := #[false, false, false, false, false, false, false, false, false, false, false, false, false, false, false, false, false, false, false, false, false, false]) rfl pan_body (fun QQ hQ hend => ?_)
  have dr5_23 : ∀ (A5_11 : Option Addr) (A5_18 : Option Addr) (A5_8 : Option Addr) (c5_11 : Nat) (c5_18 : Nat) (c5_8 : Nat) (g5_1 : Nat) (g5_10 : Nat) (W : World) (a : Act), En 52 a [(0, Value.pointer (some ⟨gd, 0, none⟩)), (3, Value.pointer (some ⟨gb, 0, none⟩)), (4, Value.int .i64 (i : Int)), (31, Value.pointer (some ⟨gd, 0, none⟩)), (32, Value.slice (some ⟨g5_1, 0, none⟩) 0 0), (33, Value.pointer (some ⟨gd, 0, none⟩)), (34, Value.pointer (some ⟨gd, 0, none⟩)), (35, Value.pointer (some ⟨gd, 2, none⟩)), (36, Value.slice A L.length c), (37, Value.int .i64 (i : Int)), (38, Value.slice A i c), (39, Value.slice A5_8 (0 + i) c5_8), (40, Value.agg #[Value.int .i64 o.1, Value.int .i64 o.2.1, Value.int .i64 o.2.2]), (41, Value.slice (some ⟨g5_10, 0, none⟩) 1 1), (42, Value.slice A5_11 ((0 + i) + 1) c5_11), (43, Value.pointer (some ⟨gd, 0, none⟩)), (44, Value.pointer (some ⟨gd, 0, none⟩)), (45, Value.pointer (some ⟨gd, 2, none⟩)), (46, Value.slice A L.length c), (47, Value.int .i64 (i : Int)), (48, Value.slice AD (L.length - i) (c - i)), (49, Value.slice A5_18 (((0 + i) + 1) + (L.length - i)) c5_18), (50, Value.pointer (some ⟨gd, 0, none⟩)), (51, Value.pointer (some ⟨gd, 2, none⟩))] → W.heap[gd]? = some (.cells #[Value.int .i64 wt, Value.int .i64 tr, Value.slice A5_18 (((0 + i) + 1) + (L.length - i)) c5_18] 66 (0, 0)) → W.heap[gb]? = some (.cells #[Value.int .i64 o.1, Value.int .i64 o.2.1, Value.int .i64 o.2.2] 70 (0, 0)) → W.heap[g5_10]? = some (.cells #[Value.int .i64 o.1, Value.int .i64 o.2.1, Value.int .i64 o.2.2] 70 (0, 0)) → g5_10 ≠ gb → g5_10 ≠ gd → gb ≠ gd → w.heap.size ≤ g5_10 → ¬ OB A g5_10 → (∀ k, OB A k → ¬ OB A5_18 k) → ¬ OB A5_18 gd → ¬ OB A5_18 gb → ¬ OB A5_18 g5_10 → (∀ k, OB A5_18 k → (fun k => k = gd) k ∨ w.heap.size ≤ k) → (∀ k, OB A5_18 k → ¬ OB A k) → Rv.RdV W A L.length 3 (flO L) → W.ownsRow w.heap.size 70 3 (.slice A5_18 (((0 + i) + 1) + (L.length - i)) c5_18) (((0 + i) + 1) + (L.length - i)) ((([] ++ ((flO L).take (i * 3))) ++ [Value.int .i64 o.1, Value.int .i64 o.2.1, Value.int .i64 o.2.2]) ++ ((flO L).drop (i * 3))) → Kp w W (fun k => k = gd) → wpAnyH Try.prog .any (regOf Try.f44 5) QQ (fun W => W.heap[gb]? = some (.cells #[Value.int .i64 o.1, Value.int .i64 o.2.1, Value.int .i64 o.2.2] 70 (0, 0)) ∧ True) 0 #[true, true, true, true, true, true, true, true, true, true, true, true, true, true, true, true, true, true, true, true, true, true] a W := by
    intro A5_11 A5_18 A5_8 c5_11 c5_18 c5_8 g5_1 g5_10 w46 a hE B_gd B_gb B_g5_10 n_g5_10_gb n_g5_10_gd n_gb_gd z_0_g5_10 Nb_L_g5_10 NN_L_q5_8 Nb_q5_8_gd Nb_q5_8_gb Nb_q5_8_g5_10 Z_0_q5_8 NN_q5_8_L O_L O_q5_8 K_0
    refine d_end (by kernel_rfl) (hend _ _ ?_)
    refine end_of_ret ?_
    refine ret_list (rs := []) (vs := []) rfl hE .nil rfl ?_
    have hra := ins_at (o := o) hi9 hlow hhigh
    rw [cut3, ← hra] at O_q5_8
    have hln : (((0 + i) + 1) + (L.length - i)) = (insL L o).length := by rw [ins_len]; omega
    rw [hln] at O_q5_8 B_gd
    exact hRR A5_18 c5_18 _ B_gd (Rv.own_rdv O_q5_8 (flO_ones _)) ⟨(own_caps O_q5_8).1, own_cap0 O_q5_8⟩ (fun k h => (own_ob O_q5_8 h).1) K_0
  have dr5_22 : ∀ (A5_11 : Option Addr) (A5_18 : Option Addr) (A5_8 : Option Addr) (c5_11 : Nat) (c5_18 : Nat) (c5_8 : Nat) (g5_1 : Nat) (g5_10 : Nat) (W : World) (a : Act), En 52 a [(0, Value.pointer (some ⟨gd, 0, none⟩)), (3, Value.pointer (some ⟨gb, 0, none⟩)), (4, Value.int .i64 (i : Int)), (31, Value.pointer (some ⟨gd, 0, none⟩)), (32, Value.slice (some ⟨g5_1, 0, none⟩) 0 0), (33, Value.pointer (some ⟨gd, 0, none⟩)), (34, Value.pointer (some ⟨gd, 0, none⟩)), (35, Value.pointer (some ⟨gd, 2, none⟩)), (36, Value.slice A L.length c), (37, Value.int .i64 (i : Int)), (38, Value.slice A i c), (39, Value.slice A5_8 (0 + i) c5_8), (40, Value.agg #[Value.int .i64 o.1, Value.int .i64 o.2.1, Value.int .i64 o.2.2]), (41, Value.slice (some ⟨g5_10, 0, none⟩) 1 1), (42, Value.slice A5_11 ((0 + i) + 1) c5_11), (43, Value.pointer (some ⟨gd, 0, none⟩)), (44, Value.pointer (some ⟨gd, 0, none⟩)), (45, Value.pointer (some ⟨gd, 2, none⟩)), (46, Value.slice A L.length c), (47, Value.int .i64 (i : Int)), (48, Value.slice AD (L.length - i) (c - i)), (49, Value.slice A5_18 (((0 + i) + 1) + (L.length - i)) c5_18), (50, Value.pointer (some ⟨gd, 0, none⟩)), (51, Value.pointer (some ⟨gd, 2, none⟩))] → W.heap[gd]? = some (.cells #[Value.int .i64 wt, Value.int .i64 tr, Value.slice A L.length c] 66 (0, 0)) → W.heap[gb]? = some (.cells #[Value.int .i64 o.1, Value.int .i64 o.2.1, Value.int .i64 o.2.2] 70 (0, 0)) → W.heap[g5_10]? = some (.cells #[Value.int .i64 o.1, Value.int .i64 o.2.1, Value.int .i64 o.2.2] 70 (0, 0)) → g5_10 ≠ gb → g5_10 ≠ gd → gb ≠ gd → w.heap.size ≤ g5_10 → ¬ OB A g5_10 → (∀ k, OB A k → ¬ OB A5_18 k) → ¬ OB A5_18 gd → ¬ OB A5_18 gb → ¬ OB A5_18 g5_10 → (∀ k, OB A5_18 k → (fun k => k = gd) k ∨ w.heap.size ≤ k) → (∀ k, OB A5_18 k → ¬ OB A k) → Rv.RdV W A L.length 3 (flO L) → W.ownsRow w.heap.size 70 3 (.slice A5_18 (((0 + i) + 1) + (L.length - i)) c5_18) (((0 + i) + 1) + (L.length - i)) ((([] ++ ((flO L).take (i * 3))) ++ [Value.int .i64 o.1, Value.int .i64 o.2.1, Value.int .i64 o.2.2]) ++ ((flO L).drop (i * 3))) → Kp w W (fun k => k = gd) → wpAnyH Try.prog .any (regOf Try.f44 5) QQ (fun W => W.heap[gb]? = some (.cells #[Value.int .i64 o.1, Value.int .i64 o.2.1, Value.int .i64 o.2.2] 70 (0, 0)) ∧ True) 1 #[true, true, true, true, true, true, true, true, true, true, true, true, true, true, true, true, true, true, true, true, true, false] a W := by
    intro A5_11 A5_18 A5_8 c5_11 c5_18 c5_8 g5_1 g5_10 w47 a hE B_gd B_gb B_g5_10 n_g5_10_gb n_g5_10_gd n_gb_gd z_0_g5_10 Nb_L_g5_10 NN_L_q5_8 Nb_q5_8_gd Nb_q5_8_gb Nb_q5_8_g5_10 Z_0_q5_8 NN_q5_8_L O_L O_q5_8 K_0
    refine d_all (rs := [21]) (by kernel_rfl) rfl ?_
    refine all_cons (d_lit (listed' := #[true, true, true, true, true, true, true, true, true, true, true, true, true, true, true, true, true, true, true, true, true, true]) rfl ?_) ?_
    ·
      refine (s_store (off := 2) (k := 1) (cs' := #[Value.int .i64 wt, Value.int .i64 tr, Value.slice A5_18 (((0 + i) + 1) + (L.length - i)) c5_18]) p44_5_21 hE wn_none tS64 rfl rfl rfl rfl B_gd (Nat.le_of_ble_eq_true rfl) rfl ?_)
      intro w48 B_gd' hk
      replace B_gb := kp_blk B_gb hk n_gb_gd
      replace B_g5_10 := kp_blk B_g5_10 hk n_g5_10_gd
      replace O_L := Rv.rdv_keep O_L hk (fun k hk2 h2 => Nb_L_gd (by rw [show k = gd from h2] at hk2; exact hk2))
      replace O_q5_8 := own_keep O_q5_8 hk (fun k hk2 h2 => Nb_q5_8_gd (by rw [show k = gd from h2] at hk2; exact hk2))
      replace K_0 := K_0.then_ hk (fun k h => by rw [show k = gd from h]; exact Or.inl rfl)
      replace B_gd := B_gd'
      clear hk
      refine ⟨⟨B_gb, trivial⟩, ?_⟩
      exact dr5_23 A5_11 A5_18 A5_8 c5_11 c5_18 c5_8 g5_1 g5_10 _ a (En.sub hE ⟨rfl, rfl, rfl, rfl, rfl, rfl, rfl, rfl, rfl, rfl, rfl, rfl, rfl, rfl, rfl, rfl, rfl, rfl, rfl, rfl, rfl, rfl, rfl, rfl, trivial⟩) B_gd B_gb B_g5_10 n_g5_10_gb n_g5_10_gd n_gb_gd z_0_g5_10 Nb_L_g5_10 NN_L_q5_8 Nb_q5_8_gd Nb_q5_8_gb Nb_q5_8_g5_10 Z_0_q5_8 NN_q5_8_L O_L O_q5_8 K_0
    exact all_nil
  have dr5_21 : ∀ (A5_11 : Option Addr) (A5_8 : Option Addr) (c5_11 : Nat) (c5_8 : Nat) (g5_1 : Nat) (g5_10 : Nat) (W : World) (a : Act), En 52 a [(0, Value.pointer (some ⟨gd, 0, none⟩)), (3, Value.pointer (some ⟨gb, 0, none⟩)), (4, Value.int .i64 (i : Int)), (31, Value.pointer (some ⟨gd, 0, none⟩)), (32, Value.slice (some ⟨g5_1, 0, none⟩) 0 0), (33, Value.pointer (some ⟨gd, 0, none⟩)), (34, Value.pointer (some ⟨gd, 0, none⟩)), (35, Value.pointer (some ⟨gd, 2, none⟩)), (36, Value.slice A L.length c), (37, Value.int .i64 (i : Int)), (38, Value.slice A i c), (39, Value.slice A5_8 (0 + i) c5_8), (40, Value.agg #[Value.int .i64 o.1, Value.int .i64 o.2.1, Value.int .i64 o.2.2]), (41, Value.slice (some ⟨g5_10, 0, none⟩) 1 1), (42, Value.slice A5_11 ((0 + i) + 1) c5_11), (43, Value.pointer (some ⟨gd, 0, none⟩)), (44, Value.pointer (some ⟨gd, 0, none⟩)), (45, Value.pointer (some ⟨gd, 2, none⟩)), (46, Value.slice A L.length c), (47, Value.int .i64 (i : Int)), (48, Value.slice AD (L.length - i) (c - i))] → W.heap[gd]? = some (.cells #[Value.int .i64 wt, Value.int .i64 tr, Value.slice A L.length c] 66 (0, 0)) → W.heap[gb]? = some (.cells #[Value.int .i64 o.1, Value.int .i64 o.2.1, Value.int .i64 o.2.2] 70 (0, 0)) → W.heap[g5_10]? = some (.cells #[Value.int .i64 o.1, Value.int .i64 o.2.1, Value.int .i64 o.2.2] 70 (0, 0)) → g5_10 ≠ gb → g5_10 ≠ gd → gb ≠ gd → w.heap.size ≤ g5_10 → ¬ OB A g5_10 → (∀ k, OB A k → ¬ OB A5_11 k) → ¬ OB A5_11 gd → ¬ OB A5_11 gb → ¬ OB A5_11 g5_10 → (∀ k, OB A5_11 k → (fun k => k = gd) k ∨ w.heap.size ≤ k) → (∀ k, OB A5_11 k → ¬ OB A k) → Rv.RdV W A L.length 3 (flO L) → W.ownsRow w.heap.size 70 3 (.slice A5_11 ((0 + i) + 1) c5_11) ((0 + i) + 1) (([] ++ ((flO L).take (i * 3))) ++ [Value.int .i64 o.1, Value.int .i64 o.2.1, Value.int .i64 o.2.2]) → Kp w W (fun k => k = gd) → wpAnyH Try.prog .any (regOf Try.f44 5) QQ (fun W => W.heap[gb]? = some (.cells #[Value.int .i64 o.1, Value.int .i64 o.2.1, Value.int .i64 o.2.2] 70 (0, 0)) ∧ True) 4 #[true, true, true, true, true, true, true, true, true, true, true, true, true, true, true, true, true, true, false, false, false, false] a W := by
    intro A5_11 A5_8 c5_11 c5_8 g5_1 g5_10 w49 a hE B_gd B_gb B_g5_10 n_g5_10_gb n_g5_10_gd n_gb_gd z_0_g5_10 Nb_L_g5_10 NN_L_q5_8 Nb_q5_8_gd Nb_q5_8_gb Nb_q5_8_g5_10 Z_0_q5_8 NN_q5_8_L O_L O_q5_8 K_0
    refine d_all (rs := [18]) (by kernel_rfl) rfl ?_
    refine all_cons (d_lit (listed' := #[true, true, true, true, true, true, true, true, true, true, true, true, true, true, true, true, true, true, true, false, false, false]) rfl ?_) ?_
    ·
      refine (Rv.s_appendV (s := 3) (xs := (([] ++ ((flO L).take (i * 3))) ++ [Value.int .i64 o.1, Value.int .i64 o.2.1, Value.int .i64 o.2.2])) p44_5_18 hE wn_none rfl Try.underlying64 eD70 (by decide) rfl O_q5_8 rfl (Rv.rdv_drop O_L (by omega) hcA.1 rfl hAD) (by omega) (by omega) K_0.kept.1 ?_ (drop_cap hcA.2 hAD))
      clear hE a; intro A5_18 c5_18 w50 O_q5_8' hk hat a hE
      have Nb_q5_8_gd' := grow_n Nb_q5_8_gd (blk_lt B_gd) hat
      have Nb_q5_8_gb' := grow_n Nb_q5_8_gb (blk_lt B_gb) hat
      have Nb_q5_8_g5_10' := grow_n Nb_q5_8_g5_10 (blk_lt B_g5_10) hat
      have NN_L_q5_8' : ∀ k, OB A k → ¬ OB A5_18 k := fun k h h2 => (hat k h2).elim (NN_L_q5_8 k h) (fun h3 => by have := (Rv.rdv_ob O_L h).2; omega)
      have Z_0_q5_8' := grow_z Z_0_q5_8 K_0.kept.1 hat
      replace B_gd := kp_blk B_gd hk Nb_q5_8_gd
      replace B_gb := kp_blk B_gb hk Nb_q5_8_gb
      replace B_g5_10 := kp_blk B_g5_10 hk Nb_q5_8_g5_10
      replace O_L := Rv.rdv_keep O_L hk NN_L_q5_8
      replace K_0 := K_0.then_ hk Z_0_q5_8
      replace Nb_q5_8_gd := Nb_q5_8_gd'
      replace Nb_q5_8_gb := Nb_q5_8_gb'
      replace Nb_q5_8_g5_10 := Nb_q5_8_g5_10'
      replace NN_L_q5_8 := NN_L_q5_8'
      replace NN_q5_8_L : ∀ k, OB A5_18 k → ¬ OB A k := fun k h h2 => NN_L_q5_8 k h2 h
      replace Z_0_q5_8 := Z_0_q5_8'
      replace O_q5_8 := O_q5_8'
      try clear O_q5_8'
      clear hk hat
      refine ⟨⟨B_gb, trivial⟩, ?_⟩
      refine d_take (v := Value.pointer (some ⟨gd, 0, none⟩)) p44_5_19 ns44_5 (by kernel_rfl) (by kernel_rfl) (fun c a w h => hQ c a _ _ w h) hE wn_none rfl ⟨B_gb, trivial⟩ (fun W hS => (st_nil rfl)) (listed' := #[true, true, true, true, true, true, true, true, true, true, true, true, true, true, true, true, true, true, true, true, false, false]) rfl ?_
      clear hE a; intro a hE
      refine d_take (v := Value.pointer (some ⟨gd, 2, none⟩)) p44_5_20 ns44_5 (by kernel_rfl) (by kernel_rfl) (fun c a w h => hQ c a _ _ w h) hE wn_none rfl ⟨B_gb, trivial⟩ (fun W hS => (st_fieldAddr Try.underlying66 rfl tS64 rfl rfl)) (listed' := #[true, true, true, true, true, true, true, true, true, true, true, true, true, true, true, true, true, true, true, true, true, false]) rfl ?_
      clear hE a; intro a hE
      exact dr5_22 A5_11 A5_18 A5_8 c5_11 c5_18 c5_8 g5_1 g5_10 _ a (En.sub hE ⟨rfl, rfl, rfl, rfl, rfl, rfl, rfl, rfl, rfl, rfl, rfl, rfl, rfl, rfl, rfl, rfl, rfl, rfl, rfl, rfl, rfl, rfl, rfl, rfl, trivial⟩) B_gd B_gb B_g5_10 n_g5_10_gb n_g5_10_gd n_gb_gd z_0_g5_10 Nb_L_g5_10 NN_L_q5_8 Nb_q5_8_gd Nb_q5_8_gb Nb_q5_8_g5_10 Z_0_q5_8 NN_q5_8_L O_L O_q5_8 K_0
    exact all_nil
  have dr5_20 : ∀ (A5_8 : Option Addr) (c5_8 : Nat) (g5_1 : Nat) (g5_10 : Nat) (W : World) (a : Act), En 52 a [(0, Value.pointer (some ⟨gd, 0, none⟩)), (3, Value.pointer (some ⟨gb, 0, none⟩)), (4, Value.int .i64 (i : Int)), (31, Value.pointer (some ⟨gd, 0, none⟩)), (32, Value.slice (some ⟨g5_1, 0, none⟩) 0 0), (33, Value.pointer (some ⟨gd, 0, none⟩)), (34, Value.pointer (some ⟨gd, 0, none⟩)), (35, Value.pointer (some ⟨gd, 2, none⟩)), (36, Value.slice A L.length c), (37, Value.int .i64 (i : Int)), (38, Value.slice A i c), (39, Value.slice A5_8 (0 + i) c5_8), (40, Value.agg #[Value.int .i64 o.1, Value.int .i64 o.2.1, Value.int .i64 o.2.2]), (41, Value.slice (some ⟨g5_10, 0, none⟩) 1 1), (43, Value.pointer (some ⟨gd, 0, none⟩)), (44, Value.pointer (some ⟨gd, 0, none⟩)), (45, Value.pointer (some ⟨gd, 2, none⟩)), (46, Value.slice A L.length c), (47, Value.int .i64 (i : Int)), (48, Value.slice AD (L.length - i) (c - i))] → W.heap[gd]? = some (.cells #[Value.int .i64 wt, Value.int .i64 tr, Value.slice A L.length c] 66 (0, 0)) → W.heap[gb]? = some (.cells #[Value.int .i64 o.1, Value.int .i64 o.2.1, Value.int .i64 o.2.2] 70 (0, 0)) → W.heap[g5_10]? = some (.cells #[Value.int .i64 o.1, Value.int .i64 o.2.1, Value.int .i64 o.2.2] 70 (0, 0)) → g5_10 ≠ gb → g5_10 ≠ gd → gb ≠ gd → w.heap.size ≤ g5_10 → ¬ OB A g5_10 → (∀ k, OB A k → ¬ OB A5_8 k) → ¬ OB A5_8 gd → ¬ OB A5_8 gb → ¬ OB A5_8 g5_10 → (∀ k, OB A5_8 k → (fun k => k = gd) k ∨ w.heap.size ≤ k) → (∀ k, OB A5_8 k → ¬ OB A k) → Rv.RdV W A L.length 3 (flO L) → W.ownsRow w.heap.size 70 3 (.slice A5_8 (0 + i) c5_8) (0 + i) ([] ++ ((flO L).take (i * 3))) → Kp w W (fun k => k = gd) → wpAnyH Try.prog .any (regOf Try.f44 5) QQ (fun W => W.heap[gb]? = some (.cells #[Value.int .i64 o.1, Value.int .i64 o.2.1, Value.int .i64 o.2.2] 70 (0, 0)) ∧ True) 5 #[true, true, true, true, true, true, true, true, true, true, true, false, true, true, true, true, true, true, false, false, false, false] a W := by
    intro A5_8 c5_8 g5_1 g5_10 w51 a hE B_gd B_gb B_g5_10 n_g5_10_gb n_g5_10_gd n_gb_gd z_0_g5_10 Nb_L_g5_10 NN_L_q5_8 Nb_q5_8_gd Nb_q5_8_gb Nb_q5_8_g5_10 Z_0_q5_8 NN_q5_8_L O_L O_q5_8 K_0
    refine d_all (rs := [11]) (by kernel_rfl) rfl ?_
    refine all_cons (d_lit (listed' := #[true, true, true, true, true, true, true, true, true, true, true, true, true, true, true, true, true, true, false, false, false, false]) rfl ?_) ?_
    ·
      refine (s_append (s := 3) (xs := ([] ++ ((flO L).take (i * 3)))) (news := [Value.int .i64 o.1, Value.int .i64 o.2.1, Value.int .i64 o.2.2]) p44_5_11 hE wn_none rfl Try.underlying64 eD70 (by decide) rfl O_q5_8 rfl rfl (newsB B_g5_10 rfl) (ones rfl) (by omega) (by omega) K_0.kept.1 ?_)
      clear hE a; intro A5_11 c5_11 w52 O_q5_8' hk hat a hE
      have Nb_q5_8_gd' := grow_n Nb_q5_8_gd (blk_lt B_gd) hat
      have Nb_q5_8_gb' := grow_n Nb_q5_8_gb (blk_lt B_gb) hat
      have Nb_q5_8_g5_10' := grow_n Nb_q5_8_g5_10 (blk_lt B_g5_10) hat
      have NN_L_q5_8' : ∀ k, OB A k → ¬ OB A5_11 k := fun k h h2 => (hat k h2).elim (NN_L_q5_8 k h) (fun h3 => by have := (Rv.rdv_ob O_L h).2; omega)
      have Z_0_q5_8' := grow_z Z_0_q5_8 K_0.kept.1 hat
      replace B_gd := kp_blk B_gd hk Nb_q5_8_gd
      replace B_gb := kp_blk B_gb hk Nb_q5_8_gb
      replace B_g5_10 := kp_blk B_g5_10 hk Nb_q5_8_g5_10
      replace O_L := Rv.rdv_keep O_L hk NN_L_q5_8
      replace K_0 := K_0.then_ hk Z_0_q5_8
      replace Nb_q5_8_gd := Nb_q5_8_gd'
      replace Nb_q5_8_gb := Nb_q5_8_gb'
      replace Nb_q5_8_g5_10 := Nb_q5_8_g5_10'
      replace NN_L_q5_8 := NN_L_q5_8'
      replace NN_q5_8_L : ∀ k, OB A5_11 k → ¬ OB A k := fun k h h2 => NN_L_q5_8 k h2 h
      replace Z_0_q5_8 := Z_0_q5_8'
      replace O_q5_8 := O_q5_8'
      try clear O_q5_8'
      clear hk hat
      refine ⟨⟨B_gb, trivial⟩, ?_⟩
      exact dr5_21 A5_11 A5_8 c5_11 c5_8 g5_1 g5_10 _ a (En.sub hE ⟨rfl, rfl, rfl, rfl, rfl, rfl, rfl, rfl, rfl, rfl, rfl, rfl, rfl, rfl, rfl, rfl, rfl, rfl, rfl, rfl, rfl, trivial⟩) B_gd B_gb B_g5_10 n_g5_10_gb n_g5_10_gd n_gb_gd z_0_g5_10 Nb_L_g5_10 NN_L_q5_8 Nb_q5_8_gd Nb_q5_8_gb Nb_q5_8_g5_10 Z_0_q5_8 NN_q5_8_L O_L O_q5_8 K_0
    exact all_nil
  have dr5_19 : ∀ (A5_8 : Option Addr) (c5_8 : Nat) (g5_1 : Nat) (W : World) (a : Act), En 52 a [(0, Value.pointer (some ⟨gd, 0, none⟩)), (3, Value.pointer (some ⟨gb, 0, none⟩)), (4, Value.int .i64 (i : Int)), (31, Value.pointer (some ⟨gd, 0, none⟩)), (32, Value.slice (some ⟨g5_1, 0, none⟩) 0 0), (33, Value.pointer (some ⟨gd, 0, none⟩)), (34, Value.pointer (some ⟨gd, 0, none⟩)), (35, Value.pointer (some ⟨gd, 2, none⟩)), (36, Value.slice A L.length c), (37, Value.int .i64 (i : Int)), (38, Value.slice A i c), (39, Value.slice A5_8 (0 + i) c5_8), (40, Value.agg #[Value.int .i64 o.1, Value.int .i64 o.2.1, Value.int .i64 o.2.2]), (43, Value.pointer (some ⟨gd, 0, none⟩)), (44, Value.pointer (some ⟨gd, 0, none⟩)), (45, Value.pointer (some ⟨gd, 2, none⟩)), (46, Value.slice A L.length c), (47, Value.int .i64 (i : Int)), (48, Value.slice AD (L.length - i) (c - i))] → W.heap[gd]? = some (.cells #[Value.int .i64 wt, Value.int .i64 tr, Value.slice A L.length c] 66 (0, 0)) → W.heap[gb]? = some (.cells #[Value.int .i64 o.1, Value.int .i64 o.2.1, Value.int .i64 o.2.2] 70 (0, 0)) → gb ≠ gd → (∀ k, OB A k → ¬ OB A5_8 k) → ¬ OB A5_8 gd → ¬ OB A5_8 gb → (∀ k, OB A5_8 k → (fun k => k = gd) k ∨ w.heap.size ≤ k) → (∀ k, OB A5_8 k → ¬ OB A k) → Rv.RdV W A L.length 3 (flO L) → W.ownsRow w.heap.size 70 3 (.slice A5_8 (0 + i) c5_8) (0 + i) ([] ++ ((flO L).take (i * 3))) → Kp w W (fun k => k = gd) → wpAnyH Try.prog .any (regOf Try.f44 5) QQ (fun W => W.heap[gb]? = some (.cells #[Value.int .i64 o.1, Value.int .i64 o.2.1, Value.int .i64 o.2.2] 70 (0, 0)) ∧ True) 6 #[true, true, true, true, true, true, true, true, true, true, false, false, true, true, true, true, true, true, false, false, false, false] a W := by
    intro A5_8 c5_8 g5_1 w53 a hE B_gd B_gb n_gb_gd NN_L_q5_8 Nb_q5_8_gd Nb_q5_8_gb Z_0_q5_8 NN_q5_8_L O_L O_q5_8 K_0
    refine d_all (rs := [10]) (by kernel_rfl) rfl ?_
    refine all_cons (d_lit (listed' := #[true, true, true, true, true, true, true, true, true, true, true, false, true, true, true, true, true, true, false, false, false, false]) rfl ?_) ?_
    ·
      refine (s_row (xs := [(0, Operand.tmp 40)]) (vs := [(0, Value.agg #[Value.int .i64 o.1, Value.int .i64 o.2.1, Value.int .i64 o.2.2])]) (cs := #[Value.int .i64 o.1, Value.int .i64 o.2.1, Value.int .i64 o.2.2]) p44_5_10 hE wn_none rfl Try.underlying64 rfl (by kernel_rfl) ?_)
      clear hE a; intro g5_10 w54 z55 B_g5_10 hk a hE
      have n_gd_g5_10 : gd ≠ g5_10 := ne_new B_gd z55
      have n_gb_g5_10 : gb ≠ g5_10 := ne_new B_gb z55
      have z_0_g5_10 := Nat.le_trans K_0.kept.1 z55
      have Nb_L_g5_10 : ¬ OB A g5_10 := fun h => by have := (Rv.rdv_ob O_L h).2; omega
      have Nb_q5_8_g5_10 : ¬ OB A5_8 g5_10 := fun h => by have := (own_ob O_q5_8 h).2; omega
      replace B_gd := kp_blk B_gd hk (fun h => h)
      replace B_gb := kp_blk B_gb hk (fun h => h)
      replace O_L := Rv.rdv_keep O_L hk (fun _ _ h => h)
      replace O_q5_8 := own_keep O_q5_8 hk (fun _ _ h => h)
      replace K_0 := K_0.then_ hk (fun _ h => h.elim)
      clear hk
      refine ⟨⟨B_gb, trivial⟩, ?_⟩
      have n_g5_10_gb := Ne.symm n_gb_g5_10
      have n_g5_10_gd := Ne.symm n_gd_g5_10
      exact dr5_20 A5_8 c5_8 g5_1 g5_10 _ a (En.sub hE ⟨rfl, rfl, rfl, rfl, rfl, rfl, rfl, rfl, rfl, rfl, rfl, rfl, rfl, rfl, rfl, rfl, rfl, rfl, rfl, rfl, trivial⟩) B_gd B_gb B_g5_10 n_g5_10_gb n_g5_10_gd n_gb_gd z_0_g5_10 Nb_L_g5_10 NN_L_q5_8 Nb_q5_8_gd Nb_q5_8_gb Nb_q5_8_g5_10 Z_0_q5_8 NN_q5_8_L O_L O_q5_8 K_0
    exact all_nil
  have dr5_18 : ∀ (g5_1 : Nat) (g5_10 : Nat) (W : World) (a : Act), En 52 a [(0, Value.pointer (some ⟨gd, 0, none⟩)), (3, Value.pointer (some ⟨gb, 0, none⟩)), (4, Value.int .i64 (i : Int)), (31, Value.pointer (some ⟨gd, 0, none⟩)), (32, Value.slice (some ⟨g5_1, 0, none⟩) 0 0), (33, Value.pointer (some ⟨gd, 0, none⟩)), (34, Value.pointer (some ⟨gd, 0, none⟩)), (35, Value.pointer (some ⟨gd, 2, none⟩)), (36, Value.slice A L.length c), (37, Value.int .i64 (i : Int)), (38, Value.slice A i c), (40, Value.agg #[Value.int .i64 o.1, Value.int .i64 o.2.1, Value.int .i64 o.2.2]), (41, Value.slice (some ⟨g5_10, 0, none⟩) 1 1), (43, Value.pointer (some ⟨gd, 0, none⟩)), (44, Value.pointer (some ⟨gd, 0, none⟩)), (45, Value.pointer (some ⟨gd, 2, none⟩)), (46, Value.slice A L.length c), (47, Value.int .i64 (i : Int)), (48, Value.slice AD (L.length - i) (c - i))] → W.heap[gd]? = some (.cells #[Value.int .i64 wt, Value.int .i64 tr, Value.slice A L.length c] 66 (0, 0)) → W.heap[gb]? = some (.cells #[Value.int .i64 o.1, Value.int .i64 o.2.1, Value.int .i64 o.2.2] 70 (0, 0)) → W.heap[g5_1]? = some (.cells #[] 70 (0, 0)) → W.heap[g5_10]? = some (.cells #[Value.int .i64 o.1, Value.int .i64 o.2.1, Value.int .i64 o.2.2] 70 (0, 0)) → g5_1 ≠ g5_10 → g5_1 ≠ gb → g5_1 ≠ gd → g5_10 ≠ gb → g5_10 ≠ gd → gb ≠ gd → w.heap.size ≤ g5_1 → w.heap.size ≤ g5_10 → ¬ OB A g5_1 → ¬ OB A g5_10 → Rv.RdV W A L.length 3 (flO L) → Kp w W (fun k => k = gd) → wpAnyH Try.prog .any (regOf Try.f44 5) QQ (fun W => W.heap[gb]? = some (.cells #[Value.int .i64 o.1, Value.int .i64 o.2.1, Value.int .i64 o.2.2] 70 (0, 0)) ∧ True) 6 #[true, true, true, true, true, true, true, true, false, true, true, false, true, true, true, true, true, true, false, false, false, false] a W := by
    intro g5_1 g5_10 w56 a hE B_gd B_gb B_g5_1 B_g5_10 n_g5_1_g5_10 n_g5_1_gb n_g5_1_gd n_g5_10_gb n_g5_10_gd n_gb_gd z_0_g5_1 z_0_g5_10 Nb_L_g5_1 Nb_L_g5_10 O_L K_0
    refine d_all (rs := [8]) (by kernel_rfl) rfl ?_
    refine all_cons (d_lit (listed' := #[true, true, true, true, true, true, true, true, true, true, true, false, true, true, true, true, true, true, false, false, false, false]) rfl ?_) ?_
    ·
      have O_q5_8 := own_blk0 (s := 3) B_g5_1 (show w.heap.size ≤ g5_1 from z_0_g5_1)
      have Nb_q5_8_gd : ¬ OB (some ⟨g5_1, 0, none⟩) gd := fun h => by have h := ob_blk.1 h; exact n_g5_1_gd h
      have Nb_q5_8_gb : ¬ OB (some ⟨g5_1, 0, none⟩) gb := fun h => by have h := ob_blk.1 h; exact n_g5_1_gb h
      have Nb_q5_8_g5_10 : ¬ OB (some ⟨g5_1, 0, none⟩) g5_10 := fun h => by have h := ob_blk.1 h; exact n_g5_1_g5_10 h
      have Z_0_q5_8 : ∀ k, OB (some ⟨g5_1, 0, none⟩) k → (fun k => k = gd) k ∨ w.heap.size ≤ k := fun k h => by have h := ob_blk.1 h; subst h; exact Or.inr z_0_g5_1
      have NN_q5_8_L : ∀ k, OB (some ⟨g5_1, 0, none⟩) k → ¬ OB A k := fun k h h2 => by have h := ob_blk.1 h; subst h; exact Nb_L_g5_1 h2
      have NN_L_q5_8 : ∀ k, OB A k → ¬ OB (some ⟨g5_1, 0, none⟩) k := fun k h h2 => NN_q5_8_L k h2 h
      refine (Rv.s_appendV (s := 3) (xs := []) p44_5_8 hE wn_none rfl Try.underlying64 eD70 (by decide) rfl O_q5_8 rfl (Rv.rdv_take O_L (by omega)) (by omega) (by omega) K_0.kept.1 ?_ hcA.2)
      clear hE a; intro A5_8 c5_8 w57 O_q5_8' hk hat a hE
      have Nb_q5_8_gd' := grow_n Nb_q5_8_gd (blk_lt B_gd) hat
      have Nb_q5_8_gb' := grow_n Nb_q5_8_gb (blk_lt B_gb) hat
      have Nb_q5_8_g5_10' := grow_n Nb_q5_8_g5_10 (blk_lt B_g5_10) hat
      have NN_L_q5_8' : ∀ k, OB A k → ¬ OB A5_8 k := fun k h h2 => (hat k h2).elim (NN_L_q5_8 k h) (fun h3 => by have := (Rv.rdv_ob O_L h).2; omega)
      have Z_0_q5_8' := grow_z Z_0_q5_8 K_0.kept.1 hat
      replace B_gd := kp_blk B_gd hk Nb_q5_8_gd
      replace B_gb := kp_blk B_gb hk Nb_q5_8_gb
      replace B_g5_10 := kp_blk B_g5_10 hk Nb_q5_8_g5_10
      replace O_L := Rv.rdv_keep O_L hk NN_L_q5_8
      replace K_0 := K_0.then_ hk Z_0_q5_8
      replace Nb_q5_8_gd := Nb_q5_8_gd'
      replace Nb_q5_8_gb := Nb_q5_8_gb'
      replace Nb_q5_8_g5_10 := Nb_q5_8_g5_10'
      replace NN_L_q5_8 := NN_L_q5_8'
      replace NN_q5_8_L : ∀ k, OB A5_8 k → ¬ OB A k := fun k h h2 => NN_L_q5_8 k h2 h
      replace Z_0_q5_8 := Z_0_q5_8'
      replace O_q5_8 := O_q5_8'
      try clear O_q5_8'
      clear hk hat
      refine ⟨⟨B_gb, trivial⟩, ?_⟩
      exact dr5_20 A5_8 c5_8 g5_1 g5_10 _ a (En.sub hE ⟨rfl, rfl, rfl, rfl, rfl, rfl, rfl, rfl, rfl, rfl, rfl, rfl, rfl, rfl, rfl, rfl, rfl, rfl, rfl, rfl, trivial⟩) B_gd B_gb B_g5_10 n_g5_10_gb n_g5_10_gd n_gb_gd z_0_g5_10 Nb_L_g5_10 NN_L_q5_8 Nb_q5_8_gd Nb_q5_8_gb Nb_q5_8_g5_10 Z_0_q5_8 NN_q5_8_L O_L O_q5_8 K_0
    exact all_nil
  have dr5_17 : ∀ (A5_11 : Option Addr) (A5_8 : Option Addr) (c5_11 : Nat) (c5_8 : Nat) (g5_1 : Nat) (g5_10 : Nat) (W : World) (a : Act), En 52 a [(0, Value.pointer (some ⟨gd, 0, none⟩)), (3, Value.pointer (some ⟨gb, 0, none⟩)), (4, Value.int .i64 (i : Int)), (31, Value.pointer (some ⟨gd, 0, none⟩)), (32, Value.slice (some ⟨g5_1, 0, none⟩) 0 0), (33, Value.pointer (some ⟨gd, 0, none⟩)), (34, Value.pointer (some ⟨gd, 0, none⟩)), (35, Value.pointer (some ⟨gd, 2, none⟩)), (36, Value.slice A L.length c), (37, Value.int .i64 (i : Int)), (38, Value.slice A i c), (39, Value.slice A5_8 (0 + i) c5_8), (40, Value.agg #[Value.int .i64 o.1, Value.int .i64 o.2.1, Value.int .i64 o.2.2]), (41, Value.slice (some ⟨g5_10, 0, none⟩) 1 1), (42, Value.slice A5_11 ((0 + i) + 1) c5_11), (43, Value.pointer (some ⟨gd, 0, none⟩)), (44, Value.pointer (some ⟨gd, 0, none⟩)), (45, Value.pointer (some ⟨gd, 2, none⟩)), (47, Value.int .i64 (i : Int))] → W.heap[gd]? = some (.cells #[Value.int .i64 wt, Value.int .i64 tr, Value.slice A L.length c] 66 (0, 0)) → W.heap[gb]? = some (.cells #[Value.int .i64 o.1, Value.int .i64 o.2.1, Value.int .i64 o.2.2] 70 (0, 0)) → W.heap[g5_10]? = some (.cells #[Value.int .i64 o.1, Value.int .i64 o.2.1, Value.int .i64 o.2.2] 70 (0, 0)) → g5_10 ≠ gb → g5_10 ≠ gd → gb ≠ gd → w.heap.size ≤ g5_10 → ¬ OB A g5_10 → (∀ k, OB A k → ¬ OB A5_11 k) → ¬ OB A5_11 gd → ¬ OB A5_11 gb → ¬ OB A5_11 g5_10 → (∀ k, OB A5_11 k → (fun k => k = gd) k ∨ w.heap.size ≤ k) → (∀ k, OB A5_11 k → ¬ OB A k) → Rv.RdV W A L.length 3 (flO L) → W.ownsRow w.heap.size 70 3 (.slice A5_11 ((0 + i) + 1) c5_11) ((0 + i) + 1) (([] ++ ((flO L).take (i * 3))) ++ [Value.int .i64 o.1, Value.int .i64 o.2.1, Value.int .i64 o.2.2]) → Kp w W (fun k => k = gd) → wpAnyH Try.prog .any (regOf Try.f44 5) QQ (fun W => W.heap[gb]? = some (.cells #[Value.int .i64 o.1, Value.int .i64 o.2.1, Value.int .i64 o.2.2] 70 (0, 0)) ∧ True) 6 #[true, true, true, true, true, true, true, true, true, true, true, true, true, true, true, false, true, false, false, false, false, false] a W := by
    intro A5_11 A5_8 c5_11 c5_8 g5_1 g5_10 w58 a hE B_gd B_gb B_g5_10 n_g5_10_gb n_g5_10_gd n_gb_gd z_0_g5_10 Nb_L_g5_10 NN_L_q5_8 Nb_q5_8_gd Nb_q5_8_gb Nb_q5_8_g5_10 Z_0_q5_8 NN_q5_8_L O_L O_q5_8 K_0
    refine d_all (rs := [15]) (by kernel_rfl) rfl ?_
    refine all_cons (d_lit (listed' := #[true, true, true, true, true, true, true, true, true, true, true, true, true, true, true, true, true, false, false, false, false, false]) rfl ?_) ?_
    ·
      refine (s_still p44_5_15 hE wn_none rfl (st_load1 tA64 rfl ((blk_cell B_gd 2).trans rfl)) ?_)
      clear hE a; intro a hE
      refine ⟨⟨B_gb, trivial⟩, ?_⟩
      refine d_take (v := Value.slice AD (L.length - i) (c - i)) p44_5_17 ns44_5 (by kernel_rfl) (by kernel_rfl) (fun c a w h => hQ c a _ _ w h) hE wn_none rfl ⟨B_gb, trivial⟩ (fun W hS => (st_sliceL (lo := i) (A' := AD) Try.underlying64 tS70 rfl rfl (by omega) rfl rfl hAD)) (listed' := #[true, true, true, true, true, true, true, true, true, true, true, true, true, true, true, true, true, true, false, false, false, false]) rfl ?_
      clear hE a; intro a hE
      exact dr5_21 A5_11 A5_8 c5_11 c5_8 g5_1 g5_10 _ a (En.sub hE ⟨rfl, rfl, rfl, rfl, rfl, rfl, rfl, rfl, rfl, rfl, rfl, rfl, rfl, rfl, rfl, rfl, rfl, rfl, rfl, rfl, rfl, trivial⟩) B_gd B_gb B_g5_10 n_g5_10_gb n_g5_10_gd n_gb_gd z_0_g5_10 Nb_L_g5_10 NN_L_q5_8 Nb_q5_8_gd Nb_q5_8_gb Nb_q5_8_g5_10 Z_0_q5_8 NN_q5_8_L O_L O_q5_8 K_0
    exact all_nil
  have dr5_16 : ∀ (A5_8 : Option Addr) (c5_8 : Nat) (g5_1 : Nat) (g5_10 : Nat) (W : World) (a : Act), En 52 a [(0, Value.pointer (some ⟨gd, 0, none⟩)), (3, Value.pointer (some ⟨gb, 0, none⟩)), (4, Value.int .i64 (i : Int)), (31, Value.pointer (some ⟨gd, 0, none⟩)), (32, Value.slice (some ⟨g5_1, 0, none⟩) 0 0), (33, Value.pointer (some ⟨gd, 0, none⟩)), (34, Value.pointer (some ⟨gd, 0, none⟩)), (35, Value.pointer (some ⟨gd, 2, none⟩)), (36, Value.slice A L.length c), (37, Value.int .i64 (i : Int)), (38, Value.slice A i c), (39, Value.slice A5_8 (0 + i) c5_8), (40, Value.agg #[Value.int .i64 o.1, Value.int .i64 o.2.1, Value.int .i64 o.2.2]), (41, Value.slice (some ⟨g5_10, 0, none⟩) 1 1), (43, Value.pointer (some ⟨gd, 0, none⟩)), (44, Value.pointer (some ⟨gd, 0, none⟩)), (45, Value.pointer (some ⟨gd, 2, none⟩)), (47, Value.int .i64 (i : Int))] → W.heap[gd]? = some (.cells #[Value.int .i64 wt, Value.int .i64 tr, Value.slice A L.length c] 66 (0, 0)) → W.heap[gb]? = some (.cells #[Value.int .i64 o.1, Value.int .i64 o.2.1, Value.int .i64 o.2.2] 70 (0, 0)) → W.heap[g5_10]? = some (.cells #[Value.int .i64 o.1, Value.int .i64 o.2.1, Value.int .i64 o.2.2] 70 (0, 0)) → g5_10 ≠ gb → g5_10 ≠ gd → gb ≠ gd → w.heap.size ≤ g5_10 → ¬ OB A g5_10 → (∀ k, OB A k → ¬ OB A5_8 k) → ¬ OB A5_8 gd → ¬ OB A5_8 gb → ¬ OB A5_8 g5_10 → (∀ k, OB A5_8 k → (fun k => k = gd) k ∨ w.heap.size ≤ k) → (∀ k, OB A5_8 k → ¬ OB A k) → Rv.RdV W A L.length 3 (flO L) → W.ownsRow w.heap.size 70 3 (.slice A5_8 (0 + i) c5_8) (0 + i) ([] ++ ((flO L).take (i * 3))) → Kp w W (fun k => k = gd) → wpAnyH Try.prog .any (regOf Try.f44 5) QQ (fun W => W.heap[gb]? = some (.cells #[Value.int .i64 o.1, Value.int .i64 o.2.1, Value.int .i64 o.2.2] 70 (0, 0)) ∧ True) 7 #[true, true, true, true, true, true, true, true, true, true, true, false, true, true, true, false, true, false, false, false, false, false] a W := by
    intro A5_8 c5_8 g5_1 g5_10 w59 a hE B_gd B_gb B_g5_10 n_g5_10_gb n_g5_10_gd n_gb_gd z_0_g5_10 Nb_L_g5_10 NN_L_q5_8 Nb_q5_8_gd Nb_q5_8_gb Nb_q5_8_g5_10 Z_0_q5_8 NN_q5_8_L O_L O_q5_8 K_0
    refine d_all (rs := [11, 15]) (by kernel_rfl) rfl ?_
    refine all_cons (d_lit (listed' := #[true, true, true, true, true, true, true, true, true, true, true, true, true, true, true, false, true, false, false, false, false, false]) rfl ?_) ?_
    ·
      refine (s_append (s := 3) (xs := ([] ++ ((flO L).take (i * 3)))) (news := [Value.int .i64 o.1, Value.int .i64 o.2.1, Value.int .i64 o.2.2]) p44_5_11 hE wn_none rfl Try.underlying64 eD70 (by decide) rfl O_q5_8 rfl rfl (newsB B_g5_10 rfl) (ones rfl) (by omega) (by omega) K_0.kept.1 ?_)
      clear hE a; intro A5_11 c5_11 w60 O_q5_8' hk hat a hE
      have Nb_q5_8_gd' := grow_n Nb_q5_8_gd (blk_lt B_gd) hat
      have Nb_q5_8_gb' := grow_n Nb_q5_8_gb (blk_lt B_gb) hat
      have Nb_q5_8_g5_10' := grow_n Nb_q5_8_g5_10 (blk_lt B_g5_10) hat
      have NN_L_q5_8' : ∀ k, OB A k → ¬ OB A5_11 k := fun k h h2 => (hat k h2).elim (NN_L_q5_8 k h) (fun h3 => by have := (Rv.rdv_ob O_L h).2; omega)
      have Z_0_q5_8' := grow_z Z_0_q5_8 K_0.kept.1 hat
      replace B_gd := kp_blk B_gd hk Nb_q5_8_gd
      replace B_gb := kp_blk B_gb hk Nb_q5_8_gb
      replace B_g5_10 := kp_blk B_g5_10 hk Nb_q5_8_g5_10
      replace O_L := Rv.rdv_keep O_L hk NN_L_q5_8
      replace K_0 := K_0.then_ hk Z_0_q5_8
      replace Nb_q5_8_gd := Nb_q5_8_gd'
      replace Nb_q5_8_gb := Nb_q5_8_gb'
      replace Nb_q5_8_g5_10 := Nb_q5_8_g5_10'
      replace NN_L_q5_8 := NN_L_q5_8'
      replace NN_q5_8_L : ∀ k, OB A5_11 k → ¬ OB A k := fun k h h2 => NN_L_q5_8 k h2 h
      replace Z_0_q5_8 := Z_0_q5_8'
      replace O_q5_8 := O_q5_8'
      try clear O_q5_8'
      clear hk hat
      refine ⟨⟨B_gb, trivial⟩, ?_⟩
      exact dr5_17 A5_11 A5_8 c5_11 c5_8 g5_1 g5_10 _ a (En.sub hE ⟨rfl, rfl, rfl, rfl, rfl, rfl, rfl, rfl, rfl, rfl, rfl, rfl, rfl, rfl, rfl, rfl, rfl, rfl, rfl, trivial⟩) B_gd B_gb B_g5_10 n_g5_10_gb n_g5_10_gd n_gb_gd z_0_g5_10 Nb_L_g5_10 NN_L_q5_8 Nb_q5_8_gd Nb_q5_8_gb Nb_q5_8_g5_10 Z_0_q5_8 NN_q5_8_L O_L O_q5_8 K_0
    refine all_cons (d_lit (listed' := #[true, true, true, true, true, true, true, true, true, true, true, false, true, true, true, true, true, false, false, false, false, false]) rfl ?_) ?_
    ·
      refine (s_still p44_5_15 hE wn_none rfl (st_load1 tA64 rfl ((blk_cell B_gd 2).trans rfl)) ?_)
      clear hE a; intro a hE
      refine ⟨⟨B_gb, trivial⟩, ?_⟩
      refine d_take (v := Value.slice AD (L.length - i) (c - i)) p44_5_17 ns44_5 (by kernel_rfl) (by kernel_rfl) (fun c a w h => hQ c a _ _ w h) hE wn_none rfl ⟨B_gb, trivial⟩ (fun W hS => (st_sliceL (lo := i) (A' := AD) Try.underlying64 tS70 rfl rfl (by omega) rfl rfl hAD)) (listed' := #[true, true, true, true, true, true, true, true, true, true, true, false, true, true, true, true, true, true, false, false, false, false]) rfl ?_
      clear hE a; intro a hE
      exact dr5_20 A5_8 c5_8 g5_1 g5_10 _ a (En.sub hE ⟨rfl, rfl, rfl, rfl, rfl, rfl, rfl, rfl, rfl, rfl, rfl, rfl, rfl, rfl, rfl, rfl, rfl, rfl, rfl, rfl, trivial⟩) B_gd B_gb B_g5_10 n_g5_10_gb n_g5_10_gd n_gb_gd z_0_g5_10 Nb_L_g5_10 NN_L_q5_8 Nb_q5_8_gd Nb_q5_8_gb Nb_q5_8_g5_10 Z_0_q5_8 NN_q5_8_L O_L O_q5_8 K_0
    exact all_nil
  have dr5_15 : ∀ (g5_1 : Nat) (W : World) (a : Act), En 52 a [(0, Value.pointer (some ⟨gd, 0, none⟩)), (3, Value.pointer (some ⟨gb, 0, none⟩)), (4, Value.int .i64 (i : Int)), (31, Value.pointer (some ⟨gd, 0, none⟩)), (32, Value.slice (some ⟨g5_1, 0, none⟩) 0 0), (33, Value.pointer (some ⟨gd, 0, none⟩)), (34, Value.pointer (some ⟨gd, 0, none⟩)), (35, Value.pointer (some ⟨gd, 2, none⟩)), (36, Value.slice A L.length c), (37, Value.int .i64 (i : Int)), (38, Value.slice A i c), (40, Value.agg #[Value.int .i64 o.1, Value.int .i64 o.2.1, Value.int .i64 o.2.2]), (43, Value.pointer (some ⟨gd, 0, none⟩)), (44, Value.pointer (some ⟨gd, 0, none⟩)), (45, Value.pointer (some ⟨gd, 2, none⟩)), (46, Value.slice A L.length c), (47, Value.int .i64 (i : Int)), (48, Value.slice AD (L.length - i) (c - i))] → W.heap[gd]? = some (.cells #[Value.int .i64 wt, Value.int .i64 tr, Value.slice A L.length c] 66 (0, 0)) → W.heap[gb]? = some (.cells #[Value.int .i64 o.1, Value.int .i64 o.2.1, Value.int .i64 o.2.2] 70 (0, 0)) → W.heap[g5_1]? = some (.cells #[] 70 (0, 0)) → g5_1 ≠ gb → g5_1 ≠ gd → gb ≠ gd → w.heap.size ≤ g5_1 → ¬ OB A g5_1 → Rv.RdV W A L.length 3 (flO L) → Kp w W (fun k => k = gd) → wpAnyH Try.prog .any (regOf Try.f44 5) QQ (fun W => W.heap[gb]? = some (.cells #[Value.int .i64 o.1, Value.int .i64 o.2.1, Value.int .i64 o.2.2] 70 (0, 0)) ∧ True) 7 #[true, true, true, true, true, true, true, true, false, true, false, false, true, true, true, true, true, true, false, false, false, false] a W := by
    intro g5_1 w61 a hE B_gd B_gb B_g5_1 n_g5_1_gb n_g5_1_gd n_gb_gd z_0_g5_1 Nb_L_g5_1 O_L K_0
    refine d_all (rs := [8, 10]) (by kernel_rfl) rfl ?_
    refine all_cons (d_lit (listed' := #[true, true, true, true, true, true, true, true, true, true, false, false, true, true, true, true, true, true, false, false, false, false]) rfl ?_) ?_
    ·
      have O_q5_8 := own_blk0 (s := 3) B_g5_1 (show w.heap.size ≤ g5_1 from z_0_g5_1)
      have Nb_q5_8_gd : ¬ OB (some ⟨g5_1, 0, none⟩) gd := fun h => by have h := ob_blk.1 h; exact n_g5_1_gd h
      have Nb_q5_8_gb : ¬ OB (some ⟨g5_1, 0, none⟩) gb := fun h => by have h := ob_blk.1 h; exact n_g5_1_gb h
      have Z_0_q5_8 : ∀ k, OB (some ⟨g5_1, 0, none⟩) k → (fun k => k = gd) k ∨ w.heap.size ≤ k := fun k h => by have h := ob_blk.1 h; subst h; exact Or.inr z_0_g5_1
      have NN_q5_8_L : ∀ k, OB (some ⟨g5_1, 0, none⟩) k → ¬ OB A k := fun k h h2 => by have h := ob_blk.1 h; subst h; exact Nb_L_g5_1 h2
      have NN_L_q5_8 : ∀ k, OB A k → ¬ OB (some ⟨g5_1, 0, none⟩) k := fun k h h2 => NN_q5_8_L k h2 h
      refine (Rv.s_appendV (s := 3) (xs := []) p44_5_8 hE wn_none rfl Try.underlying64 eD70 (by decide) rfl O_q5_8 rfl (Rv.rdv_take O_L (by omega)) (by omega) (by omega) K_0.kept.1 ?_ hcA.2)
      clear hE a; intro A5_8 c5_8 w62 O_q5_8' hk hat a hE
      have Nb_q5_8_gd' := grow_n Nb_q5_8_gd (blk_lt B_gd) hat
      have Nb_q5_8_gb' := grow_n Nb_q5_8_gb (blk_lt B_gb) hat
      have NN_L_q5_8' : ∀ k, OB A k → ¬ OB A5_8 k := fun k h h2 => (hat k h2).elim (NN_L_q5_8 k h) (fun h3 => by have := (Rv.rdv_ob O_L h).2; omega)
      have Z_0_q5_8' := grow_z Z_0_q5_8 K_0.kept.1 hat
      replace B_gd := kp_blk B_gd hk Nb_q5_8_gd
      replace B_gb := kp_blk B_gb hk Nb_q5_8_gb
      replace O_L := Rv.rdv_keep O_L hk NN_L_q5_8
      replace K_0 := K_0.then_ hk Z_0_q5_8
      replace Nb_q5_8_gd := Nb_q5_8_gd'
      replace Nb_q5_8_gb := Nb_q5_8_gb'
      replace NN_L_q5_8 := NN_L_q5_8'
      replace NN_q5_8_L : ∀ k, OB A5_8 k → ¬ OB A k := fun k h h2 => NN_L_q5_8 k h2 h
      replace Z_0_q5_8 := Z_0_q5_8'
      replace O_q5_8 := O_q5_8'
      try clear O_q5_8'
      clear hk hat
      refine ⟨⟨B_gb, trivial⟩, ?_⟩
      exact dr5_19 A5_8 c5_8 g5_1 _ a (En.sub hE ⟨rfl, rfl, rfl, rfl, rfl, rfl, rfl, rfl, rfl, rfl, rfl, rfl, rfl, rfl, rfl, rfl, rfl, rfl, rfl, trivial⟩) B_gd B_gb n_gb_gd NN_L_q5_8 Nb_q5_8_gd Nb_q5_8_gb Z_0_q5_8 NN_q5_8_L O_L O_q5_8 K_0
    refine all_cons (d_lit (listed' := #[true, true, true, true, true, true, true, true, false, true, true, false, true, true, true, true, true, true, false, false, false, false]) rfl ?_) ?_
    ·
      refine (s_row (xs := [(0, Operand.tmp 40)]) (vs := [(0, Value.agg #[Value.int .i64 o.1, Value.int .i64 o.2.1, Value.int .i64 o.2.2])]) (cs := #[Value.int .i64 o.1, Value.int .i64 o.2.1, Value.int .i64 o.2.2]) p44_5_10 hE wn_none rfl Try.underlying64 rfl (by kernel_rfl) ?_)
      clear hE a; intro g5_10 w63 z64 B_g5_10 hk a hE
      have n_gd_g5_10 : gd ≠ g5_10 := ne_new B_gd z64
      have n_gb_g5_10 : gb ≠ g5_10 := ne_new B_gb z64
      have n_g5_1_g5_10 : g5_1 ≠ g5_10 := ne_new B_g5_1 z64
      have z_0_g5_10 := Nat.le_trans K_0.kept.1 z64
      have Nb_L_g5_10 : ¬ OB A g5_10 := fun h => by have := (Rv.rdv_ob O_L h).2; omega
      replace B_gd := kp_blk B_gd hk (fun h => h)
      replace B_gb := kp_blk B_gb hk (fun h => h)
      replace B_g5_1 := kp_blk B_g5_1 hk (fun h => h)
      replace O_L := Rv.rdv_keep O_L hk (fun _ _ h => h)
      replace K_0 := K_0.then_ hk (fun _ h => h.elim)
      clear hk
      refine ⟨⟨B_gb, trivial⟩, ?_⟩
      have n_g5_10_gb := Ne.symm n_gb_g5_10
      have n_g5_10_gd := Ne.symm n_gd_g5_10
      exact dr5_18 g5_1 g5_10 _ a (En.sub hE ⟨rfl, rfl, rfl, rfl, rfl, rfl, rfl, rfl, rfl, rfl, rfl, rfl, rfl, rfl, rfl, rfl, rfl, rfl, rfl, trivial⟩) B_gd B_gb B_g5_1 B_g5_10 n_g5_1_g5_10 n_g5_1_gb n_g5_1_gd n_g5_10_gb n_g5_10_gd n_gb_gd z_0_g5_1 z_0_g5_10 Nb_L_g5_1 Nb_L_g5_10 O_L K_0
    exact all_nil
  have dr5_14 : ∀ (g5_10 : Nat) (W : World) (a : Act), En 52 a [(0, Value.pointer (some ⟨gd, 0, none⟩)), (3, Value.pointer (some ⟨gb, 0, none⟩)), (4, Value.int .i64 (i : Int)), (31, Value.pointer (some ⟨gd, 0, none⟩)), (33, Value.pointer (some ⟨gd, 0, none⟩)), (34, Value.pointer (some ⟨gd, 0, none⟩)), (35, Value.pointer (some ⟨gd, 2, none⟩)), (36, Value.slice A L.length c), (37, Value.int .i64 (i : Int)), (38, Value.slice A i c), (40, Value.agg #[Value.int .i64 o.1, Value.int .i64 o.2.1, Value.int .i64 o.2.2]), (41, Value.slice (some ⟨g5_10, 0, none⟩) 1 1), (43, Value.pointer (some ⟨gd, 0, none⟩)), (44, Value.pointer (some ⟨gd, 0, none⟩)), (45, Value.pointer (some ⟨gd, 2, none⟩)), (46, Value.slice A L.length c), (47, Value.int .i64 (i : Int)), (48, Value.slice AD (L.length - i) (c - i))] → W.heap[gd]? = some (.cells #[Value.int .i64 wt, Value.int .i64 tr, Value.slice A L.length c] 66 (0, 0)) → W.heap[gb]? = some (.cells #[Value.int .i64 o.1, Value.int .i64 o.2.1, Value.int .i64 o.2.2] 70 (0, 0)) → W.heap[g5_10]? = some (.cells #[Value.int .i64 o.1, Value.int .i64 o.2.1, Value.int .i64 o.2.2] 70 (0, 0)) → g5_10 ≠ gb → g5_10 ≠ gd → gb ≠ gd → w.heap.size ≤ g5_10 → ¬ OB A g5_10 → Rv.RdV W A L.length 3 (flO L) → Kp w W (fun k => k = gd) → wpAnyH Try.prog .any (regOf Try.f44 5) QQ (fun W => W.heap[gb]? = some (.cells #[Value.int .i64 o.1, Value.int .i64 o.2.1, Value.int .i64 o.2.2] 70 (0, 0)) ∧ True) 7 #[true, false, true, true, true, true, true, true, false, true, true, false, true, true, true, true, true, true, false, false, false, false] a W := by
    intro g5_10 w65 a hE B_gd B_gb B_g5_10 n_g5_10_gb n_g5_10_gd n_gb_gd z_0_g5_10 Nb_L_g5_10 O_L K_0
    refine d_all (rs := [1]) (by kernel_rfl) rfl ?_
    refine all_cons (d_lit (listed' := #[true, true, true, true, true, true, true, true, false, true, true, false, true, true, true, true, true, true, false, false, false, false]) rfl ?_) ?_
    ·
      refine (s_row (xs := []) (vs := []) (cs := #[]) p44_5_1 hE wn_none rfl Try.underlying64 rfl (by kernel_rfl) ?_)
      clear hE a; intro g5_1 w66 z67 B_g5_1 hk a hE
      have n_gd_g5_1 : gd ≠ g5_1 := ne_new B_gd z67
      have n_gb_g5_1 : gb ≠ g5_1 := ne_new B_gb z67
      have n_g5_10_g5_1 : g5_10 ≠ g5_1 := ne_new B_g5_10 z67
      have z_0_g5_1 := Nat.le_trans K_0.kept.1 z67
      have Nb_L_g5_1 : ¬ OB A g5_1 := fun h => by have := (Rv.rdv_ob O_L h).2; omega
      replace B_gd := kp_blk B_gd hk (fun h => h)
      replace B_gb := kp_blk B_gb hk (fun h => h)
      replace B_g5_10 := kp_blk B_g5_10 hk (fun h => h)
      replace O_L := Rv.rdv_keep O_L hk (fun _ _ h => h)
      replace K_0 := K_0.then_ hk (fun _ h => h.elim)
      clear hk
      refine ⟨⟨B_gb, trivial⟩, ?_⟩
      have n_g5_1_g5_10 := Ne.symm n_g5_10_g5_1
      have n_g5_1_gb := Ne.symm n_gb_g5_1
      have n_g5_1_gd := Ne.symm n_gd_g5_1
      exact dr5_18 g5_1 g5_10 _ a (En.sub hE ⟨rfl, rfl, rfl, rfl, rfl, rfl, rfl, rfl, rfl, rfl, rfl, rfl, rfl, rfl, rfl, rfl, rfl, rfl, rfl, trivial⟩) B_gd B_gb B_g5_1 B_g5_10 n_g5_1_g5_10 n_g5_1_gb n_g5_1_gd n_g5_10_gb n_g5_10_gd n_gb_gd z_0_g5_1 z_0_g5_10 Nb_L_g5_1 Nb_L_g5_10 O_L K_0
    exact all_nil
  have dr5_13 : ∀ (W : World) (a : Act), En 52 a [(0, Value.pointer (some ⟨gd, 0, none⟩)), (3, Value.pointer (some ⟨gb, 0, none⟩)), (4, Value.int .i64 (i : Int)), (31, Value.pointer (some ⟨gd, 0, none⟩)), (33, Value.pointer (some ⟨gd, 0, none⟩)), (34, Value.pointer (some ⟨gd, 0, none⟩)), (35, Value.pointer (some ⟨gd, 2, none⟩)), (36, Value.slice A L.length c), (37, Value.int .i64 (i : Int)), (38, Value.slice A i c), (40, Value.agg #[Value.int .i64 o.1, Value.int .i64 o.2.1, Value.int .i64 o.2.2]), (43, Value.pointer (some ⟨gd, 0, none⟩)), (44, Value.pointer (some ⟨gd, 0, none⟩)), (45, Value.pointer (some ⟨gd, 2, none⟩)), (46, Value.slice A L.length c), (47, Value.int .i64 (i : Int)), (48, Value.slice AD (L.length - i) (c - i))] → W.heap[gd]? = some (.cells #[Value.int .i64 wt, Value.int .i64 tr, Value.slice A L.length c] 66 (0, 0)) → W.heap[gb]? = some (.cells #[Value.int .i64 o.1, Value.int .i64 o.2.1, Value.int .i64 o.2.2] 70 (0, 0)) → gb ≠ gd → Rv.RdV W A L.length 3 (flO L) → Kp w W (fun k => k = gd) → wpAnyH Try.prog .any (regOf Try.f44 5) QQ (fun W => W.heap[gb]? = some (.cells #[Value.int .i64 o.1, Value.int .i64 o.2.1, Value.int .i64 o.2.2] 70 (0, 0)) ∧ True) 8 #[true, false, true, true, true, true, true, true, false, true, false, false, true, true, true, true, true, true, false, false, false, false] a W := by
    intro w68 a hE B_gd B_gb n_gb_gd O_L K_0
    refine d_all (rs := [1, 10]) (by kernel_rfl) rfl ?_
    refine all_cons (d_lit (listed' := #[true, true, true, true, true, true, true, true, false, true, false, false, true, true, true, true, true, true, false, false, false, false]) rfl ?_) ?_
    ·
      refine (s_row (xs := []) (vs := []) (cs := #[]) p44_5_1 hE wn_none rfl Try.underlying64 rfl (by kernel_rfl) ?_)
      clear hE a; intro g5_1 w69 z70 B_g5_1 hk a hE
      have n_gd_g5_1 : gd ≠ g5_1 := ne_new B_gd z70
      have n_gb_g5_1 : gb ≠ g5_1 := ne_new B_gb z70
      have z_0_g5_1 := Nat.le_trans K_0.kept.1 z70
      have Nb_L_g5_1 : ¬ OB A g5_1 := fun h => by have := (Rv.rdv_ob O_L h).2; omega
      replace B_gd := kp_blk B_gd hk (fun h => h)
      replace B_gb := kp_blk B_gb hk (fun h => h)
      replace O_L := Rv.rdv_keep O_L hk (fun _ _ h => h)
      replace K_0 := K_0.then_ hk (fun _ h => h.elim)
      clear hk
      refine ⟨⟨B_gb, trivial⟩, ?_⟩
      have n_g5_1_gb := Ne.symm n_gb_g5_1
      have n_g5_1_gd := Ne.symm n_gd_g5_1
      exact dr5_15 g5_1 _ a (En.sub hE ⟨rfl, rfl, rfl, rfl, rfl, rfl, rfl, rfl, rfl, rfl, rfl, rfl, rfl, rfl, rfl, rfl, rfl, rfl, trivial⟩) B_gd B_gb B_g5_1 n_g5_1_gb n_g5_1_gd n_gb_gd z_0_g5_1 Nb_L_g5_1 O_L K_0
    refine all_cons (d_lit (listed' := #[true, false, true, true, true, true, true, true, false, true, true, false, true, true, true, true, true, true, false, false, false, false]) rfl ?_) ?_
    ·
      refine (s_row (xs := [(0, Operand.tmp 40)]) (vs := [(0, Value.agg #[Value.int .i64 o.1, Value.int .i64 o.2.1, Value.int .i64 o.2.2])]) (cs := #[Value.int .i64 o.1, Value.int .i64 o.2.1, Value.int .i64 o.2.2]) p44_5_10 hE wn_none rfl Try.underlying64 rfl (by kernel_rfl) ?_)
      clear hE a; intro g5_10 w71 z72 B_g5_10 hk a hE
      have n_gd_g5_10 : gd ≠ g5_10 := ne_new B_gd z72
      have n_gb_g5_10 : gb ≠ g5_10 := ne_new B_gb z72
      have z_0_g5_10 := Nat.le_trans K_0.kept.1 z72
      have Nb_L_g5_10 : ¬ OB A g5_10 := fun h => by have := (Rv.rdv_ob O_L h).2; omega
      replace B_gd := kp_blk B_gd hk (fun h => h)
      replace B_gb := kp_blk B_gb hk (fun h => h)
      replace O_L := Rv.rdv_keep O_L hk (fun _ _ h => h)
      replace K_0 := K_0.then_ hk (fun _ h => h.elim)
      clear hk
      refine ⟨⟨B_gb, trivial⟩, ?_⟩
      have n_g5_10_gb := Ne.symm n_gb_g5_10
      have n_g5_10_gd := Ne.symm n_gd_g5_10
      exact dr5_14 g5_10 _ a (En.sub hE ⟨rfl, rfl, rfl, rfl, rfl, rfl, rfl, rfl, rfl, rfl, rfl, rfl, rfl, rfl, rfl, rfl, rfl, rfl, trivial⟩) B_gd B_gb B_g5_10 n_g5_10_gb n_g5_10_gd n_gb_gd z_0_g5_10 Nb_L_g5_10 O_L K_0
    exact all_nil
  have dr5_12 : ∀ (g5_1 : Nat) (g5_10 : Nat) (W : World) (a : Act), En 52 a [(0, Value.pointer (some ⟨gd, 0, none⟩)), (3, Value.pointer (some ⟨gb, 0, none⟩)), (4, Value.int .i64 (i : Int)), (31, Value.pointer (some ⟨gd, 0, none⟩)), (32, Value.slice (some ⟨g5_1, 0, none⟩) 0 0), (33, Value.pointer (some ⟨gd, 0, none⟩)), (34, Value.pointer (some ⟨gd, 0, none⟩)), (35, Value.pointer (some ⟨gd, 2, none⟩)), (36, Value.slice A L.length c), (37, Value.int .i64 (i : Int)), (38, Value.slice A i c), (40, Value.agg #[Value.int .i64 o.1, Value.int .i64 o.2.1, Value.int .i64 o.2.2]), (41, Value.slice (some ⟨g5_10, 0, none⟩) 1 1), (43, Value.pointer (some ⟨gd, 0, none⟩)), (44, Value.pointer (some ⟨gd, 0, none⟩)), (45, Value.pointer (some ⟨gd, 2, none⟩)), (47, Value.int .i64 (i : Int))] → W.heap[gd]? = some (.cells #[Value.int .i64 wt, Value.int .i64 tr, Value.slice A L.length c] 66 (0, 0)) → W.heap[gb]? = some (.cells #[Value.int .i64 o.1, Value.int .i64 o.2.1, Value.int .i64 o.2.2] 70 (0, 0)) → W.heap[g5_1]? = some (.cells #[] 70 (0, 0)) → W.heap[g5_10]? = some (.cells #[Value.int .i64 o.1, Value.int .i64 o.2.1, Value.int .i64 o.2.2] 70 (0, 0)) → g5_1 ≠ g5_10 → g5_1 ≠ gb → g5_1 ≠ gd → g5_10 ≠ gb → g5_10 ≠ gd → gb ≠ gd → w.heap.size ≤ g5_1 → w.heap.size ≤ g5_10 → ¬ OB A g5_1 → ¬ OB A g5_10 → Rv.RdV W A L.length 3 (flO L) → Kp w W (fun k => k = gd) → wpAnyH Try.prog .any (regOf Try.f44 5) QQ (fun W => W.heap[gb]? = some (.cells #[Value.int .i64 o.1, Value.int .i64 o.2.1, Value.int .i64 o.2.2] 70 (0, 0)) ∧ True) 8 #[true, true, true, true, true, true, true, true, false, true, true, false, true, true, true, false, true, false, false, false, false, false] a W := by
    intro g5_1 g5_10 w73 a hE B_gd B_gb B_g5_1 B_g5_10 n_g5_1_g5_10 n_g5_1_gb n_g5_1_gd n_g5_10_gb n_g5_10_gd n_gb_gd z_0_g5_1 z_0_g5_10 Nb_L_g5_1 Nb_L_g5_10 O_L K_0
    refine d_all (rs := [8, 15]) (by kernel_rfl) rfl ?_
    refine all_cons (d_lit (listed' := #[true, true, true, true, true, true, true, true, true, true, true, false, true, true, true, false, true, false, false, false, false, false]) rfl ?_) ?_
    ·
      have O_q5_8 := own_blk0 (s := 3) B_g5_1 (show w.heap.size ≤ g5_1 from z_0_g5_1)
      have Nb_q5_8_gd : ¬ OB (some ⟨g5_1, 0, none⟩) gd := fun h => by have h := ob_blk.1 h; exact n_g5_1_gd h
      have Nb_q5_8_gb : ¬ OB (some ⟨g5_1, 0, none⟩) gb := fun h => by have h := ob_blk.1 h; exact n_g5_1_gb h
      have Nb_q5_8_g5_10 : ¬ OB (some ⟨g5_1, 0, none⟩) g5_10 := fun h => by have h := ob_blk.1 h; exact n_g5_1_g5_10 h
      have Z_0_q5_8 : ∀ k, OB (some ⟨g5_1, 0, none⟩) k → (fun k => k = gd) k ∨ w.heap.size ≤ k := fun k h => by have h := ob_blk.1 h; subst h; exact Or.inr z_0_g5_1
      have NN_q5_8_L : ∀ k, OB (some ⟨g5_1, 0, none⟩) k → ¬ OB A k := fun k h h2 => by have h := ob_blk.1 h; subst h; exact Nb_L_g5_1 h2
      have NN_L_q5_8 : ∀ k, OB A k → ¬ OB (some ⟨g5_1, 0, none⟩) k := fun k h h2 => NN_q5_8_L k h2 h
      refine (Rv.s_appendV (s := 3) (xs := []) p44_5_8 hE wn_none rfl Try.underlying64 eD70 (by decide) rfl O_q5_8 rfl (Rv.rdv_take O_L (by omega)) (by omega) (by omega) K_0.kept.1 ?_ hcA.2)
      clear hE a; intro A5_8 c5_8 w74 O_q5_8' hk hat a hE
      have Nb_q5_8_gd' := grow_n Nb_q5_8_gd (blk_lt B_gd) hat
      have Nb_q5_8_gb' := grow_n Nb_q5_8_gb (blk_lt B_gb) hat
      have Nb_q5_8_g5_10' := grow_n Nb_q5_8_g5_10 (blk_lt B_g5_10) hat
      have NN_L_q5_8' : ∀ k, OB A k → ¬ OB A5_8 k := fun k h h2 => (hat k h2).elim (NN_L_q5_8 k h) (fun h3 => by have := (Rv.rdv_ob O_L h).2; omega)
      have Z_0_q5_8' := grow_z Z_0_q5_8 K_0.kept.1 hat
      replace B_gd := kp_blk B_gd hk Nb_q5_8_gd
      replace B_gb := kp_blk B_gb hk Nb_q5_8_gb
      replace B_g5_10 := kp_blk B_g5_10 hk Nb_q5_8_g5_10
      replace O_L := Rv.rdv_keep O_L hk NN_L_q5_8
      replace K_0 := K_0.then_ hk Z_0_q5_8
      replace Nb_q5_8_gd := Nb_q5_8_gd'
      replace Nb_q5_8_gb := Nb_q5_8_gb'
      replace Nb_q5_8_g5_10 := Nb_q5_8_g5_10'
      replace NN_L_q5_8 := NN_L_q5_8'
      replace NN_q5_8_L : ∀ k, OB A5_8 k → ¬ OB A k := fun k h h2 => NN_L_q5_8 k h2 h
      replace Z_0_q5_8 := Z_0_q5_8'
      replace O_q5_8 := O_q5_8'
      try clear O_q5_8'
      clear hk hat
      refine ⟨⟨B_gb, trivial⟩, ?_⟩
      exact dr5_16 A5_8 c5_8 g5_1 g5_10 _ a (En.sub hE ⟨rfl, rfl, rfl, rfl, rfl, rfl, rfl, rfl, rfl, rfl, rfl, rfl, rfl, rfl, rfl, rfl, rfl, rfl, trivial⟩) B_gd B_gb B_g5_10 n_g5_10_gb n_g5_10_gd n_gb_gd z_0_g5_10 Nb_L_g5_10 NN_L_q5_8 Nb_q5_8_gd Nb_q5_8_gb Nb_q5_8_g5_10 Z_0_q5_8 NN_q5_8_L O_L O_q5_8 K_0
    refine all_cons (d_lit (listed' := #[true, true, true, true, true, true, true, true, false, true, true, false, true, true, true, true, true, false, false, false, false, false]) rfl ?_) ?_
    ·
      refine (s_still p44_5_15 hE wn_none rfl (st_load1 tA64 rfl ((blk_cell B_gd 2).trans rfl)) ?_)
      clear hE a; intro a hE
      refine ⟨⟨B_gb, trivial⟩, ?_⟩
      refine d_take (v := Value.slice AD (L.length - i) (c - i)) p44_5_17 ns44_5 (by kernel_rfl) (by kernel_rfl) (fun c a w h => hQ c a _ _ w h) hE wn_none rfl ⟨B_gb, trivial⟩ (fun W hS => (st_sliceL (lo := i) (A' := AD) Try.underlying64 tS70 rfl rfl (by omega) rfl rfl hAD)) (listed' := #[true, true, true, true, true, true, true, true, false, true, true, false, true, true, true, true, true, true, false, false, false, false]) rfl ?_
      clear hE a; intro a hE
      exact dr5_18 g5_1 g5_10 _ a (En.sub hE ⟨rfl, rfl, rfl, rfl, rfl, rfl, rfl, rfl, rfl, rfl, rfl, rfl, rfl, rfl, rfl, rfl, rfl, rfl, rfl, trivial⟩) B_gd B_gb B_g5_1 B_g5_10 n_g5_1_g5_10 n_g5_1_gb n_g5_1_gd n_g5_10_gb n_g5_10_gd n_gb_gd z_0_g5_1 z_0_g5_10 Nb_L_g5_1 Nb_L_g5_10 O_L K_0
    exact all_nil
  have dr5_11 : ∀ (g5_1 : Nat) (g5_10 : Nat) (W : World) (a : Act), En 52 a [(0, Value.pointer (some ⟨gd, 0, none⟩)), (3, Value.pointer (some ⟨gb, 0, none⟩)), (4, Value.int .i64 (i : Int)), (31, Value.pointer (some ⟨gd, 0, none⟩)), (32, Value.slice (some ⟨g5_1, 0, none⟩) 0 0), (33, Value.pointer (some ⟨gd, 0, none⟩)), (34, Value.pointer (some ⟨gd, 0, none⟩)), (35, Value.pointer (some ⟨gd, 2, none⟩)), (37, Value.int .i64 (i : Int)), (40, Value.agg #[Value.int .i64 o.1, Value.int .i64 o.2.1, Value.int .i64 o.2.2]), (41, Value.slice (some ⟨g5_10, 0, none⟩) 1 1), (43, Value.pointer (some ⟨gd, 0, none⟩)), (44, Value.pointer (some ⟨gd, 0, none⟩)), (45, Value.pointer (some ⟨gd, 2, none⟩)), (46, Value.slice A L.length c), (47, Value.int .i64 (i : Int)), (48, Value.slice AD (L.length - i) (c - i))] → W.heap[gd]? = some (.cells #[Value.int .i64 wt, Value.int .i64 tr, Value.slice A L.length c] 66 (0, 0)) → W.heap[gb]? = some (.cells #[Value.int .i64 o.1, Value.int .i64 o.2.1, Value.int .i64 o.2.2] 70 (0, 0)) → W.heap[g5_1]? = some (.cells #[] 70 (0, 0)) → W.heap[g5_10]? = some (.cells #[Value.int .i64 o.1, Value.int .i64 o.2.1, Value.int .i64 o.2.2] 70 (0, 0)) → g5_1 ≠ g5_10 → g5_1 ≠ gb → g5_1 ≠ gd → g5_10 ≠ gb → g5_10 ≠ gd → gb ≠ gd → w.heap.size ≤ g5_1 → w.heap.size ≤ g5_10 → ¬ OB A g5_1 → ¬ OB A g5_10 → Rv.RdV W A L.length 3 (flO L) → Kp w W (fun k => k = gd) → wpAnyH Try.prog .any (regOf Try.f44 5) QQ (fun W => W.heap[gb]? = some (.cells #[Value.int .i64 o.1, Value.int .i64 o.2.1, Value.int .i64 o.2.2] 70 (0, 0)) ∧ True) 8 #[true, true, true, true, true, false, true, false, false, true, true, false, true, true, true, true, true, true, false, false, false, false] a W := by
    intro g5_1 g5_10 w75 a hE B_gd B_gb B_g5_1 B_g5_10 n_g5_1_g5_10 n_g5_1_gb n_g5_1_gd n_g5_10_gb n_g5_10_gd n_gb_gd z_0_g5_1 z_0_g5_10 Nb_L_g5_1 Nb_L_g5_10 O_L K_0
    refine d_all (rs := [5]) (by kernel_rfl) rfl ?_
    refine all_cons (d_lit (listed' := #[true, true, true, true, true, true, true, false, false, true, true, false, true, true, true, true, true, true, false, false, false, false]) rfl ?_) ?_
    ·
      refine (s_still p44_5_5 hE wn_none rfl (st_load1 tA64 rfl ((blk_cell B_gd 2).trans rfl)) ?_)
      clear hE a; intro a hE
      refine ⟨⟨B_gb, trivial⟩, ?_⟩
      refine d_take (v := Value.slice A i c) p44_5_7 ns44_5 (by kernel_rfl) (by kernel_rfl) (fun c a w h => hQ c a _ _ w h) hE wn_none rfl ⟨B_gb, trivial⟩ (fun W hS => (st_sliceH (h := i) Try.underlying64 tS70 rfl rfl (by omega))) (listed' := #[true, true, true, true, true, true, true, true, false, true, true, false, true, true, true, true, true, true, false, false, false, false]) rfl ?_
      clear hE a; intro a hE
      exact dr5_18 g5_1 g5_10 _ a (En.sub hE ⟨rfl, rfl, rfl, rfl, rfl, rfl, rfl, rfl, rfl, rfl, rfl, rfl, rfl, rfl, rfl, rfl, rfl, rfl, rfl, trivial⟩) B_gd B_gb B_g5_1 B_g5_10 n_g5_1_g5_10 n_g5_1_gb n_g5_1_gd n_g5_10_gb n_g5_10_gd n_gb_gd z_0_g5_1 z_0_g5_10 Nb_L_g5_1 Nb_L_g5_10 O_L K_0
    exact all_nil
  have dr5_10 : ∀ (A5_8 : Option Addr) (c5_8 : Nat) (g5_1 : Nat) (W : World) (a : Act), En 52 a [(0, Value.pointer (some ⟨gd, 0, none⟩)), (3, Value.pointer (some ⟨gb, 0, none⟩)), (4, Value.int .i64 (i : Int)), (31, Value.pointer (some ⟨gd, 0, none⟩)), (32, Value.slice (some ⟨g5_1, 0, none⟩) 0 0), (33, Value.pointer (some ⟨gd, 0, none⟩)), (34, Value.pointer (some ⟨gd, 0, none⟩)), (35, Value.pointer (some ⟨gd, 2, none⟩)), (36, Value.slice A L.length c), (37, Value.int .i64 (i : Int)), (38, Value.slice A i c), (39, Value.slice A5_8 (0 + i) c5_8), (40, Value.agg #[Value.int .i64 o.1, Value.int .i64 o.2.1, Value.int .i64 o.2.2]), (43, Value.pointer (some ⟨gd, 0, none⟩)), (44, Value.pointer (some ⟨gd, 0, none⟩)), (45, Value.pointer (some ⟨gd, 2, none⟩)), (47, Value.int .i64 (i : Int))] → W.heap[gd]? = some (.cells #[Value.int .i64 wt, Value.int .i64 tr, Value.slice A L.length c] 66 (0, 0)) → W.heap[gb]? = some (.cells #[Value.int .i64 o.1, Value.int .i64 o.2.1, Value.int .i64 o.2.2] 70 (0, 0)) → gb ≠ gd → (∀ k, OB A k → ¬ OB A5_8 k) → ¬ OB A5_8 gd → ¬ OB A5_8 gb → (∀ k, OB A5_8 k → (fun k => k = gd) k ∨ w.heap.size ≤ k) → (∀ k, OB A5_8 k → ¬ OB A k) → Rv.RdV W A L.length 3 (flO L) → W.ownsRow w.heap.size 70 3 (.slice A5_8 (0 + i) c5_8) (0 + i) ([] ++ ((flO L).take (i * 3))) → Kp w W (fun k => k = gd) → wpAnyH Try.prog .any (regOf Try.f44 5) QQ (fun W => W.heap[gb]? = some (.cells #[Value.int .i64 o.1, Value.int .i64 o.2.1, Value.int .i64 o.2.2] 70 (0, 0)) ∧ True) 8 #[true, true, true, true, true, true, true, true, true, true, false, false, true, true, true, false, true, false, false, false, false, false] a W := by
    intro A5_8 c5_8 g5_1 w76 a hE B_gd B_gb n_gb_gd NN_L_q5_8 Nb_q5_8_gd Nb_q5_8_gb Z_0_q5_8 NN_q5_8_L O_L O_q5_8 K_0
    refine d_all (rs := [10, 15]) (by kernel_rfl) rfl ?_
    refine all_cons (d_lit (listed' := #[true, true, true, true, true, true, true, true, true, true, true, false, true, true, true, false, true, false, false, false, false, false]) rfl ?_) ?_
    ·
      refine (s_row (xs := [(0, Operand.tmp 40)]) (vs := [(0, Value.agg #[Value.int .i64 o.1, Value.int .i64 o.2.1, Value.int .i64 o.2.2])]) (cs := #[Value.int .i64 o.1, Value.int .i64 o.2.1, Value.int .i64 o.2.2]) p44_5_10 hE wn_none rfl Try.underlying64 rfl (by kernel_rfl) ?_)
      clear hE a; intro g5_10 w77 z78 B_g5_10 hk a hE
      have n_gd_g5_10 : gd ≠ g5_10 := ne_new B_gd z78
      have n_gb_g5_10 : gb ≠ g5_10 := ne_new B_gb z78
      have z_0_g5_10 := Nat.le_trans K_0.kept.1 z78
      have Nb_L_g5_10 : ¬ OB A g5_10 := fun h => by have := (Rv.rdv_ob O_L h).2; omega
      have Nb_q5_8_g5_10 : ¬ OB A5_8 g5_10 := fun h => by have := (own_ob O_q5_8 h).2; omega
      replace B_gd := kp_blk B_gd hk (fun h => h)
      replace B_gb := kp_blk B_gb hk (fun h => h)
      replace O_L := Rv.rdv_keep O_L hk (fun _ _ h => h)
      replace O_q5_8 := own_keep O_q5_8 hk (fun _ _ h => h)
      replace K_0 := K_0.then_ hk (fun _ h => h.elim)
      clear hk
      refine ⟨⟨B_gb, trivial⟩, ?_⟩
      have n_g5_10_gb := Ne.symm n_gb_g5_10
      have n_g5_10_gd := Ne.symm n_gd_g5_10
      exact dr5_16 A5_8 c5_8 g5_1 g5_10 _ a (En.sub hE ⟨rfl, rfl, rfl, rfl, rfl, rfl, rfl, rfl, rfl, rfl, rfl, rfl, rfl, rfl, rfl, rfl, rfl, rfl, trivial⟩) B_gd B_gb B_g5_10 n_g5_10_gb n_g5_10_gd n_gb_gd z_0_g5_10 Nb_L_g5_10 NN_L_q5_8 Nb_q5_8_gd Nb_q5_8_gb Nb_q5_8_g5_10 Z_0_q5_8 NN_q5_8_L O_L O_q5_8 K_0
    refine all_cons (d_lit (listed' := #[true, true, true, true, true, true, true, true, true, true, false, false, true, true, true, true, true, false, false, false, false, false]) rfl ?_) ?_
    ·
      refine (s_still p44_5_15 hE wn_none rfl (st_load1 tA64 rfl ((blk_cell B_gd 2).trans rfl)) ?_)
      clear hE a; intro a hE
      refine ⟨⟨B_gb, trivial⟩, ?_⟩
      refine d_take (v := Value.slice AD (L.length - i) (c - i)) p44_5_17 ns44_5 (by kernel_rfl) (by kernel_rfl) (fun c a w h => hQ c a _ _ w h) hE wn_none rfl ⟨B_gb, trivial⟩ (fun W hS => (st_sliceL (lo := i) (A' := AD) Try.underlying64 tS70 rfl rfl (by omega) rfl rfl hAD)) (listed' := #[true, true, true, true, true, true, true, true, true, true, false, false, true, true, true, true, true, true, false, false, false, false]) rfl ?_
      clear hE a; intro a hE
      exact dr5_19 A5_8 c5_8 g5_1 _ a (En.sub hE ⟨rfl, rfl, rfl, rfl, rfl, rfl, rfl, rfl, rfl, rfl, rfl, rfl, rfl, rfl, rfl, rfl, rfl, rfl, rfl, trivial⟩) B_gd B_gb n_gb_gd NN_L_q5_8 Nb_q5_8_gd Nb_q5_8_gb Z_0_q5_8 NN_q5_8_L O_L O_q5_8 K_0
    exact all_nil
  have dr5_9 : ∀ (g5_10 : Nat) (W : World) (a : Act), En 52 a [(0, Value.pointer (some ⟨gd, 0, none⟩)), (3, Value.pointer (some ⟨gb, 0, none⟩)), (4, Value.int .i64 (i : Int)), (31, Value.pointer (some ⟨gd, 0, none⟩)), (33, Value.pointer (some ⟨gd, 0, none⟩)), (34, Value.pointer (some ⟨gd, 0, none⟩)), (35, Value.pointer (some ⟨gd, 2, none⟩)), (36, Value.slice A L.length c), (37, Value.int .i64 (i : Int)), (38, Value.slice A i c), (40, Value.agg #[Value.int .i64 o.1, Value.int .i64 o.2.1, Value.int .i64 o.2.2]), (41, Value.slice (some ⟨g5_10, 0, none⟩) 1 1), (43, Value.pointer (some ⟨gd, 0, none⟩)), (44, Value.pointer (some ⟨gd, 0, none⟩)), (45, Value.pointer (some ⟨gd, 2, none⟩)), (47, Value.int .i64 (i : Int))] → W.heap[gd]? = some (.cells #[Value.int .i64 wt, Value.int .i64 tr, Value.slice A L.length c] 66 (0, 0)) → W.heap[gb]? = some (.cells #[Value.int .i64 o.1, Value.int .i64 o.2.1, Value.int .i64 o.2.2] 70 (0, 0)) → W.heap[g5_10]? = some (.cells #[Value.int .i64 o.1, Value.int .i64 o.2.1, Value.int .i64 o.2.2] 70 (0, 0)) → g5_10 ≠ gb → g5_10 ≠ gd → gb ≠ gd → w.heap.size ≤ g5_10 → ¬ OB A g5_10 → Rv.RdV W A L.length 3 (flO L) → Kp w W (fun k => k = gd) → wpAnyH Try.prog .any (regOf Try.f44 5) QQ (fun W => W.heap[gb]? = some (.cells #[Value.int .i64 o.1, Value.int .i64 o.2.1, Value.int .i64 o.2.2] 70 (0, 0)) ∧ True) 9 #[true, false, true, true, true, true, true, true, false, true, true, false, true, true, true, false, true, false, false, false, false, false] a W := by
    intro g5_10 w79 a hE B_gd B_gb B_g5_10 n_g5_10_gb n_g5_10_gd n_gb_gd z_0_g5_10 Nb_L_g5_10 O_L K_0
    refine d_all (rs := [1, 15]) (by kernel_rfl) rfl ?_
    refine all_cons (d_lit (listed' := #[true, true, true, true, true, true, true, true, false, true, true, false, true, true, true, false, true, false, false, false, false, false]) rfl ?_) ?_
    ·
      refine (s_row (xs := []) (vs := []) (cs := #[]) p44_5_1 hE wn_none rfl Try.underlying64 rfl (by kernel_rfl) ?_)
      clear hE a; intro g5_1 w80 z81 B_g5_1 hk a hE
      have n_gd_g5_1 : gd ≠ g5_1 := ne_new B_gd z81
      have n_gb_g5_1 : gb ≠ g5_1 := ne_new B_gb z81
      have n_g5_10_g5_1 : g5_10 ≠ g5_1 := ne_new B_g5_10 z81
      have z_0_g5_1 := Nat.le_trans K_0.kept.1 z81
      have Nb_L_g5_1 : ¬ OB A g5_1 := fun h => by have := (Rv.rdv_ob O_L h).2; omega
      replace B_gd := kp_blk B_gd hk (fun h => h)
      replace B_gb := kp_blk B_gb hk (fun h => h)
      replace B_g5_10 := kp_blk B_g5_10 hk (fun h => h)
      replace O_L := Rv.rdv_keep O_L hk (fun _ _ h => h)
      replace K_0 := K_0.then_ hk (fun _ h => h.elim)
      clear hk
      refine ⟨⟨B_gb, trivial⟩, ?_⟩
      have n_g5_1_g5_10 := Ne.symm n_g5_10_g5_1
      have n_g5_1_gb := Ne.symm n_gb_g5_1
      have n_g5_1_gd := Ne.symm n_gd_g5_1
      exact dr5_12 g5_1 g5_10 _ a (En.sub hE ⟨rfl, rfl, rfl, rfl, rfl, rfl, rfl, rfl, rfl, rfl, rfl, rfl, rfl, rfl, rfl, rfl, rfl, trivial⟩) B_gd B_gb B_g5_1 B_g5_10 n_g5_1_g5_10 n_g5_1_gb n_g5_1_gd n_g5_10_gb n_g5_10_gd n_gb_gd z_0_g5_1 z_0_g5_10 Nb_L_g5_1 Nb_L_g5_10 O_L K_0
    refine all_cons (d_lit (listed' := #[true, false, true, true, true, true, true, true, false, true, true, false, true, true, true, true, true, false, false, false, false, false]) rfl ?_) ?_
    ·
      refine (s_still p44_5_15 hE wn_none rfl (st_load1 tA64 rfl ((blk_cell B_gd 2).trans rfl)) ?_)
      clear hE a; intro a hE
      refine ⟨⟨B_gb, trivial⟩, ?_⟩
      refine d_take (v := Value.slice AD (L.length - i) (c - i)) p44_5_17 ns44_5 (by kernel_rfl) (by kernel_rfl) (fun c a w h => hQ c a _ _ w h) hE wn_none rfl ⟨B_gb, trivial⟩ (fun W hS => (st_sliceL (lo := i) (A' := AD) Try.underlying64 tS70 rfl rfl (by omega) rfl rfl hAD)) (listed' := #[true, false, true, true, true, true, true, true, false, true, true, false, true, true, true, true, true, true, false, false, false, false]) rfl ?_
      clear hE a; intro a hE
      exact dr5_14 g5_10 _ a (En.sub hE ⟨rfl, rfl, rfl, rfl, rfl, rfl, rfl, rfl, rfl, rfl, rfl, rfl, rfl, rfl, rfl, rfl, rfl, rfl, trivial⟩) B_gd B_gb B_g5_10 n_g5_10_gb n_g5_10_gd n_gb_gd z_0_g5_10 Nb_L_g5_10 O_L K_0
    exact all_nil
  have dr5_8 : ∀ (g5_1 : Nat) (W : World) (a : Act), En 52 a [(0, Value.pointer (some ⟨gd, 0, none⟩)), (3, Value.pointer (some ⟨gb, 0, none⟩)), (4, Value.int .i64 (i : Int)), (31, Value.pointer (some ⟨gd, 0, none⟩)), (32, Value.slice (some ⟨g5_1, 0, none⟩) 0 0), (33, Value.pointer (some ⟨gd, 0, none⟩)), (34, Value.pointer (some ⟨gd, 0, none⟩)), (35, Value.pointer (some ⟨gd, 2, none⟩)), (37, Value.int .i64 (i : Int)), (40, Value.agg #[Value.int .i64 o.1, Value.int .i64 o.2.1, Value.int .i64 o.2.2]), (43, Value.pointer (some ⟨gd, 0, none⟩)), (44, Value.pointer (some ⟨gd, 0, none⟩)), (45, Value.pointer (some ⟨gd, 2, none⟩)), (46, Value.slice A L.length c), (47, Value.int .i64 (i : Int)), (48, Value.slice AD (L.length - i) (c - i))] → W.heap[gd]? = some (.cells #[Value.int .i64 wt, Value.int .i64 tr, Value.slice A L.length c] 66 (0, 0)) → W.heap[gb]? = some (.cells #[Value.int .i64 o.1, Value.int .i64 o.2.1, Value.int .i64 o.2.2] 70 (0, 0)) → W.heap[g5_1]? = some (.cells #[] 70 (0, 0)) → g5_1 ≠ gb → g5_1 ≠ gd → gb ≠ gd → w.heap.size ≤ g5_1 → ¬ OB A g5_1 → Rv.RdV W A L.length 3 (flO L) → Kp w W (fun k => k = gd) → wpAnyH Try.prog .any (regOf Try.f44 5) QQ (fun W => W.heap[gb]? = some (.cells #[Value.int .i64 o.1, Value.int .i64 o.2.1, Value.int .i64 o.2.2] 70 (0, 0)) ∧ True) 9 #[true, true, true, true, true, false, true, false, false, true, false, false, true, true, true, true, true, true, false, false, false, false] a W := by
    intro g5_1 w82 a hE B_gd B_gb B_g5_1 n_g5_1_gb n_g5_1_gd n_gb_gd z_0_g5_1 Nb_L_g5_1 O_L K_0
    refine d_all (rs := [5, 10]) (by kernel_rfl) rfl ?_
    refine all_cons (d_lit (listed' := #[true, true, true, true, true, true, true, false, false, true, false, false, true, true, true, true, true, true, false, false, false, false]) rfl ?_) ?_
    ·
      refine (s_still p44_5_5 hE wn_none rfl (st_load1 tA64 rfl ((blk_cell B_gd 2).trans rfl)) ?_)
      clear hE a; intro a hE
      refine ⟨⟨B_gb, trivial⟩, ?_⟩
      refine d_take (v := Value.slice A i c) p44_5_7 ns44_5 (by kernel_rfl) (by kernel_rfl) (fun c a w h => hQ c a _ _ w h) hE wn_none rfl ⟨B_gb, trivial⟩ (fun W hS => (st_sliceH (h := i) Try.underlying64 tS70 rfl rfl (by omega))) (listed' := #[true, true, true, true, true, true, true, true, false, true, false, false, true, true, true, true, true, true, false, false, false, false]) rfl ?_
      clear hE a; intro a hE
      exact dr5_15 g5_1 _ a (En.sub hE ⟨rfl, rfl, rfl, rfl, rfl, rfl, rfl, rfl, rfl, rfl, rfl, rfl, rfl, rfl, rfl, rfl, rfl, rfl, trivial⟩) B_gd B_gb B_g5_1 n_g5_1_gb n_g5_1_gd n_gb_gd z_0_g5_1 Nb_L_g5_1 O_L K_0
    refine all_cons (d_lit (listed' := #[true, true, true, true, true, false, true, false, false, true, true, false, true, true, true, true, true, true, false, false, false, false]) rfl ?_) ?_
    ·
      refine (s_row (xs := [(0, Operand.tmp 40)]) (vs := [(0, Value.agg #[Value.int .i64 o.1, Value.int .i64 o.2.1, Value.int .i64 o.2.2])]) (cs := #[Value.int .i64 o.1, Value.int .i64 o.2.1, Value.int .i64 o.2.2]) p44_5_10 hE wn_none rfl Try.underlying64 rfl (by kernel_rfl) ?_)
      clear hE a; intro g5_10 w83 z84 B_g5_10 hk a hE
      have n_gd_g5_10 : gd ≠ g5_10 := ne_new B_gd z84
      have n_gb_g5_10 : gb ≠ g5_10 := ne_new B_gb z84
      have n_g5_1_g5_10 : g5_1 ≠ g5_10 := ne_new B_g5_1 z84
      have z_0_g5_10 := Nat.le_trans K_0.kept.1 z84
      have Nb_L_g5_10 : ¬ OB A g5_10 := fun h => by have := (Rv.rdv_ob O_L h).2; omega
      replace B_gd := kp_blk B_gd hk (fun h => h)
      replace B_gb := kp_blk B_gb hk (fun h => h)
      replace B_g5_1 := kp_blk B_g5_1 hk (fun h => h)
      replace O_L := Rv.rdv_keep O_L hk (fun _ _ h => h)
      replace K_0 := K_0.then_ hk (fun _ h => h.elim)
      clear hk
      refine ⟨⟨B_gb, trivial⟩, ?_⟩
      have n_g5_10_gb := Ne.symm n_gb_g5_10
      have n_g5_10_gd := Ne.symm n_gd_g5_10
      exact dr5_11 g5_1 g5_10 _ a (En.sub hE ⟨rfl, rfl, rfl, rfl, rfl, rfl, rfl, rfl, rfl, rfl, rfl, rfl, rfl, rfl, rfl, rfl, rfl, trivial⟩) B_gd B_gb B_g5_1 B_g5_10 n_g5_1_g5_10 n_g5_1_gb n_g5_1_gd n_g5_10_gb n_g5_10_gd n_gb_gd z_0_g5_1 z_0_g5_10 Nb_L_g5_1 Nb_L_g5_10 O_L K_0
    exact all_nil
  have dr5_7 : ∀ (g5_10 : Nat) (W : World) (a : Act), En 52 a [(0, Value.pointer (some ⟨gd, 0, none⟩)), (3, Value.pointer (some ⟨gb, 0, none⟩)), (4, Value.int .i64 (i : Int)), (31, Value.pointer (some ⟨gd, 0, none⟩)), (33, Value.pointer (some ⟨gd, 0, none⟩)), (34, Value.pointer (some ⟨gd, 0, none⟩)), (35, Value.pointer (some ⟨gd, 2, none⟩)), (37, Value.int .i64 (i : Int)), (40, Value.agg #[Value.int .i64 o.1, Value.int .i64 o.2.1, Value.int .i64 o.2.2]), (41, Value.slice (some ⟨g5_10, 0, none⟩) 1 1), (43, Value.pointer (some ⟨gd, 0, none⟩)), (44, Value.pointer (some ⟨gd, 0, none⟩)), (45, Value.pointer (some ⟨gd, 2, none⟩)), (46, Value.slice A L.length c), (47, Value.int .i64 (i : Int)), (48, Value.slice AD (L.length - i) (c - i))] → W.heap[gd]? = some (.cells #[Value.int .i64 wt, Value.int .i64 tr, Value.slice A L.length c] 66 (0, 0)) → W.heap[gb]? = some (.cells #[Value.int .i64 o.1, Value.int .i64 o.2.1, Value.int .i64 o.2.2] 70 (0, 0)) → W.heap[g5_10]? = some (.cells #[Value.int .i64 o.1, Value.int .i64 o.2.1, Value.int .i64 o.2.2] 70 (0, 0)) → g5_10 ≠ gb → g5_10 ≠ gd → gb ≠ gd → w.heap.size ≤ g5_10 → ¬ OB A g5_10 → Rv.RdV W A L.length 3 (flO L) → Kp w W (fun k => k = gd) → wpAnyH Try.prog .any (regOf Try.f44 5) QQ (fun W => W.heap[gb]? = some (.cells #[Value.int .i64 o.1, Value.int .i64 o.2.1, Value.int .i64 o.2.2] 70 (0, 0)) ∧ True) 9 #[true, false, true, true, true, false, true, false, false, true, true, false, true, true, true, true, true, true, false, false, false, false] a W := by
    intro g5_10 w85 a hE B_gd B_gb B_g5_10 n_g5_10_gb n_g5_10_gd n_gb_gd z_0_g5_10 Nb_L_g5_10 O_L K_0
    refine d_all (rs := [1, 5]) (by kernel_rfl) rfl ?_
    refine all_cons (d_lit (listed' := #[true, true, true, true, true, false, true, false, false, true, true, false, true, true, true, true, true, true, false, false, false, false]) rfl ?_) ?_
    ·
      refine (s_row (xs := []) (vs := []) (cs := #[]) p44_5_1 hE wn_none rfl Try.underlying64 rfl (by kernel_rfl) ?_)
      clear hE a; intro g5_1 w86 z87 B_g5_1 hk a hE
      have n_gd_g5_1 : gd ≠ g5_1 := ne_new B_gd z87
      have n_gb_g5_1 : gb ≠ g5_1 := ne_new B_gb z87
      have n_g5_10_g5_1 : g5_10 ≠ g5_1 := ne_new B_g5_10 z87
      have z_0_g5_1 := Nat.le_trans K_0.kept.1 z87
      have Nb_L_g5_1 : ¬ OB A g5_1 := fun h => by have := (Rv.rdv_ob O_L h).2; omega
      replace B_gd := kp_blk B_gd hk (fun h => h)
      replace B_gb := kp_blk B_gb hk (fun h => h)
      replace B_g5_10 := kp_blk B_g5_10 hk (fun h => h)
      replace O_L := Rv.rdv_keep O_L hk (fun _ _ h => h)
      replace K_0 := K_0.then_ hk (fun _ h => h.elim)
      clear hk
      refine ⟨⟨B_gb, trivial⟩, ?_⟩
      have n_g5_1_g5_10 := Ne.symm n_g5_10_g5_1
      have n_g5_1_gb := Ne.symm n_gb_g5_1
      have n_g5_1_gd := Ne.symm n_gd_g5_1
      exact dr5_11 g5_1 g5_10 _ a (En.sub hE ⟨rfl, rfl, rfl, rfl, rfl, rfl, rfl, rfl, rfl, rfl, rfl, rfl, rfl, rfl, rfl, rfl, rfl, trivial⟩) B_gd B_gb B_g5_1 B_g5_10 n_g5_1_g5_10 n_g5_1_gb n_g5_1_gd n_g5_10_gb n_g5_10_gd n_gb_gd z_0_g5_1 z_0_g5_10 Nb_L_g5_1 Nb_L_g5_10 O_L K_0
    refine all_cons (d_lit (listed' := #[true, false, true, true, true, true, true, false, false, true, true, false, true, true, true, true, true, true, false, false, false, false]) rfl ?_) ?_
    ·
      refine (s_still p44_5_5 hE wn_none rfl (st_load1 tA64 rfl ((blk_cell B_gd 2).trans rfl)) ?_)
      clear hE a; intro a hE
      refine ⟨⟨B_gb, trivial⟩, ?_⟩
      refine d_take (v := Value.slice A i c) p44_5_7 ns44_5 (by kernel_rfl) (by kernel_rfl) (fun c a w h => hQ c a _ _ w h) hE wn_none rfl ⟨B_gb, trivial⟩ (fun W hS => (st_sliceH (h := i) Try.underlying64 tS70 rfl rfl (by omega))) (listed' := #[true, false, true, true, true, true, true, true, false, true, true, false, true, true, true, true, true, true, false, false, false, false]) rfl ?_
      clear hE a; intro a hE
      exact dr5_14 g5_10 _ a (En.sub hE ⟨rfl, rfl, rfl, rfl, rfl, rfl, rfl, rfl, rfl, rfl, rfl, rfl, rfl, rfl, rfl, rfl, rfl, rfl, trivial⟩) B_gd B_gb B_g5_10 n_g5_10_gb n_g5_10_gd n_gb_gd z_0_g5_10 Nb_L_g5_10 O_L K_0
    exact all_nil
  have dr5_6 : ∀ (g5_1 : Nat) (W : World) (a : Act), En 52 a [(0, Value.pointer (some ⟨gd, 0, none⟩)), (3, Value.pointer (some ⟨gb, 0, none⟩)), (4, Value.int .i64 (i : Int)), (31, Value.pointer (some ⟨gd, 0, none⟩)), (32, Value.slice (some ⟨g5_1, 0, none⟩) 0 0), (33, Value.pointer (some ⟨gd, 0, none⟩)), (34, Value.pointer (some ⟨gd, 0, none⟩)), (35, Value.pointer (some ⟨gd, 2, none⟩)), (36, Value.slice A L.length c), (37, Value.int .i64 (i : Int)), (38, Value.slice A i c), (40, Value.agg #[Value.int .i64 o.1, Value.int .i64 o.2.1, Value.int .i64 o.2.2]), (43, Value.pointer (some ⟨gd, 0, none⟩)), (44, Value.pointer (some ⟨gd, 0, none⟩)), (45, Value.pointer (some ⟨gd, 2, none⟩)), (47, Value.int .i64 (i : Int))] → W.heap[gd]? = some (.cells #[Value.int .i64 wt, Value.int .i64 tr, Value.slice A L.length c] 66 (0, 0)) → W.heap[gb]? = some (.cells #[Value.int .i64 o.1, Value.int .i64 o.2.1, Value.int .i64 o.2.2] 70 (0, 0)) → W.heap[g5_1]? = some (.cells #[] 70 (0, 0)) → g5_1 ≠ gb → g5_1 ≠ gd → gb ≠ gd → w.heap.size ≤ g5_1 → ¬ OB A g5_1 → Rv.RdV W A L.length 3 (flO L) → Kp w W (fun k => k = gd) → wpAnyH Try.prog .any (regOf Try.f44 5) QQ (fun W => W.heap[gb]? = some (.cells #[Value.int .i64 o.1, Value.int .i64 o.2.1, Value.int .i64 o.2.2] 70 (0, 0)) ∧ True) 9 #[true, true, true, true, true, true, true, true, false, true, false, false, true, true, true, false, true, false, false, false, false, false] a W := by
    intro g5_1 w88 a hE B_gd B_gb B_g5_1 n_g5_1_gb n_g5_1_gd n_gb_gd z_0_g5_1 Nb_L_g5_1 O_L K_0
    refine d_all (rs := [8, 10, 15]) (by kernel_rfl) rfl ?_
    refine all_cons (d_lit (listed' := #[true, true, true, true, true, true, true, true, true, true, false, false, true, true, true, false, true, false, false, false, false, false]) rfl ?_) ?_
    ·
      have O_q5_8 := own_blk0 (s := 3) B_g5_1 (show w.heap.size ≤ g5_1 from z_0_g5_1)
      have Nb_q5_8_gd : ¬ OB (some ⟨g5_1, 0, none⟩) gd := fun h => by have h := ob_blk.1 h; exact n_g5_1_gd h
      have Nb_q5_8_gb : ¬ OB (some ⟨g5_1, 0, none⟩) gb := fun h => by have h := ob_blk.1 h; exact n_g5_1_gb h
      have Z_0_q5_8 : ∀ k, OB (some ⟨g5_1, 0, none⟩) k → (fun k => k = gd) k ∨ w.heap.size ≤ k := fun k h => by have h := ob_blk.1 h; subst h; exact Or.inr z_0_g5_1
      have NN_q5_8_L : ∀ k, OB (some ⟨g5_1, 0, none⟩) k → ¬ OB A k := fun k h h2 => by have h := ob_blk.1 h; subst h; exact Nb_L_g5_1 h2
      have NN_L_q5_8 : ∀ k, OB A k → ¬ OB (some ⟨g5_1, 0, none⟩) k := fun k h h2 => NN_q5_8_L k h2 h
      refine (Rv.s_appendV (s := 3) (xs := []) p44_5_8 hE wn_none rfl Try.underlying64 eD70 (by decide) rfl O_q5_8 rfl (Rv.rdv_take O_L (by omega)) (by omega) (by omega) K_0.kept.1 ?_ hcA.2)
      clear hE a; intro A5_8 c5_8 w89 O_q5_8' hk hat a hE
      have Nb_q5_8_gd' := grow_n Nb_q5_8_gd (blk_lt B_gd) hat
      have Nb_q5_8_gb' := grow_n Nb_q5_8_gb (blk_lt B_gb) hat
      have NN_L_q5_8' : ∀ k, OB A k → ¬ OB A5_8 k := fun k h h2 => (hat k h2).elim (NN_L_q5_8 k h) (fun h3 => by have := (Rv.rdv_ob O_L h).2; omega)
      have Z_0_q5_8' := grow_z Z_0_q5_8 K_0.kept.1 hat
      replace B_gd := kp_blk B_gd hk Nb_q5_8_gd
      replace B_gb := kp_blk B_gb hk Nb_q5_8_gb
      replace O_L := Rv.rdv_keep O_L hk NN_L_q5_8
      replace K_0 := K_0.then_ hk Z_0_q5_8
      replace Nb_q5_8_gd := Nb_q5_8_gd'
      replace Nb_q5_8_gb := Nb_q5_8_gb'
      replace NN_L_q5_8 := NN_L_q5_8'
      replace NN_q5_8_L : ∀ k, OB A5_8 k → ¬ OB A k := fun k h h2 => NN_L_q5_8 k h2 h
      replace Z_0_q5_8 := Z_0_q5_8'
      replace O_q5_8 := O_q5_8'
      try clear O_q5_8'
      clear hk hat
      refine ⟨⟨B_gb, trivial⟩, ?_⟩
      exact dr5_10 A5_8 c5_8 g5_1 _ a (En.sub hE ⟨rfl, rfl, rfl, rfl, rfl, rfl, rfl, rfl, rfl, rfl, rfl, rfl, rfl, rfl, rfl, rfl, rfl, trivial⟩) B_gd B_gb n_gb_gd NN_L_q5_8 Nb_q5_8_gd Nb_q5_8_gb Z_0_q5_8 NN_q5_8_L O_L O_q5_8 K_0
    refine all_cons (d_lit (listed' := #[true, true, true, true, true, true, true, true, false, true, true, false, true, true, true, false, true, false, false, false, false, false]) rfl ?_) ?_
    ·
      refine (s_row (xs := [(0, Operand.tmp 40)]) (vs := [(0, Value.agg #[Value.int .i64 o.1, Value.int .i64 o.2.1, Value.int .i64 o.2.2])]) (cs := #[Value.int .i64 o.1, Value.int .i64 o.2.1, Value.int .i64 o.2.2]) p44_5_10 hE wn_none rfl Try.underlying64 rfl (by kernel_rfl) ?_)
      clear hE a; intro g5_10 w90 z91 B_g5_10 hk a hE
      have n_gd_g5_10 : gd ≠ g5_10 := ne_new B_gd z91
      have n_gb_g5_10 : gb ≠ g5_10 := ne_new B_gb z91
      have n_g5_1_g5_10 : g5_1 ≠ g5_10 := ne_new B_g5_1 z91
      have z_0_g5_10 := Nat.le_trans K_0.kept.1 z91
      have Nb_L_g5_10 : ¬ OB A g5_10 := fun h => by have := (Rv.rdv_ob O_L h).2; omega
      replace B_gd := kp_blk B_gd hk (fun h => h)
      replace B_gb := kp_blk B_gb hk (fun h => h)
      replace B_g5_1 := kp_blk B_g5_1 hk (fun h => h)
      replace O_L := Rv.rdv_keep O_L hk (fun _ _ h => h)
      replace K_0 := K_0.then_ hk (fun _ h => h.elim)
      clear hk
      refine ⟨⟨B_gb, trivial⟩, ?_⟩
      have n_g5_10_gb := Ne.symm n_gb_g5_10
      have n_g5_10_gd := Ne.symm n_gd_g5_10
      exact dr5_12 g5_1 g5_10 _ a (En.sub hE ⟨rfl, rfl, rfl, rfl, rfl, rfl, rfl, rfl, rfl, rfl, rfl, rfl, rfl, rfl, rfl, rfl, rfl, trivial⟩) B_gd B_gb B_g5_1 B_g5_10 n_g5_1_g5_10 n_g5_1_gb n_g5_1_gd n_g5_10_gb n_g5_10_gd n_gb_gd z_0_g5_1 z_0_g5_10 Nb_L_g5_1 Nb_L_g5_10 O_L K_0
    refine all_cons (d_lit (listed' := #[true, true, true, true, true, true, true, true, false, true, false, false, true, true, true, true, true, false, false, false, false, false]) rfl ?_) ?_
    ·
      refine (s_still p44_5_15 hE wn_none rfl (st_load1 tA64 rfl ((blk_cell B_gd 2).trans rfl)) ?_)
      clear hE a; intro a hE
      refine ⟨⟨B_gb, trivial⟩, ?_⟩
      refine d_take (v := Value.slice AD (L.length - i) (c - i)) p44_5_17 ns44_5 (by kernel_rfl) (by kernel_rfl) (fun c a w h => hQ c a _ _ w h) hE wn_none rfl ⟨B_gb, trivial⟩ (fun W hS => (st_sliceL (lo := i) (A' := AD) Try.underlying64 tS70 rfl rfl (by omega) rfl rfl hAD)) (listed' := #[true, true, true, true, true, true, true, true, false, true, false, false, true, true, true, true, true, true, false, false, false, false]) rfl ?_
      clear hE a; intro a hE
      exact dr5_15 g5_1 _ a (En.sub hE ⟨rfl, rfl, rfl, rfl, rfl, rfl, rfl, rfl, rfl, rfl, rfl, rfl, rfl, rfl, rfl, rfl, rfl, rfl, trivial⟩) B_gd B_gb B_g5_1 n_g5_1_gb n_g5_1_gd n_gb_gd z_0_g5_1 Nb_L_g5_1 O_L K_0
    exact all_nil
  have dr5_5 : ∀ (W : World) (a : Act), En 52 a [(0, Value.pointer (some ⟨gd, 0, none⟩)), (3, Value.pointer (some ⟨gb, 0, none⟩)), (4, Value.int .i64 (i : Int)), (31, Value.pointer (some ⟨gd, 0, none⟩)), (33, Value.pointer (some ⟨gd, 0, none⟩)), (34, Value.pointer (some ⟨gd, 0, none⟩)), (35, Value.pointer (some ⟨gd, 2, none⟩)), (36, Value.slice A L.length c), (37, Value.int .i64 (i : Int)), (38, Value.slice A i c), (40, Value.agg #[Value.int .i64 o.1, Value.int .i64 o.2.1, Value.int .i64 o.2.2]), (43, Value.pointer (some ⟨gd, 0, none⟩)), (44, Value.pointer (some ⟨gd, 0, none⟩)), (45, Value.pointer (some ⟨gd, 2, none⟩)), (47, Value.int .i64 (i : Int))] → W.heap[gd]? = some (.cells #[Value.int .i64 wt, Value.int .i64 tr, Value.slice A L.length c] 66 (0, 0)) → W.heap[gb]? = some (.cells #[Value.int .i64 o.1, Value.int .i64 o.2.1, Value.int .i64 o.2.2] 70 (0, 0)) → gb ≠ gd → Rv.RdV W A L.length 3 (flO L) → Kp w W (fun k => k = gd) → wpAnyH Try.prog .any (regOf Try.f44 5) QQ (fun W => W.heap[gb]? = some (.cells #[Value.int .i64 o.1, Value.int .i64 o.2.1, Value.int .i64 o.2.2] 70 (0, 0)) ∧ True) 10 #[true, false, true, true, true, true, true, true, false, true, false, false, true, true, true, false, true, false, false, false, false, false] a W := by
    intro w92 a hE B_gd B_gb n_gb_gd O_L K_0
    refine d_all (rs := [1, 10, 15]) (by kernel_rfl) rfl ?_
    refine all_cons (d_lit (listed' := #[true, true, true, true, true, true, true, true, false, true, false, false, true, true, true, false, true, false, false, false, false, false]) rfl ?_) ?_
    ·
      refine (s_row (xs := []) (vs := []) (cs := #[]) p44_5_1 hE wn_none rfl Try.underlying64 rfl (by kernel_rfl) ?_)
      clear hE a; intro g5_1 w93 z94 B_g5_1 hk a hE
      have n_gd_g5_1 : gd ≠ g5_1 := ne_new B_gd z94
      have n_gb_g5_1 : gb ≠ g5_1 := ne_new B_gb z94
      have z_0_g5_1 := Nat.le_trans K_0.kept.1 z94
      have Nb_L_g5_1 : ¬ OB A g5_1 := fun h => by have := (Rv.rdv_ob O_L h).2; omega
      replace B_gd := kp_blk B_gd hk (fun h => h)
      replace B_gb := kp_blk B_gb hk (fun h => h)
      replace O_L := Rv.rdv_keep O_L hk (fun _ _ h => h)
      replace K_0 := K_0.then_ hk (fun _ h => h.elim)
      clear hk
      refine ⟨⟨B_gb, trivial⟩, ?_⟩
      have n_g5_1_gb := Ne.symm n_gb_g5_1
      have n_g5_1_gd := Ne.symm n_gd_g5_1
      exact dr5_6 g5_1 _ a (En.sub hE ⟨rfl, rfl, rfl, rfl, rfl, rfl, rfl, rfl, rfl, rfl, rfl, rfl, rfl, rfl, rfl, rfl, trivial⟩) B_gd B_gb B_g5_1 n_g5_1_gb n_g5_1_gd n_gb_gd z_0_g5_1 Nb_L_g5_1 O_L K_0
    refine all_cons (d_lit (listed' := #[true, false, true, true, true, true, true, true, false, true, true, false, true, true, true, false, true, false, false, false, false, false]) rfl ?_) ?_
    ·
      refine (s_row (xs := [(0, Operand.tmp 40)]) (vs := [(0, Value.agg #[Value.int .i64 o.1, Value.int .i64 o.2.1, Value.int .i64 o.2.2])]) (cs := #[Value.int .i64 o.1, Value.int .i64 o.2.1, Value.int .i64 o.2.2]) p44_5_10 hE wn_none rfl Try.underlying64 rfl (by kernel_rfl) ?_)
      clear hE a; intro g5_10 w95 z96 B_g5_10 hk a hE
      have n_gd_g5_10 : gd ≠ g5_10 := ne_new B_gd z96
      have n_gb_g5_10 : gb ≠ g5_10 := ne_new B_gb z96
      have z_0_g5_10 := Nat.le_trans K_0.kept.1 z96
      have Nb_L_g5_10 : ¬ OB A g5_10 := fun h => by have := (Rv.rdv_ob O_L h).2; omega
      replace B_gd := kp_blk B_gd hk (fun h => h)
      replace B_gb := kp_blk B_gb hk (fun h => h)
      replace O_L := Rv.rdv_keep O_L hk (fun _ _ h => h)
      replace K_0 := K_0.then_ hk (fun _ h => h.elim)
      clear hk
      refine ⟨⟨B_gb, trivial⟩, ?_⟩
      have n_g5_10_gb := Ne.symm n_gb_g5_10
      have n_g5_10_gd := Ne.symm n_gd_g5_10
      exact dr5_9 g5_10 _ a (En.sub hE ⟨rfl, rfl, rfl, rfl, rfl, rfl, rfl, rfl, rfl, rfl, rfl, rfl, rfl, rfl, rfl, rfl, trivial⟩) B_gd B_gb B_g5_10 n_g5_10_gb n_g5_10_gd n_gb_gd z_0_g5_10 Nb_L_g5_10 O_L K_0
    refine all_cons (d_lit (listed' := #[true, false, true, true, true, true, true, true, false, true, false, false, true, true, true, true, true, false, false, false, false, false]) rfl ?_) ?_
    ·
      refine (s_still p44_5_15 hE wn_none rfl (st_load1 tA64 rfl ((blk_cell B_gd 2).trans rfl)) ?_)
      clear hE a; intro a hE
      refine ⟨⟨B_gb, trivial⟩, ?_⟩
      refine d_take (v := Value.slice AD (L.length - i) (c - i)) p44_5_17 ns44_5 (by kernel_rfl) (by kernel_rfl) (fun c a w h => hQ c a _ _ w h) hE wn_none rfl ⟨B_gb, trivial⟩ (fun W hS => (st_sliceL (lo := i) (A' := AD) Try.underlying64 tS70 rfl rfl (by omega) rfl rfl hAD)) (listed' := #[true, false, true, true, true, true, true, true, false, true, false, false, true, true, true, true, true, true, false, false, false, false]) rfl ?_
      clear hE a; intro a hE
      exact dr5_13 _ a (En.sub hE ⟨rfl, rfl, rfl, rfl, rfl, rfl, rfl, rfl, rfl, rfl, rfl, rfl, rfl, rfl, rfl, rfl, rfl, trivial⟩) B_gd B_gb n_gb_gd O_L K_0
    exact all_nil
  have dr5_4 : ∀ (g5_1 : Nat) (g5_10 : Nat) (W : World) (a : Act), En 52 a [(0, Value.pointer (some ⟨gd, 0, none⟩)), (3, Value.pointer (some ⟨gb, 0, none⟩)), (4, Value.int .i64 (i : Int)), (31, Value.pointer (some ⟨gd, 0, none⟩)), (32, Value.slice (some ⟨g5_1, 0, none⟩) 0 0), (33, Value.pointer (some ⟨gd, 0, none⟩)), (34, Value.pointer (some ⟨gd, 0, none⟩)), (35, Value.pointer (some ⟨gd, 2, none⟩)), (37, Value.int .i64 (i : Int)), (40, Value.agg #[Value.int .i64 o.1, Value.int .i64 o.2.1, Value.int .i64 o.2.2]), (41, Value.slice (some ⟨g5_10, 0, none⟩) 1 1), (43, Value.pointer (some ⟨gd, 0, none⟩)), (44, Value.pointer (some ⟨gd, 0, none⟩)), (45, Value.pointer (some ⟨gd, 2, none⟩)), (47, Value.int .i64 (i : Int))] → W.heap[gd]? = some (.cells #[Value.int .i64 wt, Value.int .i64 tr, Value.slice A L.length c] 66 (0, 0)) → W.heap[gb]? = some (.cells #[Value.int .i64 o.1, Value.int .i64 o.2.1, Value.int .i64 o.2.2] 70 (0, 0)) → W.heap[g5_1]? = some (.cells #[] 70 (0, 0)) → W.heap[g5_10]? = some (.cells #[Value.int .i64 o.1, Value.int .i64 o.2.1, Value.int .i64 o.2.2] 70 (0, 0)) → g5_1 ≠ g5_10 → g5_1 ≠ gb → g5_1 ≠ gd → g5_10 ≠ gb → g5_10 ≠ gd → gb ≠ gd → w.heap.size ≤ g5_1 → w.heap.size ≤ g5_10 → ¬ OB A g5_1 → ¬ OB A g5_10 → Rv.RdV W A L.length 3 (flO L) → Kp w W (fun k => k = gd) → wpAnyH Try.prog .any (regOf Try.f44 5) QQ (fun W => W.heap[gb]? = some (.cells #[Value.int .i64 o.1, Value.int .i64 o.2.1, Value.int .i64 o.2.2] 70 (0, 0)) ∧ True) 10 #[true, true, true, true, true, false, true, false, false, true, true, false, true, true, true, false, true, false, false, false, false, false] a W := by
    intro g5_1 g5_10 w97 a hE B_gd B_gb B_g5_1 B_g5_10 n_g5_1_g5_10 n_g5_1_gb n_g5_1_gd n_g5_10_gb n_g5_10_gd n_gb_gd z_0_g5_1 z_0_g5_10 Nb_L_g5_1 Nb_L_g5_10 O_L K_0
    refine d_all (rs := [5, 15]) (by kernel_rfl) rfl ?_
    refine all_cons (d_lit (listed' := #[true, true, true, true, true, true, true, false, false, true, true, false, true, true, true, false, true, false, false, false, false, false]) rfl ?_) ?_
    ·
      refine (s_still p44_5_5 hE wn_none rfl (st_load1 tA64 rfl ((blk_cell B_gd 2).trans rfl)) ?_)
      clear hE a; intro a hE
      refine ⟨⟨B_gb, trivial⟩, ?_⟩
      refine d_take (v := Value.slice A i c) p44_5_7 ns44_5 (by kernel_rfl) (by kernel_rfl) (fun c a w h => hQ c a _ _ w h) hE wn_none rfl ⟨B_gb, trivial⟩ (fun W hS => (st_sliceH (h := i) Try.underlying64 tS70 rfl rfl (by omega))) (listed' := #[true, true, true, true, true, true, true, true, false, true, true, false, true, true, true, false, true, false, false, false, false, false]) rfl ?_
      clear hE a; intro a hE
      exact dr5_12 g5_1 g5_10 _ a (En.sub hE ⟨rfl, rfl, rfl, rfl, rfl, rfl, rfl, rfl, rfl, rfl, rfl, rfl, rfl, rfl, rfl, rfl, rfl, trivial⟩) B_gd B_gb B_g5_1 B_g5_10 n_g5_1_g5_10 n_g5_1_gb n_g5_1_gd n_g5_10_gb n_g5_10_gd n_gb_gd z_0_g5_1 z_0_g5_10 Nb_L_g5_1 Nb_L_g5_10 O_L K_0
    refine all_cons (d_lit (listed' := #[true, true, true, true, true, false, true, false, false, true, true, false, true, true, true, true, true, false, false, false, false, false]) rfl ?_) ?_
    ·
      refine (s_still p44_5_15 hE wn_none rfl (st_load1 tA64 rfl ((blk_cell B_gd 2).trans rfl)) ?_)
      clear hE a; intro a hE
      refine ⟨⟨B_gb, trivial⟩, ?_⟩
      refine d_take (v := Value.slice AD (L.length - i) (c - i)) p44_5_17 ns44_5 (by kernel_rfl) (by kernel_rfl) (fun c a w h => hQ c a _ _ w h) hE wn_none rfl ⟨B_gb, trivial⟩ (fun W hS => (st_sliceL (lo := i) (A' := AD) Try.underlying64 tS70 rfl rfl (by omega) rfl rfl hAD)) (listed' := #[true, true, true, true, true, false, true, false, false, true, true, false, true, true, true, true, true, true, false, false, false, false]) rfl ?_
      clear hE a; intro a hE
      exact dr5_11 g5_1 g5_10 _ a (En.sub hE ⟨rfl, rfl, rfl, rfl, rfl, rfl, rfl, rfl, rfl, rfl, rfl, rfl, rfl, rfl, rfl, rfl, rfl, trivial⟩) B_gd B_gb B_g5_1 B_g5_10 n_g5_1_g5_10 n_g5_1_gb n_g5_1_gd n_g5_10_gb n_g5_10_gd n_gb_gd z_0_g5_1 z_0_g5_10 Nb_L_g5_1 Nb_L_g5_10 O_L K_0
    exact all_nil
  have dr5_3 : ∀ (W : World) (a : Act), En 52 a [(0, Value.pointer (some ⟨gd, 0, none⟩)), (3, Value.pointer (some ⟨gb, 0, none⟩)), (4, Value.int .i64 (i : Int)), (31, Value.pointer (some ⟨gd, 0, none⟩)), (33, Value.pointer (some ⟨gd, 0, none⟩)), (34, Value.pointer (some ⟨gd, 0, none⟩)), (35, Value.pointer (some ⟨gd, 2, none⟩)), (37, Value.int .i64 (i : Int)), (40, Value.agg #[Value.int .i64 o.1, Value.int .i64 o.2.1, Value.int .i64 o.2.2]), (43, Value.pointer (some ⟨gd, 0, none⟩)), (44, Value.pointer (some ⟨gd, 0, none⟩)), (45, Value.pointer (some ⟨gd, 2, none⟩)), (46, Value.slice A L.length c), (47, Value.int .i64 (i : Int)), (48, Value.slice AD (L.length - i) (c - i))] → W.heap[gd]? = some (.cells #[Value.int .i64 wt, Value.int .i64 tr, Value.slice A L.length c] 66 (0, 0)) → W.heap[gb]? = some (.cells #[Value.int .i64 o.1, Value.int .i64 o.2.1, Value.int .i64 o.2.2] 70 (0, 0)) → gb ≠ gd → Rv.RdV W A L.length 3 (flO L) → Kp w W (fun k => k = gd) → wpAnyH Try.prog .any (regOf Try.f44 5) QQ (fun W => W.heap[gb]? = some (.cells #[Value.int .i64 o.1, Value.int .i64 o.2.1, Value.int .i64 o.2.2] 70 (0, 0)) ∧ True) 10 #[true, false, true, true, true, false, true, false, false, true, false, false, true, true, true, true, true, true, false, false, false, false] a W := by
    intro w98 a hE B_gd B_gb n_gb_gd O_L K_0
    refine d_all (rs := [1, 5, 10]) (by kernel_rfl) rfl ?_
    refine all_cons (d_lit (listed' := #[true, true, true, true, true, false, true, false, false, true, false, false, true, true, true, true, true, true, false, false, false, false]) rfl ?_) ?_
    ·
      refine (s_row (xs := []) (vs := []) (cs := #[]) p44_5_1 hE wn_none rfl Try.underlying64 rfl (by kernel_rfl) ?_)
      clear hE a; intro g5_1 w99 z100 B_g5_1 hk a hE
      have n_gd_g5_1 : gd ≠ g5_1 := ne_new B_gd z100
      have n_gb_g5_1 : gb ≠ g5_1 := ne_new B_gb z100
      have z_0_g5_1 := Nat.le_trans K_0.kept.1 z100
      have Nb_L_g5_1 : ¬ OB A g5_1 := fun h => by have := (Rv.rdv_ob O_L h).2; omega
      replace B_gd := kp_blk B_gd hk (fun h => h)
      replace B_gb := kp_blk B_gb hk (fun h => h)
      replace O_L := Rv.rdv_keep O_L hk (fun _ _ h => h)
      replace K_0 := K_0.then_ hk (fun _ h => h.elim)
      clear hk
      refine ⟨⟨B_gb, trivial⟩, ?_⟩
      have n_g5_1_gb := Ne.symm n_gb_g5_1
      have n_g5_1_gd := Ne.symm n_gd_g5_1
      exact dr5_8 g5_1 _ a (En.sub hE ⟨rfl, rfl, rfl, rfl, rfl, rfl, rfl, rfl, rfl, rfl, rfl, rfl, rfl, rfl, rfl, rfl, trivial⟩) B_gd B_gb B_g5_1 n_g5_1_gb n_g5_1_gd n_gb_gd z_0_g5_1 Nb_L_g5_1 O_L K_0
    refine all_cons (d_lit (listed' := #[true, false, true, true, true, true, true, false, false, true, false, false, true, true, true, true, true, true, false, false, false, false]) rfl ?_) ?_
    ·
      refine (s_still p44_5_5 hE wn_none rfl (st_load1 tA64 rfl ((blk_cell B_gd 2).trans rfl)) ?_)
      clear hE a; intro a hE
      refine ⟨⟨B_gb, trivial⟩, ?_⟩
      refine d_take (v := Value.slice A i c) p44_5_7 ns44_5 (by kernel_rfl) (by kernel_rfl) (fun c a w h => hQ c a _ _ w h) hE wn_none rfl ⟨B_gb, trivial⟩ (fun W hS => (st_sliceH (h := i) Try.underlying64 tS70 rfl rfl (by omega))) (listed' := #[true, false, true, true, true, true, true, true, false, true, false, false, true, true, true, true, true, true, false, false, false, false]) rfl ?_
      clear hE a; intro a hE
      exact dr5_13 _ a (En.sub hE ⟨rfl, rfl, rfl, rfl, rfl, rfl, rfl, rfl, rfl, rfl, rfl, rfl, rfl, rfl, rfl, rfl, rfl, trivial⟩) B_gd B_gb n_gb_gd O_L K_0
    refine all_cons (d_lit (listed' := #[true, false, true, true, true, false, true, false, false, true, true, false, true, true, true, true, true, true, false, false, false, false]) rfl ?_) ?_
    ·
      refine (s_row (xs := [(0, Operand.tmp 40)]) (vs := [(0, Value.agg #[Value.int .i64 o.1, Value.int .i64 o.2.1, Value.int .i64 o.2.2])]) (cs := #[Value.int .i64 o.1, Value.int .i64 o.2.1, Value.int .i64 o.2.2]) p44_5_10 hE wn_none rfl Try.underlying64 rfl (by kernel_rfl) ?_)
      clear hE a; intro g5_10 w101 z102 B_g5_10 hk a hE
      have n_gd_g5_10 : gd ≠ g5_10 := ne_new B_gd z102
      have n_gb_g5_10 : gb ≠ g5_10 := ne_new B_gb z102
      have z_0_g5_10 := Nat.le_trans K_0.kept.1 z102
      have Nb_L_g5_10 : ¬ OB A g5_10 := fun h => by have := (Rv.rdv_ob O_L h).2; omega
      replace B_gd := kp_blk B_gd hk (fun h => h)
      replace B_gb := kp_blk B_gb hk (fun h => h)
      replace O_L := Rv.rdv_keep O_L hk (fun _ _ h => h)
      replace K_0 := K_0.then_ hk (fun _ h => h.elim)
      clear hk
      refine ⟨⟨B_gb, trivial⟩, ?_⟩
      have n_g5_10_gb := Ne.symm n_gb_g5_10
      have n_g5_10_gd := Ne.symm n_gd_g5_10
      exact dr5_7 g5_10 _ a (En.sub hE ⟨rfl, rfl, rfl, rfl, rfl, rfl, rfl, rfl, rfl, rfl, rfl, rfl, rfl, rfl, rfl, rfl, trivial⟩) B_gd B_gb B_g5_10 n_g5_10_gb n_g5_10_gd n_gb_gd z_0_g5_10 Nb_L_g5_10 O_L K_0
    exact all_nil
  have dr5_2 : ∀ (g5_10 : Nat) (W : World) (a : Act), En 52 a [(0, Value.pointer (some ⟨gd, 0, none⟩)), (3, Value.pointer (some ⟨gb, 0, none⟩)), (4, Value.int .i64 (i : Int)), (31, Value.pointer (some ⟨gd, 0, none⟩)), (33, Value.pointer (some ⟨gd, 0, none⟩)), (34, Value.pointer (some ⟨gd, 0, none⟩)), (35, Value.pointer (some ⟨gd, 2, none⟩)), (37, Value.int .i64 (i : Int)), (40, Value.agg #[Value.int .i64 o.1, Value.int .i64 o.2.1, Value.int .i64 o.2.2]), (41, Value.slice (some ⟨g5_10, 0, none⟩) 1 1), (43, Value.pointer (some ⟨gd, 0, none⟩)), (44, Value.pointer (some ⟨gd, 0, none⟩)), (45, Value.pointer (some ⟨gd, 2, none⟩)), (47, Value.int .i64 (i : Int))] → W.heap[gd]? = some (.cells #[Value.int .i64 wt, Value.int .i64 tr, Value.slice A L.length c] 66 (0, 0)) → W.heap[gb]? = some (.cells #[Value.int .i64 o.1, Value.int .i64 o.2.1, Value.int .i64 o.2.2] 70 (0, 0)) → W.heap[g5_10]? = some (.cells #[Value.int .i64 o.1, Value.int .i64 o.2.1, Value.int .i64 o.2.2] 70 (0, 0)) → g5_10 ≠ gb → g5_10 ≠ gd → gb ≠ gd → w.heap.size ≤ g5_10 → ¬ OB A g5_10 → Rv.RdV W A L.length 3 (flO L) → Kp w W (fun k => k = gd) → wpAnyH Try.prog .any (regOf Try.f44 5) QQ (fun W => W.heap[gb]? = some (.cells #[Value.int .i64 o.1, Value.int .i64 o.2.1, Value.int .i64 o.2.2] 70 (0, 0)) ∧ True) 11 #[true, false, true, true, true, false, true, false, false, true, true, false, true, true, true, false, true, false, false, false, false, false] a W := by
    intro g5_10 w103 a hE B_gd B_gb B_g5_10 n_g5_10_gb n_g5_10_gd n_gb_gd z_0_g5_10 Nb_L_g5_10 O_L K_0
    refine d_all (rs := [1, 5, 15]) (by kernel_rfl) rfl ?_
    refine all_cons (d_lit (listed' := #[true, true, true, true, true, false, true, false, false, true, true, false, true, true, true, false, true, false, false, false, false, false]) rfl ?_) ?_
    ·
      refine (s_row (xs := []) (vs := []) (cs := #[]) p44_5_1 hE wn_none rfl Try.underlying64 rfl (by kernel_rfl) ?_)
      clear hE a; intro g5_1 w104 z105 B_g5_1 hk a hE
      have n_gd_g5_1 : gd ≠ g5_1 := ne_new B_gd z105
      have n_gb_g5_1 : gb ≠ g5_1 := ne_new B_gb z105
      have n_g5_10_g5_1 : g5_10 ≠ g5_1 := ne_new B_g5_10 z105
      have z_0_g5_1 := Nat.le_trans K_0.kept.1 z105
      have Nb_L_g5_1 : ¬ OB A g5_1 := fun h => by have := (Rv.rdv_ob O_L h).2; omega
      replace B_gd := kp_blk B_gd hk (fun h => h)
      replace B_gb := kp_blk B_gb hk (fun h => h)
      replace B_g5_10 := kp_blk B_g5_10 hk (fun h => h)
      replace O_L := Rv.rdv_keep O_L hk (fun _ _ h => h)
      replace K_0 := K_0.then_ hk (fun _ h => h.elim)
      clear hk
      refine ⟨⟨B_gb, trivial⟩, ?_⟩
      have n_g5_1_g5_10 := Ne.symm n_g5_10_g5_1
      have n_g5_1_gb := Ne.symm n_gb_g5_1
      have n_g5_1_gd := Ne.symm n_gd_g5_1
      exact dr5_4 g5_1 g5_10 _ a (En.sub hE ⟨rfl, rfl, rfl, rfl, rfl, rfl, rfl, rfl, rfl, rfl, rfl, rfl, rfl, rfl, rfl, trivial⟩) B_gd B_gb B_g5_1 B_g5_10 n_g5_1_g5_10 n_g5_1_gb n_g5_1_gd n_g5_10_gb n_g5_10_gd n_gb_gd z_0_g5_1 z_0_g5_10 Nb_L_g5_1 Nb_L_g5_10 O_L K_0
    refine all_cons (d_lit (listed' := #[true, false, true, true, true, true, true, false, false, true, true, false, true, true, true, false, true, false, false, false, false, false]) rfl ?_) ?_
    ·
      refine (s_still p44_5_5 hE wn_none rfl (st_load1 tA64 rfl ((blk_cell B_gd 2).trans rfl)) ?_)
      clear hE a; intro a hE
      refine ⟨⟨B_gb, trivial⟩, ?_⟩
      refine d_take (v := Value.slice A i c) p44_5_7 ns44_5 (by kernel_rfl) (by kernel_rfl) (fun c a w h => hQ c a _ _ w h) hE wn_none rfl ⟨B_gb, trivial⟩ (fun W hS => (st_sliceH (h := i) Try.underlying64 tS70 rfl rfl (by omega))) (listed' := #[true, false, true, true, true, true, true, true, false, true, true, false, true, true, true, false, true, false, false, false, false, false]) rfl ?_
      clear hE a; intro a hE
      exact dr5_9 g5_10 _ a (En.sub hE ⟨rfl, rfl, rfl, rfl, rfl, rfl, rfl, rfl, rfl, rfl, rfl, rfl, rfl, rfl, rfl, rfl, trivial⟩) B_gd B_gb B_g5_10 n_g5_10_gb n_g5_10_gd n_gb_gd z_0_g5_10 Nb_L_g5_10 O_L K_0
    refine all_cons (d_lit (listed' := #[true, false, true, true, true, false, true, false, false, true, true, false, true, true, true, true, true, false, false, false, false, false]) rfl ?_) ?_
    ·
      refine (s_still p44_5_15 hE wn_none rfl (st_load1 tA64 rfl ((blk_cell B_gd 2).trans rfl)) ?_)
      clear hE a; intro a hE
      refine ⟨⟨B_gb, trivial⟩, ?_⟩
      refine d_take (v := Value.slice AD (L.length - i) (c - i)) p44_5_17 ns44_5 (by kernel_rfl) (by kernel_rfl) (fun c a w h => hQ c a _ _ w h) hE wn_none rfl ⟨B_gb, trivial⟩ (fun W hS => (st_sliceL (lo := i) (A' := AD) Try.underlying64 tS70 rfl rfl (by omega) rfl rfl hAD)) (listed' := #[true, false, true, true, true, false, true, false, false, true, true, false, true, true, true, true, true, true, false, false, false, false]) rfl ?_
      clear hE a; intro a hE
      exact dr5_7 g5_10 _ a (En.sub hE ⟨rfl, rfl, rfl, rfl, rfl, rfl, rfl, rfl, rfl, rfl, rfl, rfl, rfl, rfl, rfl, rfl, trivial⟩) B_gd B_gb B_g5_10 n_g5_10_gb n_g5_10_gd n_gb_gd z_0_g5_10 Nb_L_g5_10 O_L K_0
    exact all_nil
  have dr5_1 : ∀ (g5_1 : Nat) (W : World) (a : Act), En 52 a [(0, Value.pointer (some ⟨gd, 0, none⟩)), (3, Value.pointer (some ⟨gb, 0, none⟩)), (4, Value.int .i64 (i : Int)), (31, Value.pointer (some ⟨gd, 0, none⟩)), (32, Value.slice (some ⟨g5_1, 0, none⟩) 0 0), (33, Value.pointer (some ⟨gd, 0, none⟩)), (34, Value.pointer (some ⟨gd, 0, none⟩)), (35, Value.pointer (some ⟨gd, 2, none⟩)), (37, Value.int .i64 (i : Int)), (40, Value.agg #[Value.int .i64 o.1, Value.int .i64 o.2.1, Value.int .i64 o.2.2]), (43, Value.pointer (some ⟨gd, 0, none⟩)), (44, Value.pointer (some ⟨gd, 0, none⟩)), (45, Value.pointer (some ⟨gd, 2, none⟩)), (47, Value.int .i64 (i : Int))] → W.heap[gd]? = some (.cells #[Value.int .i64 wt, Value.int .i64 tr, Value.slice A L.length c] 66 (0, 0)) → W.heap[gb]? = some (.cells #[Value.int .i64 o.1, Value.int .i64 o.2.1, Value.int .i64 o.2.2] 70 (0, 0)) → W.heap[g5_1]? = some (.cells #[] 70 (0, 0)) → g5_1 ≠ gb → g5_1 ≠ gd → gb ≠ gd → w.heap.size ≤ g5_1 → ¬ OB A g5_1 → Rv.RdV W A L.length 3 (flO L) → Kp w W (fun k => k = gd) → wpAnyH Try.prog .any (regOf Try.f44 5) QQ (fun W => W.heap[gb]? = some (.cells #[Value.int .i64 o.1, Value.int .i64 o.2.1, Value.int .i64 o.2.2] 70 (0, 0)) ∧ True) 11 #[true, true, true, true, true, false, true, false, false, true, false, false, true, true, true, false, true, false, false, false, false, false] a W := by
    intro g5_1 w106 a hE B_gd B_gb B_g5_1 n_g5_1_gb n_g5_1_gd n_gb_gd z_0_g5_1 Nb_L_g5_1 O_L K_0
    refine d_all (rs := [5, 10, 15]) (by kernel_rfl) rfl ?_
    refine all_cons (d_lit (listed' := #[true, true, true, true, true, true, true, false, false, true, false, false, true, true, true, false, true, false, false, false, false, false]) rfl ?_) ?_
    ·
      refine (s_still p44_5_5 hE wn_none rfl (st_load1 tA64 rfl ((blk_cell B_gd 2).trans rfl)) ?_)
      clear hE a; intro a hE
      refine ⟨⟨B_gb, trivial⟩, ?_⟩
      refine d_take (v := Value.slice A i c) p44_5_7 ns44_5 (by kernel_rfl) (by kernel_rfl) (fun c a w h => hQ c a _ _ w h) hE wn_none rfl ⟨B_gb, trivial⟩ (fun W hS => (st_sliceH (h := i) Try.underlying64 tS70 rfl rfl (by omega))) (listed' := #[true, true, true, true, true, true, true, true, false, true, false, false, true, true, true, false, true, false, false, false, false, false]) rfl ?_
      clear hE a; intro a hE
      exact dr5_6 g5_1 _ a (En.sub hE ⟨rfl, rfl, rfl, rfl, rfl, rfl, rfl, rfl, rfl, rfl, rfl, rfl, rfl, rfl, rfl, rfl, trivial⟩) B_gd B_gb B_g5_1 n_g5_1_gb n_g5_1_gd n_gb_gd z_0_g5_1 Nb_L_g5_1 O_L K_0
    refine all_cons (d_lit (listed' := #[true, true, true, true, true, false, true, false, false, true, true, false, true, true, true, false, true, false, false, false, false, false]) rfl ?_) ?_
    ·
      refine (s_row (xs := [(0, Operand.tmp 40)]) (vs := [(0, Value.agg #[Value.int .i64 o.1, Value.int .i64 o.2.1, Value.int .i64 o.2.2])]) (cs := #[Value.int .i64 o.1, Value.int .i64 o.2.1, Value.int .i64 o.2.2]) p44_5_10 hE wn_none rfl Try.underlying64 rfl (by kernel_rfl) ?_)
      clear hE a; intro g5_10 w107 z108 B_g5_10 hk a hE
      have n_gd_g5_10 : gd ≠ g5_10 := ne_new B_gd z108
      have n_gb_g5_10 : gb ≠ g5_10 := ne_new B_gb z108
      have n_g5_1_g5_10 : g5_1 ≠ g5_10 := ne_new B_g5_1 z108
      have z_0_g5_10 := Nat.le_trans K_0.kept.1 z108
      have Nb_L_g5_10 : ¬ OB A g5_10 := fun h => by have := (Rv.rdv_ob O_L h).2; omega
      replace B_gd := kp_blk B_gd hk (fun h => h)
      replace B_gb := kp_blk B_gb hk (fun h => h)
      replace B_g5_1 := kp_blk B_g5_1 hk (fun h => h)
      replace O_L := Rv.rdv_keep O_L hk (fun _ _ h => h)
      replace K_0 := K_0.then_ hk (fun _ h => h.elim)
      clear hk
      refine ⟨⟨B_gb, trivial⟩, ?_⟩
      have n_g5_10_gb := Ne.symm n_gb_g5_10
      have n_g5_10_gd := Ne.symm n_gd_g5_10
      exact dr5_4 g5_1 g5_10 _ a (En.sub hE ⟨rfl, rfl, rfl, rfl, rfl, rfl, rfl, rfl, rfl, rfl, rfl, rfl, rfl, rfl, rfl, trivial⟩) B_gd B_gb B_g5_1 B_g5_10 n_g5_1_g5_10 n_g5_1_gb n_g5_1_gd n_g5_10_gb n_g5_10_gd n_gb_gd z_0_g5_1 z_0_g5_10 Nb_L_g5_1 Nb_L_g5_10 O_L K_0
    refine all_cons (d_lit (listed' := #[true, true, true, true, true, false, true, false, false, true, false, false, true, true, true, true, true, false, false, false, false, false]) rfl ?_) ?_
    ·
      refine (s_still p44_5_15 hE wn_none rfl (st_load1 tA64 rfl ((blk_cell B_gd 2).trans rfl)) ?_)
      clear hE a; intro a hE
      refine ⟨⟨B_gb, trivial⟩, ?_⟩
      refine d_take (v := Value.slice AD (L.length - i) (c - i)) p44_5_17 ns44_5 (by kernel_rfl) (by kernel_rfl) (fun c a w h => hQ c a _ _ w h) hE wn_none rfl ⟨B_gb, trivial⟩ (fun W hS => (st_sliceL (lo := i) (A' := AD) Try.underlying64 tS70 rfl rfl (by omega) rfl rfl hAD)) (listed' := #[true, true, true, true, true, false, true, false, false, true, false, false, true, true, true, true, true, true, false, false, false, false]) rfl ?_
      clear hE a; intro a hE
      exact dr5_8 g5_1 _ a (En.sub hE ⟨rfl, rfl, rfl, rfl, rfl, rfl, rfl, rfl, rfl, rfl, rfl, rfl, rfl, rfl, rfl, rfl, trivial⟩) B_gd B_gb B_g5_1 n_g5_1_gb n_g5_1_gd n_gb_gd z_0_g5_1 Nb_L_g5_1 O_L K_0
    exact all_nil
  have dr5_0 : ∀ (W : World) (a : Act), En 52 a [(0, Value.pointer (some ⟨gd, 0, none⟩)), (3, Value.pointer (some ⟨gb, 0, none⟩)), (4, Value.int .i64 (i : Int)), (31, Value.pointer (some ⟨gd, 0, none⟩)), (33, Value.pointer (some ⟨gd, 0, none⟩)), (34, Value.pointer (some ⟨gd, 0, none⟩)), (35, Value.pointer (some ⟨gd, 2, none⟩)), (37, Value.int .i64 (i : Int)), (40, Value.agg #[Value.int .i64 o.1, Value.int .i64 o.2.1, Value.int .i64 o.2.2]), (43, Value.pointer (some ⟨gd, 0, none⟩)), (44, Value.pointer (some ⟨gd, 0, none⟩)), (45, Value.pointer (some ⟨gd, 2, none⟩)), (47, Value.int .i64 (i : Int))] → W.heap[gd]? = some (.cells #[Value.int .i64 wt, Value.int .i64 tr, Value.slice A L.length c] 66 (0, 0)) → W.heap[gb]? = some (.cells #[Value.int .i64 o.1, Value.int .i64 o.2.1, Value.int .i64 o.2.2] 70 (0, 0)) → Rv.RdV W A L.length 3 (flO L) → Kp w W (fun k => k = gd) → wpAnyH Try.prog .any (regOf Try.f44 5) QQ (fun W => W.heap[gb]? = some (.cells #[Value.int .i64 o.1, Value.int .i64 o.2.1, Value.int .i64 o.2.2] 70 (0, 0)) ∧ True) 12 #[true, false, true, true, true, false, true, false, false, true, false, false, true, true, true, false, true, false, false, false, false, false] a W := by
    intro w109 a hE B_gd B_gb O_L K_0
    refine d_all (rs := [1, 5, 10, 15]) (by kernel_rfl) rfl ?_
    refine all_cons (d_lit (listed' := #[true, true, true, true, true, false, true, false, false, true, false, false, true, true, true, false, true, false, false, false, false, false]) rfl ?_) ?_
    ·
      refine (s_row (xs := []) (vs := []) (cs := #[]) p44_5_1 hE wn_none rfl Try.underlying64 rfl (by kernel_rfl) ?_)
      clear hE a; intro g5_1 w110 z111 B_g5_1 hk a hE
      have n_gd_g5_1 : gd ≠ g5_1 := ne_new B_gd z111
      have n_gb_g5_1 : gb ≠ g5_1 := ne_new B_gb z111
      have z_0_g5_1 := Nat.le_trans K_0.kept.1 z111
      have Nb_L_g5_1 : ¬ OB A g5_1 := fun h => by have := (Rv.rdv_ob O_L h).2; omega
      replace B_gd := kp_blk B_gd hk (fun h => h)
      replace B_gb := kp_blk B_gb hk (fun h => h)
      replace O_L := Rv.rdv_keep O_L hk (fun _ _ h => h)
      replace K_0 := K_0.then_ hk (fun _ h => h.elim)
      clear hk
      refine ⟨⟨B_gb, trivial⟩, ?_⟩
      have n_g5_1_gb := Ne.symm n_gb_g5_1
      have n_g5_1_gd := Ne.symm n_gd_g5_1
      have n_gb_gd := Ne.symm n_gd_gb
      exact dr5_1 g5_1 _ a (En.sub hE ⟨rfl, rfl, rfl, rfl, rfl, rfl, rfl, rfl, rfl, rfl, rfl, rfl, rfl, rfl, trivial⟩) B_gd B_gb B_g5_1 n_g5_1_gb n_g5_1_gd n_gb_gd z_0_g5_1 Nb_L_g5_1 O_L K_0
    refine all_cons (d_lit (listed' := #[true, false, true, true, true, true, true, false, false, true, false, false, true, true, true, false, true, false, false, false, false, false]) rfl ?_) ?_
    ·
      refine (s_still p44_5_5 hE wn_none rfl (st_load1 tA64 rfl ((blk_cell B_gd 2).trans rfl)) ?_)
      clear hE a; intro a hE
      refine ⟨⟨B_gb, trivial⟩, ?_⟩
      refine d_take (v := Value.slice A i c) p44_5_7 ns44_5 (by kernel_rfl) (by kernel_rfl) (fun c a w h => hQ c a _ _ w h) hE wn_none rfl ⟨B_gb, trivial⟩ (fun W hS => (st_sliceH (h := i) Try.underlying64 tS70 rfl rfl (by omega))) (listed' := #[true, false, true, true, true, true, true, true, false, true, false, false, true, true, true, false, true, false, false, false, false, false]) rfl ?_
      clear hE a; intro a hE
      have n_gb_gd := Ne.symm n_gd_gb
      exact dr5_5 _ a (En.sub hE ⟨rfl, rfl, rfl, rfl, rfl, rfl, rfl, rfl, rfl, rfl, rfl, rfl, rfl, rfl, rfl, trivial⟩) B_gd B_gb n_gb_gd O_L K_0
    refine all_cons (d_lit (listed' := #[true, false, true, true, true, false, true, false, false, true, true, false, true, true, true, false, true, false, false, false, false, false]) rfl ?_) ?_
    ·
      refine (s_row (xs := [(0, Operand.tmp 40)]) (vs := [(0, Value.agg #[Value.int .i64 o.1, Value.int .i64 o.2.1, Value.int .i64 o.2.2])]) (cs := #[Value.int .i64 o.1, Value.int .i64 o.2.1, Value.int .i64 o.2.2]) p44_5_10 hE wn_none rfl Try.underlying64 rfl (by kernel_rfl) ?_)
      clear hE a; intro g5_10 w112 z113 B_g5_10 hk a hE
      have n_gd_g5_10 : gd ≠ g5_10 := ne_new B_gd z113
      have n_gb_g5_10 : gb ≠ g5_10 := ne_new B_gb z113
      have z_0_g5_10 := Nat.le_trans K_0.kept.1 z113
      have Nb_L_g5_10 : ¬ OB A g5_10 := fun h => by have := (Rv.rdv_ob O_L h).2; omega
      replace B_gd := kp_blk B_gd hk (fun h => h)
      replace B_gb := kp_blk B_gb hk (fun h => h)
      replace O_L := Rv.rdv_keep O_L hk (fun _ _ h => h)
      replace K_0 := K_0.then_ hk (fun _ h => h.elim)
      clear hk
      refine ⟨⟨B_gb, trivial⟩, ?_⟩
      have n_g5_10_gb := Ne.symm n_gb_g5_10
      have n_g5_10_gd := Ne.symm n_gd_g5_10
      have n_gb_gd := Ne.symm n_gd_gb
      exact dr5_2 g5_10 _ a (En.sub hE ⟨rfl, rfl, rfl, rfl, rfl, rfl, rfl, rfl, rfl, rfl, rfl, rfl, rfl, rfl, trivial⟩) B_gd B_gb B_g5_10 n_g5_10_gb n_g5_10_gd n_gb_gd z_0_g5_10 Nb_L_g5_10 O_L K_0
    refine all_cons (d_lit (listed' := #[true, false, true, true, true, false, true, false, false, true, false, false, true, true, true, true, true, false, false, false, false, false]) rfl ?_) ?_
    ·
      refine (s_still p44_5_15 hE wn_none rfl (st_load1 tA64 rfl ((blk_cell B_gd 2).trans rfl)) ?_)
      clear hE a; intro a hE
      refine ⟨⟨B_gb, trivial⟩, ?_⟩
      refine d_take (v := Value.slice AD (L.length - i) (c - i)) p44_5_17 ns44_5 (by kernel_rfl) (by kernel_rfl) (fun c a w h => hQ c a _ _ w h) hE wn_none rfl ⟨B_gb, trivial⟩ (fun W hS => (st_sliceL (lo := i) (A' := AD) Try.underlying64 tS70 rfl rfl (by omega) rfl rfl hAD)) (listed' := #[true, false, true, true, true, false, true, false, false, true, false, false, true, true, true, true, true, true, false, false, false, false]) rfl ?_
      clear hE a; intro a hE
      have n_gb_gd := Ne.symm n_gd_gb
      exact dr5_3 _ a (En.sub hE ⟨rfl, rfl, rfl, rfl, rfl, rfl, rfl, rfl, rfl, rfl, rfl, rfl, rfl, rfl, rfl, trivial⟩) B_gd B_gb n_gb_gd O_L K_0
    exact all_nil
  intro w1 hh hk
  replace B_gd := kp_blk B_gd hk (fun h => h)
  replace B_gb := kp_blk B_gb hk (fun h => h)
  replace O_L := Rv.rdv_keep O_L hk (fun _ _ h => h)
  replace K_0 := K_0.then_ hk (fun _ h => h.elim)
  clear hh hk
  refine d_take (v := Value.pointer (some ⟨gd, 0, none⟩)) p44_5_0 ns44_5 (by kernel_rfl) (by kernel_rfl) (fun c a w h => hQ c a _ _ w h) hE wn_none rfl ⟨B_gb, trivial⟩ (fun W hS => (st_move rfl)) (listed' := #[true, false, false, false, false, false, false, false, false, false, false, false, false, false, false, false, false, false, false, false, false, false]) rfl ?_
  clear hE a; intro a hE
  refine d_take (v := Value.pointer (some ⟨gd, 0, none⟩)) p44_5_2 ns44_5 (by kernel_rfl) (by kernel_rfl) (fun c a w h => hQ c a _ _ w h) hE wn_none rfl ⟨B_gb, trivial⟩ (fun W hS => (st_move rfl)) (listed' := #[true, false, true, false, false, false, false, false, false, false, false, false, false, false, false, false, false, false, false, false, false, false]) rfl ?_
  clear hE a; intro a hE
  refine d_take (v := Value.pointer (some ⟨gd, 0, none⟩)) p44_5_3 ns44_5 (by kernel_rfl) (by kernel_rfl) (fun c a w h => hQ c a _ _ w h) hE wn_none rfl ⟨B_gb, trivial⟩ (fun W hS => (st_nil rfl)) (listed' := #[true, false, true, true, false, false, false, false, false, false, false, false, false, false, false, false, false, false, false, false, false, false]) rfl ?_
  clear hE a; intro a hE
  refine d_take (v := Value.pointer (some ⟨gd, 2, none⟩)) p44_5_4 ns44_5 (by kernel_rfl) (by kernel_rfl) (fun c a w h => hQ c a _ _ w h) hE wn_none rfl ⟨B_gb, trivial⟩ (fun W hS => (st_fieldAddr Try.underlying66 rfl tS64 rfl rfl)) (listed' := #[true, false, true, true, true, false, false, false, false, false, false, false, false, false, false, false, false, false, false, false, false, false]) rfl ?_
  clear hE a; intro a hE
  refine d_take (v := Value.int .i64 (i : Int)) p44_5_6 ns44_5 (by kernel_rfl) (by kernel_rfl) (fun c a w h => hQ c a _ _ w h) hE wn_none rfl ⟨B_gb, trivial⟩ (fun W hS => (st_move rfl)) (listed' := #[true, false, true, true, true, false, true, false, false, false, false, false, false, false, false, false, false, false, false, false, false, false]) rfl ?_
  clear hE a; intro a hE
  refine d_take (v := Value.agg #[Value.int .i64 o.1, Value.int .i64 o.2.1, Value.int .i64 o.2.2]) p44_5_9 ns44_5 (by kernel_rfl) (by kernel_rfl) (fun c a w h => hQ c a _ _ w h) hE wn_none rfl ⟨B_gb, trivial⟩ (fun W hS => (st_loadN (off := 0) (k := 3) (vs := [Value.int .i64 o.1, Value.int .i64 o.2.1, Value.int .i64 o.2.2]) tA70 tS70 rfl hS.1 rfl rfl)) (listed' := #[true, false, true, true, true, false, true, false, false, true, false, false, false, false, false, false, false, false, false, false, false, false]) rfl ?_
  clear hE a; intro a hE
  refine d_take (v := Value.pointer (some ⟨gd, 0, none⟩)) p44_5_12 ns44_5 (by kernel_rfl) (by kernel_rfl) (fun c a w h => hQ c a _ _ w h) hE wn_none rfl ⟨B_gb, trivial⟩ (fun W hS => (st_move rfl)) (listed' := #[true, false, true, true, true, false, true, false, false, true, false, false, true, false, false, false, false, false, false, false, false, false]) rfl ?_
  clear hE a; intro a hE
  refine d_take (v := Value.pointer (some ⟨gd, 0, none⟩)) p44_5_13 ns44_5 (by kernel_rfl) (by kernel_rfl) (fun c a w h => hQ c a _ _ w h) hE wn_none rfl ⟨B_gb, trivial⟩ (fun W hS => (st_nil rfl)) (listed' := #[true, false, true, true, true, false, true, false, false, true, false, false, true, true, false, false, false, false, false, false, false, false]) rfl ?_
  clear hE a; intro a hE
  refine d_take (v := Value.pointer (some ⟨gd, 2, none⟩)) p44_5_14 ns44_5 (by kernel_rfl) (by kernel_rfl) (fun c a w h => hQ c a _ _ w h) hE wn_none rfl ⟨B_gb, trivial⟩ (fun W hS => (st_fieldAddr Try.underlying66 rfl tS64 rfl rfl)) (listed' := #[true, false, true, true, true, false, true, false, false, true, false, false, true, true, true, false, false, false, false, false, false, false]) rfl ?_
  clear hE a; intro a hE
  refine d_take (v := Value.int .i64 (i : Int)) p44_5_16 ns44_5 (by kernel_rfl) (by kernel_rfl) (fun c a w h => hQ c a _ _ w h) hE wn_none rfl ⟨B_gb, trivial⟩ (fun W hS => (st_move rfl)) (listed' := #[true, false, true, true, true, false, true, false, false, true, false, false, true, true, true, false, true, false, false, false, false, false]) rfl ?_
  clear hE a; intro a hE
  have n_gb_gd := Ne.symm n_gd_gb
  exact dr5_0 _ a (En.sub hE ⟨rfl, rfl, rfl, rfl, rfl, rfl, rfl, rfl, rfl, rfl, rfl, rfl, rfl, trivial⟩) B_gd B_gb O_L K_0
end Go.Proofs.Ytlmjbmeigclihaa.Ur
