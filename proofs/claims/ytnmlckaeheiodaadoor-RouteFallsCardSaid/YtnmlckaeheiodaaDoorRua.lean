/- Layer 21: Find; All: views by nodes, and the document's. -/
import Derived.Test.YtnmlckaeheiodaaDoorRtt
set_option maxRecDepth 100000
set_option linter.unusedVariables false
set_option linter.unusedSimpArgs false
namespace Go.Proofs.YtnmlckaeheiodaaDoor.Ru
open Go.RowKit Go.Proofs.YtnmlckaeheiodaaDoorW.PrintWords Go.Proofs.YtnmlckaeheiodaaDoor.Ds Go.Proofs.YtnmlckaeheiodaaDoor.Lol Go.Proofs.YtnmlckaeheiodaaDoor.Ra Go.Proofs.YtnmlckaeheiodaaDoor.Rd19 Go.Proofs.YtnmlckaeheiodaaDoor.Rg Go.Proofs.YtnmlckaeheiodaaDoor.Rt
open Go.Proofs.YtnmlckaeheiodaaDoor.Pk (Kp)
open Go.Proofs.YtnmlckaeheiodaaDoor.Mi (st_eqlP x_retS MapI getI putI)
/-- A view that came in: node, preferred, root, routes. -/
abbrev V4 := Int × Int × Bool × List R4
abbrev dV : Kd V4 := Kd.pair (Kd.int .i64) (Kd.pair (Kd.int .i64) (Kd.pair Kd.bool (Kd.slice 61 dR)))
abbrev zV : V4 := (0, 0, false, [])
/-- The program's view: its table by its block. -/
abbrev V5 := Int × Int × Bool × Nat
def encV (x : V5) : Value := .agg #[.int .i64 x.1, .int .i64 x.2.1, .bool x.2.2.1, .pointer (some ⟨x.2.2.2, 0, none⟩)]
abbrev V6 := Int × Int × Bool × Value
def fl6 (x : V6) : List Value := [.int .i64 x.1, .int .i64 x.2.1, .bool x.2.2.1, x.2.2.2]
def fiN : List Int → Int → Int
 | [], _ => -1
 | o :: L, n => if o = n then 0 else if fiN L n = -1 then -1 else fiN L n + 1
theorem fiN_at : ∀ {L : List Int} {n : Int} {i : Nat}, L[i]? = some n → (∀ j p, j < i → L[j]? = some p → p ≠ n) → fiN L n = (i : Int)
 | [], _, _, h, _ => by cases h
 | a :: L, n, 0, h, _ => by
  injection h with h
  unfold fiN; rw [if_pos h]; rfl
 | a :: L, n, i + 1, h, hn => by
  have ih := fiN_at (L := L) (i := i) h (fun j p hj hp => hn (j + 1) p (by omega) hp)
  have hne := hn 0 a (by omega) rfl
  unfold fiN
  rw [if_neg hne, ih, if_neg (by omega)]
  omega
theorem fiN_none {L : List Int} {n : Int} (h : ∀ j p, j < L.length → L[j]? = some p → p ≠ n) : fiN L n = -1 := by
 have h' : ∀ p ∈ L, p ≠ n := fun p hp => by
  obtain ⟨j, hj, e⟩ := List.getElem_of_mem hp
  exact h j p hj (by rw [List.getElem?_eq_getElem hj, e])
 clear h
 induction L with
 | nil => rfl
 | cons a L ih =>
  have hne := h' a (List.mem_cons_self ..)
  unfold fiN
  rw [if_neg hne, ih (fun p hp => h' p (List.mem_cons_of_mem _ hp)), if_pos rfl]
theorem fiN_ge : ∀ (L : List Int) (n : Int), -1 ≤ fiN L n
 | [], _ => by unfold fiN; omega
 | o :: L, n => by unfold fiN; have := fiN_ge L n; split; omega; split <;> omega
theorem fiN_not : ∀ {L : List Int} {n : Int}, ¬ 0 ≤ fiN L n → ∀ p ∈ L, p ≠ n
 | [], _, _, p, hp => absurd hp List.not_mem_nil
 | a :: L, n, h, p, hp => by
  unfold fiN at h
  by_cases ha : a = n
  · rw [if_pos ha] at h; omega
  ·
   rw [if_neg ha] at h
   have hg := fiN_ge L n
   rcases List.mem_cons.1 hp with rfl | hp
   · exact ha
   ·
    refine fiN_not (L := L) ?_ p hp
    split at h <;> omega
theorem fiN_lt : ∀ {L : List Int} {n : Int}, 0 ≤ fiN L n → (fiN L n).toNat < L.length ∧ L[(fiN L n).toNat]? = some n
 | [], _, h => by unfold fiN at h; omega
 | a :: L, n, h => by
  have hg := fiN_ge L n
  unfold fiN at h ⊢
  by_cases ha : a = n
  · rw [if_pos ha]; exact ⟨by simp, by simp [ha]⟩
  ·
   rw [if_neg ha] at h ⊢
   by_cases h1 : fiN L n = -1
   · rw [if_pos h1] at h; omega
   ·
    rw [if_neg h1] at h ⊢
    have ih := fiN_lt (L := L) (n := n) (by omega)
    rw [show (fiN L n + 1).toNat = (fiN L n).toNat + 1 by omega]
    exact ⟨by rw [List.length_cons]; omega, by rw [List.getElem?_cons_succ]; exact ih.2⟩
/-- The views that are kept: each node once. -/
def keepS (acc : List V4) (v : V4) : List V4 := if 0 ≤ fiN (acc.map (·.1)) v.1 then acc else acc ++ [v]
def keepL (ls : List V4) : List V4 := (ls.take 12).foldl keepS []
def Tab (W : World) (g : Nat) (l : List (Int × R4)) : Prop := ∃ gm ck es, W.heap[g]? = some (.cells #[.int .i64 32, .map (some gm)] 79 (0, 0)) ∧ W.heap[gm]? = some (.map es ck) ∧ MapI encR es ck l
/-- The program's views, and what they were made of. -/
def Vs (W : World) : List (Int × V5) → List V4 → Prop
 | [], [] => True
 | p :: l, v :: vs => (p = (v.1, v.1, v.2.1, v.2.2.1, p.2.2.2.2) ∧ Tab W p.2.2.2.2 (allL v.2.2.2)) ∧ Vs W l vs
 | _, _ => False
theorem Vs_snoc {W : World} : ∀ {l : List (Int × V5)} {vs : List V4} {v : V4} {g : Nat}, Vs W l vs → Tab W g (allL v.2.2.2) → Vs W (l ++ [(v.1, v.1, v.2.1, v.2.2.1, g)]) (vs ++ [v])
 | [], [], _, _, _, h => ⟨⟨rfl, h⟩, trivial⟩
 | _ :: _, _ :: _, _, _, h, h2 => ⟨h.1, Vs_snoc h.2 h2⟩
 | [], _ :: _, _, _, h, _ => h.elim
 | _ :: _, [], _, _, h, _ => h.elim
theorem Vs_keys {W : World} : ∀ {l : List (Int × V5)} {vs : List V4}, Vs W l vs → l.map (·.1) = vs.map (·.1)
 | [], [], _ => rfl
 | p :: l, v :: vs, h => by rw [List.map_cons, List.map_cons, Vs_keys h.2, h.1.1]
 | [], _ :: _, h => h.elim
 | _ :: _, [], h => h.elim
theorem v_open {w : World} {v : V4} {l : List Value} (h : Kd.K dV w v l) : ∃ A c, l = [.int .i64 v.1, .int .i64 v.2.1, .bool v.2.2.1, .slice A v.2.2.2.length c] ∧ v.2.2.2.length ≤ c ∧ Kd.C dR w A v.2.2.2.length v.2.2.2 := by
 obtain ⟨c0, d0, rfl, h0, c1, d1, rfl, h1, c2, d2, rfl, h2, A, c, h3, h4, h5⟩ := h
 subst h0; subst h1; subst h2; subst h3
 exact ⟨A, c, rfl, h4, h5⟩
theorem fl6_snoc (os : List V6) (x : V6) : os.flatMap fl6 ++ fl6 x = (os ++ [x]).flatMap fl6 := by rw [List.flatMap_append]; simp
def tri (v : V4) : Int × Int × Bool := (v.1, v.2.1, v.2.2.1)
def tri6 (x : V6) : Int × Int × Bool := (x.1, x.2.1, x.2.2.1)
theorem tri_node {os : List V6} {kp : List V4} (h : os.map tri6 = kp.map tri) : os.map (·.1) = kp.map (·.1) := by
 have := congrArg (List.map (fun x : Int × Int × Bool => x.1)) h
 rw [List.map_map, List.map_map] at this
 exact this
theorem R13_0_l : List.range (regOf Tryd.f13 0).size = [0] := by kernel_rfl
theorem R13_1_l : List.range (regOf Tryd.f13 1).size = [0] := by kernel_rfl
theorem R13_2_l : List.range (regOf Tryd.f13 2).size = [0, 1, 2, 3] := by kernel_rfl
theorem R13_4_l : List.range (regOf Tryd.f13 4).size = [0, 1, 2, 3, 4, 5, 6] := by kernel_rfl
theorem R13_5_l : List.range (regOf Tryd.f13 5).size = [0, 1] := by kernel_rfl
theorem R13_3_l : List.range (regOf Tryd.f13 3).size = [0, 1, 2] := by kernel_rfl
theorem R13_6_l : List.range (regOf Tryd.f13 6).size = [0] := by kernel_rfl
theorem body13 : Tryd.f13.body = some (.seq (.region 0 (regOf Tryd.f13 0) false) (.seq (.seq (.region 1 (regOf Tryd.f13 1) false) (.block 0 (.loop (.seq (.seq (.region 2 (regOf Tryd.f13 2) false) (.cond (Operand.tmp 9) (.skip) (.exit 0))) (.seq (.block 1 (.seq (.region 4 (regOf Tryd.f13 4) false) (.cond (Operand.tmp 18) (.seq (.region 5 (regOf Tryd.f13 5) false) (.ret)) (.skip)))) (.region 3 (regOf Tryd.f13 3) false)))))) (.seq (.region 6 (regOf Tryd.f13 6) false) (.ret)))) := by kernel_rfl
theorem p13_0_0 : pj (regOf Tryd.f13 0) 0 = some (some 4, .assign (.const (.int .i64 0)), 3, none) := by kernel_rfl
theorem p13_1_0 : pj (regOf Tryd.f13 1) 0 = some (some 5, .assign (.const (.int .i64 0)), 3, none) := by kernel_rfl
theorem P13_2 : (List.range (regOf Tryd.f13 2).size).map (pj (regOf Tryd.f13 2)) = [some (some 6, .move (.tmp 5), 3, none), some (some 7, .move (.tmp 0), 44, none), some (some 8, .call { callee := .builtin .len, args := #[.tmp 7], argTypes := #[44] }, 3, none), some (some 9, .binOp .lss 3 (.tmp 6) (.tmp 8) 3, 4, none)] := by kernel_rfl
theorem P13_4 : (List.range (regOf Tryd.f13 4).size).map (pj (regOf Tryd.f13 4)) = [some (some 12, .move (.tmp 0), 44, none), some (some 13, .move (.tmp 5), 3, none), some (some 14, .indexAddr 44 (.tmp 12) (.tmp 13), 0, none), some (some 15, .fieldAddr 24 (.tmp 14) 0, 0, none), some (some 16, .load 3 (.tmp 15), 3, none), some (some 17, .move (.tmp 1), 3, none), some (some 18, .binOp .eql 3 (.tmp 16) (.tmp 17) 3, 4, none)] := by kernel_rfl
theorem tS24 : (Tryd.prog.info? 24).map (·.size) = some 4 := by kernel_rfl
theorem tS3 : (Tryd.prog.info? 3).map (·.size) = some 1 := by kernel_rfl
theorem tA3 : (Tryd.prog.underlying 3).map aggD = some false := by kernel_rfl
theorem P13_5 : (List.range (regOf Tryd.f13 5).size).map (pj (regOf Tryd.f13 5)) = [some (some 19, .move (.tmp 5), 3, none), some (some 4, .assign (.tmp 19), 3, none)] := by kernel_rfl
theorem P13_3 : (List.range (regOf Tryd.f13 3).size).map (pj (regOf Tryd.f13 3)) = [some (some 10, .move (.tmp 5), 3, none), some (some 11, .binOp .add 3 (.tmp 10) (.const (.int .i64 1)) 3, 3, none), some (some 5, .assign (.tmp 11), 3, none)] := by kernel_rfl
theorem p13_6_0 : pj (regOf Tryd.f13 6) 0 = some (some 4, .assign (.const (.int .i64 (-1))), 3, none) := by kernel_rfl
set_option maxHeartbeats 4000000 in
theorem vfind (A : Option Addr) (c : Nat) (os : List V6) (s : Int) (w : World) (hR : Rv.RdV w A os.length 4 (os.flatMap fl6)) (hll : os.length ≤ 1000) : Calls Tryd.prog 13 #[.slice A os.length c, .int .i64 s] w fun e w' => e = .returned (.int .i64 (fiN (os.map (·.1)) s)) ∧ Kp w w' (fun _ => False) := by
 have K_0 := Kp.refl w (fun _ => False)
 have O_L := hR
 refine enter (args := [Value.slice A os.length c, Value.int .i64 s]) (n := 20) Tryd.func13 body13 rfl rfl rfl ?_
 intro a hE
 refine c_reg R13_0_l ?_
 refine q0 p13_0_0 hE (st_assign rfl) ?_; clear hE a; intro a hE
 refine p_nil (x_norm (wp_seq (c_reg R13_1_l ?_)))
 refine q0 p13_1_0 hE (st_assign rfl) ?_; clear hE a; intro a hE
 refine p_nil (x_norm (wp_block ?_))
 refine c_loop (α := Nat) (fun i a W => En 20 a [(0, Value.slice A os.length c), (1, Value.int .i64 s), (5, Value.int .i64 (i : Int))] ∧ i ≤ os.length ∧ (∀ j p, j < i → (os.map (·.1))[j]? = some p → p ≠ s) ∧ Rv.RdV W A os.length 4 (os.flatMap fl6) ∧ Kp w W (fun _ => False)) (fun i => os.length - i) (0) ?_ ?_
 ·
  exact ⟨En.sub hE ⟨rfl, rfl, rfl, trivial⟩, Nat.zero_le _, (fun j p h => absurd h (Nat.not_lt_zero _)), O_L, K_0⟩
 ·
  clear hE a
  rintro i a w1 ⟨hE, hi9, hno, O_L, K_0⟩
  refine wp_seq ?_
  rcases Decidable.em ((i : Int) < (os.length : Int)) with hK1 | hK1
  ·
   refine c_reg R13_2_l ?_
   refine qn hE (rc (pl P13_2 0) (st_move rfl) (rc (pl P13_2 1) (st_move rfl) (rc (pl P13_2 2) (st_len Tryd.underlying44 rfl) (rc (pl P13_2 3) (st_lss (b := true) rfl rfl (decide_eq_true hK1)) rn)))) ?_; clear hE a; intro a hE
   refine p_nil (x_norm ?_)
   refine c_cond (t := true) hE rfl ?_
   refine wp_skip (x_norm (wp_seq (wp_block ?_)))
   obtain ⟨o, hx⟩ : ∃ o, os[i]? = some o := ⟨_, List.getElem?_eq_getElem (by omega)⟩
   have hAeo := (Rv.rdv_elem (fl := fl6) O_L (by decide) (fun _ => rfl) hx).1
   rcases Decidable.em (o.1 = s) with hEQ | hEQ
   ·
    refine c_reg R13_4_l ?_
    refine qn hE (rc (pl P13_4 0) (st_move rfl) (rc (pl P13_4 1) (st_move rfl) (rc (pl P13_4 2) (st_indexAddrR (i := i) (s := 4) Tryd.underlying44 tS24 hAeo rfl rfl (by omega)) (rc (pl P13_4 3) (st_fieldAddrR (off := i * 4) (f0 := 0) (o' := i * 4) Tryd.underlying24 rfl tS3 rfl (by omega) rfl) (rc (pl P13_4 4) (st_loadR1 (off := i * 4) (j := 0) tA3 (Rv.rdv_elem (fl := fl6) O_L (by decide) (fun _ => rfl) hx).2 rfl (by omega) rfl) (rc (pl P13_4 5) (st_move rfl) (rc (pl P13_4 6) (st_eql (b := true) rfl rfl (decide_eq_true hEQ)) rn))))))) ?_; clear hE a; intro a hE
    refine p_nil (x_norm ?_)
    refine c_cond (t := true) hE rfl ?_
    refine c_reg R13_5_l ?_
    refine qn hE (rc (pl P13_5 0) (st_move rfl) (rc (pl P13_5 1) (st_assign rfl) rn)) ?_; clear hE a; intro a hE
    refine p_nil (x_norm (wp_ret (x_retB (x_ret (x_ret (x_retB (x_ret ?_)))))))
    refine ret_one (v := Value.int .i64 (i : Int)) rfl hE (.tmp rfl .nil) ?_
    exact ⟨by rw [fiN_at (i := i) (by rw [List.getElem?_map, hx, ← hEQ]; rfl) hno], K_0⟩
   ·
    refine c_reg R13_4_l ?_
    refine qn hE (rc (pl P13_4 0) (st_move rfl) (rc (pl P13_4 1) (st_move rfl) (rc (pl P13_4 2) (st_indexAddrR (i := i) (s := 4) Tryd.underlying44 tS24 hAeo rfl rfl (by omega)) (rc (pl P13_4 3) (st_fieldAddrR (off := i * 4) (f0 := 0) (o' := i * 4) Tryd.underlying24 rfl tS3 rfl (by omega) rfl) (rc (pl P13_4 4) (st_loadR1 (off := i * 4) (j := 0) tA3 (Rv.rdv_elem (fl := fl6) O_L (by decide) (fun _ => rfl) hx).2 rfl (by omega) rfl) (rc (pl P13_4 5) (st_move rfl) (rc (pl P13_4 6) (st_eql (b := false) rfl rfl (decide_eq_false hEQ)) rn))))))) ?_; clear hE a; intro a hE
    refine p_nil (x_norm ?_)
    refine c_cond (t := false) hE rfl ?_
    refine wp_skip (x_normB (x_norm (c_regL R13_3_l ?_)))
    refine qn hE (rc (pl P13_3 0) (st_move rfl) (rc (pl P13_3 1) (st_add (z := (i : Int) + 1) rfl rfl (wr_i64 _ (by omega) (by omega))) (rc (pl P13_3 2) (st_assign rfl) rn))) ?_; clear hE a; intro a hE
    refine p_nil (x_norm ?_)
    have hno9 : ∀ j p, j < i + 1 → (os.map (·.1))[j]? = some p → p ≠ s := fun j p hj hp => by
     rcases Nat.lt_or_ge j i with q | q
     · exact hno j p q hp
     ·
      obtain rfl : j = i := by omega
      rw [List.getElem?_map, hx] at hp
      injection hp with hp
      rw [← hp]; exact hEQ
    exact ⟨i + 1, by omega, En.sub hE ⟨rfl, rfl, rfl, trivial⟩, by omega, hno9, O_L, K_0⟩
  ·
   refine c_reg R13_2_l ?_
   refine qn hE (rc (pl P13_2 0) (st_move rfl) (rc (pl P13_2 1) (st_move rfl) (rc (pl P13_2 2) (st_len Tryd.underlying44 rfl) (rc (pl P13_2 3) (st_lss (b := false) rfl rfl (decide_eq_false hK1)) rn)))) ?_; clear hE a; intro a hE
   refine p_nil (x_norm ?_)
   refine c_cond (t := false) hE rfl ?_
   refine wp_exit (x_exit (x_exit ?_))
   obtain rfl : i = os.length := by omega
   have hrn := fiN_none (L := os.map (·.1)) (n := s) (fun j p hj hp => hno j p (by rw [List.length_map] at hj; exact hj) hp)
   refine x_in (x_norm (c_reg R13_6_l ?_))
   refine q0 p13_6_0 hE (st_assign rfl) ?_; clear hE a; intro a hE
   refine p_nil (x_norm (wp_ret ?_))
   refine ret_one (v := Value.int .i64 (-1)) rfl hE (.tmp rfl .nil) ?_
   exact ⟨by rw [hrn], K_0⟩
theorem R12_0_l : List.range (regOf Tryd.f12 0).size = [0, 1] := by kernel_rfl
theorem R12_1_l : List.range (regOf Tryd.f12 1).size = [0, 1] := by kernel_rfl
theorem R12_2_l : List.range (regOf Tryd.f12 2).size = [0] := by kernel_rfl
theorem R12_3_l : List.range (regOf Tryd.f12 3).size = [0] := by kernel_rfl
theorem R12_4_l : List.range (regOf Tryd.f12 4).size = [0, 1, 2, 3, 4, 5, 6, 7] := by kernel_rfl
theorem R12_6_l : List.range (regOf Tryd.f12 6).size = [0, 1, 2, 3, 4, 5, 6, 7] := by kernel_rfl
theorem R12_7_l : List.range (regOf Tryd.f12 7).size = [0, 1, 2, 3, 4, 5, 6, 7, 8, 9, 10, 11] := by kernel_rfl
theorem R12_9_l : List.range (regOf Tryd.f12 9).size = [0, 1, 2, 3, 4] := by kernel_rfl
theorem R12_5_l : List.range (regOf Tryd.f12 5).size = [0, 1, 2] := by kernel_rfl
theorem R12_10_l : List.range (regOf Tryd.f12 10).size = [0, 1, 2, 3] := by kernel_rfl
theorem body12 : Tryd.f12.body = some (.seq (.region 0 (regOf Tryd.f12 0) false) (.seq (.region 1 (regOf Tryd.f12 1) false) (.seq (.region 2 (regOf Tryd.f12 2) false) (.seq (.seq (.region 3 (regOf Tryd.f12 3) false) (.block 0 (.loop (.seq (.seq (.region 4 (regOf Tryd.f12 4) false) (.cond (Operand.tmp 17) (.skip) (.exit 0))) (.seq (.block 1 (.seq (.seq (.region 6 (regOf Tryd.f12 6) false) (.cond (Operand.tmp 27) (.exit 1) (.skip))) (.seq (.region 7 (regOf Tryd.f12 7) false) (.seq (.region 8 (regOf Tryd.f12 8) true) (.region 9 (regOf Tryd.f12 9) false))))) (.region 5 (regOf Tryd.f12 5) false)))))) (.seq (.region 10 (regOf Tryd.f12 10) false) (.ret)))))) := by kernel_rfl
theorem P12_0 : (List.range (regOf Tryd.f12 0).size).map (pj (regOf Tryd.f12 0)) = [some (some 2, .assign (.const (.map none)), 46, none), some (some 3, .assign (.const (.slice none 0 0)), 44, none)] := by kernel_rfl
theorem P12_1 : (List.range (regOf Tryd.f12 1).size).map (pj (regOf Tryd.f12 1)) = [some (some 9, .makeMap 46 none, 46, none), some (some 4, .assign (.tmp 9), 46, none)] := by kernel_rfl
theorem p12_2_0 : pj (regOf Tryd.f12 2) 0 = some (some 5, .assign (.const (.slice none 0 0)), 44, none) := by kernel_rfl
theorem p12_3_0 : pj (regOf Tryd.f12 3) 0 = some (some 6, .assign (.const (.int .i64 0)), 3, none) := by kernel_rfl
theorem P12_4 : (List.range (regOf Tryd.f12 4).size).map (pj (regOf Tryd.f12 4)) = [some (some 10, .move (.tmp 6), 3, none), some (some 11, .move (.tmp 0), 44, none), some (some 12, .call { callee := .builtin .len, args := #[.tmp 11], argTypes := #[44] }, 3, none), some (some 13, .binOp .lss 3 (.tmp 10) (.tmp 12) 3, 4, none), some (some 14, .move (.tmp 13), 4, none), some (some 15, .move (.tmp 6), 3, some (4, true)), some (some 16, .binOp .lss 3 (.tmp 15) (.const (.int .i64 12)) 3, 4, some (4, true)), some (some 17, .pick (.tmp 14) (.tmp 16) (.const (.bool false)), 4, none)] := by kernel_rfl
theorem g12_4_4 : dstOf (regOf Tryd.f12 4) 4 = some 14 := by kernel_rfl
theorem P12_6 : (List.range (regOf Tryd.f12 6).size).map (pj (regOf Tryd.f12 6)) = [some (some 20, .move (.tmp 5), 44, none), some (some 21, .move (.tmp 0), 44, none), some (some 22, .move (.tmp 6), 3, none), some (some 23, .indexAddr 44 (.tmp 21) (.tmp 22), 0, none), some (some 24, .fieldAddr 24 (.tmp 23) 0, 0, none), some (some 25, .load 3 (.tmp 24), 3, none), some (some 26, .call { callee := .value (.func 13), args := #[.tmp 20, .tmp 25], argTypes := #[44, 3] }, 3, none), some (some 27, .binOp .geq 3 (.tmp 26) (.const (.int .i64 0)) 3, 4, none)] := by kernel_rfl
theorem cl13 : callable Tryd.f13 = true := by kernel_rfl
theorem P12_5 : (List.range (regOf Tryd.f12 5).size).map (pj (regOf Tryd.f12 5)) = [some (some 18, .move (.tmp 6), 3, none), some (some 19, .binOp .add 3 (.tmp 18) (.const (.int .i64 1)) 3, 3, none), some (some 6, .assign (.tmp 19), 3, none)] := by kernel_rfl
theorem P12_7 : (List.range (regOf Tryd.f12 7).size).map (pj (regOf Tryd.f12 7)) = [some (some 29, .move (.tmp 0), 44, none), some (some 30, .move (.tmp 6), 3, none), some (some 31, .indexAddr 44 (.tmp 29) (.tmp 30), 0, none), some (some 32, .load 24 (.tmp 31), 24, none), some (some 33, .call { callee := .value (.func 5), args := #[.tmp 32], argTypes := #[24] }, 28, none), some (some 28, .move (.tmp 33), 28, none), some (some 34, .extract (.tmp 28) 0, 27, none), some (some 35, .extract (.tmp 28) 1, 24, none), some (some 7, .alloc 27, 0, none), some (some 8, .alloc 24, 0, none), some (none, .store 27 (.tmp 7) (.tmp 34), 0, none), some (none, .store 24 (.tmp 8) (.tmp 35), 0, none)] := by kernel_rfl
theorem tA24 : (Tryd.prog.underlying 24).map aggD = some true := by kernel_rfl
theorem cl5 : callable Tryd.f5 = true := by kernel_rfl
theorem tZ27 : (Tryd.prog.info? 27).bind (·.zero) = some (Value.agg #[Value.int .i64 0, Value.int .i64 0, Value.bool false, Value.pointer none]) := by kernel_rfl
theorem tZ24 : (Tryd.prog.info? 24).bind (·.zero) = some (Value.agg #[Value.int .i64 0, Value.int .i64 0, Value.bool false, Value.slice none 0 0]) := by kernel_rfl
theorem tS27 : (Tryd.prog.info? 27).map (·.size) = some 4 := by kernel_rfl
theorem ns12_8 : Region.noSelect (regOf Tryd.f12 8) = true := by kernel_rfl
theorem p12_8_0 : pj (regOf Tryd.f12 8) 0 = some (some 36, .move (.tmp 4), 46, none) := by kernel_rfl
theorem p12_8_1 : pj (regOf Tryd.f12 8) 1 = some (some 37, .move (.tmp 0), 44, none) := by kernel_rfl
theorem p12_8_2 : pj (regOf Tryd.f12 8) 2 = some (some 38, .move (.tmp 6), 3, none) := by kernel_rfl
theorem p12_8_3 : pj (regOf Tryd.f12 8) 3 = some (some 39, .indexAddr 44 (.tmp 37) (.tmp 38), 0, none) := by kernel_rfl
theorem p12_8_4 : pj (regOf Tryd.f12 8) 4 = some (some 40, .fieldAddr 24 (.tmp 39) 0, 0, none) := by kernel_rfl
theorem p12_8_5 : pj (regOf Tryd.f12 8) 5 = some (some 41, .load 3 (.tmp 40), 3, none) := by kernel_rfl
theorem p12_8_6 : pj (regOf Tryd.f12 8) 6 = some (some 42, .load 27 (.tmp 7), 27, none) := by kernel_rfl
theorem tA27 : (Tryd.prog.underlying 27).map aggD = some true := by kernel_rfl
theorem p12_8_7 : pj (regOf Tryd.f12 8) 7 = some (none, .mapUpdate 46 (.tmp 36) (.tmp 41) (.tmp 42), 0, none) := by kernel_rfl
theorem P12_9 : (List.range (regOf Tryd.f12 9).size).map (pj (regOf Tryd.f12 9)) = [some (some 43, .move (.tmp 5), 44, none), some (some 44, .load 24 (.tmp 8), 24, none), some (some 45, .buildSlice 44 1 #[(0, .tmp 44)], 44, none), some (some 46, .call { callee := .builtin .append, args := #[.tmp 43, .tmp 45], argTypes := #[44, 44] }, 44, none), some (some 5, .assign (.tmp 46), 44, none)] := by kernel_rfl
theorem eD24 : elemD Tryd.prog 24 = some (4, 4, 48) := by kernel_rfl
theorem P12_10 : (List.range (regOf Tryd.f12 10).size).map (pj (regOf Tryd.f12 10)) = [some (some 47, .move (.tmp 4), 46, none), some (some 48, .move (.tmp 5), 44, none), some (some 2, .assign (.tmp 47), 46, none), some (some 3, .assign (.tmp 48), 44, none)] := by kernel_rfl
set_option maxHeartbeats 4000000 in
theorem all_any (A : Option Addr) (c : Nat) (ls : List V4) (hwf : ∀ v ∈ ls, (Lit.int .i64 v.1).wf = true ∧ v.2.2.2.length ≤ 9223372036854775807) (w : World) (hFA : ∀ W', Kp w W' (fun _ => False) → Kd.C dV W' A ls.length ls) : Calls Tryd.prog 12 #[.slice A ls.length c] w fun e w' => ∃ (gV ck : Nat) (es : Array MapEntry) (lV : List (Int × V5)) (os : List V6) (A' : Option Addr) (c' : Nat), e = .returned (.tuple #[.map (some gV), .slice A' os.length c']) ∧ w'.heap[gV]? = some (.map es ck) ∧ MapI encV es ck lV ∧ (∀ W', Kp w' W' (fun _ => False) → Vs W' lV (keepL ls)) ∧ Rv.RdV w' A' os.length 4 (os.flatMap fl6) ∧ os.map tri6 = (keepL ls).map tri ∧ (∀ k, OB A' k → w.heap.size ≤ k) ∧ os.length ≤ 12 ∧ w.heap.size ≤ gV ∧ Kp w w' (fun _ => False) := by
 have K_0 := Kp.refl w (fun _ => False)
 refine enter (args := [Value.slice A ls.length c]) (n := 49) Tryd.func12 body12 rfl rfl rfl ?_
 intro a hE
 refine c_reg R12_0_l ?_
 refine qn hE (rc (pl P12_0 0) (st_assign rfl) (rc (pl P12_0 1) (st_assign rfl) rn)) ?_; clear hE a; intro a hE
 refine p_nil (x_norm (c_reg R12_1_l ?_))
 refine p_cons (Mi.s_makeMap (pl P12_1 0) hE wn_none rfl ?_)
 clear hE a; intro g1 w2 z3 B_g1 hk a hE
 have z_0_g1 := Nat.le_trans K_0.kept.1 z3
 replace K_0 := K_0.then_ hk (fun _ h => h.elim)
 clear hk
 refine q0 (pl P12_1 1) hE (st_assign rfl) ?_; clear hE a; intro a hE
 refine p_nil (x_norm (c_reg R12_2_l ?_))
 refine q0 p12_2_0 hE (st_assign rfl) ?_; clear hE a; intro a hE
 refine p_nil (x_norm (wp_seq (c_reg R12_3_l ?_)))
 refine q0 p12_3_0 hE (st_assign rfl) ?_; clear hE a; intro a hE
 refine p_nil (x_norm (wp_block ?_))
 have O_out := own_none w2 w.heap.size 24 4
 have Nb_out_g1 : ¬ OB none g1 := ob_nil
 have Z_0_out : ∀ k, OB none k → (fun _ => False) k ∨ w.heap.size ≤ k := fun k h => absurd h ob_nil
 refine c_loop (α := Nat) (fun i a W => ∃ (A_out : Option Addr) (c_out : Nat) (n_out : Nat), ∃ (es9 : Array MapEntry), ∃ (ck9 : Nat), ∃ (lV : List (Int × V5)), ∃ (os : List V6), ∃ (kp : List V4), En 49 a [(0, Value.slice A ls.length c), (2, Value.map none), (3, Value.slice none 0 0), (4, Value.map (some g1)), (6, Value.int .i64 (i : Int)), (5, Value.slice A_out n_out c_out)] ∧ MapI encV es9 ck9 lV ∧ ((∀ W', Kp W W' (fun k => k = g1 ∨ OB A_out k) → Vs W' lV kp)) ∧ n_out = os.length ∧ kp = (ls.take i).foldl keepS [] ∧ os.map tri6 = kp.map tri ∧ (∀ u ∈ os.flatMap fl6, u.oneCell' = true) ∧ os.length ≤ i ∧ (i ≤ ls.length ∧ i ≤ 12) ∧ W.heap[g1]? = some (.map es9 ck9) ∧ W.ownsRow w.heap.size 24 4 (.slice A_out n_out c_out) n_out (os.flatMap fl6) ∧ ¬ OB A_out g1 ∧ (∀ k, OB A_out k → (fun _ => False) k ∨ w.heap.size ≤ k) ∧ Kp w W (fun _ => False)) (fun i => ls.length - i) (0) ?_ ?_
 ·
  exact ⟨none, 0, 0, #[], 0, [], [], [], En.sub hE ⟨rfl, rfl, rfl, rfl, rfl, rfl, trivial⟩, (Mi.mapi_nil encV 0), (fun _ _ => trivial), rfl, rfl, rfl, (fun u h => absurd h List.not_mem_nil), Nat.le_refl _, ⟨Nat.zero_le _, Nat.zero_le _⟩, B_g1, O_out, Nb_out_g1, Z_0_out, K_0⟩
 ·
  clear hE a
  rintro i a w4 ⟨A_out, c_out, n_out, es9, ck9, lV, os, kp, hE, MF9, FV, hn_out, hkp, hos, hon, hcnt, hi9, B_g1, O_out, Nb_out_g1, Z_0_out, K_0⟩
  refine wp_seq (c_reg R12_4_l ?_)
  subst hn_out
  refine qn hE (rc (pl P12_4 0) (st_move rfl) (rc (pl P12_4 1) (st_move rfl) (rc (pl P12_4 2) (st_len Tryd.underlying44 rfl) rn))) ?_; clear hE a; intro a hE
  rcases Decidable.em ((i : Int) < (ls.length : Int)) with hc5 | hc5
  ·
   refine qn hE (rg (v := Value.bool true) (pl P12_4 3) wn_none (st_lss rfl rfl (decide_eq_true hc5)) (rc (pl P12_4 4) (st_move rfl) (rg (pl P12_4 5) (wn_some g12_4_4 rfl rfl) (st_move rfl) rn))) ?_; clear hE a; intro a hE
   rcases Decidable.em ((i : Int) < 12) with hc6 | hc6
   ·
    refine qn hE (rg (v := Value.bool true) (pl P12_4 6) (wn_some g12_4_4 rfl rfl) (st_lss rfl rfl (decide_eq_true hc6)) (rc (pl P12_4 7) (st_pick rfl rfl) rn)) ?_; clear hE a; intro a hE
    refine p_nil (x_norm ?_)
    refine c_cond (t := true) hE rfl ?_
    refine wp_skip (x_norm (wp_seq (wp_block (wp_seq (c_reg R12_6_l ?_)))))
    have K_s7 := Kp.refl w4 (fun k => k = g1 ∨ OB A_out k)
    have Z_s7_out : ∀ k, OB A_out k → (fun k => k = g1 ∨ OB A_out k) k ∨ w4.heap.size ≤ k := fun k h => .inl (Or.inr h)
    obtain ⟨hAe, cce, hKe, hce⟩ := C_elem (i := i) (hFA w (Kp.refl _ _)) zV (show i < ls.length by omega)
    obtain ⟨v, hxv⟩ : ∃ o, ls[i]? = some o := ⟨_, List.getElem?_eq_getElem (by omega)⟩
    have hxe : List.getD ls i zV = v := by rw [List.getD_eq_getElem?_getD, hxv]; rfl
    rw [hxe] at hKe
    obtain ⟨Av, cv, rfl, hlc, hCv⟩ := v_open hKe
    have hlv := hwf v (List.mem_of_getElem? hxv)
    have hlw := hlv.1
    replace hlv := hlv.2
    refine qn hE (rc (pl P12_6 0) (st_move rfl) (rc (pl P12_6 1) (st_move rfl) (rc (pl P12_6 2) (st_move rfl) (rc (pl P12_6 3) (st_indexAddrR (i := i) (s := 4) Tryd.underlying44 tS24 hAe rfl rfl (by omega)) (rc (pl P12_6 4) (st_fieldAddrR (off := i * 4) (f0 := 0) (o' := i * 4) Tryd.underlying24 rfl tS3 rfl (by omega) rfl) (rc (pl P12_6 5) (st_loadR1 (off := i * 4) (j := 0) tA3 (fun j u h => cell_to K_0 (hce j u h)) rfl (by omega) rfl) rn)))))) ?_; clear hE a; intro a hE
    refine p_cons (s_call (xs := [Operand.tmp 20, Operand.tmp 25]) (args := [Value.slice A_out os.length c_out, Value.int .i64 v.1]) (pl P12_6 6) hE wn_none rfl rfl Tryd.func13 cl13 (vfind A_out c_out os v.1 _ (Rv.own_rdv O_out hon) (by omega)) ?_)
    rintro e w8 ⟨rfl, hk⟩
    replace B_g1 := kp_blk B_g1 hk (fun h => h)
    replace O_out := own_keep O_out hk (fun _ _ h => h)
    replace K_0 := K_0.then_ hk (fun _ h => h.elim)
    replace K_s7 := K_s7.then_ hk (fun _ h => h.elim)
    refine ⟨_, rfl, ?_⟩; clear hE a; intro a hE
    rcases Decidable.em (0 ≤ (fiN (os.map (·.1)) v.1)) with hc9 | hc9
    ·
     refine p_cons (s_still (v := Value.bool true) (pl P12_6 7) hE wn_none rfl (st_geq rfl rfl (decide_eq_true hc9)) ?_); clear hE a; intro a hE
     refine p_nil (x_norm ?_)
     refine c_cond (t := true) hE rfl ?_
     refine wp_exit (x_exit (x_in (x_norm (c_regL R12_5_l ?_))))
     refine qn hE (rc (pl P12_5 0) (st_move rfl) (rc (pl P12_5 1) (st_add (z := (i : Int) + 1) rfl rfl (wr_i64 _ (by omega) (by omega))) (rc (pl P12_5 2) (st_assign rfl) rn))) ?_; clear hE a; intro a hE
     refine p_nil (x_norm ?_)
     have hfe : fiN (kp.map (·.1)) v.1 = fiN (os.map (·.1)) v.1 := by rw [tri_node hos]
     have hkp9 : keepS kp v = kp := by unfold keepS; rw [hfe, if_pos hc9]
     have hks9 : (ls.take (i + 1)).foldl keepS [] = keepS kp v := by rw [fold_next _ _ hxv, ← hkp]
     have FV9 : ∀ W', Kp w8 W' (fun k => k = g1 ∨ OB A_out k) → Vs W' lV kp := fun W' hk => FV W' (K_s7.then_ hk (fun k h => h.elim (fun h => .inl (.inl h)) (fun h => Z_s7_out k h)))
     have hkp2 : kp = (ls.take (i + 1)).foldl keepS [] := by rw [hks9, hkp9]
     have hos2 := hos
     have hon2 := hon
     have hcnt9 : os.length ≤ i + 1 := Nat.le_succ_of_le hcnt
     have hn9 : os.length = os.length := rfl
     exact ⟨i + 1, by omega, A_out, c_out, os.length, es9, ck9, lV, os, kp, En.sub hE ⟨rfl, rfl, rfl, rfl, rfl, rfl, trivial⟩, MF9, FV9, hn9, hkp2, hos2, hon2, hcnt9, (by omega), B_g1, O_out, Nb_out_g1, Z_0_out, K_0⟩
    ·
     refine p_cons (s_still (v := Value.bool false) (pl P12_6 7) hE wn_none rfl (st_geq rfl rfl (decide_eq_false hc9)) ?_); clear hE a; intro a hE
     refine p_nil (x_norm ?_)
     refine c_cond (t := false) hE rfl ?_
     refine wp_skip (x_norm (c_reg R12_7_l ?_))
     refine qn hE (rc (pl P12_7 0) (st_move rfl) (rc (pl P12_7 1) (st_move rfl) (rc (pl P12_7 2) (st_indexAddrR (i := i) (s := 4) Tryd.underlying44 tS24 hAe rfl rfl (by omega)) (rc (pl P12_7 3) (st_loadR (off := i * 4) (j := 0) (k := 4) (vs := [Value.int .i64 v.1, Value.int .i64 v.2.1, Value.bool v.2.2.1, Value.slice Av v.2.2.2.length cv]) tA24 tS24 (fun j u h => cell_to K_0 (hce j u h)) rfl rfl (by omega) rfl) rn)))) ?_; clear hE a; intro a hE
     refine p_cons (s_call (xs := [Operand.tmp 32]) (args := [Value.agg #[Value.int .i64 v.1, Value.int .i64 v.2.1, Value.bool v.2.2.1, Value.slice Av v.2.2.2.length cv]]) (pl P12_7 4) hE wn_none rfl rfl Tryd.func5 cl5 (to_any v.1 v.2.1 v.2.2.1 Av cv v.2.2.2 hlv _ (fun W' hk => C_to hCv (K_0.then_ hk (fun _ h => h.elim)))) ?_)
     rintro e w15 ⟨g10, g11, ckm14, esm14, Am14, cm14, rfl, z12, z13, n_g10_g11, B_g10, B_g11, MFm14, hRd9, hle10, _, hk⟩
     have n_g1_g10 : g1 ≠ g10 := ne_new B_g1 z12
     have z_0_g10 := Nat.le_trans K_0.kept.1 z12
     have z_s7_g10 := Nat.le_trans K_s7.kept.1 z12
     have Nb_out_g10 : ¬ OB A_out g10 := fun h => by have := (own_ob O_out h).2; omega
     have n_g1_g11 : g1 ≠ g11 := ne_new B_g1 z13
     have z_0_g11 := Nat.le_trans K_0.kept.1 z13
     have z_s7_g11 := Nat.le_trans K_s7.kept.1 z13
     have Nb_out_g11 : ¬ OB A_out g11 := fun h => by have := (own_ob O_out h).2; omega
     replace B_g1 := kp_blk B_g1 hk (fun h => h)
     replace O_out := own_keep O_out hk (fun _ _ h => h)
     replace K_0 := K_0.then_ hk (fun _ h => h.elim)
     replace K_s7 := K_s7.then_ hk (fun _ h => h.elim)
     refine ⟨_, rfl, ?_⟩; clear hE a; intro a hE
     refine qn hE (rc (pl P12_7 5) (st_move rfl) (rc (pl P12_7 6) (st_extract rfl rfl) (rc (pl P12_7 7) (st_extract rfl rfl) rn))) ?_; clear hE a; intro a hE
     refine p_cons (s_alloc (pl P12_7 8) hE wn_none rfl tZ27 ?_)
     clear hE a; intro g16 w17 z18 B_g16 hk a hE
     replace B_g16 : w17.heap[g16]? = some (.cells #[Value.int .i64 0, Value.int .i64 0, Value.bool false, Value.pointer none] 27 (0, 0)) := B_g16
     have n_g1_g16 : g1 ≠ g16 := ne_new B_g1 z18
     have n_g10_g16 : g10 ≠ g16 := ne_new B_g10 z18
     have n_g11_g16 : g11 ≠ g16 := ne_new B_g11 z18
     have z_0_g16 := Nat.le_trans K_0.kept.1 z18
     have z_s7_g16 := Nat.le_trans K_s7.kept.1 z18
     have Nb_out_g16 : ¬ OB A_out g16 := fun h => by have := (own_ob O_out h).2; omega
     replace B_g1 := kp_blk B_g1 hk (fun h => h)
     replace B_g10 := kp_blk B_g10 hk (fun h => h)
     replace B_g11 := kp_blk B_g11 hk (fun h => h)
     replace O_out := own_keep O_out hk (fun _ _ h => h)
     replace K_0 := K_0.then_ hk (fun _ h => h.elim)
     replace K_s7 := K_s7.then_ hk (fun _ h => h.elim)
     clear hk
     refine p_cons (s_alloc (pl P12_7 9) hE wn_none rfl tZ24 ?_)
     clear hE a; intro g19 w20 z21 B_g19 hk a hE
     replace B_g19 : w20.heap[g19]? = some (.cells #[Value.int .i64 0, Value.int .i64 0, Value.bool false, Value.slice none 0 0] 24 (0, 0)) := B_g19
     have n_g1_g19 : g1 ≠ g19 := ne_new B_g1 z21
     have n_g10_g19 : g10 ≠ g19 := ne_new B_g10 z21
     have n_g11_g19 : g11 ≠ g19 := ne_new B_g11 z21
     have n_g16_g19 : g16 ≠ g19 := ne_new B_g16 z21
     have z_0_g19 := Nat.le_trans K_0.kept.1 z21
     have z_s7_g19 := Nat.le_trans K_s7.kept.1 z21
     have Nb_out_g19 : ¬ OB A_out g19 := fun h => by have := (own_ob O_out h).2; omega
     replace B_g1 := kp_blk B_g1 hk (fun h => h)
     replace B_g10 := kp_blk B_g10 hk (fun h => h)
     replace B_g11 := kp_blk B_g11 hk (fun h => h)
     replace B_g16 := kp_blk B_g16 hk (fun h => h)
     replace O_out := own_keep O_out hk (fun _ _ h => h)
     replace K_0 := K_0.then_ hk (fun _ h => h.elim)
     replace K_s7 := K_s7.then_ hk (fun _ h => h.elim)
     clear hk
     refine p_cons (s_store (off := 0) (k := 4) (cs' := #[Value.int .i64 v.1, Value.int .i64 v.2.1, Value.bool v.2.2.1, Value.pointer (some ⟨g10, 0, none⟩)]) (pl P12_7 10) hE wn_none tS27 rfl rfl rfl rfl B_g16 (Nat.le_of_ble_eq_true rfl) rfl ?_)
     intro w22 B_g16' hk
     replace B_g1 := kp_blk B_g1 hk n_g1_g16
     replace B_g10 := kp_blk B_g10 hk n_g10_g16
     replace B_g11 := kp_blk B_g11 hk n_g11_g16
     replace B_g19 := kp_blk B_g19 hk (Ne.symm n_g16_g19)
     replace O_out := own_keep O_out hk (fun k hk2 h2 => Nb_out_g16 (by rw [show k = g16 from h2] at hk2; exact hk2))
     replace K_0 := K_0.then_ hk (fun k h => by rw [show k = g16 from h]; exact Or.inr z_0_g16)
     replace K_s7 := K_s7.then_ hk (fun k h => by rw [show k = g16 from h]; exact Or.inr z_s7_g16)
     replace B_g16 := B_g16'
     clear hk
     refine p_cons (s_store (off := 0) (k := 4) (cs' := #[Value.int .i64 v.1, Value.int .i64 v.2.1, Value.bool v.2.2.1, Value.slice Am14 ((allR v.2.2.2).length) cm14]) (pl P12_7 11) hE wn_none tS24 rfl rfl rfl rfl B_g19 (Nat.le_of_ble_eq_true rfl) rfl ?_)
     intro w23 B_g19' hk
     replace B_g1 := kp_blk B_g1 hk n_g1_g19
     replace B_g10 := kp_blk B_g10 hk n_g10_g19
     replace B_g11 := kp_blk B_g11 hk n_g11_g19
     replace B_g16 := kp_blk B_g16 hk n_g16_g19
     replace O_out := own_keep O_out hk (fun k hk2 h2 => Nb_out_g19 (by rw [show k = g19 from h2] at hk2; exact hk2))
     replace K_0 := K_0.then_ hk (fun k h => by rw [show k = g19 from h]; exact Or.inr z_0_g19)
     replace K_s7 := K_s7.then_ hk (fun k h => by rw [show k = g19 from h]; exact Or.inr z_s7_g19)
     replace B_g19 := B_g19'
     clear hk
     refine p_nil (x_norm ?_)
     refine c_drawS (S := fun W => W.heap[g16]? = some (.cells #[Value.int .i64 v.1, Value.int .i64 v.2.1, Value.bool v.2.2.1, Value.pointer (some ⟨g10, 0, none⟩)] 27 (0, 0)) ∧ (∀ j u, ([Value.int .i64 v.1, Value.int .i64 v.2.1, Value.bool v.2.2.1, Value.slice Av v.2.2.2.length cv])[j]? = some u → W.cell? (ea A (i * 4 + j)) = some u) ∧ True) rfl rfl (listed := #[false, false, false, false, false, false, false, false]) rfl ?_
     intro w24 hh hk
     replace B_g1 := kp_blk B_g1 hk (fun h => h)
     replace B_g10 := kp_blk B_g10 hk (fun h => h)
     replace B_g11 := kp_blk B_g11 hk (fun h => h)
     replace B_g16 := kp_blk B_g16 hk (fun h => h)
     replace B_g19 := kp_blk B_g19 hk (fun h => h)
     replace O_out := own_keep O_out hk (fun _ _ h => h)
     replace K_0 := K_0.then_ hk (fun _ h => h.elim)
     replace K_s7 := K_s7.then_ hk (fun _ h => h.elim)
     clear hh hk
     have hS9 : w24.heap[g16]? = some (.cells #[Value.int .i64 v.1, Value.int .i64 v.2.1, Value.bool v.2.2.1, Value.pointer (some ⟨g10, 0, none⟩)] 27 (0, 0)) ∧ (∀ j u, ([Value.int .i64 v.1, Value.int .i64 v.2.1, Value.bool v.2.2.1, Value.slice Av v.2.2.2.length cv])[j]? = some u → w24.cell? (ea A (i * 4 + j)) = some u) ∧ True := ⟨B_g16, (fun j u h => cell_to K_0 (hce j u h)), trivial⟩
     refine Rv.dq (v := Value.map (some g1)) p12_8_0 ns12_8 hE wn_none hS9 (fun W hS => (st_move rfl)) ?_; clear hE a; intro a hE
     refine Rv.dq (v := Value.slice A ls.length c) p12_8_1 ns12_8 hE wn_none hS9 (fun W hS => (st_move rfl)) ?_; clear hE a; intro a hE
     refine Rv.dq (v := Value.int .i64 (i : Int)) p12_8_2 ns12_8 hE wn_none hS9 (fun W hS => (st_move rfl)) ?_; clear hE a; intro a hE
     refine Rv.dq (v := Value.pointer (some (ea A (i * 4)))) p12_8_3 ns12_8 hE wn_none hS9 (fun W hS => (st_indexAddrR (i := i) (s := 4) Tryd.underlying44 tS24 hAe rfl rfl (by omega))) ?_; clear hE a; intro a hE
     refine Rv.dq (v := Value.pointer (some (ea A (i * 4)))) p12_8_4 ns12_8 hE wn_none hS9 (fun W hS => (st_fieldAddrR (off := i * 4) (f0 := 0) (o' := i * 4) Tryd.underlying24 rfl tS3 rfl (by omega) rfl)) ?_; clear hE a; intro a hE
     refine Rv.dq (v := Value.int .i64 v.1) p12_8_5 ns12_8 hE wn_none hS9 (fun W hS => (st_loadR1 (off := i * 4) (j := 0) tA3 (hS.2.1) rfl (by omega) rfl)) ?_; clear hE a; intro a hE
     refine Rv.dq (v := Value.agg #[Value.int .i64 v.1, Value.int .i64 v.2.1, Value.bool v.2.2.1, Value.pointer (some ⟨g10, 0, none⟩)]) p12_8_6 ns12_8 hE wn_none hS9 (fun W hS => (st_loadN (off := 0) (k := 4) (vs := [Value.int .i64 v.1, Value.int .i64 v.2.1, Value.bool v.2.2.1, Value.pointer (some ⟨g10, 0, none⟩)]) tA27 tS27 rfl hS.1 rfl rfl)) ?_; clear hE a; intro a hE
     refine d_one (by kernel_rfl) rfl (Mi.s_putI (u := (v.1, v.2.1, v.2.2.1, g10)) p12_8_7 hE wn_none Tryd.underlying46 Tryd.underlying3 rfl rfl rfl rfl hlw MF9 B_g1 ?_)
     intro esm26 ckm26 w25 MF_m26 B_g1' hk
     replace B_g10 := kp_blk B_g10 hk (Ne.symm n_g1_g10)
     replace B_g11 := kp_blk B_g11 hk (Ne.symm n_g1_g11)
     replace B_g16 := kp_blk B_g16 hk (Ne.symm n_g1_g16)
     replace B_g19 := kp_blk B_g19 hk (Ne.symm n_g1_g19)
     replace O_out := own_keep O_out hk (fun k hk2 h2 => Nb_out_g1 (by rw [show k = g1 from h2] at hk2; exact hk2))
     replace K_0 := K_0.then_ hk (fun k h => by rw [show k = g1 from h]; exact Or.inr z_0_g1)
     replace K_s7 := K_s7.then_ hk (fun k h => by rw [show k = g1 from h]; exact Or.inl (Or.inl rfl))
     replace B_g1 := B_g1'
     clear hk
     refine ⟨⟨B_g16, (fun j u h => cell_to K_0 (hce j u h)), trivial⟩, ?_⟩
     refine d_end (by kernel_rfl) ?_
     refine x_norm (c_regL R12_9_l ?_)
     refine qn hE (rc (pl P12_9 0) (st_move rfl) (rc (pl P12_9 1) (st_loadN (off := 0) (k := 4) (vs := [Value.int .i64 v.1, Value.int .i64 v.2.1, Value.bool v.2.2.1, Value.slice Am14 ((allR v.2.2.2).length) cm14]) tA24 tS24 rfl B_g19 rfl rfl) rn)) ?_; clear hE a; intro a hE
     refine p_cons (s_row (xs := [(0, Operand.tmp 44)]) (vs := [(0, Value.agg #[Value.int .i64 v.1, Value.int .i64 v.2.1, Value.bool v.2.2.1, Value.slice Am14 ((allR v.2.2.2).length) cm14])]) (cs := #[Value.int .i64 v.1, Value.int .i64 v.2.1, Value.bool v.2.2.1, Value.slice Am14 ((allR v.2.2.2).length) cm14]) (pl P12_9 2) hE wn_none rfl Tryd.underlying44 rfl (by kernel_rfl) ?_)
     clear hE a; intro g27 w28 z29 B_g27 hk a hE
     have n_g1_g27 : g1 ≠ g27 := ne_new B_g1 z29
     have n_g10_g27 : g10 ≠ g27 := ne_new B_g10 z29
     have n_g11_g27 : g11 ≠ g27 := ne_new B_g11 z29
     have n_g16_g27 : g16 ≠ g27 := ne_new B_g16 z29
     have n_g19_g27 : g19 ≠ g27 := ne_new B_g19 z29
     have z_0_g27 := Nat.le_trans K_0.kept.1 z29
     have z_s7_g27 := Nat.le_trans K_s7.kept.1 z29
     have Nb_out_g27 : ¬ OB A_out g27 := fun h => by have := (own_ob O_out h).2; omega
     replace B_g1 := kp_blk B_g1 hk (fun h => h)
     replace B_g10 := kp_blk B_g10 hk (fun h => h)
     replace B_g11 := kp_blk B_g11 hk (fun h => h)
     replace B_g16 := kp_blk B_g16 hk (fun h => h)
     replace B_g19 := kp_blk B_g19 hk (fun h => h)
     replace O_out := own_keep O_out hk (fun _ _ h => h)
     replace K_0 := K_0.then_ hk (fun _ h => h.elim)
     replace K_s7 := K_s7.then_ hk (fun _ h => h.elim)
     clear hk
     refine p_cons (s_append (s := 4) (xs := (os.flatMap fl6)) (news := [Value.int .i64 v.1, Value.int .i64 v.2.1, Value.bool v.2.2.1, Value.slice Am14 ((allR v.2.2.2).length) cm14]) (pl P12_9 3) hE wn_none rfl Tryd.underlying44 eD24 (by decide) rfl O_out rfl rfl (newsB B_g27 rfl) (ones rfl) (by omega) (by omega) K_0.kept.1 ?_)
     clear hE a; intro Aout30 cout31 w32 O_out' hk hat a hE
     have Nb_out_g1' := grow_n Nb_out_g1 (blk_lt B_g1) hat
     have Nb_out_g10' := grow_n Nb_out_g10 (blk_lt B_g10) hat
     have Nb_out_g11' := grow_n Nb_out_g11 (blk_lt B_g11) hat
     have Nb_out_g16' := grow_n Nb_out_g16 (blk_lt B_g16) hat
     have Nb_out_g19' := grow_n Nb_out_g19 (blk_lt B_g19) hat
     have Nb_out_g27' := grow_n Nb_out_g27 (blk_lt B_g27) hat
     have Z_0_out' := grow_z Z_0_out K_0.kept.1 hat
     have Z_s7_out' := grow_z Z_s7_out K_s7.kept.1 hat
     replace B_g1 := kp_blk B_g1 hk Nb_out_g1
     replace B_g10 := kp_blk B_g10 hk Nb_out_g10
     replace B_g11 := kp_blk B_g11 hk Nb_out_g11
     replace B_g16 := kp_blk B_g16 hk Nb_out_g16
     replace B_g19 := kp_blk B_g19 hk Nb_out_g19
     replace B_g27 := kp_blk B_g27 hk Nb_out_g27
     replace K_0 := K_0.then_ hk Z_0_out
     replace K_s7 := K_s7.then_ hk Z_s7_out
     replace Nb_out_g1 := Nb_out_g1'
     replace Nb_out_g10 := Nb_out_g10'
     replace Nb_out_g11 := Nb_out_g11'
     replace Nb_out_g16 := Nb_out_g16'
     replace Nb_out_g19 := Nb_out_g19'
     replace Nb_out_g27 := Nb_out_g27'
     replace Z_0_out := Z_0_out'
     replace Z_s7_out := Z_s7_out'
     replace O_out := O_out'
     try clear O_out'
     clear hk hat
     refine q0 (pl P12_9 4) hE (st_assign rfl) ?_; clear hE a; intro a hE
     refine p_nil (x_normB (x_norm (c_regL R12_5_l ?_)))
     refine qn hE (rc (pl P12_5 0) (st_move rfl) (rc (pl P12_5 1) (st_add (z := (i : Int) + 1) rfl rfl (wr_i64 _ (by omega) (by omega))) (rc (pl P12_5 2) (st_assign rfl) rn))) ?_; clear hE a; intro a hE
     refine p_nil (x_norm ?_)
     have hfe : fiN (kp.map (·.1)) v.1 = fiN (os.map (·.1)) v.1 := by rw [tri_node hos]
     have hkp9 : keepS kp v = kp ++ [v] := by unfold keepS; rw [hfe, if_neg hc9]
     have hks9 : (ls.take (i + 1)).foldl keepS [] = keepS kp v := by rw [fold_next _ _ hxv, ← hkp]
     have hput : (Mi.putI lV v.1 (v.1, v.2.1, v.2.2.1, g10)) = (lV ++ [(v.1, v.1, v.2.1, v.2.2.1, g10)]) := Mi.putI_new (fun p hp => fiN_not hc9 _ (by rw [tri_node hos, ← Vs_keys (FV _ (Kp.refl _ _))]; exact List.mem_map.2 ⟨p, hp, rfl⟩))
     rw [hput] at MF_m26
     have FV9 : ∀ W', Kp w32 W' (fun k => k = g1 ∨ OB Aout30 k) → Vs W' (lV ++ [(v.1, v.1, v.2.1, v.2.2.1, g10)]) (kp ++ [v]) := fun W' hk => Vs_snoc (FV W' (K_s7.then_ hk (fun k h => h.elim (fun h => .inl (.inl h)) (fun h => Z_s7_out k h)))) ⟨g11, ckm14, esm14, kp_blk B_g10 hk (fun h => h.elim (Ne.symm n_g1_g10) Nb_out_g10), kp_blk B_g11 hk (fun h => h.elim (Ne.symm n_g1_g11) Nb_out_g11), MFm14⟩
     have hkp2 : kp ++ [v] = (ls.take (i + 1)).foldl keepS [] := by rw [hks9, hkp9]
     have hos2 : (os ++ [(v.1, v.2.1, v.2.2.1, Value.slice Am14 (allR v.2.2.2).length cm14)]).map tri6 = (kp ++ [v]).map tri := by rw [List.map_append, List.map_append, hos]; rfl
     have hon2 : ∀ u ∈ (os ++ [(v.1, v.2.1, v.2.2.1, Value.slice Am14 (allR v.2.2.2).length cm14)]).flatMap fl6, u.oneCell' = true := by rw [← fl6_snoc]; intro u hu; rcases List.mem_append.1 hu with h | h; exact hon u h; revert u; exact fun u _ h => by simp only [fl6, List.mem_cons, List.not_mem_nil, or_false] at h; rcases h with rfl | rfl | rfl | rfl <;> rfl
     have hcnt9 : (os ++ [(v.1, v.2.1, v.2.2.1, Value.slice Am14 (allR v.2.2.2).length cm14)]).length ≤ i + 1 := by rw [List.length_append]; exact Nat.succ_le_succ hcnt
     have hn9 : (os.length + 1) = (os ++ [(v.1, v.2.1, v.2.2.1, Value.slice Am14 (allR v.2.2.2).length cm14)]).length := by rw [List.length_append]; rfl
     have e6 : ((os.flatMap fl6) ++ [Value.int .i64 v.1, Value.int .i64 v.2.1, Value.bool v.2.2.1, Value.slice Am14 ((allR v.2.2.2).length) cm14]) = (os ++ [(v.1, v.2.1, v.2.2.1, Value.slice Am14 (allR v.2.2.2).length cm14)]).flatMap fl6 := fl6_snoc os (v.1, v.2.1, v.2.2.1, Value.slice Am14 (allR v.2.2.2).length cm14)
     rw [e6] at O_out
     exact ⟨i + 1, by omega, Aout30, cout31, (os.length + 1), esm26, ckm26, (lV ++ [(v.1, v.1, v.2.1, v.2.2.1, g10)]), (os ++ [(v.1, v.2.1, v.2.2.1, Value.slice Am14 (allR v.2.2.2).length cm14)]), (kp ++ [v]), En.sub hE ⟨rfl, rfl, rfl, rfl, rfl, rfl, trivial⟩, MF_m26, FV9, hn9, hkp2, hos2, hon2, hcnt9, (by omega), B_g1, O_out, Nb_out_g1, Z_0_out, K_0⟩
   ·
    refine qn hE (rg (v := Value.bool false) (pl P12_4 6) (wn_some g12_4_4 rfl rfl) (st_lss rfl rfl (decide_eq_false hc6)) (rc (pl P12_4 7) (st_pick rfl rfl) rn)) ?_; clear hE a; intro a hE
    refine p_nil (x_norm ?_)
    refine c_cond (t := false) hE rfl ?_
    refine wp_exit (x_exit (x_exit ?_))
    have htk : ls.take i = ls.take 12 := by
     rcases Nat.lt_or_ge i 12 with h | h
     · rw [List.take_of_length_le (by omega), List.take_of_length_le (by omega)]
     · rw [show i = 12 by omega]
    rw [htk] at hkp
    have hkl : kp = keepL ls := hkp
    refine x_in (x_norm (c_reg R12_10_l ?_))
    refine qn hE (rc (pl P12_10 0) (st_move rfl) (rc (pl P12_10 1) (st_move rfl) (rc (pl P12_10 2) (st_assign rfl) (rc (pl P12_10 3) (st_assign rfl) rn)))) ?_; clear hE a; intro a hE
    refine p_nil (x_norm (wp_ret ?_))
    refine ret_list (rs := [.tmp 2, .tmp 3]) (vs := [Value.map (some g1), Value.slice A_out os.length c_out]) rfl hE (.tmp rfl (.tmp rfl .nil)) rfl ?_
    subst hkl
    exact ⟨g1, ck9, es9, lV, os, A_out, c_out, rfl, B_g1, MF9, fun W' hk => FV W' (hk.mono (fun _ h => h.elim)), Rv.own_rdv O_out hon, hos, fun k h => (own_ob O_out h).1, Nat.le_trans hcnt hi9.2, z_0_g1, K_0⟩
  ·
   refine qn hE (rg (v := Value.bool false) (pl P12_4 3) wn_none (st_lss rfl rfl (decide_eq_false hc5)) (rc (pl P12_4 4) (st_move rfl) (rk (pl P12_4 5) (wn_some g12_4_4 rfl rfl) (rk (pl P12_4 6) (wn_some g12_4_4 rfl rfl) (rc (pl P12_4 7) (st_pick rfl rfl) rn))))) ?_; clear hE a; intro a hE
   refine p_nil (x_norm ?_)
   refine c_cond (t := false) hE rfl ?_
   refine wp_exit (x_exit (x_exit ?_))
   have htk : ls.take i = ls.take 12 := by
    rcases Nat.lt_or_ge i 12 with h | h
    · rw [List.take_of_length_le (by omega), List.take_of_length_le (by omega)]
    · rw [show i = 12 by omega]
   rw [htk] at hkp
   have hkl : kp = keepL ls := hkp
   refine x_in (x_norm (c_reg R12_10_l ?_))
   refine qn hE (rc (pl P12_10 0) (st_move rfl) (rc (pl P12_10 1) (st_move rfl) (rc (pl P12_10 2) (st_assign rfl) (rc (pl P12_10 3) (st_assign rfl) rn)))) ?_; clear hE a; intro a hE
   refine p_nil (x_norm (wp_ret ?_))
   refine ret_list (rs := [.tmp 2, .tmp 3]) (vs := [Value.map (some g1), Value.slice A_out os.length c_out]) rfl hE (.tmp rfl (.tmp rfl .nil)) rfl ?_
   subst hkl
   exact ⟨g1, ck9, es9, lV, os, A_out, c_out, rfl, B_g1, MF9, fun W' hk => FV W' (hk.mono (fun _ h => h.elim)), Rv.own_rdv O_out hon, hos, fun k h => (own_ob O_out h).1, Nat.le_trans hcnt hi9.2, z_0_g1, K_0⟩
end Go.Proofs.YtnmlckaeheiodaaDoor.Ru
