/- The chapter's example of package control. -/
import Derived.Test.YtndiddfleidnaaaCtl
set_option maxRecDepth 100000
set_option linter.unusedVariables false
set_option linter.unusedSimpArgs false
namespace Go.Proofs.Ytndiddfleidnaaa.Ck
open Go.RowKit Go.Proofs.YtndiddfleidnaaaW.PrintWords Go.Proofs.Ytndiddfleidnaaa.Ds Go.Proofs.Ytndiddfleidnaaa.Op Go.Proofs.Ytndiddfleidnaaa.Os Go.Proofs.Ytndiddfleidnaaa.Ct
open Go.Proofs.Ytndiddfleidnaaa.Pk (Kp fitsF spanF putF digF fits_any put_ok put_bd C_take)
section
variable {P : Program} {t e : TypeId} {d n s o : Nat} {k : IntKind} {l ks : List (Option IntKind)}
theorem flat_int (hu : P.underlying t = some (.int k)) : flat P (d + 1) t = some [some k] := by unfold flat; rw [hu]
theorem flat_bool (hu : P.underlying t = some .bool) : flat P (d + 1) t = some [none] := by unfold flat; rw [hu]
theorem flat_arr (hu : P.underlying t = some (.array n e)) (he : flat P d e = some l) (hi : (P.info? e).map (·.size) = some s) (hs : s = l.length) (hA : flat.isAggT P e = true ∨ l.length = 1) : flat P (d + 1) t = some (List.replicate n l).flatten := by
  obtain ⟨i, h9, h8⟩ := Option.map_eq_some_iff.1 hi; subst h8
  unfold flat; rw [hu]; show (match flat P d e, P.info? e with | some l, some i => if i.size = l.length ∧ (flat.isAggT P e = true ∨ l.length = 1) then some (List.replicate n l).flatten else none | _, _ => none) = _; rw [he, h9]; exact if_pos ⟨hs, hA⟩
theorem flat_struct {fs : Array Field} (hu : P.underlying t = some (.struct fs)) (hst : P.stoodInHeld t = false) (hf : flat.flatF P d fs.toList 0 = some ks) : flat P (d + 1) t = some ks := by
  unfold flat; rw [hu]; simp only [hst]; exact hf
theorem flatF_nil : flat.flatF P d [] o = some [] := by unfold flat.flatF; rfl
theorem flatF_cons {f : Field} {fs : List Field} (he : flat P d f.type = some l) (hi : (P.info? f.type).map (·.size) = some s) (hs : s = l.length) (hA : flat.isAggT P f.type = true ∨ l.length = 1) (hn : f.name ≠ "_") (ho : f.offset = o) (hr : flat.flatF P d fs (o + l.length) = some ks) : flat.flatF P d (f :: fs) o = some (l ++ ks) := by
  obtain ⟨i, h9, h8⟩ := Option.map_eq_some_iff.1 hi; subst h8
  unfold flat.flatF; rw [he, h9]; exact (if_pos ⟨hn, ho, hs, hA⟩).trans (by rw [hr]; rfl)
end
theorem eqA25_refl_ks : flat Try.prog 9 25 = some ([some .u8, some .u8, some .u8, some .u8, some .u8, some .u8, some .u8, some .u8, some .u8, some .u8, some .u8, some .u8, some .u8, some .u8, some .u8, some .u8]) := Eq.trans (flat_arr Try.underlying25 (flat_int Try.underlying5) (by kernel_rfl) rfl (Or.inr rfl)) rfl
theorem eqA25_refl (s : Nat → Int) : ∀ w, (Op.equalIn 10000 25 (.agg (b16 s).toArray) (.agg (b16 s).toArray)).run Try.prog w = .ok true w :=
  eqA_flat eqA25_refl_ks (by kernel_rfl) rfl rfl (eqL_refl _ _ (show fits ([some .u8, some .u8, some .u8, some .u8, some .u8, some .u8, some .u8, some .u8, some .u8, some .u8, some .u8, some .u8, some .u8, some .u8, some .u8, some .u8]) _ = true from rfl))
theorem R108_0_l : List.range (regOf Try.f108 0).size = [0] := by kernel_rfl
theorem R108_1_l : List.range (regOf Try.f108 1).size = [0, 1, 2, 3, 4, 5] := by kernel_rfl
theorem body108 : Try.f108.body = some (.seq (.region 0 (regOf Try.f108 0) false) (.seq (.region 1 (regOf Try.f108 1) false) (.ret))) := by kernel_rfl
theorem p108_0_0 : pj (regOf Try.f108 0) 0 = some (some 2, .assign (.const (.bool false)), 4, none) := by kernel_rfl
theorem p108_1_0 : pj (regOf Try.f108 1) 0 = some (some 3, .move (.tmp 0), 218, none) := by kernel_rfl
theorem p108_1_1 : pj (regOf Try.f108 1) 1 = some (some 4, .nilCheck (.tmp 3), 0, none) := by kernel_rfl
theorem p108_1_2 : pj (regOf Try.f108 1) 2 = some (some 5, .fieldAddr 177 (.tmp 4) 0, 0, none) := by kernel_rfl
theorem tS29 : (Try.prog.info? 29).map (·.size) = some 1 := by kernel_rfl
theorem p108_1_3 : pj (regOf Try.f108 1) 3 = some (some 6, .load 29 (.tmp 5), 29, none) := by kernel_rfl
theorem tA29 : (Try.prog.underlying 29).map aggD = some false := by kernel_rfl
theorem p108_1_4 : pj (regOf Try.f108 1) 4 = some (some 7, .binOp .eql 29 (.tmp 6) (.const (.int .i64 0)) 29, 4, none) := by kernel_rfl
theorem p108_1_5 : pj (regOf Try.f108 1) 5 = some (some 2, .assign (.tmp 7), 4, none) := by kernel_rfl
set_option maxHeartbeats 4000000 in
theorem right_0 (gc : Nat) (V : Value) (w : World) (hc : w.heap[gc]? = some (.cells #[.int .i64 0, V] 179 (0, 0))) : Calls Try.prog 108 #[.pointer (some ⟨gc, 0, none⟩)] w fun e w' => e = .returned (.bool true) ∧ Kp w w' (fun _ => False) := by
  have K_0 := Kp.refl w (fun _ => False)
  have B_gc := hc
  refine enter (args := [Value.pointer (some ⟨gc, 0, none⟩)]) (n := 8) Try.func108 body108 rfl rfl rfl ?_
  intro a hE
  refine c_reg R108_0_l ?_
  refine q0 p108_0_0 hE (st_assign rfl) ?_
  clear hE a; intro a hE
  refine p_nil ?_
  refine x_norm ?_
  refine c_reg R108_1_l ?_
  refine q0 p108_1_0 hE (st_move rfl) ?_
  clear hE a; intro a hE
  refine q0 p108_1_1 hE (st_nil rfl) ?_
  clear hE a; intro a hE
  refine q0 p108_1_2 hE (st_fieldAddr Try.underlying177 rfl tS29 rfl rfl) ?_
  clear hE a; intro a hE
  refine q0 p108_1_3 hE (st_load1 tA29 rfl ((blk_cell B_gc 0).trans rfl)) ?_
  clear hE a; intro a hE
  refine q0 p108_1_4 hE (st_eql (b := true) rfl rfl (by decide)) ?_
  clear hE a; intro a hE
  refine q0 p108_1_5 hE (st_assign rfl) ?_
  clear hE a; intro a hE
  refine p_nil ?_
  refine x_norm ?_
  refine wp_ret ?_
  refine ret_one (v := Value.bool true) rfl hE (.tmp rfl .nil) ?_
  exact ⟨rfl, K_0⟩
theorem R103_0_l : List.range (regOf Try.f103 0).size = [0, 1, 2, 3] := by kernel_rfl
theorem R103_1_l : List.range (regOf Try.f103 1).size = [0, 1, 2, 3, 4, 5, 6, 7, 8, 9, 10, 11, 12, 13, 14, 15, 16, 17, 18] := by kernel_rfl
theorem body103 : Try.f103.body = some (.seq (.region 0 (regOf Try.f103 0) false) (.cond (Operand.tmp 9) (.region 1 (regOf Try.f103 1) false) (.skip))) := by kernel_rfl
theorem p103_0_0 : pj (regOf Try.f103 0) 0 = some (some 6, .move (.tmp 0), 175, none) := by kernel_rfl
theorem p103_0_1 : pj (regOf Try.f103 0) 1 = some (some 7, .nilCheck (.tmp 6), 0, none) := by kernel_rfl
theorem p103_0_2 : pj (regOf Try.f103 0) 2 = some (some 8, .fieldAddr 179 (.tmp 7) 0, 0, none) := by kernel_rfl
theorem tS177 : (Try.prog.info? 177).map (·.size) = some 1 := by kernel_rfl
theorem p103_0_3 : pj (regOf Try.f103 0) 3 = some (some 9, .call { callee := .value (.func 108), args := #[.tmp 8], argTypes := #[177] }, 4, none) := by kernel_rfl
theorem cl108 : callable Try.f108 = true := by kernel_rfl
theorem p103_1_0 : pj (regOf Try.f103 1) 0 = some (some 11, .move (.tmp 0), 175, none) := by kernel_rfl
theorem p103_1_1 : pj (regOf Try.f103 1) 1 = some (some 12, .move (.tmp 0), 175, none) := by kernel_rfl
theorem p103_1_2 : pj (regOf Try.f103 1) 2 = some (some 13, .move (.tmp 0), 175, none) := by kernel_rfl
theorem p103_1_3 : pj (regOf Try.f103 1) 3 = some (some 14, .nilCheck (.tmp 13), 0, none) := by kernel_rfl
theorem p103_1_4 : pj (regOf Try.f103 1) 4 = some (some 15, .fieldAddr 179 (.tmp 14) 1, 0, none) := by kernel_rfl
theorem tS36 : (Try.prog.info? 36).map (·.size) = some 1 := by kernel_rfl
theorem p103_1_5 : pj (regOf Try.f103 1) 5 = some (some 16, .load 36 (.tmp 15), 36, none) := by kernel_rfl
theorem tA36 : (Try.prog.underlying 36).map aggD = some false := by kernel_rfl
theorem p103_1_6 : pj (regOf Try.f103 1) 6 = some (some 17, .move (.tmp 1), 3, none) := by kernel_rfl
theorem p103_1_7 : pj (regOf Try.f103 1) 7 = some (some 18, .move (.tmp 2), 62, none) := by kernel_rfl
theorem p103_1_8 : pj (regOf Try.f103 1) 8 = some (some 19, .call { callee := .value (.func 77), args := #[.tmp 16, .tmp 17, .tmp 18], argTypes := #[36, 3, 62] }, 37, none) := by kernel_rfl
theorem cl77 : callable Try.f77 = true := by kernel_rfl
theorem p103_1_9 : pj (regOf Try.f103 1) 9 = some (some 10, .move (.tmp 19), 37, none) := by kernel_rfl
theorem p103_1_10 : pj (regOf Try.f103 1) 10 = some (some 20, .extract (.tmp 10) 0, 36, none) := by kernel_rfl
theorem p103_1_11 : pj (regOf Try.f103 1) 11 = some (some 21, .extract (.tmp 10) 1, 29, none) := by kernel_rfl
theorem p103_1_12 : pj (regOf Try.f103 1) 12 = some (some 22, .nilCheck (.tmp 11), 0, none) := by kernel_rfl
theorem p103_1_13 : pj (regOf Try.f103 1) 13 = some (some 23, .fieldAddr 179 (.tmp 22) 1, 0, none) := by kernel_rfl
theorem p103_1_14 : pj (regOf Try.f103 1) 14 = some (none, .store 36 (.tmp 23) (.tmp 20), 0, none) := by kernel_rfl
theorem p103_1_15 : pj (regOf Try.f103 1) 15 = some (some 24, .nilCheck (.tmp 12), 0, none) := by kernel_rfl
theorem p103_1_16 : pj (regOf Try.f103 1) 16 = some (some 25, .fieldAddr 179 (.tmp 24) 0, 0, none) := by kernel_rfl
theorem p103_1_17 : pj (regOf Try.f103 1) 17 = some (some 26, .fieldAddr 177 (.tmp 25) 0, 0, none) := by kernel_rfl
theorem p103_1_18 : pj (regOf Try.f103 1) 18 = some (none, .store 29 (.tmp 26) (.tmp 21), 0, none) := by kernel_rfl
set_option maxHeartbeats 4000000 in
theorem put_dao (gc c : Nat) (B : Option Addr) (hBc : 4 ≤ c) (w : World) (hc : w.heap[gc]? = some (.cells #[.int .i64 0, .slice none 0 0] 179 (0, 0))) (F_B : ∀ W', Kp w W' (fun k => k = gc) → Kd.C (Kd.int .i64) W' B 4 [1, 128, 0, 9]) : Calls Try.prog 103 #[.pointer (some ⟨gc, 0, none⟩), .int .i64 1, .slice B 4 c] w fun e w' => ∃ A' c', e = .returned (.tuple #[]) ∧ w'.heap[gc]? = some (.cells #[.int .i64 0, .slice A' 4 c'] 179 (0, 0)) ∧ w'.ownsRow w.heap.size 5 1 (.slice A' 4 c') 4 (encs (Value.int .u8) [1, 128, 0, 9]) ∧ Kp w w' (fun k => k = gc) := by
  have K_0 := Kp.refl w (fun k => k = gc)
  have B_gc := hc
  refine enter (args := [Value.pointer (some ⟨gc, 0, none⟩), Value.int .i64 1, Value.slice B 4 c]) (n := 27) Try.func103 body103 rfl rfl rfl ?_
  intro a hE
  refine c_reg R103_0_l ?_
  refine q0 p103_0_0 hE (st_move rfl) ?_
  clear hE a; intro a hE
  refine q0 p103_0_1 hE (st_nil rfl) ?_
  clear hE a; intro a hE
  refine q0 p103_0_2 hE (st_fieldAddr Try.underlying179 rfl tS177 rfl rfl) ?_
  clear hE a; intro a hE
  refine p_cons (s_call (xs := [Operand.tmp 8]) (args := [Value.pointer (some ⟨gc, 0, none⟩)]) p103_0_3 hE wn_none rfl rfl Try.func108 cl108 (right_0 gc (Value.slice none 0 0) _ B_gc) ?_)
  rintro e w1 ⟨rfl, hk⟩
  replace B_gc := kp_blk B_gc hk (fun h => h)
  replace K_0 := K_0.then_ hk (fun _ h => h.elim)
  refine ⟨_, rfl, ?_⟩
  clear hE a; intro a hE
  refine p_nil ?_
  refine x_norm ?_
  refine c_cond (t := true) hE rfl ?_
  refine c_regL R103_1_l ?_
  refine q0 p103_1_0 hE (st_move rfl) ?_
  clear hE a; intro a hE
  refine q0 p103_1_1 hE (st_move rfl) ?_
  clear hE a; intro a hE
  refine q0 p103_1_2 hE (st_move rfl) ?_
  clear hE a; intro a hE
  refine q0 p103_1_3 hE (st_nil rfl) ?_
  clear hE a; intro a hE
  refine q0 p103_1_4 hE (st_fieldAddr Try.underlying179 rfl tS36 rfl rfl) ?_
  clear hE a; intro a hE
  refine q0 p103_1_5 hE (st_load1 tA36 rfl ((blk_cell B_gc 1).trans rfl)) ?_
  clear hE a; intro a hE
  refine q0 p103_1_6 hE (st_move rfl) ?_
  clear hE a; intro a hE
  refine q0 p103_1_7 hE (st_move rfl) ?_
  clear hE a; intro a hE
  have hnb_gc := blk_lt B_gc
  have hnz_0 := K_0.kept.1
  refine p_cons (s_call (xs := [Operand.tmp 16, Operand.tmp 17, Operand.tmp 18]) (args := [Value.slice none 0 0, Value.int .i64 1, Value.slice B 4 c]) p103_1_8 hE wn_none rfl rfl Try.func77 cl77 (put_ok none B 0 c 1 [] [1, 128, 0, 9] 4 rfl (by decide) _ (Kd.C_nil _ _) (F_B _ K_0) hBc (by decide)) ?_)
  rintro e w5 ⟨v9, rfl, O_q4, hb9⟩
  have hk := Kp.of_below hb9 (fun _ => False)
  change World.ownsRow _ _ 5 1 v9 4 (encs (Value.int .u8) [1, 128, 0, 9]) at O_q4
  obtain ⟨A2, c3, rfl⟩ := own_sl O_q4
  replace B_gc := kp_blk B_gc hk (fun h => h)
  replace K_0 := K_0.then_ hk (fun _ h => h.elim)
  have Nb_q4_gc : ¬ OB A2 gc := fun h => by have := (own_ob O_q4 h).1; have := hnb_gc; omega
  have Z_0_q4 : ∀ k, OB A2 k → (fun k => k = gc) k ∨ w.heap.size ≤ k := fun k h => .inr (by have := (own_ob O_q4 h).1; have := hnz_0; omega)
  replace O_q4 := own_lower O_q4 hnz_0
  refine ⟨_, rfl, ?_⟩
  clear hE a; intro a hE
  refine q0 p103_1_9 hE (st_move rfl) ?_
  clear hE a; intro a hE
  refine q0 p103_1_10 hE (st_extract rfl rfl) ?_
  clear hE a; intro a hE
  refine q0 p103_1_11 hE (st_extract rfl rfl) ?_
  clear hE a; intro a hE
  refine q0 p103_1_12 hE (st_nil rfl) ?_
  clear hE a; intro a hE
  refine q0 p103_1_13 hE (st_fieldAddr Try.underlying179 rfl tS36 rfl rfl) ?_
  clear hE a; intro a hE
  refine p_cons (s_store (off := 1) (k := 1) (cs' := #[Value.int .i64 0, Value.slice A2 4 c3]) p103_1_14 hE wn_none tS36 rfl rfl rfl rfl B_gc (Nat.le_of_ble_eq_true rfl) rfl ?_)
  intro w6 B_gc' hk
  replace O_q4 := own_keep O_q4 hk (fun k hk2 h2 => Nb_q4_gc (by rw [show k = gc from h2] at hk2; exact hk2))
  replace K_0 := K_0.then_ hk (fun k h => by rw [show k = gc from h]; exact Or.inl rfl)
  replace B_gc := B_gc'
  clear hk
  refine q0 p103_1_15 hE (st_nil rfl) ?_
  clear hE a; intro a hE
  refine q0 p103_1_16 hE (st_fieldAddr Try.underlying179 rfl tS177 rfl rfl) ?_
  clear hE a; intro a hE
  refine q0 p103_1_17 hE (st_fieldAddr Try.underlying177 rfl tS29 rfl rfl) ?_
  clear hE a; intro a hE
  refine p_cons (s_store (off := 0) (k := 1) (cs' := #[Value.int .i64 0, Value.slice A2 4 c3]) p103_1_18 hE wn_none tS29 rfl rfl rfl rfl B_gc (Nat.le_of_ble_eq_true rfl) rfl ?_)
  intro w7 B_gc' hk
  replace O_q4 := own_keep O_q4 hk (fun k hk2 h2 => Nb_q4_gc (by rw [show k = gc from h2] at hk2; exact hk2))
  replace K_0 := K_0.then_ hk (fun k h => by rw [show k = gc from h]; exact Or.inl rfl)
  replace B_gc := B_gc'
  clear hk
  refine p_nil ?_
  refine end_of_ret ?_
  refine ret_list (rs := []) (vs := []) rfl hE .nil rfl ?_
  exact ⟨A2, c3, rfl, B_gc, O_q4, K_0⟩
theorem R104_0_l : List.range (regOf Try.f104 0).size = [0] := by kernel_rfl
theorem R104_1_l : List.range (regOf Try.f104 1).size = [0] := by kernel_rfl
theorem R104_2_l : List.range (regOf Try.f104 2).size = [0, 1] := by kernel_rfl
theorem R104_3_l : List.range (regOf Try.f104 3).size = [0] := by kernel_rfl
theorem body104 : Try.f104.body = some (.seq (.region 0 (regOf Try.f104 0) false) (.seq (.seq (.region 1 (regOf Try.f104 1) false) (.cond (Operand.tmp 5) (.seq (.region 2 (regOf Try.f104 2) false) (.ret)) (.skip))) (.seq (.region 3 (regOf Try.f104 3) false) (.ret)))) := by kernel_rfl
theorem p104_0_0 : pj (regOf Try.f104 0) 0 = some (some 4, .assign (.const (.int .i64 0)), 3, none) := by kernel_rfl
theorem p104_1_0 : pj (regOf Try.f104 1) 0 = some (some 5, .move (.tmp 0), 4, none) := by kernel_rfl
theorem p104_2_0 : pj (regOf Try.f104 2) 0 = some (some 6, .move (.tmp 1), 3, none) := by kernel_rfl
theorem p104_2_1 : pj (regOf Try.f104 2) 1 = some (some 4, .assign (.tmp 6), 3, none) := by kernel_rfl
set_option maxHeartbeats 4000000 in
theorem flag_1 (n : Int) (w : World) : Calls Try.prog 104 #[.bool true, .int .i64 n] w fun e w' => e = .returned (.int .i64 n) ∧ Kp w w' (fun _ => False) := by
  have K_0 := Kp.refl w (fun _ => False)
  refine enter (args := [Value.bool true, Value.int .i64 n]) (n := 7) Try.func104 body104 rfl rfl rfl ?_
  intro a hE
  refine c_reg R104_0_l ?_
  refine q0 p104_0_0 hE (st_assign rfl) ?_
  clear hE a; intro a hE
  refine p_nil ?_
  refine x_norm ?_
  refine wp_seq ?_
  refine c_reg R104_1_l ?_
  refine q0 p104_1_0 hE (st_move rfl) ?_
  clear hE a; intro a hE
  refine p_nil ?_
  refine x_norm ?_
  refine c_cond (t := true) hE rfl ?_
  refine c_reg R104_2_l ?_
  refine q0 p104_2_0 hE (st_move rfl) ?_
  clear hE a; intro a hE
  refine q0 p104_2_1 hE (st_assign rfl) ?_
  clear hE a; intro a hE
  refine p_nil ?_
  refine x_norm ?_
  refine wp_ret ?_
  refine x_ret ?_
  refine ret_one (v := Value.int .i64 n) rfl hE (.tmp rfl .nil) ?_
  exact ⟨rfl, K_0⟩
theorem p104_3_0 : pj (regOf Try.f104 3) 0 = some (some 4, .assign (.const (.int .i64 0)), 3, none) := by kernel_rfl
set_option maxHeartbeats 4000000 in
theorem flag_0 (n : Int) (w : World) : Calls Try.prog 104 #[.bool false, .int .i64 n] w fun e w' => e = .returned (.int .i64 0) ∧ Kp w w' (fun _ => False) := by
  have K_0 := Kp.refl w (fun _ => False)
  refine enter (args := [Value.bool false, Value.int .i64 n]) (n := 7) Try.func104 body104 rfl rfl rfl ?_
  intro a hE
  refine c_reg R104_0_l ?_
  refine q0 p104_0_0 hE (st_assign rfl) ?_
  clear hE a; intro a hE
  refine p_nil ?_
  refine x_norm ?_
  refine wp_seq ?_
  refine c_reg R104_1_l ?_
  refine q0 p104_1_0 hE (st_move rfl) ?_
  clear hE a; intro a hE
  refine p_nil ?_
  refine x_norm ?_
  refine c_cond (t := false) hE rfl ?_
  refine wp_skip ?_
  refine x_norm ?_
  refine c_reg R104_3_l ?_
  refine q0 p104_3_0 hE (st_assign rfl) ?_
  clear hE a; intro a hE
  refine p_nil ?_
  refine x_norm ?_
  refine wp_ret ?_
  refine ret_one (v := Value.int .i64 0) rfl hE (.tmp rfl .nil) ?_
  exact ⟨rfl, K_0⟩
theorem R106_0_l : List.range (regOf Try.f106 0).size = [0, 1] := by kernel_rfl
theorem R106_1_l : List.range (regOf Try.f106 1).size = [0, 1, 2, 3] := by kernel_rfl
theorem body106 : Try.f106.body = some (.seq (.region 0 (regOf Try.f106 0) false) (.seq (.region 1 (regOf Try.f106 1) false) (.ret))) := by kernel_rfl
theorem p106_0_0 : pj (regOf Try.f106 0) 0 = some (some 1, .box 25 (.tmp 0), 0, none) := by kernel_rfl
theorem p106_0_1 : pj (regOf Try.f106 0) 1 = some (some 2, .assign (.const (.bool false)), 4, none) := by kernel_rfl
theorem p106_1_0 : pj (regOf Try.f106 1) 0 = some (some 3, .load 25 (.tmp 1), 25, none) := by kernel_rfl
theorem tA25 : (Try.prog.underlying 25).map aggD = some true := by kernel_rfl
theorem tS25 : (Try.prog.info? 25).map (·.size) = some 16 := by kernel_rfl
theorem p106_1_1 : pj (regOf Try.f106 1) 1 = some (some 4, .build 25 #[], 25, none) := by kernel_rfl
theorem p106_1_2 : pj (regOf Try.f106 1) 2 = some (some 5, .binOp .eql 25 (.tmp 3) (.tmp 4) 25, 4, none) := by kernel_rfl
theorem eg25 : Try.prog.eqGuardType Try.prog.depth 25 = false := by kernel_rfl
theorem p106_1_3 : pj (regOf Try.f106 1) 3 = some (some 2, .assign (.tmp 5), 4, none) := by kernel_rfl
set_option maxHeartbeats 4000000 in
theorem none_0 (w : World) : Calls Try.prog 106 #[Value.agg (b16 (fun _ => 0)).toArray] w fun e w' => e = .returned (.bool true) ∧ Kp w w' (fun _ => False) := by
  have K_0 := Kp.refl w (fun _ => False)
  refine enter (args := [Value.agg (b16 (fun _ => 0)).toArray]) (n := 6) Try.func106 body106 rfl rfl rfl ?_
  intro a hE
  refine c_reg R106_0_l ?_
  refine p_cons (s_box p106_0_0 hE wn_none rfl rfl ?_)
  clear hE a; intro g1 w2 z3 B_g1 hk a hE
  replace B_g1 : w2.heap[g1]? = some (.cells (b16 (fun _ => 0)).toArray 25 (0, 0)) := B_g1
  have z_0_g1 := Nat.le_trans K_0.kept.1 z3
  replace K_0 := K_0.then_ hk (fun _ h => h.elim)
  clear hk
  refine q0 p106_0_1 hE (st_assign rfl) ?_
  clear hE a; intro a hE
  refine p_nil ?_
  refine x_norm ?_
  refine c_reg R106_1_l ?_
  refine q0 p106_1_0 hE (st_loadN (off := 0) (k := 16) (vs := b16 (fun _ => 0)) tA25 tS25 rfl B_g1 rfl rfl) ?_
  clear hE a; intro a hE
  refine q0 p106_1_1 hE (st_build (xs := []) (vs := []) (cs := (b16 (fun _ => 0)).toArray) rfl (by kernel_rfl)) ?_
  clear hE a; intro a hE
  refine q0 p106_1_2 hE (st_eqlA (b := true) eg25 rfl rfl (eqA25_refl _)) ?_
  clear hE a; intro a hE
  refine q0 p106_1_3 hE (st_assign rfl) ?_
  clear hE a; intro a hE
  refine p_nil ?_
  refine x_norm ?_
  refine wp_ret ?_
  refine ret_one (v := Value.bool true) rfl hE (.tmp rfl .nil) ?_
  exact ⟨rfl, K_0⟩
theorem R105_0_l : List.range (regOf Try.f105 0).size = [0] := by kernel_rfl
theorem R105_1_l : List.range (regOf Try.f105 1).size = [0, 1, 2] := by kernel_rfl
theorem R105_2_l : List.range (regOf Try.f105 2).size = [0, 1, 2] := by kernel_rfl
theorem body105 : Try.f105.body = some (.seq (.region 0 (regOf Try.f105 0) false) (.seq (.region 1 (regOf Try.f105 1) false) (.cond (Operand.tmp 6) (.region 2 (regOf Try.f105 2) false) (.skip)))) := by kernel_rfl
theorem p105_0_0 : pj (regOf Try.f105 0) 0 = some (some 3, .box 25 (.tmp 1), 0, none) := by kernel_rfl
theorem p105_1_0 : pj (regOf Try.f105 1) 0 = some (some 4, .load 25 (.tmp 3), 25, none) := by kernel_rfl
theorem p105_1_1 : pj (regOf Try.f105 1) 1 = some (some 5, .call { callee := .value (.func 106), args := #[.tmp 4], argTypes := #[25] }, 4, none) := by kernel_rfl
theorem cl106 : callable Try.f106 = true := by kernel_rfl
theorem p105_1_2 : pj (regOf Try.f105 1) 2 = some (some 6, .unOp .not 4 (.tmp 5), 4, none) := by kernel_rfl
set_option maxHeartbeats 4000000 in
theorem root_0 (q : Value) (w : World) : Calls Try.prog 105 #[q, Value.agg (b16 (fun _ => 0)).toArray] w fun e w' => e = .returned (.tuple #[]) ∧ Kp w w' (fun _ => False) := by
  have K_0 := Kp.refl w (fun _ => False)
  refine enter (args := [q, Value.agg (b16 (fun _ => 0)).toArray]) (n := 10) Try.func105 body105 rfl rfl rfl ?_
  intro a hE
  refine c_reg R105_0_l ?_
  refine p_cons (s_box p105_0_0 hE wn_none rfl rfl ?_)
  clear hE a; intro g1 w2 z3 B_g1 hk a hE
  replace B_g1 : w2.heap[g1]? = some (.cells (b16 (fun _ => 0)).toArray 25 (0, 0)) := B_g1
  have z_0_g1 := Nat.le_trans K_0.kept.1 z3
  replace K_0 := K_0.then_ hk (fun _ h => h.elim)
  clear hk
  refine p_nil ?_
  refine x_norm ?_
  refine c_reg R105_1_l ?_
  refine q0 p105_1_0 hE (st_loadN (off := 0) (k := 16) (vs := b16 (fun _ => 0)) tA25 tS25 rfl B_g1 rfl rfl) ?_
  clear hE a; intro a hE
  refine p_cons (s_call (xs := [Operand.tmp 4]) (args := [Value.agg (b16 (fun _ => 0)).toArray]) p105_1_1 hE wn_none rfl rfl Try.func106 cl106 (none_0  _) ?_)
  rintro e w4 ⟨rfl, hk⟩
  replace B_g1 := kp_blk B_g1 hk (fun h => h)
  replace K_0 := K_0.then_ hk (fun _ h => h.elim)
  refine ⟨_, rfl, ?_⟩
  clear hE a; intro a hE
  refine q0 p105_1_2 hE (st_not rfl rfl) ?_
  clear hE a; intro a hE
  refine p_nil ?_
  refine x_norm ?_
  refine c_cond (t := false) hE rfl ?_
  refine wp_skip ?_
  refine end_of_ret ?_
  refine ret_list (rs := []) (vs := []) rfl hE .nil rfl ?_
  exact ⟨rfl, K_0⟩
theorem R33_0_l : List.range (regOf Try.f33 0).size = [0, 1] := by kernel_rfl
theorem R33_1_l : List.range (regOf Try.f33 1).size = [0, 1, 2] := by kernel_rfl
theorem R33_2_l : List.range (regOf Try.f33 2).size = [0, 1] := by kernel_rfl
theorem R33_3_l : List.range (regOf Try.f33 3).size = [0] := by kernel_rfl
theorem R33_4_l : List.range (regOf Try.f33 4).size = [0, 1, 2] := by kernel_rfl
theorem R33_5_l : List.range (regOf Try.f33 5).size = [0] := by kernel_rfl
theorem R33_6_l : List.range (regOf Try.f33 6).size = [0, 1, 2, 3] := by kernel_rfl
theorem R33_7_l : List.range (regOf Try.f33 7).size = [0, 1, 2] := by kernel_rfl
theorem R33_8_l : List.range (regOf Try.f33 8).size = [0, 1] := by kernel_rfl
theorem R33_9_l : List.range (regOf Try.f33 9).size = [0, 1, 2] := by kernel_rfl
theorem R33_10_l : List.range (regOf Try.f33 10).size = [0, 1, 2, 3, 4] := by kernel_rfl
theorem R33_11_l : List.range (regOf Try.f33 11).size = [0, 1] := by kernel_rfl
theorem R33_12_l : List.range (regOf Try.f33 12).size = [0, 1, 2] := by kernel_rfl
theorem R33_13_l : List.range (regOf Try.f33 13).size = [0, 1] := by kernel_rfl
theorem R33_14_l : List.range (regOf Try.f33 14).size = [0, 1, 2] := by kernel_rfl
theorem body33 : Try.f33.body = some (.seq (.region 0 (regOf Try.f33 0) false) (.seq (.seq (.region 1 (regOf Try.f33 1) false) (.cond (Operand.tmp 10) (.seq (.region 2 (regOf Try.f33 2) false) (.ret)) (.skip))) (.seq (.region 3 (regOf Try.f33 3) false) (.seq (.seq (.region 4 (regOf Try.f33 4) false) (.block 0 (.loop (.seq (.region 5 (regOf Try.f33 5) false) (.seq (.cond (Operand.tmp 14) (.skip) (.exit 0)) (.seq (.block 1 (.seq (.region 6 (regOf Try.f33 6) false) (.seq (.seq (.region 7 (regOf Try.f33 7) false) (.seq (.region 8 (regOf Try.f33 8) false) (.cond (Operand.tmp 20) (.seq (.region 9 (regOf Try.f33 9) false) (.ret)) (.skip)))) (.region 10 (regOf Try.f33 10) false)))) (.region 11 (regOf Try.f33 11) false))))))) (.seq (.seq (.region 12 (regOf Try.f33 12) false) (.cond (Operand.tmp 29) (.seq (.region 13 (regOf Try.f33 13) false) (.ret)) (.skip))) (.seq (.region 14 (regOf Try.f33 14) false) (.ret))))))) := by kernel_rfl
theorem p33_0_0 : pj (regOf Try.f33 0) 0 = some (some 2, .assign (.const (.slice none 0 0)), 36, none) := by kernel_rfl
theorem p33_0_1 : pj (regOf Try.f33 0) 1 = some (some 3, .assign (.const (.int .i64 0)), 29, none) := by kernel_rfl
theorem p33_1_0 : pj (regOf Try.f33 1) 0 = some (some 8, .move (.tmp 0), 58, none) := by kernel_rfl
theorem p33_1_1 : pj (regOf Try.f33 1) 1 = some (some 9, .call { callee := .builtin .len, args := #[.tmp 8], argTypes := #[58] }, 3, none) := by kernel_rfl
theorem p33_1_2 : pj (regOf Try.f33 1) 2 = some (some 10, .binOp .gtr 3 (.tmp 9) (.const (.int .i64 16)) 3, 4, none) := by kernel_rfl
theorem p33_3_0 : pj (regOf Try.f33 3) 0 = some (some 4, .assign (.const (.slice none 0 0)), 36, none) := by kernel_rfl
theorem p33_4_0 : pj (regOf Try.f33 4) 0 = some (some 11, .move (.tmp 0), 58, none) := by kernel_rfl
theorem p33_4_1 : pj (regOf Try.f33 4) 1 = some (some 12, .call { callee := .builtin .len, args := #[.tmp 11], argTypes := #[58] }, 3, none) := by kernel_rfl
theorem p33_4_2 : pj (regOf Try.f33 4) 2 = some (some 13, .move (.const (.int .i64 0)), 3, none) := by kernel_rfl
theorem p33_5_0 : pj (regOf Try.f33 5) 0 = some (some 14, .binOp .lss 3 (.tmp 13) (.tmp 12) 3, 0, none) := by kernel_rfl
theorem p33_12_0 : pj (regOf Try.f33 12) 0 = some (some 27, .move (.tmp 4), 36, none) := by kernel_rfl
theorem p33_12_1 : pj (regOf Try.f33 12) 1 = some (some 28, .call { callee := .builtin .len, args := #[.tmp 27], argTypes := #[36] }, 3, none) := by kernel_rfl
theorem p33_12_2 : pj (regOf Try.f33 12) 2 = some (some 29, .binOp .gtr 3 (.tmp 28) (.const (.int .i64 1280)) 3, 4, none) := by kernel_rfl
theorem p33_14_0 : pj (regOf Try.f33 14) 0 = some (some 30, .move (.tmp 4), 36, none) := by kernel_rfl
theorem p33_14_1 : pj (regOf Try.f33 14) 1 = some (some 2, .assign (.tmp 30), 36, none) := by kernel_rfl
theorem p33_14_2 : pj (regOf Try.f33 14) 2 = some (some 3, .assign (.const (.int .i64 0)), 29, none) := by kernel_rfl
set_option maxHeartbeats 4000000 in
theorem enc_nil (w : World) : Calls Try.prog 33 #[.slice none 0 0] w fun e w' => e = .returned (.tuple #[.slice none 0 0, .int .i64 0]) ∧ Kp w w' (fun _ => False) := by
  have K_0 := Kp.refl w (fun _ => False)
  refine enter (args := [Value.slice none 0 0]) (n := 31) Try.func33 body33 rfl rfl rfl ?_
  intro a hE
  refine c_reg R33_0_l ?_
  refine q0 p33_0_0 hE (st_assign rfl) ?_
  clear hE a; intro a hE
  refine q0 p33_0_1 hE (st_assign rfl) ?_
  clear hE a; intro a hE
  refine p_nil ?_
  refine x_norm ?_
  refine wp_seq ?_
  refine c_reg R33_1_l ?_
  refine q0 p33_1_0 hE (st_move rfl) ?_
  clear hE a; intro a hE
  refine q0 p33_1_1 hE (st_len Try.underlying58 rfl) ?_
  clear hE a; intro a hE
  refine q0 p33_1_2 hE (st_gtr (b := false) rfl rfl (by decide)) ?_
  clear hE a; intro a hE
  refine p_nil ?_
  refine x_norm ?_
  refine c_cond (t := false) hE rfl ?_
  refine wp_skip ?_
  refine x_norm ?_
  refine c_reg R33_3_l ?_
  refine q0 p33_3_0 hE (st_assign rfl) ?_
  clear hE a; intro a hE
  refine p_nil ?_
  refine x_norm ?_
  refine wp_seq ?_
  refine c_reg R33_4_l ?_
  refine q0 p33_4_0 hE (st_move rfl) ?_
  clear hE a; intro a hE
  refine q0 p33_4_1 hE (st_len Try.underlying58 rfl) ?_
  clear hE a; intro a hE
  refine q0 p33_4_2 hE (st_move rfl) ?_
  clear hE a; intro a hE
  refine p_nil ?_
  refine x_norm ?_
  refine wp_block ?_
  refine wp_loop_rounds 1 ?_
  refine (Eq.mpr (rounds_succ (n := 0)) ?_)
  refine c_reg R33_5_l ?_
  refine q0 p33_5_0 hE (st_lss (b := false) rfl rfl (by decide)) ?_
  clear hE a; intro a hE
  refine p_nil ?_
  refine x_norm ?_
  refine wp_seq ?_
  refine c_cond (t := false) hE rfl ?_
  refine wp_exit ?_
  refine x_exit ?_
  refine x_exit ?_
  refine x_in ?_
  refine x_norm ?_
  refine wp_seq ?_
  refine c_reg R33_12_l ?_
  refine q0 p33_12_0 hE (st_move rfl) ?_
  clear hE a; intro a hE
  refine q0 p33_12_1 hE (st_len Try.underlying36 rfl) ?_
  clear hE a; intro a hE
  refine q0 p33_12_2 hE (st_gtr (b := false) rfl rfl (by decide)) ?_
  clear hE a; intro a hE
  refine p_nil ?_
  refine x_norm ?_
  refine c_cond (t := false) hE rfl ?_
  refine wp_skip ?_
  refine x_norm ?_
  refine c_reg R33_14_l ?_
  refine q0 p33_14_0 hE (st_move rfl) ?_
  clear hE a; intro a hE
  refine q0 p33_14_1 hE (st_assign rfl) ?_
  clear hE a; intro a hE
  refine q0 p33_14_2 hE (st_assign rfl) ?_
  clear hE a; intro a hE
  refine p_nil ?_
  refine x_norm ?_
  refine wp_ret ?_
  refine ret_list (rs := [.tmp 2, .tmp 3]) (vs := [Value.slice none 0 0, Value.int .i64 0]) rfl hE (.tmp rfl (.tmp rfl .nil)) rfl ?_
  exact ⟨rfl, K_0⟩
theorem R156_0_l : List.range (regOf Try.f156 0).size = [0] := by kernel_rfl
theorem R156_1_l : List.range (regOf Try.f156 1).size = [0, 1, 2] := by kernel_rfl
theorem R156_2_l : List.range (regOf Try.f156 2).size = [0] := by kernel_rfl
theorem R156_3_l : List.range (regOf Try.f156 3).size = [0, 1] := by kernel_rfl
theorem R156_4_l : List.range (regOf Try.f156 4).size = [0, 1, 2, 3, 4, 5] := by kernel_rfl
theorem R156_5_l : List.range (regOf Try.f156 5).size = [0, 1] := by kernel_rfl
theorem R156_6_l : List.range (regOf Try.f156 6).size = [0, 1] := by kernel_rfl
theorem R156_7_l : List.range (regOf Try.f156 7).size = [0] := by kernel_rfl
theorem body156 : Try.f156.body = some (.seq (.region 0 (regOf Try.f156 0) false) (.seq (.seq (.region 1 (regOf Try.f156 1) false) (.block 0 (.loop (.seq (.region 2 (regOf Try.f156 2) false) (.seq (.cond (Operand.tmp 9) (.skip) (.exit 0)) (.seq (.block 1 (.seq (.region 3 (regOf Try.f156 3) false) (.seq (.region 4 (regOf Try.f156 4) false) (.cond (Operand.tmp 16) (.seq (.region 5 (regOf Try.f156 5) false) (.ret)) (.skip))))) (.region 6 (regOf Try.f156 6) false))))))) (.seq (.region 7 (regOf Try.f156 7) false) (.ret)))) := by kernel_rfl
theorem p156_0_0 : pj (regOf Try.f156 0) 0 = some (some 4, .assign (.const (.int .i64 0)), 3, none) := by kernel_rfl
theorem p156_1_0 : pj (regOf Try.f156 1) 0 = some (some 6, .move (.tmp 0), 58, none) := by kernel_rfl
theorem p156_1_1 : pj (regOf Try.f156 1) 1 = some (some 7, .call { callee := .builtin .len, args := #[.tmp 6], argTypes := #[58] }, 3, none) := by kernel_rfl
theorem p156_1_2 : pj (regOf Try.f156 1) 2 = some (some 8, .move (.const (.int .i64 0)), 3, none) := by kernel_rfl
theorem p156_2_0 : pj (regOf Try.f156 2) 0 = some (some 9, .binOp .lss 3 (.tmp 8) (.tmp 7) 3, 0, none) := by kernel_rfl
theorem p156_7_0 : pj (regOf Try.f156 7) 0 = some (some 4, .assign (.const (.int .i64 (-1))), 3, none) := by kernel_rfl
set_option maxHeartbeats 4000000 in
theorem ixf_nil (f : Value) (w : World) : Calls Try.prog 156 #[.slice none 0 0, f] w fun e w' => e = .returned (.int .i64 (-1)) ∧ Kp w w' (fun _ => False) := by
  have K_0 := Kp.refl w (fun _ => False)
  refine enter (args := [Value.slice none 0 0, f]) (n := 19) Try.func156 body156 rfl rfl rfl ?_
  intro a hE
  refine c_reg R156_0_l ?_
  refine q0 p156_0_0 hE (st_assign rfl) ?_
  clear hE a; intro a hE
  refine p_nil ?_
  refine x_norm ?_
  refine wp_seq ?_
  refine c_reg R156_1_l ?_
  refine q0 p156_1_0 hE (st_move rfl) ?_
  clear hE a; intro a hE
  refine q0 p156_1_1 hE (st_len Try.underlying58 rfl) ?_
  clear hE a; intro a hE
  refine q0 p156_1_2 hE (st_move rfl) ?_
  clear hE a; intro a hE
  refine p_nil ?_
  refine x_norm ?_
  refine wp_block ?_
  refine wp_loop_rounds 1 ?_
  refine (Eq.mpr (rounds_succ (n := 0)) ?_)
  refine c_reg R156_2_l ?_
  refine q0 p156_2_0 hE (st_lss (b := false) rfl rfl (by decide)) ?_
  clear hE a; intro a hE
  refine p_nil ?_
  refine x_norm ?_
  refine wp_seq ?_
  refine c_cond (t := false) hE rfl ?_
  refine wp_exit ?_
  refine x_exit ?_
  refine x_exit ?_
  refine x_in ?_
  refine x_norm ?_
  refine c_reg R156_7_l ?_
  refine q0 p156_7_0 hE (st_assign rfl) ?_
  clear hE a; intro a hE
  refine p_nil ?_
  refine x_norm ?_
  refine wp_ret ?_
  refine ret_one (v := Value.int .i64 (-1)) rfl hE (.tmp rfl .nil) ?_
  exact ⟨rfl, K_0⟩
theorem R143_0_l : List.range (regOf Try.f143 0).size = [0] := by kernel_rfl
theorem R143_1_l : List.range (regOf Try.f143 1).size = [0, 1, 2, 3, 4] := by kernel_rfl
theorem body143 : Try.f143.body = some (.seq (.region 0 (regOf Try.f143 0) false) (.seq (.region 1 (regOf Try.f143 1) false) (.ret))) := by kernel_rfl
theorem p143_0_0 : pj (regOf Try.f143 0) 0 = some (some 4, .assign (.const (.bool false)), 4, none) := by kernel_rfl
theorem p143_1_0 : pj (regOf Try.f143 1) 0 = some (some 5, .move (.tmp 0), 58, none) := by kernel_rfl
theorem p143_1_1 : pj (regOf Try.f143 1) 1 = some (some 6, .move (.tmp 1), 216, none) := by kernel_rfl
theorem p143_1_2 : pj (regOf Try.f143 1) 2 = some (some 7, .call { callee := .value (.func 156), args := #[.tmp 5, .tmp 6], argTypes := #[58, 216] }, 3, none) := by kernel_rfl
theorem cl156 : callable Try.f156 = true := by kernel_rfl
theorem p143_1_3 : pj (regOf Try.f143 1) 3 = some (some 8, .binOp .geq 3 (.tmp 7) (.const (.int .i64 0)) 3, 4, none) := by kernel_rfl
theorem p143_1_4 : pj (regOf Try.f143 1) 4 = some (some 4, .assign (.tmp 8), 4, none) := by kernel_rfl
set_option maxHeartbeats 4000000 in
theorem cf_nil (f : Value) (w : World) : Calls Try.prog 143 #[.slice none 0 0, f] w fun e w' => e = .returned (.bool false) ∧ Kp w w' (fun _ => False) := by
  have K_0 := Kp.refl w (fun _ => False)
  refine enter (args := [Value.slice none 0 0, f]) (n := 9) Try.func143 body143 rfl rfl rfl ?_
  intro a hE
  refine c_reg R143_0_l ?_
  refine q0 p143_0_0 hE (st_assign rfl) ?_
  clear hE a; intro a hE
  refine p_nil ?_
  refine x_norm ?_
  refine c_reg R143_1_l ?_
  refine q0 p143_1_0 hE (st_move rfl) ?_
  clear hE a; intro a hE
  refine q0 p143_1_1 hE (st_move rfl) ?_
  clear hE a; intro a hE
  refine p_cons (s_call (xs := [Operand.tmp 5, Operand.tmp 6]) (args := [Value.slice none 0 0, f]) p143_1_2 hE wn_none rfl rfl Try.func156 cl156 (ixf_nil f _) ?_)
  rintro e w1 ⟨rfl, hk⟩
  replace K_0 := K_0.then_ hk (fun _ h => h.elim)
  refine ⟨_, rfl, ?_⟩
  clear hE a; intro a hE
  refine q0 p143_1_3 hE (st_geq (b := false) rfl rfl (by decide)) ?_
  clear hE a; intro a hE
  refine q0 p143_1_4 hE (st_assign rfl) ?_
  clear hE a; intro a hE
  refine p_nil ?_
  refine x_norm ?_
  refine wp_ret ?_
  refine ret_one (v := Value.bool false) rfl hE (.tmp rfl .nil) ?_
  exact ⟨rfl, K_0⟩
theorem R110_0_l : List.range (regOf Try.f110 0).size = [0, 1, 2] := by kernel_rfl
theorem R110_1_l : List.range (regOf Try.f110 1).size = [0, 1, 2, 3, 4, 5, 6, 7, 8, 9, 10, 11, 12, 13, 14, 15, 16, 17, 18, 19, 20, 21, 22, 23, 24, 25, 26, 27, 28, 29, 30, 31, 32, 33, 34, 35, 36, 37, 38, 39, 40, 41, 42, 43, 44, 45, 46, 47, 48, 49, 50, 51, 52, 53, 54, 55, 56, 57, 58, 59, 60, 61, 62, 63, 64, 65, 66, 67, 68, 69, 70, 71, 72, 73, 74, 75, 76, 77, 78, 79, 80, 81, 82] := by kernel_rfl
theorem body110 : Try.f110.body = some (.seq (.region 0 (regOf Try.f110 0) false) (.seq (.region 1 (regOf Try.f110 1) false) (.ret))) := by kernel_rfl
theorem p110_0_0 : pj (regOf Try.f110 0) 0 = some (some 2, .box 89 (.tmp 0), 0, none) := by kernel_rfl
theorem p110_0_1 : pj (regOf Try.f110 0) 1 = some (some 3, .box 89 (.tmp 1), 0, none) := by kernel_rfl
theorem p110_0_2 : pj (regOf Try.f110 0) 2 = some (some 4, .assign (.const (.bool false)), 4, none) := by kernel_rfl
theorem p110_1_0 : pj (regOf Try.f110 1) 0 = some (some 5, .fieldAddr 89 (.tmp 2) 0, 0, none) := by kernel_rfl
theorem tS3 : (Try.prog.info? 3).map (·.size) = some 1 := by kernel_rfl
theorem p110_1_1 : pj (regOf Try.f110 1) 1 = some (some 6, .load 3 (.tmp 5), 3, none) := by kernel_rfl
theorem tA3 : (Try.prog.underlying 3).map aggD = some false := by kernel_rfl
theorem p110_1_2 : pj (regOf Try.f110 1) 2 = some (some 7, .fieldAddr 89 (.tmp 3) 0, 0, none) := by kernel_rfl
theorem p110_1_3 : pj (regOf Try.f110 1) 3 = some (some 8, .load 3 (.tmp 7), 3, none) := by kernel_rfl
theorem p110_1_4 : pj (regOf Try.f110 1) 4 = some (some 9, .binOp .eql 3 (.tmp 6) (.tmp 8) 3, 4, none) := by kernel_rfl
theorem p110_1_5 : pj (regOf Try.f110 1) 5 = some (some 10, .move (.tmp 9), 4, none) := by kernel_rfl
theorem p110_1_6 : pj (regOf Try.f110 1) 6 = some (some 11, .fieldAddr 89 (.tmp 2) 1, 0, some (5, true)) := by kernel_rfl
theorem g110_1_5 : dstOf (regOf Try.f110 1) 5 = some 10 := by kernel_rfl
theorem p110_1_7 : pj (regOf Try.f110 1) 7 = some (some 12, .load 3 (.tmp 11), 3, some (5, true)) := by kernel_rfl
theorem p110_1_8 : pj (regOf Try.f110 1) 8 = some (some 13, .fieldAddr 89 (.tmp 3) 1, 0, some (5, true)) := by kernel_rfl
theorem p110_1_9 : pj (regOf Try.f110 1) 9 = some (some 14, .load 3 (.tmp 13), 3, some (5, true)) := by kernel_rfl
theorem p110_1_10 : pj (regOf Try.f110 1) 10 = some (some 15, .binOp .eql 3 (.tmp 12) (.tmp 14) 3, 4, some (5, true)) := by kernel_rfl
theorem p110_1_11 : pj (regOf Try.f110 1) 11 = some (some 16, .pick (.tmp 10) (.tmp 15) (.const (.bool false)), 4, none) := by kernel_rfl
theorem p110_1_12 : pj (regOf Try.f110 1) 12 = some (some 17, .move (.tmp 16), 4, none) := by kernel_rfl
theorem p110_1_13 : pj (regOf Try.f110 1) 13 = some (some 18, .fieldAddr 89 (.tmp 2) 2, 0, some (12, true)) := by kernel_rfl
theorem g110_1_12 : dstOf (regOf Try.f110 1) 12 = some 17 := by kernel_rfl
theorem p110_1_14 : pj (regOf Try.f110 1) 14 = some (some 19, .load 3 (.tmp 18), 3, some (12, true)) := by kernel_rfl
theorem p110_1_15 : pj (regOf Try.f110 1) 15 = some (some 20, .fieldAddr 89 (.tmp 3) 2, 0, some (12, true)) := by kernel_rfl
theorem p110_1_16 : pj (regOf Try.f110 1) 16 = some (some 21, .load 3 (.tmp 20), 3, some (12, true)) := by kernel_rfl
theorem p110_1_17 : pj (regOf Try.f110 1) 17 = some (some 22, .binOp .eql 3 (.tmp 19) (.tmp 21) 3, 4, some (12, true)) := by kernel_rfl
theorem p110_1_18 : pj (regOf Try.f110 1) 18 = some (some 23, .pick (.tmp 17) (.tmp 22) (.const (.bool false)), 4, none) := by kernel_rfl
theorem p110_1_19 : pj (regOf Try.f110 1) 19 = some (some 24, .move (.tmp 23), 4, none) := by kernel_rfl
theorem p110_1_20 : pj (regOf Try.f110 1) 20 = some (some 25, .fieldAddr 89 (.tmp 2) 3, 0, some (19, true)) := by kernel_rfl
theorem g110_1_19 : dstOf (regOf Try.f110 1) 19 = some 24 := by kernel_rfl
theorem p110_1_21 : pj (regOf Try.f110 1) 21 = some (some 26, .load 3 (.tmp 25), 3, some (19, true)) := by kernel_rfl
theorem p110_1_22 : pj (regOf Try.f110 1) 22 = some (some 27, .fieldAddr 89 (.tmp 3) 3, 0, some (19, true)) := by kernel_rfl
theorem p110_1_23 : pj (regOf Try.f110 1) 23 = some (some 28, .load 3 (.tmp 27), 3, some (19, true)) := by kernel_rfl
theorem p110_1_24 : pj (regOf Try.f110 1) 24 = some (some 29, .binOp .eql 3 (.tmp 26) (.tmp 28) 3, 4, some (19, true)) := by kernel_rfl
theorem p110_1_25 : pj (regOf Try.f110 1) 25 = some (some 30, .pick (.tmp 24) (.tmp 29) (.const (.bool false)), 4, none) := by kernel_rfl
theorem p110_1_26 : pj (regOf Try.f110 1) 26 = some (some 31, .move (.tmp 30), 4, none) := by kernel_rfl
theorem p110_1_27 : pj (regOf Try.f110 1) 27 = some (some 32, .fieldAddr 89 (.tmp 2) 4, 0, some (26, true)) := by kernel_rfl
theorem g110_1_26 : dstOf (regOf Try.f110 1) 26 = some 31 := by kernel_rfl
theorem p110_1_28 : pj (regOf Try.f110 1) 28 = some (some 33, .load 3 (.tmp 32), 3, some (26, true)) := by kernel_rfl
theorem p110_1_29 : pj (regOf Try.f110 1) 29 = some (some 34, .fieldAddr 89 (.tmp 3) 4, 0, some (26, true)) := by kernel_rfl
theorem p110_1_30 : pj (regOf Try.f110 1) 30 = some (some 35, .load 3 (.tmp 34), 3, some (26, true)) := by kernel_rfl
theorem p110_1_31 : pj (regOf Try.f110 1) 31 = some (some 36, .binOp .eql 3 (.tmp 33) (.tmp 35) 3, 4, some (26, true)) := by kernel_rfl
theorem p110_1_32 : pj (regOf Try.f110 1) 32 = some (some 37, .pick (.tmp 31) (.tmp 36) (.const (.bool false)), 4, none) := by kernel_rfl
theorem p110_1_33 : pj (regOf Try.f110 1) 33 = some (some 38, .move (.tmp 37), 4, none) := by kernel_rfl
theorem p110_1_34 : pj (regOf Try.f110 1) 34 = some (some 39, .fieldAddr 89 (.tmp 2) 5, 0, some (33, true)) := by kernel_rfl
theorem g110_1_33 : dstOf (regOf Try.f110 1) 33 = some 38 := by kernel_rfl
theorem p110_1_35 : pj (regOf Try.f110 1) 35 = some (some 40, .load 3 (.tmp 39), 3, some (33, true)) := by kernel_rfl
theorem p110_1_36 : pj (regOf Try.f110 1) 36 = some (some 41, .fieldAddr 89 (.tmp 3) 5, 0, some (33, true)) := by kernel_rfl
theorem p110_1_37 : pj (regOf Try.f110 1) 37 = some (some 42, .load 3 (.tmp 41), 3, some (33, true)) := by kernel_rfl
theorem p110_1_38 : pj (regOf Try.f110 1) 38 = some (some 43, .binOp .eql 3 (.tmp 40) (.tmp 42) 3, 4, some (33, true)) := by kernel_rfl
theorem p110_1_39 : pj (regOf Try.f110 1) 39 = some (some 44, .pick (.tmp 38) (.tmp 43) (.const (.bool false)), 4, none) := by kernel_rfl
theorem p110_1_40 : pj (regOf Try.f110 1) 40 = some (some 45, .move (.tmp 44), 4, none) := by kernel_rfl
theorem p110_1_41 : pj (regOf Try.f110 1) 41 = some (some 46, .fieldAddr 89 (.tmp 2) 6, 0, some (40, true)) := by kernel_rfl
theorem g110_1_40 : dstOf (regOf Try.f110 1) 40 = some 45 := by kernel_rfl
theorem p110_1_42 : pj (regOf Try.f110 1) 42 = some (some 47, .load 3 (.tmp 46), 3, some (40, true)) := by kernel_rfl
theorem p110_1_43 : pj (regOf Try.f110 1) 43 = some (some 48, .fieldAddr 89 (.tmp 3) 6, 0, some (40, true)) := by kernel_rfl
theorem p110_1_44 : pj (regOf Try.f110 1) 44 = some (some 49, .load 3 (.tmp 48), 3, some (40, true)) := by kernel_rfl
theorem p110_1_45 : pj (regOf Try.f110 1) 45 = some (some 50, .binOp .eql 3 (.tmp 47) (.tmp 49) 3, 4, some (40, true)) := by kernel_rfl
theorem p110_1_46 : pj (regOf Try.f110 1) 46 = some (some 51, .pick (.tmp 45) (.tmp 50) (.const (.bool false)), 4, none) := by kernel_rfl
theorem p110_1_47 : pj (regOf Try.f110 1) 47 = some (some 52, .move (.tmp 51), 4, none) := by kernel_rfl
theorem p110_1_48 : pj (regOf Try.f110 1) 48 = some (some 53, .fieldAddr 89 (.tmp 2) 7, 0, some (47, true)) := by kernel_rfl
theorem g110_1_47 : dstOf (regOf Try.f110 1) 47 = some 52 := by kernel_rfl
theorem p110_1_49 : pj (regOf Try.f110 1) 49 = some (some 54, .load 3 (.tmp 53), 3, some (47, true)) := by kernel_rfl
theorem p110_1_50 : pj (regOf Try.f110 1) 50 = some (some 55, .fieldAddr 89 (.tmp 3) 7, 0, some (47, true)) := by kernel_rfl
theorem p110_1_51 : pj (regOf Try.f110 1) 51 = some (some 56, .load 3 (.tmp 55), 3, some (47, true)) := by kernel_rfl
theorem p110_1_52 : pj (regOf Try.f110 1) 52 = some (some 57, .binOp .eql 3 (.tmp 54) (.tmp 56) 3, 4, some (47, true)) := by kernel_rfl
theorem p110_1_53 : pj (regOf Try.f110 1) 53 = some (some 58, .pick (.tmp 52) (.tmp 57) (.const (.bool false)), 4, none) := by kernel_rfl
theorem p110_1_54 : pj (regOf Try.f110 1) 54 = some (some 59, .move (.tmp 58), 4, none) := by kernel_rfl
theorem p110_1_55 : pj (regOf Try.f110 1) 55 = some (some 60, .fieldAddr 89 (.tmp 2) 8, 0, some (54, true)) := by kernel_rfl
theorem g110_1_54 : dstOf (regOf Try.f110 1) 54 = some 59 := by kernel_rfl
theorem p110_1_56 : pj (regOf Try.f110 1) 56 = some (some 61, .load 3 (.tmp 60), 3, some (54, true)) := by kernel_rfl
theorem p110_1_57 : pj (regOf Try.f110 1) 57 = some (some 62, .fieldAddr 89 (.tmp 3) 8, 0, some (54, true)) := by kernel_rfl
theorem p110_1_58 : pj (regOf Try.f110 1) 58 = some (some 63, .load 3 (.tmp 62), 3, some (54, true)) := by kernel_rfl
theorem p110_1_59 : pj (regOf Try.f110 1) 59 = some (some 64, .binOp .eql 3 (.tmp 61) (.tmp 63) 3, 4, some (54, true)) := by kernel_rfl
theorem p110_1_60 : pj (regOf Try.f110 1) 60 = some (some 65, .pick (.tmp 59) (.tmp 64) (.const (.bool false)), 4, none) := by kernel_rfl
theorem p110_1_61 : pj (regOf Try.f110 1) 61 = some (some 66, .move (.tmp 65), 4, none) := by kernel_rfl
theorem p110_1_62 : pj (regOf Try.f110 1) 62 = some (some 67, .fieldAddr 89 (.tmp 2) 9, 0, some (61, true)) := by kernel_rfl
theorem g110_1_61 : dstOf (regOf Try.f110 1) 61 = some 66 := by kernel_rfl
theorem tS4 : (Try.prog.info? 4).map (·.size) = some 1 := by kernel_rfl
theorem p110_1_63 : pj (regOf Try.f110 1) 63 = some (some 68, .load 4 (.tmp 67), 4, some (61, true)) := by kernel_rfl
theorem tA4 : (Try.prog.underlying 4).map aggD = some false := by kernel_rfl
theorem p110_1_64 : pj (regOf Try.f110 1) 64 = some (some 69, .fieldAddr 89 (.tmp 3) 9, 0, some (61, true)) := by kernel_rfl
theorem p110_1_65 : pj (regOf Try.f110 1) 65 = some (some 70, .load 4 (.tmp 69), 4, some (61, true)) := by kernel_rfl
theorem p110_1_66 : pj (regOf Try.f110 1) 66 = some (some 71, .binOp .eql 4 (.tmp 68) (.tmp 70) 4, 4, some (61, true)) := by kernel_rfl
theorem p110_1_67 : pj (regOf Try.f110 1) 67 = some (some 72, .pick (.tmp 66) (.tmp 71) (.const (.bool false)), 4, none) := by kernel_rfl
theorem p110_1_68 : pj (regOf Try.f110 1) 68 = some (some 73, .move (.tmp 72), 4, none) := by kernel_rfl
theorem p110_1_69 : pj (regOf Try.f110 1) 69 = some (some 74, .fieldAddr 89 (.tmp 2) 10, 0, some (68, true)) := by kernel_rfl
theorem g110_1_68 : dstOf (regOf Try.f110 1) 68 = some 73 := by kernel_rfl
theorem p110_1_70 : pj (regOf Try.f110 1) 70 = some (some 75, .load 4 (.tmp 74), 4, some (68, true)) := by kernel_rfl
theorem p110_1_71 : pj (regOf Try.f110 1) 71 = some (some 76, .fieldAddr 89 (.tmp 3) 10, 0, some (68, true)) := by kernel_rfl
theorem p110_1_72 : pj (regOf Try.f110 1) 72 = some (some 77, .load 4 (.tmp 76), 4, some (68, true)) := by kernel_rfl
theorem p110_1_73 : pj (regOf Try.f110 1) 73 = some (some 78, .binOp .eql 4 (.tmp 75) (.tmp 77) 4, 4, some (68, true)) := by kernel_rfl
theorem p110_1_74 : pj (regOf Try.f110 1) 74 = some (some 79, .pick (.tmp 73) (.tmp 78) (.const (.bool false)), 4, none) := by kernel_rfl
theorem p110_1_75 : pj (regOf Try.f110 1) 75 = some (some 80, .move (.tmp 79), 4, none) := by kernel_rfl
theorem p110_1_76 : pj (regOf Try.f110 1) 76 = some (some 81, .fieldAddr 89 (.tmp 2) 11, 0, some (75, true)) := by kernel_rfl
theorem g110_1_75 : dstOf (regOf Try.f110 1) 75 = some 80 := by kernel_rfl
theorem p110_1_77 : pj (regOf Try.f110 1) 77 = some (some 82, .load 25 (.tmp 81), 25, some (75, true)) := by kernel_rfl
theorem p110_1_78 : pj (regOf Try.f110 1) 78 = some (some 83, .fieldAddr 89 (.tmp 3) 11, 0, some (75, true)) := by kernel_rfl
theorem p110_1_79 : pj (regOf Try.f110 1) 79 = some (some 84, .load 25 (.tmp 83), 25, some (75, true)) := by kernel_rfl
theorem p110_1_80 : pj (regOf Try.f110 1) 80 = some (some 85, .binOp .eql 25 (.tmp 82) (.tmp 84) 25, 4, some (75, true)) := by kernel_rfl
theorem p110_1_81 : pj (regOf Try.f110 1) 81 = some (some 86, .pick (.tmp 80) (.tmp 85) (.const (.bool false)), 4, none) := by kernel_rfl
theorem p110_1_82 : pj (regOf Try.f110 1) 82 = some (some 4, .assign (.tmp 86), 4, none) := by kernel_rfl
set_option maxHeartbeats 4000000 in
theorem like_dao (w : World) : Calls Try.prog 110 #[Value.agg (([Value.int .i64 2, Value.int .i64 1, Value.int .i64 0, Value.int .i64 0, Value.int .i64 0, Value.int .i64 0, Value.int .i64 0, Value.int .i64 9, Value.int .i64 0, Value.bool false, Value.bool true] ++ b16 (fun _ => 0) ++ [Value.slice none 0 0])).toArray, Value.agg (([Value.int .i64 2, Value.int .i64 1, Value.int .i64 0, Value.int .i64 0, Value.int .i64 0, Value.int .i64 0, Value.int .i64 0, Value.int .i64 9, Value.int .i64 0, Value.bool false, Value.bool true] ++ b16 (fun _ => 0) ++ [Value.slice none 0 0])).toArray] w fun e w' => e = .returned (.bool true) ∧ Kp w w' (fun _ => False) := by
  have K_0 := Kp.refl w (fun _ => False)
  refine enter (args := [Value.agg (([Value.int .i64 2, Value.int .i64 1, Value.int .i64 0, Value.int .i64 0, Value.int .i64 0, Value.int .i64 0, Value.int .i64 0, Value.int .i64 9, Value.int .i64 0, Value.bool false, Value.bool true] ++ b16 (fun _ => 0) ++ [Value.slice none 0 0])).toArray, Value.agg (([Value.int .i64 2, Value.int .i64 1, Value.int .i64 0, Value.int .i64 0, Value.int .i64 0, Value.int .i64 0, Value.int .i64 0, Value.int .i64 9, Value.int .i64 0, Value.bool false, Value.bool true] ++ b16 (fun _ => 0) ++ [Value.slice none 0 0])).toArray]) (n := 87) Try.func110 body110 rfl rfl rfl ?_
  intro a hE
  refine c_reg R110_0_l ?_
  refine p_cons (s_box p110_0_0 hE wn_none rfl rfl ?_)
  clear hE a; intro g1 w2 z3 B_g1 hk a hE
  replace B_g1 : w2.heap[g1]? = some (.cells (([Value.int .i64 2, Value.int .i64 1, Value.int .i64 0, Value.int .i64 0, Value.int .i64 0, Value.int .i64 0, Value.int .i64 0, Value.int .i64 9, Value.int .i64 0, Value.bool false, Value.bool true] ++ b16 (fun _ => 0) ++ [Value.slice none 0 0])).toArray 89 (0, 0)) := B_g1
  have z_0_g1 := Nat.le_trans K_0.kept.1 z3
  replace K_0 := K_0.then_ hk (fun _ h => h.elim)
  clear hk
  refine p_cons (s_box p110_0_1 hE wn_none rfl rfl ?_)
  clear hE a; intro g4 w5 z6 B_g4 hk a hE
  replace B_g4 : w5.heap[g4]? = some (.cells (([Value.int .i64 2, Value.int .i64 1, Value.int .i64 0, Value.int .i64 0, Value.int .i64 0, Value.int .i64 0, Value.int .i64 0, Value.int .i64 9, Value.int .i64 0, Value.bool false, Value.bool true] ++ b16 (fun _ => 0) ++ [Value.slice none 0 0])).toArray 89 (0, 0)) := B_g4
  have n_g1_g4 : g1 ≠ g4 := ne_new B_g1 z6
  have z_0_g4 := Nat.le_trans K_0.kept.1 z6
  replace B_g1 := kp_blk B_g1 hk (fun h => h)
  replace K_0 := K_0.then_ hk (fun _ h => h.elim)
  clear hk
  refine q0 p110_0_2 hE (st_assign rfl) ?_
  clear hE a; intro a hE
  refine p_nil ?_
  refine x_norm ?_
  refine c_reg R110_1_l ?_
  refine q0 p110_1_0 hE (st_fieldAddr Try.underlying89 rfl tS3 rfl rfl) ?_
  clear hE a; intro a hE
  refine q0 p110_1_1 hE (st_load1 tA3 rfl ((blk_cell B_g1 0).trans rfl)) ?_
  clear hE a; intro a hE
  refine q0 p110_1_2 hE (st_fieldAddr Try.underlying89 rfl tS3 rfl rfl) ?_
  clear hE a; intro a hE
  refine q0 p110_1_3 hE (st_load1 tA3 rfl ((blk_cell B_g4 0).trans rfl)) ?_
  clear hE a; intro a hE
  refine q0 p110_1_4 hE (st_eql (b := true) rfl rfl (by decide)) ?_
  clear hE a; intro a hE
  refine q0 p110_1_5 hE (st_move rfl) ?_
  clear hE a; intro a hE
  refine p_cons (s_still p110_1_6 hE (wn_some g110_1_5 rfl rfl) rfl (st_fieldAddr Try.underlying89 rfl tS3 rfl rfl) ?_)
  clear hE a; intro a hE
  refine p_cons (s_still p110_1_7 hE (wn_some g110_1_5 rfl rfl) rfl (st_load1 tA3 rfl ((blk_cell B_g1 1).trans rfl)) ?_)
  clear hE a; intro a hE
  refine p_cons (s_still p110_1_8 hE (wn_some g110_1_5 rfl rfl) rfl (st_fieldAddr Try.underlying89 rfl tS3 rfl rfl) ?_)
  clear hE a; intro a hE
  refine p_cons (s_still p110_1_9 hE (wn_some g110_1_5 rfl rfl) rfl (st_load1 tA3 rfl ((blk_cell B_g4 1).trans rfl)) ?_)
  clear hE a; intro a hE
  refine p_cons (s_still p110_1_10 hE (wn_some g110_1_5 rfl rfl) rfl (st_eql (b := true) rfl rfl (by decide)) ?_)
  clear hE a; intro a hE
  refine q0 p110_1_11 hE (st_pick rfl rfl) ?_
  clear hE a; intro a hE
  refine q0 p110_1_12 hE (st_move rfl) ?_
  clear hE a; intro a hE
  refine p_cons (s_still p110_1_13 hE (wn_some g110_1_12 rfl rfl) rfl (st_fieldAddr Try.underlying89 rfl tS3 rfl rfl) ?_)
  clear hE a; intro a hE
  refine p_cons (s_still p110_1_14 hE (wn_some g110_1_12 rfl rfl) rfl (st_load1 tA3 rfl ((blk_cell B_g1 2).trans rfl)) ?_)
  clear hE a; intro a hE
  refine p_cons (s_still p110_1_15 hE (wn_some g110_1_12 rfl rfl) rfl (st_fieldAddr Try.underlying89 rfl tS3 rfl rfl) ?_)
  clear hE a; intro a hE
  refine p_cons (s_still p110_1_16 hE (wn_some g110_1_12 rfl rfl) rfl (st_load1 tA3 rfl ((blk_cell B_g4 2).trans rfl)) ?_)
  clear hE a; intro a hE
  refine p_cons (s_still p110_1_17 hE (wn_some g110_1_12 rfl rfl) rfl (st_eql (b := true) rfl rfl (by decide)) ?_)
  clear hE a; intro a hE
  refine q0 p110_1_18 hE (st_pick rfl rfl) ?_
  clear hE a; intro a hE
  refine q0 p110_1_19 hE (st_move rfl) ?_
  clear hE a; intro a hE
  refine p_cons (s_still p110_1_20 hE (wn_some g110_1_19 rfl rfl) rfl (st_fieldAddr Try.underlying89 rfl tS3 rfl rfl) ?_)
  clear hE a; intro a hE
  refine p_cons (s_still p110_1_21 hE (wn_some g110_1_19 rfl rfl) rfl (st_load1 tA3 rfl ((blk_cell B_g1 3).trans rfl)) ?_)
  clear hE a; intro a hE
  refine p_cons (s_still p110_1_22 hE (wn_some g110_1_19 rfl rfl) rfl (st_fieldAddr Try.underlying89 rfl tS3 rfl rfl) ?_)
  clear hE a; intro a hE
  refine p_cons (s_still p110_1_23 hE (wn_some g110_1_19 rfl rfl) rfl (st_load1 tA3 rfl ((blk_cell B_g4 3).trans rfl)) ?_)
  clear hE a; intro a hE
  refine p_cons (s_still p110_1_24 hE (wn_some g110_1_19 rfl rfl) rfl (st_eql (b := true) rfl rfl (by decide)) ?_)
  clear hE a; intro a hE
  refine q0 p110_1_25 hE (st_pick rfl rfl) ?_
  clear hE a; intro a hE
  refine q0 p110_1_26 hE (st_move rfl) ?_
  clear hE a; intro a hE
  refine p_cons (s_still p110_1_27 hE (wn_some g110_1_26 rfl rfl) rfl (st_fieldAddr Try.underlying89 rfl tS3 rfl rfl) ?_)
  clear hE a; intro a hE
  refine p_cons (s_still p110_1_28 hE (wn_some g110_1_26 rfl rfl) rfl (st_load1 tA3 rfl ((blk_cell B_g1 4).trans rfl)) ?_)
  clear hE a; intro a hE
  refine p_cons (s_still p110_1_29 hE (wn_some g110_1_26 rfl rfl) rfl (st_fieldAddr Try.underlying89 rfl tS3 rfl rfl) ?_)
  clear hE a; intro a hE
  refine p_cons (s_still p110_1_30 hE (wn_some g110_1_26 rfl rfl) rfl (st_load1 tA3 rfl ((blk_cell B_g4 4).trans rfl)) ?_)
  clear hE a; intro a hE
  refine p_cons (s_still p110_1_31 hE (wn_some g110_1_26 rfl rfl) rfl (st_eql (b := true) rfl rfl (by decide)) ?_)
  clear hE a; intro a hE
  refine q0 p110_1_32 hE (st_pick rfl rfl) ?_
  clear hE a; intro a hE
  refine q0 p110_1_33 hE (st_move rfl) ?_
  clear hE a; intro a hE
  refine p_cons (s_still p110_1_34 hE (wn_some g110_1_33 rfl rfl) rfl (st_fieldAddr Try.underlying89 rfl tS3 rfl rfl) ?_)
  clear hE a; intro a hE
  refine p_cons (s_still p110_1_35 hE (wn_some g110_1_33 rfl rfl) rfl (st_load1 tA3 rfl ((blk_cell B_g1 5).trans rfl)) ?_)
  clear hE a; intro a hE
  refine p_cons (s_still p110_1_36 hE (wn_some g110_1_33 rfl rfl) rfl (st_fieldAddr Try.underlying89 rfl tS3 rfl rfl) ?_)
  clear hE a; intro a hE
  refine p_cons (s_still p110_1_37 hE (wn_some g110_1_33 rfl rfl) rfl (st_load1 tA3 rfl ((blk_cell B_g4 5).trans rfl)) ?_)
  clear hE a; intro a hE
  refine p_cons (s_still p110_1_38 hE (wn_some g110_1_33 rfl rfl) rfl (st_eql (b := true) rfl rfl (by decide)) ?_)
  clear hE a; intro a hE
  refine q0 p110_1_39 hE (st_pick rfl rfl) ?_
  clear hE a; intro a hE
  refine q0 p110_1_40 hE (st_move rfl) ?_
  clear hE a; intro a hE
  refine p_cons (s_still p110_1_41 hE (wn_some g110_1_40 rfl rfl) rfl (st_fieldAddr Try.underlying89 rfl tS3 rfl rfl) ?_)
  clear hE a; intro a hE
  refine p_cons (s_still p110_1_42 hE (wn_some g110_1_40 rfl rfl) rfl (st_load1 tA3 rfl ((blk_cell B_g1 6).trans rfl)) ?_)
  clear hE a; intro a hE
  refine p_cons (s_still p110_1_43 hE (wn_some g110_1_40 rfl rfl) rfl (st_fieldAddr Try.underlying89 rfl tS3 rfl rfl) ?_)
  clear hE a; intro a hE
  refine p_cons (s_still p110_1_44 hE (wn_some g110_1_40 rfl rfl) rfl (st_load1 tA3 rfl ((blk_cell B_g4 6).trans rfl)) ?_)
  clear hE a; intro a hE
  refine p_cons (s_still p110_1_45 hE (wn_some g110_1_40 rfl rfl) rfl (st_eql (b := true) rfl rfl (by decide)) ?_)
  clear hE a; intro a hE
  refine q0 p110_1_46 hE (st_pick rfl rfl) ?_
  clear hE a; intro a hE
  refine q0 p110_1_47 hE (st_move rfl) ?_
  clear hE a; intro a hE
  refine p_cons (s_still p110_1_48 hE (wn_some g110_1_47 rfl rfl) rfl (st_fieldAddr Try.underlying89 rfl tS3 rfl rfl) ?_)
  clear hE a; intro a hE
  refine p_cons (s_still p110_1_49 hE (wn_some g110_1_47 rfl rfl) rfl (st_load1 tA3 rfl ((blk_cell B_g1 7).trans rfl)) ?_)
  clear hE a; intro a hE
  refine p_cons (s_still p110_1_50 hE (wn_some g110_1_47 rfl rfl) rfl (st_fieldAddr Try.underlying89 rfl tS3 rfl rfl) ?_)
  clear hE a; intro a hE
  refine p_cons (s_still p110_1_51 hE (wn_some g110_1_47 rfl rfl) rfl (st_load1 tA3 rfl ((blk_cell B_g4 7).trans rfl)) ?_)
  clear hE a; intro a hE
  refine p_cons (s_still p110_1_52 hE (wn_some g110_1_47 rfl rfl) rfl (st_eql (b := true) rfl rfl (by decide)) ?_)
  clear hE a; intro a hE
  refine q0 p110_1_53 hE (st_pick rfl rfl) ?_
  clear hE a; intro a hE
  refine q0 p110_1_54 hE (st_move rfl) ?_
  clear hE a; intro a hE
  refine p_cons (s_still p110_1_55 hE (wn_some g110_1_54 rfl rfl) rfl (st_fieldAddr Try.underlying89 rfl tS3 rfl rfl) ?_)
  clear hE a; intro a hE
  refine p_cons (s_still p110_1_56 hE (wn_some g110_1_54 rfl rfl) rfl (st_load1 tA3 rfl ((blk_cell B_g1 8).trans rfl)) ?_)
  clear hE a; intro a hE
  refine p_cons (s_still p110_1_57 hE (wn_some g110_1_54 rfl rfl) rfl (st_fieldAddr Try.underlying89 rfl tS3 rfl rfl) ?_)
  clear hE a; intro a hE
  refine p_cons (s_still p110_1_58 hE (wn_some g110_1_54 rfl rfl) rfl (st_load1 tA3 rfl ((blk_cell B_g4 8).trans rfl)) ?_)
  clear hE a; intro a hE
  refine p_cons (s_still p110_1_59 hE (wn_some g110_1_54 rfl rfl) rfl (st_eql (b := true) rfl rfl (by decide)) ?_)
  clear hE a; intro a hE
  refine q0 p110_1_60 hE (st_pick rfl rfl) ?_
  clear hE a; intro a hE
  refine q0 p110_1_61 hE (st_move rfl) ?_
  clear hE a; intro a hE
  refine p_cons (s_still p110_1_62 hE (wn_some g110_1_61 rfl rfl) rfl (st_fieldAddr Try.underlying89 rfl tS4 rfl rfl) ?_)
  clear hE a; intro a hE
  refine p_cons (s_still p110_1_63 hE (wn_some g110_1_61 rfl rfl) rfl (st_load1 tA4 rfl ((blk_cell B_g1 9).trans rfl)) ?_)
  clear hE a; intro a hE
  refine p_cons (s_still p110_1_64 hE (wn_some g110_1_61 rfl rfl) rfl (st_fieldAddr Try.underlying89 rfl tS4 rfl rfl) ?_)
  clear hE a; intro a hE
  refine p_cons (s_still p110_1_65 hE (wn_some g110_1_61 rfl rfl) rfl (st_load1 tA4 rfl ((blk_cell B_g4 9).trans rfl)) ?_)
  clear hE a; intro a hE
  refine p_cons (s_still p110_1_66 hE (wn_some g110_1_61 rfl rfl) rfl (st_eqlB (b := true) Try.underlying4 rfl rfl rfl) ?_)
  clear hE a; intro a hE
  refine q0 p110_1_67 hE (st_pick rfl rfl) ?_
  clear hE a; intro a hE
  refine q0 p110_1_68 hE (st_move rfl) ?_
  clear hE a; intro a hE
  refine p_cons (s_still p110_1_69 hE (wn_some g110_1_68 rfl rfl) rfl (st_fieldAddr Try.underlying89 rfl tS4 rfl rfl) ?_)
  clear hE a; intro a hE
  refine p_cons (s_still p110_1_70 hE (wn_some g110_1_68 rfl rfl) rfl (st_load1 tA4 rfl ((blk_cell B_g1 10).trans rfl)) ?_)
  clear hE a; intro a hE
  refine p_cons (s_still p110_1_71 hE (wn_some g110_1_68 rfl rfl) rfl (st_fieldAddr Try.underlying89 rfl tS4 rfl rfl) ?_)
  clear hE a; intro a hE
  refine p_cons (s_still p110_1_72 hE (wn_some g110_1_68 rfl rfl) rfl (st_load1 tA4 rfl ((blk_cell B_g4 10).trans rfl)) ?_)
  clear hE a; intro a hE
  refine p_cons (s_still p110_1_73 hE (wn_some g110_1_68 rfl rfl) rfl (st_eqlB (b := true) Try.underlying4 rfl rfl rfl) ?_)
  clear hE a; intro a hE
  refine q0 p110_1_74 hE (st_pick rfl rfl) ?_
  clear hE a; intro a hE
  refine q0 p110_1_75 hE (st_move rfl) ?_
  clear hE a; intro a hE
  refine p_cons (s_still p110_1_76 hE (wn_some g110_1_75 rfl rfl) rfl (st_fieldAddr Try.underlying89 rfl tS25 rfl rfl) ?_)
  clear hE a; intro a hE
  refine p_cons (s_still p110_1_77 hE (wn_some g110_1_75 rfl rfl) rfl (st_loadN (off := 11) (k := 16) (vs := b16 (fun _ => 0)) tA25 tS25 rfl B_g1 rfl rfl) ?_)
  clear hE a; intro a hE
  refine p_cons (s_still p110_1_78 hE (wn_some g110_1_75 rfl rfl) rfl (st_fieldAddr Try.underlying89 rfl tS25 rfl rfl) ?_)
  clear hE a; intro a hE
  refine p_cons (s_still p110_1_79 hE (wn_some g110_1_75 rfl rfl) rfl (st_loadN (off := 11) (k := 16) (vs := b16 (fun _ => 0)) tA25 tS25 rfl B_g4 rfl rfl) ?_)
  clear hE a; intro a hE
  refine p_cons (s_still p110_1_80 hE (wn_some g110_1_75 rfl rfl) rfl (st_eqlA (b := true) eg25 rfl rfl (eqA25_refl _)) ?_)
  clear hE a; intro a hE
  refine q0 p110_1_81 hE (st_pick rfl rfl) ?_
  clear hE a; intro a hE
  refine q0 p110_1_82 hE (st_assign rfl) ?_
  clear hE a; intro a hE
  refine p_nil ?_
  refine x_norm ?_
  refine wp_ret ?_
  refine ret_one (v := Value.bool true) rfl hE (.tmp rfl .nil) ?_
  exact ⟨rfl, K_0⟩
theorem R99_0_l : List.range (regOf Try.f99 0).size = [0, 1] := by kernel_rfl
theorem R99_1_l : List.range (regOf Try.f99 1).size = [0, 1, 2, 3, 4, 5] := by kernel_rfl
theorem body99 : Try.f99.body = some (.seq (.region 0 (regOf Try.f99 0) false) (.seq (.region 1 (regOf Try.f99 1) false) (.ret))) := by kernel_rfl
theorem p99_0_0 : pj (regOf Try.f99 0) 0 = some (some 1, .box 89 (.tmp 0), 0, none) := by kernel_rfl
theorem p99_0_1 : pj (regOf Try.f99 0) 1 = some (some 2, .assign (.const (.bool false)), 4, none) := by kernel_rfl
theorem p99_1_0 : pj (regOf Try.f99 1) 0 = some (some 3, .fieldAddr 89 (.tmp 1) 12, 0, none) := by kernel_rfl
theorem tS58 : (Try.prog.info? 58).map (·.size) = some 1 := by kernel_rfl
theorem p99_1_1 : pj (regOf Try.f99 1) 1 = some (some 4, .load 58 (.tmp 3), 58, none) := by kernel_rfl
theorem tA58 : (Try.prog.underlying 58).map aggD = some false := by kernel_rfl
theorem p99_1_2 : pj (regOf Try.f99 1) 2 = some (some 5, .makeFunc (.func 144) #[] #[.tmp 1], 216, none) := by kernel_rfl
theorem p99_1_3 : pj (regOf Try.f99 1) 3 = some (some 6, .call { callee := .value (.func 143), args := #[.tmp 4, .tmp 5], argTypes := #[58, 216] }, 4, none) := by kernel_rfl
theorem cl143 : callable Try.f143 = true := by kernel_rfl
theorem p99_1_4 : pj (regOf Try.f99 1) 4 = some (some 7, .unOp .not 4 (.tmp 6), 4, none) := by kernel_rfl
theorem p99_1_5 : pj (regOf Try.f99 1) 5 = some (some 2, .assign (.tmp 7), 4, none) := by kernel_rfl
set_option maxHeartbeats 4000000 in
theorem maym_dao (w : World) : Calls Try.prog 99 #[Value.agg (([Value.int .i64 2, Value.int .i64 1, Value.int .i64 0, Value.int .i64 0, Value.int .i64 0, Value.int .i64 0, Value.int .i64 0, Value.int .i64 9, Value.int .i64 0, Value.bool false, Value.bool true] ++ b16 (fun _ => 0) ++ [Value.slice none 0 0])).toArray] w fun e w' => e = .returned (.bool true) ∧ Kp w w' (fun _ => False) := by
  have K_0 := Kp.refl w (fun _ => False)
  refine enter (args := [Value.agg (([Value.int .i64 2, Value.int .i64 1, Value.int .i64 0, Value.int .i64 0, Value.int .i64 0, Value.int .i64 0, Value.int .i64 0, Value.int .i64 9, Value.int .i64 0, Value.bool false, Value.bool true] ++ b16 (fun _ => 0) ++ [Value.slice none 0 0])).toArray]) (n := 8) Try.func99 body99 rfl rfl rfl ?_
  intro a hE
  refine c_reg R99_0_l ?_
  refine p_cons (s_box p99_0_0 hE wn_none rfl rfl ?_)
  clear hE a; intro g1 w2 z3 B_g1 hk a hE
  replace B_g1 : w2.heap[g1]? = some (.cells (([Value.int .i64 2, Value.int .i64 1, Value.int .i64 0, Value.int .i64 0, Value.int .i64 0, Value.int .i64 0, Value.int .i64 0, Value.int .i64 9, Value.int .i64 0, Value.bool false, Value.bool true] ++ b16 (fun _ => 0) ++ [Value.slice none 0 0])).toArray 89 (0, 0)) := B_g1
  have z_0_g1 := Nat.le_trans K_0.kept.1 z3
  replace K_0 := K_0.then_ hk (fun _ h => h.elim)
  clear hk
  refine q0 p99_0_1 hE (st_assign rfl) ?_
  clear hE a; intro a hE
  refine p_nil ?_
  refine x_norm ?_
  refine c_reg R99_1_l ?_
  refine q0 p99_1_0 hE (st_fieldAddr Try.underlying89 rfl tS58 rfl rfl) ?_
  clear hE a; intro a hE
  refine q0 p99_1_1 hE (st_load1 tA58 rfl ((blk_cell B_g1 27).trans rfl)) ?_
  clear hE a; intro a hE
  refine q0 p99_1_2 hE (st_func (first := []) (captured := [Operand.tmp 1]) rfl rfl) ?_
  clear hE a; intro a hE
  refine p_cons (s_call (xs := [Operand.tmp 4, Operand.tmp 5]) (args := [Value.slice none 0 0, Value.func (.func 144) #[] #[Value.pointer (some ⟨g1, 0, none⟩)]]) p99_1_3 hE wn_none rfl rfl Try.func143 cl143 (cf_nil (Value.func (.func 144) #[] #[Value.pointer (some ⟨g1, 0, none⟩)]) _) ?_)
  rintro e w4 ⟨rfl, hk⟩
  replace B_g1 := kp_blk B_g1 hk (fun h => h)
  replace K_0 := K_0.then_ hk (fun _ h => h.elim)
  refine ⟨_, rfl, ?_⟩
  clear hE a; intro a hE
  refine q0 p99_1_4 hE (st_not rfl rfl) ?_
  clear hE a; intro a hE
  refine q0 p99_1_5 hE (st_assign rfl) ?_
  clear hE a; intro a hE
  refine p_nil ?_
  refine x_norm ?_
  refine wp_ret ?_
  refine ret_one (v := Value.bool true) rfl hE (.tmp rfl .nil) ?_
  exact ⟨rfl, K_0⟩
theorem R111_0_l : List.range (regOf Try.f111 0).size = [0, 1] := by kernel_rfl
theorem R111_1_l : List.range (regOf Try.f111 1).size = [0, 1, 2, 3, 4, 5, 6] := by kernel_rfl
theorem R111_2_l : List.range (regOf Try.f111 2).size = [0, 1] := by kernel_rfl
theorem R111_3_l : List.range (regOf Try.f111 3).size = [0, 1] := by kernel_rfl
theorem R111_4_l : List.range (regOf Try.f111 4).size = [0, 1, 2, 3, 4, 5, 6, 7, 8, 9, 10, 11] := by kernel_rfl
theorem R111_5_l : List.range (regOf Try.f111 5).size = [0, 1, 2, 3, 4, 5, 6, 7, 8, 9, 10, 11] := by kernel_rfl
theorem R111_6_l : List.range (regOf Try.f111 6).size = [0, 1, 2, 3, 4, 5, 6, 7] := by kernel_rfl
theorem R111_7_l : List.range (regOf Try.f111 7).size = [0, 1] := by kernel_rfl
theorem R111_8_l : List.range (regOf Try.f111 8).size = [0, 1, 2, 3, 4, 5, 6, 7, 8, 9, 10, 11, 12, 13, 14, 15] := by kernel_rfl
theorem R111_9_l : List.range (regOf Try.f111 9).size = [0, 1] := by kernel_rfl
theorem R111_10_l : List.range (regOf Try.f111 10).size = [0, 1, 2, 3, 4, 5, 6, 7, 8, 9, 10, 11, 12, 13, 14, 15] := by kernel_rfl
theorem R111_11_l : List.range (regOf Try.f111 11).size = [0, 1] := by kernel_rfl
theorem body111 : Try.f111.body = some (.seq (.region 0 (regOf Try.f111 0) false) (.seq (.region 1 (regOf Try.f111 1) false) (.seq (.seq (.region 2 (regOf Try.f111 2) false) (.block 0 (.seq (.region 3 (regOf Try.f111 3) false) (.cond (Operand.tmp 11) (.seq (.region 4 (regOf Try.f111 4) true) (.seq (.region 5 (regOf Try.f111 5) true) (.region 6 (regOf Try.f111 6) true))) (.seq (.region 7 (regOf Try.f111 7) false) (.cond (Operand.tmp 37) (.region 8 (regOf Try.f111 8) true) (.seq (.region 9 (regOf Try.f111 9) false) (.cond (Operand.tmp 51) (.region 10 (regOf Try.f111 10) true) (.skip))))))))) (.seq (.region 11 (regOf Try.f111 11) false) (.ret))))) := by kernel_rfl
theorem p111_0_0 : pj (regOf Try.f111 0) 0 = some (some 1, .box 89 (.tmp 0), 0, none) := by kernel_rfl
theorem p111_0_1 : pj (regOf Try.f111 0) 1 = some (some 2, .alloc 89, 0, none) := by kernel_rfl
theorem tZ89 : (Try.prog.info? 89).bind (·.zero) = some (Value.agg (([Value.int .i64 0, Value.int .i64 0, Value.int .i64 0, Value.int .i64 0, Value.int .i64 0, Value.int .i64 0, Value.int .i64 0, Value.int .i64 0, Value.int .i64 0, Value.bool false, Value.bool false] ++ b16 (fun _ => 0) ++ [Value.slice none 0 0])).toArray) := by kernel_rfl
theorem p111_1_0 : pj (regOf Try.f111 1) 0 = some (some 4, .fieldAddr 89 (.tmp 1) 0, 0, none) := by kernel_rfl
theorem p111_1_1 : pj (regOf Try.f111 1) 1 = some (some 5, .load 3 (.tmp 4), 3, none) := by kernel_rfl
theorem p111_1_2 : pj (regOf Try.f111 1) 2 = some (some 6, .fieldAddr 89 (.tmp 1) 12, 0, none) := by kernel_rfl
theorem p111_1_3 : pj (regOf Try.f111 1) 3 = some (some 7, .load 58 (.tmp 6), 58, none) := by kernel_rfl
theorem p111_1_4 : pj (regOf Try.f111 1) 4 = some (some 8, .build 89 #[(0, .tmp 5), (12, .tmp 7)], 89, none) := by kernel_rfl
theorem p111_1_5 : pj (regOf Try.f111 1) 5 = some (some 3, .alloc 89, 0, none) := by kernel_rfl
theorem p111_1_6 : pj (regOf Try.f111 1) 6 = some (none, .store 89 (.tmp 3) (.tmp 8), 0, none) := by kernel_rfl
theorem tS89 : (Try.prog.info? 89).map (·.size) = some 28 := by kernel_rfl
theorem p111_2_0 : pj (regOf Try.f111 2) 0 = some (some 9, .fieldAddr 89 (.tmp 1) 0, 0, none) := by kernel_rfl
theorem p111_2_1 : pj (regOf Try.f111 2) 1 = some (some 10, .load 3 (.tmp 9), 3, none) := by kernel_rfl
theorem p111_3_0 : pj (regOf Try.f111 3) 0 = some (some 12, .binOp .eql 3 (.tmp 10) (.const (.int .i64 1)) 3, 4, none) := by kernel_rfl
theorem p111_3_1 : pj (regOf Try.f111 3) 1 = some (some 11, .assign (.tmp 12), 4, none) := by kernel_rfl
theorem p111_7_0 : pj (regOf Try.f111 7) 0 = some (some 38, .binOp .eql 3 (.tmp 10) (.const (.int .i64 2)) 3, 4, none) := by kernel_rfl
theorem p111_7_1 : pj (regOf Try.f111 7) 1 = some (some 37, .assign (.tmp 38), 4, none) := by kernel_rfl
theorem ns111_8 : Region.noSelect (regOf Try.f111 8) = true := by kernel_rfl
theorem p111_8_0 : pj (regOf Try.f111 8) 0 = some (some 39, .fieldAddr 89 (.tmp 1) 1, 0, none) := by kernel_rfl
theorem p111_8_1 : pj (regOf Try.f111 8) 1 = some (some 40, .load 3 (.tmp 39), 3, none) := by kernel_rfl
theorem p111_8_2 : pj (regOf Try.f111 8) 2 = some (some 41, .fieldAddr 89 (.tmp 1) 10, 0, none) := by kernel_rfl
theorem p111_8_3 : pj (regOf Try.f111 8) 3 = some (some 42, .load 4 (.tmp 41), 4, none) := by kernel_rfl
theorem p111_8_4 : pj (regOf Try.f111 8) 4 = some (some 43, .fieldAddr 89 (.tmp 1) 7, 0, none) := by kernel_rfl
theorem p111_8_5 : pj (regOf Try.f111 8) 5 = some (some 44, .load 3 (.tmp 43), 3, none) := by kernel_rfl
theorem p111_8_6 : pj (regOf Try.f111 8) 6 = some (some 45, .fieldAddr 89 (.tmp 1) 11, 0, none) := by kernel_rfl
theorem p111_8_7 : pj (regOf Try.f111 8) 7 = some (some 46, .load 25 (.tmp 45), 25, none) := by kernel_rfl
theorem p111_8_8 : pj (regOf Try.f111 8) 8 = some (some 47, .fieldAddr 89 (.tmp 3) 1, 0, none) := by kernel_rfl
theorem p111_8_9 : pj (regOf Try.f111 8) 9 = some (none, .store 3 (.tmp 47) (.tmp 40), 0, none) := by kernel_rfl
theorem p111_8_10 : pj (regOf Try.f111 8) 10 = some (some 48, .fieldAddr 89 (.tmp 3) 10, 0, none) := by kernel_rfl
theorem p111_8_11 : pj (regOf Try.f111 8) 11 = some (none, .store 4 (.tmp 48) (.tmp 42), 0, none) := by kernel_rfl
theorem p111_8_12 : pj (regOf Try.f111 8) 12 = some (some 49, .fieldAddr 89 (.tmp 3) 7, 0, none) := by kernel_rfl
theorem p111_8_13 : pj (regOf Try.f111 8) 13 = some (none, .store 3 (.tmp 49) (.tmp 44), 0, none) := by kernel_rfl
theorem p111_8_14 : pj (regOf Try.f111 8) 14 = some (some 50, .fieldAddr 89 (.tmp 3) 11, 0, none) := by kernel_rfl
theorem p111_8_15 : pj (regOf Try.f111 8) 15 = some (none, .store 25 (.tmp 50) (.tmp 46), 0, none) := by kernel_rfl
theorem p111_11_0 : pj (regOf Try.f111 11) 0 = some (some 65, .load 89 (.tmp 3), 89, none) := by kernel_rfl
theorem tA89 : (Try.prog.underlying 89).map aggD = some true := by kernel_rfl
theorem p111_11_1 : pj (regOf Try.f111 11) 1 = some (none, .store 89 (.tmp 2) (.tmp 65), 0, none) := by kernel_rfl
set_option maxHeartbeats 4000000 in
theorem kept_dao (w : World) : Calls Try.prog 111 #[Value.agg (([Value.int .i64 2, Value.int .i64 1, Value.int .i64 0, Value.int .i64 0, Value.int .i64 0, Value.int .i64 0, Value.int .i64 0, Value.int .i64 9, Value.int .i64 0, Value.bool false, Value.bool true] ++ b16 (fun _ => 0) ++ [Value.slice none 0 0])).toArray] w fun e w' => e = .returned (Value.agg (([Value.int .i64 2, Value.int .i64 1, Value.int .i64 0, Value.int .i64 0, Value.int .i64 0, Value.int .i64 0, Value.int .i64 0, Value.int .i64 9, Value.int .i64 0, Value.bool false, Value.bool true] ++ b16 (fun _ => 0) ++ [Value.slice none 0 0])).toArray) ∧ Kp w w' (fun _ => False) := by
  have K_0 := Kp.refl w (fun _ => False)
  refine enter (args := [Value.agg (([Value.int .i64 2, Value.int .i64 1, Value.int .i64 0, Value.int .i64 0, Value.int .i64 0, Value.int .i64 0, Value.int .i64 0, Value.int .i64 9, Value.int .i64 0, Value.bool false, Value.bool true] ++ b16 (fun _ => 0) ++ [Value.slice none 0 0])).toArray]) (n := 66) Try.func111 body111 rfl rfl rfl ?_
  intro a hE
  refine c_reg R111_0_l ?_
  refine p_cons (s_box p111_0_0 hE wn_none rfl rfl ?_)
  clear hE a; intro g1 w2 z3 B_g1 hk a hE
  replace B_g1 : w2.heap[g1]? = some (.cells (([Value.int .i64 2, Value.int .i64 1, Value.int .i64 0, Value.int .i64 0, Value.int .i64 0, Value.int .i64 0, Value.int .i64 0, Value.int .i64 9, Value.int .i64 0, Value.bool false, Value.bool true] ++ b16 (fun _ => 0) ++ [Value.slice none 0 0])).toArray 89 (0, 0)) := B_g1
  have z_0_g1 := Nat.le_trans K_0.kept.1 z3
  replace K_0 := K_0.then_ hk (fun _ h => h.elim)
  clear hk
  refine p_cons (s_alloc p111_0_1 hE wn_none rfl tZ89 ?_)
  clear hE a; intro g4 w5 z6 B_g4 hk a hE
  replace B_g4 : w5.heap[g4]? = some (.cells (([Value.int .i64 0, Value.int .i64 0, Value.int .i64 0, Value.int .i64 0, Value.int .i64 0, Value.int .i64 0, Value.int .i64 0, Value.int .i64 0, Value.int .i64 0, Value.bool false, Value.bool false] ++ b16 (fun _ => 0) ++ [Value.slice none 0 0])).toArray 89 (0, 0)) := B_g4
  have n_g1_g4 : g1 ≠ g4 := ne_new B_g1 z6
  have z_0_g4 := Nat.le_trans K_0.kept.1 z6
  replace B_g1 := kp_blk B_g1 hk (fun h => h)
  replace K_0 := K_0.then_ hk (fun _ h => h.elim)
  clear hk
  refine p_nil ?_
  refine x_norm ?_
  refine c_reg R111_1_l ?_
  refine q0 p111_1_0 hE (st_fieldAddr Try.underlying89 rfl tS3 rfl rfl) ?_
  clear hE a; intro a hE
  refine q0 p111_1_1 hE (st_load1 tA3 rfl ((blk_cell B_g1 0).trans rfl)) ?_
  clear hE a; intro a hE
  refine q0 p111_1_2 hE (st_fieldAddr Try.underlying89 rfl tS58 rfl rfl) ?_
  clear hE a; intro a hE
  refine q0 p111_1_3 hE (st_load1 tA58 rfl ((blk_cell B_g1 27).trans rfl)) ?_
  clear hE a; intro a hE
  refine q0 p111_1_4 hE (st_build (xs := [(0, Operand.tmp 5), (12, Operand.tmp 7)]) (vs := [(0, Value.int .i64 2), (12, Value.slice none 0 0)]) (cs := (([Value.int .i64 2, Value.int .i64 0, Value.int .i64 0, Value.int .i64 0, Value.int .i64 0, Value.int .i64 0, Value.int .i64 0, Value.int .i64 0, Value.int .i64 0, Value.bool false, Value.bool false] ++ b16 (fun _ => 0) ++ [Value.slice none 0 0])).toArray) rfl (by kernel_rfl)) ?_
  clear hE a; intro a hE
  refine p_cons (s_alloc p111_1_5 hE wn_none rfl tZ89 ?_)
  clear hE a; intro g7 w8 z9 B_g7 hk a hE
  replace B_g7 : w8.heap[g7]? = some (.cells (([Value.int .i64 0, Value.int .i64 0, Value.int .i64 0, Value.int .i64 0, Value.int .i64 0, Value.int .i64 0, Value.int .i64 0, Value.int .i64 0, Value.int .i64 0, Value.bool false, Value.bool false] ++ b16 (fun _ => 0) ++ [Value.slice none 0 0])).toArray 89 (0, 0)) := B_g7
  have n_g1_g7 : g1 ≠ g7 := ne_new B_g1 z9
  have n_g4_g7 : g4 ≠ g7 := ne_new B_g4 z9
  have z_0_g7 := Nat.le_trans K_0.kept.1 z9
  replace B_g1 := kp_blk B_g1 hk (fun h => h)
  replace B_g4 := kp_blk B_g4 hk (fun h => h)
  replace K_0 := K_0.then_ hk (fun _ h => h.elim)
  clear hk
  refine p_cons (s_store (off := 0) (k := 28) (cs' := (([Value.int .i64 2, Value.int .i64 0, Value.int .i64 0, Value.int .i64 0, Value.int .i64 0, Value.int .i64 0, Value.int .i64 0, Value.int .i64 0, Value.int .i64 0, Value.bool false, Value.bool false] ++ b16 (fun _ => 0) ++ [Value.slice none 0 0])).toArray) p111_1_6 hE wn_none tS89 rfl rfl rfl rfl B_g7 (Nat.le_of_ble_eq_true rfl) rfl ?_)
  intro w10 B_g7' hk
  replace B_g1 := kp_blk B_g1 hk n_g1_g7
  replace B_g4 := kp_blk B_g4 hk n_g4_g7
  replace K_0 := K_0.then_ hk (fun k h => by rw [show k = g7 from h]; exact Or.inr z_0_g7)
  replace B_g7 := B_g7'
  clear hk
  refine p_nil ?_
  refine x_norm ?_
  refine wp_seq ?_
  refine c_reg R111_2_l ?_
  refine q0 p111_2_0 hE (st_fieldAddr Try.underlying89 rfl tS3 rfl rfl) ?_
  clear hE a; intro a hE
  refine q0 p111_2_1 hE (st_load1 tA3 rfl ((blk_cell B_g1 0).trans rfl)) ?_
  clear hE a; intro a hE
  refine p_nil ?_
  refine x_norm ?_
  refine wp_block ?_
  refine c_reg R111_3_l ?_
  refine q0 p111_3_0 hE (st_eql (b := false) rfl rfl (by decide)) ?_
  clear hE a; intro a hE
  refine q0 p111_3_1 hE (st_assign rfl) ?_
  clear hE a; intro a hE
  refine p_nil ?_
  refine x_norm ?_
  refine c_cond (t := false) hE rfl ?_
  refine c_reg R111_7_l ?_
  refine q0 p111_7_0 hE (st_eql (b := true) rfl rfl (by decide)) ?_
  clear hE a; intro a hE
  refine q0 p111_7_1 hE (st_assign rfl) ?_
  clear hE a; intro a hE
  refine p_nil ?_
  refine x_norm ?_
  refine c_cond (t := true) hE rfl ?_
  refine c_draw (S := fun W => W.heap[g1]? = some (.cells (([Value.int .i64 2, Value.int .i64 1, Value.int .i64 0, Value.int .i64 0, Value.int .i64 0, Value.int .i64 0, Value.int .i64 0, Value.int .i64 9, Value.int .i64 0, Value.bool false, Value.bool true] ++ b16 (fun _ => 0) ++ [Value.slice none 0 0])).toArray 89 (0, 0)) ∧ True) rfl rfl (listed := #[false, false, false, false, false, false, false, false, false, false, false, false, false, false, false, false]) rfl ?_
  intro w11 hh hk
  replace B_g1 := kp_blk B_g1 hk (fun h => h)
  replace B_g4 := kp_blk B_g4 hk (fun h => h)
  replace B_g7 := kp_blk B_g7 hk (fun h => h)
  replace K_0 := K_0.then_ hk (fun _ h => h.elim)
  clear hh hk
  refine d_take (v := Value.pointer (some ⟨g1, 1, none⟩)) p111_8_0 ns111_8 (by kernel_rfl) (by kernel_rfl) (fun _ _ _ h => h) hE wn_none rfl ⟨B_g1, trivial⟩ (fun W hS => (st_fieldAddr Try.underlying89 rfl tS3 rfl rfl)) rfl ?_
  clear hE a; intro a hE
  refine d_take (v := Value.int .i64 1) p111_8_1 ns111_8 (by kernel_rfl) (by kernel_rfl) (fun _ _ _ h => h) hE wn_none rfl ⟨B_g1, trivial⟩ (fun W hS => (st_load1 tA3 rfl ((blk_cell hS.1 1).trans rfl))) rfl ?_
  clear hE a; intro a hE
  refine d_take (v := Value.pointer (some ⟨g1, 10, none⟩)) p111_8_2 ns111_8 (by kernel_rfl) (by kernel_rfl) (fun _ _ _ h => h) hE wn_none rfl ⟨B_g1, trivial⟩ (fun W hS => (st_fieldAddr Try.underlying89 rfl tS4 rfl rfl)) rfl ?_
  clear hE a; intro a hE
  refine d_take (v := Value.bool true) p111_8_3 ns111_8 (by kernel_rfl) (by kernel_rfl) (fun _ _ _ h => h) hE wn_none rfl ⟨B_g1, trivial⟩ (fun W hS => (st_load1 tA4 rfl ((blk_cell hS.1 10).trans rfl))) rfl ?_
  clear hE a; intro a hE
  refine d_take (v := Value.pointer (some ⟨g1, 7, none⟩)) p111_8_4 ns111_8 (by kernel_rfl) (by kernel_rfl) (fun _ _ _ h => h) hE wn_none rfl ⟨B_g1, trivial⟩ (fun W hS => (st_fieldAddr Try.underlying89 rfl tS3 rfl rfl)) rfl ?_
  clear hE a; intro a hE
  refine d_take (v := Value.int .i64 9) p111_8_5 ns111_8 (by kernel_rfl) (by kernel_rfl) (fun _ _ _ h => h) hE wn_none rfl ⟨B_g1, trivial⟩ (fun W hS => (st_load1 tA3 rfl ((blk_cell hS.1 7).trans rfl))) rfl ?_
  clear hE a; intro a hE
  refine d_take (v := Value.pointer (some ⟨g1, 11, none⟩)) p111_8_6 ns111_8 (by kernel_rfl) (by kernel_rfl) (fun _ _ _ h => h) hE wn_none rfl ⟨B_g1, trivial⟩ (fun W hS => (st_fieldAddr Try.underlying89 rfl tS25 rfl rfl)) rfl ?_
  clear hE a; intro a hE
  refine d_take (v := Value.agg (b16 (fun _ => 0)).toArray) p111_8_7 ns111_8 (by kernel_rfl) (by kernel_rfl) (fun _ _ _ h => h) hE wn_none rfl ⟨B_g1, trivial⟩ (fun W hS => (st_loadN (off := 11) (k := 16) (vs := b16 (fun _ => 0)) tA25 tS25 rfl hS.1 rfl rfl)) rfl ?_
  clear hE a; intro a hE
  refine d_take (v := Value.pointer (some ⟨g7, 1, none⟩)) p111_8_8 ns111_8 (by kernel_rfl) (by kernel_rfl) (fun _ _ _ h => h) hE wn_none rfl ⟨B_g1, trivial⟩ (fun W hS => (st_fieldAddr Try.underlying89 rfl tS3 rfl rfl)) rfl ?_
  clear hE a; intro a hE
  refine d_one (by kernel_rfl) rfl (s_store (off := 1) (k := 1) (cs' := (([Value.int .i64 2, Value.int .i64 1, Value.int .i64 0, Value.int .i64 0, Value.int .i64 0, Value.int .i64 0, Value.int .i64 0, Value.int .i64 0, Value.int .i64 0, Value.bool false, Value.bool false] ++ b16 (fun _ => 0) ++ [Value.slice none 0 0])).toArray) p111_8_9 hE wn_none tS3 rfl rfl rfl rfl B_g7 (Nat.le_of_ble_eq_true rfl) rfl ?_)
  intro w12 B_g7' hk
  replace B_g1 := kp_blk B_g1 hk n_g1_g7
  replace B_g4 := kp_blk B_g4 hk n_g4_g7
  replace K_0 := K_0.then_ hk (fun k h => by rw [show k = g7 from h]; exact Or.inr z_0_g7)
  replace B_g7 := B_g7'
  clear hk
  refine ⟨⟨B_g1, trivial⟩, ?_⟩
  refine d_take (v := Value.pointer (some ⟨g7, 10, none⟩)) p111_8_10 ns111_8 (by kernel_rfl) (by kernel_rfl) (fun _ _ _ h => h) hE wn_none rfl ⟨B_g1, trivial⟩ (fun W hS => (st_fieldAddr Try.underlying89 rfl tS4 rfl rfl)) rfl ?_
  clear hE a; intro a hE
  refine d_one (by kernel_rfl) rfl (s_store (off := 10) (k := 1) (cs' := (([Value.int .i64 2, Value.int .i64 1, Value.int .i64 0, Value.int .i64 0, Value.int .i64 0, Value.int .i64 0, Value.int .i64 0, Value.int .i64 0, Value.int .i64 0, Value.bool false, Value.bool true] ++ b16 (fun _ => 0) ++ [Value.slice none 0 0])).toArray) p111_8_11 hE wn_none tS4 rfl rfl rfl rfl B_g7 (Nat.le_of_ble_eq_true rfl) rfl ?_)
  intro w13 B_g7' hk
  replace B_g1 := kp_blk B_g1 hk n_g1_g7
  replace B_g4 := kp_blk B_g4 hk n_g4_g7
  replace K_0 := K_0.then_ hk (fun k h => by rw [show k = g7 from h]; exact Or.inr z_0_g7)
  replace B_g7 := B_g7'
  clear hk
  refine ⟨⟨B_g1, trivial⟩, ?_⟩
  refine d_take (v := Value.pointer (some ⟨g7, 7, none⟩)) p111_8_12 ns111_8 (by kernel_rfl) (by kernel_rfl) (fun _ _ _ h => h) hE wn_none rfl ⟨B_g1, trivial⟩ (fun W hS => (st_fieldAddr Try.underlying89 rfl tS3 rfl rfl)) rfl ?_
  clear hE a; intro a hE
  refine d_one (by kernel_rfl) rfl (s_store (off := 7) (k := 1) (cs' := (([Value.int .i64 2, Value.int .i64 1, Value.int .i64 0, Value.int .i64 0, Value.int .i64 0, Value.int .i64 0, Value.int .i64 0, Value.int .i64 9, Value.int .i64 0, Value.bool false, Value.bool true] ++ b16 (fun _ => 0) ++ [Value.slice none 0 0])).toArray) p111_8_13 hE wn_none tS3 rfl rfl rfl rfl B_g7 (Nat.le_of_ble_eq_true rfl) rfl ?_)
  intro w14 B_g7' hk
  replace B_g1 := kp_blk B_g1 hk n_g1_g7
  replace B_g4 := kp_blk B_g4 hk n_g4_g7
  replace K_0 := K_0.then_ hk (fun k h => by rw [show k = g7 from h]; exact Or.inr z_0_g7)
  replace B_g7 := B_g7'
  clear hk
  refine ⟨⟨B_g1, trivial⟩, ?_⟩
  refine d_take (v := Value.pointer (some ⟨g7, 11, none⟩)) p111_8_14 ns111_8 (by kernel_rfl) (by kernel_rfl) (fun _ _ _ h => h) hE wn_none rfl ⟨B_g1, trivial⟩ (fun W hS => (st_fieldAddr Try.underlying89 rfl tS25 rfl rfl)) rfl ?_
  clear hE a; intro a hE
  refine d_one (by kernel_rfl) rfl (s_store (off := 11) (k := 16) (cs' := (([Value.int .i64 2, Value.int .i64 1, Value.int .i64 0, Value.int .i64 0, Value.int .i64 0, Value.int .i64 0, Value.int .i64 0, Value.int .i64 9, Value.int .i64 0, Value.bool false, Value.bool true] ++ b16 (fun _ => 0) ++ [Value.slice none 0 0])).toArray) p111_8_15 hE wn_none tS25 rfl rfl rfl rfl B_g7 (Nat.le_of_ble_eq_true rfl) rfl ?_)
  intro w15 B_g7' hk
  replace B_g1 := kp_blk B_g1 hk n_g1_g7
  replace B_g4 := kp_blk B_g4 hk n_g4_g7
  replace K_0 := K_0.then_ hk (fun k h => by rw [show k = g7 from h]; exact Or.inr z_0_g7)
  replace B_g7 := B_g7'
  clear hk
  refine ⟨⟨B_g1, trivial⟩, ?_⟩
  refine d_end (by kernel_rfl) ?_
  refine x_normB ?_
  refine x_norm ?_
  refine c_reg R111_11_l ?_
  refine q0 p111_11_0 hE (st_loadN (off := 0) (k := 28) (vs := ([Value.int .i64 2, Value.int .i64 1, Value.int .i64 0, Value.int .i64 0, Value.int .i64 0, Value.int .i64 0, Value.int .i64 0, Value.int .i64 9, Value.int .i64 0, Value.bool false, Value.bool true] ++ b16 (fun _ => 0) ++ [Value.slice none 0 0])) tA89 tS89 rfl B_g7 rfl rfl) ?_
  clear hE a; intro a hE
  refine p_cons (s_store (off := 0) (k := 28) (cs' := (([Value.int .i64 2, Value.int .i64 1, Value.int .i64 0, Value.int .i64 0, Value.int .i64 0, Value.int .i64 0, Value.int .i64 0, Value.int .i64 9, Value.int .i64 0, Value.bool false, Value.bool true] ++ b16 (fun _ => 0) ++ [Value.slice none 0 0])).toArray) p111_11_1 hE wn_none tS89 rfl rfl rfl rfl B_g4 (Nat.le_of_ble_eq_true rfl) rfl ?_)
  intro w16 B_g4' hk
  replace B_g1 := kp_blk B_g1 hk n_g1_g4
  replace B_g7 := kp_blk B_g7 hk (Ne.symm n_g4_g7)
  replace K_0 := K_0.then_ hk (fun k h => by rw [show k = g4 from h]; exact Or.inr z_0_g4)
  replace B_g4 := B_g4'
  clear hk
  refine p_nil ?_
  refine x_norm ?_
  refine wp_ret ?_
  refine ret_one (v := Value.agg (([Value.int .i64 2, Value.int .i64 1, Value.int .i64 0, Value.int .i64 0, Value.int .i64 0, Value.int .i64 0, Value.int .i64 0, Value.int .i64 9, Value.int .i64 0, Value.bool false, Value.bool true] ++ b16 (fun _ => 0) ++ [Value.slice none 0 0])).toArray) rfl hE (.cellN (us := ([Value.int .i64 2, Value.int .i64 1, Value.int .i64 0, Value.int .i64 0, Value.int .i64 0, Value.int .i64 0, Value.int .i64 0, Value.int .i64 9, Value.int .i64 0, Value.bool false, Value.bool true] ++ b16 (fun _ => 0) ++ [Value.slice none 0 0])) tA89 tS89 rfl B_g4 rfl .nil) ?_
  exact ⟨rfl, K_0⟩
theorem R107_0_l : List.range (regOf Try.f107 0).size = [0, 1, 2, 3, 4, 5, 6, 7, 8, 9, 10, 11, 12, 13, 14] := by kernel_rfl
theorem R107_1_l : List.range (regOf Try.f107 1).size = [0, 1, 2, 3, 4] := by kernel_rfl
theorem R107_2_l : List.range (regOf Try.f107 2).size = [0, 1, 2, 3] := by kernel_rfl
theorem R107_3_l : List.range (regOf Try.f107 3).size = [0, 1, 2, 3, 4, 5, 6, 7, 8, 9] := by kernel_rfl
theorem body107 : Try.f107.body = some (.seq (.seq (.region 0 (regOf Try.f107 0) false) (.cond (Operand.tmp 18) (.region 1 (regOf Try.f107 1) false) (.skip))) (.seq (.region 2 (regOf Try.f107 2) false) (.cond (Operand.tmp 26) (.region 3 (regOf Try.f107 3) false) (.skip)))) := by kernel_rfl
theorem p107_0_0 : pj (regOf Try.f107 0) 0 = some (some 4, .move (.tmp 0), 175, none) := by kernel_rfl
theorem p107_0_1 : pj (regOf Try.f107 0) 1 = some (some 5, .nilCheck (.tmp 4), 0, none) := by kernel_rfl
theorem p107_0_2 : pj (regOf Try.f107 0) 2 = some (some 6, .fieldAddr 179 (.tmp 5) 0, 0, none) := by kernel_rfl
theorem p107_0_3 : pj (regOf Try.f107 0) 3 = some (some 7, .call { callee := .value (.func 108), args := #[.tmp 6], argTypes := #[177] }, 4, none) := by kernel_rfl
theorem p107_0_4 : pj (regOf Try.f107 0) 4 = some (some 8, .move (.tmp 7), 4, none) := by kernel_rfl
theorem p107_0_5 : pj (regOf Try.f107 0) 5 = some (some 9, .move (.tmp 0), 175, some (4, true)) := by kernel_rfl
theorem g107_0_4 : dstOf (regOf Try.f107 0) 4 = some 8 := by kernel_rfl
theorem p107_0_6 : pj (regOf Try.f107 0) 6 = some (some 10, .nilCheck (.tmp 9), 0, some (4, true)) := by kernel_rfl
theorem p107_0_7 : pj (regOf Try.f107 0) 7 = some (some 11, .fieldAddr 179 (.tmp 10) 1, 0, some (4, true)) := by kernel_rfl
theorem p107_0_8 : pj (regOf Try.f107 0) 8 = some (some 12, .load 36 (.tmp 11), 36, some (4, true)) := by kernel_rfl
theorem p107_0_9 : pj (regOf Try.f107 0) 9 = some (some 13, .call { callee := .builtin .len, args := #[.tmp 12], argTypes := #[36] }, 3, some (4, true)) := by kernel_rfl
theorem p107_0_10 : pj (regOf Try.f107 0) 10 = some (some 14, .move (.tmp 1), 36, some (4, true)) := by kernel_rfl
theorem p107_0_11 : pj (regOf Try.f107 0) 11 = some (some 15, .call { callee := .builtin .len, args := #[.tmp 14], argTypes := #[36] }, 3, some (4, true)) := by kernel_rfl
theorem p107_0_12 : pj (regOf Try.f107 0) 12 = some (some 16, .binOp .add 3 (.tmp 13) (.tmp 15) 3, 3, some (4, true)) := by kernel_rfl
theorem p107_0_13 : pj (regOf Try.f107 0) 13 = some (some 17, .binOp .gtr 3 (.tmp 16) (.const (.int .i64 1280)) 3, 4, some (4, true)) := by kernel_rfl
theorem p107_0_14 : pj (regOf Try.f107 0) 14 = some (some 18, .pick (.tmp 8) (.tmp 17) (.const (.bool false)), 4, none) := by kernel_rfl
theorem p107_2_0 : pj (regOf Try.f107 2) 0 = some (some 23, .move (.tmp 0), 175, none) := by kernel_rfl
theorem p107_2_1 : pj (regOf Try.f107 2) 1 = some (some 24, .nilCheck (.tmp 23), 0, none) := by kernel_rfl
theorem p107_2_2 : pj (regOf Try.f107 2) 2 = some (some 25, .fieldAddr 179 (.tmp 24) 0, 0, none) := by kernel_rfl
theorem p107_2_3 : pj (regOf Try.f107 2) 3 = some (some 26, .call { callee := .value (.func 108), args := #[.tmp 25], argTypes := #[177] }, 4, none) := by kernel_rfl
theorem p107_3_0 : pj (regOf Try.f107 3) 0 = some (some 27, .move (.tmp 0), 175, none) := by kernel_rfl
theorem p107_3_1 : pj (regOf Try.f107 3) 1 = some (some 28, .move (.tmp 0), 175, none) := by kernel_rfl
theorem p107_3_2 : pj (regOf Try.f107 3) 2 = some (some 29, .nilCheck (.tmp 28), 0, none) := by kernel_rfl
theorem p107_3_3 : pj (regOf Try.f107 3) 3 = some (some 30, .fieldAddr 179 (.tmp 29) 1, 0, none) := by kernel_rfl
theorem p107_3_4 : pj (regOf Try.f107 3) 4 = some (some 31, .load 36 (.tmp 30), 36, none) := by kernel_rfl
theorem p107_3_5 : pj (regOf Try.f107 3) 5 = some (some 32, .move (.tmp 1), 36, none) := by kernel_rfl
theorem p107_3_6 : pj (regOf Try.f107 3) 6 = some (some 33, .call { callee := .builtin .append, args := #[.tmp 31, .tmp 32], argTypes := #[36, 36] }, 36, none) := by kernel_rfl
theorem eD5 : elemD Try.prog 5 = some (1, 1, 1) := by kernel_rfl
theorem p107_3_7 : pj (regOf Try.f107 3) 7 = some (some 34, .nilCheck (.tmp 27), 0, none) := by kernel_rfl
theorem p107_3_8 : pj (regOf Try.f107 3) 8 = some (some 35, .fieldAddr 179 (.tmp 34) 1, 0, none) := by kernel_rfl
theorem p107_3_9 : pj (regOf Try.f107 3) 9 = some (none, .store 36 (.tmp 35) (.tmp 33), 0, none) := by kernel_rfl
set_option maxHeartbeats 4000000 in
theorem bytes_dao (gc c bs : Nat) (A : Option Addr) (w : World) (hbs : bs ≤ w.heap.size) (hc : w.heap[gc]? = some (.cells #[.int .i64 0, .slice A 4 c] 179 (0, 0))) (hO : w.ownsRow bs 5 1 (.slice A 4 c) 4 (encs (Value.int .u8) [1, 128, 0, 9])) (hno : ¬ OB A gc) : Calls Try.prog 107 #[.pointer (some ⟨gc, 0, none⟩), .slice none 0 0] w fun e w' => ∃ A' c', e = .returned (.tuple #[]) ∧ w'.heap[gc]? = some (.cells #[.int .i64 0, .slice A' 4 c'] 179 (0, 0)) ∧ (∀ W', Kp w' W' (fun k => k = gc) → Kd.C (Kd.int .u8) W' A' 4 [1, 128, 0, 9]) ∧ 4 ≤ c' ∧ Kp w w' (fun k => k = gc ∨ OB A k) := by
  have K_0 := Kp.refl w (fun k => k = gc ∨ OB A k)
  have B_gc := hc
  have O_out := hO
  have Nb_out_gc := hno
  have Z_0_out : ∀ k, OB A k → (k = gc ∨ OB A k) ∨ w.heap.size ≤ k := fun k h => .inl (.inr h)
  refine enter (args := [Value.pointer (some ⟨gc, 0, none⟩), Value.slice none 0 0]) (n := 36) Try.func107 body107 rfl rfl rfl ?_
  intro a hE
  refine wp_seq ?_
  refine c_reg R107_0_l ?_
  refine q0 p107_0_0 hE (st_move rfl) ?_
  clear hE a; intro a hE
  refine q0 p107_0_1 hE (st_nil rfl) ?_
  clear hE a; intro a hE
  refine q0 p107_0_2 hE (st_fieldAddr Try.underlying179 rfl tS177 rfl rfl) ?_
  clear hE a; intro a hE
  refine p_cons (s_call (xs := [Operand.tmp 6]) (args := [Value.pointer (some ⟨gc, 0, none⟩)]) p107_0_3 hE wn_none rfl rfl Try.func108 cl108 (right_0 gc (Value.slice A 4 c) _ B_gc) ?_)
  rintro e w1 ⟨rfl, hk⟩
  replace B_gc := kp_blk B_gc hk (fun h => h)
  replace O_out := own_keep O_out hk (fun _ _ h => h)
  replace K_0 := K_0.then_ hk (fun _ h => h.elim)
  refine ⟨_, rfl, ?_⟩
  clear hE a; intro a hE
  refine q0 p107_0_4 hE (st_move rfl) ?_
  clear hE a; intro a hE
  refine p_cons (s_still p107_0_5 hE (wn_some g107_0_4 rfl rfl) rfl (st_move rfl) ?_)
  clear hE a; intro a hE
  refine p_cons (s_still p107_0_6 hE (wn_some g107_0_4 rfl rfl) rfl (st_nil rfl) ?_)
  clear hE a; intro a hE
  refine p_cons (s_still p107_0_7 hE (wn_some g107_0_4 rfl rfl) rfl (st_fieldAddr Try.underlying179 rfl tS36 rfl rfl) ?_)
  clear hE a; intro a hE
  refine p_cons (s_still p107_0_8 hE (wn_some g107_0_4 rfl rfl) rfl (st_load1 tA36 rfl ((blk_cell B_gc 1).trans rfl)) ?_)
  clear hE a; intro a hE
  refine p_cons (s_still p107_0_9 hE (wn_some g107_0_4 rfl rfl) rfl (st_len Try.underlying36 rfl) ?_)
  clear hE a; intro a hE
  refine p_cons (s_still p107_0_10 hE (wn_some g107_0_4 rfl rfl) rfl (st_move rfl) ?_)
  clear hE a; intro a hE
  refine p_cons (s_still p107_0_11 hE (wn_some g107_0_4 rfl rfl) rfl (st_len Try.underlying36 rfl) ?_)
  clear hE a; intro a hE
  refine p_cons (s_still p107_0_12 hE (wn_some g107_0_4 rfl rfl) rfl (st_add (z := 4) rfl rfl (by decide)) ?_)
  clear hE a; intro a hE
  refine p_cons (s_still p107_0_13 hE (wn_some g107_0_4 rfl rfl) rfl (st_gtr (b := false) rfl rfl (by decide)) ?_)
  clear hE a; intro a hE
  refine q0 p107_0_14 hE (st_pick rfl rfl) ?_
  clear hE a; intro a hE
  refine p_nil ?_
  refine x_norm ?_
  refine c_cond (t := false) hE rfl ?_
  refine wp_skip ?_
  refine x_norm ?_
  refine c_reg R107_2_l ?_
  refine q0 p107_2_0 hE (st_move rfl) ?_
  clear hE a; intro a hE
  refine q0 p107_2_1 hE (st_nil rfl) ?_
  clear hE a; intro a hE
  refine q0 p107_2_2 hE (st_fieldAddr Try.underlying179 rfl tS177 rfl rfl) ?_
  clear hE a; intro a hE
  refine p_cons (s_call (xs := [Operand.tmp 25]) (args := [Value.pointer (some ⟨gc, 0, none⟩)]) p107_2_3 hE wn_none rfl rfl Try.func108 cl108 (right_0 gc (Value.slice A 4 c) _ B_gc) ?_)
  rintro e w2 ⟨rfl, hk⟩
  replace B_gc := kp_blk B_gc hk (fun h => h)
  replace O_out := own_keep O_out hk (fun _ _ h => h)
  replace K_0 := K_0.then_ hk (fun _ h => h.elim)
  refine ⟨_, rfl, ?_⟩
  clear hE a; intro a hE
  refine p_nil ?_
  refine x_norm ?_
  refine c_cond (t := true) hE rfl ?_
  refine c_regL R107_3_l ?_
  refine q0 p107_3_0 hE (st_move rfl) ?_
  clear hE a; intro a hE
  refine q0 p107_3_1 hE (st_move rfl) ?_
  clear hE a; intro a hE
  refine q0 p107_3_2 hE (st_nil rfl) ?_
  clear hE a; intro a hE
  refine q0 p107_3_3 hE (st_fieldAddr Try.underlying179 rfl tS36 rfl rfl) ?_
  clear hE a; intro a hE
  refine q0 p107_3_4 hE (st_load1 tA36 rfl ((blk_cell B_gc 1).trans rfl)) ?_
  clear hE a; intro a hE
  refine q0 p107_3_5 hE (st_move rfl) ?_
  clear hE a; intro a hE
  refine p_cons (s_appendC (xs := [1, 128, 0, 9]) (ys := []) p107_3_6 hE wn_none rfl Try.underlying36 eD5 rfl O_out rfl (Kd.C_nil _ _) (by omega) (by omega) (Nat.le_trans hbs K_0.kept.1) ?_)
  clear hE a; intro Aout3 cout4 w5 O_out' hk hat a hE
  have Nb_out_gc' := grow_n Nb_out_gc (blk_lt B_gc) hat
  have Z_0_out' := grow_z Z_0_out K_0.kept.1 hat
  replace B_gc := kp_blk B_gc hk Nb_out_gc
  replace K_0 := K_0.then_ hk Z_0_out
  replace Nb_out_gc := Nb_out_gc'
  replace Z_0_out := Z_0_out'
  replace O_out : w5.ownsRow _ 5 1 (.slice Aout3 4 cout4) 4 (encs (Value.int .u8) [1, 128, 0, 9]) := O_out'
  clear O_out' hk hat
  refine q0 p107_3_7 hE (st_nil rfl) ?_
  clear hE a; intro a hE
  refine q0 p107_3_8 hE (st_fieldAddr Try.underlying179 rfl tS36 rfl rfl) ?_
  clear hE a; intro a hE
  refine p_cons (s_store (off := 1) (k := 1) (cs' := #[Value.int .i64 0, Value.slice Aout3 4 cout4]) p107_3_9 hE wn_none tS36 rfl rfl rfl rfl B_gc (Nat.le_of_ble_eq_true rfl) rfl ?_)
  intro w6 B_gc' hk
  replace O_out := own_keep O_out hk (fun k hk2 h2 => Nb_out_gc (by rw [show k = gc from h2] at hk2; exact hk2))
  replace K_0 := K_0.then_ hk (fun k h => by rw [show k = gc from h]; exact Or.inl (Or.inl rfl))
  replace B_gc := B_gc'
  clear hk
  refine p_nil ?_
  refine end_of_ret ?_
  refine ret_list (rs := []) (vs := []) rfl hE .nil rfl ?_
  exact ⟨Aout3, cout4, rfl, B_gc, fun W' hk => own_told (own_keep O_out hk (fun k h h2 => Nb_out_gc (by rw [← show k = gc from h2]; exact h))), (own_caps O_out).1, K_0⟩
theorem R62_0_l : List.range (regOf Try.f62 0).size = [0, 1] := by kernel_rfl
theorem R62_1_l : List.range (regOf Try.f62 1).size = [0, 1, 2, 3, 4, 5, 6, 7, 8] := by kernel_rfl
theorem R62_2_l : List.range (regOf Try.f62 2).size = [0, 1, 2] := by kernel_rfl
theorem R62_3_l : List.range (regOf Try.f62 3).size = [0] := by kernel_rfl
theorem R62_4_l : List.range (regOf Try.f62 4).size = [0, 1, 2, 3, 4, 5] := by kernel_rfl
theorem R62_5_l : List.range (regOf Try.f62 5).size = [0] := by kernel_rfl
theorem R62_6_l : List.range (regOf Try.f62 6).size = [0, 1, 2, 3, 4, 5, 6, 7, 8, 9, 10, 11, 12, 13, 14, 15, 16, 17, 18, 19, 20, 21, 22, 23, 24, 25, 26, 27, 28, 29, 30, 31, 32, 33, 34, 35, 36, 37, 38, 39, 40, 41, 42, 43, 44, 45, 46, 47, 48, 49, 50] := by kernel_rfl
theorem R62_7_l : List.range (regOf Try.f62 7).size = [0] := by kernel_rfl
theorem R62_8_l : List.range (regOf Try.f62 8).size = [0, 1, 2, 3] := by kernel_rfl
theorem R62_9_l : List.range (regOf Try.f62 9).size = [0] := by kernel_rfl
theorem R62_10_l : List.range (regOf Try.f62 10).size = [0, 1, 2, 3, 4, 5, 6, 7] := by kernel_rfl
theorem R62_11_l : List.range (regOf Try.f62 11).size = [0, 1] := by kernel_rfl
theorem body62 : Try.f62.body = some (.seq (.region 0 (regOf Try.f62 0) false) (.seq (.region 1 (regOf Try.f62 1) false) (.seq (.block 0 (.seq (.region 2 (regOf Try.f62 2) false) (.cond (Operand.tmp 13) (.seq (.region 3 (regOf Try.f62 3) false) (.ret)) (.seq (.region 4 (regOf Try.f62 4) true) (.cond (Operand.tmp 16) (.seq (.region 5 (regOf Try.f62 5) false) (.ret)) (.seq (.region 6 (regOf Try.f62 6) false) (.cond (Operand.tmp 22) (.seq (.region 7 (regOf Try.f62 7) false) (.ret)) (.seq (.region 8 (regOf Try.f62 8) false) (.cond (Operand.tmp 73) (.seq (.region 9 (regOf Try.f62 9) false) (.ret)) (.skip)))))))))) (.seq (.region 10 (regOf Try.f62 10) false) (.seq (.region 11 (regOf Try.f62 11) false) (.ret)))))) := by kernel_rfl
theorem p62_0_0 : pj (regOf Try.f62 0) 0 = some (some 1, .box 89 (.tmp 0), 0, none) := by kernel_rfl
theorem p62_0_1 : pj (regOf Try.f62 0) 1 = some (some 2, .assign (.const (.int .i64 0)), 29, none) := by kernel_rfl
theorem p62_1_0 : pj (regOf Try.f62 1) 0 = some (some 8, .fieldAddr 89 (.tmp 1) 0, 0, none) := by kernel_rfl
theorem p62_1_1 : pj (regOf Try.f62 1) 1 = some (some 9, .load 3 (.tmp 8), 3, none) := by kernel_rfl
theorem p62_1_2 : pj (regOf Try.f62 1) 2 = some (some 10, .call { callee := .value (.func 97), args := #[.tmp 9], argTypes := #[3] }, 166, none) := by kernel_rfl
theorem cl97 : callable Try.f97 = true := by kernel_rfl
theorem p62_1_3 : pj (regOf Try.f62 1) 3 = some (some 7, .move (.tmp 10), 166, none) := by kernel_rfl
theorem p62_1_4 : pj (regOf Try.f62 1) 4 = some (some 11, .extract (.tmp 7) 0, 165, none) := by kernel_rfl
theorem p62_1_5 : pj (regOf Try.f62 1) 5 = some (some 12, .extract (.tmp 7) 1, 4, none) := by kernel_rfl
theorem p62_1_6 : pj (regOf Try.f62 1) 6 = some (some 3, .alloc 165, 0, none) := by kernel_rfl
theorem tZ165 : (Try.prog.info? 165).bind (·.zero) = some (Value.agg #[Value.string ByteArray.empty, Value.slice none 0 0]) := by kernel_rfl
theorem p62_1_7 : pj (regOf Try.f62 1) 7 = some (none, .store 165 (.tmp 3) (.tmp 11), 0, none) := by kernel_rfl
theorem tS165 : (Try.prog.info? 165).map (·.size) = some 2 := by kernel_rfl
theorem p62_1_8 : pj (regOf Try.f62 1) 8 = some (some 4, .assign (.tmp 12), 4, none) := by kernel_rfl
theorem p62_2_0 : pj (regOf Try.f62 2) 0 = some (some 14, .move (.tmp 4), 4, none) := by kernel_rfl
theorem p62_2_1 : pj (regOf Try.f62 2) 1 = some (some 15, .unOp .not 4 (.tmp 14), 4, none) := by kernel_rfl
theorem p62_2_2 : pj (regOf Try.f62 2) 2 = some (some 13, .assign (.tmp 15), 4, none) := by kernel_rfl
theorem ns62_4 : Region.noSelect (regOf Try.f62 4) = true := by kernel_rfl
theorem p62_4_0 : pj (regOf Try.f62 4) 0 = some (some 17, .load 89 (.tmp 1), 89, none) := by kernel_rfl
theorem p62_4_1 : pj (regOf Try.f62 4) 1 = some (some 18, .load 89 (.tmp 1), 89, none) := by kernel_rfl
theorem p62_4_2 : pj (regOf Try.f62 4) 2 = some (some 19, .call { callee := .value (.func 111), args := #[.tmp 18], argTypes := #[89] }, 89, none) := by kernel_rfl
theorem cl111 : callable Try.f111 = true := by kernel_rfl
theorem p62_4_3 : pj (regOf Try.f62 4) 3 = some (some 20, .call { callee := .value (.func 110), args := #[.tmp 17, .tmp 19], argTypes := #[89, 89] }, 4, none) := by kernel_rfl
theorem cl110 : callable Try.f110 = true := by kernel_rfl
theorem p62_4_4 : pj (regOf Try.f62 4) 4 = some (some 21, .unOp .not 4 (.tmp 20), 4, none) := by kernel_rfl
theorem p62_4_5 : pj (regOf Try.f62 4) 5 = some (some 16, .assign (.tmp 21), 4, none) := by kernel_rfl
theorem p62_6_0 : pj (regOf Try.f62 6) 0 = some (some 23, .fieldAddr 89 (.tmp 1) 1, 0, none) := by kernel_rfl
theorem p62_6_1 : pj (regOf Try.f62 6) 1 = some (some 24, .load 3 (.tmp 23), 3, none) := by kernel_rfl
theorem p62_6_2 : pj (regOf Try.f62 6) 2 = some (some 25, .fieldAddr 89 (.tmp 1) 2, 0, none) := by kernel_rfl
theorem p62_6_3 : pj (regOf Try.f62 6) 3 = some (some 26, .load 3 (.tmp 25), 3, none) := by kernel_rfl
theorem p62_6_4 : pj (regOf Try.f62 6) 4 = some (some 27, .fieldAddr 89 (.tmp 1) 6, 0, none) := by kernel_rfl
theorem p62_6_5 : pj (regOf Try.f62 6) 5 = some (some 28, .load 3 (.tmp 27), 3, none) := by kernel_rfl
theorem p62_6_6 : pj (regOf Try.f62 6) 6 = some (some 29, .fieldAddr 89 (.tmp 1) 7, 0, none) := by kernel_rfl
theorem p62_6_7 : pj (regOf Try.f62 6) 7 = some (some 30, .load 3 (.tmp 29), 3, none) := by kernel_rfl
theorem p62_6_8 : pj (regOf Try.f62 6) 8 = some (some 31, .fieldAddr 89 (.tmp 1) 8, 0, none) := by kernel_rfl
theorem p62_6_9 : pj (regOf Try.f62 6) 9 = some (some 32, .load 3 (.tmp 31), 3, none) := by kernel_rfl
theorem p62_6_10 : pj (regOf Try.f62 6) 10 = some (some 33, .buildSlice 62 5 #[(0, .tmp 24), (1, .tmp 26), (2, .tmp 28), (3, .tmp 30), (4, .tmp 32)], 62, none) := by kernel_rfl
theorem p62_6_11 : pj (regOf Try.f62 6) 11 = some (some 34, .call { callee := .value (.func 69), args := #[.const (.int .i64 1), .tmp 33], argTypes := #[3, 62] }, 4, none) := by kernel_rfl
theorem cl69 : callable Try.f69 = true := by kernel_rfl
theorem p62_6_12 : pj (regOf Try.f62 6) 12 = some (some 35, .unOp .not 4 (.tmp 34), 4, none) := by kernel_rfl
theorem p62_6_13 : pj (regOf Try.f62 6) 13 = some (some 36, .move (.tmp 35), 4, none) := by kernel_rfl
theorem p62_6_14 : pj (regOf Try.f62 6) 14 = some (some 37, .fieldAddr 89 (.tmp 1) 3, 0, some (13, false)) := by kernel_rfl
theorem g62_6_13 : dstOf (regOf Try.f62 6) 13 = some 36 := by kernel_rfl
theorem p62_6_15 : pj (regOf Try.f62 6) 15 = some (some 38, .load 3 (.tmp 37), 3, some (13, false)) := by kernel_rfl
theorem p62_6_16 : pj (regOf Try.f62 6) 16 = some (some 39, .buildSlice 62 1 #[(0, .tmp 38)], 62, some (13, false)) := by kernel_rfl
theorem p62_6_17 : pj (regOf Try.f62 6) 17 = some (some 40, .call { callee := .value (.func 69), args := #[.const (.int .i64 2), .tmp 39], argTypes := #[3, 62] }, 4, some (13, false)) := by kernel_rfl
theorem p62_6_18 : pj (regOf Try.f62 6) 18 = some (some 41, .unOp .not 4 (.tmp 40), 4, some (13, false)) := by kernel_rfl
theorem p62_6_19 : pj (regOf Try.f62 6) 19 = some (some 42, .pick (.tmp 36) (.const (.bool true)) (.tmp 41), 4, none) := by kernel_rfl
theorem p62_6_20 : pj (regOf Try.f62 6) 20 = some (some 43, .move (.tmp 42), 4, none) := by kernel_rfl
theorem p62_6_21 : pj (regOf Try.f62 6) 21 = some (some 44, .fieldAddr 89 (.tmp 1) 4, 0, some (20, false)) := by kernel_rfl
theorem g62_6_20 : dstOf (regOf Try.f62 6) 20 = some 43 := by kernel_rfl
theorem p62_6_22 : pj (regOf Try.f62 6) 22 = some (some 45, .load 3 (.tmp 44), 3, some (20, false)) := by kernel_rfl
theorem p62_6_23 : pj (regOf Try.f62 6) 23 = some (some 46, .binOp .lss 3 (.tmp 45) (.const (.int .i64 0)) 3, 4, some (20, false)) := by kernel_rfl
theorem p62_6_24 : pj (regOf Try.f62 6) 24 = some (some 47, .pick (.tmp 43) (.const (.bool true)) (.tmp 46), 4, none) := by kernel_rfl
theorem p62_6_25 : pj (regOf Try.f62 6) 25 = some (some 48, .move (.tmp 47), 4, none) := by kernel_rfl
theorem p62_6_26 : pj (regOf Try.f62 6) 26 = some (some 49, .fieldAddr 89 (.tmp 1) 4, 0, some (25, false)) := by kernel_rfl
theorem g62_6_25 : dstOf (regOf Try.f62 6) 25 = some 48 := by kernel_rfl
theorem p62_6_27 : pj (regOf Try.f62 6) 27 = some (some 50, .load 3 (.tmp 49), 3, some (25, false)) := by kernel_rfl
theorem p62_6_28 : pj (regOf Try.f62 6) 28 = some (some 51, .binOp .gtr 3 (.tmp 50) (.const (.int .i64 7)) 3, 4, some (25, false)) := by kernel_rfl
theorem p62_6_29 : pj (regOf Try.f62 6) 29 = some (some 52, .pick (.tmp 48) (.const (.bool true)) (.tmp 51), 4, none) := by kernel_rfl
theorem p62_6_30 : pj (regOf Try.f62 6) 30 = some (some 53, .move (.tmp 52), 4, none) := by kernel_rfl
theorem p62_6_31 : pj (regOf Try.f62 6) 31 = some (some 54, .fieldAddr 89 (.tmp 1) 5, 0, some (30, false)) := by kernel_rfl
theorem g62_6_30 : dstOf (regOf Try.f62 6) 30 = some 53 := by kernel_rfl
theorem p62_6_32 : pj (regOf Try.f62 6) 32 = some (some 55, .load 3 (.tmp 54), 3, some (30, false)) := by kernel_rfl
theorem p62_6_33 : pj (regOf Try.f62 6) 33 = some (some 56, .binOp .lss 3 (.tmp 55) (.const (.int .i64 0)) 3, 4, some (30, false)) := by kernel_rfl
theorem p62_6_34 : pj (regOf Try.f62 6) 34 = some (some 57, .pick (.tmp 53) (.const (.bool true)) (.tmp 56), 4, none) := by kernel_rfl
theorem p62_6_35 : pj (regOf Try.f62 6) 35 = some (some 58, .move (.tmp 57), 4, none) := by kernel_rfl
theorem p62_6_36 : pj (regOf Try.f62 6) 36 = some (some 59, .fieldAddr 89 (.tmp 1) 5, 0, some (35, false)) := by kernel_rfl
theorem g62_6_35 : dstOf (regOf Try.f62 6) 35 = some 58 := by kernel_rfl
theorem p62_6_37 : pj (regOf Try.f62 6) 37 = some (some 60, .load 3 (.tmp 59), 3, some (35, false)) := by kernel_rfl
theorem p62_6_38 : pj (regOf Try.f62 6) 38 = some (some 61, .binOp .gtr 3 (.tmp 60) (.const (.int .i64 7)) 3, 4, some (35, false)) := by kernel_rfl
theorem p62_6_39 : pj (regOf Try.f62 6) 39 = some (some 62, .pick (.tmp 58) (.const (.bool true)) (.tmp 61), 4, none) := by kernel_rfl
theorem p62_6_40 : pj (regOf Try.f62 6) 40 = some (some 63, .move (.tmp 62), 4, none) := by kernel_rfl
theorem p62_6_41 : pj (regOf Try.f62 6) 41 = some (some 64, .fieldAddr 89 (.tmp 1) 0, 0, some (40, false)) := by kernel_rfl
theorem g62_6_40 : dstOf (regOf Try.f62 6) 40 = some 63 := by kernel_rfl
theorem p62_6_42 : pj (regOf Try.f62 6) 42 = some (some 65, .load 3 (.tmp 64), 3, some (40, false)) := by kernel_rfl
theorem p62_6_43 : pj (regOf Try.f62 6) 43 = some (some 66, .binOp .eql 3 (.tmp 65) (.const (.int .i64 1)) 3, 4, some (40, false)) := by kernel_rfl
theorem p62_6_44 : pj (regOf Try.f62 6) 44 = some (some 67, .move (.tmp 66), 4, some (40, false)) := by kernel_rfl
theorem p62_6_45 : pj (regOf Try.f62 6) 45 = some (some 68, .fieldAddr 89 (.tmp 1) 11, 0, some (44, true)) := by kernel_rfl
theorem g62_6_44 : dstOf (regOf Try.f62 6) 44 = some 67 := by kernel_rfl
theorem p62_6_46 : pj (regOf Try.f62 6) 46 = some (some 69, .load 25 (.tmp 68), 25, some (44, true)) := by kernel_rfl
theorem p62_6_47 : pj (regOf Try.f62 6) 47 = some (some 70, .call { callee := .value (.func 106), args := #[.tmp 69], argTypes := #[25] }, 4, some (44, true)) := by kernel_rfl
theorem p62_6_48 : pj (regOf Try.f62 6) 48 = some (some 71, .pick (.tmp 67) (.tmp 70) (.const (.bool false)), 4, some (40, false)) := by kernel_rfl
theorem p62_6_49 : pj (regOf Try.f62 6) 49 = some (some 72, .pick (.tmp 63) (.const (.bool true)) (.tmp 71), 4, none) := by kernel_rfl
theorem p62_6_50 : pj (regOf Try.f62 6) 50 = some (some 22, .assign (.tmp 72), 4, none) := by kernel_rfl
theorem p62_8_0 : pj (regOf Try.f62 8) 0 = some (some 74, .load 89 (.tmp 1), 89, none) := by kernel_rfl
theorem p62_8_1 : pj (regOf Try.f62 8) 1 = some (some 75, .call { callee := .value (.func 99), args := #[.tmp 74], argTypes := #[89] }, 4, none) := by kernel_rfl
theorem cl99 : callable Try.f99 = true := by kernel_rfl
theorem p62_8_2 : pj (regOf Try.f62 8) 2 = some (some 76, .unOp .not 4 (.tmp 75), 4, none) := by kernel_rfl
theorem p62_8_3 : pj (regOf Try.f62 8) 3 = some (some 73, .assign (.tmp 76), 4, none) := by kernel_rfl
theorem p62_10_0 : pj (regOf Try.f62 10) 0 = some (some 78, .fieldAddr 89 (.tmp 1) 12, 0, none) := by kernel_rfl
theorem p62_10_1 : pj (regOf Try.f62 10) 1 = some (some 79, .load 58 (.tmp 78), 58, none) := by kernel_rfl
theorem p62_10_2 : pj (regOf Try.f62 10) 2 = some (some 80, .call { callee := .value (.func 33), args := #[.tmp 79], argTypes := #[58] }, 37, none) := by kernel_rfl
theorem cl33 : callable Try.f33 = true := by kernel_rfl
theorem p62_10_3 : pj (regOf Try.f62 10) 3 = some (some 77, .move (.tmp 80), 37, none) := by kernel_rfl
theorem p62_10_4 : pj (regOf Try.f62 10) 4 = some (some 81, .extract (.tmp 77) 0, 36, none) := by kernel_rfl
theorem p62_10_5 : pj (regOf Try.f62 10) 5 = some (some 82, .extract (.tmp 77) 1, 29, none) := by kernel_rfl
theorem p62_10_6 : pj (regOf Try.f62 10) 6 = some (some 5, .assign (.tmp 81), 36, none) := by kernel_rfl
theorem p62_10_7 : pj (regOf Try.f62 10) 7 = some (some 6, .assign (.tmp 82), 29, none) := by kernel_rfl
theorem p62_11_0 : pj (regOf Try.f62 11) 0 = some (some 83, .move (.tmp 6), 29, none) := by kernel_rfl
theorem p62_11_1 : pj (regOf Try.f62 11) 1 = some (some 2, .assign (.tmp 83), 29, none) := by kernel_rfl
set_option maxHeartbeats 4000000 in
theorem check_dao (w : World) : Calls Try.prog 62 #[Value.agg (([Value.int .i64 2, Value.int .i64 1, Value.int .i64 0, Value.int .i64 0, Value.int .i64 0, Value.int .i64 0, Value.int .i64 0, Value.int .i64 9, Value.int .i64 0, Value.bool false, Value.bool true] ++ b16 (fun _ => 0) ++ [Value.slice none 0 0])).toArray] w fun e w' => e = .returned (.int .i64 0) ∧ Kp w w' (fun _ => False) := by
  have K_0 := Kp.refl w (fun _ => False)
  refine enter (args := [Value.agg (([Value.int .i64 2, Value.int .i64 1, Value.int .i64 0, Value.int .i64 0, Value.int .i64 0, Value.int .i64 0, Value.int .i64 0, Value.int .i64 9, Value.int .i64 0, Value.bool false, Value.bool true] ++ b16 (fun _ => 0) ++ [Value.slice none 0 0])).toArray]) (n := 84) Try.func62 body62 rfl rfl rfl ?_
  intro a hE
  refine c_reg R62_0_l ?_
  refine p_cons (s_box p62_0_0 hE wn_none rfl rfl ?_)
  clear hE a; intro g1 w2 z3 B_g1 hk a hE
  replace B_g1 : w2.heap[g1]? = some (.cells (([Value.int .i64 2, Value.int .i64 1, Value.int .i64 0, Value.int .i64 0, Value.int .i64 0, Value.int .i64 0, Value.int .i64 0, Value.int .i64 9, Value.int .i64 0, Value.bool false, Value.bool true] ++ b16 (fun _ => 0) ++ [Value.slice none 0 0])).toArray 89 (0, 0)) := B_g1
  have z_0_g1 := Nat.le_trans K_0.kept.1 z3
  replace K_0 := K_0.then_ hk (fun _ h => h.elim)
  clear hk
  refine q0 p62_0_1 hE (st_assign rfl) ?_
  clear hE a; intro a hE
  refine p_nil ?_
  refine x_norm ?_
  refine c_reg R62_1_l ?_
  refine q0 p62_1_0 hE (st_fieldAddr Try.underlying89 rfl tS3 rfl rfl) ?_
  clear hE a; intro a hE
  refine q0 p62_1_1 hE (st_load1 tA3 rfl ((blk_cell B_g1 0).trans rfl)) ?_
  clear hE a; intro a hE
  refine p_cons (s_call (xs := [Operand.tmp 9]) (args := [Value.int .i64 2]) p62_1_2 hE wn_none rfl rfl Try.func97 cl97 (cof_ok 2 (by decide) _) ?_)
  rintro e w4 ⟨A1, c1, rfl, hF1, hc1, hk⟩
  replace B_g1 := kp_blk B_g1 hk (fun h => h)
  replace K_0 := K_0.then_ hk (fun _ h => h.elim)
  refine ⟨_, rfl, ?_⟩
  clear hE a; intro a hE
  refine q0 p62_1_3 hE (st_move rfl) ?_
  clear hE a; intro a hE
  refine q0 p62_1_4 hE (st_extract rfl rfl) ?_
  clear hE a; intro a hE
  refine q0 p62_1_5 hE (st_extract rfl rfl) ?_
  clear hE a; intro a hE
  refine p_cons (s_alloc p62_1_6 hE wn_none rfl tZ165 ?_)
  clear hE a; intro g5 w6 z7 B_g5 hk a hE
  replace B_g5 : w6.heap[g5]? = some (.cells #[Value.string ByteArray.empty, Value.slice none 0 0] 165 (0, 0)) := B_g5
  have n_g1_g5 : g1 ≠ g5 := ne_new B_g1 z7
  have z_0_g5 := Nat.le_trans K_0.kept.1 z7
  replace B_g1 := kp_blk B_g1 hk (fun h => h)
  replace K_0 := K_0.then_ hk (fun _ h => h.elim)
  clear hk
  refine p_cons (s_store (off := 0) (k := 2) (cs' := #[Value.string (cword 2), Value.slice A1 ((ckinds 2).length) c1]) p62_1_7 hE wn_none tS165 rfl rfl rfl rfl B_g5 (Nat.le_of_ble_eq_true rfl) rfl ?_)
  intro w8 B_g5' hk
  replace B_g1 := kp_blk B_g1 hk n_g1_g5
  replace K_0 := K_0.then_ hk (fun k h => by rw [show k = g5 from h]; exact Or.inr z_0_g5)
  replace B_g5 := B_g5'
  clear hk
  refine q0 p62_1_8 hE (st_assign rfl) ?_
  clear hE a; intro a hE
  refine p_nil ?_
  refine x_norm ?_
  refine wp_seq ?_
  refine wp_block ?_
  refine c_reg R62_2_l ?_
  refine q0 p62_2_0 hE (st_move rfl) ?_
  clear hE a; intro a hE
  refine q0 p62_2_1 hE (st_not rfl rfl) ?_
  clear hE a; intro a hE
  refine q0 p62_2_2 hE (st_assign rfl) ?_
  clear hE a; intro a hE
  refine p_nil ?_
  refine x_norm ?_
  refine c_cond (t := false) hE rfl ?_
  refine c_drawS (S := fun W => W.heap[g1]? = some (.cells (([Value.int .i64 2, Value.int .i64 1, Value.int .i64 0, Value.int .i64 0, Value.int .i64 0, Value.int .i64 0, Value.int .i64 0, Value.int .i64 9, Value.int .i64 0, Value.bool false, Value.bool true] ++ b16 (fun _ => 0) ++ [Value.slice none 0 0])).toArray 89 (0, 0)) ∧ W.heap[g5]? = some (.cells #[Value.string (cword 2), Value.slice A1 ((ckinds 2).length) c1] 165 (0, 0)) ∧ True) rfl rfl (listed := #[false, false, false, false, false, false]) rfl ?_
  intro w9 hh hk
  replace B_g1 := kp_blk B_g1 hk (fun h => h)
  replace B_g5 := kp_blk B_g5 hk (fun h => h)
  replace K_0 := K_0.then_ hk (fun _ h => h.elim)
  clear hh hk
  refine d_take (v := Value.agg (([Value.int .i64 2, Value.int .i64 1, Value.int .i64 0, Value.int .i64 0, Value.int .i64 0, Value.int .i64 0, Value.int .i64 0, Value.int .i64 9, Value.int .i64 0, Value.bool false, Value.bool true] ++ b16 (fun _ => 0) ++ [Value.slice none 0 0])).toArray) p62_4_0 ns62_4 (by kernel_rfl) (by kernel_rfl) (fun _ _ _ h => h) hE wn_none rfl ⟨B_g1, B_g5, trivial⟩ (fun W hS => (st_loadN (off := 0) (k := 28) (vs := ([Value.int .i64 2, Value.int .i64 1, Value.int .i64 0, Value.int .i64 0, Value.int .i64 0, Value.int .i64 0, Value.int .i64 0, Value.int .i64 9, Value.int .i64 0, Value.bool false, Value.bool true] ++ b16 (fun _ => 0) ++ [Value.slice none 0 0])) tA89 tS89 rfl hS.1 rfl rfl)) rfl ?_
  clear hE a; intro a hE
  refine d_take (v := Value.agg (([Value.int .i64 2, Value.int .i64 1, Value.int .i64 0, Value.int .i64 0, Value.int .i64 0, Value.int .i64 0, Value.int .i64 0, Value.int .i64 9, Value.int .i64 0, Value.bool false, Value.bool true] ++ b16 (fun _ => 0) ++ [Value.slice none 0 0])).toArray) p62_4_1 ns62_4 (by kernel_rfl) (by kernel_rfl) (fun _ _ _ h => h) hE wn_none rfl ⟨B_g1, B_g5, trivial⟩ (fun W hS => (st_loadN (off := 0) (k := 28) (vs := ([Value.int .i64 2, Value.int .i64 1, Value.int .i64 0, Value.int .i64 0, Value.int .i64 0, Value.int .i64 0, Value.int .i64 0, Value.int .i64 9, Value.int .i64 0, Value.bool false, Value.bool true] ++ b16 (fun _ => 0) ++ [Value.slice none 0 0])) tA89 tS89 rfl hS.1 rfl rfl)) rfl ?_
  clear hE a; intro a hE
  refine d_one (by kernel_rfl) rfl (s_call (xs := [Operand.tmp 18]) (args := [Value.agg (([Value.int .i64 2, Value.int .i64 1, Value.int .i64 0, Value.int .i64 0, Value.int .i64 0, Value.int .i64 0, Value.int .i64 0, Value.int .i64 9, Value.int .i64 0, Value.bool false, Value.bool true] ++ b16 (fun _ => 0) ++ [Value.slice none 0 0])).toArray]) p62_4_2 hE wn_none rfl rfl Try.func111 cl111 (kept_dao  _) ?_)
  rintro e w10 ⟨rfl, hk⟩
  replace B_g1 := kp_blk B_g1 hk (fun h => h)
  replace B_g5 := kp_blk B_g5 hk (fun h => h)
  replace K_0 := K_0.then_ hk (fun _ h => h.elim)
  refine ⟨_, rfl, ?_⟩
  clear hE a; intro a hE
  refine ⟨⟨B_g1, B_g5, trivial⟩, ?_⟩
  refine d_one (by kernel_rfl) rfl (s_call (xs := [Operand.tmp 17, Operand.tmp 19]) (args := [Value.agg (([Value.int .i64 2, Value.int .i64 1, Value.int .i64 0, Value.int .i64 0, Value.int .i64 0, Value.int .i64 0, Value.int .i64 0, Value.int .i64 9, Value.int .i64 0, Value.bool false, Value.bool true] ++ b16 (fun _ => 0) ++ [Value.slice none 0 0])).toArray, Value.agg (([Value.int .i64 2, Value.int .i64 1, Value.int .i64 0, Value.int .i64 0, Value.int .i64 0, Value.int .i64 0, Value.int .i64 0, Value.int .i64 9, Value.int .i64 0, Value.bool false, Value.bool true] ++ b16 (fun _ => 0) ++ [Value.slice none 0 0])).toArray]) p62_4_3 hE wn_none rfl rfl Try.func110 cl110 (like_dao  _) ?_)
  rintro e w11 ⟨rfl, hk⟩
  replace B_g1 := kp_blk B_g1 hk (fun h => h)
  replace B_g5 := kp_blk B_g5 hk (fun h => h)
  replace K_0 := K_0.then_ hk (fun _ h => h.elim)
  refine ⟨_, rfl, ?_⟩
  clear hE a; intro a hE
  refine ⟨⟨B_g1, B_g5, trivial⟩, ?_⟩
  refine d_take (v := Value.bool false) p62_4_4 ns62_4 (by kernel_rfl) (by kernel_rfl) (fun _ _ _ h => h) hE wn_none rfl ⟨B_g1, B_g5, trivial⟩ (fun W hS => (st_not rfl rfl)) rfl ?_
  clear hE a; intro a hE
  refine d_take (v := Value.bool false) p62_4_5 ns62_4 (by kernel_rfl) (by kernel_rfl) (fun _ _ _ h => h) hE wn_none rfl ⟨B_g1, B_g5, trivial⟩ (fun W hS => (st_assign rfl)) rfl ?_
  clear hE a; intro a hE
  refine d_end (by kernel_rfl) ?_
  refine x_norm ?_
  refine c_cond (t := false) hE rfl ?_
  refine c_reg R62_6_l ?_
  refine q0 p62_6_0 hE (st_fieldAddr Try.underlying89 rfl tS3 rfl rfl) ?_
  clear hE a; intro a hE
  refine q0 p62_6_1 hE (st_load1 tA3 rfl ((blk_cell B_g1 1).trans rfl)) ?_
  clear hE a; intro a hE
  refine q0 p62_6_2 hE (st_fieldAddr Try.underlying89 rfl tS3 rfl rfl) ?_
  clear hE a; intro a hE
  refine q0 p62_6_3 hE (st_load1 tA3 rfl ((blk_cell B_g1 2).trans rfl)) ?_
  clear hE a; intro a hE
  refine q0 p62_6_4 hE (st_fieldAddr Try.underlying89 rfl tS3 rfl rfl) ?_
  clear hE a; intro a hE
  refine q0 p62_6_5 hE (st_load1 tA3 rfl ((blk_cell B_g1 6).trans rfl)) ?_
  clear hE a; intro a hE
  refine q0 p62_6_6 hE (st_fieldAddr Try.underlying89 rfl tS3 rfl rfl) ?_
  clear hE a; intro a hE
  refine q0 p62_6_7 hE (st_load1 tA3 rfl ((blk_cell B_g1 7).trans rfl)) ?_
  clear hE a; intro a hE
  refine q0 p62_6_8 hE (st_fieldAddr Try.underlying89 rfl tS3 rfl rfl) ?_
  clear hE a; intro a hE
  refine q0 p62_6_9 hE (st_load1 tA3 rfl ((blk_cell B_g1 8).trans rfl)) ?_
  clear hE a; intro a hE
  refine p_cons (s_row (xs := [(0, Operand.tmp 24), (1, Operand.tmp 26), (2, Operand.tmp 28), (3, Operand.tmp 30), (4, Operand.tmp 32)]) (vs := [(0, Value.int .i64 1), (1, Value.int .i64 0), (2, Value.int .i64 0), (3, Value.int .i64 9), (4, Value.int .i64 0)]) (cs := #[Value.int .i64 1, Value.int .i64 0, Value.int .i64 0, Value.int .i64 9, Value.int .i64 0]) p62_6_10 hE wn_none rfl Try.underlying62 rfl (by kernel_rfl) ?_)
  clear hE a; intro g12 w13 z14 B_g12 hk a hE
  have n_g1_g12 : g1 ≠ g12 := ne_new B_g1 z14
  have n_g5_g12 : g5 ≠ g12 := ne_new B_g5 z14
  have z_0_g12 := Nat.le_trans K_0.kept.1 z14
  replace B_g1 := kp_blk B_g1 hk (fun h => h)
  replace B_g5 := kp_blk B_g5 hk (fun h => h)
  replace K_0 := K_0.then_ hk (fun _ h => h.elim)
  clear hk
  refine p_cons (s_call (xs := [Operand.const (Value.int IntKind.i64 1), Operand.tmp 33]) (args := [Value.int .i64 1, Value.slice (some ⟨g12, 0, none⟩) 5 5]) p62_6_11 hE wn_none rfl rfl Try.func69 cl69 (fits_any (some ⟨g12, 0, none⟩) 5 1 [1, 0, 0, 9, 0] true (by decide) _ (C_blk (k := .i64) (l := [1, 0, 0, 9, 0]) (off := 0) B_g12 ⟨rfl, Nat.le_of_ble_eq_true rfl⟩ rfl) (Nat.le_refl _)) ?_)
  rintro e w15 ⟨rfl, hk⟩
  replace B_g1 := kp_blk B_g1 hk (fun h => h)
  replace B_g5 := kp_blk B_g5 hk (fun h => h)
  replace B_g12 := kp_blk B_g12 hk (fun h => h)
  replace K_0 := K_0.then_ hk (fun _ h => h.elim)
  refine ⟨_, rfl, ?_⟩
  clear hE a; intro a hE
  refine q0 p62_6_12 hE (st_not rfl rfl) ?_
  clear hE a; intro a hE
  refine q0 p62_6_13 hE (st_move rfl) ?_
  clear hE a; intro a hE
  refine p_cons (s_still p62_6_14 hE (wn_some g62_6_13 rfl rfl) rfl (st_fieldAddr Try.underlying89 rfl tS3 rfl rfl) ?_)
  clear hE a; intro a hE
  refine p_cons (s_still p62_6_15 hE (wn_some g62_6_13 rfl rfl) rfl (st_load1 tA3 rfl ((blk_cell B_g1 3).trans rfl)) ?_)
  clear hE a; intro a hE
  refine p_cons (s_row (xs := [(0, Operand.tmp 38)]) (vs := [(0, Value.int .i64 0)]) (cs := #[Value.int .i64 0]) p62_6_16 hE (wn_some g62_6_13 rfl rfl) rfl Try.underlying62 rfl (by kernel_rfl) ?_)
  clear hE a; intro g16 w17 z18 B_g16 hk a hE
  have n_g1_g16 : g1 ≠ g16 := ne_new B_g1 z18
  have n_g5_g16 : g5 ≠ g16 := ne_new B_g5 z18
  have n_g12_g16 : g12 ≠ g16 := ne_new B_g12 z18
  have z_0_g16 := Nat.le_trans K_0.kept.1 z18
  replace B_g1 := kp_blk B_g1 hk (fun h => h)
  replace B_g5 := kp_blk B_g5 hk (fun h => h)
  replace B_g12 := kp_blk B_g12 hk (fun h => h)
  replace K_0 := K_0.then_ hk (fun _ h => h.elim)
  clear hk
  refine p_cons (s_call (xs := [Operand.const (Value.int IntKind.i64 2), Operand.tmp 39]) (args := [Value.int .i64 2, Value.slice (some ⟨g16, 0, none⟩) 1 1]) p62_6_17 hE (wn_some g62_6_13 rfl rfl) rfl rfl Try.func69 cl69 (fits_any (some ⟨g16, 0, none⟩) 1 2 [0] true (by decide) _ (C_blk (k := .i64) (l := [0]) (off := 0) B_g16 ⟨rfl, Nat.le_of_ble_eq_true rfl⟩ rfl) (Nat.le_refl _)) ?_)
  rintro e w19 ⟨rfl, hk⟩
  replace B_g1 := kp_blk B_g1 hk (fun h => h)
  replace B_g5 := kp_blk B_g5 hk (fun h => h)
  replace B_g12 := kp_blk B_g12 hk (fun h => h)
  replace B_g16 := kp_blk B_g16 hk (fun h => h)
  replace K_0 := K_0.then_ hk (fun _ h => h.elim)
  refine ⟨_, rfl, ?_⟩
  clear hE a; intro a hE
  refine p_cons (s_still p62_6_18 hE (wn_some g62_6_13 rfl rfl) rfl (st_not rfl rfl) ?_)
  clear hE a; intro a hE
  refine q0 p62_6_19 hE (st_pick rfl rfl) ?_
  clear hE a; intro a hE
  refine q0 p62_6_20 hE (st_move rfl) ?_
  clear hE a; intro a hE
  refine p_cons (s_still p62_6_21 hE (wn_some g62_6_20 rfl rfl) rfl (st_fieldAddr Try.underlying89 rfl tS3 rfl rfl) ?_)
  clear hE a; intro a hE
  refine p_cons (s_still p62_6_22 hE (wn_some g62_6_20 rfl rfl) rfl (st_load1 tA3 rfl ((blk_cell B_g1 4).trans rfl)) ?_)
  clear hE a; intro a hE
  refine p_cons (s_still p62_6_23 hE (wn_some g62_6_20 rfl rfl) rfl (st_lss (b := false) rfl rfl (by decide)) ?_)
  clear hE a; intro a hE
  refine q0 p62_6_24 hE (st_pick rfl rfl) ?_
  clear hE a; intro a hE
  refine q0 p62_6_25 hE (st_move rfl) ?_
  clear hE a; intro a hE
  refine p_cons (s_still p62_6_26 hE (wn_some g62_6_25 rfl rfl) rfl (st_fieldAddr Try.underlying89 rfl tS3 rfl rfl) ?_)
  clear hE a; intro a hE
  refine p_cons (s_still p62_6_27 hE (wn_some g62_6_25 rfl rfl) rfl (st_load1 tA3 rfl ((blk_cell B_g1 4).trans rfl)) ?_)
  clear hE a; intro a hE
  refine p_cons (s_still p62_6_28 hE (wn_some g62_6_25 rfl rfl) rfl (st_gtr (b := false) rfl rfl (by decide)) ?_)
  clear hE a; intro a hE
  refine q0 p62_6_29 hE (st_pick rfl rfl) ?_
  clear hE a; intro a hE
  refine q0 p62_6_30 hE (st_move rfl) ?_
  clear hE a; intro a hE
  refine p_cons (s_still p62_6_31 hE (wn_some g62_6_30 rfl rfl) rfl (st_fieldAddr Try.underlying89 rfl tS3 rfl rfl) ?_)
  clear hE a; intro a hE
  refine p_cons (s_still p62_6_32 hE (wn_some g62_6_30 rfl rfl) rfl (st_load1 tA3 rfl ((blk_cell B_g1 5).trans rfl)) ?_)
  clear hE a; intro a hE
  refine p_cons (s_still p62_6_33 hE (wn_some g62_6_30 rfl rfl) rfl (st_lss (b := false) rfl rfl (by decide)) ?_)
  clear hE a; intro a hE
  refine q0 p62_6_34 hE (st_pick rfl rfl) ?_
  clear hE a; intro a hE
  refine q0 p62_6_35 hE (st_move rfl) ?_
  clear hE a; intro a hE
  refine p_cons (s_still p62_6_36 hE (wn_some g62_6_35 rfl rfl) rfl (st_fieldAddr Try.underlying89 rfl tS3 rfl rfl) ?_)
  clear hE a; intro a hE
  refine p_cons (s_still p62_6_37 hE (wn_some g62_6_35 rfl rfl) rfl (st_load1 tA3 rfl ((blk_cell B_g1 5).trans rfl)) ?_)
  clear hE a; intro a hE
  refine p_cons (s_still p62_6_38 hE (wn_some g62_6_35 rfl rfl) rfl (st_gtr (b := false) rfl rfl (by decide)) ?_)
  clear hE a; intro a hE
  refine q0 p62_6_39 hE (st_pick rfl rfl) ?_
  clear hE a; intro a hE
  refine q0 p62_6_40 hE (st_move rfl) ?_
  clear hE a; intro a hE
  refine p_cons (s_still p62_6_41 hE (wn_some g62_6_40 rfl rfl) rfl (st_fieldAddr Try.underlying89 rfl tS3 rfl rfl) ?_)
  clear hE a; intro a hE
  refine p_cons (s_still p62_6_42 hE (wn_some g62_6_40 rfl rfl) rfl (st_load1 tA3 rfl ((blk_cell B_g1 0).trans rfl)) ?_)
  clear hE a; intro a hE
  refine p_cons (s_still p62_6_43 hE (wn_some g62_6_40 rfl rfl) rfl (st_eql (b := false) rfl rfl (by decide)) ?_)
  clear hE a; intro a hE
  refine p_cons (s_still p62_6_44 hE (wn_some g62_6_40 rfl rfl) rfl (st_move rfl) ?_)
  clear hE a; intro a hE
  refine p_cons (s_skip p62_6_45 hE (wn_some g62_6_44 rfl rfl) rfl ?_)
  clear hE a; intro a hE
  refine p_cons (s_skip p62_6_46 hE (wn_some g62_6_44 rfl rfl) rfl ?_)
  clear hE a; intro a hE
  refine p_cons (s_skip p62_6_47 hE (wn_some g62_6_44 rfl rfl) rfl ?_)
  clear hE a; intro a hE
  refine p_cons (s_still p62_6_48 hE (wn_some g62_6_40 rfl rfl) rfl (st_pick rfl rfl) ?_)
  clear hE a; intro a hE
  refine q0 p62_6_49 hE (st_pick rfl rfl) ?_
  clear hE a; intro a hE
  refine q0 p62_6_50 hE (st_assign rfl) ?_
  clear hE a; intro a hE
  refine p_nil ?_
  refine x_norm ?_
  refine c_cond (t := false) hE rfl ?_
  refine c_reg R62_8_l ?_
  refine q0 p62_8_0 hE (st_loadN (off := 0) (k := 28) (vs := ([Value.int .i64 2, Value.int .i64 1, Value.int .i64 0, Value.int .i64 0, Value.int .i64 0, Value.int .i64 0, Value.int .i64 0, Value.int .i64 9, Value.int .i64 0, Value.bool false, Value.bool true] ++ b16 (fun _ => 0) ++ [Value.slice none 0 0])) tA89 tS89 rfl B_g1 rfl rfl) ?_
  clear hE a; intro a hE
  refine p_cons (s_call (xs := [Operand.tmp 74]) (args := [Value.agg (([Value.int .i64 2, Value.int .i64 1, Value.int .i64 0, Value.int .i64 0, Value.int .i64 0, Value.int .i64 0, Value.int .i64 0, Value.int .i64 9, Value.int .i64 0, Value.bool false, Value.bool true] ++ b16 (fun _ => 0) ++ [Value.slice none 0 0])).toArray]) p62_8_1 hE wn_none rfl rfl Try.func99 cl99 (maym_dao  _) ?_)
  rintro e w20 ⟨rfl, hk⟩
  replace B_g1 := kp_blk B_g1 hk (fun h => h)
  replace B_g5 := kp_blk B_g5 hk (fun h => h)
  replace B_g12 := kp_blk B_g12 hk (fun h => h)
  replace B_g16 := kp_blk B_g16 hk (fun h => h)
  replace K_0 := K_0.then_ hk (fun _ h => h.elim)
  refine ⟨_, rfl, ?_⟩
  clear hE a; intro a hE
  refine q0 p62_8_2 hE (st_not rfl rfl) ?_
  clear hE a; intro a hE
  refine q0 p62_8_3 hE (st_assign rfl) ?_
  clear hE a; intro a hE
  refine p_nil ?_
  refine x_norm ?_
  refine c_cond (t := false) hE rfl ?_
  refine wp_skip ?_
  refine x_normB ?_
  refine x_norm ?_
  refine c_reg R62_10_l ?_
  refine q0 p62_10_0 hE (st_fieldAddr Try.underlying89 rfl tS58 rfl rfl) ?_
  clear hE a; intro a hE
  refine q0 p62_10_1 hE (st_load1 tA58 rfl ((blk_cell B_g1 27).trans rfl)) ?_
  clear hE a; intro a hE
  refine p_cons (s_call (xs := [Operand.tmp 79]) (args := [Value.slice none 0 0]) p62_10_2 hE wn_none rfl rfl Try.func33 cl33 (enc_nil  _) ?_)
  rintro e w21 ⟨rfl, hk⟩
  replace B_g1 := kp_blk B_g1 hk (fun h => h)
  replace B_g5 := kp_blk B_g5 hk (fun h => h)
  replace B_g12 := kp_blk B_g12 hk (fun h => h)
  replace B_g16 := kp_blk B_g16 hk (fun h => h)
  replace K_0 := K_0.then_ hk (fun _ h => h.elim)
  refine ⟨_, rfl, ?_⟩
  clear hE a; intro a hE
  refine q0 p62_10_3 hE (st_move rfl) ?_
  clear hE a; intro a hE
  refine q0 p62_10_4 hE (st_extract rfl rfl) ?_
  clear hE a; intro a hE
  refine q0 p62_10_5 hE (st_extract rfl rfl) ?_
  clear hE a; intro a hE
  refine q0 p62_10_6 hE (st_assign rfl) ?_
  clear hE a; intro a hE
  refine q0 p62_10_7 hE (st_assign rfl) ?_
  clear hE a; intro a hE
  refine p_nil ?_
  refine x_norm ?_
  refine c_reg R62_11_l ?_
  refine q0 p62_11_0 hE (st_move rfl) ?_
  clear hE a; intro a hE
  refine q0 p62_11_1 hE (st_assign rfl) ?_
  clear hE a; intro a hE
  refine p_nil ?_
  refine x_norm ?_
  refine wp_ret ?_
  refine ret_one (v := Value.int .i64 0) rfl hE (.tmp rfl .nil) ?_
  exact ⟨rfl, K_0⟩
theorem R60_0_l : List.range (regOf Try.f60 0).size = [0, 1, 2] := by kernel_rfl
theorem R60_1_l : List.range (regOf Try.f60 1).size = [0, 1, 2] := by kernel_rfl
theorem R60_2_l : List.range (regOf Try.f60 2).size = [0, 1] := by kernel_rfl
theorem R60_3_l : List.range (regOf Try.f60 3).size = [0, 1, 2] := by kernel_rfl
theorem R60_4_l : List.range (regOf Try.f60 4).size = [0, 1, 2] := by kernel_rfl
theorem R60_5_l : List.range (regOf Try.f60 5).size = [0, 1] := by kernel_rfl
theorem R60_6_l : List.range (regOf Try.f60 6).size = [0, 1] := by kernel_rfl
theorem R60_7_l : List.range (regOf Try.f60 7).size = [0, 1, 2] := by kernel_rfl
theorem R60_8_l : List.range (regOf Try.f60 8).size = [0, 1] := by kernel_rfl
theorem R60_9_l : List.range (regOf Try.f60 9).size = [0, 1, 2, 3, 4, 5, 6] := by kernel_rfl
theorem R60_10_l : List.range (regOf Try.f60 10).size = [0, 1, 2, 3, 4] := by kernel_rfl
theorem R60_11_l : List.range (regOf Try.f60 11).size = [0, 1, 2, 3, 4, 5, 6, 7, 8, 9, 10, 11, 12, 13, 14] := by kernel_rfl
theorem R60_12_l : List.range (regOf Try.f60 12).size = [0, 1, 2, 3] := by kernel_rfl
theorem R60_13_l : List.range (regOf Try.f60 13).size = [0, 1] := by kernel_rfl
theorem R60_14_l : List.range (regOf Try.f60 14).size = [0, 1, 2, 3, 4, 5, 6, 7, 8, 9, 10, 11, 12, 13, 14, 15] := by kernel_rfl
theorem R60_15_l : List.range (regOf Try.f60 15).size = [0, 1, 2, 3] := by kernel_rfl
theorem R60_16_l : List.range (regOf Try.f60 16).size = [0, 1] := by kernel_rfl
theorem R60_17_l : List.range (regOf Try.f60 17).size = [0, 1, 2, 3, 4, 5, 6, 7, 8, 9, 10, 11, 12, 13] := by kernel_rfl
theorem R60_18_l : List.range (regOf Try.f60 18).size = [0, 1, 2, 3] := by kernel_rfl
theorem R60_19_l : List.range (regOf Try.f60 19).size = [0, 1, 2, 3, 4, 5, 6, 7] := by kernel_rfl
theorem R60_20_l : List.range (regOf Try.f60 20).size = [0, 1] := by kernel_rfl
theorem R60_21_l : List.range (regOf Try.f60 21).size = [0, 1, 2] := by kernel_rfl
theorem R60_22_l : List.range (regOf Try.f60 22).size = [0, 1, 2] := by kernel_rfl
theorem R60_23_l : List.range (regOf Try.f60 23).size = [0, 1, 2, 3, 4] := by kernel_rfl
theorem R60_24_l : List.range (regOf Try.f60 24).size = [0, 1, 2, 3, 4, 5, 6] := by kernel_rfl
theorem R60_25_l : List.range (regOf Try.f60 25).size = [0, 1, 2, 3, 4, 5] := by kernel_rfl
theorem body60 : Try.f60.body = some (.seq (.region 0 (regOf Try.f60 0) false) (.seq (.seq (.region 1 (regOf Try.f60 1) false) (.seq (.region 2 (regOf Try.f60 2) false) (.cond (Operand.tmp 11) (.seq (.region 3 (regOf Try.f60 3) false) (.ret)) (.skip)))) (.seq (.region 4 (regOf Try.f60 4) false) (.seq (.seq (.region 5 (regOf Try.f60 5) false) (.block 0 (.seq (.region 6 (regOf Try.f60 6) false) (.cond (Operand.tmp 17) (.region 7 (regOf Try.f60 7) false) (.seq (.region 8 (regOf Try.f60 8) false) (.cond (Operand.tmp 22) (.seq (.region 9 (regOf Try.f60 9) false) (.seq (.region 10 (regOf Try.f60 10) false) (.seq (.region 11 (regOf Try.f60 11) true) (.region 12 (regOf Try.f60 12) false)))) (.seq (.region 13 (regOf Try.f60 13) false) (.cond (Operand.tmp 55) (.seq (.region 14 (regOf Try.f60 14) true) (.region 15 (regOf Try.f60 15) false)) (.seq (.region 16 (regOf Try.f60 16) false) (.cond (Operand.tmp 77) (.seq (.region 17 (regOf Try.f60 17) true) (.region 18 (regOf Try.f60 18) false)) (.skip))))))))))) (.seq (.region 19 (regOf Try.f60 19) false) (.seq (.seq (.region 20 (regOf Try.f60 20) false) (.cond (Operand.tmp 104) (.seq (.region 21 (regOf Try.f60 21) false) (.ret)) (.skip))) (.seq (.region 22 (regOf Try.f60 22) false) (.seq (.seq (.region 23 (regOf Try.f60 23) false) (.cond (Operand.tmp 113) (.seq (.region 24 (regOf Try.f60 24) true) (.ret)) (.skip))) (.seq (.region 25 (regOf Try.f60 25) false) (.ret)))))))))) := by kernel_rfl
theorem p60_0_0 : pj (regOf Try.f60 0) 0 = some (some 1, .box 89 (.tmp 0), 0, none) := by kernel_rfl
theorem p60_0_1 : pj (regOf Try.f60 0) 1 = some (some 2, .assign (.const (.slice none 0 0)), 36, none) := by kernel_rfl
theorem p60_0_2 : pj (regOf Try.f60 0) 2 = some (some 3, .assign (.const (.int .i64 0)), 29, none) := by kernel_rfl
theorem p60_1_0 : pj (regOf Try.f60 1) 0 = some (some 8, .load 89 (.tmp 1), 89, none) := by kernel_rfl
theorem p60_1_1 : pj (regOf Try.f60 1) 1 = some (some 9, .call { callee := .value (.func 62), args := #[.tmp 8], argTypes := #[89] }, 29, none) := by kernel_rfl
theorem cl62 : callable Try.f62 = true := by kernel_rfl
theorem p60_1_2 : pj (regOf Try.f60 1) 2 = some (some 4, .assign (.tmp 9), 29, none) := by kernel_rfl
theorem p60_2_0 : pj (regOf Try.f60 2) 0 = some (some 10, .move (.tmp 4), 29, none) := by kernel_rfl
theorem p60_2_1 : pj (regOf Try.f60 2) 1 = some (some 11, .binOp .neq 29 (.tmp 10) (.const (.int .i64 0)) 29, 4, none) := by kernel_rfl
theorem p60_4_0 : pj (regOf Try.f60 4) 0 = some (some 13, .build 179 #[], 179, none) := by kernel_rfl
theorem p60_4_1 : pj (regOf Try.f60 4) 1 = some (some 14, .box 179 (.tmp 13), 175, none) := by kernel_rfl
theorem p60_4_2 : pj (regOf Try.f60 4) 2 = some (some 5, .assign (.tmp 14), 175, none) := by kernel_rfl
theorem p60_5_0 : pj (regOf Try.f60 5) 0 = some (some 15, .fieldAddr 89 (.tmp 1) 0, 0, none) := by kernel_rfl
theorem p60_5_1 : pj (regOf Try.f60 5) 1 = some (some 16, .load 3 (.tmp 15), 3, none) := by kernel_rfl
theorem p60_6_0 : pj (regOf Try.f60 6) 0 = some (some 18, .binOp .eql 3 (.tmp 16) (.const (.int .i64 0)) 3, 4, none) := by kernel_rfl
theorem p60_6_1 : pj (regOf Try.f60 6) 1 = some (some 17, .assign (.tmp 18), 4, none) := by kernel_rfl
theorem p60_8_0 : pj (regOf Try.f60 8) 0 = some (some 23, .binOp .eql 3 (.tmp 16) (.const (.int .i64 1)) 3, 4, none) := by kernel_rfl
theorem p60_8_1 : pj (regOf Try.f60 8) 1 = some (some 22, .assign (.tmp 23), 4, none) := by kernel_rfl
theorem p60_13_0 : pj (regOf Try.f60 13) 0 = some (some 56, .binOp .eql 3 (.tmp 16) (.const (.int .i64 2)) 3, 4, none) := by kernel_rfl
theorem p60_13_1 : pj (regOf Try.f60 13) 1 = some (some 55, .assign (.tmp 56), 4, none) := by kernel_rfl
theorem ns60_14 : Region.noSelect (regOf Try.f60 14) = true := by kernel_rfl
theorem p60_14_0 : pj (regOf Try.f60 14) 0 = some (some 57, .move (.tmp 5), 175, none) := by kernel_rfl
theorem p60_14_1 : pj (regOf Try.f60 14) 1 = some (some 58, .fieldAddr 89 (.tmp 1) 1, 0, none) := by kernel_rfl
theorem p60_14_2 : pj (regOf Try.f60 14) 2 = some (some 59, .load 3 (.tmp 58), 3, none) := by kernel_rfl
theorem p60_14_3 : pj (regOf Try.f60 14) 3 = some (some 60, .fieldAddr 89 (.tmp 1) 10, 0, none) := by kernel_rfl
theorem p60_14_4 : pj (regOf Try.f60 14) 4 = some (some 61, .load 4 (.tmp 60), 4, none) := by kernel_rfl
theorem p60_14_6 : pj (regOf Try.f60 14) 6 = some (some 63, .fieldAddr 89 (.tmp 1) 11, 0, none) := by kernel_rfl
theorem p60_14_7 : pj (regOf Try.f60 14) 7 = some (some 64, .load 25 (.tmp 63), 25, none) := by kernel_rfl
theorem p60_14_12 : pj (regOf Try.f60 14) 12 = some (some 69, .fieldAddr 89 (.tmp 1) 7, 0, none) := by kernel_rfl
theorem p60_14_13 : pj (regOf Try.f60 14) 13 = some (some 70, .load 3 (.tmp 69), 3, none) := by kernel_rfl
theorem p60_14_5 : pj (regOf Try.f60 14) 5 = some (some 62, .call { callee := .value (.func 104), args := #[.tmp 61, .const (.int .i64 128)], argTypes := #[4, 3] }, 3, none) := by kernel_rfl
theorem cl104 : callable Try.f104 = true := by kernel_rfl
theorem p60_14_8 : pj (regOf Try.f60 14) 8 = some (some 65, .call { callee := .value (.func 106), args := #[.tmp 64], argTypes := #[25] }, 4, none) := by kernel_rfl
theorem p60_14_9 : pj (regOf Try.f60 14) 9 = some (some 66, .unOp .not 4 (.tmp 65), 4, none) := by kernel_rfl
theorem p60_14_10 : pj (regOf Try.f60 14) 10 = some (some 67, .call { callee := .value (.func 104), args := #[.tmp 66, .const (.int .i64 64)], argTypes := #[4, 3] }, 3, none) := by kernel_rfl
theorem p60_14_11 : pj (regOf Try.f60 14) 11 = some (some 68, .binOp .add 3 (.tmp 62) (.tmp 67) 3, 3, none) := by kernel_rfl
theorem p60_14_14 : pj (regOf Try.f60 14) 14 = some (some 71, .buildSlice 62 4 #[(0, .tmp 59), (1, .tmp 68), (2, .const (.int .i64 0)), (3, .tmp 70)], 62, none) := by kernel_rfl
theorem p60_14_15 : pj (regOf Try.f60 14) 15 = some (some 72, .call { callee := .value (.func 103), args := #[.tmp 57, .const (.int .i64 1), .tmp 71], argTypes := #[175, 3, 62] }, 0, none) := by kernel_rfl
theorem cl103 : callable Try.f103 = true := by kernel_rfl
theorem p60_15_0 : pj (regOf Try.f60 15) 0 = some (some 73, .move (.tmp 5), 175, none) := by kernel_rfl
theorem p60_15_1 : pj (regOf Try.f60 15) 1 = some (some 74, .fieldAddr 89 (.tmp 1) 11, 0, none) := by kernel_rfl
theorem p60_15_2 : pj (regOf Try.f60 15) 2 = some (some 75, .load 25 (.tmp 74), 25, none) := by kernel_rfl
theorem p60_15_3 : pj (regOf Try.f60 15) 3 = some (some 76, .call { callee := .value (.func 105), args := #[.tmp 73, .tmp 75], argTypes := #[175, 25] }, 0, none) := by kernel_rfl
theorem cl105 : callable Try.f105 = true := by kernel_rfl
theorem p60_19_0 : pj (regOf Try.f60 19) 0 = some (some 98, .fieldAddr 89 (.tmp 1) 12, 0, none) := by kernel_rfl
theorem p60_19_1 : pj (regOf Try.f60 19) 1 = some (some 99, .load 58 (.tmp 98), 58, none) := by kernel_rfl
theorem p60_19_2 : pj (regOf Try.f60 19) 2 = some (some 100, .call { callee := .value (.func 33), args := #[.tmp 99], argTypes := #[58] }, 37, none) := by kernel_rfl
theorem p60_19_3 : pj (regOf Try.f60 19) 3 = some (some 97, .move (.tmp 100), 37, none) := by kernel_rfl
theorem p60_19_4 : pj (regOf Try.f60 19) 4 = some (some 101, .extract (.tmp 97) 0, 36, none) := by kernel_rfl
theorem p60_19_5 : pj (regOf Try.f60 19) 5 = some (some 102, .extract (.tmp 97) 1, 29, none) := by kernel_rfl
theorem p60_19_6 : pj (regOf Try.f60 19) 6 = some (some 6, .assign (.tmp 101), 36, none) := by kernel_rfl
theorem p60_19_7 : pj (regOf Try.f60 19) 7 = some (some 7, .assign (.tmp 102), 29, none) := by kernel_rfl
theorem p60_20_0 : pj (regOf Try.f60 20) 0 = some (some 103, .move (.tmp 7), 29, none) := by kernel_rfl
theorem p60_20_1 : pj (regOf Try.f60 20) 1 = some (some 104, .binOp .neq 29 (.tmp 103) (.const (.int .i64 0)) 29, 4, none) := by kernel_rfl
theorem p60_22_0 : pj (regOf Try.f60 22) 0 = some (some 106, .move (.tmp 5), 175, none) := by kernel_rfl
theorem p60_22_1 : pj (regOf Try.f60 22) 1 = some (some 107, .move (.tmp 6), 36, none) := by kernel_rfl
theorem p60_22_2 : pj (regOf Try.f60 22) 2 = some (some 108, .call { callee := .value (.func 107), args := #[.tmp 106, .tmp 107], argTypes := #[175, 36] }, 0, none) := by kernel_rfl
theorem cl107 : callable Try.f107 = true := by kernel_rfl
theorem p60_23_0 : pj (regOf Try.f60 23) 0 = some (some 109, .move (.tmp 5), 175, none) := by kernel_rfl
theorem p60_23_1 : pj (regOf Try.f60 23) 1 = some (some 110, .nilCheck (.tmp 109), 0, none) := by kernel_rfl
theorem p60_23_2 : pj (regOf Try.f60 23) 2 = some (some 111, .fieldAddr 179 (.tmp 110) 0, 0, none) := by kernel_rfl
theorem p60_23_3 : pj (regOf Try.f60 23) 3 = some (some 112, .call { callee := .value (.func 108), args := #[.tmp 111], argTypes := #[177] }, 4, none) := by kernel_rfl
theorem p60_23_4 : pj (regOf Try.f60 23) 4 = some (some 113, .unOp .not 4 (.tmp 112), 4, none) := by kernel_rfl
theorem p60_25_0 : pj (regOf Try.f60 25) 0 = some (some 119, .move (.tmp 5), 175, none) := by kernel_rfl
theorem p60_25_1 : pj (regOf Try.f60 25) 1 = some (some 120, .nilCheck (.tmp 119), 0, none) := by kernel_rfl
theorem p60_25_2 : pj (regOf Try.f60 25) 2 = some (some 121, .fieldAddr 179 (.tmp 120) 1, 0, none) := by kernel_rfl
theorem p60_25_3 : pj (regOf Try.f60 25) 3 = some (some 122, .load 36 (.tmp 121), 36, none) := by kernel_rfl
theorem p60_25_4 : pj (regOf Try.f60 25) 4 = some (some 2, .assign (.tmp 122), 36, none) := by kernel_rfl
theorem p60_25_5 : pj (regOf Try.f60 25) 5 = some (some 3, .assign (.const (.int .i64 0)), 29, none) := by kernel_rfl
set_option maxHeartbeats 4000000 in
theorem cenc_dao (w : World) : Calls Try.prog 60 #[Value.agg (([Value.int .i64 2, Value.int .i64 1, Value.int .i64 0, Value.int .i64 0, Value.int .i64 0, Value.int .i64 0, Value.int .i64 0, Value.int .i64 9, Value.int .i64 0, Value.bool false, Value.bool true] ++ b16 (fun _ => 0) ++ [Value.slice none 0 0])).toArray] w fun e w' => ∃ A c, e = .returned (.tuple #[.slice A 4 c, .int .i64 0]) ∧ 4 ≤ c ∧ (∀ W', Kp w' W' (fun _ => False) → Kd.C (Kd.int .u8) W' A 4 [1, 128, 0, 9]) ∧ Kp w w' (fun _ => False) := by
  have K_0 := Kp.refl w (fun _ => False)
  refine enter (args := [Value.agg (([Value.int .i64 2, Value.int .i64 1, Value.int .i64 0, Value.int .i64 0, Value.int .i64 0, Value.int .i64 0, Value.int .i64 0, Value.int .i64 9, Value.int .i64 0, Value.bool false, Value.bool true] ++ b16 (fun _ => 0) ++ [Value.slice none 0 0])).toArray]) (n := 123) Try.func60 body60 rfl rfl rfl ?_
  intro a hE
  refine c_reg R60_0_l ?_
  refine p_cons (s_box p60_0_0 hE wn_none rfl rfl ?_)
  clear hE a; intro g1 w2 z3 B_g1 hk a hE
  replace B_g1 : w2.heap[g1]? = some (.cells (([Value.int .i64 2, Value.int .i64 1, Value.int .i64 0, Value.int .i64 0, Value.int .i64 0, Value.int .i64 0, Value.int .i64 0, Value.int .i64 9, Value.int .i64 0, Value.bool false, Value.bool true] ++ b16 (fun _ => 0) ++ [Value.slice none 0 0])).toArray 89 (0, 0)) := B_g1
  have z_0_g1 := Nat.le_trans K_0.kept.1 z3
  replace K_0 := K_0.then_ hk (fun _ h => h.elim)
  clear hk
  refine q0 p60_0_1 hE (st_assign rfl) ?_
  clear hE a; intro a hE
  refine q0 p60_0_2 hE (st_assign rfl) ?_
  clear hE a; intro a hE
  refine p_nil ?_
  refine x_norm ?_
  refine wp_seq ?_
  refine c_reg R60_1_l ?_
  refine q0 p60_1_0 hE (st_loadN (off := 0) (k := 28) (vs := ([Value.int .i64 2, Value.int .i64 1, Value.int .i64 0, Value.int .i64 0, Value.int .i64 0, Value.int .i64 0, Value.int .i64 0, Value.int .i64 9, Value.int .i64 0, Value.bool false, Value.bool true] ++ b16 (fun _ => 0) ++ [Value.slice none 0 0])) tA89 tS89 rfl B_g1 rfl rfl) ?_
  clear hE a; intro a hE
  refine p_cons (s_call (xs := [Operand.tmp 8]) (args := [Value.agg (([Value.int .i64 2, Value.int .i64 1, Value.int .i64 0, Value.int .i64 0, Value.int .i64 0, Value.int .i64 0, Value.int .i64 0, Value.int .i64 9, Value.int .i64 0, Value.bool false, Value.bool true] ++ b16 (fun _ => 0) ++ [Value.slice none 0 0])).toArray]) p60_1_1 hE wn_none rfl rfl Try.func62 cl62 (check_dao  _) ?_)
  rintro e w4 ⟨rfl, hk⟩
  replace B_g1 := kp_blk B_g1 hk (fun h => h)
  replace K_0 := K_0.then_ hk (fun _ h => h.elim)
  refine ⟨_, rfl, ?_⟩
  clear hE a; intro a hE
  refine q0 p60_1_2 hE (st_assign rfl) ?_
  clear hE a; intro a hE
  refine p_nil ?_
  refine x_norm ?_
  refine c_reg R60_2_l ?_
  refine q0 p60_2_0 hE (st_move rfl) ?_
  clear hE a; intro a hE
  refine q0 p60_2_1 hE (st_neq (b := false) rfl rfl (by decide)) ?_
  clear hE a; intro a hE
  refine p_nil ?_
  refine x_norm ?_
  refine c_cond (t := false) hE rfl ?_
  refine wp_skip ?_
  refine x_norm ?_
  refine c_reg R60_4_l ?_
  refine q0 p60_4_0 hE (st_build (xs := []) (vs := []) (cs := #[Value.int .i64 0, Value.slice none 0 0]) rfl (by kernel_rfl)) ?_
  clear hE a; intro a hE
  refine p_cons (s_box p60_4_1 hE wn_none rfl rfl ?_)
  clear hE a; intro g5 w6 z7 B_g5 hk a hE
  replace B_g5 : w6.heap[g5]? = some (.cells #[Value.int .i64 0, Value.slice none 0 0] 179 (0, 0)) := B_g5
  have n_g1_g5 : g1 ≠ g5 := ne_new B_g1 z7
  have z_0_g5 := Nat.le_trans K_0.kept.1 z7
  replace B_g1 := kp_blk B_g1 hk (fun h => h)
  replace K_0 := K_0.then_ hk (fun _ h => h.elim)
  clear hk
  refine q0 p60_4_2 hE (st_assign rfl) ?_
  clear hE a; intro a hE
  refine p_nil ?_
  refine x_norm ?_
  refine wp_seq ?_
  refine c_reg R60_5_l ?_
  refine q0 p60_5_0 hE (st_fieldAddr Try.underlying89 rfl tS3 rfl rfl) ?_
  clear hE a; intro a hE
  refine q0 p60_5_1 hE (st_load1 tA3 rfl ((blk_cell B_g1 0).trans rfl)) ?_
  clear hE a; intro a hE
  refine p_nil ?_
  refine x_norm ?_
  refine wp_block ?_
  refine c_reg R60_6_l ?_
  refine q0 p60_6_0 hE (st_eql (b := false) rfl rfl (by decide)) ?_
  clear hE a; intro a hE
  refine q0 p60_6_1 hE (st_assign rfl) ?_
  clear hE a; intro a hE
  refine p_nil ?_
  refine x_norm ?_
  refine c_cond (t := false) hE rfl ?_
  refine c_reg R60_8_l ?_
  refine q0 p60_8_0 hE (st_eql (b := false) rfl rfl (by decide)) ?_
  clear hE a; intro a hE
  refine q0 p60_8_1 hE (st_assign rfl) ?_
  clear hE a; intro a hE
  refine p_nil ?_
  refine x_norm ?_
  refine c_cond (t := false) hE rfl ?_
  refine c_reg R60_13_l ?_
  refine q0 p60_13_0 hE (st_eql (b := true) rfl rfl (by decide)) ?_
  clear hE a; intro a hE
  refine q0 p60_13_1 hE (st_assign rfl) ?_
  clear hE a; intro a hE
  refine p_nil ?_
  refine x_norm ?_
  refine c_cond (t := true) hE rfl ?_
  refine c_drawS (S := fun W => W.heap[g1]? = some (.cells (([Value.int .i64 2, Value.int .i64 1, Value.int .i64 0, Value.int .i64 0, Value.int .i64 0, Value.int .i64 0, Value.int .i64 0, Value.int .i64 9, Value.int .i64 0, Value.bool false, Value.bool true] ++ b16 (fun _ => 0) ++ [Value.slice none 0 0])).toArray 89 (0, 0)) ∧ True) rfl rfl (listed := #[false, false, false, false, false, false, false, false, false, false, false, false, false, false, false, false]) rfl ?_
  intro w8 hh hk
  replace B_g1 := kp_blk B_g1 hk (fun h => h)
  replace B_g5 := kp_blk B_g5 hk (fun h => h)
  replace K_0 := K_0.then_ hk (fun _ h => h.elim)
  clear hh hk
  refine d_take (v := Value.pointer (some ⟨g5, 0, none⟩)) p60_14_0 ns60_14 (by kernel_rfl) (by kernel_rfl) (fun _ _ _ h => h) hE wn_none rfl ⟨B_g1, trivial⟩ (fun W hS => (st_move rfl)) rfl ?_
  clear hE a; intro a hE
  refine d_take (v := Value.pointer (some ⟨g1, 1, none⟩)) p60_14_1 ns60_14 (by kernel_rfl) (by kernel_rfl) (fun _ _ _ h => h) hE wn_none rfl ⟨B_g1, trivial⟩ (fun W hS => (st_fieldAddr Try.underlying89 rfl tS3 rfl rfl)) rfl ?_
  clear hE a; intro a hE
  refine d_take (v := Value.int .i64 1) p60_14_2 ns60_14 (by kernel_rfl) (by kernel_rfl) (fun _ _ _ h => h) hE wn_none rfl ⟨B_g1, trivial⟩ (fun W hS => (st_load1 tA3 rfl ((blk_cell hS.1 1).trans rfl))) rfl ?_
  clear hE a; intro a hE
  refine d_take (v := Value.pointer (some ⟨g1, 10, none⟩)) p60_14_3 ns60_14 (by kernel_rfl) (by kernel_rfl) (fun _ _ _ h => h) hE wn_none rfl ⟨B_g1, trivial⟩ (fun W hS => (st_fieldAddr Try.underlying89 rfl tS4 rfl rfl)) rfl ?_
  clear hE a; intro a hE
  refine d_take (v := Value.bool true) p60_14_4 ns60_14 (by kernel_rfl) (by kernel_rfl) (fun _ _ _ h => h) hE wn_none rfl ⟨B_g1, trivial⟩ (fun W hS => (st_load1 tA4 rfl ((blk_cell hS.1 10).trans rfl))) rfl ?_
  clear hE a; intro a hE
  refine d_take (v := Value.pointer (some ⟨g1, 11, none⟩)) p60_14_6 ns60_14 (by kernel_rfl) (by kernel_rfl) (fun _ _ _ h => h) hE wn_none rfl ⟨B_g1, trivial⟩ (fun W hS => (st_fieldAddr Try.underlying89 rfl tS25 rfl rfl)) rfl ?_
  clear hE a; intro a hE
  refine d_take (v := Value.agg (b16 (fun _ => 0)).toArray) p60_14_7 ns60_14 (by kernel_rfl) (by kernel_rfl) (fun _ _ _ h => h) hE wn_none rfl ⟨B_g1, trivial⟩ (fun W hS => (st_loadN (off := 11) (k := 16) (vs := b16 (fun _ => 0)) tA25 tS25 rfl hS.1 rfl rfl)) rfl ?_
  clear hE a; intro a hE
  refine d_take (v := Value.pointer (some ⟨g1, 7, none⟩)) p60_14_12 ns60_14 (by kernel_rfl) (by kernel_rfl) (fun _ _ _ h => h) hE wn_none rfl ⟨B_g1, trivial⟩ (fun W hS => (st_fieldAddr Try.underlying89 rfl tS3 rfl rfl)) rfl ?_
  clear hE a; intro a hE
  refine d_take (v := Value.int .i64 9) p60_14_13 ns60_14 (by kernel_rfl) (by kernel_rfl) (fun _ _ _ h => h) hE wn_none rfl ⟨B_g1, trivial⟩ (fun W hS => (st_load1 tA3 rfl ((blk_cell hS.1 7).trans rfl))) rfl ?_
  clear hE a; intro a hE
  refine d_one (by kernel_rfl) rfl (s_call (xs := [Operand.tmp 61, Operand.const (Value.int IntKind.i64 128)]) (args := [Value.bool true, Value.int .i64 128]) p60_14_5 hE wn_none rfl rfl Try.func104 cl104 (flag_1 128 _) ?_)
  rintro e w9 ⟨rfl, hk⟩
  replace B_g1 := kp_blk B_g1 hk (fun h => h)
  replace B_g5 := kp_blk B_g5 hk (fun h => h)
  replace K_0 := K_0.then_ hk (fun _ h => h.elim)
  refine ⟨_, rfl, ?_⟩
  clear hE a; intro a hE
  refine ⟨⟨B_g1, trivial⟩, ?_⟩
  refine d_one (by kernel_rfl) rfl (s_call (xs := [Operand.tmp 64]) (args := [Value.agg (b16 (fun _ => 0)).toArray]) p60_14_8 hE wn_none rfl rfl Try.func106 cl106 (none_0  _) ?_)
  rintro e w10 ⟨rfl, hk⟩
  replace B_g1 := kp_blk B_g1 hk (fun h => h)
  replace B_g5 := kp_blk B_g5 hk (fun h => h)
  replace K_0 := K_0.then_ hk (fun _ h => h.elim)
  refine ⟨_, rfl, ?_⟩
  clear hE a; intro a hE
  refine ⟨⟨B_g1, trivial⟩, ?_⟩
  refine d_take (v := Value.bool false) p60_14_9 ns60_14 (by kernel_rfl) (by kernel_rfl) (fun _ _ _ h => h) hE wn_none rfl ⟨B_g1, trivial⟩ (fun W hS => (st_not rfl rfl)) rfl ?_
  clear hE a; intro a hE
  refine d_one (by kernel_rfl) rfl (s_call (xs := [Operand.tmp 66, Operand.const (Value.int IntKind.i64 64)]) (args := [Value.bool false, Value.int .i64 64]) p60_14_10 hE wn_none rfl rfl Try.func104 cl104 (flag_0 64 _) ?_)
  rintro e w11 ⟨rfl, hk⟩
  replace B_g1 := kp_blk B_g1 hk (fun h => h)
  replace B_g5 := kp_blk B_g5 hk (fun h => h)
  replace K_0 := K_0.then_ hk (fun _ h => h.elim)
  refine ⟨_, rfl, ?_⟩
  clear hE a; intro a hE
  refine ⟨⟨B_g1, trivial⟩, ?_⟩
  refine d_take (v := Value.int .i64 128) p60_14_11 ns60_14 (by kernel_rfl) (by kernel_rfl) (fun _ _ _ h => h) hE wn_none rfl ⟨B_g1, trivial⟩ (fun W hS => (st_add (z := 128) rfl rfl (by decide))) rfl ?_
  clear hE a; intro a hE
  refine d_one (by kernel_rfl) rfl (s_row (xs := [(0, Operand.tmp 59), (1, Operand.tmp 68), (2, Operand.const (Value.int IntKind.i64 0)), (3, Operand.tmp 70)]) (vs := [(0, Value.int .i64 1), (1, Value.int .i64 128), (2, Value.int .i64 0), (3, Value.int .i64 9)]) (cs := #[Value.int .i64 1, Value.int .i64 128, Value.int .i64 0, Value.int .i64 9]) p60_14_14 hE wn_none rfl Try.underlying62 rfl (by kernel_rfl) ?_)
  clear hE a; intro g12 w13 z14 B_g12 hk a hE
  have n_g1_g12 : g1 ≠ g12 := ne_new B_g1 z14
  have n_g5_g12 : g5 ≠ g12 := ne_new B_g5 z14
  have z_0_g12 := Nat.le_trans K_0.kept.1 z14
  replace B_g1 := kp_blk B_g1 hk (fun h => h)
  replace B_g5 := kp_blk B_g5 hk (fun h => h)
  replace K_0 := K_0.then_ hk (fun _ h => h.elim)
  clear hk
  refine ⟨⟨B_g1, trivial⟩, ?_⟩
  have hnb_g1 := blk_lt B_g1
  have hnb_g5 := blk_lt B_g5
  have hnb_g12 := blk_lt B_g12
  have hnz_0 := K_0.kept.1
  refine d_one (by kernel_rfl) rfl (s_call (xs := [Operand.tmp 57, Operand.const (Value.int IntKind.i64 1), Operand.tmp 71]) (args := [Value.pointer (some ⟨g5, 0, none⟩), Value.int .i64 1, Value.slice (some ⟨g12, 0, none⟩) 4 4]) p60_14_15 hE wn_none rfl rfl Try.func103 cl103 (put_dao g5 4 (some ⟨g12, 0, none⟩) (Nat.le_refl _) _ B_g5 (fun W' hk => C_blk (k := .i64) (l := [1, 128, 0, 9]) (off := 0) (kp_blk B_g12 hk (fun h => (Ne.symm n_g5_g12) h)) ⟨rfl, Nat.le_of_ble_eq_true rfl⟩ rfl)) ?_)
  rintro e w17 ⟨A15, c16, rfl, B_g5', O_out, hk⟩
  replace B_g1 := kp_blk B_g1 hk n_g1_g5
  replace B_g12 := kp_blk B_g12 hk (Ne.symm n_g5_g12)
  replace K_0 := K_0.then_ hk (fun k h => by rw [show k = g5 from h]; exact Or.inr z_0_g5)
  replace B_g5 := B_g5'
  have Nb_out_g1 : ¬ OB A15 g1 := fun h => by have := (own_ob O_out h).1; have := hnb_g1; omega
  have Nb_out_g5 : ¬ OB A15 g5 := fun h => by have := (own_ob O_out h).1; have := hnb_g5; omega
  have Nb_out_g12 : ¬ OB A15 g12 := fun h => by have := (own_ob O_out h).1; have := hnb_g12; omega
  have Z_0_out : ∀ k, OB A15 k → (fun _ => False) k ∨ w.heap.size ≤ k := fun k h => .inr (by have := (own_ob O_out h).1; have := hnz_0; omega)
  replace O_out := own_lower O_out hnz_0
  refine ⟨_, rfl, ?_⟩
  clear hE a; intro a hE
  refine ⟨⟨B_g1, trivial⟩, ?_⟩
  refine d_end (by kernel_rfl) ?_
  refine x_norm ?_
  refine c_regL R60_15_l ?_
  refine q0 p60_15_0 hE (st_move rfl) ?_
  clear hE a; intro a hE
  refine q0 p60_15_1 hE (st_fieldAddr Try.underlying89 rfl tS25 rfl rfl) ?_
  clear hE a; intro a hE
  refine q0 p60_15_2 hE (st_loadN (off := 11) (k := 16) (vs := b16 (fun _ => 0)) tA25 tS25 rfl B_g1 rfl rfl) ?_
  clear hE a; intro a hE
  refine p_cons (s_call (xs := [Operand.tmp 73, Operand.tmp 75]) (args := [Value.pointer (some ⟨g5, 0, none⟩), Value.agg (b16 (fun _ => 0)).toArray]) p60_15_3 hE wn_none rfl rfl Try.func105 cl105 (root_0 (Value.pointer (some ⟨g5, 0, none⟩)) _) ?_)
  rintro e w18 ⟨rfl, hk⟩
  replace B_g1 := kp_blk B_g1 hk (fun h => h)
  replace B_g5 := kp_blk B_g5 hk (fun h => h)
  replace B_g12 := kp_blk B_g12 hk (fun h => h)
  replace O_out := own_keep O_out hk (fun _ _ h => h)
  replace K_0 := K_0.then_ hk (fun _ h => h.elim)
  refine ⟨_, rfl, ?_⟩
  clear hE a; intro a hE
  refine p_nil ?_
  refine x_normB ?_
  refine x_norm ?_
  refine c_reg R60_19_l ?_
  refine q0 p60_19_0 hE (st_fieldAddr Try.underlying89 rfl tS58 rfl rfl) ?_
  clear hE a; intro a hE
  refine q0 p60_19_1 hE (st_load1 tA58 rfl ((blk_cell B_g1 27).trans rfl)) ?_
  clear hE a; intro a hE
  refine p_cons (s_call (xs := [Operand.tmp 99]) (args := [Value.slice none 0 0]) p60_19_2 hE wn_none rfl rfl Try.func33 cl33 (enc_nil  _) ?_)
  rintro e w19 ⟨rfl, hk⟩
  replace B_g1 := kp_blk B_g1 hk (fun h => h)
  replace B_g5 := kp_blk B_g5 hk (fun h => h)
  replace B_g12 := kp_blk B_g12 hk (fun h => h)
  replace O_out := own_keep O_out hk (fun _ _ h => h)
  replace K_0 := K_0.then_ hk (fun _ h => h.elim)
  refine ⟨_, rfl, ?_⟩
  clear hE a; intro a hE
  refine q0 p60_19_3 hE (st_move rfl) ?_
  clear hE a; intro a hE
  refine q0 p60_19_4 hE (st_extract rfl rfl) ?_
  clear hE a; intro a hE
  refine q0 p60_19_5 hE (st_extract rfl rfl) ?_
  clear hE a; intro a hE
  refine q0 p60_19_6 hE (st_assign rfl) ?_
  clear hE a; intro a hE
  refine q0 p60_19_7 hE (st_assign rfl) ?_
  clear hE a; intro a hE
  refine p_nil ?_
  refine x_norm ?_
  refine wp_seq ?_
  refine c_reg R60_20_l ?_
  refine q0 p60_20_0 hE (st_move rfl) ?_
  clear hE a; intro a hE
  refine q0 p60_20_1 hE (st_neq (b := false) rfl rfl (by decide)) ?_
  clear hE a; intro a hE
  refine p_nil ?_
  refine x_norm ?_
  refine c_cond (t := false) hE rfl ?_
  refine wp_skip ?_
  refine x_norm ?_
  refine c_reg R60_22_l ?_
  refine q0 p60_22_0 hE (st_move rfl) ?_
  clear hE a; intro a hE
  refine q0 p60_22_1 hE (st_move rfl) ?_
  clear hE a; intro a hE
  refine p_cons (s_call (xs := [Operand.tmp 106, Operand.tmp 107]) (args := [Value.pointer (some ⟨g5, 0, none⟩), Value.slice none 0 0]) p60_22_2 hE wn_none rfl rfl Try.func107 cl107 (bytes_dao g5 c16 w.heap.size A15 _ K_0.kept.1 B_g5 O_out Nb_out_g5) ?_)
  rintro e w23 ⟨A20, c21, rfl, B_g5', hFf22, hqf22, hk⟩
  replace B_g1 := kp_blk B_g1 hk (fun h => h.elim n_g1_g5 Nb_out_g1)
  replace B_g12 := kp_blk B_g12 hk (fun h => h.elim (Ne.symm n_g5_g12) Nb_out_g12)
  replace K_0 := K_0.then_ hk (fun k h => h.elim (fun h => by rw [show k = g5 from h]; exact Or.inr z_0_g5) (fun h => Z_0_out k h))
  replace B_g5 := B_g5'
  clear O_out
  have K_s24 := Kp.refl w23 (fun k => k = g5)
  refine ⟨_, rfl, ?_⟩
  clear hE a; intro a hE
  refine p_nil ?_
  refine x_norm ?_
  refine wp_seq ?_
  refine c_reg R60_23_l ?_
  refine q0 p60_23_0 hE (st_move rfl) ?_
  clear hE a; intro a hE
  refine q0 p60_23_1 hE (st_nil rfl) ?_
  clear hE a; intro a hE
  refine q0 p60_23_2 hE (st_fieldAddr Try.underlying179 rfl tS177 rfl rfl) ?_
  clear hE a; intro a hE
  refine p_cons (s_call (xs := [Operand.tmp 111]) (args := [Value.pointer (some ⟨g5, 0, none⟩)]) p60_23_3 hE wn_none rfl rfl Try.func108 cl108 (right_0 g5 (Value.slice A20 4 c21) _ B_g5) ?_)
  rintro e w25 ⟨rfl, hk⟩
  replace B_g1 := kp_blk B_g1 hk (fun h => h)
  replace B_g5 := kp_blk B_g5 hk (fun h => h)
  replace B_g12 := kp_blk B_g12 hk (fun h => h)
  replace K_0 := K_0.then_ hk (fun _ h => h.elim)
  replace K_s24 := K_s24.then_ hk (fun _ h => h.elim)
  refine ⟨_, rfl, ?_⟩
  clear hE a; intro a hE
  refine q0 p60_23_4 hE (st_not rfl rfl) ?_
  clear hE a; intro a hE
  refine p_nil ?_
  refine x_norm ?_
  refine c_cond (t := false) hE rfl ?_
  refine wp_skip ?_
  refine x_norm ?_
  refine c_reg R60_25_l ?_
  refine q0 p60_25_0 hE (st_move rfl) ?_
  clear hE a; intro a hE
  refine q0 p60_25_1 hE (st_nil rfl) ?_
  clear hE a; intro a hE
  refine q0 p60_25_2 hE (st_fieldAddr Try.underlying179 rfl tS36 rfl rfl) ?_
  clear hE a; intro a hE
  refine q0 p60_25_3 hE (st_load1 tA36 rfl ((blk_cell B_g5 1).trans rfl)) ?_
  clear hE a; intro a hE
  refine q0 p60_25_4 hE (st_assign rfl) ?_
  clear hE a; intro a hE
  refine q0 p60_25_5 hE (st_assign rfl) ?_
  clear hE a; intro a hE
  refine p_nil ?_
  refine x_norm ?_
  refine wp_ret ?_
  refine ret_list (rs := [.tmp 2, .tmp 3]) (vs := [Value.slice A20 4 c21, Value.int .i64 0]) rfl hE (.tmp rfl (.tmp rfl .nil)) rfl ?_
  exact ⟨A20, c21, rfl, hqf22, fun W' hk => hFf22 W' (K_s24.then_ hk (fun _ h => h.elim)), K_0⟩
theorem R52_0_l : List.range (regOf Try.f52 0).size = [0] := by kernel_rfl
theorem R52_1_l : List.range (regOf Try.f52 1).size = [0, 1, 2, 3, 4, 5, 6] := by kernel_rfl
theorem R52_2_l : List.range (regOf Try.f52 2).size = [0, 1, 2, 3, 4, 5, 6, 7, 8, 9, 10, 11] := by kernel_rfl
theorem body52 : Try.f52.body = some (.seq (.region 0 (regOf Try.f52 0) false) (.seq (.region 1 (regOf Try.f52 1) false) (.seq (.region 2 (regOf Try.f52 2) false) (.ret)))) := by kernel_rfl
theorem p52_0_0 : pj (regOf Try.f52 0) 0 = some (some 0, .assign (.const (.bool false)), 4, none) := by kernel_rfl
theorem p52_1_0 : pj (regOf Try.f52 1) 0 = some (some 4, .build 89 #[(0, .const (.int .i64 2)), (1, .const (.int .i64 1)), (10, .const (.bool true)), (7, .const (.int .i64 9))], 89, none) := by kernel_rfl
theorem p52_1_1 : pj (regOf Try.f52 1) 1 = some (some 5, .call { callee := .value (.func 60), args := #[.tmp 4], argTypes := #[89] }, 37, none) := by kernel_rfl
theorem cl60 : callable Try.f60 = true := by kernel_rfl
theorem p52_1_2 : pj (regOf Try.f52 1) 2 = some (some 3, .move (.tmp 5), 37, none) := by kernel_rfl
theorem p52_1_3 : pj (regOf Try.f52 1) 3 = some (some 6, .extract (.tmp 3) 0, 36, none) := by kernel_rfl
theorem p52_1_4 : pj (regOf Try.f52 1) 4 = some (some 7, .extract (.tmp 3) 1, 29, none) := by kernel_rfl
theorem p52_1_5 : pj (regOf Try.f52 1) 5 = some (some 1, .assign (.tmp 6), 36, none) := by kernel_rfl
theorem p52_1_6 : pj (regOf Try.f52 1) 6 = some (some 2, .assign (.tmp 7), 29, none) := by kernel_rfl
theorem p52_2_0 : pj (regOf Try.f52 2) 0 = some (some 8, .move (.tmp 2), 29, none) := by kernel_rfl
theorem p52_2_1 : pj (regOf Try.f52 2) 1 = some (some 9, .binOp .eql 29 (.tmp 8) (.const (.int .i64 0)) 29, 4, none) := by kernel_rfl
theorem p52_2_2 : pj (regOf Try.f52 2) 2 = some (some 10, .move (.tmp 9), 4, none) := by kernel_rfl
theorem p52_2_3 : pj (regOf Try.f52 2) 3 = some (some 11, .move (.tmp 1), 36, some (2, true)) := by kernel_rfl
theorem g52_2_2 : dstOf (regOf Try.f52 2) 2 = some 10 := by kernel_rfl
theorem p52_2_4 : pj (regOf Try.f52 2) 4 = some (some 12, .buildSlice 36 4 #[(0, .const (.int .u8 1)), (1, .const (.int .u8 128)), (2, .const (.int .u8 0)), (3, .const (.int .u8 9))], 36, some (2, true)) := by kernel_rfl
theorem p52_2_5 : pj (regOf Try.f52 2) 5 = some (some 13, .call { callee := .value (.func 21), args := #[.tmp 11, .tmp 12], argTypes := #[36, 36] }, 4, some (2, true)) := by kernel_rfl
theorem cl21 : callable Try.f21 = true := by kernel_rfl
theorem p52_2_6 : pj (regOf Try.f52 2) 6 = some (some 14, .pick (.tmp 10) (.tmp 13) (.const (.bool false)), 4, none) := by kernel_rfl
theorem p52_2_7 : pj (regOf Try.f52 2) 7 = some (some 15, .move (.tmp 14), 4, none) := by kernel_rfl
theorem p52_2_8 : pj (regOf Try.f52 2) 8 = some (some 16, .call { callee := .value (.func 53), args := #[.const (.int .i64 3)], argTypes := #[3] }, 9, some (7, true)) := by kernel_rfl
theorem g52_2_7 : dstOf (regOf Try.f52 2) 7 = some 15 := by kernel_rfl
theorem cl53 : callable Try.f53 = true := by kernel_rfl
theorem p52_2_9 : pj (regOf Try.f52 2) 9 = some (some 17, .binOp .eql 9 (.tmp 16) (.const (.string { data := #[97, 99, 107] })) 9, 4, some (7, true)) := by kernel_rfl
theorem p52_2_10 : pj (regOf Try.f52 2) 10 = some (some 18, .pick (.tmp 15) (.tmp 17) (.const (.bool false)), 4, none) := by kernel_rfl
theorem p52_2_11 : pj (regOf Try.f52 2) 11 = some (some 0, .assign (.tmp 18), 4, none) := by kernel_rfl
set_option maxHeartbeats 4000000 in
theorem cknown_any (w : World) : Calls Try.prog 52 #[] w fun e w' => e = .returned (.bool true) ∧ Kp w w' (fun _ => False) := by
  have K_0 := Kp.refl w (fun _ => False)
  refine enter (args := []) (n := 19) Try.func52 body52 rfl rfl rfl ?_
  intro a hE
  refine c_reg R52_0_l ?_
  refine q0 p52_0_0 hE (st_assign rfl) ?_
  clear hE a; intro a hE
  refine p_nil ?_
  refine x_norm ?_
  refine c_reg R52_1_l ?_
  refine q0 p52_1_0 hE (st_build (xs := [(0, Operand.const (Value.int IntKind.i64 2)), (1, Operand.const (Value.int IntKind.i64 1)), (10, Operand.const (Value.bool true)), (7, Operand.const (Value.int IntKind.i64 9))]) (vs := [(0, Value.int .i64 2), (1, Value.int .i64 1), (10, Value.bool true), (7, Value.int .i64 9)]) (cs := (([Value.int .i64 2, Value.int .i64 1, Value.int .i64 0, Value.int .i64 0, Value.int .i64 0, Value.int .i64 0, Value.int .i64 0, Value.int .i64 9, Value.int .i64 0, Value.bool false, Value.bool true] ++ b16 (fun _ => 0) ++ [Value.slice none 0 0])).toArray) rfl (by kernel_rfl)) ?_
  clear hE a; intro a hE
  refine p_cons (s_call (xs := [Operand.tmp 4]) (args := [Value.agg (([Value.int .i64 2, Value.int .i64 1, Value.int .i64 0, Value.int .i64 0, Value.int .i64 0, Value.int .i64 0, Value.int .i64 0, Value.int .i64 9, Value.int .i64 0, Value.bool false, Value.bool true] ++ b16 (fun _ => 0) ++ [Value.slice none 0 0])).toArray]) p52_1_1 hE wn_none rfl rfl Try.func60 cl60 (cenc_dao _) ?_)
  rintro e w4 ⟨A1, c2, rfl, hqf3, hFf3, hk⟩
  replace K_0 := K_0.then_ hk (fun _ h => h.elim)
  have K_s5 := Kp.refl w4 (fun _ => False)
  refine ⟨_, rfl, ?_⟩
  clear hE a; intro a hE
  refine q0 p52_1_2 hE (st_move rfl) ?_
  clear hE a; intro a hE
  refine q0 p52_1_3 hE (st_extract rfl rfl) ?_
  clear hE a; intro a hE
  refine q0 p52_1_4 hE (st_extract rfl rfl) ?_
  clear hE a; intro a hE
  refine q0 p52_1_5 hE (st_assign rfl) ?_
  clear hE a; intro a hE
  refine q0 p52_1_6 hE (st_assign rfl) ?_
  clear hE a; intro a hE
  refine p_nil ?_
  refine x_norm ?_
  refine c_reg R52_2_l ?_
  refine q0 p52_2_0 hE (st_move rfl) ?_
  clear hE a; intro a hE
  refine q0 p52_2_1 hE (st_eql (b := true) rfl rfl (by decide)) ?_
  clear hE a; intro a hE
  refine q0 p52_2_2 hE (st_move rfl) ?_
  clear hE a; intro a hE
  refine p_cons (s_still p52_2_3 hE (wn_some g52_2_2 rfl rfl) rfl (st_move rfl) ?_)
  clear hE a; intro a hE
  refine p_cons (s_row (xs := [(0, Operand.const (Value.int IntKind.u8 1)), (1, Operand.const (Value.int IntKind.u8 128)), (2, Operand.const (Value.int IntKind.u8 0)), (3, Operand.const (Value.int IntKind.u8 9))]) (vs := [(0, Value.int .u8 1), (1, Value.int .u8 128), (2, Value.int .u8 0), (3, Value.int .u8 9)]) (cs := #[Value.int .u8 1, Value.int .u8 128, Value.int .u8 0, Value.int .u8 9]) p52_2_4 hE (wn_some g52_2_2 rfl rfl) rfl Try.underlying36 rfl (by kernel_rfl) ?_)
  clear hE a; intro g6 w7 z8 B_g6 hk a hE
  have z_0_g6 := Nat.le_trans K_0.kept.1 z8
  have z_s5_g6 := Nat.le_trans K_s5.kept.1 z8
  replace K_0 := K_0.then_ hk (fun _ h => h.elim)
  replace K_s5 := K_s5.then_ hk (fun _ h => h.elim)
  clear hk
  refine p_cons (s_call (xs := [Operand.tmp 11, Operand.tmp 12]) (args := [Value.slice A1 4 c2, Value.slice (some ⟨g6, 0, none⟩) 4 4]) p52_2_5 hE (wn_some g52_2_2 rfl rfl) rfl rfl Try.func21 cl21 (Go.Proofs.Ytndiddfleidnaaa.Pk.same_any A1 (some ⟨g6, 0, none⟩) c2 4 ([1, 128, 0, 9]) [1, 128, 0, 9] true (by decide) _ (hFf3 _ K_s5) hqf3 (C_blk (k := .u8) (l := [1, 128, 0, 9]) (off := 0) B_g6 ⟨rfl, Nat.le_of_ble_eq_true rfl⟩ rfl) (by decide) (by decide)) ?_)
  rintro e w9 ⟨rfl, hk⟩
  replace B_g6 := kp_blk B_g6 hk (fun h => h)
  replace K_0 := K_0.then_ hk (fun _ h => h.elim)
  replace K_s5 := K_s5.then_ hk (fun _ h => h.elim)
  refine ⟨_, rfl, ?_⟩
  clear hE a; intro a hE
  refine q0 p52_2_6 hE (st_pick rfl rfl) ?_
  clear hE a; intro a hE
  refine q0 p52_2_7 hE (st_move rfl) ?_
  clear hE a; intro a hE
  refine p_cons (s_call (xs := [Operand.const (Value.int IntKind.i64 3)]) (args := [Value.int .i64 3]) p52_2_8 hE (wn_some g52_2_7 rfl rfl) rfl rfl Try.func53 cl53 (cword_any 3 _) ?_)
  rintro e w10 ⟨rfl, hk⟩
  replace B_g6 := kp_blk B_g6 hk (fun h => h)
  replace K_0 := K_0.then_ hk (fun _ h => h.elim)
  replace K_s5 := K_s5.then_ hk (fun _ h => h.elim)
  refine ⟨_, rfl, ?_⟩
  clear hE a; intro a hE
  refine p_cons (s_still p52_2_9 hE (wn_some g52_2_7 rfl rfl) rfl (st_eqlS (b := true) rfl rfl (by decide +kernel)) ?_)
  clear hE a; intro a hE
  refine q0 p52_2_10 hE (st_pick rfl rfl) ?_
  clear hE a; intro a hE
  refine q0 p52_2_11 hE (st_assign rfl) ?_
  clear hE a; intro a hE
  refine p_nil ?_
  refine x_norm ?_
  refine wp_ret ?_
  refine ret_one (v := Value.bool true) rfl hE (.tmp rfl .nil) ?_
  exact ⟨rfl, K_0⟩
end Go.Proofs.Ytndiddfleidnaaa.Ck
