/- Slices and options: searched, copied, compared. -/
import Derived.Test.YtgpclehnomkbmaaOrw
import Derived.Laws.BytesString
import Derived.Lib.Bytes
import Derived.Lib.SliceRun
set_option maxRecDepth 100000
set_option linter.unusedVariables false
set_option linter.unusedSimpArgs false
namespace Go.Proofs.Ytgpclehnomkbmaa.Os
open Go.RowKit Go.Proofs.YtgpclehnomkbmaaW.PrintWords Go.Proofs.Ytgpclehnomkbmaa.Ds Go.Proofs.Ytgpclehnomkbmaa.Op Go.Proofs.Ytgpclehnomkbmaa.Or
open Go.Proofs.Ytgpclehnomkbmaa.Pk (Kp fitsF spanF putF digF fits_any put_ok C_take)
section
variable {P : Program} {t e : TypeId} {d n s o : Nat} {k : IntKind} {l ks : List (Option IntKind)}
private theorem flat_int (hu : P.underlying t = some (.int k)) : flat P (d + 1) t = some [some k] := by unfold flat; rw [hu]
private theorem flat_arr (hu : P.underlying t = some (.array n e)) (he : flat P d e = some l) (hi : (P.info? e).map (·.size) = some s) (hs : s = l.length) (hA : flat.isAggT P e = true ∨ l.length = 1) : flat P (d + 1) t = some (List.replicate n l).flatten := by
 obtain ⟨i, h9, h8⟩ := Option.map_eq_some_iff.1 hi; subst h8
 unfold flat; rw [hu]; show (match flat P d e, P.info? e with | some l, some i => if i.size = l.length ∧ (flat.isAggT P e = true ∨ l.length = 1) then some (List.replicate n l).flatten else none | _, _ => none) = _; rw [he, h9]; exact if_pos ⟨hs, hA⟩
end
theorem push_all (l : List Int) : ∀ s : ByteArray, l.foldl (fun r n => r.push (UInt8.ofNat n.toNat)) s = ⟨(s.data.toList ++ l.map fun n => UInt8.ofNat n.toNat).toArray⟩ := by
 induction l with
 | nil => intro s; simp
 | cons x l ih =>
  intro s
  rw [List.foldl_cons, ih]
  simp [ByteArray.push]
theorem strF_eq (l : List Int) : l.foldl (fun r n => r.push (UInt8.ofNat n.toNat)) ByteArray.empty = Go.strOfNums l := by
 rw [push_all]; rfl
theorem u8_inj {x y : Int} (hx : 0 ≤ x ∧ x ≤ 255) (hy : 0 ≤ y ∧ y ≤ 255) (h : UInt8.ofNat x.toNat = UInt8.ofNat y.toNat) : x = y := by
 have := congrArg UInt8.toNat h
 simp only [UInt8.toNat_ofNat'] at this
 omega
theorem bytes_inj : ∀ {l l' : List Int}, (∀ x ∈ l, 0 ≤ x ∧ x ≤ 255) → (∀ x ∈ l', 0 ≤ x ∧ x ≤ 255) → Lib.bytesOf l = Lib.bytesOf l' → l = l'
 | [], [], _, _, _ => rfl
 | [], y :: l', _, _, h => by simp [Lib.bytesOf] at h
 | x :: l, [], _, _, h => by simp [Lib.bytesOf] at h
 | x :: l, y :: l', hx, hy, h => by
  simp only [Lib.bytesOf, List.map_cons, List.cons.injEq] at h
  rw [u8_inj (hx x (by simp)) (hy y (by simp)) h.1, bytes_inj (fun z hz => hx z (by simp [hz])) (fun z hz => hy z (by simp [hz])) h.2]
theorem str_eq {l l' : List Int} (h : ∀ x ∈ l, 0 ≤ x ∧ x ≤ 255) (h' : ∀ x ∈ l', 0 ≤ x ∧ x ≤ 255) : ((Go.strOfNums l).toList == (Go.strOfNums l').toList) = decide (l = l') := by
 rw [Lib.strOfNums_toList, Lib.strOfNums_toList]
 by_cases e : l = l'
 · subst e; simp
 ·
  rw [decide_eq_false e]
  exact beq_eq_false_iff_ne.2 (fun h2 => e (bytes_inj h h' h2))
section
variable {P : Program} {T T1 T2 : TypeId} {m : List (Nat × Value)} {w : World} {X Y : Operand}
theorem st_eqlSn {A : Option Addr} {n c : Nat} {b : Bool} {e : TypeId} (hT : P.underlying T1 = some (.slice e)) (h1 : ev m X = some (.slice A n c)) (h2 : ev m Y = some (.slice none 0 0)) (hb : A.isNone = b) : Still P (.binOp .eql T1 X Y T2) T m w (.bool b) := fun n a hE o e1 e2 => by
 subst hb; unfold execOp; rw [e1]
 simp [hE.ev h1, hE.ev h2, eqGuard, Lib.run_eql_slice_nil w _ _ _ _ _ _ _ hT]
/-- Bytes as a string. -/
theorem st_b2s {A : Option Addr} {n c : Nat} {l : List Int} {e : TypeId} (hs : P.underlying T1 = some (.slice e)) (he : P.underlying e = some (.int .u8)) (hd : P.underlying T2 = some .string) (h1 : ev m X = some (.slice A n c)) (hC : Kd.C (Kd.int .u8) w A n l) : Still P (.convert T1 T2 X) T m w (.string (Go.strOfNums l)) := fun q a hE o e1 e2 => by
 unfold execOp; rw [e1]
 simp only [hE.ev h1]
 have hr : (convert T1 T2 (.slice A n c)).run P w = .ok (.string (Go.strOfNums l)) w := by
  rw [run_convert_bytes_string w T1 T2 e A n c hs he hd]
  cases A with
  | none =>
   have h0 : n = 0 := by
    rcases Nat.eq_zero_or_pos n with h | h
    · exact h
    ·
     obtain ⟨ad, h2, _⟩ := hC.2.2 h
     cases h2
   have hl : l = [] := List.eq_nil_of_length_eq_zero (by rw [hC.1, h0])
   subst hl
   rfl
  | some a =>
   have hcells : (loadCells a n).run P w = .ok (l.map (Value.int .u8)).toArray w := by
    have := run_loadCells_list (P := P) (w := w) a (l.map (Value.int .u8)) (fun j v hj => by
     rw [List.getElem?_map, Option.map_eq_some_iff] at hj
     obtain ⟨x, hx, rfl⟩ := hj
     have hlt := (List.getElem?_eq_some_iff.1 hx).1
     have h3 := (C_at hC (i := j) (by rw [← hC.1]; exact hlt)).2
     rw [show rd l (j : Int) = x by simp [rd, rdOf, List.getD_eq_getElem?_getD, hx]] at h3
     exact h3)
    rw [List.length_map, hC.1] at this
    exact this
   rw [run_bytesToString w a n c l hcells]
   rw [strF_eq]
 simp [hr]
end
theorem rd_mem {l : List Int} {v : Int} (h : v ∈ l) : ∃ j, j < l.length ∧ rd l (j : Int) = v := by
 obtain ⟨j, hj, e⟩ := List.getElem_of_mem h
 exact ⟨j, hj, by simp [rd, rdOf, List.getD_eq_getElem?_getD, hj, e]⟩
theorem mem_rd {l : List Int} {j : Nat} (h : j < l.length) : rd l (j : Int) ∈ l := by
 simp [rd, rdOf, List.getD_eq_getElem?_getD, h]
theorem rd_ext {l l' : List Int} (hn : l.length = l'.length) (h : ∀ j, j < l.length → rd l (j : Int) = rd l' (j : Int)) : l = l' := by
 refine List.ext_getElem hn (fun j h1 h2 => ?_)
 have := h j h1
 simpa [rd, rdOf, List.getD_eq_getElem?_getD, h1, h2] using this
theorem tS3 : (Try.prog.info? 3).map (·.size) = some 1 := by kernel_rfl
theorem tA3 : (Try.prog.underlying 3).map aggD = some false := by kernel_rfl
theorem R116_0_l : List.range (regOf Try.f116 0).size = [0] := by kernel_rfl
theorem R116_1_l : List.range (regOf Try.f116 1).size = [0, 1, 2, 3, 4] := by kernel_rfl
theorem R116_2_l : List.range (regOf Try.f116 2).size = [0] := by kernel_rfl
theorem R116_3_l : List.range (regOf Try.f116 3).size = [0, 1, 2] := by kernel_rfl
theorem R116_4_l : List.range (regOf Try.f116 4).size = [0] := by kernel_rfl
theorem R116_5_l : List.range (regOf Try.f116 5).size = [0, 1] := by kernel_rfl
theorem R116_7_l : List.range (regOf Try.f116 7).size = [0] := by kernel_rfl
theorem R116_8_l : List.range (regOf Try.f116 8).size = [0, 1] := by kernel_rfl
theorem R116_9_l : List.range (regOf Try.f116 9).size = [0] := by kernel_rfl
theorem body116 : Try.f116.body = some (.seq (.region 0 (regOf Try.f116 0) false) (.seq (.seq (.region 1 (regOf Try.f116 1) false) (.cond (Operand.tmp 10) (.seq (.region 2 (regOf Try.f116 2) false) (.ret)) (.skip))) (.seq (.seq (.region 3 (regOf Try.f116 3) false) (.block 0 (.loop (.seq (.region 4 (regOf Try.f116 4) false) (.seq (.cond (Operand.tmp 14) (.skip) (.exit 0)) (.seq (.block 1 (.seq (.region 5 (regOf Try.f116 5) false) (.seq (.region 6 (regOf Try.f116 6) true) (.cond (Operand.tmp 24) (.seq (.region 7 (regOf Try.f116 7) false) (.ret)) (.skip))))) (.region 8 (regOf Try.f116 8) false))))))) (.seq (.region 9 (regOf Try.f116 9) false) (.ret))))) := by kernel_rfl
theorem p116_0_0 : pj (regOf Try.f116 0) 0 = some (some 4, .assign (.const (.bool false)), 4, none) := by kernel_rfl
theorem p116_1_0 : pj (regOf Try.f116 1) 0 = some (some 6, .move (.tmp 0), 42, none) := by kernel_rfl
theorem p116_1_1 : pj (regOf Try.f116 1) 1 = some (some 7, .call { callee := .builtin .len, args := #[.tmp 6], argTypes := #[42] }, 3, none) := by kernel_rfl
theorem p116_1_2 : pj (regOf Try.f116 1) 2 = some (some 8, .move (.tmp 1), 42, none) := by kernel_rfl
theorem p116_1_3 : pj (regOf Try.f116 1) 3 = some (some 9, .call { callee := .builtin .len, args := #[.tmp 8], argTypes := #[42] }, 3, none) := by kernel_rfl
theorem p116_1_4 : pj (regOf Try.f116 1) 4 = some (some 10, .binOp .neq 3 (.tmp 7) (.tmp 9) 3, 4, none) := by kernel_rfl
theorem p116_3_0 : pj (regOf Try.f116 3) 0 = some (some 11, .move (.tmp 0), 42, none) := by kernel_rfl
theorem p116_3_1 : pj (regOf Try.f116 3) 1 = some (some 12, .call { callee := .builtin .len, args := #[.tmp 11], argTypes := #[42] }, 3, none) := by kernel_rfl
theorem p116_3_2 : pj (regOf Try.f116 3) 2 = some (some 13, .move (.const (.int .i64 0)), 3, none) := by kernel_rfl
theorem p116_4_0 : pj (regOf Try.f116 4) 0 = some (some 14, .binOp .lss 3 (.tmp 13) (.tmp 12) 3, 0, none) := by kernel_rfl
theorem p116_5_0 : pj (regOf Try.f116 5) 0 = some (some 15, .move (.tmp 13), 3, none) := by kernel_rfl
theorem p116_5_1 : pj (regOf Try.f116 5) 1 = some (some 5, .assign (.tmp 15), 3, none) := by kernel_rfl
theorem ns116_6 : Region.noSelect (regOf Try.f116 6) = true := by kernel_rfl
theorem p116_6_0 : pj (regOf Try.f116 6) 0 = some (some 16, .move (.tmp 0), 42, none) := by kernel_rfl
theorem p116_6_1 : pj (regOf Try.f116 6) 1 = some (some 17, .move (.tmp 5), 3, none) := by kernel_rfl
theorem p116_6_2 : pj (regOf Try.f116 6) 2 = some (some 18, .indexAddr 42 (.tmp 16) (.tmp 17), 0, none) := by kernel_rfl
theorem p116_6_3 : pj (regOf Try.f116 6) 3 = some (some 19, .load 3 (.tmp 18), 3, none) := by kernel_rfl
theorem p116_6_4 : pj (regOf Try.f116 6) 4 = some (some 20, .move (.tmp 1), 42, none) := by kernel_rfl
theorem p116_6_5 : pj (regOf Try.f116 6) 5 = some (some 21, .move (.tmp 5), 3, none) := by kernel_rfl
theorem p116_6_6 : pj (regOf Try.f116 6) 6 = some (some 22, .indexAddr 42 (.tmp 20) (.tmp 21), 0, none) := by kernel_rfl
theorem p116_6_7 : pj (regOf Try.f116 6) 7 = some (some 23, .load 3 (.tmp 22), 3, none) := by kernel_rfl
theorem p116_6_8 : pj (regOf Try.f116 6) 8 = some (some 24, .binOp .neq 3 (.tmp 19) (.tmp 23) 3, 4, none) := by kernel_rfl
theorem p116_8_0 : pj (regOf Try.f116 8) 0 = some (some 25, .binOp .add 3 (.tmp 13) (.const (.int .i64 1)) 3, 3, none) := by kernel_rfl
theorem p116_8_1 : pj (regOf Try.f116 8) 1 = some (some 13, .move (.tmp 25), 3, none) := by kernel_rfl
theorem p116_7_0 : pj (regOf Try.f116 7) 0 = some (some 4, .assign (.const (.bool false)), 4, none) := by kernel_rfl
theorem p116_9_0 : pj (regOf Try.f116 9) 0 = some (some 4, .assign (.const (.bool true)), 4, none) := by kernel_rfl
theorem p116_2_0 : pj (regOf Try.f116 2) 0 = some (some 4, .assign (.const (.bool false)), 4, none) := by kernel_rfl
set_option maxHeartbeats 4000000 in
theorem equali (A B : Option Addr) (c cb : Nat) (l l' : List Int) (b : Bool) (hb : decide (l = l') = b) (w : World) (hF : ∀ W', Kp w W' (fun _ => False) → Kd.C (Kd.int .i64) W' A l.length l) (hG : ∀ W', Kp w W' (fun _ => False) → Kd.C (Kd.int .i64) W' B l'.length l') (hmx : l.length ≤ 1000000000000) : Calls Try.prog 116 #[.slice A l.length c, .slice B l'.length cb] w fun e w' => e = .returned (.bool b) ∧ Kp w w' (fun _ => False) := by
 have K_0 := Kp.refl w (fun _ => False)
 refine enter (args := [Value.slice A l.length c, Value.slice B l'.length cb]) (n := 26) Try.func116 body116 rfl rfl rfl ?_
 intro a hE
 refine c_reg R116_0_l ?_
 refine q0 p116_0_0 hE (st_assign rfl) ?_; clear hE a; intro a hE
 refine p_nil (x_norm (wp_seq ?_))
 rcases Decidable.em (l.length = l'.length) with hLN | hLN
 ·
  refine c_reg R116_1_l ?_
  refine q0 p116_1_0 hE (st_move rfl) ?_; clear hE a; intro a hE
  refine q0 p116_1_1 hE (st_len Try.underlying42 rfl) ?_; clear hE a; intro a hE
  refine q0 p116_1_2 hE (st_move rfl) ?_; clear hE a; intro a hE
  refine q0 p116_1_3 hE (st_len Try.underlying42 rfl) ?_; clear hE a; intro a hE
  refine q0 p116_1_4 hE (st_neq (b := false) rfl rfl (by simp [hLN])) ?_; clear hE a; intro a hE
  refine p_nil (x_norm ?_)
  refine c_cond (t := false) hE rfl ?_
  refine wp_skip (x_norm (wp_seq (c_reg R116_3_l ?_)))
  refine q0 p116_3_0 hE (st_move rfl) ?_; clear hE a; intro a hE
  refine q0 p116_3_1 hE (st_len Try.underlying42 rfl) ?_; clear hE a; intro a hE
  refine q0 p116_3_2 hE (st_move rfl) ?_; clear hE a; intro a hE
  refine p_nil (x_norm (wp_block ?_))
  refine c_loop (α := Nat) (fun k a W => En 26 a [(0, Value.slice A l.length c), (1, Value.slice B l'.length cb), (10, Value.bool false), (12, Value.int .i64 (l.length : Int)), (13, Value.int .i64 (k : Int))] ∧ k ≤ l.length ∧ (∀ j, j < k → rd l (j : Int) = rd l' (j : Int)) ∧ Kp w W (fun _ => False)) (fun k => l.length - k) (0) ?_ ?_
  ·
   exact ⟨En.sub hE ⟨rfl, rfl, rfl, rfl, rfl, trivial⟩, Nat.zero_le _, fun j hj => absurd hj (Nat.not_lt_zero j), K_0⟩
  ·
   clear hE a
   rintro k a w1 ⟨hE, hk9, hall, K_0⟩
   rcases Decidable.em ((k : Int) < (l.length : Int)) with hK1 | hK1
   ·
    refine c_reg R116_4_l ?_
    refine q0 p116_4_0 hE (st_lss (b := true) rfl rfl (decide_eq_true hK1)) ?_; clear hE a; intro a hE
    refine p_nil (x_norm (wp_seq ?_))
    refine c_cond (t := true) hE rfl ?_
    refine wp_skip (x_norm (wp_seq (wp_block (c_reg R116_5_l ?_))))
    refine q0 p116_5_0 hE (st_move rfl) ?_; clear hE a; intro a hE
    refine q0 p116_5_1 hE (st_assign rfl) ?_; clear hE a; intro a hE
    refine p_nil (x_norm ?_)
    rcases Decidable.em (rd l (k : Int) = rd l' (k : Int)) with hEQ | hEQ
    ·
     refine c_drawS (S := fun W => Kd.C (Kd.int .i64) W A l.length l ∧ Kd.C (Kd.int .i64) W B l'.length l' ∧ True) rfl rfl (listed := #[false, false, false, false, false, false, false, false, false]) rfl ?_
     intro w2 hh hk
     replace K_0 := K_0.then_ hk (fun _ h => h.elim)
     clear hh hk
     refine Rv.dq (v := Value.slice A l.length c) p116_6_0 ns116_6 hE wn_none ⟨(hF _ K_0), (hG _ K_0), trivial⟩ (fun W hS => (st_move rfl)) ?_; clear hE a; intro a hE
     refine Rv.dq (v := Value.int .i64 (k : Int)) p116_6_1 ns116_6 hE wn_none ⟨(hF _ K_0), (hG _ K_0), trivial⟩ (fun W hS => (st_move rfl)) ?_; clear hE a; intro a hE
     refine Rv.dq (v := Value.pointer (some (ea A k))) p116_6_2 ns116_6 hE wn_none ⟨(hF _ K_0), (hG _ K_0), trivial⟩ (fun W hS => (st_indexAddrS (i := k) Try.underlying42 tS3 (C_at (hF _ K_0) (show k < _ by omega)).1 rfl rfl (by omega))) ?_; clear hE a; intro a hE
     refine Rv.dq (v := Value.int .i64 (rd l (k : Int))) p116_6_3 ns116_6 hE wn_none ⟨(hF _ K_0), (hG _ K_0), trivial⟩ (fun W hS => (st_loadC (i := k) tA3 (hS.1) (by omega) rfl)) ?_; clear hE a; intro a hE
     refine Rv.dq (v := Value.slice B l'.length cb) p116_6_4 ns116_6 hE wn_none ⟨(hF _ K_0), (hG _ K_0), trivial⟩ (fun W hS => (st_move rfl)) ?_; clear hE a; intro a hE
     refine Rv.dq (v := Value.int .i64 (k : Int)) p116_6_5 ns116_6 hE wn_none ⟨(hF _ K_0), (hG _ K_0), trivial⟩ (fun W hS => (st_move rfl)) ?_; clear hE a; intro a hE
     refine Rv.dq (v := Value.pointer (some (ea B k))) p116_6_6 ns116_6 hE wn_none ⟨(hF _ K_0), (hG _ K_0), trivial⟩ (fun W hS => (st_indexAddrS (i := k) Try.underlying42 tS3 (C_at (hG _ K_0) (show k < _ by omega)).1 rfl rfl (by omega))) ?_; clear hE a; intro a hE
     refine Rv.dq (v := Value.int .i64 (rd l' (k : Int))) p116_6_7 ns116_6 hE wn_none ⟨(hF _ K_0), (hG _ K_0), trivial⟩ (fun W hS => (st_loadC (i := k) tA3 (hS.2.1) (by omega) rfl)) ?_; clear hE a; intro a hE
     refine Rv.dq (v := Value.bool false) p116_6_8 ns116_6 hE wn_none ⟨(hF _ K_0), (hG _ K_0), trivial⟩ (fun W hS => (st_neq (b := false) rfl rfl (by simp [hEQ]))) ?_; clear hE a; intro a hE
     refine d_end (by kernel_rfl) ?_
     refine x_norm ?_
     refine c_cond (t := false) hE rfl ?_
     refine wp_skip (x_normB (x_norm (c_regL R116_8_l ?_)))
     refine q0 p116_8_0 hE (st_add (z := (k : Int) + 1) rfl rfl (wr_i64 _ (by omega) (by omega))) ?_; clear hE a; intro a hE
     refine q0 p116_8_1 hE (st_move rfl) ?_; clear hE a; intro a hE
     refine p_nil (x_norm ?_)
     exact ⟨k + 1, by omega, En.sub hE ⟨rfl, rfl, rfl, rfl, rfl, trivial⟩, by omega, fun j hj => by rcases Nat.lt_succ_iff_lt_or_eq.1 hj with h | h; exact hall j h; rw [h]; exact hEQ, K_0⟩
    ·
     refine c_drawS (S := fun W => Kd.C (Kd.int .i64) W A l.length l ∧ Kd.C (Kd.int .i64) W B l'.length l' ∧ True) rfl rfl (listed := #[false, false, false, false, false, false, false, false, false]) rfl ?_
     intro w3 hh hk
     replace K_0 := K_0.then_ hk (fun _ h => h.elim)
     clear hh hk
     refine Rv.dq (v := Value.slice A l.length c) p116_6_0 ns116_6 hE wn_none ⟨(hF _ K_0), (hG _ K_0), trivial⟩ (fun W hS => (st_move rfl)) ?_; clear hE a; intro a hE
     refine Rv.dq (v := Value.int .i64 (k : Int)) p116_6_1 ns116_6 hE wn_none ⟨(hF _ K_0), (hG _ K_0), trivial⟩ (fun W hS => (st_move rfl)) ?_; clear hE a; intro a hE
     refine Rv.dq (v := Value.pointer (some (ea A k))) p116_6_2 ns116_6 hE wn_none ⟨(hF _ K_0), (hG _ K_0), trivial⟩ (fun W hS => (st_indexAddrS (i := k) Try.underlying42 tS3 (C_at (hF _ K_0) (show k < _ by omega)).1 rfl rfl (by omega))) ?_; clear hE a; intro a hE
     refine Rv.dq (v := Value.int .i64 (rd l (k : Int))) p116_6_3 ns116_6 hE wn_none ⟨(hF _ K_0), (hG _ K_0), trivial⟩ (fun W hS => (st_loadC (i := k) tA3 (hS.1) (by omega) rfl)) ?_; clear hE a; intro a hE
     refine Rv.dq (v := Value.slice B l'.length cb) p116_6_4 ns116_6 hE wn_none ⟨(hF _ K_0), (hG _ K_0), trivial⟩ (fun W hS => (st_move rfl)) ?_; clear hE a; intro a hE
     refine Rv.dq (v := Value.int .i64 (k : Int)) p116_6_5 ns116_6 hE wn_none ⟨(hF _ K_0), (hG _ K_0), trivial⟩ (fun W hS => (st_move rfl)) ?_; clear hE a; intro a hE
     refine Rv.dq (v := Value.pointer (some (ea B k))) p116_6_6 ns116_6 hE wn_none ⟨(hF _ K_0), (hG _ K_0), trivial⟩ (fun W hS => (st_indexAddrS (i := k) Try.underlying42 tS3 (C_at (hG _ K_0) (show k < _ by omega)).1 rfl rfl (by omega))) ?_; clear hE a; intro a hE
     refine Rv.dq (v := Value.int .i64 (rd l' (k : Int))) p116_6_7 ns116_6 hE wn_none ⟨(hF _ K_0), (hG _ K_0), trivial⟩ (fun W hS => (st_loadC (i := k) tA3 (hS.2.1) (by omega) rfl)) ?_; clear hE a; intro a hE
     refine Rv.dq (v := Value.bool true) p116_6_8 ns116_6 hE wn_none ⟨(hF _ K_0), (hG _ K_0), trivial⟩ (fun W hS => (st_neq (b := true) rfl rfl (by simp [hEQ]))) ?_; clear hE a; intro a hE
     refine d_end (by kernel_rfl) ?_
     refine x_norm ?_
     refine c_cond (t := true) hE rfl ?_
     refine c_reg R116_7_l ?_
     refine q0 p116_7_0 hE (st_assign rfl) ?_; clear hE a; intro a hE
     refine p_nil (x_norm (wp_ret (x_retB (x_ret (x_ret (x_retB (x_ret ?_)))))))
     refine ret_one (v := Value.bool false) rfl hE (.tmp rfl .nil) ?_
     exact ⟨by rw [← hb, decide_eq_false (fun h => hEQ (by rw [h]))], K_0⟩
   ·
    refine c_reg R116_4_l ?_
    refine q0 p116_4_0 hE (st_lss (b := false) rfl rfl (decide_eq_false hK1)) ?_; clear hE a; intro a hE
    refine p_nil (x_norm (wp_seq ?_))
    refine c_cond (t := false) hE rfl ?_
    refine wp_exit (x_exit (x_exit (x_in (x_norm (c_reg R116_9_l ?_)))))
    refine q0 p116_9_0 hE (st_assign rfl) ?_; clear hE a; intro a hE
    refine p_nil (x_norm (wp_ret ?_))
    refine ret_one (v := Value.bool true) rfl hE (.tmp rfl .nil) ?_
    exact ⟨by rw [← hb, decide_eq_true (rd_ext hLN (fun j hj => hall j (by omega)))], K_0⟩
 ·
  refine c_reg R116_1_l ?_
  refine q0 p116_1_0 hE (st_move rfl) ?_; clear hE a; intro a hE
  refine q0 p116_1_1 hE (st_len Try.underlying42 rfl) ?_; clear hE a; intro a hE
  refine q0 p116_1_2 hE (st_move rfl) ?_; clear hE a; intro a hE
  refine q0 p116_1_3 hE (st_len Try.underlying42 rfl) ?_; clear hE a; intro a hE
  refine q0 p116_1_4 hE (st_neq (b := true) rfl rfl (by simp; exact fun h => hLN (by omega))) ?_; clear hE a; intro a hE
  refine p_nil (x_norm ?_)
  refine c_cond (t := true) hE rfl ?_
  refine c_reg R116_2_l ?_
  refine q0 p116_2_0 hE (st_assign rfl) ?_; clear hE a; intro a hE
  refine p_nil (x_norm (wp_ret (x_ret ?_)))
  refine ret_one (v := Value.bool false) rfl hE (.tmp rfl .nil) ?_
  exact ⟨by rw [← hb, decide_eq_false (fun h => hLN (by rw [h]))], K_0⟩
theorem R117_0_l : List.range (regOf Try.f117 0).size = [0] := by kernel_rfl
theorem R117_1_l : List.range (regOf Try.f117 1).size = [0, 1, 2, 3, 4, 5] := by kernel_rfl
theorem body117 : Try.f117.body = some (.seq (.region 0 (regOf Try.f117 0) false) (.seq (.region 1 (regOf Try.f117 1) false) (.ret))) := by kernel_rfl
theorem p117_0_0 : pj (regOf Try.f117 0) 0 = some (some 4, .assign (.const (.bool false)), 4, none) := by kernel_rfl
theorem p117_1_0 : pj (regOf Try.f117 1) 0 = some (some 5, .move (.tmp 0), 22, none) := by kernel_rfl
theorem p117_1_1 : pj (regOf Try.f117 1) 1 = some (some 6, .convert 22 9 (.tmp 5), 9, none) := by kernel_rfl
theorem p117_1_2 : pj (regOf Try.f117 1) 2 = some (some 7, .move (.tmp 1), 22, none) := by kernel_rfl
theorem p117_1_3 : pj (regOf Try.f117 1) 3 = some (some 8, .convert 22 9 (.tmp 7), 9, none) := by kernel_rfl
theorem p117_1_4 : pj (regOf Try.f117 1) 4 = some (some 9, .binOp .eql 9 (.tmp 6) (.tmp 8) 9, 4, none) := by kernel_rfl
theorem p117_1_5 : pj (regOf Try.f117 1) 5 = some (some 4, .assign (.tmp 9), 4, none) := by kernel_rfl
set_option maxHeartbeats 4000000 in
theorem equalb (A B : Option Addr) (c cb : Nat) (l l' : List Int) (b : Bool) (hb : decide (l = l') = b) (hr : ∀ x ∈ l, 0 ≤ x ∧ x ≤ 255) (hr' : ∀ x ∈ l', 0 ≤ x ∧ x ≤ 255) (w : World) (hF : ∀ W', Kp w W' (fun _ => False) → Kd.C (Kd.int .u8) W' A l.length l) (hG : ∀ W', Kp w W' (fun _ => False) → Kd.C (Kd.int .u8) W' B l'.length l') : Calls Try.prog 117 #[.slice A l.length c, .slice B l'.length cb] w fun e w' => e = .returned (.bool b) ∧ Kp w w' (fun _ => False) := by
 have K_0 := Kp.refl w (fun _ => False)
 refine enter (args := [Value.slice A l.length c, Value.slice B l'.length cb]) (n := 10) Try.func117 body117 rfl rfl rfl ?_
 intro a hE
 refine c_reg R117_0_l ?_
 refine q0 p117_0_0 hE (st_assign rfl) ?_; clear hE a; intro a hE
 refine p_nil (x_norm (c_reg R117_1_l ?_))
 refine q0 p117_1_0 hE (st_move rfl) ?_; clear hE a; intro a hE
 refine q0 p117_1_1 hE (st_b2s Try.underlying22 Try.underlying5 Try.underlying9 rfl (hF _ K_0)) ?_; clear hE a; intro a hE
 refine q0 p117_1_2 hE (st_move rfl) ?_; clear hE a; intro a hE
 refine q0 p117_1_3 hE (st_b2s Try.underlying22 Try.underlying5 Try.underlying9 rfl (hG _ K_0)) ?_; clear hE a; intro a hE
 refine q0 p117_1_4 hE (st_eqlS (b := b) rfl rfl ((str_eq hr hr').trans hb)) ?_; clear hE a; intro a hE
 refine q0 p117_1_5 hE (st_assign rfl) ?_; clear hE a; intro a hE
 refine p_nil (x_norm (wp_ret ?_))
 refine ret_one (v := Value.bool b) rfl hE (.tmp rfl .nil) ?_
 exact ⟨rfl, K_0⟩
theorem eqX_ks : flat Try.prog 9 48 = some ([some .u8, some .u8, some .u8, some .u8, some .u8, some .u8, some .u8, some .u8, some .u8, some .u8, some .u8, some .u8, some .u8, some .u8, some .u8, some .u8]) := Eq.trans (flat_arr Try.underlying48 (flat_int Try.underlying5) (by kernel_rfl) rfl (Or.inr rfl)) rfl
theorem eqY_ks : flat Try.prog 9 43 = some ([some .u8, some .u8, some .u8, some .u8, some .u8, some .u8, some .u8, some .u8, some .u8, some .u8, some .u8, some .u8, some .u8, some .u8, some .u8, some .u8]) := Eq.trans (flat_arr Try.underlying43 (flat_int Try.underlying5) (by kernel_rfl) rfl (Or.inr rfl)) rfl
def sameB (kk : Int) (l : List Int) (f : Nat → Int) (tx : List Int) (kk' : Int) (l' : List Int) (f' : Nat → Int) (tx' : List Int) : Bool := decide (kk = kk') && decide (l = l') && eqL (b16 f) (b16 f') && decide (tx = tx')
theorem R63_0_l : List.range (regOf Try.f63 0).size = [0, 1, 2] := by kernel_rfl
theorem R63_1_l : List.range (regOf Try.f63 1).size = [0, 1, 2, 3, 4, 5, 6, 7, 8, 9, 10, 11, 12, 13, 14, 15, 16, 17, 18, 19, 20, 21, 22, 23, 24, 25, 26] := by kernel_rfl
theorem body63 : Try.f63.body = some (.seq (.region 0 (regOf Try.f63 0) false) (.seq (.region 1 (regOf Try.f63 1) false) (.ret))) := by kernel_rfl
theorem p63_0_0 : pj (regOf Try.f63 0) 0 = some (some 2, .box 50 (.tmp 0), 0, none) := by kernel_rfl
theorem p63_0_1 : pj (regOf Try.f63 0) 1 = some (some 3, .box 50 (.tmp 1), 0, none) := by kernel_rfl
theorem p63_0_2 : pj (regOf Try.f63 0) 2 = some (some 4, .assign (.const (.bool false)), 4, none) := by kernel_rfl
theorem p63_1_0 : pj (regOf Try.f63 1) 0 = some (some 5, .fieldAddr 50 (.tmp 2) 0, 0, none) := by kernel_rfl
theorem p63_1_1 : pj (regOf Try.f63 1) 1 = some (some 6, .load 3 (.tmp 5), 3, none) := by kernel_rfl
theorem p63_1_2 : pj (regOf Try.f63 1) 2 = some (some 7, .fieldAddr 50 (.tmp 3) 0, 0, none) := by kernel_rfl
theorem p63_1_3 : pj (regOf Try.f63 1) 3 = some (some 8, .load 3 (.tmp 7), 3, none) := by kernel_rfl
theorem p63_1_4 : pj (regOf Try.f63 1) 4 = some (some 9, .binOp .eql 3 (.tmp 6) (.tmp 8) 3, 4, none) := by kernel_rfl
theorem p63_1_5 : pj (regOf Try.f63 1) 5 = some (some 10, .move (.tmp 9), 4, none) := by kernel_rfl
theorem p63_1_6 : pj (regOf Try.f63 1) 6 = some (some 11, .fieldAddr 50 (.tmp 2) 1, 0, some (5, true)) := by kernel_rfl
theorem g63_1_5 : dstOf (regOf Try.f63 1) 5 = some 10 := by kernel_rfl
theorem tS42 : (Try.prog.info? 42).map (·.size) = some 1 := by kernel_rfl
theorem p63_1_7 : pj (regOf Try.f63 1) 7 = some (some 12, .load 42 (.tmp 11), 42, some (5, true)) := by kernel_rfl
theorem tA42 : (Try.prog.underlying 42).map aggD = some false := by kernel_rfl
theorem p63_1_8 : pj (regOf Try.f63 1) 8 = some (some 13, .fieldAddr 50 (.tmp 3) 1, 0, some (5, true)) := by kernel_rfl
theorem p63_1_9 : pj (regOf Try.f63 1) 9 = some (some 14, .load 42 (.tmp 13), 42, some (5, true)) := by kernel_rfl
theorem p63_1_10 : pj (regOf Try.f63 1) 10 = some (some 15, .call { callee := .value (.func 116), args := #[.tmp 12, .tmp 14], argTypes := #[42, 42] }, 4, some (5, true)) := by kernel_rfl
theorem cl116 : callable Try.f116 = true := by kernel_rfl
theorem p63_1_11 : pj (regOf Try.f63 1) 11 = some (some 16, .pick (.tmp 10) (.tmp 15) (.const (.bool false)), 4, none) := by kernel_rfl
theorem p63_1_12 : pj (regOf Try.f63 1) 12 = some (some 17, .move (.tmp 16), 4, none) := by kernel_rfl
theorem p63_1_13 : pj (regOf Try.f63 1) 13 = some (some 18, .fieldAddr 50 (.tmp 2) 2, 0, some (12, true)) := by kernel_rfl
theorem g63_1_12 : dstOf (regOf Try.f63 1) 12 = some 17 := by kernel_rfl
theorem tS48 : (Try.prog.info? 48).map (·.size) = some 16 := by kernel_rfl
theorem p63_1_14 : pj (regOf Try.f63 1) 14 = some (some 19, .load 48 (.tmp 18), 48, some (12, true)) := by kernel_rfl
theorem tA48 : (Try.prog.underlying 48).map aggD = some true := by kernel_rfl
theorem p63_1_15 : pj (regOf Try.f63 1) 15 = some (some 20, .fieldAddr 50 (.tmp 3) 2, 0, some (12, true)) := by kernel_rfl
theorem p63_1_16 : pj (regOf Try.f63 1) 16 = some (some 21, .load 48 (.tmp 20), 48, some (12, true)) := by kernel_rfl
theorem p63_1_17 : pj (regOf Try.f63 1) 17 = some (some 22, .binOp .eql 48 (.tmp 19) (.tmp 21) 48, 4, some (12, true)) := by kernel_rfl
theorem eg48 : Try.prog.eqGuardType Try.prog.depth 48 = false := by kernel_rfl
theorem p63_1_18 : pj (regOf Try.f63 1) 18 = some (some 23, .pick (.tmp 17) (.tmp 22) (.const (.bool false)), 4, none) := by kernel_rfl
theorem p63_1_19 : pj (regOf Try.f63 1) 19 = some (some 24, .move (.tmp 23), 4, none) := by kernel_rfl
theorem p63_1_20 : pj (regOf Try.f63 1) 20 = some (some 25, .fieldAddr 50 (.tmp 2) 3, 0, some (19, true)) := by kernel_rfl
theorem g63_1_19 : dstOf (regOf Try.f63 1) 19 = some 24 := by kernel_rfl
theorem tS22 : (Try.prog.info? 22).map (·.size) = some 1 := by kernel_rfl
theorem p63_1_21 : pj (regOf Try.f63 1) 21 = some (some 26, .load 22 (.tmp 25), 22, some (19, true)) := by kernel_rfl
theorem tA22 : (Try.prog.underlying 22).map aggD = some false := by kernel_rfl
theorem p63_1_22 : pj (regOf Try.f63 1) 22 = some (some 27, .fieldAddr 50 (.tmp 3) 3, 0, some (19, true)) := by kernel_rfl
theorem p63_1_23 : pj (regOf Try.f63 1) 23 = some (some 28, .load 22 (.tmp 27), 22, some (19, true)) := by kernel_rfl
theorem p63_1_24 : pj (regOf Try.f63 1) 24 = some (some 29, .call { callee := .value (.func 117), args := #[.tmp 26, .tmp 28], argTypes := #[22, 22] }, 4, some (19, true)) := by kernel_rfl
theorem cl117 : callable Try.f117 = true := by kernel_rfl
theorem p63_1_25 : pj (regOf Try.f63 1) 25 = some (some 30, .pick (.tmp 24) (.tmp 29) (.const (.bool false)), 4, none) := by kernel_rfl
theorem p63_1_26 : pj (regOf Try.f63 1) 26 = some (some 4, .assign (.tmp 30), 4, none) := by kernel_rfl
set_option maxHeartbeats 4000000 in
theorem same_o (kk : Int) (l tx : List Int) (f : Nat → Int) (A T : Option Addr) (q c : Nat) (kk' : Int) (l' tx' : List Int) (f' : Nat → Int) (A' T' : Option Addr) (q' c' : Nat) (b : Bool) (hb : sameB kk l f tx kk' l' f' tx' = b) (hr : ∀ x ∈ tx, 0 ≤ x ∧ x ≤ 255) (hr' : ∀ x ∈ tx', 0 ≤ x ∧ x ≤ 255) (w : World) (hF : ∀ W', Kp w W' (fun _ => False) → Kd.C (Kd.int .i64) W' A l.length l) (hG : ∀ W', Kp w W' (fun _ => False) → Kd.C (Kd.int .u8) W' T tx.length tx) (hF' : ∀ W', Kp w W' (fun _ => False) → Kd.C (Kd.int .i64) W' A' l'.length l') (hG' : ∀ W', Kp w W' (fun _ => False) → Kd.C (Kd.int .u8) W' T' tx'.length tx') (hml : l.length ≤ 1000000000000) (hmt : tx.length ≤ 1000000) (hmc : tx.length ≤ c) (hmc' : tx'.length ≤ c') (hmt' : tx'.length ≤ 1000000) : Calls Try.prog 63 #[Value.agg (([Value.int .i64 kk, Value.slice A l.length q] ++ b16 f ++ [Value.slice T tx.length c])).toArray, Value.agg (([Value.int .i64 kk', Value.slice A' l'.length q'] ++ b16 f' ++ [Value.slice T' tx'.length c'])).toArray] w fun e w' => e = .returned (.bool b) ∧ Kp w w' (fun _ => False) := by
 have K_0 := Kp.refl w (fun _ => False)
 refine enter (args := [Value.agg (([Value.int .i64 kk, Value.slice A l.length q] ++ b16 f ++ [Value.slice T tx.length c])).toArray, Value.agg (([Value.int .i64 kk', Value.slice A' l'.length q'] ++ b16 f' ++ [Value.slice T' tx'.length c'])).toArray]) (n := 31) Try.func63 body63 rfl rfl rfl ?_
 intro a hE
 refine c_reg R63_0_l ?_
 refine p_cons (s_box p63_0_0 hE wn_none rfl rfl ?_)
 clear hE a; intro g1 w2 z3 B_g1 hk a hE
 replace B_g1 : w2.heap[g1]? = some (.cells (([Value.int .i64 kk, Value.slice A l.length q] ++ b16 f ++ [Value.slice T tx.length c])).toArray 50 (0, 0)) := B_g1
 have z_0_g1 := Nat.le_trans K_0.kept.1 z3
 replace K_0 := K_0.then_ hk (fun _ h => h.elim)
 clear hk
 refine p_cons (s_box p63_0_1 hE wn_none rfl rfl ?_)
 clear hE a; intro g4 w5 z6 B_g4 hk a hE
 replace B_g4 : w5.heap[g4]? = some (.cells (([Value.int .i64 kk', Value.slice A' l'.length q'] ++ b16 f' ++ [Value.slice T' tx'.length c'])).toArray 50 (0, 0)) := B_g4
 have n_g1_g4 : g1 ≠ g4 := ne_new B_g1 z6
 have z_0_g4 := Nat.le_trans K_0.kept.1 z6
 replace B_g1 := kp_blk B_g1 hk (fun h => h)
 replace K_0 := K_0.then_ hk (fun _ h => h.elim)
 clear hk
 refine q0 p63_0_2 hE (st_assign rfl) ?_; clear hE a; intro a hE
 refine p_nil (x_norm ?_)
 rcases Decidable.em (kk = kk') with hKK | hKK
 ·
  rcases Decidable.em (l = l') with hLL | hLL
  ·
   rcases Decidable.em (eqL (b16 f) (b16 f') = true) with hAD | hAD
   ·
    rcases Decidable.em (tx = tx') with hTX | hTX
    ·
     refine c_reg R63_1_l ?_
     refine q0 p63_1_0 hE (st_fieldAddr Try.underlying50 rfl tS3 rfl rfl) ?_; clear hE a; intro a hE
     refine q0 p63_1_1 hE (st_load1 tA3 rfl ((blk_cell B_g1 0).trans rfl)) ?_; clear hE a; intro a hE
     refine q0 p63_1_2 hE (st_fieldAddr Try.underlying50 rfl tS3 rfl rfl) ?_; clear hE a; intro a hE
     refine q0 p63_1_3 hE (st_load1 tA3 rfl ((blk_cell B_g4 0).trans rfl)) ?_; clear hE a; intro a hE
     refine q0 p63_1_4 hE (st_eql (b := true) rfl rfl (decide_eq_true hKK)) ?_; clear hE a; intro a hE
     refine q0 p63_1_5 hE (st_move rfl) ?_; clear hE a; intro a hE
     refine p_cons (s_still p63_1_6 hE (wn_some g63_1_5 rfl rfl) rfl (st_fieldAddr Try.underlying50 rfl tS42 rfl rfl) ?_); clear hE a; intro a hE
     refine p_cons (s_still p63_1_7 hE (wn_some g63_1_5 rfl rfl) rfl (st_load1 tA42 rfl ((blk_cell B_g1 1).trans rfl)) ?_); clear hE a; intro a hE
     refine p_cons (s_still p63_1_8 hE (wn_some g63_1_5 rfl rfl) rfl (st_fieldAddr Try.underlying50 rfl tS42 rfl rfl) ?_); clear hE a; intro a hE
     refine p_cons (s_still p63_1_9 hE (wn_some g63_1_5 rfl rfl) rfl (st_load1 tA42 rfl ((blk_cell B_g4 1).trans rfl)) ?_); clear hE a; intro a hE
     refine p_cons (s_call (xs := [Operand.tmp 12, Operand.tmp 14]) (args := [Value.slice A l.length q, Value.slice A' l'.length q']) p63_1_10 hE (wn_some g63_1_5 rfl rfl) rfl rfl Try.func116 cl116 (equali A A' q q' l l' true (decide_eq_true hLL) _ (fun W' hk => hF W' (K_0.then_ hk (fun _ h => h.elim))) (fun W' hk => hF' W' (K_0.then_ hk (fun _ h => h.elim))) hml) ?_)
     rintro e w7 ⟨rfl, hk⟩
     replace B_g1 := kp_blk B_g1 hk (fun h => h)
     replace B_g4 := kp_blk B_g4 hk (fun h => h)
     replace K_0 := K_0.then_ hk (fun _ h => h.elim)
     refine ⟨_, rfl, ?_⟩; clear hE a; intro a hE
     refine q0 p63_1_11 hE (st_pick rfl rfl) ?_; clear hE a; intro a hE
     refine q0 p63_1_12 hE (st_move rfl) ?_; clear hE a; intro a hE
     refine p_cons (s_still p63_1_13 hE (wn_some g63_1_12 rfl rfl) rfl (st_fieldAddr Try.underlying50 rfl tS48 rfl rfl) ?_); clear hE a; intro a hE
     refine p_cons (s_still p63_1_14 hE (wn_some g63_1_12 rfl rfl) rfl (st_loadN (off := 2) (k := 16) (vs := b16 f) tA48 tS48 rfl B_g1 rfl rfl) ?_); clear hE a; intro a hE
     refine p_cons (s_still p63_1_15 hE (wn_some g63_1_12 rfl rfl) rfl (st_fieldAddr Try.underlying50 rfl tS48 rfl rfl) ?_); clear hE a; intro a hE
     refine p_cons (s_still p63_1_16 hE (wn_some g63_1_12 rfl rfl) rfl (st_loadN (off := 2) (k := 16) (vs := b16 f') tA48 tS48 rfl B_g4 rfl rfl) ?_); clear hE a; intro a hE
     refine p_cons (s_still p63_1_17 hE (wn_some g63_1_12 rfl rfl) rfl (st_eqlA (b := true) eg48 rfl rfl (eqA_flat eqX_ks (by kernel_rfl) rfl rfl hAD)) ?_); clear hE a; intro a hE
     refine q0 p63_1_18 hE (st_pick rfl rfl) ?_; clear hE a; intro a hE
     refine q0 p63_1_19 hE (st_move rfl) ?_; clear hE a; intro a hE
     refine p_cons (s_still p63_1_20 hE (wn_some g63_1_19 rfl rfl) rfl (st_fieldAddr Try.underlying50 rfl tS22 rfl rfl) ?_); clear hE a; intro a hE
     refine p_cons (s_still p63_1_21 hE (wn_some g63_1_19 rfl rfl) rfl (st_load1 tA22 rfl ((blk_cell B_g1 18).trans rfl)) ?_); clear hE a; intro a hE
     refine p_cons (s_still p63_1_22 hE (wn_some g63_1_19 rfl rfl) rfl (st_fieldAddr Try.underlying50 rfl tS22 rfl rfl) ?_); clear hE a; intro a hE
     refine p_cons (s_still p63_1_23 hE (wn_some g63_1_19 rfl rfl) rfl (st_load1 tA22 rfl ((blk_cell B_g4 18).trans rfl)) ?_); clear hE a; intro a hE
     refine p_cons (s_call (xs := [Operand.tmp 26, Operand.tmp 28]) (args := [Value.slice T tx.length c, Value.slice T' tx'.length c']) p63_1_24 hE (wn_some g63_1_19 rfl rfl) rfl rfl Try.func117 cl117 (equalb T T' c c' tx tx' true (decide_eq_true hTX) hr hr' _ (fun W' hk => hG W' (K_0.then_ hk (fun _ h => h.elim))) (fun W' hk => hG' W' (K_0.then_ hk (fun _ h => h.elim)))) ?_)
     rintro e w8 ⟨rfl, hk⟩
     replace B_g1 := kp_blk B_g1 hk (fun h => h)
     replace B_g4 := kp_blk B_g4 hk (fun h => h)
     replace K_0 := K_0.then_ hk (fun _ h => h.elim)
     refine ⟨_, rfl, ?_⟩; clear hE a; intro a hE
     refine q0 p63_1_25 hE (st_pick rfl rfl) ?_; clear hE a; intro a hE
     refine q0 p63_1_26 hE (st_assign rfl) ?_; clear hE a; intro a hE
     refine p_nil (x_norm (wp_ret ?_))
     refine ret_one (v := Value.bool true) rfl hE (.tmp rfl .nil) ?_
     exact ⟨by rw [← hb]; unfold sameB; rw [decide_eq_true hKK, decide_eq_true hLL, hAD, decide_eq_true hTX]; rfl, K_0⟩
    ·
     refine c_reg R63_1_l ?_
     refine q0 p63_1_0 hE (st_fieldAddr Try.underlying50 rfl tS3 rfl rfl) ?_; clear hE a; intro a hE
     refine q0 p63_1_1 hE (st_load1 tA3 rfl ((blk_cell B_g1 0).trans rfl)) ?_; clear hE a; intro a hE
     refine q0 p63_1_2 hE (st_fieldAddr Try.underlying50 rfl tS3 rfl rfl) ?_; clear hE a; intro a hE
     refine q0 p63_1_3 hE (st_load1 tA3 rfl ((blk_cell B_g4 0).trans rfl)) ?_; clear hE a; intro a hE
     refine q0 p63_1_4 hE (st_eql (b := true) rfl rfl (decide_eq_true hKK)) ?_; clear hE a; intro a hE
     refine q0 p63_1_5 hE (st_move rfl) ?_; clear hE a; intro a hE
     refine p_cons (s_still p63_1_6 hE (wn_some g63_1_5 rfl rfl) rfl (st_fieldAddr Try.underlying50 rfl tS42 rfl rfl) ?_); clear hE a; intro a hE
     refine p_cons (s_still p63_1_7 hE (wn_some g63_1_5 rfl rfl) rfl (st_load1 tA42 rfl ((blk_cell B_g1 1).trans rfl)) ?_); clear hE a; intro a hE
     refine p_cons (s_still p63_1_8 hE (wn_some g63_1_5 rfl rfl) rfl (st_fieldAddr Try.underlying50 rfl tS42 rfl rfl) ?_); clear hE a; intro a hE
     refine p_cons (s_still p63_1_9 hE (wn_some g63_1_5 rfl rfl) rfl (st_load1 tA42 rfl ((blk_cell B_g4 1).trans rfl)) ?_); clear hE a; intro a hE
     refine p_cons (s_call (xs := [Operand.tmp 12, Operand.tmp 14]) (args := [Value.slice A l.length q, Value.slice A' l'.length q']) p63_1_10 hE (wn_some g63_1_5 rfl rfl) rfl rfl Try.func116 cl116 (equali A A' q q' l l' true (decide_eq_true hLL) _ (fun W' hk => hF W' (K_0.then_ hk (fun _ h => h.elim))) (fun W' hk => hF' W' (K_0.then_ hk (fun _ h => h.elim))) hml) ?_)
     rintro e w9 ⟨rfl, hk⟩
     replace B_g1 := kp_blk B_g1 hk (fun h => h)
     replace B_g4 := kp_blk B_g4 hk (fun h => h)
     replace K_0 := K_0.then_ hk (fun _ h => h.elim)
     refine ⟨_, rfl, ?_⟩; clear hE a; intro a hE
     refine q0 p63_1_11 hE (st_pick rfl rfl) ?_; clear hE a; intro a hE
     refine q0 p63_1_12 hE (st_move rfl) ?_; clear hE a; intro a hE
     refine p_cons (s_still p63_1_13 hE (wn_some g63_1_12 rfl rfl) rfl (st_fieldAddr Try.underlying50 rfl tS48 rfl rfl) ?_); clear hE a; intro a hE
     refine p_cons (s_still p63_1_14 hE (wn_some g63_1_12 rfl rfl) rfl (st_loadN (off := 2) (k := 16) (vs := b16 f) tA48 tS48 rfl B_g1 rfl rfl) ?_); clear hE a; intro a hE
     refine p_cons (s_still p63_1_15 hE (wn_some g63_1_12 rfl rfl) rfl (st_fieldAddr Try.underlying50 rfl tS48 rfl rfl) ?_); clear hE a; intro a hE
     refine p_cons (s_still p63_1_16 hE (wn_some g63_1_12 rfl rfl) rfl (st_loadN (off := 2) (k := 16) (vs := b16 f') tA48 tS48 rfl B_g4 rfl rfl) ?_); clear hE a; intro a hE
     refine p_cons (s_still p63_1_17 hE (wn_some g63_1_12 rfl rfl) rfl (st_eqlA (b := true) eg48 rfl rfl (eqA_flat eqX_ks (by kernel_rfl) rfl rfl hAD)) ?_); clear hE a; intro a hE
     refine q0 p63_1_18 hE (st_pick rfl rfl) ?_; clear hE a; intro a hE
     refine q0 p63_1_19 hE (st_move rfl) ?_; clear hE a; intro a hE
     refine p_cons (s_still p63_1_20 hE (wn_some g63_1_19 rfl rfl) rfl (st_fieldAddr Try.underlying50 rfl tS22 rfl rfl) ?_); clear hE a; intro a hE
     refine p_cons (s_still p63_1_21 hE (wn_some g63_1_19 rfl rfl) rfl (st_load1 tA22 rfl ((blk_cell B_g1 18).trans rfl)) ?_); clear hE a; intro a hE
     refine p_cons (s_still p63_1_22 hE (wn_some g63_1_19 rfl rfl) rfl (st_fieldAddr Try.underlying50 rfl tS22 rfl rfl) ?_); clear hE a; intro a hE
     refine p_cons (s_still p63_1_23 hE (wn_some g63_1_19 rfl rfl) rfl (st_load1 tA22 rfl ((blk_cell B_g4 18).trans rfl)) ?_); clear hE a; intro a hE
     refine p_cons (s_call (xs := [Operand.tmp 26, Operand.tmp 28]) (args := [Value.slice T tx.length c, Value.slice T' tx'.length c']) p63_1_24 hE (wn_some g63_1_19 rfl rfl) rfl rfl Try.func117 cl117 (equalb T T' c c' tx tx' false (decide_eq_false hTX) hr hr' _ (fun W' hk => hG W' (K_0.then_ hk (fun _ h => h.elim))) (fun W' hk => hG' W' (K_0.then_ hk (fun _ h => h.elim)))) ?_)
     rintro e w10 ⟨rfl, hk⟩
     replace B_g1 := kp_blk B_g1 hk (fun h => h)
     replace B_g4 := kp_blk B_g4 hk (fun h => h)
     replace K_0 := K_0.then_ hk (fun _ h => h.elim)
     refine ⟨_, rfl, ?_⟩; clear hE a; intro a hE
     refine q0 p63_1_25 hE (st_pick rfl rfl) ?_; clear hE a; intro a hE
     refine q0 p63_1_26 hE (st_assign rfl) ?_; clear hE a; intro a hE
     refine p_nil (x_norm (wp_ret ?_))
     refine ret_one (v := Value.bool false) rfl hE (.tmp rfl .nil) ?_
     exact ⟨by rw [← hb]; unfold sameB; rw [decide_eq_true hKK, decide_eq_true hLL, hAD, decide_eq_false hTX]; rfl, K_0⟩
   ·
    refine c_reg R63_1_l ?_
    refine q0 p63_1_0 hE (st_fieldAddr Try.underlying50 rfl tS3 rfl rfl) ?_; clear hE a; intro a hE
    refine q0 p63_1_1 hE (st_load1 tA3 rfl ((blk_cell B_g1 0).trans rfl)) ?_; clear hE a; intro a hE
    refine q0 p63_1_2 hE (st_fieldAddr Try.underlying50 rfl tS3 rfl rfl) ?_; clear hE a; intro a hE
    refine q0 p63_1_3 hE (st_load1 tA3 rfl ((blk_cell B_g4 0).trans rfl)) ?_; clear hE a; intro a hE
    refine q0 p63_1_4 hE (st_eql (b := true) rfl rfl (decide_eq_true hKK)) ?_; clear hE a; intro a hE
    refine q0 p63_1_5 hE (st_move rfl) ?_; clear hE a; intro a hE
    refine p_cons (s_still p63_1_6 hE (wn_some g63_1_5 rfl rfl) rfl (st_fieldAddr Try.underlying50 rfl tS42 rfl rfl) ?_); clear hE a; intro a hE
    refine p_cons (s_still p63_1_7 hE (wn_some g63_1_5 rfl rfl) rfl (st_load1 tA42 rfl ((blk_cell B_g1 1).trans rfl)) ?_); clear hE a; intro a hE
    refine p_cons (s_still p63_1_8 hE (wn_some g63_1_5 rfl rfl) rfl (st_fieldAddr Try.underlying50 rfl tS42 rfl rfl) ?_); clear hE a; intro a hE
    refine p_cons (s_still p63_1_9 hE (wn_some g63_1_5 rfl rfl) rfl (st_load1 tA42 rfl ((blk_cell B_g4 1).trans rfl)) ?_); clear hE a; intro a hE
    refine p_cons (s_call (xs := [Operand.tmp 12, Operand.tmp 14]) (args := [Value.slice A l.length q, Value.slice A' l'.length q']) p63_1_10 hE (wn_some g63_1_5 rfl rfl) rfl rfl Try.func116 cl116 (equali A A' q q' l l' true (decide_eq_true hLL) _ (fun W' hk => hF W' (K_0.then_ hk (fun _ h => h.elim))) (fun W' hk => hF' W' (K_0.then_ hk (fun _ h => h.elim))) hml) ?_)
    rintro e w11 ⟨rfl, hk⟩
    replace B_g1 := kp_blk B_g1 hk (fun h => h)
    replace B_g4 := kp_blk B_g4 hk (fun h => h)
    replace K_0 := K_0.then_ hk (fun _ h => h.elim)
    refine ⟨_, rfl, ?_⟩; clear hE a; intro a hE
    refine q0 p63_1_11 hE (st_pick rfl rfl) ?_; clear hE a; intro a hE
    refine q0 p63_1_12 hE (st_move rfl) ?_; clear hE a; intro a hE
    refine p_cons (s_still p63_1_13 hE (wn_some g63_1_12 rfl rfl) rfl (st_fieldAddr Try.underlying50 rfl tS48 rfl rfl) ?_); clear hE a; intro a hE
    refine p_cons (s_still p63_1_14 hE (wn_some g63_1_12 rfl rfl) rfl (st_loadN (off := 2) (k := 16) (vs := b16 f) tA48 tS48 rfl B_g1 rfl rfl) ?_); clear hE a; intro a hE
    refine p_cons (s_still p63_1_15 hE (wn_some g63_1_12 rfl rfl) rfl (st_fieldAddr Try.underlying50 rfl tS48 rfl rfl) ?_); clear hE a; intro a hE
    refine p_cons (s_still p63_1_16 hE (wn_some g63_1_12 rfl rfl) rfl (st_loadN (off := 2) (k := 16) (vs := b16 f') tA48 tS48 rfl B_g4 rfl rfl) ?_); clear hE a; intro a hE
    refine p_cons (s_still p63_1_17 hE (wn_some g63_1_12 rfl rfl) rfl (st_eqlA (b := false) eg48 rfl rfl (eqA_flat eqX_ks (by kernel_rfl) rfl rfl (by simpa using hAD))) ?_); clear hE a; intro a hE
    refine q0 p63_1_18 hE (st_pick rfl rfl) ?_; clear hE a; intro a hE
    refine q0 p63_1_19 hE (st_move rfl) ?_; clear hE a; intro a hE
    refine p_cons (s_skip p63_1_20 hE (wn_some g63_1_19 rfl rfl) rfl ?_); clear hE a; intro a hE
    refine p_cons (s_skip p63_1_21 hE (wn_some g63_1_19 rfl rfl) rfl ?_); clear hE a; intro a hE
    refine p_cons (s_skip p63_1_22 hE (wn_some g63_1_19 rfl rfl) rfl ?_); clear hE a; intro a hE
    refine p_cons (s_skip p63_1_23 hE (wn_some g63_1_19 rfl rfl) rfl ?_); clear hE a; intro a hE
    refine p_cons (s_skip p63_1_24 hE (wn_some g63_1_19 rfl rfl) rfl ?_); clear hE a; intro a hE
    refine q0 p63_1_25 hE (st_pick rfl rfl) ?_; clear hE a; intro a hE
    refine q0 p63_1_26 hE (st_assign rfl) ?_; clear hE a; intro a hE
    refine p_nil (x_norm (wp_ret ?_))
    refine ret_one (v := Value.bool false) rfl hE (.tmp rfl .nil) ?_
    exact ⟨by rw [← hb]; unfold sameB; rw [show eqL (b16 f) (b16 f') = false by simpa using hAD]; simp, K_0⟩
  ·
   refine c_reg R63_1_l ?_
   refine q0 p63_1_0 hE (st_fieldAddr Try.underlying50 rfl tS3 rfl rfl) ?_; clear hE a; intro a hE
   refine q0 p63_1_1 hE (st_load1 tA3 rfl ((blk_cell B_g1 0).trans rfl)) ?_; clear hE a; intro a hE
   refine q0 p63_1_2 hE (st_fieldAddr Try.underlying50 rfl tS3 rfl rfl) ?_; clear hE a; intro a hE
   refine q0 p63_1_3 hE (st_load1 tA3 rfl ((blk_cell B_g4 0).trans rfl)) ?_; clear hE a; intro a hE
   refine q0 p63_1_4 hE (st_eql (b := true) rfl rfl (decide_eq_true hKK)) ?_; clear hE a; intro a hE
   refine q0 p63_1_5 hE (st_move rfl) ?_; clear hE a; intro a hE
   refine p_cons (s_still p63_1_6 hE (wn_some g63_1_5 rfl rfl) rfl (st_fieldAddr Try.underlying50 rfl tS42 rfl rfl) ?_); clear hE a; intro a hE
   refine p_cons (s_still p63_1_7 hE (wn_some g63_1_5 rfl rfl) rfl (st_load1 tA42 rfl ((blk_cell B_g1 1).trans rfl)) ?_); clear hE a; intro a hE
   refine p_cons (s_still p63_1_8 hE (wn_some g63_1_5 rfl rfl) rfl (st_fieldAddr Try.underlying50 rfl tS42 rfl rfl) ?_); clear hE a; intro a hE
   refine p_cons (s_still p63_1_9 hE (wn_some g63_1_5 rfl rfl) rfl (st_load1 tA42 rfl ((blk_cell B_g4 1).trans rfl)) ?_); clear hE a; intro a hE
   refine p_cons (s_call (xs := [Operand.tmp 12, Operand.tmp 14]) (args := [Value.slice A l.length q, Value.slice A' l'.length q']) p63_1_10 hE (wn_some g63_1_5 rfl rfl) rfl rfl Try.func116 cl116 (equali A A' q q' l l' false (decide_eq_false hLL) _ (fun W' hk => hF W' (K_0.then_ hk (fun _ h => h.elim))) (fun W' hk => hF' W' (K_0.then_ hk (fun _ h => h.elim))) hml) ?_)
   rintro e w12 ⟨rfl, hk⟩
   replace B_g1 := kp_blk B_g1 hk (fun h => h)
   replace B_g4 := kp_blk B_g4 hk (fun h => h)
   replace K_0 := K_0.then_ hk (fun _ h => h.elim)
   refine ⟨_, rfl, ?_⟩; clear hE a; intro a hE
   refine q0 p63_1_11 hE (st_pick rfl rfl) ?_; clear hE a; intro a hE
   refine q0 p63_1_12 hE (st_move rfl) ?_; clear hE a; intro a hE
   refine p_cons (s_skip p63_1_13 hE (wn_some g63_1_12 rfl rfl) rfl ?_); clear hE a; intro a hE
   refine p_cons (s_skip p63_1_14 hE (wn_some g63_1_12 rfl rfl) rfl ?_); clear hE a; intro a hE
   refine p_cons (s_skip p63_1_15 hE (wn_some g63_1_12 rfl rfl) rfl ?_); clear hE a; intro a hE
   refine p_cons (s_skip p63_1_16 hE (wn_some g63_1_12 rfl rfl) rfl ?_); clear hE a; intro a hE
   refine p_cons (s_skip p63_1_17 hE (wn_some g63_1_12 rfl rfl) rfl ?_); clear hE a; intro a hE
   refine q0 p63_1_18 hE (st_pick rfl rfl) ?_; clear hE a; intro a hE
   refine q0 p63_1_19 hE (st_move rfl) ?_; clear hE a; intro a hE
   refine p_cons (s_skip p63_1_20 hE (wn_some g63_1_19 rfl rfl) rfl ?_); clear hE a; intro a hE
   refine p_cons (s_skip p63_1_21 hE (wn_some g63_1_19 rfl rfl) rfl ?_); clear hE a; intro a hE
   refine p_cons (s_skip p63_1_22 hE (wn_some g63_1_19 rfl rfl) rfl ?_); clear hE a; intro a hE
   refine p_cons (s_skip p63_1_23 hE (wn_some g63_1_19 rfl rfl) rfl ?_); clear hE a; intro a hE
   refine p_cons (s_skip p63_1_24 hE (wn_some g63_1_19 rfl rfl) rfl ?_); clear hE a; intro a hE
   refine q0 p63_1_25 hE (st_pick rfl rfl) ?_; clear hE a; intro a hE
   refine q0 p63_1_26 hE (st_assign rfl) ?_; clear hE a; intro a hE
   refine p_nil (x_norm (wp_ret ?_))
   refine ret_one (v := Value.bool false) rfl hE (.tmp rfl .nil) ?_
   exact ⟨by rw [← hb]; unfold sameB; rw [decide_eq_false hLL]; simp, K_0⟩
 ·
  refine c_reg R63_1_l ?_
  refine q0 p63_1_0 hE (st_fieldAddr Try.underlying50 rfl tS3 rfl rfl) ?_; clear hE a; intro a hE
  refine q0 p63_1_1 hE (st_load1 tA3 rfl ((blk_cell B_g1 0).trans rfl)) ?_; clear hE a; intro a hE
  refine q0 p63_1_2 hE (st_fieldAddr Try.underlying50 rfl tS3 rfl rfl) ?_; clear hE a; intro a hE
  refine q0 p63_1_3 hE (st_load1 tA3 rfl ((blk_cell B_g4 0).trans rfl)) ?_; clear hE a; intro a hE
  refine q0 p63_1_4 hE (st_eql (b := false) rfl rfl (decide_eq_false hKK)) ?_; clear hE a; intro a hE
  refine q0 p63_1_5 hE (st_move rfl) ?_; clear hE a; intro a hE
  refine p_cons (s_skip p63_1_6 hE (wn_some g63_1_5 rfl rfl) rfl ?_); clear hE a; intro a hE
  refine p_cons (s_skip p63_1_7 hE (wn_some g63_1_5 rfl rfl) rfl ?_); clear hE a; intro a hE
  refine p_cons (s_skip p63_1_8 hE (wn_some g63_1_5 rfl rfl) rfl ?_); clear hE a; intro a hE
  refine p_cons (s_skip p63_1_9 hE (wn_some g63_1_5 rfl rfl) rfl ?_); clear hE a; intro a hE
  refine p_cons (s_skip p63_1_10 hE (wn_some g63_1_5 rfl rfl) rfl ?_); clear hE a; intro a hE
  refine q0 p63_1_11 hE (st_pick rfl rfl) ?_; clear hE a; intro a hE
  refine q0 p63_1_12 hE (st_move rfl) ?_; clear hE a; intro a hE
  refine p_cons (s_skip p63_1_13 hE (wn_some g63_1_12 rfl rfl) rfl ?_); clear hE a; intro a hE
  refine p_cons (s_skip p63_1_14 hE (wn_some g63_1_12 rfl rfl) rfl ?_); clear hE a; intro a hE
  refine p_cons (s_skip p63_1_15 hE (wn_some g63_1_12 rfl rfl) rfl ?_); clear hE a; intro a hE
  refine p_cons (s_skip p63_1_16 hE (wn_some g63_1_12 rfl rfl) rfl ?_); clear hE a; intro a hE
  refine p_cons (s_skip p63_1_17 hE (wn_some g63_1_12 rfl rfl) rfl ?_); clear hE a; intro a hE
  refine q0 p63_1_18 hE (st_pick rfl rfl) ?_; clear hE a; intro a hE
  refine q0 p63_1_19 hE (st_move rfl) ?_; clear hE a; intro a hE
  refine p_cons (s_skip p63_1_20 hE (wn_some g63_1_19 rfl rfl) rfl ?_); clear hE a; intro a hE
  refine p_cons (s_skip p63_1_21 hE (wn_some g63_1_19 rfl rfl) rfl ?_); clear hE a; intro a hE
  refine p_cons (s_skip p63_1_22 hE (wn_some g63_1_19 rfl rfl) rfl ?_); clear hE a; intro a hE
  refine p_cons (s_skip p63_1_23 hE (wn_some g63_1_19 rfl rfl) rfl ?_); clear hE a; intro a hE
  refine p_cons (s_skip p63_1_24 hE (wn_some g63_1_19 rfl rfl) rfl ?_); clear hE a; intro a hE
  refine q0 p63_1_25 hE (st_pick rfl rfl) ?_; clear hE a; intro a hE
  refine q0 p63_1_26 hE (st_assign rfl) ?_; clear hE a; intro a hE
  refine p_nil (x_norm (wp_ret ?_))
  refine ret_one (v := Value.bool false) rfl hE (.tmp rfl .nil) ?_
  exact ⟨by rw [← hb]; unfold sameB; rw [decide_eq_false hKK]; rfl, K_0⟩
theorem R55_0_l : List.range (regOf Try.f55 0).size = [0, 1, 2] := by kernel_rfl
theorem R55_1_l : List.range (regOf Try.f55 1).size = [0, 1, 2, 3, 4, 5, 6, 7, 8, 9, 10, 11, 12, 13, 14, 15, 16, 17, 18, 19, 20] := by kernel_rfl
theorem R55_2_l : List.range (regOf Try.f55 2).size = [0] := by kernel_rfl
theorem R55_3_l : List.range (regOf Try.f55 3).size = [0] := by kernel_rfl
theorem R55_4_l : List.range (regOf Try.f55 4).size = [0, 1, 2, 3, 4] := by kernel_rfl
theorem R55_7_l : List.range (regOf Try.f55 7).size = [0] := by kernel_rfl
theorem R55_5_l : List.range (regOf Try.f55 5).size = [0, 1, 2] := by kernel_rfl
theorem R55_8_l : List.range (regOf Try.f55 8).size = [0, 1, 2, 3, 4, 5] := by kernel_rfl
theorem body55 : Try.f55.body = some (.seq (.region 0 (regOf Try.f55 0) false) (.seq (.seq (.region 1 (regOf Try.f55 1) false) (.cond (Operand.tmp 26) (.seq (.region 2 (regOf Try.f55 2) false) (.ret)) (.skip))) (.seq (.seq (.region 3 (regOf Try.f55 3) false) (.block 0 (.loop (.seq (.seq (.region 4 (regOf Try.f55 4) false) (.cond (Operand.tmp 31) (.skip) (.exit 0))) (.seq (.block 1 (.seq (.region 6 (regOf Try.f55 6) true) (.cond (Operand.tmp 44) (.seq (.region 7 (regOf Try.f55 7) false) (.ret)) (.skip)))) (.region 5 (regOf Try.f55 5) false)))))) (.seq (.region 8 (regOf Try.f55 8) false) (.ret))))) := by kernel_rfl
theorem p55_0_0 : pj (regOf Try.f55 0) 0 = some (some 2, .box 45 (.tmp 0), 0, none) := by kernel_rfl
theorem p55_0_1 : pj (regOf Try.f55 0) 1 = some (some 3, .box 45 (.tmp 1), 0, none) := by kernel_rfl
theorem p55_0_2 : pj (regOf Try.f55 0) 2 = some (some 4, .assign (.const (.bool false)), 4, none) := by kernel_rfl
theorem p55_1_0 : pj (regOf Try.f55 1) 0 = some (some 6, .fieldAddr 45 (.tmp 2) 0, 0, none) := by kernel_rfl
theorem p55_1_1 : pj (regOf Try.f55 1) 1 = some (some 7, .load 3 (.tmp 6), 3, none) := by kernel_rfl
theorem p55_1_2 : pj (regOf Try.f55 1) 2 = some (some 8, .fieldAddr 45 (.tmp 3) 0, 0, none) := by kernel_rfl
theorem p55_1_3 : pj (regOf Try.f55 1) 3 = some (some 9, .load 3 (.tmp 8), 3, none) := by kernel_rfl
theorem p55_1_4 : pj (regOf Try.f55 1) 4 = some (some 10, .binOp .neq 3 (.tmp 7) (.tmp 9) 3, 4, none) := by kernel_rfl
theorem p55_1_5 : pj (regOf Try.f55 1) 5 = some (some 11, .move (.tmp 10), 4, none) := by kernel_rfl
theorem p55_1_6 : pj (regOf Try.f55 1) 6 = some (some 12, .fieldAddr 45 (.tmp 2) 2, 0, some (5, false)) := by kernel_rfl
theorem g55_1_5 : dstOf (regOf Try.f55 1) 5 = some 11 := by kernel_rfl
theorem tS43 : (Try.prog.info? 43).map (·.size) = some 16 := by kernel_rfl
theorem p55_1_7 : pj (regOf Try.f55 1) 7 = some (some 13, .load 43 (.tmp 12), 43, some (5, false)) := by kernel_rfl
theorem tA43 : (Try.prog.underlying 43).map aggD = some true := by kernel_rfl
theorem p55_1_8 : pj (regOf Try.f55 1) 8 = some (some 14, .fieldAddr 45 (.tmp 3) 2, 0, some (5, false)) := by kernel_rfl
theorem p55_1_9 : pj (regOf Try.f55 1) 9 = some (some 15, .load 43 (.tmp 14), 43, some (5, false)) := by kernel_rfl
theorem p55_1_10 : pj (regOf Try.f55 1) 10 = some (some 16, .binOp .neq 43 (.tmp 13) (.tmp 15) 43, 4, some (5, false)) := by kernel_rfl
theorem eg43 : Try.prog.eqGuardType Try.prog.depth 43 = false := by kernel_rfl
theorem p55_1_11 : pj (regOf Try.f55 1) 11 = some (some 17, .pick (.tmp 11) (.const (.bool true)) (.tmp 16), 4, none) := by kernel_rfl
theorem p55_1_12 : pj (regOf Try.f55 1) 12 = some (some 18, .move (.tmp 17), 4, none) := by kernel_rfl
theorem p55_1_13 : pj (regOf Try.f55 1) 13 = some (some 19, .fieldAddr 45 (.tmp 2) 1, 0, some (12, false)) := by kernel_rfl
theorem g55_1_12 : dstOf (regOf Try.f55 1) 12 = some 18 := by kernel_rfl
theorem p55_1_14 : pj (regOf Try.f55 1) 14 = some (some 20, .load 42 (.tmp 19), 42, some (12, false)) := by kernel_rfl
theorem p55_1_15 : pj (regOf Try.f55 1) 15 = some (some 21, .call { callee := .builtin .len, args := #[.tmp 20], argTypes := #[42] }, 3, some (12, false)) := by kernel_rfl
theorem p55_1_16 : pj (regOf Try.f55 1) 16 = some (some 22, .fieldAddr 45 (.tmp 3) 1, 0, some (12, false)) := by kernel_rfl
theorem p55_1_17 : pj (regOf Try.f55 1) 17 = some (some 23, .load 42 (.tmp 22), 42, some (12, false)) := by kernel_rfl
theorem p55_1_18 : pj (regOf Try.f55 1) 18 = some (some 24, .call { callee := .builtin .len, args := #[.tmp 23], argTypes := #[42] }, 3, some (12, false)) := by kernel_rfl
theorem p55_1_19 : pj (regOf Try.f55 1) 19 = some (some 25, .binOp .neq 3 (.tmp 21) (.tmp 24) 3, 4, some (12, false)) := by kernel_rfl
theorem p55_1_20 : pj (regOf Try.f55 1) 20 = some (some 26, .pick (.tmp 18) (.const (.bool true)) (.tmp 25), 4, none) := by kernel_rfl
theorem p55_3_0 : pj (regOf Try.f55 3) 0 = some (some 5, .assign (.const (.int .i64 0)), 3, none) := by kernel_rfl
theorem p55_4_0 : pj (regOf Try.f55 4) 0 = some (some 27, .move (.tmp 5), 3, none) := by kernel_rfl
theorem p55_4_1 : pj (regOf Try.f55 4) 1 = some (some 28, .fieldAddr 45 (.tmp 2) 1, 0, none) := by kernel_rfl
theorem p55_4_2 : pj (regOf Try.f55 4) 2 = some (some 29, .load 42 (.tmp 28), 42, none) := by kernel_rfl
theorem p55_4_3 : pj (regOf Try.f55 4) 3 = some (some 30, .call { callee := .builtin .len, args := #[.tmp 29], argTypes := #[42] }, 3, none) := by kernel_rfl
theorem p55_4_4 : pj (regOf Try.f55 4) 4 = some (some 31, .binOp .lss 3 (.tmp 27) (.tmp 30) 3, 4, none) := by kernel_rfl
theorem ns55_6 : Region.noSelect (regOf Try.f55 6) = true := by kernel_rfl
theorem p55_6_0 : pj (regOf Try.f55 6) 0 = some (some 34, .fieldAddr 45 (.tmp 2) 1, 0, none) := by kernel_rfl
theorem p55_6_1 : pj (regOf Try.f55 6) 1 = some (some 35, .load 42 (.tmp 34), 42, none) := by kernel_rfl
theorem p55_6_2 : pj (regOf Try.f55 6) 2 = some (some 36, .move (.tmp 5), 3, none) := by kernel_rfl
theorem p55_6_3 : pj (regOf Try.f55 6) 3 = some (some 37, .indexAddr 42 (.tmp 35) (.tmp 36), 0, none) := by kernel_rfl
theorem p55_6_4 : pj (regOf Try.f55 6) 4 = some (some 38, .load 3 (.tmp 37), 3, none) := by kernel_rfl
theorem p55_6_5 : pj (regOf Try.f55 6) 5 = some (some 39, .fieldAddr 45 (.tmp 3) 1, 0, none) := by kernel_rfl
theorem p55_6_6 : pj (regOf Try.f55 6) 6 = some (some 40, .load 42 (.tmp 39), 42, none) := by kernel_rfl
theorem p55_6_7 : pj (regOf Try.f55 6) 7 = some (some 41, .move (.tmp 5), 3, none) := by kernel_rfl
theorem p55_6_8 : pj (regOf Try.f55 6) 8 = some (some 42, .indexAddr 42 (.tmp 40) (.tmp 41), 0, none) := by kernel_rfl
theorem p55_6_9 : pj (regOf Try.f55 6) 9 = some (some 43, .load 3 (.tmp 42), 3, none) := by kernel_rfl
theorem p55_6_10 : pj (regOf Try.f55 6) 10 = some (some 44, .binOp .neq 3 (.tmp 38) (.tmp 43) 3, 4, none) := by kernel_rfl
theorem p55_5_0 : pj (regOf Try.f55 5) 0 = some (some 32, .move (.tmp 5), 3, none) := by kernel_rfl
theorem p55_5_1 : pj (regOf Try.f55 5) 1 = some (some 33, .binOp .add 3 (.tmp 32) (.const (.int .i64 1)) 3, 3, none) := by kernel_rfl
theorem p55_5_2 : pj (regOf Try.f55 5) 2 = some (some 5, .assign (.tmp 33), 3, none) := by kernel_rfl
theorem p55_7_0 : pj (regOf Try.f55 7) 0 = some (some 4, .assign (.const (.bool false)), 4, none) := by kernel_rfl
theorem p55_8_0 : pj (regOf Try.f55 8) 0 = some (some 45, .fieldAddr 45 (.tmp 2) 3, 0, none) := by kernel_rfl
theorem p55_8_1 : pj (regOf Try.f55 8) 1 = some (some 46, .load 22 (.tmp 45), 22, none) := by kernel_rfl
theorem p55_8_2 : pj (regOf Try.f55 8) 2 = some (some 47, .fieldAddr 45 (.tmp 3) 3, 0, none) := by kernel_rfl
theorem p55_8_3 : pj (regOf Try.f55 8) 3 = some (some 48, .load 22 (.tmp 47), 22, none) := by kernel_rfl
theorem p55_8_4 : pj (regOf Try.f55 8) 4 = some (some 49, .call { callee := .value (.func 15), args := #[.tmp 46, .tmp 48], argTypes := #[22, 22] }, 4, none) := by kernel_rfl
theorem cl15 : callable Try.f15 = true := by kernel_rfl
theorem p55_8_5 : pj (regOf Try.f55 8) 5 = some (some 4, .assign (.tmp 49), 4, none) := by kernel_rfl
theorem p55_2_0 : pj (regOf Try.f55 2) 0 = some (some 4, .assign (.const (.bool false)), 4, none) := by kernel_rfl
set_option maxHeartbeats 4000000 in
theorem rsame_o (kk : Int) (l tx : List Int) (f : Nat → Int) (A T : Option Addr) (q c : Nat) (kk' : Int) (l' tx' : List Int) (f' : Nat → Int) (A' T' : Option Addr) (q' c' : Nat) (b : Bool) (hb : sameB kk l f tx kk' l' f' tx' = b) (hr : ∀ x ∈ tx, 0 ≤ x ∧ x ≤ 255) (hr' : ∀ x ∈ tx', 0 ≤ x ∧ x ≤ 255) (w : World) (hF : ∀ W', Kp w W' (fun _ => False) → Kd.C (Kd.int .i64) W' A l.length l) (hG : ∀ W', Kp w W' (fun _ => False) → Kd.C (Kd.int .u8) W' T tx.length tx) (hF' : ∀ W', Kp w W' (fun _ => False) → Kd.C (Kd.int .i64) W' A' l'.length l') (hG' : ∀ W', Kp w W' (fun _ => False) → Kd.C (Kd.int .u8) W' T' tx'.length tx') (hml : l.length ≤ 1000000000000) (hmt : tx.length ≤ 1000000) (hmc : tx.length ≤ c) (hmc' : tx'.length ≤ c') (hmt' : tx'.length ≤ 1000000) : Calls Try.prog 55 #[Value.agg (([Value.int .i64 kk, Value.slice A l.length q] ++ b16 f ++ [Value.slice T tx.length c])).toArray, Value.agg (([Value.int .i64 kk', Value.slice A' l'.length q'] ++ b16 f' ++ [Value.slice T' tx'.length c'])).toArray] w fun e w' => e = .returned (.bool b) ∧ Kp w w' (fun _ => False) := by
 have K_0 := Kp.refl w (fun _ => False)
 refine enter (args := [Value.agg (([Value.int .i64 kk, Value.slice A l.length q] ++ b16 f ++ [Value.slice T tx.length c])).toArray, Value.agg (([Value.int .i64 kk', Value.slice A' l'.length q'] ++ b16 f' ++ [Value.slice T' tx'.length c'])).toArray]) (n := 50) Try.func55 body55 rfl rfl rfl ?_
 intro a hE
 refine c_reg R55_0_l ?_
 refine p_cons (s_box p55_0_0 hE wn_none rfl rfl ?_)
 clear hE a; intro g1 w2 z3 B_g1 hk a hE
 replace B_g1 : w2.heap[g1]? = some (.cells (([Value.int .i64 kk, Value.slice A l.length q] ++ b16 f ++ [Value.slice T tx.length c])).toArray 45 (0, 0)) := B_g1
 have z_0_g1 := Nat.le_trans K_0.kept.1 z3
 replace K_0 := K_0.then_ hk (fun _ h => h.elim)
 clear hk
 refine p_cons (s_box p55_0_1 hE wn_none rfl rfl ?_)
 clear hE a; intro g4 w5 z6 B_g4 hk a hE
 replace B_g4 : w5.heap[g4]? = some (.cells (([Value.int .i64 kk', Value.slice A' l'.length q'] ++ b16 f' ++ [Value.slice T' tx'.length c'])).toArray 45 (0, 0)) := B_g4
 have n_g1_g4 : g1 ≠ g4 := ne_new B_g1 z6
 have z_0_g4 := Nat.le_trans K_0.kept.1 z6
 replace B_g1 := kp_blk B_g1 hk (fun h => h)
 replace K_0 := K_0.then_ hk (fun _ h => h.elim)
 clear hk
 refine q0 p55_0_2 hE (st_assign rfl) ?_; clear hE a; intro a hE
 refine p_nil (x_norm (wp_seq ?_))
 rcases Decidable.em (kk = kk') with hKK | hKK
 ·
  rcases Decidable.em (eqL (b16 f) (b16 f') = true) with hAD | hAD
  ·
   rcases Decidable.em (l.length = l'.length) with hLN | hLN
   ·
    refine c_reg R55_1_l ?_
    refine q0 p55_1_0 hE (st_fieldAddr Try.underlying45 rfl tS3 rfl rfl) ?_; clear hE a; intro a hE
    refine q0 p55_1_1 hE (st_load1 tA3 rfl ((blk_cell B_g1 0).trans rfl)) ?_; clear hE a; intro a hE
    refine q0 p55_1_2 hE (st_fieldAddr Try.underlying45 rfl tS3 rfl rfl) ?_; clear hE a; intro a hE
    refine q0 p55_1_3 hE (st_load1 tA3 rfl ((blk_cell B_g4 0).trans rfl)) ?_; clear hE a; intro a hE
    refine q0 p55_1_4 hE (st_neq (b := false) rfl rfl (by simp [hKK])) ?_; clear hE a; intro a hE
    refine q0 p55_1_5 hE (st_move rfl) ?_; clear hE a; intro a hE
    refine p_cons (s_still p55_1_6 hE (wn_some g55_1_5 rfl rfl) rfl (st_fieldAddr Try.underlying45 rfl tS43 rfl rfl) ?_); clear hE a; intro a hE
    refine p_cons (s_still p55_1_7 hE (wn_some g55_1_5 rfl rfl) rfl (st_loadN (off := 2) (k := 16) (vs := b16 f) tA43 tS43 rfl B_g1 rfl rfl) ?_); clear hE a; intro a hE
    refine p_cons (s_still p55_1_8 hE (wn_some g55_1_5 rfl rfl) rfl (st_fieldAddr Try.underlying45 rfl tS43 rfl rfl) ?_); clear hE a; intro a hE
    refine p_cons (s_still p55_1_9 hE (wn_some g55_1_5 rfl rfl) rfl (st_loadN (off := 2) (k := 16) (vs := b16 f') tA43 tS43 rfl B_g4 rfl rfl) ?_); clear hE a; intro a hE
    refine p_cons (s_still p55_1_10 hE (wn_some g55_1_5 rfl rfl) rfl (st_neqA (b := true) eg43 rfl rfl (eqA_flat eqY_ks (by kernel_rfl) rfl rfl hAD)) ?_); clear hE a; intro a hE
    refine q0 p55_1_11 hE (st_pick rfl rfl) ?_; clear hE a; intro a hE
    refine q0 p55_1_12 hE (st_move rfl) ?_; clear hE a; intro a hE
    refine p_cons (s_still p55_1_13 hE (wn_some g55_1_12 rfl rfl) rfl (st_fieldAddr Try.underlying45 rfl tS42 rfl rfl) ?_); clear hE a; intro a hE
    refine p_cons (s_still p55_1_14 hE (wn_some g55_1_12 rfl rfl) rfl (st_load1 tA42 rfl ((blk_cell B_g1 1).trans rfl)) ?_); clear hE a; intro a hE
    refine p_cons (s_still p55_1_15 hE (wn_some g55_1_12 rfl rfl) rfl (st_len Try.underlying42 rfl) ?_); clear hE a; intro a hE
    refine p_cons (s_still p55_1_16 hE (wn_some g55_1_12 rfl rfl) rfl (st_fieldAddr Try.underlying45 rfl tS42 rfl rfl) ?_); clear hE a; intro a hE
    refine p_cons (s_still p55_1_17 hE (wn_some g55_1_12 rfl rfl) rfl (st_load1 tA42 rfl ((blk_cell B_g4 1).trans rfl)) ?_); clear hE a; intro a hE
    refine p_cons (s_still p55_1_18 hE (wn_some g55_1_12 rfl rfl) rfl (st_len Try.underlying42 rfl) ?_); clear hE a; intro a hE
    refine p_cons (s_still p55_1_19 hE (wn_some g55_1_12 rfl rfl) rfl (st_neq (b := false) rfl rfl (by simp [hLN])) ?_); clear hE a; intro a hE
    refine q0 p55_1_20 hE (st_pick rfl rfl) ?_; clear hE a; intro a hE
    refine p_nil (x_norm ?_)
    refine c_cond (t := false) hE rfl ?_
    refine wp_skip (x_norm (wp_seq (c_reg R55_3_l ?_)))
    refine q0 p55_3_0 hE (st_assign rfl) ?_; clear hE a; intro a hE
    refine p_nil (x_norm (wp_block ?_))
    refine c_loop (α := Nat) (fun k a W => En 50 a [(0, Value.agg (([Value.int .i64 kk, Value.slice A l.length q] ++ b16 f ++ [Value.slice T tx.length c])).toArray), (1, Value.agg (([Value.int .i64 kk', Value.slice A' l'.length q'] ++ b16 f' ++ [Value.slice T' tx'.length c'])).toArray), (2, Value.pointer (some ⟨g1, 0, none⟩)), (3, Value.pointer (some ⟨g4, 0, none⟩)), (26, Value.bool false), (5, Value.int .i64 (k : Int))] ∧ k ≤ l.length ∧ (∀ j, j < k → rd l (j : Int) = rd l' (j : Int)) ∧ W.heap[g1]? = some (.cells (([Value.int .i64 kk, Value.slice A l.length q] ++ b16 f ++ [Value.slice T tx.length c])).toArray 45 (0, 0)) ∧ W.heap[g4]? = some (.cells (([Value.int .i64 kk', Value.slice A' l'.length q'] ++ b16 f' ++ [Value.slice T' tx'.length c'])).toArray 45 (0, 0)) ∧ Kp w W (fun _ => False)) (fun k => l.length - k) (0) ?_ ?_
    ·
     exact ⟨En.sub hE ⟨rfl, rfl, rfl, rfl, rfl, rfl, trivial⟩, Nat.zero_le _, fun j hj => absurd hj (Nat.not_lt_zero j), B_g1, B_g4, K_0⟩
    ·
     clear hE a
     rintro k a w7 ⟨hE, hk9, hall, B_g1, B_g4, K_0⟩
     refine wp_seq ?_
     rcases Decidable.em ((k : Int) < (l.length : Int)) with hK1 | hK1
     ·
      refine c_reg R55_4_l ?_
      refine q0 p55_4_0 hE (st_move rfl) ?_; clear hE a; intro a hE
      refine q0 p55_4_1 hE (st_fieldAddr Try.underlying45 rfl tS42 rfl rfl) ?_; clear hE a; intro a hE
      refine q0 p55_4_2 hE (st_load1 tA42 rfl ((blk_cell B_g1 1).trans rfl)) ?_; clear hE a; intro a hE
      refine q0 p55_4_3 hE (st_len Try.underlying42 rfl) ?_; clear hE a; intro a hE
      refine q0 p55_4_4 hE (st_lss (b := true) rfl rfl (decide_eq_true hK1)) ?_; clear hE a; intro a hE
      refine p_nil (x_norm ?_)
      refine c_cond (t := true) hE rfl ?_
      refine wp_skip (x_norm (wp_seq (wp_block ?_)))
      rcases Decidable.em (rd l (k : Int) = rd l' (k : Int)) with hEQ | hEQ
      ·
       refine c_drawS (S := fun W => W.heap[g1]? = some (.cells (([Value.int .i64 kk, Value.slice A l.length q] ++ b16 f ++ [Value.slice T tx.length c])).toArray 45 (0, 0)) ∧ W.heap[g4]? = some (.cells (([Value.int .i64 kk', Value.slice A' l'.length q'] ++ b16 f' ++ [Value.slice T' tx'.length c'])).toArray 45 (0, 0)) ∧ Kd.C (Kd.int .i64) W A l.length l ∧ Kd.C (Kd.int .i64) W A' l'.length l' ∧ True) rfl rfl (listed := #[false, false, false, false, false, false, false, false, false, false, false]) rfl ?_
       intro w8 hh hk
       replace B_g1 := kp_blk B_g1 hk (fun h => h)
       replace B_g4 := kp_blk B_g4 hk (fun h => h)
       replace K_0 := K_0.then_ hk (fun _ h => h.elim)
       clear hh hk
       have hS9 : w8.heap[g1]? = some (.cells (([Value.int .i64 kk, Value.slice A l.length q] ++ b16 f ++ [Value.slice T tx.length c])).toArray 45 (0, 0)) ∧ w8.heap[g4]? = some (.cells (([Value.int .i64 kk', Value.slice A' l'.length q'] ++ b16 f' ++ [Value.slice T' tx'.length c'])).toArray 45 (0, 0)) ∧ Kd.C (Kd.int .i64) w8 A l.length l ∧ Kd.C (Kd.int .i64) w8 A' l'.length l' ∧ True := ⟨B_g1, B_g4, (hF _ K_0), (hF' _ K_0), trivial⟩
       refine Rv.dq (v := Value.pointer (some ⟨g1, 1, none⟩)) p55_6_0 ns55_6 hE wn_none hS9 (fun W hS => (st_fieldAddr Try.underlying45 rfl tS42 rfl rfl)) ?_; clear hE a; intro a hE
       refine Rv.dq (v := Value.slice A l.length q) p55_6_1 ns55_6 hE wn_none hS9 (fun W hS => (st_load1 tA42 rfl ((blk_cell hS.1 1).trans rfl))) ?_; clear hE a; intro a hE
       refine Rv.dq (v := Value.int .i64 (k : Int)) p55_6_2 ns55_6 hE wn_none hS9 (fun W hS => (st_move rfl)) ?_; clear hE a; intro a hE
       refine Rv.dq (v := Value.pointer (some (ea A k))) p55_6_3 ns55_6 hE wn_none hS9 (fun W hS => (st_indexAddrS (i := k) Try.underlying42 tS3 (C_at (hF _ K_0) (show k < _ by omega)).1 rfl rfl (by omega))) ?_; clear hE a; intro a hE
       refine Rv.dq (v := Value.int .i64 (rd l (k : Int))) p55_6_4 ns55_6 hE wn_none hS9 (fun W hS => (st_loadC (i := k) tA3 (hS.2.2.1) (by omega) rfl)) ?_; clear hE a; intro a hE
       refine Rv.dq (v := Value.pointer (some ⟨g4, 1, none⟩)) p55_6_5 ns55_6 hE wn_none hS9 (fun W hS => (st_fieldAddr Try.underlying45 rfl tS42 rfl rfl)) ?_; clear hE a; intro a hE
       refine Rv.dq (v := Value.slice A' l'.length q') p55_6_6 ns55_6 hE wn_none hS9 (fun W hS => (st_load1 tA42 rfl ((blk_cell hS.2.1 1).trans rfl))) ?_; clear hE a; intro a hE
       refine Rv.dq (v := Value.int .i64 (k : Int)) p55_6_7 ns55_6 hE wn_none hS9 (fun W hS => (st_move rfl)) ?_; clear hE a; intro a hE
       refine Rv.dq (v := Value.pointer (some (ea A' k))) p55_6_8 ns55_6 hE wn_none hS9 (fun W hS => (st_indexAddrS (i := k) Try.underlying42 tS3 (C_at (hF' _ K_0) (show k < _ by omega)).1 rfl rfl (by omega))) ?_; clear hE a; intro a hE
       refine Rv.dq (v := Value.int .i64 (rd l' (k : Int))) p55_6_9 ns55_6 hE wn_none hS9 (fun W hS => (st_loadC (i := k) tA3 (hS.2.2.2.1) (by omega) rfl)) ?_; clear hE a; intro a hE
       refine Rv.dq (v := Value.bool false) p55_6_10 ns55_6 hE wn_none hS9 (fun W hS => (st_neq (b := false) rfl rfl (by simp [hEQ]))) ?_; clear hE a; intro a hE
       refine d_end (by kernel_rfl) ?_
       refine x_norm ?_
       refine c_cond (t := false) hE rfl ?_
       refine wp_skip (x_normB (x_norm (c_regL R55_5_l ?_)))
       refine q0 p55_5_0 hE (st_move rfl) ?_; clear hE a; intro a hE
       refine q0 p55_5_1 hE (st_add (z := (k : Int) + 1) rfl rfl (wr_i64 _ (by omega) (by omega))) ?_; clear hE a; intro a hE
       refine q0 p55_5_2 hE (st_assign rfl) ?_; clear hE a; intro a hE
       refine p_nil (x_norm ?_)
       exact ⟨k + 1, by omega, En.sub hE ⟨rfl, rfl, rfl, rfl, rfl, rfl, trivial⟩, by omega, fun j hj => by rcases Nat.lt_succ_iff_lt_or_eq.1 hj with h | h; exact hall j h; rw [h]; exact hEQ, B_g1, B_g4, K_0⟩
      ·
       refine c_drawS (S := fun W => W.heap[g1]? = some (.cells (([Value.int .i64 kk, Value.slice A l.length q] ++ b16 f ++ [Value.slice T tx.length c])).toArray 45 (0, 0)) ∧ W.heap[g4]? = some (.cells (([Value.int .i64 kk', Value.slice A' l'.length q'] ++ b16 f' ++ [Value.slice T' tx'.length c'])).toArray 45 (0, 0)) ∧ Kd.C (Kd.int .i64) W A l.length l ∧ Kd.C (Kd.int .i64) W A' l'.length l' ∧ True) rfl rfl (listed := #[false, false, false, false, false, false, false, false, false, false, false]) rfl ?_
       intro w9 hh hk
       replace B_g1 := kp_blk B_g1 hk (fun h => h)
       replace B_g4 := kp_blk B_g4 hk (fun h => h)
       replace K_0 := K_0.then_ hk (fun _ h => h.elim)
       clear hh hk
       have hS9 : w9.heap[g1]? = some (.cells (([Value.int .i64 kk, Value.slice A l.length q] ++ b16 f ++ [Value.slice T tx.length c])).toArray 45 (0, 0)) ∧ w9.heap[g4]? = some (.cells (([Value.int .i64 kk', Value.slice A' l'.length q'] ++ b16 f' ++ [Value.slice T' tx'.length c'])).toArray 45 (0, 0)) ∧ Kd.C (Kd.int .i64) w9 A l.length l ∧ Kd.C (Kd.int .i64) w9 A' l'.length l' ∧ True := ⟨B_g1, B_g4, (hF _ K_0), (hF' _ K_0), trivial⟩
       refine Rv.dq (v := Value.pointer (some ⟨g1, 1, none⟩)) p55_6_0 ns55_6 hE wn_none hS9 (fun W hS => (st_fieldAddr Try.underlying45 rfl tS42 rfl rfl)) ?_; clear hE a; intro a hE
       refine Rv.dq (v := Value.slice A l.length q) p55_6_1 ns55_6 hE wn_none hS9 (fun W hS => (st_load1 tA42 rfl ((blk_cell hS.1 1).trans rfl))) ?_; clear hE a; intro a hE
       refine Rv.dq (v := Value.int .i64 (k : Int)) p55_6_2 ns55_6 hE wn_none hS9 (fun W hS => (st_move rfl)) ?_; clear hE a; intro a hE
       refine Rv.dq (v := Value.pointer (some (ea A k))) p55_6_3 ns55_6 hE wn_none hS9 (fun W hS => (st_indexAddrS (i := k) Try.underlying42 tS3 (C_at (hF _ K_0) (show k < _ by omega)).1 rfl rfl (by omega))) ?_; clear hE a; intro a hE
       refine Rv.dq (v := Value.int .i64 (rd l (k : Int))) p55_6_4 ns55_6 hE wn_none hS9 (fun W hS => (st_loadC (i := k) tA3 (hS.2.2.1) (by omega) rfl)) ?_; clear hE a; intro a hE
       refine Rv.dq (v := Value.pointer (some ⟨g4, 1, none⟩)) p55_6_5 ns55_6 hE wn_none hS9 (fun W hS => (st_fieldAddr Try.underlying45 rfl tS42 rfl rfl)) ?_; clear hE a; intro a hE
       refine Rv.dq (v := Value.slice A' l'.length q') p55_6_6 ns55_6 hE wn_none hS9 (fun W hS => (st_load1 tA42 rfl ((blk_cell hS.2.1 1).trans rfl))) ?_; clear hE a; intro a hE
       refine Rv.dq (v := Value.int .i64 (k : Int)) p55_6_7 ns55_6 hE wn_none hS9 (fun W hS => (st_move rfl)) ?_; clear hE a; intro a hE
       refine Rv.dq (v := Value.pointer (some (ea A' k))) p55_6_8 ns55_6 hE wn_none hS9 (fun W hS => (st_indexAddrS (i := k) Try.underlying42 tS3 (C_at (hF' _ K_0) (show k < _ by omega)).1 rfl rfl (by omega))) ?_; clear hE a; intro a hE
       refine Rv.dq (v := Value.int .i64 (rd l' (k : Int))) p55_6_9 ns55_6 hE wn_none hS9 (fun W hS => (st_loadC (i := k) tA3 (hS.2.2.2.1) (by omega) rfl)) ?_; clear hE a; intro a hE
       refine Rv.dq (v := Value.bool true) p55_6_10 ns55_6 hE wn_none hS9 (fun W hS => (st_neq (b := true) rfl rfl (by simp [hEQ]))) ?_; clear hE a; intro a hE
       refine d_end (by kernel_rfl) ?_
       refine x_norm ?_
       refine c_cond (t := true) hE rfl ?_
       refine c_reg R55_7_l ?_
       refine q0 p55_7_0 hE (st_assign rfl) ?_; clear hE a; intro a hE
       refine p_nil (x_norm (wp_ret (x_retB (x_ret (x_ret (x_retB (x_ret ?_)))))))
       refine ret_one (v := Value.bool false) rfl hE (.tmp rfl .nil) ?_
       exact ⟨by rw [← hb]; unfold sameB; rw [decide_eq_false (show ¬ l = l' from fun h => hEQ (by rw [h]))]; simp, K_0⟩
     ·
      refine c_reg R55_4_l ?_
      refine q0 p55_4_0 hE (st_move rfl) ?_; clear hE a; intro a hE
      refine q0 p55_4_1 hE (st_fieldAddr Try.underlying45 rfl tS42 rfl rfl) ?_; clear hE a; intro a hE
      refine q0 p55_4_2 hE (st_load1 tA42 rfl ((blk_cell B_g1 1).trans rfl)) ?_; clear hE a; intro a hE
      refine q0 p55_4_3 hE (st_len Try.underlying42 rfl) ?_; clear hE a; intro a hE
      refine q0 p55_4_4 hE (st_lss (b := false) rfl rfl (decide_eq_false hK1)) ?_; clear hE a; intro a hE
      refine p_nil (x_norm ?_)
      refine c_cond (t := false) hE rfl ?_
      refine wp_exit (x_exit (x_exit (x_in (x_norm (c_reg R55_8_l ?_)))))
      refine q0 p55_8_0 hE (st_fieldAddr Try.underlying45 rfl tS22 rfl rfl) ?_; clear hE a; intro a hE
      refine q0 p55_8_1 hE (st_load1 tA22 rfl ((blk_cell B_g1 18).trans rfl)) ?_; clear hE a; intro a hE
      refine q0 p55_8_2 hE (st_fieldAddr Try.underlying45 rfl tS22 rfl rfl) ?_; clear hE a; intro a hE
      refine q0 p55_8_3 hE (st_load1 tA22 rfl ((blk_cell B_g4 18).trans rfl)) ?_; clear hE a; intro a hE
      refine p_cons (s_call (xs := [Operand.tmp 46, Operand.tmp 48]) (args := [Value.slice T tx.length c, Value.slice T' tx'.length c']) p55_8_4 hE wn_none rfl rfl Try.func15 cl15 (Go.Proofs.Ytgpclehnomkbmaa.Pk.same_any T T' c c' tx tx' (decide (tx = tx')) rfl _ (hG _ K_0) hmc (hG' _ K_0) hmc' hmt) ?_)
      rintro e w10 ⟨rfl, hn⟩
      have hk := kp_n hn (fun _ => False)
      replace B_g1 := kp_blk B_g1 hk (fun h => h)
      replace B_g4 := kp_blk B_g4 hk (fun h => h)
      replace K_0 := K_0.then_ hk (fun _ h => h.elim)
      refine ⟨_, rfl, ?_⟩; clear hE a; intro a hE
      refine q0 p55_8_5 hE (st_assign rfl) ?_; clear hE a; intro a hE
      refine p_nil (x_norm (wp_ret ?_))
      refine ret_one (v := Value.bool (decide (tx = tx'))) rfl hE (.tmp rfl .nil) ?_
      exact ⟨by rw [← hb]; unfold sameB; rw [decide_eq_true hKK, decide_eq_true (rd_ext hLN (fun j hj => hall j (by omega))), hAD]; simp, K_0⟩
   ·
    refine c_reg R55_1_l ?_
    refine q0 p55_1_0 hE (st_fieldAddr Try.underlying45 rfl tS3 rfl rfl) ?_; clear hE a; intro a hE
    refine q0 p55_1_1 hE (st_load1 tA3 rfl ((blk_cell B_g1 0).trans rfl)) ?_; clear hE a; intro a hE
    refine q0 p55_1_2 hE (st_fieldAddr Try.underlying45 rfl tS3 rfl rfl) ?_; clear hE a; intro a hE
    refine q0 p55_1_3 hE (st_load1 tA3 rfl ((blk_cell B_g4 0).trans rfl)) ?_; clear hE a; intro a hE
    refine q0 p55_1_4 hE (st_neq (b := false) rfl rfl (by simp [hKK])) ?_; clear hE a; intro a hE
    refine q0 p55_1_5 hE (st_move rfl) ?_; clear hE a; intro a hE
    refine p_cons (s_still p55_1_6 hE (wn_some g55_1_5 rfl rfl) rfl (st_fieldAddr Try.underlying45 rfl tS43 rfl rfl) ?_); clear hE a; intro a hE
    refine p_cons (s_still p55_1_7 hE (wn_some g55_1_5 rfl rfl) rfl (st_loadN (off := 2) (k := 16) (vs := b16 f) tA43 tS43 rfl B_g1 rfl rfl) ?_); clear hE a; intro a hE
    refine p_cons (s_still p55_1_8 hE (wn_some g55_1_5 rfl rfl) rfl (st_fieldAddr Try.underlying45 rfl tS43 rfl rfl) ?_); clear hE a; intro a hE
    refine p_cons (s_still p55_1_9 hE (wn_some g55_1_5 rfl rfl) rfl (st_loadN (off := 2) (k := 16) (vs := b16 f') tA43 tS43 rfl B_g4 rfl rfl) ?_); clear hE a; intro a hE
    refine p_cons (s_still p55_1_10 hE (wn_some g55_1_5 rfl rfl) rfl (st_neqA (b := true) eg43 rfl rfl (eqA_flat eqY_ks (by kernel_rfl) rfl rfl hAD)) ?_); clear hE a; intro a hE
    refine q0 p55_1_11 hE (st_pick rfl rfl) ?_; clear hE a; intro a hE
    refine q0 p55_1_12 hE (st_move rfl) ?_; clear hE a; intro a hE
    refine p_cons (s_still p55_1_13 hE (wn_some g55_1_12 rfl rfl) rfl (st_fieldAddr Try.underlying45 rfl tS42 rfl rfl) ?_); clear hE a; intro a hE
    refine p_cons (s_still p55_1_14 hE (wn_some g55_1_12 rfl rfl) rfl (st_load1 tA42 rfl ((blk_cell B_g1 1).trans rfl)) ?_); clear hE a; intro a hE
    refine p_cons (s_still p55_1_15 hE (wn_some g55_1_12 rfl rfl) rfl (st_len Try.underlying42 rfl) ?_); clear hE a; intro a hE
    refine p_cons (s_still p55_1_16 hE (wn_some g55_1_12 rfl rfl) rfl (st_fieldAddr Try.underlying45 rfl tS42 rfl rfl) ?_); clear hE a; intro a hE
    refine p_cons (s_still p55_1_17 hE (wn_some g55_1_12 rfl rfl) rfl (st_load1 tA42 rfl ((blk_cell B_g4 1).trans rfl)) ?_); clear hE a; intro a hE
    refine p_cons (s_still p55_1_18 hE (wn_some g55_1_12 rfl rfl) rfl (st_len Try.underlying42 rfl) ?_); clear hE a; intro a hE
    refine p_cons (s_still p55_1_19 hE (wn_some g55_1_12 rfl rfl) rfl (st_neq (b := true) rfl rfl (by simp; exact fun h => hLN (by omega))) ?_); clear hE a; intro a hE
    refine q0 p55_1_20 hE (st_pick rfl rfl) ?_; clear hE a; intro a hE
    refine p_nil (x_norm ?_)
    refine c_cond (t := true) hE rfl ?_
    refine c_reg R55_2_l ?_
    refine q0 p55_2_0 hE (st_assign rfl) ?_; clear hE a; intro a hE
    refine p_nil (x_norm (wp_ret (x_ret ?_)))
    refine ret_one (v := Value.bool false) rfl hE (.tmp rfl .nil) ?_
    exact ⟨by rw [← hb]; unfold sameB; rw [decide_eq_false (show ¬ l = l' from fun h => hLN (by rw [h]))]; simp, K_0⟩
  ·
   refine c_reg R55_1_l ?_
   refine q0 p55_1_0 hE (st_fieldAddr Try.underlying45 rfl tS3 rfl rfl) ?_; clear hE a; intro a hE
   refine q0 p55_1_1 hE (st_load1 tA3 rfl ((blk_cell B_g1 0).trans rfl)) ?_; clear hE a; intro a hE
   refine q0 p55_1_2 hE (st_fieldAddr Try.underlying45 rfl tS3 rfl rfl) ?_; clear hE a; intro a hE
   refine q0 p55_1_3 hE (st_load1 tA3 rfl ((blk_cell B_g4 0).trans rfl)) ?_; clear hE a; intro a hE
   refine q0 p55_1_4 hE (st_neq (b := false) rfl rfl (by simp [hKK])) ?_; clear hE a; intro a hE
   refine q0 p55_1_5 hE (st_move rfl) ?_; clear hE a; intro a hE
   refine p_cons (s_still p55_1_6 hE (wn_some g55_1_5 rfl rfl) rfl (st_fieldAddr Try.underlying45 rfl tS43 rfl rfl) ?_); clear hE a; intro a hE
   refine p_cons (s_still p55_1_7 hE (wn_some g55_1_5 rfl rfl) rfl (st_loadN (off := 2) (k := 16) (vs := b16 f) tA43 tS43 rfl B_g1 rfl rfl) ?_); clear hE a; intro a hE
   refine p_cons (s_still p55_1_8 hE (wn_some g55_1_5 rfl rfl) rfl (st_fieldAddr Try.underlying45 rfl tS43 rfl rfl) ?_); clear hE a; intro a hE
   refine p_cons (s_still p55_1_9 hE (wn_some g55_1_5 rfl rfl) rfl (st_loadN (off := 2) (k := 16) (vs := b16 f') tA43 tS43 rfl B_g4 rfl rfl) ?_); clear hE a; intro a hE
   refine p_cons (s_still p55_1_10 hE (wn_some g55_1_5 rfl rfl) rfl (st_neqA (b := false) eg43 rfl rfl (eqA_flat eqY_ks (by kernel_rfl) rfl rfl (by simpa using hAD))) ?_); clear hE a; intro a hE
   refine q0 p55_1_11 hE (st_pick rfl rfl) ?_; clear hE a; intro a hE
   refine q0 p55_1_12 hE (st_move rfl) ?_; clear hE a; intro a hE
   refine p_cons (s_skip p55_1_13 hE (wn_some g55_1_12 rfl rfl) rfl ?_); clear hE a; intro a hE
   refine p_cons (s_skip p55_1_14 hE (wn_some g55_1_12 rfl rfl) rfl ?_); clear hE a; intro a hE
   refine p_cons (s_skip p55_1_15 hE (wn_some g55_1_12 rfl rfl) rfl ?_); clear hE a; intro a hE
   refine p_cons (s_skip p55_1_16 hE (wn_some g55_1_12 rfl rfl) rfl ?_); clear hE a; intro a hE
   refine p_cons (s_skip p55_1_17 hE (wn_some g55_1_12 rfl rfl) rfl ?_); clear hE a; intro a hE
   refine p_cons (s_skip p55_1_18 hE (wn_some g55_1_12 rfl rfl) rfl ?_); clear hE a; intro a hE
   refine p_cons (s_skip p55_1_19 hE (wn_some g55_1_12 rfl rfl) rfl ?_); clear hE a; intro a hE
   refine q0 p55_1_20 hE (st_pick rfl rfl) ?_; clear hE a; intro a hE
   refine p_nil (x_norm ?_)
   refine c_cond (t := true) hE rfl ?_
   refine c_reg R55_2_l ?_
   refine q0 p55_2_0 hE (st_assign rfl) ?_; clear hE a; intro a hE
   refine p_nil (x_norm (wp_ret (x_ret ?_)))
   refine ret_one (v := Value.bool false) rfl hE (.tmp rfl .nil) ?_
   exact ⟨by rw [← hb]; unfold sameB; rw [show eqL (b16 f) (b16 f') = false by simpa using hAD]; simp, K_0⟩
 ·
  refine c_reg R55_1_l ?_
  refine q0 p55_1_0 hE (st_fieldAddr Try.underlying45 rfl tS3 rfl rfl) ?_; clear hE a; intro a hE
  refine q0 p55_1_1 hE (st_load1 tA3 rfl ((blk_cell B_g1 0).trans rfl)) ?_; clear hE a; intro a hE
  refine q0 p55_1_2 hE (st_fieldAddr Try.underlying45 rfl tS3 rfl rfl) ?_; clear hE a; intro a hE
  refine q0 p55_1_3 hE (st_load1 tA3 rfl ((blk_cell B_g4 0).trans rfl)) ?_; clear hE a; intro a hE
  refine q0 p55_1_4 hE (st_neq (b := true) rfl rfl (by simp [hKK])) ?_; clear hE a; intro a hE
  refine q0 p55_1_5 hE (st_move rfl) ?_; clear hE a; intro a hE
  refine p_cons (s_skip p55_1_6 hE (wn_some g55_1_5 rfl rfl) rfl ?_); clear hE a; intro a hE
  refine p_cons (s_skip p55_1_7 hE (wn_some g55_1_5 rfl rfl) rfl ?_); clear hE a; intro a hE
  refine p_cons (s_skip p55_1_8 hE (wn_some g55_1_5 rfl rfl) rfl ?_); clear hE a; intro a hE
  refine p_cons (s_skip p55_1_9 hE (wn_some g55_1_5 rfl rfl) rfl ?_); clear hE a; intro a hE
  refine p_cons (s_skip p55_1_10 hE (wn_some g55_1_5 rfl rfl) rfl ?_); clear hE a; intro a hE
  refine q0 p55_1_11 hE (st_pick rfl rfl) ?_; clear hE a; intro a hE
  refine q0 p55_1_12 hE (st_move rfl) ?_; clear hE a; intro a hE
  refine p_cons (s_skip p55_1_13 hE (wn_some g55_1_12 rfl rfl) rfl ?_); clear hE a; intro a hE
  refine p_cons (s_skip p55_1_14 hE (wn_some g55_1_12 rfl rfl) rfl ?_); clear hE a; intro a hE
  refine p_cons (s_skip p55_1_15 hE (wn_some g55_1_12 rfl rfl) rfl ?_); clear hE a; intro a hE
  refine p_cons (s_skip p55_1_16 hE (wn_some g55_1_12 rfl rfl) rfl ?_); clear hE a; intro a hE
  refine p_cons (s_skip p55_1_17 hE (wn_some g55_1_12 rfl rfl) rfl ?_); clear hE a; intro a hE
  refine p_cons (s_skip p55_1_18 hE (wn_some g55_1_12 rfl rfl) rfl ?_); clear hE a; intro a hE
  refine p_cons (s_skip p55_1_19 hE (wn_some g55_1_12 rfl rfl) rfl ?_); clear hE a; intro a hE
  refine q0 p55_1_20 hE (st_pick rfl rfl) ?_; clear hE a; intro a hE
  refine p_nil (x_norm ?_)
  refine c_cond (t := true) hE rfl ?_
  refine c_reg R55_2_l ?_
  refine q0 p55_2_0 hE (st_assign rfl) ?_; clear hE a; intro a hE
  refine p_nil (x_norm (wp_ret (x_ret ?_)))
  refine ret_one (v := Value.bool false) rfl hE (.tmp rfl .nil) ?_
  exact ⟨by rw [← hb]; unfold sameB; rw [decide_eq_false hKK]; rfl, K_0⟩
def osame (x y : OV) : Bool := sameB x.1 x.2.1 (adr x) x.2.2.2 y.1 y.2.1 (adr y) y.2.2.2
def lsame (xs ys : List OV) : Bool := decide (xs.length = ys.length) && (List.range xs.length).all fun j => osame (xs.getD j zO) (ys.getD j zO)
theorem lsame_no {xs ys : List OV} {k : Nat} (hk : k < xs.length) (h : osame (xs.getD k zO) (ys.getD k zO) = false) : lsame xs ys = false := by
 unfold lsame
 rw [Bool.and_eq_false_iff]
 refine .inr ?_
 rw [List.all_eq_false]
 exact ⟨k, List.mem_range.2 hk, by rw [h]; simp⟩
theorem lsame_yes {xs ys : List OV} (hn : xs.length = ys.length) (h : ∀ j, j < xs.length → osame (xs.getD j zO) (ys.getD j zO) = true) : lsame xs ys = true := by
 unfold lsame
 rw [decide_eq_true hn, Bool.true_and, List.all_eq_true]
 exact fun j hj => h j (List.mem_range.1 hj)
theorem getD_mem {α : Type} {l : List α} {i : Nat} (h : i < l.length) (z : α) : l.getD i z ∈ l := by
 rw [List.getD_eq_getElem?_getD, List.getElem?_eq_getElem h]
 exact List.getElem_mem h
/-- Texts are bytes, nothing is too long. -/
def okO (x : OV) : Prop := (∀ y ∈ x.2.2.2, 0 ≤ y ∧ y ≤ 255) ∧ x.2.1.length ≤ 1000000000000 ∧ x.2.2.2.length ≤ 1000000
theorem R62_0_l : List.range (regOf Try.f62 0).size = [0] := by kernel_rfl
theorem R62_1_l : List.range (regOf Try.f62 1).size = [0, 1, 2, 3, 4] := by kernel_rfl
theorem R62_2_l : List.range (regOf Try.f62 2).size = [0] := by kernel_rfl
theorem R62_3_l : List.range (regOf Try.f62 3).size = [0, 1, 2] := by kernel_rfl
theorem R62_4_l : List.range (regOf Try.f62 4).size = [0] := by kernel_rfl
theorem R62_5_l : List.range (regOf Try.f62 5).size = [0, 1, 2, 3, 4, 5] := by kernel_rfl
theorem R62_6_l : List.range (regOf Try.f62 6).size = [0, 1, 2, 3, 4, 5] := by kernel_rfl
theorem R62_7_l : List.range (regOf Try.f62 7).size = [0, 1, 2, 3, 4] := by kernel_rfl
theorem R62_8_l : List.range (regOf Try.f62 8).size = [0] := by kernel_rfl
theorem R62_9_l : List.range (regOf Try.f62 9).size = [0, 1] := by kernel_rfl
theorem R62_10_l : List.range (regOf Try.f62 10).size = [0] := by kernel_rfl
theorem body62 : Try.f62.body = some (.seq (.region 0 (regOf Try.f62 0) false) (.seq (.seq (.region 1 (regOf Try.f62 1) false) (.cond (Operand.tmp 14) (.seq (.region 2 (regOf Try.f62 2) false) (.ret)) (.skip))) (.seq (.seq (.region 3 (regOf Try.f62 3) false) (.block 0 (.loop (.seq (.region 4 (regOf Try.f62 4) false) (.seq (.cond (Operand.tmp 18) (.skip) (.exit 0)) (.seq (.block 1 (.seq (.region 5 (regOf Try.f62 5) false) (.seq (.region 6 (regOf Try.f62 6) false) (.seq (.region 7 (regOf Try.f62 7) false) (.cond (Operand.tmp 30) (.seq (.region 8 (regOf Try.f62 8) false) (.ret)) (.skip)))))) (.region 9 (regOf Try.f62 9) false))))))) (.seq (.region 10 (regOf Try.f62 10) false) (.ret))))) := by kernel_rfl
theorem p62_0_0 : pj (regOf Try.f62 0) 0 = some (some 6, .assign (.const (.bool false)), 4, none) := by kernel_rfl
theorem p62_1_0 : pj (regOf Try.f62 1) 0 = some (some 10, .move (.tmp 0), 23, none) := by kernel_rfl
theorem p62_1_1 : pj (regOf Try.f62 1) 1 = some (some 11, .call { callee := .builtin .len, args := #[.tmp 10], argTypes := #[23] }, 3, none) := by kernel_rfl
theorem p62_1_2 : pj (regOf Try.f62 1) 2 = some (some 12, .move (.tmp 1), 23, none) := by kernel_rfl
theorem p62_1_3 : pj (regOf Try.f62 1) 3 = some (some 13, .call { callee := .builtin .len, args := #[.tmp 12], argTypes := #[23] }, 3, none) := by kernel_rfl
theorem p62_1_4 : pj (regOf Try.f62 1) 4 = some (some 14, .binOp .neq 3 (.tmp 11) (.tmp 13) 3, 4, none) := by kernel_rfl
theorem p62_3_0 : pj (regOf Try.f62 3) 0 = some (some 15, .move (.tmp 0), 23, none) := by kernel_rfl
theorem p62_3_1 : pj (regOf Try.f62 3) 1 = some (some 16, .call { callee := .builtin .len, args := #[.tmp 15], argTypes := #[23] }, 3, none) := by kernel_rfl
theorem p62_3_2 : pj (regOf Try.f62 3) 2 = some (some 17, .move (.const (.int .i64 0)), 3, none) := by kernel_rfl
theorem p62_4_0 : pj (regOf Try.f62 4) 0 = some (some 18, .binOp .lss 3 (.tmp 17) (.tmp 16) 3, 0, none) := by kernel_rfl
theorem p62_5_0 : pj (regOf Try.f62 5) 0 = some (some 19, .move (.tmp 17), 3, none) := by kernel_rfl
theorem p62_5_1 : pj (regOf Try.f62 5) 1 = some (some 20, .indexAddr 23 (.tmp 15) (.tmp 17), 0, none) := by kernel_rfl
theorem tS50 : (Try.prog.info? 50).map (·.size) = some 19 := by kernel_rfl
theorem p62_5_2 : pj (regOf Try.f62 5) 2 = some (some 21, .load 50 (.tmp 20), 50, none) := by kernel_rfl
theorem tA50 : (Try.prog.underlying 50).map aggD = some true := by kernel_rfl
theorem p62_5_3 : pj (regOf Try.f62 5) 3 = some (some 8, .alloc 50, 0, none) := by kernel_rfl
theorem tZ50 : (Try.prog.info? 50).bind (·.zero) = some (Value.agg (([Value.int .i64 0, Value.slice none 0 0] ++ b16 (fun _ => 0) ++ [Value.slice none 0 0])).toArray) := by kernel_rfl
theorem p62_5_4 : pj (regOf Try.f62 5) 4 = some (some 7, .assign (.tmp 19), 3, none) := by kernel_rfl
theorem p62_5_5 : pj (regOf Try.f62 5) 5 = some (none, .store 50 (.tmp 8) (.tmp 21), 0, none) := by kernel_rfl
theorem p62_6_0 : pj (regOf Try.f62 6) 0 = some (some 22, .move (.tmp 1), 23, none) := by kernel_rfl
theorem p62_6_1 : pj (regOf Try.f62 6) 1 = some (some 23, .move (.tmp 7), 3, none) := by kernel_rfl
theorem p62_6_2 : pj (regOf Try.f62 6) 2 = some (some 24, .indexAddr 23 (.tmp 22) (.tmp 23), 0, none) := by kernel_rfl
theorem p62_6_3 : pj (regOf Try.f62 6) 3 = some (some 25, .load 50 (.tmp 24), 50, none) := by kernel_rfl
theorem p62_6_4 : pj (regOf Try.f62 6) 4 = some (some 9, .alloc 50, 0, none) := by kernel_rfl
theorem p62_6_5 : pj (regOf Try.f62 6) 5 = some (none, .store 50 (.tmp 9) (.tmp 25), 0, none) := by kernel_rfl
theorem p62_7_0 : pj (regOf Try.f62 7) 0 = some (some 26, .move (.tmp 2), 126, none) := by kernel_rfl
theorem p62_7_1 : pj (regOf Try.f62 7) 1 = some (some 27, .load 50 (.tmp 8), 50, none) := by kernel_rfl
theorem p62_7_2 : pj (regOf Try.f62 7) 2 = some (some 28, .load 50 (.tmp 9), 50, none) := by kernel_rfl
theorem p62_7_3 : pj (regOf Try.f62 7) 3 = some (some 29, .call { callee := .value (.tmp 26), args := #[.tmp 27, .tmp 28], argTypes := #[50, 50] }, 4, none) := by kernel_rfl
theorem cl63 : callable Try.f63 = true := by kernel_rfl
theorem p62_7_4 : pj (regOf Try.f62 7) 4 = some (some 30, .unOp .not 4 (.tmp 29), 4, none) := by kernel_rfl
theorem p62_9_0 : pj (regOf Try.f62 9) 0 = some (some 31, .binOp .add 3 (.tmp 17) (.const (.int .i64 1)) 3, 3, none) := by kernel_rfl
theorem p62_9_1 : pj (regOf Try.f62 9) 1 = some (some 17, .move (.tmp 31), 3, none) := by kernel_rfl
theorem p62_8_0 : pj (regOf Try.f62 8) 0 = some (some 6, .assign (.const (.bool false)), 4, none) := by kernel_rfl
theorem p62_10_0 : pj (regOf Try.f62 10) 0 = some (some 6, .assign (.const (.bool true)), 4, none) := by kernel_rfl
theorem p62_2_0 : pj (regOf Try.f62 2) 0 = some (some 6, .assign (.const (.bool false)), 4, none) := by kernel_rfl
set_option maxHeartbeats 4000000 in
theorem eqfunc_o (A B : Option Addr) (c cb : Nat) (xs ys : List OV) (b : Bool) (hb : lsame xs ys = b) (hx : ∀ x ∈ xs, okO x) (hy : ∀ x ∈ ys, okO x) (w : World) (hF : Kd.C dO w A xs.length xs) (hG : Kd.C dO w B ys.length ys) (hmx : xs.length ≤ 1000000000000) : Calls Try.prog 62 #[.slice A xs.length c, .slice B ys.length cb, .func (.func 63) #[] #[]] w fun e w' => e = .returned (.bool b) ∧ Kp w w' (fun _ => False) := by
 have K_0 := Kp.refl w (fun _ => False)
 refine enter (args := [Value.slice A xs.length c, Value.slice B ys.length cb, Value.func (.func 63) #[] #[]]) (n := 32) Try.func62 body62 rfl rfl rfl ?_
 intro a hE
 refine c_reg R62_0_l ?_
 refine q0 p62_0_0 hE (st_assign rfl) ?_; clear hE a; intro a hE
 refine p_nil (x_norm (wp_seq ?_))
 rcases Decidable.em (xs.length = ys.length) with hLN | hLN
 ·
  refine c_reg R62_1_l ?_
  refine q0 p62_1_0 hE (st_move rfl) ?_; clear hE a; intro a hE
  refine q0 p62_1_1 hE (st_len Try.underlying23 rfl) ?_; clear hE a; intro a hE
  refine q0 p62_1_2 hE (st_move rfl) ?_; clear hE a; intro a hE
  refine q0 p62_1_3 hE (st_len Try.underlying23 rfl) ?_; clear hE a; intro a hE
  refine q0 p62_1_4 hE (st_neq (b := false) rfl rfl (by simp [hLN])) ?_; clear hE a; intro a hE
  refine p_nil (x_norm ?_)
  refine c_cond (t := false) hE rfl ?_
  refine wp_skip (x_norm (wp_seq (c_reg R62_3_l ?_)))
  refine q0 p62_3_0 hE (st_move rfl) ?_; clear hE a; intro a hE
  refine q0 p62_3_1 hE (st_len Try.underlying23 rfl) ?_; clear hE a; intro a hE
  refine q0 p62_3_2 hE (st_move rfl) ?_; clear hE a; intro a hE
  refine p_nil (x_norm (wp_block ?_))
  refine c_loop (α := Nat) (fun k a W => En 32 a [(0, Value.slice A xs.length c), (1, Value.slice B ys.length cb), (2, Value.func (.func 63) #[] #[]), (14, Value.bool false), (15, Value.slice A xs.length c), (16, Value.int .i64 (xs.length : Int)), (17, Value.int .i64 (k : Int))] ∧ k ≤ xs.length ∧ (∀ j, j < k → osame (xs.getD j zO) (ys.getD j zO) = true) ∧ Kp w W (fun _ => False)) (fun k => xs.length - k) (0) ?_ ?_
  ·
   exact ⟨En.sub hE ⟨rfl, rfl, rfl, rfl, rfl, rfl, rfl, trivial⟩, Nat.zero_le _, fun j hj => absurd hj (Nat.not_lt_zero j), K_0⟩
  ·
   clear hE a
   rintro k a w1 ⟨hE, hk9, hall, K_0⟩
   rcases Decidable.em ((k : Int) < (xs.length : Int)) with hK1 | hK1
   ·
    refine c_reg R62_4_l ?_
    refine q0 p62_4_0 hE (st_lss (b := true) rfl rfl (decide_eq_true hK1)) ?_; clear hE a; intro a hE
    refine p_nil (x_norm (wp_seq ?_))
    refine c_cond (t := true) hE rfl ?_
    refine wp_skip (x_norm (wp_seq (wp_block ?_)))
    have hkx : k < xs.length := by omega
    have hky : k < ys.length := by omega
    obtain ⟨hAe2, cce2, hKe2, hce2⟩ := C_elem (i := k) hF zO (show k < xs.length by omega)
    obtain ⟨x, hxe2⟩ : ∃ x, List.getD xs k zO = x := ⟨_, rfl⟩
    rw [hxe2] at hKe2
    obtain ⟨Ae2, qe2, Te2, ce2, rfl, hle2, hme2, hCe2, hDe2⟩ := opt_open hKe2
    obtain ⟨hAe3, cce3, hKe3, hce3⟩ := C_elem (i := k) hG zO (show k < ys.length by omega)
    obtain ⟨y, hxe3⟩ : ∃ x, List.getD ys k zO = x := ⟨_, rfl⟩
    rw [hxe3] at hKe3
    obtain ⟨Ae3, qe3, Te3, ce3, rfl, hle3, hme3, hCe3, hDe3⟩ := opt_open hKe3
    have hokx := hx _ (getD_mem hkx zO)
    rw [hxe2] at hokx
    have hoky := hy _ (getD_mem hky zO)
    rw [hxe3] at hoky
    refine c_reg R62_5_l ?_
    refine q0 p62_5_0 hE (st_move rfl) ?_; clear hE a; intro a hE
    refine q0 p62_5_1 hE (st_indexAddrR (i := k) (s := 19) Try.underlying23 tS50 hAe2 rfl rfl (by omega)) ?_; clear hE a; intro a hE
    refine q0 p62_5_2 hE (st_loadR (off := k * 19) (j := 0) (k := 19) (vs := ([Value.int .i64 x.1, Value.slice Ae2 x.2.1.length qe2] ++ b16 (adr x) ++ [Value.slice Te2 x.2.2.2.length ce2])) tA50 tS50 (fun j u h => cell_to K_0 (hce2 j u h)) rfl rfl (by omega) rfl) ?_; clear hE a; intro a hE
    refine p_cons (s_alloc p62_5_3 hE wn_none rfl tZ50 ?_)
    clear hE a; intro g4 w5 z6 B_g4 hk a hE
    replace B_g4 : w5.heap[g4]? = some (.cells (([Value.int .i64 0, Value.slice none 0 0] ++ b16 (fun _ => 0) ++ [Value.slice none 0 0])).toArray 50 (0, 0)) := B_g4
    have z_0_g4 := Nat.le_trans K_0.kept.1 z6
    replace K_0 := K_0.then_ hk (fun _ h => h.elim)
    clear hk
    refine q0 p62_5_4 hE (st_assign rfl) ?_; clear hE a; intro a hE
    refine p_cons (s_store (off := 0) (k := 19) (cs' := (([Value.int .i64 x.1, Value.slice Ae2 x.2.1.length qe2] ++ b16 (adr x) ++ [Value.slice Te2 x.2.2.2.length ce2])).toArray) p62_5_5 hE wn_none tS50 rfl rfl rfl rfl B_g4 (Nat.le_of_ble_eq_true rfl) rfl ?_)
    intro w7 B_g4' hk
    replace K_0 := K_0.then_ hk (fun k h => by rw [show k = g4 from h]; exact Or.inr z_0_g4)
    replace B_g4 := B_g4'
    clear hk
    refine p_nil (x_norm (c_reg R62_6_l ?_))
    refine q0 p62_6_0 hE (st_move rfl) ?_; clear hE a; intro a hE
    refine q0 p62_6_1 hE (st_move rfl) ?_; clear hE a; intro a hE
    refine q0 p62_6_2 hE (st_indexAddrR (i := k) (s := 19) Try.underlying23 tS50 hAe3 rfl rfl (by omega)) ?_; clear hE a; intro a hE
    refine q0 p62_6_3 hE (st_loadR (off := k * 19) (j := 0) (k := 19) (vs := ([Value.int .i64 y.1, Value.slice Ae3 y.2.1.length qe3] ++ b16 (adr y) ++ [Value.slice Te3 y.2.2.2.length ce3])) tA50 tS50 (fun j u h => cell_to K_0 (hce3 j u h)) rfl rfl (by omega) rfl) ?_; clear hE a; intro a hE
    refine p_cons (s_alloc p62_6_4 hE wn_none rfl tZ50 ?_)
    clear hE a; intro g8 w9 z10 B_g8 hk a hE
    replace B_g8 : w9.heap[g8]? = some (.cells (([Value.int .i64 0, Value.slice none 0 0] ++ b16 (fun _ => 0) ++ [Value.slice none 0 0])).toArray 50 (0, 0)) := B_g8
    have n_g4_g8 : g4 ≠ g8 := ne_new B_g4 z10
    have z_0_g8 := Nat.le_trans K_0.kept.1 z10
    replace B_g4 := kp_blk B_g4 hk (fun h => h)
    replace K_0 := K_0.then_ hk (fun _ h => h.elim)
    clear hk
    refine p_cons (s_store (off := 0) (k := 19) (cs' := (([Value.int .i64 y.1, Value.slice Ae3 y.2.1.length qe3] ++ b16 (adr y) ++ [Value.slice Te3 y.2.2.2.length ce3])).toArray) p62_6_5 hE wn_none tS50 rfl rfl rfl rfl B_g8 (Nat.le_of_ble_eq_true rfl) rfl ?_)
    intro w11 B_g8' hk
    replace B_g4 := kp_blk B_g4 hk n_g4_g8
    replace K_0 := K_0.then_ hk (fun k h => by rw [show k = g8 from h]; exact Or.inr z_0_g8)
    replace B_g8 := B_g8'
    clear hk
    refine p_nil (x_norm ?_)
    rcases Decidable.em (osame x y = true) with hOS | hOS
    ·
     refine c_reg R62_7_l ?_
     refine q0 p62_7_0 hE (st_move rfl) ?_; clear hE a; intro a hE
     refine q0 p62_7_1 hE (st_loadN (off := 0) (k := 19) (vs := ([Value.int .i64 x.1, Value.slice Ae2 x.2.1.length qe2] ++ b16 (adr x) ++ [Value.slice Te2 x.2.2.2.length ce2])) tA50 tS50 rfl B_g4 rfl rfl) ?_; clear hE a; intro a hE
     refine q0 p62_7_2 hE (st_loadN (off := 0) (k := 19) (vs := ([Value.int .i64 y.1, Value.slice Ae3 y.2.1.length qe3] ++ b16 (adr y) ++ [Value.slice Te3 y.2.2.2.length ce3])) tA50 tS50 rfl B_g8 rfl rfl) ?_; clear hE a; intro a hE
     refine p_cons (s_callv (fst := []) (cap := []) (xs := [Operand.tmp 27, Operand.tmp 28]) (args := [Value.agg (([Value.int .i64 x.1, Value.slice Ae2 x.2.1.length qe2] ++ b16 (adr x) ++ [Value.slice Te2 x.2.2.2.length ce2])).toArray, Value.agg (([Value.int .i64 y.1, Value.slice Ae3 y.2.1.length qe3] ++ b16 (adr y) ++ [Value.slice Te3 y.2.2.2.length ce3])).toArray]) p62_7_3 hE wn_none rfl rfl rfl Try.func63 cl63 (same_o x.1 x.2.1 x.2.2.2 (adr x) Ae2 Te2 qe2 ce2 y.1 y.2.1 y.2.2.2 (adr y) Ae3 Te3 qe3 ce3 true hOS hokx.1 hoky.1 _ (fun W' hk => C_to hCe2 (K_0.then_ hk (fun _ h => h.elim))) (fun W' hk => C_to hDe2 (K_0.then_ hk (fun _ h => h.elim))) (fun W' hk => C_to hCe3 (K_0.then_ hk (fun _ h => h.elim))) (fun W' hk => C_to hDe3 (K_0.then_ hk (fun _ h => h.elim))) hokx.2.1 hokx.2.2 hme2 hme3 hoky.2.2) ?_)
     rintro e w12 ⟨rfl, hk⟩
     replace B_g4 := kp_blk B_g4 hk (fun h => h)
     replace B_g8 := kp_blk B_g8 hk (fun h => h)
     replace K_0 := K_0.then_ hk (fun _ h => h.elim)
     refine ⟨_, rfl, ?_⟩; clear hE a; intro a hE
     refine q0 p62_7_4 hE (st_not rfl rfl) ?_; clear hE a; intro a hE
     refine p_nil (x_norm ?_)
     refine c_cond (t := false) hE rfl ?_
     refine wp_skip (x_normB (x_norm (c_regL R62_9_l ?_)))
     refine q0 p62_9_0 hE (st_add (z := (k : Int) + 1) rfl rfl (wr_i64 _ (by omega) (by omega))) ?_; clear hE a; intro a hE
     refine q0 p62_9_1 hE (st_move rfl) ?_; clear hE a; intro a hE
     refine p_nil (x_norm ?_)
     have hsk : osame (xs.getD k zO) (ys.getD k zO) = true := by rw [hxe2, hxe3]; exact hOS
     exact ⟨k + 1, by omega, En.sub hE ⟨rfl, rfl, rfl, rfl, rfl, rfl, rfl, trivial⟩, by omega, fun j hj => by rcases Nat.lt_succ_iff_lt_or_eq.1 hj with h | h; exact hall j h; rw [h]; exact hsk, K_0⟩
    ·
     refine c_reg R62_7_l ?_
     refine q0 p62_7_0 hE (st_move rfl) ?_; clear hE a; intro a hE
     refine q0 p62_7_1 hE (st_loadN (off := 0) (k := 19) (vs := ([Value.int .i64 x.1, Value.slice Ae2 x.2.1.length qe2] ++ b16 (adr x) ++ [Value.slice Te2 x.2.2.2.length ce2])) tA50 tS50 rfl B_g4 rfl rfl) ?_; clear hE a; intro a hE
     refine q0 p62_7_2 hE (st_loadN (off := 0) (k := 19) (vs := ([Value.int .i64 y.1, Value.slice Ae3 y.2.1.length qe3] ++ b16 (adr y) ++ [Value.slice Te3 y.2.2.2.length ce3])) tA50 tS50 rfl B_g8 rfl rfl) ?_; clear hE a; intro a hE
     refine p_cons (s_callv (fst := []) (cap := []) (xs := [Operand.tmp 27, Operand.tmp 28]) (args := [Value.agg (([Value.int .i64 x.1, Value.slice Ae2 x.2.1.length qe2] ++ b16 (adr x) ++ [Value.slice Te2 x.2.2.2.length ce2])).toArray, Value.agg (([Value.int .i64 y.1, Value.slice Ae3 y.2.1.length qe3] ++ b16 (adr y) ++ [Value.slice Te3 y.2.2.2.length ce3])).toArray]) p62_7_3 hE wn_none rfl rfl rfl Try.func63 cl63 (same_o x.1 x.2.1 x.2.2.2 (adr x) Ae2 Te2 qe2 ce2 y.1 y.2.1 y.2.2.2 (adr y) Ae3 Te3 qe3 ce3 false (by simpa [osame] using hOS) hokx.1 hoky.1 _ (fun W' hk => C_to hCe2 (K_0.then_ hk (fun _ h => h.elim))) (fun W' hk => C_to hDe2 (K_0.then_ hk (fun _ h => h.elim))) (fun W' hk => C_to hCe3 (K_0.then_ hk (fun _ h => h.elim))) (fun W' hk => C_to hDe3 (K_0.then_ hk (fun _ h => h.elim))) hokx.2.1 hokx.2.2 hme2 hme3 hoky.2.2) ?_)
     rintro e w13 ⟨rfl, hk⟩
     replace B_g4 := kp_blk B_g4 hk (fun h => h)
     replace B_g8 := kp_blk B_g8 hk (fun h => h)
     replace K_0 := K_0.then_ hk (fun _ h => h.elim)
     refine ⟨_, rfl, ?_⟩; clear hE a; intro a hE
     refine q0 p62_7_4 hE (st_not rfl rfl) ?_; clear hE a; intro a hE
     refine p_nil (x_norm ?_)
     refine c_cond (t := true) hE rfl ?_
     refine c_reg R62_8_l ?_
     refine q0 p62_8_0 hE (st_assign rfl) ?_; clear hE a; intro a hE
     refine p_nil (x_norm (wp_ret (x_retB (x_ret (x_ret (x_retB (x_ret ?_)))))))
     refine ret_one (v := Value.bool false) rfl hE (.tmp rfl .nil) ?_
     exact ⟨by rw [← hb, show lsame xs ys = false from by exact lsame_no hkx (by rw [hxe2, hxe3]; simpa using hOS)], K_0⟩
   ·
    refine c_reg R62_4_l ?_
    refine q0 p62_4_0 hE (st_lss (b := false) rfl rfl (decide_eq_false hK1)) ?_; clear hE a; intro a hE
    refine p_nil (x_norm (wp_seq ?_))
    refine c_cond (t := false) hE rfl ?_
    refine wp_exit (x_exit (x_exit (x_in (x_norm (c_reg R62_10_l ?_)))))
    refine q0 p62_10_0 hE (st_assign rfl) ?_; clear hE a; intro a hE
    refine p_nil (x_norm (wp_ret ?_))
    refine ret_one (v := Value.bool true) rfl hE (.tmp rfl .nil) ?_
    exact ⟨by rw [← hb, show lsame xs ys = true from by exact lsame_yes hLN (fun j hj => hall j (by omega))], K_0⟩
 ·
  refine c_reg R62_1_l ?_
  refine q0 p62_1_0 hE (st_move rfl) ?_; clear hE a; intro a hE
  refine q0 p62_1_1 hE (st_len Try.underlying23 rfl) ?_; clear hE a; intro a hE
  refine q0 p62_1_2 hE (st_move rfl) ?_; clear hE a; intro a hE
  refine q0 p62_1_3 hE (st_len Try.underlying23 rfl) ?_; clear hE a; intro a hE
  refine q0 p62_1_4 hE (st_neq (b := true) rfl rfl (by simp; exact fun h => hLN (by omega))) ?_; clear hE a; intro a hE
  refine p_nil (x_norm ?_)
  refine c_cond (t := true) hE rfl ?_
  refine c_reg R62_2_l ?_
  refine q0 p62_2_0 hE (st_assign rfl) ?_; clear hE a; intro a hE
  refine p_nil (x_norm (wp_ret (x_ret ?_)))
  refine ret_one (v := Value.bool false) rfl hE (.tmp rfl .nil) ?_
  exact ⟨by rw [← hb, show lsame xs ys = false from by show lsame xs ys = _; unfold lsame; rw [decide_eq_false hLN]; rfl], K_0⟩
theorem R24_0_l : List.range (regOf Try.f24 0).size = [0] := by kernel_rfl
theorem R24_1_l : List.range (regOf Try.f24 1).size = [0, 1, 2, 3] := by kernel_rfl
theorem body24 : Try.f24.body = some (.seq (.region 0 (regOf Try.f24 0) false) (.seq (.region 1 (regOf Try.f24 1) false) (.ret))) := by kernel_rfl
theorem p24_0_0 : pj (regOf Try.f24 0) 0 = some (some 4, .assign (.const (.bool false)), 4, none) := by kernel_rfl
theorem p24_1_0 : pj (regOf Try.f24 1) 0 = some (some 5, .move (.tmp 0), 23, none) := by kernel_rfl
theorem p24_1_1 : pj (regOf Try.f24 1) 1 = some (some 6, .move (.tmp 1), 23, none) := by kernel_rfl
theorem p24_1_2 : pj (regOf Try.f24 1) 2 = some (some 7, .call { callee := .value (.func 62), args := #[.tmp 5, .tmp 6, .func 63], argTypes := #[23, 23, 126] }, 4, none) := by kernel_rfl
theorem cl62 : callable Try.f62 = true := by kernel_rfl
theorem p24_1_3 : pj (regOf Try.f24 1) 3 = some (some 4, .assign (.tmp 7), 4, none) := by kernel_rfl
set_option maxHeartbeats 4000000 in
theorem Same_o (A B : Option Addr) (c cb : Nat) (xs ys : List OV) (b : Bool) (hb : lsame xs ys = b) (hx : ∀ x ∈ xs, okO x) (hy : ∀ x ∈ ys, okO x) (w : World) (hF : Kd.C dO w A xs.length xs) (hG : Kd.C dO w B ys.length ys) (hmx : xs.length ≤ 1000000000000) : Calls Try.prog 24 #[.slice A xs.length c, .slice B ys.length cb] w fun e w' => e = .returned (.bool b) ∧ Kp w w' (fun _ => False) := by
 have K_0 := Kp.refl w (fun _ => False)
 refine enter (args := [Value.slice A xs.length c, Value.slice B ys.length cb]) (n := 8) Try.func24 body24 rfl rfl rfl ?_
 intro a hE
 refine c_reg R24_0_l ?_
 refine q0 p24_0_0 hE (st_assign rfl) ?_; clear hE a; intro a hE
 refine p_nil (x_norm (c_reg R24_1_l ?_))
 refine q0 p24_1_0 hE (st_move rfl) ?_; clear hE a; intro a hE
 refine q0 p24_1_1 hE (st_move rfl) ?_; clear hE a; intro a hE
 refine p_cons (s_call (xs := [Operand.tmp 5, Operand.tmp 6, Operand.func 63]) (args := [Value.slice A xs.length c, Value.slice B ys.length cb, Value.func (.func 63) #[] #[]]) p24_1_2 hE wn_none rfl rfl Try.func62 cl62 (eqfunc_o A B c cb xs ys b hb hx hy _ (C_to hF K_0) (C_to hG K_0) hmx) ?_)
 rintro e w1 ⟨rfl, hk⟩
 replace K_0 := K_0.then_ hk (fun _ h => h.elim)
 refine ⟨_, rfl, ?_⟩; clear hE a; intro a hE
 refine q0 p24_1_3 hE (st_assign rfl) ?_; clear hE a; intro a hE
 refine p_nil (x_norm (wp_ret ?_))
 refine ret_one (v := Value.bool b) rfl hE (.tmp rfl .nil) ?_
 exact ⟨rfl, K_0⟩
theorem R11_0_l : List.range (regOf Try.f11 0).size = [0] := by kernel_rfl
theorem R11_1_l : List.range (regOf Try.f11 1).size = [0, 1, 2, 3, 4] := by kernel_rfl
theorem R11_2_l : List.range (regOf Try.f11 2).size = [0] := by kernel_rfl
theorem R11_3_l : List.range (regOf Try.f11 3).size = [0] := by kernel_rfl
theorem R11_4_l : List.range (regOf Try.f11 4).size = [0, 1, 2, 3] := by kernel_rfl
theorem R11_7_l : List.range (regOf Try.f11 7).size = [0] := by kernel_rfl
theorem R11_5_l : List.range (regOf Try.f11 5).size = [0, 1, 2] := by kernel_rfl
theorem R11_8_l : List.range (regOf Try.f11 8).size = [0] := by kernel_rfl
theorem body11 : Try.f11.body = some (.seq (.region 0 (regOf Try.f11 0) false) (.seq (.seq (.region 1 (regOf Try.f11 1) false) (.cond (Operand.tmp 10) (.seq (.region 2 (regOf Try.f11 2) false) (.ret)) (.skip))) (.seq (.seq (.region 3 (regOf Try.f11 3) false) (.block 0 (.loop (.seq (.seq (.region 4 (regOf Try.f11 4) false) (.cond (Operand.tmp 14) (.skip) (.exit 0))) (.seq (.block 1 (.seq (.region 6 (regOf Try.f11 6) true) (.cond (Operand.tmp 26) (.seq (.region 7 (regOf Try.f11 7) false) (.ret)) (.skip)))) (.region 5 (regOf Try.f11 5) false)))))) (.seq (.region 8 (regOf Try.f11 8) false) (.ret))))) := by kernel_rfl
theorem p11_0_0 : pj (regOf Try.f11 0) 0 = some (some 4, .assign (.const (.bool false)), 4, none) := by kernel_rfl
theorem p11_1_0 : pj (regOf Try.f11 1) 0 = some (some 6, .move (.tmp 0), 27, none) := by kernel_rfl
theorem p11_1_1 : pj (regOf Try.f11 1) 1 = some (some 7, .call { callee := .builtin .len, args := #[.tmp 6], argTypes := #[27] }, 3, none) := by kernel_rfl
theorem p11_1_2 : pj (regOf Try.f11 1) 2 = some (some 8, .move (.tmp 1), 27, none) := by kernel_rfl
theorem p11_1_3 : pj (regOf Try.f11 1) 3 = some (some 9, .call { callee := .builtin .len, args := #[.tmp 8], argTypes := #[27] }, 3, none) := by kernel_rfl
theorem p11_1_4 : pj (regOf Try.f11 1) 4 = some (some 10, .binOp .neq 3 (.tmp 7) (.tmp 9) 3, 4, none) := by kernel_rfl
theorem p11_3_0 : pj (regOf Try.f11 3) 0 = some (some 5, .assign (.const (.int .i64 0)), 3, none) := by kernel_rfl
theorem p11_4_0 : pj (regOf Try.f11 4) 0 = some (some 11, .move (.tmp 5), 3, none) := by kernel_rfl
theorem p11_4_1 : pj (regOf Try.f11 4) 1 = some (some 12, .move (.tmp 0), 27, none) := by kernel_rfl
theorem p11_4_2 : pj (regOf Try.f11 4) 2 = some (some 13, .call { callee := .builtin .len, args := #[.tmp 12], argTypes := #[27] }, 3, none) := by kernel_rfl
theorem p11_4_3 : pj (regOf Try.f11 4) 3 = some (some 14, .binOp .lss 3 (.tmp 11) (.tmp 13) 3, 4, none) := by kernel_rfl
theorem ns11_6 : Region.noSelect (regOf Try.f11 6) = true := by kernel_rfl
theorem p11_6_0 : pj (regOf Try.f11 6) 0 = some (some 17, .move (.tmp 0), 27, none) := by kernel_rfl
theorem p11_6_1 : pj (regOf Try.f11 6) 1 = some (some 18, .move (.tmp 5), 3, none) := by kernel_rfl
theorem p11_6_2 : pj (regOf Try.f11 6) 2 = some (some 19, .indexAddr 27 (.tmp 17) (.tmp 18), 0, none) := by kernel_rfl
theorem tS45 : (Try.prog.info? 45).map (·.size) = some 19 := by kernel_rfl
theorem p11_6_3 : pj (regOf Try.f11 6) 3 = some (some 20, .load 45 (.tmp 19), 45, none) := by kernel_rfl
theorem tA45 : (Try.prog.underlying 45).map aggD = some true := by kernel_rfl
theorem p11_6_4 : pj (regOf Try.f11 6) 4 = some (some 21, .move (.tmp 1), 27, none) := by kernel_rfl
theorem p11_6_5 : pj (regOf Try.f11 6) 5 = some (some 22, .move (.tmp 5), 3, none) := by kernel_rfl
theorem p11_6_6 : pj (regOf Try.f11 6) 6 = some (some 23, .indexAddr 27 (.tmp 21) (.tmp 22), 0, none) := by kernel_rfl
theorem p11_6_7 : pj (regOf Try.f11 6) 7 = some (some 24, .load 45 (.tmp 23), 45, none) := by kernel_rfl
theorem p11_6_8 : pj (regOf Try.f11 6) 8 = some (some 25, .call { callee := .value (.func 55), args := #[.tmp 20, .tmp 24], argTypes := #[45, 45] }, 4, none) := by kernel_rfl
theorem cl55 : callable Try.f55 = true := by kernel_rfl
theorem p11_6_9 : pj (regOf Try.f11 6) 9 = some (some 26, .unOp .not 4 (.tmp 25), 4, none) := by kernel_rfl
theorem p11_5_0 : pj (regOf Try.f11 5) 0 = some (some 15, .move (.tmp 5), 3, none) := by kernel_rfl
theorem p11_5_1 : pj (regOf Try.f11 5) 1 = some (some 16, .binOp .add 3 (.tmp 15) (.const (.int .i64 1)) 3, 3, none) := by kernel_rfl
theorem p11_5_2 : pj (regOf Try.f11 5) 2 = some (some 5, .assign (.tmp 16), 3, none) := by kernel_rfl
theorem p11_7_0 : pj (regOf Try.f11 7) 0 = some (some 4, .assign (.const (.bool false)), 4, none) := by kernel_rfl
theorem p11_8_0 : pj (regOf Try.f11 8) 0 = some (some 4, .assign (.const (.bool true)), 4, none) := by kernel_rfl
theorem p11_2_0 : pj (regOf Try.f11 2) 0 = some (some 4, .assign (.const (.bool false)), 4, none) := by kernel_rfl
set_option maxHeartbeats 4000000 in
theorem All_o (A B : Option Addr) (c cb : Nat) (xs ys : List OV) (b : Bool) (hb : lsame xs ys = b) (hx : ∀ x ∈ xs, okO x) (hy : ∀ x ∈ ys, okO x) (w : World) (hF : Kd.C dO w A xs.length xs) (hG : Kd.C dO w B ys.length ys) (hmx : xs.length ≤ 1000000000000) : Calls Try.prog 11 #[.slice A xs.length c, .slice B ys.length cb] w fun e w' => e = .returned (.bool b) ∧ Kp w w' (fun _ => False) := by
 have K_0 := Kp.refl w (fun _ => False)
 refine enter (args := [Value.slice A xs.length c, Value.slice B ys.length cb]) (n := 27) Try.func11 body11 rfl rfl rfl ?_
 intro a hE
 refine c_reg R11_0_l ?_
 refine q0 p11_0_0 hE (st_assign rfl) ?_; clear hE a; intro a hE
 refine p_nil (x_norm (wp_seq ?_))
 rcases Decidable.em (xs.length = ys.length) with hLN | hLN
 ·
  refine c_reg R11_1_l ?_
  refine q0 p11_1_0 hE (st_move rfl) ?_; clear hE a; intro a hE
  refine q0 p11_1_1 hE (st_len Try.underlying27 rfl) ?_; clear hE a; intro a hE
  refine q0 p11_1_2 hE (st_move rfl) ?_; clear hE a; intro a hE
  refine q0 p11_1_3 hE (st_len Try.underlying27 rfl) ?_; clear hE a; intro a hE
  refine q0 p11_1_4 hE (st_neq (b := false) rfl rfl (by simp [hLN])) ?_; clear hE a; intro a hE
  refine p_nil (x_norm ?_)
  refine c_cond (t := false) hE rfl ?_
  refine wp_skip (x_norm (wp_seq (c_reg R11_3_l ?_)))
  refine q0 p11_3_0 hE (st_assign rfl) ?_; clear hE a; intro a hE
  refine p_nil (x_norm (wp_block ?_))
  refine c_loop (α := Nat) (fun k a W => En 27 a [(0, Value.slice A xs.length c), (1, Value.slice B ys.length cb), (10, Value.bool false), (5, Value.int .i64 (k : Int))] ∧ k ≤ xs.length ∧ (∀ j, j < k → osame (xs.getD j zO) (ys.getD j zO) = true) ∧ Kp w W (fun _ => False)) (fun k => xs.length - k) (0) ?_ ?_
  ·
   exact ⟨En.sub hE ⟨rfl, rfl, rfl, rfl, trivial⟩, Nat.zero_le _, fun j hj => absurd hj (Nat.not_lt_zero j), K_0⟩
  ·
   clear hE a
   rintro k a w1 ⟨hE, hk9, hall, K_0⟩
   refine wp_seq ?_
   rcases Decidable.em ((k : Int) < (xs.length : Int)) with hK1 | hK1
   ·
    refine c_reg R11_4_l ?_
    refine q0 p11_4_0 hE (st_move rfl) ?_; clear hE a; intro a hE
    refine q0 p11_4_1 hE (st_move rfl) ?_; clear hE a; intro a hE
    refine q0 p11_4_2 hE (st_len Try.underlying27 rfl) ?_; clear hE a; intro a hE
    refine q0 p11_4_3 hE (st_lss (b := true) rfl rfl (decide_eq_true hK1)) ?_; clear hE a; intro a hE
    refine p_nil (x_norm ?_)
    refine c_cond (t := true) hE rfl ?_
    refine wp_skip (x_norm (wp_seq (wp_block ?_)))
    have hkx : k < xs.length := by omega
    have hky : k < ys.length := by omega
    obtain ⟨hAe2, cce2, hKe2, hce2⟩ := C_elem (i := k) hF zO (show k < xs.length by omega)
    obtain ⟨x, hxe2⟩ : ∃ x, List.getD xs k zO = x := ⟨_, rfl⟩
    rw [hxe2] at hKe2
    obtain ⟨Ae2, qe2, Te2, ce2, rfl, hle2, hme2, hCe2, hDe2⟩ := opt_open hKe2
    obtain ⟨hAe3, cce3, hKe3, hce3⟩ := C_elem (i := k) hG zO (show k < ys.length by omega)
    obtain ⟨y, hxe3⟩ : ∃ x, List.getD ys k zO = x := ⟨_, rfl⟩
    rw [hxe3] at hKe3
    obtain ⟨Ae3, qe3, Te3, ce3, rfl, hle3, hme3, hCe3, hDe3⟩ := opt_open hKe3
    have hokx := hx _ (getD_mem hkx zO)
    rw [hxe2] at hokx
    have hoky := hy _ (getD_mem hky zO)
    rw [hxe3] at hoky
    rcases Decidable.em (osame x y = true) with hOS | hOS
    ·
     refine c_drawS (S := fun W => (∀ j u, (([Value.int .i64 x.1, Value.slice Ae2 x.2.1.length qe2] ++ b16 (adr x) ++ [Value.slice Te2 x.2.2.2.length ce2]))[j]? = some u → W.cell? (ea A (k * 19 + j)) = some u) ∧ (∀ j u, (([Value.int .i64 y.1, Value.slice Ae3 y.2.1.length qe3] ++ b16 (adr y) ++ [Value.slice Te3 y.2.2.2.length ce3]))[j]? = some u → W.cell? (ea B (k * 19 + j)) = some u) ∧ True) rfl rfl (listed := #[false, false, false, false, false, false, false, false, false, false]) rfl ?_
     intro w4 hh hk
     replace K_0 := K_0.then_ hk (fun _ h => h.elim)
     clear hh hk
     have hS9 : (∀ j u, (([Value.int .i64 x.1, Value.slice Ae2 x.2.1.length qe2] ++ b16 (adr x) ++ [Value.slice Te2 x.2.2.2.length ce2]))[j]? = some u → w4.cell? (ea A (k * 19 + j)) = some u) ∧ (∀ j u, (([Value.int .i64 y.1, Value.slice Ae3 y.2.1.length qe3] ++ b16 (adr y) ++ [Value.slice Te3 y.2.2.2.length ce3]))[j]? = some u → w4.cell? (ea B (k * 19 + j)) = some u) ∧ True := ⟨(fun j u h => cell_to K_0 (hce2 j u h)), (fun j u h => cell_to K_0 (hce3 j u h)), trivial⟩
     refine Rv.dq (v := Value.slice A xs.length c) p11_6_0 ns11_6 hE wn_none hS9 (fun W hS => (st_move rfl)) ?_; clear hE a; intro a hE
     refine Rv.dq (v := Value.int .i64 (k : Int)) p11_6_1 ns11_6 hE wn_none hS9 (fun W hS => (st_move rfl)) ?_; clear hE a; intro a hE
     refine Rv.dq (v := Value.pointer (some (ea A (k * 19)))) p11_6_2 ns11_6 hE wn_none hS9 (fun W hS => (st_indexAddrR (i := k) (s := 19) Try.underlying27 tS45 hAe2 rfl rfl (by omega))) ?_; clear hE a; intro a hE
     refine Rv.dq (v := Value.agg (([Value.int .i64 x.1, Value.slice Ae2 x.2.1.length qe2] ++ b16 (adr x) ++ [Value.slice Te2 x.2.2.2.length ce2])).toArray) p11_6_3 ns11_6 hE wn_none hS9 (fun W hS => (st_loadR (off := k * 19) (j := 0) (k := 19) (vs := ([Value.int .i64 x.1, Value.slice Ae2 x.2.1.length qe2] ++ b16 (adr x) ++ [Value.slice Te2 x.2.2.2.length ce2])) tA45 tS45 (hS.1) rfl rfl (by omega) rfl)) ?_; clear hE a; intro a hE
     refine Rv.dq (v := Value.slice B ys.length cb) p11_6_4 ns11_6 hE wn_none hS9 (fun W hS => (st_move rfl)) ?_; clear hE a; intro a hE
     refine Rv.dq (v := Value.int .i64 (k : Int)) p11_6_5 ns11_6 hE wn_none hS9 (fun W hS => (st_move rfl)) ?_; clear hE a; intro a hE
     refine Rv.dq (v := Value.pointer (some (ea B (k * 19)))) p11_6_6 ns11_6 hE wn_none hS9 (fun W hS => (st_indexAddrR (i := k) (s := 19) Try.underlying27 tS45 hAe3 rfl rfl (by omega))) ?_; clear hE a; intro a hE
     refine Rv.dq (v := Value.agg (([Value.int .i64 y.1, Value.slice Ae3 y.2.1.length qe3] ++ b16 (adr y) ++ [Value.slice Te3 y.2.2.2.length ce3])).toArray) p11_6_7 ns11_6 hE wn_none hS9 (fun W hS => (st_loadR (off := k * 19) (j := 0) (k := 19) (vs := ([Value.int .i64 y.1, Value.slice Ae3 y.2.1.length qe3] ++ b16 (adr y) ++ [Value.slice Te3 y.2.2.2.length ce3])) tA45 tS45 (hS.2.1) rfl rfl (by omega) rfl)) ?_; clear hE a; intro a hE
     refine d_one (by kernel_rfl) rfl (s_call (xs := [Operand.tmp 20, Operand.tmp 24]) (args := [Value.agg (([Value.int .i64 x.1, Value.slice Ae2 x.2.1.length qe2] ++ b16 (adr x) ++ [Value.slice Te2 x.2.2.2.length ce2])).toArray, Value.agg (([Value.int .i64 y.1, Value.slice Ae3 y.2.1.length qe3] ++ b16 (adr y) ++ [Value.slice Te3 y.2.2.2.length ce3])).toArray]) p11_6_8 hE wn_none rfl rfl Try.func55 cl55 (rsame_o x.1 x.2.1 x.2.2.2 (adr x) Ae2 Te2 qe2 ce2 y.1 y.2.1 y.2.2.2 (adr y) Ae3 Te3 qe3 ce3 true hOS hokx.1 hoky.1 _ (fun W' hk => C_to hCe2 (K_0.then_ hk (fun _ h => h.elim))) (fun W' hk => C_to hDe2 (K_0.then_ hk (fun _ h => h.elim))) (fun W' hk => C_to hCe3 (K_0.then_ hk (fun _ h => h.elim))) (fun W' hk => C_to hDe3 (K_0.then_ hk (fun _ h => h.elim))) hokx.2.1 hokx.2.2 hme2 hme3 hoky.2.2) ?_)
     rintro e w5 ⟨rfl, hk⟩
     replace K_0 := K_0.then_ hk (fun _ h => h.elim)
     refine ⟨_, rfl, ?_⟩; clear hE a; intro a hE
     refine ⟨⟨(fun j u h => cell_to K_0 (hce2 j u h)), (fun j u h => cell_to K_0 (hce3 j u h)), trivial⟩, ?_⟩
     have hS9 : (∀ j u, (([Value.int .i64 x.1, Value.slice Ae2 x.2.1.length qe2] ++ b16 (adr x) ++ [Value.slice Te2 x.2.2.2.length ce2]))[j]? = some u → w5.cell? (ea A (k * 19 + j)) = some u) ∧ (∀ j u, (([Value.int .i64 y.1, Value.slice Ae3 y.2.1.length qe3] ++ b16 (adr y) ++ [Value.slice Te3 y.2.2.2.length ce3]))[j]? = some u → w5.cell? (ea B (k * 19 + j)) = some u) ∧ True := ⟨(fun j u h => cell_to K_0 (hce2 j u h)), (fun j u h => cell_to K_0 (hce3 j u h)), trivial⟩
     refine Rv.dq (v := Value.bool false) p11_6_9 ns11_6 hE wn_none hS9 (fun W hS => (st_not rfl rfl)) ?_; clear hE a; intro a hE
     refine d_end (by kernel_rfl) ?_
     refine x_norm ?_
     refine c_cond (t := false) hE rfl ?_
     refine wp_skip (x_normB (x_norm (c_regL R11_5_l ?_)))
     refine q0 p11_5_0 hE (st_move rfl) ?_; clear hE a; intro a hE
     refine q0 p11_5_1 hE (st_add (z := (k : Int) + 1) rfl rfl (wr_i64 _ (by omega) (by omega))) ?_; clear hE a; intro a hE
     refine q0 p11_5_2 hE (st_assign rfl) ?_; clear hE a; intro a hE
     refine p_nil (x_norm ?_)
     have hsk : osame (xs.getD k zO) (ys.getD k zO) = true := by rw [hxe2, hxe3]; exact hOS
     exact ⟨k + 1, by omega, En.sub hE ⟨rfl, rfl, rfl, rfl, trivial⟩, by omega, fun j hj => by rcases Nat.lt_succ_iff_lt_or_eq.1 hj with h | h; exact hall j h; rw [h]; exact hsk, K_0⟩
    ·
     refine c_drawS (S := fun W => (∀ j u, (([Value.int .i64 x.1, Value.slice Ae2 x.2.1.length qe2] ++ b16 (adr x) ++ [Value.slice Te2 x.2.2.2.length ce2]))[j]? = some u → W.cell? (ea A (k * 19 + j)) = some u) ∧ (∀ j u, (([Value.int .i64 y.1, Value.slice Ae3 y.2.1.length qe3] ++ b16 (adr y) ++ [Value.slice Te3 y.2.2.2.length ce3]))[j]? = some u → W.cell? (ea B (k * 19 + j)) = some u) ∧ True) rfl rfl (listed := #[false, false, false, false, false, false, false, false, false, false]) rfl ?_
     intro w6 hh hk
     replace K_0 := K_0.then_ hk (fun _ h => h.elim)
     clear hh hk
     have hS9 : (∀ j u, (([Value.int .i64 x.1, Value.slice Ae2 x.2.1.length qe2] ++ b16 (adr x) ++ [Value.slice Te2 x.2.2.2.length ce2]))[j]? = some u → w6.cell? (ea A (k * 19 + j)) = some u) ∧ (∀ j u, (([Value.int .i64 y.1, Value.slice Ae3 y.2.1.length qe3] ++ b16 (adr y) ++ [Value.slice Te3 y.2.2.2.length ce3]))[j]? = some u → w6.cell? (ea B (k * 19 + j)) = some u) ∧ True := ⟨(fun j u h => cell_to K_0 (hce2 j u h)), (fun j u h => cell_to K_0 (hce3 j u h)), trivial⟩
     refine Rv.dq (v := Value.slice A xs.length c) p11_6_0 ns11_6 hE wn_none hS9 (fun W hS => (st_move rfl)) ?_; clear hE a; intro a hE
     refine Rv.dq (v := Value.int .i64 (k : Int)) p11_6_1 ns11_6 hE wn_none hS9 (fun W hS => (st_move rfl)) ?_; clear hE a; intro a hE
     refine Rv.dq (v := Value.pointer (some (ea A (k * 19)))) p11_6_2 ns11_6 hE wn_none hS9 (fun W hS => (st_indexAddrR (i := k) (s := 19) Try.underlying27 tS45 hAe2 rfl rfl (by omega))) ?_; clear hE a; intro a hE
     refine Rv.dq (v := Value.agg (([Value.int .i64 x.1, Value.slice Ae2 x.2.1.length qe2] ++ b16 (adr x) ++ [Value.slice Te2 x.2.2.2.length ce2])).toArray) p11_6_3 ns11_6 hE wn_none hS9 (fun W hS => (st_loadR (off := k * 19) (j := 0) (k := 19) (vs := ([Value.int .i64 x.1, Value.slice Ae2 x.2.1.length qe2] ++ b16 (adr x) ++ [Value.slice Te2 x.2.2.2.length ce2])) tA45 tS45 (hS.1) rfl rfl (by omega) rfl)) ?_; clear hE a; intro a hE
     refine Rv.dq (v := Value.slice B ys.length cb) p11_6_4 ns11_6 hE wn_none hS9 (fun W hS => (st_move rfl)) ?_; clear hE a; intro a hE
     refine Rv.dq (v := Value.int .i64 (k : Int)) p11_6_5 ns11_6 hE wn_none hS9 (fun W hS => (st_move rfl)) ?_; clear hE a; intro a hE
     refine Rv.dq (v := Value.pointer (some (ea B (k * 19)))) p11_6_6 ns11_6 hE wn_none hS9 (fun W hS => (st_indexAddrR (i := k) (s := 19) Try.underlying27 tS45 hAe3 rfl rfl (by omega))) ?_; clear hE a; intro a hE
     refine Rv.dq (v := Value.agg (([Value.int .i64 y.1, Value.slice Ae3 y.2.1.length qe3] ++ b16 (adr y) ++ [Value.slice Te3 y.2.2.2.length ce3])).toArray) p11_6_7 ns11_6 hE wn_none hS9 (fun W hS => (st_loadR (off := k * 19) (j := 0) (k := 19) (vs := ([Value.int .i64 y.1, Value.slice Ae3 y.2.1.length qe3] ++ b16 (adr y) ++ [Value.slice Te3 y.2.2.2.length ce3])) tA45 tS45 (hS.2.1) rfl rfl (by omega) rfl)) ?_; clear hE a; intro a hE
     refine d_one (by kernel_rfl) rfl (s_call (xs := [Operand.tmp 20, Operand.tmp 24]) (args := [Value.agg (([Value.int .i64 x.1, Value.slice Ae2 x.2.1.length qe2] ++ b16 (adr x) ++ [Value.slice Te2 x.2.2.2.length ce2])).toArray, Value.agg (([Value.int .i64 y.1, Value.slice Ae3 y.2.1.length qe3] ++ b16 (adr y) ++ [Value.slice Te3 y.2.2.2.length ce3])).toArray]) p11_6_8 hE wn_none rfl rfl Try.func55 cl55 (rsame_o x.1 x.2.1 x.2.2.2 (adr x) Ae2 Te2 qe2 ce2 y.1 y.2.1 y.2.2.2 (adr y) Ae3 Te3 qe3 ce3 false (by simpa [osame] using hOS) hokx.1 hoky.1 _ (fun W' hk => C_to hCe2 (K_0.then_ hk (fun _ h => h.elim))) (fun W' hk => C_to hDe2 (K_0.then_ hk (fun _ h => h.elim))) (fun W' hk => C_to hCe3 (K_0.then_ hk (fun _ h => h.elim))) (fun W' hk => C_to hDe3 (K_0.then_ hk (fun _ h => h.elim))) hokx.2.1 hokx.2.2 hme2 hme3 hoky.2.2) ?_)
     rintro e w7 ⟨rfl, hk⟩
     replace K_0 := K_0.then_ hk (fun _ h => h.elim)
     refine ⟨_, rfl, ?_⟩; clear hE a; intro a hE
     refine ⟨⟨(fun j u h => cell_to K_0 (hce2 j u h)), (fun j u h => cell_to K_0 (hce3 j u h)), trivial⟩, ?_⟩
     have hS9 : (∀ j u, (([Value.int .i64 x.1, Value.slice Ae2 x.2.1.length qe2] ++ b16 (adr x) ++ [Value.slice Te2 x.2.2.2.length ce2]))[j]? = some u → w7.cell? (ea A (k * 19 + j)) = some u) ∧ (∀ j u, (([Value.int .i64 y.1, Value.slice Ae3 y.2.1.length qe3] ++ b16 (adr y) ++ [Value.slice Te3 y.2.2.2.length ce3]))[j]? = some u → w7.cell? (ea B (k * 19 + j)) = some u) ∧ True := ⟨(fun j u h => cell_to K_0 (hce2 j u h)), (fun j u h => cell_to K_0 (hce3 j u h)), trivial⟩
     refine Rv.dq (v := Value.bool true) p11_6_9 ns11_6 hE wn_none hS9 (fun W hS => (st_not rfl rfl)) ?_; clear hE a; intro a hE
     refine d_end (by kernel_rfl) ?_
     refine x_norm ?_
     refine c_cond (t := true) hE rfl ?_
     refine c_reg R11_7_l ?_
     refine q0 p11_7_0 hE (st_assign rfl) ?_; clear hE a; intro a hE
     refine p_nil (x_norm (wp_ret (x_retB (x_ret (x_ret (x_retB (x_ret ?_)))))))
     refine ret_one (v := Value.bool false) rfl hE (.tmp rfl .nil) ?_
     exact ⟨by rw [← hb, show lsame xs ys = false from by exact lsame_no hkx (by rw [hxe2, hxe3]; simpa using hOS)], K_0⟩
   ·
    refine c_reg R11_4_l ?_
    refine q0 p11_4_0 hE (st_move rfl) ?_; clear hE a; intro a hE
    refine q0 p11_4_1 hE (st_move rfl) ?_; clear hE a; intro a hE
    refine q0 p11_4_2 hE (st_len Try.underlying27 rfl) ?_; clear hE a; intro a hE
    refine q0 p11_4_3 hE (st_lss (b := false) rfl rfl (decide_eq_false hK1)) ?_; clear hE a; intro a hE
    refine p_nil (x_norm ?_)
    refine c_cond (t := false) hE rfl ?_
    refine wp_exit (x_exit (x_exit (x_in (x_norm (c_reg R11_8_l ?_)))))
    refine q0 p11_8_0 hE (st_assign rfl) ?_; clear hE a; intro a hE
    refine p_nil (x_norm (wp_ret ?_))
    refine ret_one (v := Value.bool true) rfl hE (.tmp rfl .nil) ?_
    exact ⟨by rw [← hb, show lsame xs ys = true from by exact lsame_yes hLN (fun j hj => hall j (by omega))], K_0⟩
 ·
  refine c_reg R11_1_l ?_
  refine q0 p11_1_0 hE (st_move rfl) ?_; clear hE a; intro a hE
  refine q0 p11_1_1 hE (st_len Try.underlying27 rfl) ?_; clear hE a; intro a hE
  refine q0 p11_1_2 hE (st_move rfl) ?_; clear hE a; intro a hE
  refine q0 p11_1_3 hE (st_len Try.underlying27 rfl) ?_; clear hE a; intro a hE
  refine q0 p11_1_4 hE (st_neq (b := true) rfl rfl (by simp; exact fun h => hLN (by omega))) ?_; clear hE a; intro a hE
  refine p_nil (x_norm ?_)
  refine c_cond (t := true) hE rfl ?_
  refine c_reg R11_2_l ?_
  refine q0 p11_2_0 hE (st_assign rfl) ?_; clear hE a; intro a hE
  refine p_nil (x_norm (wp_ret (x_ret ?_)))
  refine ret_one (v := Value.bool false) rfl hE (.tmp rfl .nil) ?_
  exact ⟨by rw [← hb, show lsame xs ys = false from by show lsame xs ys = _; unfold lsame; rw [decide_eq_false hLN]; rfl], K_0⟩
end Go.Proofs.Ytgpclehnomkbmaa.Os
