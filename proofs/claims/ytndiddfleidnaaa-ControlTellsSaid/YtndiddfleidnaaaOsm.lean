/- Slices and options: searched, copied, compared. -/
import Derived.Test.YtndiddfleidnaaaOrw
import Derived.Laws.BytesString
import Derived.Lib.Bytes
import Derived.Lib.SliceRun
set_option maxRecDepth 100000
set_option linter.unusedVariables false
set_option linter.unusedSimpArgs false
namespace Go.Proofs.Ytndiddfleidnaaa.Os
open Go.RowKit Go.Proofs.YtndiddfleidnaaaW.PrintWords Go.Proofs.Ytndiddfleidnaaa.Ds Go.Proofs.Ytndiddfleidnaaa.Op Go.Proofs.Ytndiddfleidnaaa.Or
open Go.Proofs.Ytndiddfleidnaaa.Pk (Kp fitsF spanF putF digF fits_any put_ok put_bd C_take)
section
variable {P : Program} {t e : TypeId} {d n s o : Nat} {k : IntKind} {l ks : List (Option IntKind)}
private theorem flat_int (hu : P.underlying t = some (.int k)) : flat P (d + 1) t = some [some k] := by unfold flat; rw [hu]
private theorem flat_bool (hu : P.underlying t = some .bool) : flat P (d + 1) t = some [none] := by unfold flat; rw [hu]
private theorem flat_arr (hu : P.underlying t = some (.array n e)) (he : flat P d e = some l) (hi : (P.info? e).map (·.size) = some s) (hs : s = l.length) (hA : flat.isAggT P e = true ∨ l.length = 1) : flat P (d + 1) t = some (List.replicate n l).flatten := by
  obtain ⟨i, h9, h8⟩ := Option.map_eq_some_iff.1 hi; subst h8
  unfold flat; rw [hu]; show (match flat P d e, P.info? e with | some l, some i => if i.size = l.length ∧ (flat.isAggT P e = true ∨ l.length = 1) then some (List.replicate n l).flatten else none | _, _ => none) = _; rw [he, h9]; exact if_pos ⟨hs, hA⟩
private theorem flat_struct {fs : Array Field} (hu : P.underlying t = some (.struct fs)) (hst : P.stoodInHeld t = false) (hf : flat.flatF P d fs.toList 0 = some ks) : flat P (d + 1) t = some ks := by
  unfold flat; rw [hu]; simp only [hst]; exact hf
private theorem flatF_nil : flat.flatF P d [] o = some [] := by unfold flat.flatF; rfl
private theorem flatF_cons {f : Field} {fs : List Field} (he : flat P d f.type = some l) (hi : (P.info? f.type).map (·.size) = some s) (hs : s = l.length) (hA : flat.isAggT P f.type = true ∨ l.length = 1) (hn : f.name ≠ "_") (ho : f.offset = o) (hr : flat.flatF P d fs (o + l.length) = some ks) : flat.flatF P d (f :: fs) o = some (l ++ ks) := by
  obtain ⟨i, h9, h8⟩ := Option.map_eq_some_iff.1 hi; subst h8
  unfold flat.flatF; rw [he, h9]; exact (if_pos ⟨hn, ho, hs, hA⟩).trans (by rw [hr]; rfl)
end
theorem push_all (l : List Int) : ∀ s : ByteArray, l.foldl (fun r n => r.push (UInt8.ofNat n.toNat)) s = ⟨(s.data.toList ++ l.map fun n => UInt8.ofNat n.toNat).toArray⟩ := by
  induction l with
  | nil => intro s; simp
  | cons x l ih =>
    intro s
    rw [List.foldl_cons, ih]
    simp [ByteArray.push]
theorem strF_eq (l : List Int) : l.foldl (fun r n => r.push (UInt8.ofNat n.toNat)) ByteArray.empty = Go.strOfNums l := by
  rw [push_all]; rfl
theorem u8_inj {x y : Int} (hx : 0 ≤ x ∧ x ≤ 255) (hy : 0 ≤ y ∧ y ≤ 255) (h : UInt8.ofNat x.toNat = UInt8.ofNat y.toNat) : x = y := by
  have := congrArg UInt8.toNat h
  simp only [UInt8.toNat_ofNat'] at this
  omega
theorem bytes_inj : ∀ {l l' : List Int}, (∀ x ∈ l, 0 ≤ x ∧ x ≤ 255) → (∀ x ∈ l', 0 ≤ x ∧ x ≤ 255) → Lib.bytesOf l = Lib.bytesOf l' → l = l'
  | [], [], _, _, _ => rfl
  | [], y :: l', _, _, h => by simp [Lib.bytesOf] at h
  | x :: l, [], _, _, h => by simp [Lib.bytesOf] at h
  | x :: l, y :: l', hx, hy, h => by
    simp only [Lib.bytesOf, List.map_cons, List.cons.injEq] at h
    rw [u8_inj (hx x (by simp)) (hy y (by simp)) h.1, bytes_inj (fun z hz => hx z (by simp [hz])) (fun z hz => hy z (by simp [hz])) h.2]
theorem str_eq {l l' : List Int} (h : ∀ x ∈ l, 0 ≤ x ∧ x ≤ 255) (h' : ∀ x ∈ l', 0 ≤ x ∧ x ≤ 255) : ((Go.strOfNums l).toList == (Go.strOfNums l').toList) = decide (l = l') := by
  rw [Lib.strOfNums_toList, Lib.strOfNums_toList]
  by_cases e : l = l'
  · subst e; simp
  · rw [decide_eq_false e]
    exact beq_eq_false_iff_ne.2 (fun h2 => e (bytes_inj h h' h2))
section
variable {P : Program} {T T1 T2 : TypeId} {m : List (Nat × Value)} {w : World} {X Y : Operand}
theorem st_eqlSn {A : Option Addr} {n c : Nat} {b : Bool} {e : TypeId} (hT : P.underlying T1 = some (.slice e)) (h1 : ev m X = some (.slice A n c)) (h2 : ev m Y = some (.slice none 0 0)) (hb : A.isNone = b) : Still P (.binOp .eql T1 X Y T2) T m w (.bool b) := fun n a hE o e1 e2 => by
  subst hb; unfold execOp; rw [e1]
  simp [hE.ev h1, hE.ev h2, eqGuard, Lib.run_eql_slice_nil w _ _ _ _ _ _ _ hT]
/-- Bytes as a string. -/
theorem st_b2s {A : Option Addr} {n c : Nat} {l : List Int} {e : TypeId} (hs : P.underlying T1 = some (.slice e)) (he : P.underlying e = some (.int .u8)) (hd : P.underlying T2 = some .string) (h1 : ev m X = some (.slice A n c)) (hC : Kd.C (Kd.int .u8) w A n l) : Still P (.convert T1 T2 X) T m w (.string (Go.strOfNums l)) := fun q a hE o e1 e2 => by
  unfold execOp; rw [e1]
  simp only [hE.ev h1]
  have hr : (convert T1 T2 (.slice A n c)).run P w = .ok (.string (Go.strOfNums l)) w := by
    rw [run_convert_bytes_string w T1 T2 e A n c hs he hd]
    cases A with
    | none =>
      have h0 : n = 0 := by
        rcases Nat.eq_zero_or_pos n with h | h
        · exact h
        · obtain ⟨ad, h2, _⟩ := hC.2.2 h
          cases h2
      have hl : l = [] := List.eq_nil_of_length_eq_zero (by rw [hC.1, h0])
      subst hl
      rfl
    | some a =>
      have hcells : (loadCells a n).run P w = .ok (l.map (Value.int .u8)).toArray w := by
        have := run_loadCells_list (P := P) (w := w) a (l.map (Value.int .u8)) (fun j v hj => by
          rw [List.getElem?_map, Option.map_eq_some_iff] at hj
          obtain ⟨x, hx, rfl⟩ := hj
          have hlt := (List.getElem?_eq_some_iff.1 hx).1
          have h3 := (C_at hC (i := j) (by rw [← hC.1]; exact hlt)).2
          rw [show rd l (j : Int) = x by simp [rd, rdOf, List.getD_eq_getElem?_getD, hx]] at h3
          exact h3)
        rw [List.length_map, hC.1] at this
        exact this
      rw [run_bytesToString w a n c l hcells]
      rw [strF_eq]
  simp [hr]
end
theorem rd_mem {l : List Int} {v : Int} (h : v ∈ l) : ∃ j, j < l.length ∧ rd l (j : Int) = v := by
  obtain ⟨j, hj, e⟩ := List.getElem_of_mem h
  exact ⟨j, hj, by simp [rd, rdOf, List.getD_eq_getElem?_getD, hj, e]⟩
theorem mem_rd {l : List Int} {j : Nat} (h : j < l.length) : rd l (j : Int) ∈ l := by
  simp [rd, rdOf, List.getD_eq_getElem?_getD, h]
theorem rd_ext {l l' : List Int} (hn : l.length = l'.length) (h : ∀ j, j < l.length → rd l (j : Int) = rd l' (j : Int)) : l = l' := by
  refine List.ext_getElem hn (fun j h1 h2 => ?_)
  have := h j h1
  simpa [rd, rdOf, List.getD_eq_getElem?_getD, h1, h2] using this
theorem R129_0_l : List.range (regOf Try.f129 0).size = [0] := by kernel_rfl
theorem R129_1_l : List.range (regOf Try.f129 1).size = [0, 1, 2] := by kernel_rfl
theorem R129_2_l : List.range (regOf Try.f129 2).size = [0] := by kernel_rfl
theorem R129_3_l : List.range (regOf Try.f129 3).size = [0, 1] := by kernel_rfl
theorem R129_4_l : List.range (regOf Try.f129 4).size = [0, 1, 2, 3, 4, 5] := by kernel_rfl
theorem R129_5_l : List.range (regOf Try.f129 5).size = [0, 1] := by kernel_rfl
theorem R129_6_l : List.range (regOf Try.f129 6).size = [0, 1] := by kernel_rfl
theorem R129_7_l : List.range (regOf Try.f129 7).size = [0] := by kernel_rfl
theorem body129 : Try.f129.body = some (.seq (.region 0 (regOf Try.f129 0) false) (.seq (.seq (.region 1 (regOf Try.f129 1) false) (.block 0 (.loop (.seq (.region 2 (regOf Try.f129 2) false) (.seq (.cond (Operand.tmp 9) (.skip) (.exit 0)) (.seq (.block 1 (.seq (.region 3 (regOf Try.f129 3) false) (.seq (.region 4 (regOf Try.f129 4) false) (.cond (Operand.tmp 16) (.seq (.region 5 (regOf Try.f129 5) false) (.ret)) (.skip))))) (.region 6 (regOf Try.f129 6) false))))))) (.seq (.region 7 (regOf Try.f129 7) false) (.ret)))) := by kernel_rfl
theorem p129_0_0 : pj (regOf Try.f129 0) 0 = some (some 4, .assign (.const (.int .i64 0)), 3, none) := by kernel_rfl
theorem p129_1_0 : pj (regOf Try.f129 1) 0 = some (some 6, .move (.tmp 0), 62, none) := by kernel_rfl
theorem p129_1_1 : pj (regOf Try.f129 1) 1 = some (some 7, .call { callee := .builtin .len, args := #[.tmp 6], argTypes := #[62] }, 3, none) := by kernel_rfl
theorem p129_1_2 : pj (regOf Try.f129 1) 2 = some (some 8, .move (.const (.int .i64 0)), 3, none) := by kernel_rfl
theorem p129_2_0 : pj (regOf Try.f129 2) 0 = some (some 9, .binOp .lss 3 (.tmp 8) (.tmp 7) 3, 0, none) := by kernel_rfl
theorem p129_3_0 : pj (regOf Try.f129 3) 0 = some (some 10, .move (.tmp 8), 3, none) := by kernel_rfl
theorem p129_3_1 : pj (regOf Try.f129 3) 1 = some (some 5, .assign (.tmp 10), 3, none) := by kernel_rfl
theorem p129_4_0 : pj (regOf Try.f129 4) 0 = some (some 11, .move (.tmp 1), 3, none) := by kernel_rfl
theorem p129_4_1 : pj (regOf Try.f129 4) 1 = some (some 12, .move (.tmp 0), 62, none) := by kernel_rfl
theorem p129_4_2 : pj (regOf Try.f129 4) 2 = some (some 13, .move (.tmp 5), 3, none) := by kernel_rfl
theorem p129_4_3 : pj (regOf Try.f129 4) 3 = some (some 14, .indexAddr 62 (.tmp 12) (.tmp 13), 0, none) := by kernel_rfl
theorem tS3 : (Try.prog.info? 3).map (·.size) = some 1 := by kernel_rfl
theorem p129_4_4 : pj (regOf Try.f129 4) 4 = some (some 15, .load 3 (.tmp 14), 3, none) := by kernel_rfl
theorem tA3 : (Try.prog.underlying 3).map aggD = some false := by kernel_rfl
theorem p129_4_5 : pj (regOf Try.f129 4) 5 = some (some 16, .binOp .eql 3 (.tmp 11) (.tmp 15) 3, 4, none) := by kernel_rfl
theorem p129_5_0 : pj (regOf Try.f129 5) 0 = some (some 17, .move (.tmp 5), 3, none) := by kernel_rfl
theorem p129_5_1 : pj (regOf Try.f129 5) 1 = some (some 4, .assign (.tmp 17), 3, none) := by kernel_rfl
theorem p129_6_0 : pj (regOf Try.f129 6) 0 = some (some 18, .binOp .add 3 (.tmp 8) (.const (.int .i64 1)) 3, 3, none) := by kernel_rfl
theorem p129_6_1 : pj (regOf Try.f129 6) 1 = some (some 8, .move (.tmp 18), 3, none) := by kernel_rfl
theorem p129_7_0 : pj (regOf Try.f129 7) 0 = some (some 4, .assign (.const (.int .i64 (-1))), 3, none) := by kernel_rfl
set_option maxHeartbeats 4000000 in
theorem index_any (A : Option Addr) (c : Nat) (l : List Int) (v : Int) (b : Bool) (hb : decide (v ∈ l) = b) (w : World) (hF : ∀ W', Kp w W' (fun _ => False) → Kd.C (Kd.int .i64) W' A l.length l) (hmx : l.length ≤ 1000000000000) : Calls Try.prog 129 #[.slice A l.length c, .int .i64 v] w fun e w' => ∃ r, e = .returned (.int .i64 r) ∧ decide (0 ≤ r) = b ∧ Kp w w' (fun _ => False) := by
  have K_0 := Kp.refl w (fun _ => False)
  refine enter (args := [Value.slice A l.length c, Value.int .i64 v]) (n := 19) Try.func129 body129 rfl rfl rfl ?_
  intro a hE
  refine c_reg R129_0_l ?_
  refine q0 p129_0_0 hE (st_assign rfl) ?_
  clear hE a; intro a hE
  refine p_nil ?_
  refine x_norm ?_
  refine wp_seq ?_
  refine c_reg R129_1_l ?_
  refine q0 p129_1_0 hE (st_move rfl) ?_
  clear hE a; intro a hE
  refine q0 p129_1_1 hE (st_len Try.underlying62 rfl) ?_
  clear hE a; intro a hE
  refine q0 p129_1_2 hE (st_move rfl) ?_
  clear hE a; intro a hE
  refine p_nil ?_
  refine x_norm ?_
  refine wp_block ?_
  refine c_loop (α := Nat) (fun k a W => En 19 a [(0, Value.slice A l.length c), (1, Value.int .i64 v), (7, Value.int .i64 (l.length : Int)), (8, Value.int .i64 (k : Int))] ∧ k ≤ l.length ∧ (∀ j, j < k → rd l (j : Int) ≠ v) ∧ Kp w W (fun _ => False)) (fun k => l.length - k) (0) ?_ ?_
  ·
    exact ⟨En.sub hE ⟨rfl, rfl, rfl, rfl, trivial⟩, Nat.zero_le _, fun j hj => absurd hj (Nat.not_lt_zero j), K_0⟩
  ·
    clear hE a
    rintro k a w1 ⟨hE, hk9, hall, K_0⟩
    rcases Decidable.em ((k : Int) < (l.length : Int)) with hK1 | hK1
    ·
      refine c_reg R129_2_l ?_
      refine q0 p129_2_0 hE (st_lss (b := true) rfl rfl (decide_eq_true hK1)) ?_
      clear hE a; intro a hE
      refine p_nil ?_
      refine x_norm ?_
      refine wp_seq ?_
      refine c_cond (t := true) hE rfl ?_
      refine wp_skip ?_
      refine x_norm ?_
      refine wp_seq ?_
      refine wp_block ?_
      refine c_reg R129_3_l ?_
      refine q0 p129_3_0 hE (st_move rfl) ?_
      clear hE a; intro a hE
      refine q0 p129_3_1 hE (st_assign rfl) ?_
      clear hE a; intro a hE
      refine p_nil ?_
      refine x_norm ?_
      rcases Decidable.em (v = rd l (k : Int)) with hEQ | hEQ
      ·
        refine c_reg R129_4_l ?_
        refine q0 p129_4_0 hE (st_move rfl) ?_
        clear hE a; intro a hE
        refine q0 p129_4_1 hE (st_move rfl) ?_
        clear hE a; intro a hE
        refine q0 p129_4_2 hE (st_move rfl) ?_
        clear hE a; intro a hE
        refine q0 p129_4_3 hE (st_indexAddrC (i := k) Try.underlying62 tS3 (hF _ K_0) rfl rfl (by omega)) ?_
        clear hE a; intro a hE
        refine q0 (v := Value.int .i64 (rd l (k : Int))) p129_4_4 hE (st_loadC (i := k) tA3 (hF _ K_0) (by omega) rfl) ?_
        clear hE a; intro a hE
        refine q0 p129_4_5 hE (st_eql (b := true) rfl rfl (decide_eq_true hEQ)) ?_
        clear hE a; intro a hE
        refine p_nil ?_
        refine x_norm ?_
        refine c_cond (t := true) hE rfl ?_
        refine c_reg R129_5_l ?_
        refine q0 p129_5_0 hE (st_move rfl) ?_
        clear hE a; intro a hE
        refine q0 p129_5_1 hE (st_assign rfl) ?_
        clear hE a; intro a hE
        refine p_nil ?_
        refine x_norm ?_
        refine wp_ret ?_
        refine x_retB ?_
        refine x_ret ?_
        refine x_ret ?_
        refine x_retB ?_
        refine x_ret ?_
        refine ret_one (v := Value.int .i64 (k : Int)) rfl hE (.tmp rfl .nil) ?_
        exact ⟨_, rfl, by rw [decide_eq_true (by omega), ← hb, decide_eq_true]; rw [hEQ]; exact mem_rd (by omega), K_0⟩
      ·
        refine c_reg R129_4_l ?_
        refine q0 p129_4_0 hE (st_move rfl) ?_
        clear hE a; intro a hE
        refine q0 p129_4_1 hE (st_move rfl) ?_
        clear hE a; intro a hE
        refine q0 p129_4_2 hE (st_move rfl) ?_
        clear hE a; intro a hE
        refine q0 p129_4_3 hE (st_indexAddrC (i := k) Try.underlying62 tS3 (hF _ K_0) rfl rfl (by omega)) ?_
        clear hE a; intro a hE
        refine q0 (v := Value.int .i64 (rd l (k : Int))) p129_4_4 hE (st_loadC (i := k) tA3 (hF _ K_0) (by omega) rfl) ?_
        clear hE a; intro a hE
        refine q0 p129_4_5 hE (st_eql (b := false) rfl rfl (decide_eq_false hEQ)) ?_
        clear hE a; intro a hE
        refine p_nil ?_
        refine x_norm ?_
        refine c_cond (t := false) hE rfl ?_
        refine wp_skip ?_
        refine x_normB ?_
        refine x_norm ?_
        refine c_regL R129_6_l ?_
        refine q0 p129_6_0 hE (st_add (z := (k : Int) + 1) rfl rfl (wr_i64 _ (by omega) (by omega))) ?_
        clear hE a; intro a hE
        refine q0 p129_6_1 hE (st_move rfl) ?_
        clear hE a; intro a hE
        refine p_nil ?_
        refine x_norm ?_
        exact ⟨k + 1, by omega, En.sub hE ⟨rfl, rfl, rfl, rfl, trivial⟩, by omega, fun j hj => by rcases Nat.lt_succ_iff_lt_or_eq.1 hj with h | h; exact hall j h; rw [h]; exact fun h => hEQ h.symm, K_0⟩
    ·
      refine c_reg R129_2_l ?_
      refine q0 p129_2_0 hE (st_lss (b := false) rfl rfl (decide_eq_false hK1)) ?_
      clear hE a; intro a hE
      refine p_nil ?_
      refine x_norm ?_
      refine wp_seq ?_
      refine c_cond (t := false) hE rfl ?_
      refine wp_exit ?_
      refine x_exit ?_
      refine x_exit ?_
      refine x_in ?_
      refine x_norm ?_
      refine c_reg R129_7_l ?_
      refine q0 p129_7_0 hE (st_assign rfl) ?_
      clear hE a; intro a hE
      refine p_nil ?_
      refine x_norm ?_
      refine wp_ret ?_
      refine ret_one (v := Value.int .i64 (-1)) rfl hE (.tmp rfl .nil) ?_
      exact ⟨_, rfl, by rw [decide_eq_false (by decide), ← hb, decide_eq_false]; intro hm; obtain ⟨j, hj, e⟩ := rd_mem hm; exact hall j (by omega) e, K_0⟩
theorem R86_0_l : List.range (regOf Try.f86 0).size = [0] := by kernel_rfl
theorem R86_1_l : List.range (regOf Try.f86 1).size = [0, 1, 2, 3, 4] := by kernel_rfl
theorem body86 : Try.f86.body = some (.seq (.region 0 (regOf Try.f86 0) false) (.seq (.region 1 (regOf Try.f86 1) false) (.ret))) := by kernel_rfl
theorem p86_0_0 : pj (regOf Try.f86 0) 0 = some (some 4, .assign (.const (.bool false)), 4, none) := by kernel_rfl
theorem p86_1_0 : pj (regOf Try.f86 1) 0 = some (some 5, .move (.tmp 0), 62, none) := by kernel_rfl
theorem p86_1_1 : pj (regOf Try.f86 1) 1 = some (some 6, .move (.tmp 1), 3, none) := by kernel_rfl
theorem p86_1_2 : pj (regOf Try.f86 1) 2 = some (some 7, .call { callee := .value (.func 129), args := #[.tmp 5, .tmp 6], argTypes := #[62, 3] }, 3, none) := by kernel_rfl
theorem cl129 : callable Try.f129 = true := by kernel_rfl
theorem p86_1_3 : pj (regOf Try.f86 1) 3 = some (some 8, .binOp .geq 3 (.tmp 7) (.const (.int .i64 0)) 3, 4, none) := by kernel_rfl
theorem p86_1_4 : pj (regOf Try.f86 1) 4 = some (some 4, .assign (.tmp 8), 4, none) := by kernel_rfl
set_option maxHeartbeats 4000000 in
theorem contains_any (A : Option Addr) (c : Nat) (l : List Int) (v : Int) (b : Bool) (hb : decide (v ∈ l) = b) (w : World) (hF : ∀ W', Kp w W' (fun _ => False) → Kd.C (Kd.int .i64) W' A l.length l) (hmx : l.length ≤ 1000000000000) : Calls Try.prog 86 #[.slice A l.length c, .int .i64 v] w fun e w' => e = .returned (.bool b) ∧ Kp w w' (fun _ => False) := by
  have K_0 := Kp.refl w (fun _ => False)
  refine enter (args := [Value.slice A l.length c, Value.int .i64 v]) (n := 9) Try.func86 body86 rfl rfl rfl ?_
  intro a hE
  refine c_reg R86_0_l ?_
  refine q0 p86_0_0 hE (st_assign rfl) ?_
  clear hE a; intro a hE
  refine p_nil ?_
  refine x_norm ?_
  refine c_reg R86_1_l ?_
  refine q0 p86_1_0 hE (st_move rfl) ?_
  clear hE a; intro a hE
  refine q0 p86_1_1 hE (st_move rfl) ?_
  clear hE a; intro a hE
  refine p_cons (s_call (xs := [Operand.tmp 5, Operand.tmp 6]) (args := [Value.slice A l.length c, Value.int .i64 v]) p86_1_2 hE wn_none rfl rfl Try.func129 cl129 (index_any A c l v b hb _ (fun W' hk => hF W' (K_0.then_ hk (fun _ h => h.elim))) hmx) ?_)
  rintro e w1 ⟨r, rfl, hr, hk⟩
  replace K_0 := K_0.then_ hk (fun _ h => h.elim)
  refine ⟨_, rfl, ?_⟩
  clear hE a; intro a hE
  refine q0 p86_1_3 hE (st_geq (b := b) rfl rfl hr) ?_
  clear hE a; intro a hE
  refine q0 p86_1_4 hE (st_assign rfl) ?_
  clear hE a; intro a hE
  refine p_nil ?_
  refine x_norm ?_
  refine wp_ret ?_
  refine ret_one (v := Value.bool b) rfl hE (.tmp rfl .nil) ?_
  exact ⟨rfl, K_0⟩
theorem R130_0_l : List.range (regOf Try.f130 0).size = [0] := by kernel_rfl
theorem R130_1_l : List.range (regOf Try.f130 1).size = [0, 1] := by kernel_rfl
theorem R130_2_l : List.range (regOf Try.f130 2).size = [0] := by kernel_rfl
theorem R130_3_l : List.range (regOf Try.f130 3).size = [0, 1, 2, 3] := by kernel_rfl
theorem body130 : Try.f130.body = some (.seq (.region 0 (regOf Try.f130 0) false) (.seq (.seq (.region 1 (regOf Try.f130 1) false) (.cond (Operand.tmp 4) (.seq (.region 2 (regOf Try.f130 2) false) (.ret)) (.skip))) (.seq (.region 3 (regOf Try.f130 3) false) (.ret)))) := by kernel_rfl
theorem p130_0_0 : pj (regOf Try.f130 0) 0 = some (some 2, .assign (.const (.slice none 0 0)), 62, none) := by kernel_rfl
theorem p130_1_0 : pj (regOf Try.f130 1) 0 = some (some 3, .move (.tmp 0), 62, none) := by kernel_rfl
theorem p130_1_1 : pj (regOf Try.f130 1) 1 = some (some 4, .binOp .eql 62 (.tmp 3) (.const (.slice none 0 0)) 62, 4, none) := by kernel_rfl
theorem p130_2_0 : pj (regOf Try.f130 2) 0 = some (some 2, .assign (.const (.slice none 0 0)), 62, none) := by kernel_rfl
theorem p130_3_0 : pj (regOf Try.f130 3) 0 = some (some 5, .buildSlice 62 0 #[], 62, none) := by kernel_rfl
theorem p130_3_1 : pj (regOf Try.f130 3) 1 = some (some 6, .move (.tmp 0), 62, none) := by kernel_rfl
theorem p130_3_2 : pj (regOf Try.f130 3) 2 = some (some 7, .call { callee := .builtin .append, args := #[.tmp 5, .tmp 6], argTypes := #[62, 62] }, 62, none) := by kernel_rfl
theorem eD3 : elemD Try.prog 3 = some (1, 1, 8) := by kernel_rfl
theorem p130_3_3 : pj (regOf Try.f130 3) 3 = some (some 2, .assign (.tmp 7), 62, none) := by kernel_rfl
set_option maxHeartbeats 4000000 in
theorem clonei (A : Option Addr) (c : Nat) (l : List Int) (w : World) (hF : ∀ W', Kp w W' (fun _ => False) → Kd.C (Kd.int .i64) W' A l.length l) (hmx : l.length ≤ 1000000000000) : Calls Try.prog 130 #[.slice A l.length c] w fun e w' => ∃ A' c', e = .returned (.slice A' l.length c') ∧ w'.ownsRow w.heap.size 3 1 (.slice A' l.length c') l.length (encs (Value.int .i64) l) ∧ Kp w w' (fun _ => False) := by
  have K_0 := Kp.refl w (fun _ => False)
  refine enter (args := [Value.slice A l.length c]) (n := 8) Try.func130 body130 rfl rfl rfl ?_
  intro a hE
  refine c_reg R130_0_l ?_
  refine q0 p130_0_0 hE (st_assign rfl) ?_
  clear hE a; intro a hE
  refine p_nil ?_
  refine x_norm ?_
  refine wp_seq ?_
  rcases Decidable.em (A.isNone = true) with hNIL | hNIL
  ·
    refine c_reg R130_1_l ?_
    refine q0 p130_1_0 hE (st_move rfl) ?_
    clear hE a; intro a hE
    refine q0 p130_1_1 hE (st_eqlSn (b := true) Try.underlying62 rfl rfl hNIL) ?_
    clear hE a; intro a hE
    refine p_nil ?_
    refine x_norm ?_
    refine c_cond (t := true) hE rfl ?_
    refine c_reg R130_2_l ?_
    refine q0 p130_2_0 hE (st_assign rfl) ?_
    clear hE a; intro a hE
    refine p_nil ?_
    refine x_norm ?_
    refine wp_ret ?_
    refine x_ret ?_
    refine ret_one (v := Value.slice none 0 0) rfl hE (.tmp rfl .nil) ?_
    have h0 : l = [] := by
        have := hF w (Kp.refl _ _)
        rcases Nat.eq_zero_or_pos l.length with h | h
        · exact List.eq_nil_of_length_eq_zero h
        · obtain ⟨ad, h2, _⟩ := this.2.2 h
          rw [h2] at hNIL; cases hNIL
    subst h0
    exact ⟨none, 0, rfl, own_none _ _ _ _, K_0⟩
  ·
    refine c_reg R130_1_l ?_
    refine q0 p130_1_0 hE (st_move rfl) ?_
    clear hE a; intro a hE
    refine q0 p130_1_1 hE (st_eqlSn (b := false) Try.underlying62 rfl rfl (Bool.eq_false_iff.2 hNIL)) ?_
    clear hE a; intro a hE
    refine p_nil ?_
    refine x_norm ?_
    refine c_cond (t := false) hE rfl ?_
    refine wp_skip ?_
    refine x_norm ?_
    refine c_reg R130_3_l ?_
    refine p_cons (s_row (xs := []) (vs := []) (cs := #[]) p130_3_0 hE wn_none rfl Try.underlying62 rfl (by kernel_rfl) ?_)
    clear hE a; intro g1 w2 z3 B_g1 hk a hE
    have z_0_g1 := Nat.le_trans K_0.kept.1 z3
    replace K_0 := K_0.then_ hk (fun _ h => h.elim)
    clear hk
    refine q0 p130_3_1 hE (st_move rfl) ?_
    clear hE a; intro a hE
    have O_q4 := own_blk9 (k := .i64) (l := []) B_g1 (show w.heap.size ≤ g1 from z_0_g1) rfl (Nat.le_of_ble_eq_true rfl)
    have Z_0_q4 : ∀ k, OB (some ⟨g1, 0, none⟩) k → (fun _ => False) k ∨ w.heap.size ≤ k := fun k h => by have h := ob_blk.1 h; subst h; exact Or.inr z_0_g1
    refine p_cons (s_appendC (xs := []) (ys := l) p130_3_2 hE wn_none rfl Try.underlying62 eD3 rfl O_q4 rfl (hF _ K_0) (by omega) (by omega) K_0.kept.1 ?_)
    clear hE a; intro Aq45 cq46 w7 O_q4' hk hat a hE
    rw [Nat.zero_add] at hE O_q4'
    rw [List.nil_append] at O_q4'
    have Z_0_q4' := grow_z Z_0_q4 K_0.kept.1 hat
    replace K_0 := K_0.then_ hk Z_0_q4
    replace Z_0_q4 := Z_0_q4'
    replace O_q4 : w7.ownsRow _ 3 1 (.slice Aq45 l.length cq46) l.length (encs (Value.int .i64) l) := O_q4'
    clear O_q4' hk hat
    refine q0 p130_3_3 hE (st_assign rfl) ?_
    clear hE a; intro a hE
    refine p_nil ?_
    refine x_norm ?_
    refine wp_ret ?_
    refine ret_one (v := Value.slice Aq45 l.length cq46) rfl hE (.tmp rfl .nil) ?_
    exact ⟨_, _, rfl, O_q4, K_0⟩
theorem R131_0_l : List.range (regOf Try.f131 0).size = [0] := by kernel_rfl
theorem R131_1_l : List.range (regOf Try.f131 1).size = [0, 1] := by kernel_rfl
theorem R131_2_l : List.range (regOf Try.f131 2).size = [0] := by kernel_rfl
theorem R131_3_l : List.range (regOf Try.f131 3).size = [0, 1, 2, 3] := by kernel_rfl
theorem body131 : Try.f131.body = some (.seq (.region 0 (regOf Try.f131 0) false) (.seq (.seq (.region 1 (regOf Try.f131 1) false) (.cond (Operand.tmp 4) (.seq (.region 2 (regOf Try.f131 2) false) (.ret)) (.skip))) (.seq (.region 3 (regOf Try.f131 3) false) (.ret)))) := by kernel_rfl
theorem p131_0_0 : pj (regOf Try.f131 0) 0 = some (some 2, .assign (.const (.slice none 0 0)), 36, none) := by kernel_rfl
theorem p131_1_0 : pj (regOf Try.f131 1) 0 = some (some 3, .move (.tmp 0), 36, none) := by kernel_rfl
theorem p131_1_1 : pj (regOf Try.f131 1) 1 = some (some 4, .binOp .eql 36 (.tmp 3) (.const (.slice none 0 0)) 36, 4, none) := by kernel_rfl
theorem p131_2_0 : pj (regOf Try.f131 2) 0 = some (some 2, .assign (.const (.slice none 0 0)), 36, none) := by kernel_rfl
theorem p131_3_0 : pj (regOf Try.f131 3) 0 = some (some 5, .buildSlice 36 0 #[], 36, none) := by kernel_rfl
theorem p131_3_1 : pj (regOf Try.f131 3) 1 = some (some 6, .move (.tmp 0), 36, none) := by kernel_rfl
theorem p131_3_2 : pj (regOf Try.f131 3) 2 = some (some 7, .call { callee := .builtin .append, args := #[.tmp 5, .tmp 6], argTypes := #[36, 36] }, 36, none) := by kernel_rfl
theorem eD5 : elemD Try.prog 5 = some (1, 1, 1) := by kernel_rfl
theorem p131_3_3 : pj (regOf Try.f131 3) 3 = some (some 2, .assign (.tmp 7), 36, none) := by kernel_rfl
set_option maxHeartbeats 4000000 in
theorem cloneb (A : Option Addr) (c : Nat) (l : List Int) (w : World) (hF : ∀ W', Kp w W' (fun _ => False) → Kd.C (Kd.int .u8) W' A l.length l) (hmx : l.length ≤ 1000000000000) : Calls Try.prog 131 #[.slice A l.length c] w fun e w' => ∃ A' c', e = .returned (.slice A' l.length c') ∧ w'.ownsRow w.heap.size 5 1 (.slice A' l.length c') l.length (encs (Value.int .u8) l) ∧ Kp w w' (fun _ => False) := by
  have K_0 := Kp.refl w (fun _ => False)
  refine enter (args := [Value.slice A l.length c]) (n := 8) Try.func131 body131 rfl rfl rfl ?_
  intro a hE
  refine c_reg R131_0_l ?_
  refine q0 p131_0_0 hE (st_assign rfl) ?_
  clear hE a; intro a hE
  refine p_nil ?_
  refine x_norm ?_
  refine wp_seq ?_
  rcases Decidable.em (A.isNone = true) with hNIL | hNIL
  ·
    refine c_reg R131_1_l ?_
    refine q0 p131_1_0 hE (st_move rfl) ?_
    clear hE a; intro a hE
    refine q0 p131_1_1 hE (st_eqlSn (b := true) Try.underlying36 rfl rfl hNIL) ?_
    clear hE a; intro a hE
    refine p_nil ?_
    refine x_norm ?_
    refine c_cond (t := true) hE rfl ?_
    refine c_reg R131_2_l ?_
    refine q0 p131_2_0 hE (st_assign rfl) ?_
    clear hE a; intro a hE
    refine p_nil ?_
    refine x_norm ?_
    refine wp_ret ?_
    refine x_ret ?_
    refine ret_one (v := Value.slice none 0 0) rfl hE (.tmp rfl .nil) ?_
    have h0 : l = [] := by
        have := hF w (Kp.refl _ _)
        rcases Nat.eq_zero_or_pos l.length with h | h
        · exact List.eq_nil_of_length_eq_zero h
        · obtain ⟨ad, h2, _⟩ := this.2.2 h
          rw [h2] at hNIL; cases hNIL
    subst h0
    exact ⟨none, 0, rfl, own_none _ _ _ _, K_0⟩
  ·
    refine c_reg R131_1_l ?_
    refine q0 p131_1_0 hE (st_move rfl) ?_
    clear hE a; intro a hE
    refine q0 p131_1_1 hE (st_eqlSn (b := false) Try.underlying36 rfl rfl (Bool.eq_false_iff.2 hNIL)) ?_
    clear hE a; intro a hE
    refine p_nil ?_
    refine x_norm ?_
    refine c_cond (t := false) hE rfl ?_
    refine wp_skip ?_
    refine x_norm ?_
    refine c_reg R131_3_l ?_
    refine p_cons (s_row (xs := []) (vs := []) (cs := #[]) p131_3_0 hE wn_none rfl Try.underlying36 rfl (by kernel_rfl) ?_)
    clear hE a; intro g1 w2 z3 B_g1 hk a hE
    have z_0_g1 := Nat.le_trans K_0.kept.1 z3
    replace K_0 := K_0.then_ hk (fun _ h => h.elim)
    clear hk
    refine q0 p131_3_1 hE (st_move rfl) ?_
    clear hE a; intro a hE
    have O_q4 := own_blk9 (k := .u8) (l := []) B_g1 (show w.heap.size ≤ g1 from z_0_g1) rfl (Nat.le_of_ble_eq_true rfl)
    have Z_0_q4 : ∀ k, OB (some ⟨g1, 0, none⟩) k → (fun _ => False) k ∨ w.heap.size ≤ k := fun k h => by have h := ob_blk.1 h; subst h; exact Or.inr z_0_g1
    refine p_cons (s_appendC (xs := []) (ys := l) p131_3_2 hE wn_none rfl Try.underlying36 eD5 rfl O_q4 rfl (hF _ K_0) (by omega) (by omega) K_0.kept.1 ?_)
    clear hE a; intro Aq45 cq46 w7 O_q4' hk hat a hE
    rw [Nat.zero_add] at hE O_q4'
    rw [List.nil_append] at O_q4'
    have Z_0_q4' := grow_z Z_0_q4 K_0.kept.1 hat
    replace K_0 := K_0.then_ hk Z_0_q4
    replace Z_0_q4 := Z_0_q4'
    replace O_q4 : w7.ownsRow _ 5 1 (.slice Aq45 l.length cq46) l.length (encs (Value.int .u8) l) := O_q4'
    clear O_q4' hk hat
    refine q0 p131_3_3 hE (st_assign rfl) ?_
    clear hE a; intro a hE
    refine p_nil ?_
    refine x_norm ?_
    refine wp_ret ?_
    refine ret_one (v := Value.slice Aq45 l.length cq46) rfl hE (.tmp rfl .nil) ?_
    exact ⟨_, _, rfl, O_q4, K_0⟩
theorem R132_0_l : List.range (regOf Try.f132 0).size = [0] := by kernel_rfl
theorem R132_1_l : List.range (regOf Try.f132 1).size = [0, 1, 2, 3, 4] := by kernel_rfl
theorem R132_2_l : List.range (regOf Try.f132 2).size = [0] := by kernel_rfl
theorem R132_3_l : List.range (regOf Try.f132 3).size = [0, 1, 2] := by kernel_rfl
theorem R132_4_l : List.range (regOf Try.f132 4).size = [0] := by kernel_rfl
theorem R132_5_l : List.range (regOf Try.f132 5).size = [0, 1] := by kernel_rfl
theorem R132_6_l : List.range (regOf Try.f132 6).size = [0, 1, 2, 3, 4, 5, 6, 7, 8] := by kernel_rfl
theorem R132_7_l : List.range (regOf Try.f132 7).size = [0] := by kernel_rfl
theorem R132_8_l : List.range (regOf Try.f132 8).size = [0, 1] := by kernel_rfl
theorem R132_9_l : List.range (regOf Try.f132 9).size = [0] := by kernel_rfl
theorem body132 : Try.f132.body = some (.seq (.region 0 (regOf Try.f132 0) false) (.seq (.seq (.region 1 (regOf Try.f132 1) false) (.cond (Operand.tmp 10) (.seq (.region 2 (regOf Try.f132 2) false) (.ret)) (.skip))) (.seq (.seq (.region 3 (regOf Try.f132 3) false) (.block 0 (.loop (.seq (.region 4 (regOf Try.f132 4) false) (.seq (.cond (Operand.tmp 14) (.skip) (.exit 0)) (.seq (.block 1 (.seq (.region 5 (regOf Try.f132 5) false) (.seq (.region 6 (regOf Try.f132 6) true) (.cond (Operand.tmp 24) (.seq (.region 7 (regOf Try.f132 7) false) (.ret)) (.skip))))) (.region 8 (regOf Try.f132 8) false))))))) (.seq (.region 9 (regOf Try.f132 9) false) (.ret))))) := by kernel_rfl
theorem p132_0_0 : pj (regOf Try.f132 0) 0 = some (some 4, .assign (.const (.bool false)), 4, none) := by kernel_rfl
theorem p132_1_0 : pj (regOf Try.f132 1) 0 = some (some 6, .move (.tmp 0), 62, none) := by kernel_rfl
theorem p132_1_1 : pj (regOf Try.f132 1) 1 = some (some 7, .call { callee := .builtin .len, args := #[.tmp 6], argTypes := #[62] }, 3, none) := by kernel_rfl
theorem p132_1_2 : pj (regOf Try.f132 1) 2 = some (some 8, .move (.tmp 1), 62, none) := by kernel_rfl
theorem p132_1_3 : pj (regOf Try.f132 1) 3 = some (some 9, .call { callee := .builtin .len, args := #[.tmp 8], argTypes := #[62] }, 3, none) := by kernel_rfl
theorem p132_1_4 : pj (regOf Try.f132 1) 4 = some (some 10, .binOp .neq 3 (.tmp 7) (.tmp 9) 3, 4, none) := by kernel_rfl
theorem p132_3_0 : pj (regOf Try.f132 3) 0 = some (some 11, .move (.tmp 0), 62, none) := by kernel_rfl
theorem p132_3_1 : pj (regOf Try.f132 3) 1 = some (some 12, .call { callee := .builtin .len, args := #[.tmp 11], argTypes := #[62] }, 3, none) := by kernel_rfl
theorem p132_3_2 : pj (regOf Try.f132 3) 2 = some (some 13, .move (.const (.int .i64 0)), 3, none) := by kernel_rfl
theorem p132_4_0 : pj (regOf Try.f132 4) 0 = some (some 14, .binOp .lss 3 (.tmp 13) (.tmp 12) 3, 0, none) := by kernel_rfl
theorem p132_5_0 : pj (regOf Try.f132 5) 0 = some (some 15, .move (.tmp 13), 3, none) := by kernel_rfl
theorem p132_5_1 : pj (regOf Try.f132 5) 1 = some (some 5, .assign (.tmp 15), 3, none) := by kernel_rfl
theorem ns132_6 : Region.noSelect (regOf Try.f132 6) = true := by kernel_rfl
theorem p132_6_0 : pj (regOf Try.f132 6) 0 = some (some 16, .move (.tmp 0), 62, none) := by kernel_rfl
theorem p132_6_1 : pj (regOf Try.f132 6) 1 = some (some 17, .move (.tmp 5), 3, none) := by kernel_rfl
theorem p132_6_2 : pj (regOf Try.f132 6) 2 = some (some 18, .indexAddr 62 (.tmp 16) (.tmp 17), 0, none) := by kernel_rfl
theorem p132_6_3 : pj (regOf Try.f132 6) 3 = some (some 19, .load 3 (.tmp 18), 3, none) := by kernel_rfl
theorem p132_6_4 : pj (regOf Try.f132 6) 4 = some (some 20, .move (.tmp 1), 62, none) := by kernel_rfl
theorem p132_6_5 : pj (regOf Try.f132 6) 5 = some (some 21, .move (.tmp 5), 3, none) := by kernel_rfl
theorem p132_6_6 : pj (regOf Try.f132 6) 6 = some (some 22, .indexAddr 62 (.tmp 20) (.tmp 21), 0, none) := by kernel_rfl
theorem p132_6_7 : pj (regOf Try.f132 6) 7 = some (some 23, .load 3 (.tmp 22), 3, none) := by kernel_rfl
theorem p132_6_8 : pj (regOf Try.f132 6) 8 = some (some 24, .binOp .neq 3 (.tmp 19) (.tmp 23) 3, 4, none) := by kernel_rfl
theorem p132_8_0 : pj (regOf Try.f132 8) 0 = some (some 25, .binOp .add 3 (.tmp 13) (.const (.int .i64 1)) 3, 3, none) := by kernel_rfl
theorem p132_8_1 : pj (regOf Try.f132 8) 1 = some (some 13, .move (.tmp 25), 3, none) := by kernel_rfl
theorem p132_7_0 : pj (regOf Try.f132 7) 0 = some (some 4, .assign (.const (.bool false)), 4, none) := by kernel_rfl
theorem p132_9_0 : pj (regOf Try.f132 9) 0 = some (some 4, .assign (.const (.bool true)), 4, none) := by kernel_rfl
theorem p132_2_0 : pj (regOf Try.f132 2) 0 = some (some 4, .assign (.const (.bool false)), 4, none) := by kernel_rfl
set_option maxHeartbeats 4000000 in
theorem equali (A B : Option Addr) (c cb : Nat) (l l' : List Int) (b : Bool) (hb : decide (l = l') = b) (w : World) (hF : ∀ W', Kp w W' (fun _ => False) → Kd.C (Kd.int .i64) W' A l.length l) (hG : ∀ W', Kp w W' (fun _ => False) → Kd.C (Kd.int .i64) W' B l'.length l') (hmx : l.length ≤ 1000000000000) : Calls Try.prog 132 #[.slice A l.length c, .slice B l'.length cb] w fun e w' => e = .returned (.bool b) ∧ Kp w w' (fun _ => False) := by
  have K_0 := Kp.refl w (fun _ => False)
  refine enter (args := [Value.slice A l.length c, Value.slice B l'.length cb]) (n := 26) Try.func132 body132 rfl rfl rfl ?_
  intro a hE
  refine c_reg R132_0_l ?_
  refine q0 p132_0_0 hE (st_assign rfl) ?_
  clear hE a; intro a hE
  refine p_nil ?_
  refine x_norm ?_
  refine wp_seq ?_
  rcases Decidable.em (l.length = l'.length) with hLN | hLN
  ·
    refine c_reg R132_1_l ?_
    refine q0 p132_1_0 hE (st_move rfl) ?_
    clear hE a; intro a hE
    refine q0 p132_1_1 hE (st_len Try.underlying62 rfl) ?_
    clear hE a; intro a hE
    refine q0 p132_1_2 hE (st_move rfl) ?_
    clear hE a; intro a hE
    refine q0 p132_1_3 hE (st_len Try.underlying62 rfl) ?_
    clear hE a; intro a hE
    refine q0 p132_1_4 hE (st_neq (b := false) rfl rfl (by simp [hLN])) ?_
    clear hE a; intro a hE
    refine p_nil ?_
    refine x_norm ?_
    refine c_cond (t := false) hE rfl ?_
    refine wp_skip ?_
    refine x_norm ?_
    refine wp_seq ?_
    refine c_reg R132_3_l ?_
    refine q0 p132_3_0 hE (st_move rfl) ?_
    clear hE a; intro a hE
    refine q0 p132_3_1 hE (st_len Try.underlying62 rfl) ?_
    clear hE a; intro a hE
    refine q0 p132_3_2 hE (st_move rfl) ?_
    clear hE a; intro a hE
    refine p_nil ?_
    refine x_norm ?_
    refine wp_block ?_
    refine c_loop (α := Nat) (fun k a W => En 26 a [(0, Value.slice A l.length c), (1, Value.slice B l'.length cb), (10, Value.bool false), (12, Value.int .i64 (l.length : Int)), (13, Value.int .i64 (k : Int))] ∧ k ≤ l.length ∧ (∀ j, j < k → rd l (j : Int) = rd l' (j : Int)) ∧ Kp w W (fun _ => False)) (fun k => l.length - k) (0) ?_ ?_
    ·
      exact ⟨En.sub hE ⟨rfl, rfl, rfl, rfl, rfl, trivial⟩, Nat.zero_le _, fun j hj => absurd hj (Nat.not_lt_zero j), K_0⟩
    ·
      clear hE a
      rintro k a w1 ⟨hE, hk9, hall, K_0⟩
      rcases Decidable.em ((k : Int) < (l.length : Int)) with hK1 | hK1
      ·
        refine c_reg R132_4_l ?_
        refine q0 p132_4_0 hE (st_lss (b := true) rfl rfl (decide_eq_true hK1)) ?_
        clear hE a; intro a hE
        refine p_nil ?_
        refine x_norm ?_
        refine wp_seq ?_
        refine c_cond (t := true) hE rfl ?_
        refine wp_skip ?_
        refine x_norm ?_
        refine wp_seq ?_
        refine wp_block ?_
        refine c_reg R132_5_l ?_
        refine q0 p132_5_0 hE (st_move rfl) ?_
        clear hE a; intro a hE
        refine q0 p132_5_1 hE (st_assign rfl) ?_
        clear hE a; intro a hE
        refine p_nil ?_
        refine x_norm ?_
        rcases Decidable.em (rd l (k : Int) = rd l' (k : Int)) with hEQ | hEQ
        ·
          refine c_drawS (S := fun W => Kd.C (Kd.int .i64) W A l.length l ∧ Kd.C (Kd.int .i64) W B l'.length l' ∧ True) rfl rfl (listed := #[false, false, false, false, false, false, false, false, false]) rfl ?_
          intro w2 hh hk
          replace K_0 := K_0.then_ hk (fun _ h => h.elim)
          clear hh hk
          refine d_take (v := Value.slice A l.length c) p132_6_0 ns132_6 (by kernel_rfl) (by kernel_rfl) (fun _ _ _ h => h) hE wn_none rfl ⟨(hF _ K_0), (hG _ K_0), trivial⟩ (fun W hS => (st_move rfl)) rfl ?_
          clear hE a; intro a hE
          refine d_take (v := Value.int .i64 (k : Int)) p132_6_1 ns132_6 (by kernel_rfl) (by kernel_rfl) (fun _ _ _ h => h) hE wn_none rfl ⟨(hF _ K_0), (hG _ K_0), trivial⟩ (fun W hS => (st_move rfl)) rfl ?_
          clear hE a; intro a hE
          refine d_take (v := Value.pointer (some (ea A k))) p132_6_2 ns132_6 (by kernel_rfl) (by kernel_rfl) (fun _ _ _ h => h) hE wn_none rfl ⟨(hF _ K_0), (hG _ K_0), trivial⟩ (fun W hS => (st_indexAddrS (i := k) Try.underlying62 tS3 (C_at (hF _ K_0) (show k < _ by omega)).1 rfl rfl (by omega))) rfl ?_
          clear hE a; intro a hE
          refine d_take (v := Value.int .i64 (rd l (k : Int))) p132_6_3 ns132_6 (by kernel_rfl) (by kernel_rfl) (fun _ _ _ h => h) hE wn_none rfl ⟨(hF _ K_0), (hG _ K_0), trivial⟩ (fun W hS => (st_loadC (i := k) tA3 (hS.1) (by omega) rfl)) rfl ?_
          clear hE a; intro a hE
          refine d_take (v := Value.slice B l'.length cb) p132_6_4 ns132_6 (by kernel_rfl) (by kernel_rfl) (fun _ _ _ h => h) hE wn_none rfl ⟨(hF _ K_0), (hG _ K_0), trivial⟩ (fun W hS => (st_move rfl)) rfl ?_
          clear hE a; intro a hE
          refine d_take (v := Value.int .i64 (k : Int)) p132_6_5 ns132_6 (by kernel_rfl) (by kernel_rfl) (fun _ _ _ h => h) hE wn_none rfl ⟨(hF _ K_0), (hG _ K_0), trivial⟩ (fun W hS => (st_move rfl)) rfl ?_
          clear hE a; intro a hE
          refine d_take (v := Value.pointer (some (ea B k))) p132_6_6 ns132_6 (by kernel_rfl) (by kernel_rfl) (fun _ _ _ h => h) hE wn_none rfl ⟨(hF _ K_0), (hG _ K_0), trivial⟩ (fun W hS => (st_indexAddrS (i := k) Try.underlying62 tS3 (C_at (hG _ K_0) (show k < _ by omega)).1 rfl rfl (by omega))) rfl ?_
          clear hE a; intro a hE
          refine d_take (v := Value.int .i64 (rd l' (k : Int))) p132_6_7 ns132_6 (by kernel_rfl) (by kernel_rfl) (fun _ _ _ h => h) hE wn_none rfl ⟨(hF _ K_0), (hG _ K_0), trivial⟩ (fun W hS => (st_loadC (i := k) tA3 (hS.2.1) (by omega) rfl)) rfl ?_
          clear hE a; intro a hE
          refine d_take (v := Value.bool false) p132_6_8 ns132_6 (by kernel_rfl) (by kernel_rfl) (fun _ _ _ h => h) hE wn_none rfl ⟨(hF _ K_0), (hG _ K_0), trivial⟩ (fun W hS => (st_neq (b := false) rfl rfl (by simp [hEQ]))) rfl ?_
          clear hE a; intro a hE
          refine d_end (by kernel_rfl) ?_
          refine x_norm ?_
          refine c_cond (t := false) hE rfl ?_
          refine wp_skip ?_
          refine x_normB ?_
          refine x_norm ?_
          refine c_regL R132_8_l ?_
          refine q0 p132_8_0 hE (st_add (z := (k : Int) + 1) rfl rfl (wr_i64 _ (by omega) (by omega))) ?_
          clear hE a; intro a hE
          refine q0 p132_8_1 hE (st_move rfl) ?_
          clear hE a; intro a hE
          refine p_nil ?_
          refine x_norm ?_
          exact ⟨k + 1, by omega, En.sub hE ⟨rfl, rfl, rfl, rfl, rfl, trivial⟩, by omega, fun j hj => by rcases Nat.lt_succ_iff_lt_or_eq.1 hj with h | h; exact hall j h; rw [h]; exact hEQ, K_0⟩
        ·
          refine c_drawS (S := fun W => Kd.C (Kd.int .i64) W A l.length l ∧ Kd.C (Kd.int .i64) W B l'.length l' ∧ True) rfl rfl (listed := #[false, false, false, false, false, false, false, false, false]) rfl ?_
          intro w3 hh hk
          replace K_0 := K_0.then_ hk (fun _ h => h.elim)
          clear hh hk
          refine d_take (v := Value.slice A l.length c) p132_6_0 ns132_6 (by kernel_rfl) (by kernel_rfl) (fun _ _ _ h => h) hE wn_none rfl ⟨(hF _ K_0), (hG _ K_0), trivial⟩ (fun W hS => (st_move rfl)) rfl ?_
          clear hE a; intro a hE
          refine d_take (v := Value.int .i64 (k : Int)) p132_6_1 ns132_6 (by kernel_rfl) (by kernel_rfl) (fun _ _ _ h => h) hE wn_none rfl ⟨(hF _ K_0), (hG _ K_0), trivial⟩ (fun W hS => (st_move rfl)) rfl ?_
          clear hE a; intro a hE
          refine d_take (v := Value.pointer (some (ea A k))) p132_6_2 ns132_6 (by kernel_rfl) (by kernel_rfl) (fun _ _ _ h => h) hE wn_none rfl ⟨(hF _ K_0), (hG _ K_0), trivial⟩ (fun W hS => (st_indexAddrS (i := k) Try.underlying62 tS3 (C_at (hF _ K_0) (show k < _ by omega)).1 rfl rfl (by omega))) rfl ?_
          clear hE a; intro a hE
          refine d_take (v := Value.int .i64 (rd l (k : Int))) p132_6_3 ns132_6 (by kernel_rfl) (by kernel_rfl) (fun _ _ _ h => h) hE wn_none rfl ⟨(hF _ K_0), (hG _ K_0), trivial⟩ (fun W hS => (st_loadC (i := k) tA3 (hS.1) (by omega) rfl)) rfl ?_
          clear hE a; intro a hE
          refine d_take (v := Value.slice B l'.length cb) p132_6_4 ns132_6 (by kernel_rfl) (by kernel_rfl) (fun _ _ _ h => h) hE wn_none rfl ⟨(hF _ K_0), (hG _ K_0), trivial⟩ (fun W hS => (st_move rfl)) rfl ?_
          clear hE a; intro a hE
          refine d_take (v := Value.int .i64 (k : Int)) p132_6_5 ns132_6 (by kernel_rfl) (by kernel_rfl) (fun _ _ _ h => h) hE wn_none rfl ⟨(hF _ K_0), (hG _ K_0), trivial⟩ (fun W hS => (st_move rfl)) rfl ?_
          clear hE a; intro a hE
          refine d_take (v := Value.pointer (some (ea B k))) p132_6_6 ns132_6 (by kernel_rfl) (by kernel_rfl) (fun _ _ _ h => h) hE wn_none rfl ⟨(hF _ K_0), (hG _ K_0), trivial⟩ (fun W hS => (st_indexAddrS (i := k) Try.underlying62 tS3 (C_at (hG _ K_0) (show k < _ by omega)).1 rfl rfl (by omega))) rfl ?_
          clear hE a; intro a hE
          refine d_take (v := Value.int .i64 (rd l' (k : Int))) p132_6_7 ns132_6 (by kernel_rfl) (by kernel_rfl) (fun _ _ _ h => h) hE wn_none rfl ⟨(hF _ K_0), (hG _ K_0), trivial⟩ (fun W hS => (st_loadC (i := k) tA3 (hS.2.1) (by omega) rfl)) rfl ?_
          clear hE a; intro a hE
          refine d_take (v := Value.bool true) p132_6_8 ns132_6 (by kernel_rfl) (by kernel_rfl) (fun _ _ _ h => h) hE wn_none rfl ⟨(hF _ K_0), (hG _ K_0), trivial⟩ (fun W hS => (st_neq (b := true) rfl rfl (by simp [hEQ]))) rfl ?_
          clear hE a; intro a hE
          refine d_end (by kernel_rfl) ?_
          refine x_norm ?_
          refine c_cond (t := true) hE rfl ?_
          refine c_reg R132_7_l ?_
          refine q0 p132_7_0 hE (st_assign rfl) ?_
          clear hE a; intro a hE
          refine p_nil ?_
          refine x_norm ?_
          refine wp_ret ?_
          refine x_retB ?_
          refine x_ret ?_
          refine x_ret ?_
          refine x_retB ?_
          refine x_ret ?_
          refine ret_one (v := Value.bool false) rfl hE (.tmp rfl .nil) ?_
          exact ⟨by rw [← hb, decide_eq_false (fun h => hEQ (by rw [h]))], K_0⟩
      ·
        refine c_reg R132_4_l ?_
        refine q0 p132_4_0 hE (st_lss (b := false) rfl rfl (decide_eq_false hK1)) ?_
        clear hE a; intro a hE
        refine p_nil ?_
        refine x_norm ?_
        refine wp_seq ?_
        refine c_cond (t := false) hE rfl ?_
        refine wp_exit ?_
        refine x_exit ?_
        refine x_exit ?_
        refine x_in ?_
        refine x_norm ?_
        refine c_reg R132_9_l ?_
        refine q0 p132_9_0 hE (st_assign rfl) ?_
        clear hE a; intro a hE
        refine p_nil ?_
        refine x_norm ?_
        refine wp_ret ?_
        refine ret_one (v := Value.bool true) rfl hE (.tmp rfl .nil) ?_
        exact ⟨by rw [← hb, decide_eq_true (rd_ext hLN (fun j hj => hall j (by omega)))], K_0⟩
  ·
    refine c_reg R132_1_l ?_
    refine q0 p132_1_0 hE (st_move rfl) ?_
    clear hE a; intro a hE
    refine q0 p132_1_1 hE (st_len Try.underlying62 rfl) ?_
    clear hE a; intro a hE
    refine q0 p132_1_2 hE (st_move rfl) ?_
    clear hE a; intro a hE
    refine q0 p132_1_3 hE (st_len Try.underlying62 rfl) ?_
    clear hE a; intro a hE
    refine q0 p132_1_4 hE (st_neq (b := true) rfl rfl (by simp; exact fun h => hLN (by omega))) ?_
    clear hE a; intro a hE
    refine p_nil ?_
    refine x_norm ?_
    refine c_cond (t := true) hE rfl ?_
    refine c_reg R132_2_l ?_
    refine q0 p132_2_0 hE (st_assign rfl) ?_
    clear hE a; intro a hE
    refine p_nil ?_
    refine x_norm ?_
    refine wp_ret ?_
    refine x_ret ?_
    refine ret_one (v := Value.bool false) rfl hE (.tmp rfl .nil) ?_
    exact ⟨by rw [← hb, decide_eq_false (fun h => hLN (by rw [h]))], K_0⟩
theorem R133_0_l : List.range (regOf Try.f133 0).size = [0] := by kernel_rfl
theorem R133_1_l : List.range (regOf Try.f133 1).size = [0, 1, 2, 3, 4, 5] := by kernel_rfl
theorem body133 : Try.f133.body = some (.seq (.region 0 (regOf Try.f133 0) false) (.seq (.region 1 (regOf Try.f133 1) false) (.ret))) := by kernel_rfl
theorem p133_0_0 : pj (regOf Try.f133 0) 0 = some (some 4, .assign (.const (.bool false)), 4, none) := by kernel_rfl
theorem p133_1_0 : pj (regOf Try.f133 1) 0 = some (some 5, .move (.tmp 0), 36, none) := by kernel_rfl
theorem p133_1_1 : pj (regOf Try.f133 1) 1 = some (some 6, .convert 36 9 (.tmp 5), 9, none) := by kernel_rfl
theorem p133_1_2 : pj (regOf Try.f133 1) 2 = some (some 7, .move (.tmp 1), 36, none) := by kernel_rfl
theorem p133_1_3 : pj (regOf Try.f133 1) 3 = some (some 8, .convert 36 9 (.tmp 7), 9, none) := by kernel_rfl
theorem p133_1_4 : pj (regOf Try.f133 1) 4 = some (some 9, .binOp .eql 9 (.tmp 6) (.tmp 8) 9, 4, none) := by kernel_rfl
theorem p133_1_5 : pj (regOf Try.f133 1) 5 = some (some 4, .assign (.tmp 9), 4, none) := by kernel_rfl
set_option maxHeartbeats 4000000 in
theorem equalb (A B : Option Addr) (c cb : Nat) (l l' : List Int) (b : Bool) (hb : decide (l = l') = b) (hr : ∀ x ∈ l, 0 ≤ x ∧ x ≤ 255) (hr' : ∀ x ∈ l', 0 ≤ x ∧ x ≤ 255) (w : World) (hF : ∀ W', Kp w W' (fun _ => False) → Kd.C (Kd.int .u8) W' A l.length l) (hG : ∀ W', Kp w W' (fun _ => False) → Kd.C (Kd.int .u8) W' B l'.length l') : Calls Try.prog 133 #[.slice A l.length c, .slice B l'.length cb] w fun e w' => e = .returned (.bool b) ∧ Kp w w' (fun _ => False) := by
  have K_0 := Kp.refl w (fun _ => False)
  refine enter (args := [Value.slice A l.length c, Value.slice B l'.length cb]) (n := 10) Try.func133 body133 rfl rfl rfl ?_
  intro a hE
  refine c_reg R133_0_l ?_
  refine q0 p133_0_0 hE (st_assign rfl) ?_
  clear hE a; intro a hE
  refine p_nil ?_
  refine x_norm ?_
  refine c_reg R133_1_l ?_
  refine q0 p133_1_0 hE (st_move rfl) ?_
  clear hE a; intro a hE
  refine q0 p133_1_1 hE (st_b2s Try.underlying36 Try.underlying5 Try.underlying9 rfl (hF _ K_0)) ?_
  clear hE a; intro a hE
  refine q0 p133_1_2 hE (st_move rfl) ?_
  clear hE a; intro a hE
  refine q0 p133_1_3 hE (st_b2s Try.underlying36 Try.underlying5 Try.underlying9 rfl (hG _ K_0)) ?_
  clear hE a; intro a hE
  refine q0 p133_1_4 hE (st_eqlS (b := b) rfl rfl ((str_eq hr hr').trans hb)) ?_
  clear hE a; intro a hE
  refine q0 p133_1_5 hE (st_assign rfl) ?_
  clear hE a; intro a hE
  refine p_nil ?_
  refine x_norm ?_
  refine wp_ret ?_
  refine ret_one (v := Value.bool b) rfl hE (.tmp rfl .nil) ?_
  exact ⟨rfl, K_0⟩
theorem R87_0_l : List.range (regOf Try.f87 0).size = [0, 1] := by kernel_rfl
theorem R87_1_l : List.range (regOf Try.f87 1).size = [0, 1, 2, 3, 4, 5, 6, 7, 8, 9] := by kernel_rfl
theorem R87_2_l : List.range (regOf Try.f87 2).size = [0, 1] := by kernel_rfl
theorem body87 : Try.f87.body = some (.seq (.region 0 (regOf Try.f87 0) false) (.seq (.region 1 (regOf Try.f87 1) true) (.seq (.region 2 (regOf Try.f87 2) false) (.ret)))) := by kernel_rfl
theorem p87_0_0 : pj (regOf Try.f87 0) 0 = some (some 1, .box 64 (.tmp 0), 0, none) := by kernel_rfl
theorem p87_0_1 : pj (regOf Try.f87 0) 1 = some (some 2, .alloc 64, 0, none) := by kernel_rfl
theorem tZ64 : (Try.prog.info? 64).bind (·.zero) = some (Value.agg (([Value.int .i64 0, Value.slice none 0 0] ++ b16 (fun _ => 0) ++ [Value.slice none 0 0])).toArray) := by kernel_rfl
theorem ns87_1 : Region.noSelect (regOf Try.f87 1) = true := by kernel_rfl
theorem p87_1_0 : pj (regOf Try.f87 1) 0 = some (some 3, .fieldAddr 64 (.tmp 1) 1, 0, none) := by kernel_rfl
theorem tS62 : (Try.prog.info? 62).map (·.size) = some 1 := by kernel_rfl
theorem p87_1_3 : pj (regOf Try.f87 1) 3 = some (some 6, .fieldAddr 64 (.tmp 1) 3, 0, none) := by kernel_rfl
theorem tS36 : (Try.prog.info? 36).map (·.size) = some 1 := by kernel_rfl
theorem p87_1_1 : pj (regOf Try.f87 1) 1 = some (some 4, .load 62 (.tmp 3), 62, none) := by kernel_rfl
theorem tA62 : (Try.prog.underlying 62).map aggD = some false := by kernel_rfl
theorem p87_1_4 : pj (regOf Try.f87 1) 4 = some (some 7, .load 36 (.tmp 6), 36, none) := by kernel_rfl
theorem tA36 : (Try.prog.underlying 36).map aggD = some false := by kernel_rfl
theorem p87_1_2 : pj (regOf Try.f87 1) 2 = some (some 5, .call { callee := .value (.func 130), args := #[.tmp 4], argTypes := #[62] }, 62, none) := by kernel_rfl
theorem cl130 : callable Try.f130 = true := by kernel_rfl
theorem p87_1_6 : pj (regOf Try.f87 1) 6 = some (some 9, .fieldAddr 64 (.tmp 1) 1, 0, none) := by kernel_rfl
theorem p87_1_5 : pj (regOf Try.f87 1) 5 = some (some 8, .call { callee := .value (.func 131), args := #[.tmp 7], argTypes := #[36] }, 36, none) := by kernel_rfl
theorem cl131 : callable Try.f131 = true := by kernel_rfl
theorem p87_1_7 : pj (regOf Try.f87 1) 7 = some (none, .store 62 (.tmp 9) (.tmp 5), 0, none) := by kernel_rfl
theorem p87_1_8 : pj (regOf Try.f87 1) 8 = some (some 10, .fieldAddr 64 (.tmp 1) 3, 0, none) := by kernel_rfl
theorem p87_1_9 : pj (regOf Try.f87 1) 9 = some (none, .store 36 (.tmp 10) (.tmp 8), 0, none) := by kernel_rfl
theorem p87_2_0 : pj (regOf Try.f87 2) 0 = some (some 11, .load 64 (.tmp 1), 64, none) := by kernel_rfl
theorem tA64 : (Try.prog.underlying 64).map aggD = some true := by kernel_rfl
theorem tS64 : (Try.prog.info? 64).map (·.size) = some 19 := by kernel_rfl
theorem p87_2_1 : pj (regOf Try.f87 2) 1 = some (none, .store 64 (.tmp 2) (.tmp 11), 0, none) := by kernel_rfl
set_option maxHeartbeats 4000000 in
theorem copied_any (kk : Int) (l tx : List Int) (f : Nat → Int) (A T : Option Addr) (q c : Nat) (w : World) (hF : ∀ W', Kp w W' (fun _ => False) → Kd.C (Kd.int .i64) W' A l.length l) (hG : ∀ W', Kp w W' (fun _ => False) → Kd.C (Kd.int .u8) W' T tx.length tx) (hml : l.length ≤ 1000000000000) (hmt : tx.length ≤ 1000000000000) : Calls Try.prog 87 #[Value.agg (([Value.int .i64 kk, Value.slice A l.length q] ++ b16 f ++ [Value.slice T tx.length c])).toArray] w fun e w' => ∃ A' q' T' c', e = .returned (Value.agg (([Value.int .i64 kk, Value.slice A' l.length q'] ++ b16 f ++ [Value.slice T' tx.length c'])).toArray) ∧ l.length ≤ q' ∧ tx.length ≤ c' ∧ (∀ W', Kp w' W' (fun k => k < w.heap.size) → Kd.C (Kd.int .i64) W' A' l.length l) ∧ (∀ W', Kp w' W' (fun k => k < w.heap.size) → Kd.C (Kd.int .u8) W' T' tx.length tx) ∧ Kp w w' (fun _ => False) := by
  have K_0 := Kp.refl w (fun _ => False)
  refine enter (args := [Value.agg (([Value.int .i64 kk, Value.slice A l.length q] ++ b16 f ++ [Value.slice T tx.length c])).toArray]) (n := 12) Try.func87 body87 rfl rfl rfl ?_
  intro a hE
  refine c_reg R87_0_l ?_
  refine p_cons (s_box p87_0_0 hE wn_none rfl rfl ?_)
  clear hE a; intro g1 w2 z3 B_g1 hk a hE
  replace B_g1 : w2.heap[g1]? = some (.cells (([Value.int .i64 kk, Value.slice A l.length q] ++ b16 f ++ [Value.slice T tx.length c])).toArray 64 (0, 0)) := B_g1
  have z_0_g1 := Nat.le_trans K_0.kept.1 z3
  replace K_0 := K_0.then_ hk (fun _ h => h.elim)
  clear hk
  refine p_cons (s_alloc p87_0_1 hE wn_none rfl tZ64 ?_)
  clear hE a; intro g4 w5 z6 B_g4 hk a hE
  replace B_g4 : w5.heap[g4]? = some (.cells (([Value.int .i64 0, Value.slice none 0 0] ++ b16 (fun _ => 0) ++ [Value.slice none 0 0])).toArray 64 (0, 0)) := B_g4
  have n_g1_g4 : g1 ≠ g4 := ne_new B_g1 z6
  have z_0_g4 := Nat.le_trans K_0.kept.1 z6
  replace B_g1 := kp_blk B_g1 hk (fun h => h)
  replace K_0 := K_0.then_ hk (fun _ h => h.elim)
  clear hk
  refine p_nil ?_
  refine x_norm ?_
  refine c_drawMS (S := fun W => W.heap[g4]? = some (.cells (([Value.int .i64 0, Value.slice none 0 0] ++ b16 (fun _ => 0) ++ [Value.slice none 0 0])).toArray 64 (0, 0)) ∧ True) rfl rfl (listed := #[false, false, false, false, false, false, false, false, false, false]) rfl pan_body (fun QQ hQ hend => ?_)
  have dr1_8 : ∀ (A1_2 : Option Addr) (A1_5 : Option Addr) (c1_2 : Nat) (c1_5 : Nat) (W : World) (a : Act), En 12 a [(0, Value.agg (([Value.int .i64 kk, Value.slice A l.length q] ++ b16 f ++ [Value.slice T tx.length c])).toArray), (1, Value.pointer (some ⟨g1, 0, none⟩)), (2, Value.pointer (some ⟨g4, 0, none⟩)), (3, Value.pointer (some ⟨g1, 1, none⟩)), (4, Value.slice A l.length q), (5, Value.slice A1_2 l.length c1_2), (6, Value.pointer (some ⟨g1, 18, none⟩)), (7, Value.slice T tx.length c), (8, Value.slice A1_5 tx.length c1_5), (9, Value.pointer (some ⟨g1, 1, none⟩)), (10, Value.pointer (some ⟨g1, 18, none⟩))] → W.heap[g1]? = some (.cells (([Value.int .i64 kk, Value.slice A1_2 l.length c1_2] ++ b16 f ++ [Value.slice A1_5 tx.length c1_5])).toArray 64 (0, 0)) → W.heap[g4]? = some (.cells (([Value.int .i64 0, Value.slice none 0 0] ++ b16 (fun _ => 0) ++ [Value.slice none 0 0])).toArray 64 (0, 0)) → ¬ OB A1_2 g1 → ¬ OB A1_2 g4 → (∀ k, OB A1_2 k → (fun _ => False) k ∨ w.heap.size ≤ k) → (∀ k, OB A1_2 k → ¬ OB A1_5 k) → ¬ OB A1_5 g1 → ¬ OB A1_5 g4 → (∀ k, OB A1_5 k → (fun _ => False) k ∨ w.heap.size ≤ k) → (∀ k, OB A1_5 k → ¬ OB A1_2 k) → W.ownsRow w.heap.size 3 1 (.slice A1_2 l.length c1_2) l.length (encs (Value.int .i64) l) → W.ownsRow w.heap.size 5 1 (.slice A1_5 tx.length c1_5) tx.length (encs (Value.int .u8) tx) → Kp w W (fun _ => False) → wpAnyH Try.prog .any (regOf Try.f87 1) QQ (fun W => W.heap[g4]? = some (.cells (([Value.int .i64 0, Value.slice none 0 0] ++ b16 (fun _ => 0) ++ [Value.slice none 0 0])).toArray 64 (0, 0)) ∧ True) 0 #[true, true, true, true, true, true, true, true, true, true] a W := by
    intro A1_2 A1_5 c1_2 c1_5 w13 a hE B_g1 B_g4 Nb_q1_2_g1 Nb_q1_2_g4 Z_0_q1_2 NN_q1_2_q1_5 Nb_q1_5_g1 Nb_q1_5_g4 Z_0_q1_5 NN_q1_5_q1_2 O_q1_2 O_q1_5 K_0
    refine d_end (by kernel_rfl) (hend _ _ ?_)
    refine c_reg R87_2_l ?_
    refine q0 p87_2_0 hE (st_loadN (off := 0) (k := 19) (vs := ([Value.int .i64 kk, Value.slice A1_2 l.length c1_2] ++ b16 f ++ [Value.slice A1_5 tx.length c1_5])) tA64 tS64 rfl B_g1 rfl rfl) ?_
    clear hE a; intro a hE
    refine p_cons (s_store (off := 0) (k := 19) (cs' := (([Value.int .i64 kk, Value.slice A1_2 l.length c1_2] ++ b16 f ++ [Value.slice A1_5 tx.length c1_5])).toArray) p87_2_1 hE wn_none tS64 rfl rfl rfl rfl B_g4 (Nat.le_of_ble_eq_true rfl) rfl ?_)
    intro w14 B_g4' hk
    replace B_g1 := kp_blk B_g1 hk n_g1_g4
    replace O_q1_2 := own_keep O_q1_2 hk (fun k hk2 h2 => Nb_q1_2_g4 (by rw [show k = g4 from h2] at hk2; exact hk2))
    replace O_q1_5 := own_keep O_q1_5 hk (fun k hk2 h2 => Nb_q1_5_g4 (by rw [show k = g4 from h2] at hk2; exact hk2))
    replace K_0 := K_0.then_ hk (fun k h => by rw [show k = g4 from h]; exact Or.inr z_0_g4)
    replace B_g4 := B_g4'
    clear hk
    refine p_nil ?_
    refine x_norm ?_
    refine wp_ret ?_
    refine ret_one (v := Value.agg (([Value.int .i64 kk, Value.slice A1_2 l.length c1_2] ++ b16 f ++ [Value.slice A1_5 tx.length c1_5])).toArray) rfl hE (.cellN (us := ([Value.int .i64 kk, Value.slice A1_2 l.length c1_2] ++ b16 f ++ [Value.slice A1_5 tx.length c1_5])) tA64 tS64 rfl B_g4 rfl .nil) ?_
    exact ⟨A1_2, c1_2, A1_5, c1_5, rfl, (own_caps O_q1_2).1, (own_caps O_q1_5).1, fun W' hk => own_told (own_keep O_q1_2 hk (fun k h h2 => by have := (own_ob O_q1_2 h).1; omega)), fun W' hk => own_told (own_keep O_q1_5 hk (fun k h h2 => by have := (own_ob O_q1_5 h).1; omega)), K_0⟩
  have dr1_7 : ∀ (A1_2 : Option Addr) (A1_5 : Option Addr) (c1_2 : Nat) (c1_5 : Nat) (W : World) (a : Act), En 12 a [(0, Value.agg (([Value.int .i64 kk, Value.slice A l.length q] ++ b16 f ++ [Value.slice T tx.length c])).toArray), (1, Value.pointer (some ⟨g1, 0, none⟩)), (2, Value.pointer (some ⟨g4, 0, none⟩)), (3, Value.pointer (some ⟨g1, 1, none⟩)), (4, Value.slice A l.length q), (5, Value.slice A1_2 l.length c1_2), (6, Value.pointer (some ⟨g1, 18, none⟩)), (7, Value.slice T tx.length c), (8, Value.slice A1_5 tx.length c1_5), (9, Value.pointer (some ⟨g1, 1, none⟩)), (10, Value.pointer (some ⟨g1, 18, none⟩))] → W.heap[g1]? = some (.cells (([Value.int .i64 kk, Value.slice A1_2 l.length c1_2] ++ b16 f ++ [Value.slice T tx.length c])).toArray 64 (0, 0)) → W.heap[g4]? = some (.cells (([Value.int .i64 0, Value.slice none 0 0] ++ b16 (fun _ => 0) ++ [Value.slice none 0 0])).toArray 64 (0, 0)) → ¬ OB A1_2 g1 → ¬ OB A1_2 g4 → (∀ k, OB A1_2 k → (fun _ => False) k ∨ w.heap.size ≤ k) → (∀ k, OB A1_2 k → ¬ OB A1_5 k) → ¬ OB A1_5 g1 → ¬ OB A1_5 g4 → (∀ k, OB A1_5 k → (fun _ => False) k ∨ w.heap.size ≤ k) → (∀ k, OB A1_5 k → ¬ OB A1_2 k) → W.ownsRow w.heap.size 3 1 (.slice A1_2 l.length c1_2) l.length (encs (Value.int .i64) l) → W.ownsRow w.heap.size 5 1 (.slice A1_5 tx.length c1_5) tx.length (encs (Value.int .u8) tx) → Kp w W (fun _ => False) → wpAnyH Try.prog .any (regOf Try.f87 1) QQ (fun W => W.heap[g4]? = some (.cells (([Value.int .i64 0, Value.slice none 0 0] ++ b16 (fun _ => 0) ++ [Value.slice none 0 0])).toArray 64 (0, 0)) ∧ True) 1 #[true, true, true, true, true, true, true, true, true, false] a W := by
    intro A1_2 A1_5 c1_2 c1_5 w15 a hE B_g1 B_g4 Nb_q1_2_g1 Nb_q1_2_g4 Z_0_q1_2 NN_q1_2_q1_5 Nb_q1_5_g1 Nb_q1_5_g4 Z_0_q1_5 NN_q1_5_q1_2 O_q1_2 O_q1_5 K_0
    refine d_all (rs := [9]) (by kernel_rfl) rfl ?_
    refine all_cons (d_lit (listed' := #[true, true, true, true, true, true, true, true, true, true]) rfl ?_) ?_
    ·
      refine (s_store (off := 18) (k := 1) (cs' := (([Value.int .i64 kk, Value.slice A1_2 l.length c1_2] ++ b16 f ++ [Value.slice A1_5 tx.length c1_5])).toArray) p87_1_9 hE wn_none tS36 rfl rfl rfl rfl B_g1 (Nat.le_of_ble_eq_true rfl) rfl ?_)
      intro w16 B_g1' hk
      replace B_g4 := kp_blk B_g4 hk (Ne.symm n_g1_g4)
      replace O_q1_2 := own_keep O_q1_2 hk (fun k hk2 h2 => Nb_q1_2_g1 (by rw [show k = g1 from h2] at hk2; exact hk2))
      replace O_q1_5 := own_keep O_q1_5 hk (fun k hk2 h2 => Nb_q1_5_g1 (by rw [show k = g1 from h2] at hk2; exact hk2))
      replace K_0 := K_0.then_ hk (fun k h => by rw [show k = g1 from h]; exact Or.inr z_0_g1)
      replace B_g1 := B_g1'
      clear hk
      refine ⟨⟨B_g4, trivial⟩, ?_⟩
      exact dr1_8 A1_2 A1_5 c1_2 c1_5 _ a (En.sub hE ⟨rfl, rfl, rfl, rfl, rfl, rfl, rfl, rfl, rfl, rfl, rfl, trivial⟩) B_g1 B_g4 Nb_q1_2_g1 Nb_q1_2_g4 Z_0_q1_2 NN_q1_2_q1_5 Nb_q1_5_g1 Nb_q1_5_g4 Z_0_q1_5 NN_q1_5_q1_2 O_q1_2 O_q1_5 K_0
    exact all_nil
  have dr1_6 : ∀ (A1_2 : Option Addr) (A1_5 : Option Addr) (c1_2 : Nat) (c1_5 : Nat) (W : World) (a : Act), En 12 a [(0, Value.agg (([Value.int .i64 kk, Value.slice A l.length q] ++ b16 f ++ [Value.slice T tx.length c])).toArray), (1, Value.pointer (some ⟨g1, 0, none⟩)), (2, Value.pointer (some ⟨g4, 0, none⟩)), (3, Value.pointer (some ⟨g1, 1, none⟩)), (4, Value.slice A l.length q), (5, Value.slice A1_2 l.length c1_2), (6, Value.pointer (some ⟨g1, 18, none⟩)), (7, Value.slice T tx.length c), (8, Value.slice A1_5 tx.length c1_5), (9, Value.pointer (some ⟨g1, 1, none⟩))] → W.heap[g1]? = some (.cells (([Value.int .i64 kk, Value.slice A l.length q] ++ b16 f ++ [Value.slice T tx.length c])).toArray 64 (0, 0)) → W.heap[g4]? = some (.cells (([Value.int .i64 0, Value.slice none 0 0] ++ b16 (fun _ => 0) ++ [Value.slice none 0 0])).toArray 64 (0, 0)) → ¬ OB A1_2 g1 → ¬ OB A1_2 g4 → (∀ k, OB A1_2 k → (fun _ => False) k ∨ w.heap.size ≤ k) → (∀ k, OB A1_2 k → ¬ OB A1_5 k) → ¬ OB A1_5 g1 → ¬ OB A1_5 g4 → (∀ k, OB A1_5 k → (fun _ => False) k ∨ w.heap.size ≤ k) → (∀ k, OB A1_5 k → ¬ OB A1_2 k) → W.ownsRow w.heap.size 3 1 (.slice A1_2 l.length c1_2) l.length (encs (Value.int .i64) l) → W.ownsRow w.heap.size 5 1 (.slice A1_5 tx.length c1_5) tx.length (encs (Value.int .u8) tx) → Kp w W (fun _ => False) → wpAnyH Try.prog .any (regOf Try.f87 1) QQ (fun W => W.heap[g4]? = some (.cells (([Value.int .i64 0, Value.slice none 0 0] ++ b16 (fun _ => 0) ++ [Value.slice none 0 0])).toArray 64 (0, 0)) ∧ True) 3 #[true, true, true, true, true, true, true, false, false, false] a W := by
    intro A1_2 A1_5 c1_2 c1_5 w17 a hE B_g1 B_g4 Nb_q1_2_g1 Nb_q1_2_g4 Z_0_q1_2 NN_q1_2_q1_5 Nb_q1_5_g1 Nb_q1_5_g4 Z_0_q1_5 NN_q1_5_q1_2 O_q1_2 O_q1_5 K_0
    refine d_all (rs := [7]) (by kernel_rfl) rfl ?_
    refine all_cons (d_lit (listed' := #[true, true, true, true, true, true, true, true, false, false]) rfl ?_) ?_
    ·
      refine (s_store (off := 1) (k := 1) (cs' := (([Value.int .i64 kk, Value.slice A1_2 l.length c1_2] ++ b16 f ++ [Value.slice T tx.length c])).toArray) p87_1_7 hE wn_none tS62 rfl rfl rfl rfl B_g1 (Nat.le_of_ble_eq_true rfl) rfl ?_)
      intro w18 B_g1' hk
      replace B_g4 := kp_blk B_g4 hk (Ne.symm n_g1_g4)
      replace O_q1_2 := own_keep O_q1_2 hk (fun k hk2 h2 => Nb_q1_2_g1 (by rw [show k = g1 from h2] at hk2; exact hk2))
      replace O_q1_5 := own_keep O_q1_5 hk (fun k hk2 h2 => Nb_q1_5_g1 (by rw [show k = g1 from h2] at hk2; exact hk2))
      replace K_0 := K_0.then_ hk (fun k h => by rw [show k = g1 from h]; exact Or.inr z_0_g1)
      replace B_g1 := B_g1'
      clear hk
      refine ⟨⟨B_g4, trivial⟩, ?_⟩
      refine d_take (v := Value.pointer (some ⟨g1, 18, none⟩)) p87_1_8 ns87_1 (by kernel_rfl) (by kernel_rfl) (fun c a w h => hQ c a _ _ w h) hE wn_none rfl ⟨B_g4, trivial⟩ (fun W hS => (st_fieldAddr Try.underlying64 rfl tS36 rfl rfl)) (listed' := #[true, true, true, true, true, true, true, true, true, false]) rfl ?_
      clear hE a; intro a hE
      exact dr1_7 A1_2 A1_5 c1_2 c1_5 _ a (En.sub hE ⟨rfl, rfl, rfl, rfl, rfl, rfl, rfl, rfl, rfl, rfl, rfl, trivial⟩) B_g1 B_g4 Nb_q1_2_g1 Nb_q1_2_g4 Z_0_q1_2 NN_q1_2_q1_5 Nb_q1_5_g1 Nb_q1_5_g4 Z_0_q1_5 NN_q1_5_q1_2 O_q1_2 O_q1_5 K_0
    exact all_nil
  have dr1_5 : ∀ (A1_2 : Option Addr) (c1_2 : Nat) (W : World) (a : Act), En 12 a [(0, Value.agg (([Value.int .i64 kk, Value.slice A l.length q] ++ b16 f ++ [Value.slice T tx.length c])).toArray), (1, Value.pointer (some ⟨g1, 0, none⟩)), (2, Value.pointer (some ⟨g4, 0, none⟩)), (3, Value.pointer (some ⟨g1, 1, none⟩)), (4, Value.slice A l.length q), (5, Value.slice A1_2 l.length c1_2), (6, Value.pointer (some ⟨g1, 18, none⟩)), (7, Value.slice T tx.length c), (9, Value.pointer (some ⟨g1, 1, none⟩))] → W.heap[g1]? = some (.cells (([Value.int .i64 kk, Value.slice A l.length q] ++ b16 f ++ [Value.slice T tx.length c])).toArray 64 (0, 0)) → W.heap[g4]? = some (.cells (([Value.int .i64 0, Value.slice none 0 0] ++ b16 (fun _ => 0) ++ [Value.slice none 0 0])).toArray 64 (0, 0)) → ¬ OB A1_2 g1 → ¬ OB A1_2 g4 → (∀ k, OB A1_2 k → (fun _ => False) k ∨ w.heap.size ≤ k) → W.ownsRow w.heap.size 3 1 (.slice A1_2 l.length c1_2) l.length (encs (Value.int .i64) l) → Kp w W (fun _ => False) → wpAnyH Try.prog .any (regOf Try.f87 1) QQ (fun W => W.heap[g4]? = some (.cells (([Value.int .i64 0, Value.slice none 0 0] ++ b16 (fun _ => 0) ++ [Value.slice none 0 0])).toArray 64 (0, 0)) ∧ True) 4 #[true, true, true, true, true, false, true, false, false, false] a W := by
    intro A1_2 c1_2 w19 a hE B_g1 B_g4 Nb_q1_2_g1 Nb_q1_2_g4 Z_0_q1_2 O_q1_2 K_0
    refine d_all (rs := [5]) (by kernel_rfl) rfl ?_
    refine all_cons (d_lit (listed' := #[true, true, true, true, true, true, true, false, false, false]) rfl ?_) ?_
    ·
      have hnb_g1 := blk_lt B_g1
      have hnb_g4 := blk_lt B_g4
      have hnz_0 := K_0.kept.1
      have hno_q1_2 := fun k (h : OB A1_2 k) => (own_ob O_q1_2 h).2
      refine (s_call (xs := [Operand.tmp 7]) (args := [Value.slice T tx.length c]) p87_1_5 hE wn_none rfl rfl Try.func131 cl131 (cloneb T c tx _ (fun W' hk => hG W' (K_0.then_ hk (fun _ h => h.elim))) hmt) ?_)
      rintro e w20 ⟨A1_5, c1_5, rfl, O_q1_5, hk⟩
      replace B_g1 := kp_blk B_g1 hk (fun h => h)
      replace B_g4 := kp_blk B_g4 hk (fun h => h)
      replace O_q1_2 := own_keep O_q1_2 hk (fun _ _ h => h)
      replace K_0 := K_0.then_ hk (fun _ h => h.elim)
      have Nb_q1_5_g1 : ¬ OB A1_5 g1 := fun h => by have := (own_ob O_q1_5 h).1; have := hnb_g1; omega
      have Nb_q1_5_g4 : ¬ OB A1_5 g4 := fun h => by have := (own_ob O_q1_5 h).1; have := hnb_g4; omega
      have Z_0_q1_5 : ∀ k, OB A1_5 k → (fun _ => False) k ∨ w.heap.size ≤ k := fun k h => .inr (by have := (own_ob O_q1_5 h).1; have := hnz_0; omega)
      have NN_q1_5_q1_2 : ∀ k, OB A1_5 k → ¬ OB A1_2 k := fun k h h2 => by have := (own_ob O_q1_5 h).1; have := hno_q1_2 k h2; omega
      have NN_q1_2_q1_5 : ∀ k, OB A1_2 k → ¬ OB A1_5 k := fun k h h2 => NN_q1_5_q1_2 k h2 h
      replace O_q1_5 := own_lower O_q1_5 hnz_0
      refine ⟨_, rfl, ?_⟩
      clear hE a; intro a hE
      refine ⟨⟨B_g4, trivial⟩, ?_⟩
      exact dr1_6 A1_2 A1_5 c1_2 c1_5 _ a (En.sub hE ⟨rfl, rfl, rfl, rfl, rfl, rfl, rfl, rfl, rfl, rfl, trivial⟩) B_g1 B_g4 Nb_q1_2_g1 Nb_q1_2_g4 Z_0_q1_2 NN_q1_2_q1_5 Nb_q1_5_g1 Nb_q1_5_g4 Z_0_q1_5 NN_q1_5_q1_2 O_q1_2 O_q1_5 K_0
    exact all_nil
  have dr1_4 : ∀ (W : World) (a : Act), En 12 a [(0, Value.agg (([Value.int .i64 kk, Value.slice A l.length q] ++ b16 f ++ [Value.slice T tx.length c])).toArray), (1, Value.pointer (some ⟨g1, 0, none⟩)), (2, Value.pointer (some ⟨g4, 0, none⟩)), (3, Value.pointer (some ⟨g1, 1, none⟩)), (4, Value.slice A l.length q), (6, Value.pointer (some ⟨g1, 18, none⟩)), (7, Value.slice T tx.length c)] → W.heap[g1]? = some (.cells (([Value.int .i64 kk, Value.slice A l.length q] ++ b16 f ++ [Value.slice T tx.length c])).toArray 64 (0, 0)) → W.heap[g4]? = some (.cells (([Value.int .i64 0, Value.slice none 0 0] ++ b16 (fun _ => 0) ++ [Value.slice none 0 0])).toArray 64 (0, 0)) → Kp w W (fun _ => False) → wpAnyH Try.prog .any (regOf Try.f87 1) QQ (fun W => W.heap[g4]? = some (.cells (([Value.int .i64 0, Value.slice none 0 0] ++ b16 (fun _ => 0) ++ [Value.slice none 0 0])).toArray 64 (0, 0)) ∧ True) 6 #[true, true, false, true, true, false, false, false, false, false] a W := by
    intro w21 a hE B_g1 B_g4 K_0
    refine d_all (rs := [2]) (by kernel_rfl) rfl ?_
    refine all_cons (d_lit (listed' := #[true, true, true, true, true, false, false, false, false, false]) rfl ?_) ?_
    ·
      have hnb_g1 := blk_lt B_g1
      have hnb_g4 := blk_lt B_g4
      have hnz_0 := K_0.kept.1
      refine (s_call (xs := [Operand.tmp 4]) (args := [Value.slice A l.length q]) p87_1_2 hE wn_none rfl rfl Try.func130 cl130 (clonei A q l _ (fun W' hk => hF W' (K_0.then_ hk (fun _ h => h.elim))) hml) ?_)
      rintro e w22 ⟨A1_2, c1_2, rfl, O_q1_2, hk⟩
      replace B_g1 := kp_blk B_g1 hk (fun h => h)
      replace B_g4 := kp_blk B_g4 hk (fun h => h)
      replace K_0 := K_0.then_ hk (fun _ h => h.elim)
      have Nb_q1_2_g1 : ¬ OB A1_2 g1 := fun h => by have := (own_ob O_q1_2 h).1; have := hnb_g1; omega
      have Nb_q1_2_g4 : ¬ OB A1_2 g4 := fun h => by have := (own_ob O_q1_2 h).1; have := hnb_g4; omega
      have Z_0_q1_2 : ∀ k, OB A1_2 k → (fun _ => False) k ∨ w.heap.size ≤ k := fun k h => .inr (by have := (own_ob O_q1_2 h).1; have := hnz_0; omega)
      replace O_q1_2 := own_lower O_q1_2 hnz_0
      refine ⟨_, rfl, ?_⟩
      clear hE a; intro a hE
      refine ⟨⟨B_g4, trivial⟩, ?_⟩
      refine d_take (v := Value.pointer (some ⟨g1, 1, none⟩)) p87_1_6 ns87_1 (by kernel_rfl) (by kernel_rfl) (fun c a w h => hQ c a _ _ w h) hE wn_none rfl ⟨B_g4, trivial⟩ (fun W hS => (st_fieldAddr Try.underlying64 rfl tS62 rfl rfl)) (listed' := #[true, true, true, true, true, false, true, false, false, false]) rfl ?_
      clear hE a; intro a hE
      exact dr1_5 A1_2 c1_2 _ a (En.sub hE ⟨rfl, rfl, rfl, rfl, rfl, rfl, rfl, rfl, rfl, trivial⟩) B_g1 B_g4 Nb_q1_2_g1 Nb_q1_2_g4 Z_0_q1_2 O_q1_2 K_0
    exact all_nil
  have dr1_3 : ∀ (A1_2 : Option Addr) (c1_2 : Nat) (W : World) (a : Act), En 12 a [(0, Value.agg (([Value.int .i64 kk, Value.slice A l.length q] ++ b16 f ++ [Value.slice T tx.length c])).toArray), (1, Value.pointer (some ⟨g1, 0, none⟩)), (2, Value.pointer (some ⟨g4, 0, none⟩)), (3, Value.pointer (some ⟨g1, 1, none⟩)), (4, Value.slice A l.length q), (5, Value.slice A1_2 l.length c1_2), (6, Value.pointer (some ⟨g1, 18, none⟩))] → W.heap[g1]? = some (.cells (([Value.int .i64 kk, Value.slice A l.length q] ++ b16 f ++ [Value.slice T tx.length c])).toArray 64 (0, 0)) → W.heap[g4]? = some (.cells (([Value.int .i64 0, Value.slice none 0 0] ++ b16 (fun _ => 0) ++ [Value.slice none 0 0])).toArray 64 (0, 0)) → ¬ OB A1_2 g1 → ¬ OB A1_2 g4 → (∀ k, OB A1_2 k → (fun _ => False) k ∨ w.heap.size ≤ k) → W.ownsRow w.heap.size 3 1 (.slice A1_2 l.length c1_2) l.length (encs (Value.int .i64) l) → Kp w W (fun _ => False) → wpAnyH Try.prog .any (regOf Try.f87 1) QQ (fun W => W.heap[g4]? = some (.cells (([Value.int .i64 0, Value.slice none 0 0] ++ b16 (fun _ => 0) ++ [Value.slice none 0 0])).toArray 64 (0, 0)) ∧ True) 6 #[true, true, true, true, false, false, false, false, false, false] a W := by
    intro A1_2 c1_2 w23 a hE B_g1 B_g4 Nb_q1_2_g1 Nb_q1_2_g4 Z_0_q1_2 O_q1_2 K_0
    refine d_all (rs := [4]) (by kernel_rfl) rfl ?_
    refine all_cons (d_lit (listed' := #[true, true, true, true, true, false, false, false, false, false]) rfl ?_) ?_
    ·
      refine (s_still p87_1_4 hE wn_none rfl (st_load1 tA36 rfl ((blk_cell B_g1 18).trans rfl)) ?_)
      clear hE a; intro a hE
      refine ⟨⟨B_g4, trivial⟩, ?_⟩
      refine d_take (v := Value.pointer (some ⟨g1, 1, none⟩)) p87_1_6 ns87_1 (by kernel_rfl) (by kernel_rfl) (fun c a w h => hQ c a _ _ w h) hE wn_none rfl ⟨B_g4, trivial⟩ (fun W hS => (st_fieldAddr Try.underlying64 rfl tS62 rfl rfl)) (listed' := #[true, true, true, true, true, false, true, false, false, false]) rfl ?_
      clear hE a; intro a hE
      exact dr1_5 A1_2 c1_2 _ a (En.sub hE ⟨rfl, rfl, rfl, rfl, rfl, rfl, rfl, rfl, rfl, trivial⟩) B_g1 B_g4 Nb_q1_2_g1 Nb_q1_2_g4 Z_0_q1_2 O_q1_2 K_0
    exact all_nil
  have dr1_2 : ∀ (W : World) (a : Act), En 12 a [(0, Value.agg (([Value.int .i64 kk, Value.slice A l.length q] ++ b16 f ++ [Value.slice T tx.length c])).toArray), (1, Value.pointer (some ⟨g1, 0, none⟩)), (2, Value.pointer (some ⟨g4, 0, none⟩)), (3, Value.pointer (some ⟨g1, 1, none⟩)), (4, Value.slice A l.length q), (6, Value.pointer (some ⟨g1, 18, none⟩))] → W.heap[g1]? = some (.cells (([Value.int .i64 kk, Value.slice A l.length q] ++ b16 f ++ [Value.slice T tx.length c])).toArray 64 (0, 0)) → W.heap[g4]? = some (.cells (([Value.int .i64 0, Value.slice none 0 0] ++ b16 (fun _ => 0) ++ [Value.slice none 0 0])).toArray 64 (0, 0)) → Kp w W (fun _ => False) → wpAnyH Try.prog .any (regOf Try.f87 1) QQ (fun W => W.heap[g4]? = some (.cells (([Value.int .i64 0, Value.slice none 0 0] ++ b16 (fun _ => 0) ++ [Value.slice none 0 0])).toArray 64 (0, 0)) ∧ True) 7 #[true, true, false, true, false, false, false, false, false, false] a W := by
    intro w24 a hE B_g1 B_g4 K_0
    refine d_all (rs := [2, 4]) (by kernel_rfl) rfl ?_
    refine all_cons (d_lit (listed' := #[true, true, true, true, false, false, false, false, false, false]) rfl ?_) ?_
    ·
      have hnb_g1 := blk_lt B_g1
      have hnb_g4 := blk_lt B_g4
      have hnz_0 := K_0.kept.1
      refine (s_call (xs := [Operand.tmp 4]) (args := [Value.slice A l.length q]) p87_1_2 hE wn_none rfl rfl Try.func130 cl130 (clonei A q l _ (fun W' hk => hF W' (K_0.then_ hk (fun _ h => h.elim))) hml) ?_)
      rintro e w25 ⟨A1_2, c1_2, rfl, O_q1_2, hk⟩
      replace B_g1 := kp_blk B_g1 hk (fun h => h)
      replace B_g4 := kp_blk B_g4 hk (fun h => h)
      replace K_0 := K_0.then_ hk (fun _ h => h.elim)
      have Nb_q1_2_g1 : ¬ OB A1_2 g1 := fun h => by have := (own_ob O_q1_2 h).1; have := hnb_g1; omega
      have Nb_q1_2_g4 : ¬ OB A1_2 g4 := fun h => by have := (own_ob O_q1_2 h).1; have := hnb_g4; omega
      have Z_0_q1_2 : ∀ k, OB A1_2 k → (fun _ => False) k ∨ w.heap.size ≤ k := fun k h => .inr (by have := (own_ob O_q1_2 h).1; have := hnz_0; omega)
      replace O_q1_2 := own_lower O_q1_2 hnz_0
      refine ⟨_, rfl, ?_⟩
      clear hE a; intro a hE
      refine ⟨⟨B_g4, trivial⟩, ?_⟩
      exact dr1_3 A1_2 c1_2 _ a (En.sub hE ⟨rfl, rfl, rfl, rfl, rfl, rfl, rfl, trivial⟩) B_g1 B_g4 Nb_q1_2_g1 Nb_q1_2_g4 Z_0_q1_2 O_q1_2 K_0
    refine all_cons (d_lit (listed' := #[true, true, false, true, true, false, false, false, false, false]) rfl ?_) ?_
    ·
      refine (s_still p87_1_4 hE wn_none rfl (st_load1 tA36 rfl ((blk_cell B_g1 18).trans rfl)) ?_)
      clear hE a; intro a hE
      refine ⟨⟨B_g4, trivial⟩, ?_⟩
      exact dr1_4 _ a (En.sub hE ⟨rfl, rfl, rfl, rfl, rfl, rfl, rfl, trivial⟩) B_g1 B_g4 K_0
    exact all_nil
  have dr1_1 : ∀ (W : World) (a : Act), En 12 a [(0, Value.agg (([Value.int .i64 kk, Value.slice A l.length q] ++ b16 f ++ [Value.slice T tx.length c])).toArray), (1, Value.pointer (some ⟨g1, 0, none⟩)), (2, Value.pointer (some ⟨g4, 0, none⟩)), (3, Value.pointer (some ⟨g1, 1, none⟩)), (6, Value.pointer (some ⟨g1, 18, none⟩)), (7, Value.slice T tx.length c)] → W.heap[g1]? = some (.cells (([Value.int .i64 kk, Value.slice A l.length q] ++ b16 f ++ [Value.slice T tx.length c])).toArray 64 (0, 0)) → W.heap[g4]? = some (.cells (([Value.int .i64 0, Value.slice none 0 0] ++ b16 (fun _ => 0) ++ [Value.slice none 0 0])).toArray 64 (0, 0)) → Kp w W (fun _ => False) → wpAnyH Try.prog .any (regOf Try.f87 1) QQ (fun W => W.heap[g4]? = some (.cells (([Value.int .i64 0, Value.slice none 0 0] ++ b16 (fun _ => 0) ++ [Value.slice none 0 0])).toArray 64 (0, 0)) ∧ True) 7 #[true, false, false, true, true, false, false, false, false, false] a W := by
    intro w26 a hE B_g1 B_g4 K_0
    refine d_all (rs := [1]) (by kernel_rfl) rfl ?_
    refine all_cons (d_lit (listed' := #[true, true, false, true, true, false, false, false, false, false]) rfl ?_) ?_
    ·
      refine (s_still p87_1_1 hE wn_none rfl (st_load1 tA62 rfl ((blk_cell B_g1 1).trans rfl)) ?_)
      clear hE a; intro a hE
      refine ⟨⟨B_g4, trivial⟩, ?_⟩
      exact dr1_4 _ a (En.sub hE ⟨rfl, rfl, rfl, rfl, rfl, rfl, rfl, trivial⟩) B_g1 B_g4 K_0
    exact all_nil
  have dr1_0 : ∀ (W : World) (a : Act), En 12 a [(0, Value.agg (([Value.int .i64 kk, Value.slice A l.length q] ++ b16 f ++ [Value.slice T tx.length c])).toArray), (1, Value.pointer (some ⟨g1, 0, none⟩)), (2, Value.pointer (some ⟨g4, 0, none⟩)), (3, Value.pointer (some ⟨g1, 1, none⟩)), (6, Value.pointer (some ⟨g1, 18, none⟩))] → W.heap[g1]? = some (.cells (([Value.int .i64 kk, Value.slice A l.length q] ++ b16 f ++ [Value.slice T tx.length c])).toArray 64 (0, 0)) → W.heap[g4]? = some (.cells (([Value.int .i64 0, Value.slice none 0 0] ++ b16 (fun _ => 0) ++ [Value.slice none 0 0])).toArray 64 (0, 0)) → Kp w W (fun _ => False) → wpAnyH Try.prog .any (regOf Try.f87 1) QQ (fun W => W.heap[g4]? = some (.cells (([Value.int .i64 0, Value.slice none 0 0] ++ b16 (fun _ => 0) ++ [Value.slice none 0 0])).toArray 64 (0, 0)) ∧ True) 8 #[true, false, false, true, false, false, false, false, false, false] a W := by
    intro w27 a hE B_g1 B_g4 K_0
    refine d_all (rs := [1, 4]) (by kernel_rfl) rfl ?_
    refine all_cons (d_lit (listed' := #[true, true, false, true, false, false, false, false, false, false]) rfl ?_) ?_
    ·
      refine (s_still p87_1_1 hE wn_none rfl (st_load1 tA62 rfl ((blk_cell B_g1 1).trans rfl)) ?_)
      clear hE a; intro a hE
      refine ⟨⟨B_g4, trivial⟩, ?_⟩
      exact dr1_2 _ a (En.sub hE ⟨rfl, rfl, rfl, rfl, rfl, rfl, trivial⟩) B_g1 B_g4 K_0
    refine all_cons (d_lit (listed' := #[true, false, false, true, true, false, false, false, false, false]) rfl ?_) ?_
    ·
      refine (s_still p87_1_4 hE wn_none rfl (st_load1 tA36 rfl ((blk_cell B_g1 18).trans rfl)) ?_)
      clear hE a; intro a hE
      refine ⟨⟨B_g4, trivial⟩, ?_⟩
      exact dr1_1 _ a (En.sub hE ⟨rfl, rfl, rfl, rfl, rfl, rfl, trivial⟩) B_g1 B_g4 K_0
    exact all_nil
  intro w7 hh hk
  replace B_g1 := kp_blk B_g1 hk (fun h => h)
  replace B_g4 := kp_blk B_g4 hk (fun h => h)
  replace K_0 := K_0.then_ hk (fun _ h => h.elim)
  clear hh hk
  refine d_take (v := Value.pointer (some ⟨g1, 1, none⟩)) p87_1_0 ns87_1 (by kernel_rfl) (by kernel_rfl) (fun c a w h => hQ c a _ _ w h) hE wn_none rfl ⟨B_g4, trivial⟩ (fun W hS => (st_fieldAddr Try.underlying64 rfl tS62 rfl rfl)) (listed' := #[true, false, false, false, false, false, false, false, false, false]) rfl ?_
  clear hE a; intro a hE
  refine d_take (v := Value.pointer (some ⟨g1, 18, none⟩)) p87_1_3 ns87_1 (by kernel_rfl) (by kernel_rfl) (fun c a w h => hQ c a _ _ w h) hE wn_none rfl ⟨B_g4, trivial⟩ (fun W hS => (st_fieldAddr Try.underlying64 rfl tS36 rfl rfl)) (listed' := #[true, false, false, true, false, false, false, false, false, false]) rfl ?_
  clear hE a; intro a hE
  exact dr1_0 _ a (En.sub hE ⟨rfl, rfl, rfl, rfl, rfl, trivial⟩) B_g1 B_g4 K_0
theorem eqX_ks : flat Try.prog 9 25 = some ([some .u8, some .u8, some .u8, some .u8, some .u8, some .u8, some .u8, some .u8, some .u8, some .u8, some .u8, some .u8, some .u8, some .u8, some .u8, some .u8]) := Eq.trans (flat_arr Try.underlying25 (flat_int Try.underlying5) (by kernel_rfl) rfl (Or.inr rfl)) rfl
theorem eqY_ks : flat Try.prog 9 22 = some ([some .u8, some .u8, some .u8, some .u8, some .u8, some .u8, some .u8, some .u8, some .u8, some .u8, some .u8, some .u8, some .u8, some .u8, some .u8, some .u8]) := Eq.trans (flat_arr Try.underlying22 (flat_int Try.underlying5) (by kernel_rfl) rfl (Or.inr rfl)) rfl
def sameB (kk : Int) (l : List Int) (f : Nat → Int) (tx : List Int) (kk' : Int) (l' : List Int) (f' : Nat → Int) (tx' : List Int) : Bool := decide (kk = kk') && decide (l = l') && eqL (b16 f) (b16 f') && decide (tx = tx')
theorem R89_0_l : List.range (regOf Try.f89 0).size = [0, 1, 2] := by kernel_rfl
theorem R89_1_l : List.range (regOf Try.f89 1).size = [0, 1, 2, 3, 4, 5, 6, 7, 8, 9, 10, 11, 12, 13, 14, 15, 16, 17, 18, 19, 20, 21, 22, 23, 24, 25, 26] := by kernel_rfl
theorem body89 : Try.f89.body = some (.seq (.region 0 (regOf Try.f89 0) false) (.seq (.region 1 (regOf Try.f89 1) false) (.ret))) := by kernel_rfl
theorem p89_0_0 : pj (regOf Try.f89 0) 0 = some (some 2, .box 64 (.tmp 0), 0, none) := by kernel_rfl
theorem p89_0_1 : pj (regOf Try.f89 0) 1 = some (some 3, .box 64 (.tmp 1), 0, none) := by kernel_rfl
theorem p89_0_2 : pj (regOf Try.f89 0) 2 = some (some 4, .assign (.const (.bool false)), 4, none) := by kernel_rfl
theorem p89_1_0 : pj (regOf Try.f89 1) 0 = some (some 5, .fieldAddr 64 (.tmp 2) 0, 0, none) := by kernel_rfl
theorem p89_1_1 : pj (regOf Try.f89 1) 1 = some (some 6, .load 3 (.tmp 5), 3, none) := by kernel_rfl
theorem p89_1_2 : pj (regOf Try.f89 1) 2 = some (some 7, .fieldAddr 64 (.tmp 3) 0, 0, none) := by kernel_rfl
theorem p89_1_3 : pj (regOf Try.f89 1) 3 = some (some 8, .load 3 (.tmp 7), 3, none) := by kernel_rfl
theorem p89_1_4 : pj (regOf Try.f89 1) 4 = some (some 9, .binOp .eql 3 (.tmp 6) (.tmp 8) 3, 4, none) := by kernel_rfl
theorem p89_1_5 : pj (regOf Try.f89 1) 5 = some (some 10, .move (.tmp 9), 4, none) := by kernel_rfl
theorem p89_1_6 : pj (regOf Try.f89 1) 6 = some (some 11, .fieldAddr 64 (.tmp 2) 1, 0, some (5, true)) := by kernel_rfl
theorem g89_1_5 : dstOf (regOf Try.f89 1) 5 = some 10 := by kernel_rfl
theorem p89_1_7 : pj (regOf Try.f89 1) 7 = some (some 12, .load 62 (.tmp 11), 62, some (5, true)) := by kernel_rfl
theorem p89_1_8 : pj (regOf Try.f89 1) 8 = some (some 13, .fieldAddr 64 (.tmp 3) 1, 0, some (5, true)) := by kernel_rfl
theorem p89_1_9 : pj (regOf Try.f89 1) 9 = some (some 14, .load 62 (.tmp 13), 62, some (5, true)) := by kernel_rfl
theorem p89_1_10 : pj (regOf Try.f89 1) 10 = some (some 15, .call { callee := .value (.func 132), args := #[.tmp 12, .tmp 14], argTypes := #[62, 62] }, 4, some (5, true)) := by kernel_rfl
theorem cl132 : callable Try.f132 = true := by kernel_rfl
theorem p89_1_11 : pj (regOf Try.f89 1) 11 = some (some 16, .pick (.tmp 10) (.tmp 15) (.const (.bool false)), 4, none) := by kernel_rfl
theorem p89_1_12 : pj (regOf Try.f89 1) 12 = some (some 17, .move (.tmp 16), 4, none) := by kernel_rfl
theorem p89_1_13 : pj (regOf Try.f89 1) 13 = some (some 18, .fieldAddr 64 (.tmp 2) 2, 0, some (12, true)) := by kernel_rfl
theorem g89_1_12 : dstOf (regOf Try.f89 1) 12 = some 17 := by kernel_rfl
theorem tS25 : (Try.prog.info? 25).map (·.size) = some 16 := by kernel_rfl
theorem p89_1_14 : pj (regOf Try.f89 1) 14 = some (some 19, .load 25 (.tmp 18), 25, some (12, true)) := by kernel_rfl
theorem tA25 : (Try.prog.underlying 25).map aggD = some true := by kernel_rfl
theorem p89_1_15 : pj (regOf Try.f89 1) 15 = some (some 20, .fieldAddr 64 (.tmp 3) 2, 0, some (12, true)) := by kernel_rfl
theorem p89_1_16 : pj (regOf Try.f89 1) 16 = some (some 21, .load 25 (.tmp 20), 25, some (12, true)) := by kernel_rfl
theorem p89_1_17 : pj (regOf Try.f89 1) 17 = some (some 22, .binOp .eql 25 (.tmp 19) (.tmp 21) 25, 4, some (12, true)) := by kernel_rfl
theorem eg25 : Try.prog.eqGuardType Try.prog.depth 25 = false := by kernel_rfl
theorem p89_1_18 : pj (regOf Try.f89 1) 18 = some (some 23, .pick (.tmp 17) (.tmp 22) (.const (.bool false)), 4, none) := by kernel_rfl
theorem p89_1_19 : pj (regOf Try.f89 1) 19 = some (some 24, .move (.tmp 23), 4, none) := by kernel_rfl
theorem p89_1_20 : pj (regOf Try.f89 1) 20 = some (some 25, .fieldAddr 64 (.tmp 2) 3, 0, some (19, true)) := by kernel_rfl
theorem g89_1_19 : dstOf (regOf Try.f89 1) 19 = some 24 := by kernel_rfl
theorem p89_1_21 : pj (regOf Try.f89 1) 21 = some (some 26, .load 36 (.tmp 25), 36, some (19, true)) := by kernel_rfl
theorem p89_1_22 : pj (regOf Try.f89 1) 22 = some (some 27, .fieldAddr 64 (.tmp 3) 3, 0, some (19, true)) := by kernel_rfl
theorem p89_1_23 : pj (regOf Try.f89 1) 23 = some (some 28, .load 36 (.tmp 27), 36, some (19, true)) := by kernel_rfl
theorem p89_1_24 : pj (regOf Try.f89 1) 24 = some (some 29, .call { callee := .value (.func 133), args := #[.tmp 26, .tmp 28], argTypes := #[36, 36] }, 4, some (19, true)) := by kernel_rfl
theorem cl133 : callable Try.f133 = true := by kernel_rfl
theorem p89_1_25 : pj (regOf Try.f89 1) 25 = some (some 30, .pick (.tmp 24) (.tmp 29) (.const (.bool false)), 4, none) := by kernel_rfl
theorem p89_1_26 : pj (regOf Try.f89 1) 26 = some (some 4, .assign (.tmp 30), 4, none) := by kernel_rfl
set_option maxHeartbeats 4000000 in
theorem same_o (kk : Int) (l tx : List Int) (f : Nat → Int) (A T : Option Addr) (q c : Nat) (kk' : Int) (l' tx' : List Int) (f' : Nat → Int) (A' T' : Option Addr) (q' c' : Nat) (b : Bool) (hb : sameB kk l f tx kk' l' f' tx' = b) (hr : ∀ x ∈ tx, 0 ≤ x ∧ x ≤ 255) (hr' : ∀ x ∈ tx', 0 ≤ x ∧ x ≤ 255) (w : World) (hF : ∀ W', Kp w W' (fun _ => False) → Kd.C (Kd.int .i64) W' A l.length l) (hG : ∀ W', Kp w W' (fun _ => False) → Kd.C (Kd.int .u8) W' T tx.length tx) (hF' : ∀ W', Kp w W' (fun _ => False) → Kd.C (Kd.int .i64) W' A' l'.length l') (hG' : ∀ W', Kp w W' (fun _ => False) → Kd.C (Kd.int .u8) W' T' tx'.length tx') (hml : l.length ≤ 1000000000000) (hmt : tx.length ≤ 1000000) (hmc : tx.length ≤ c) (hmc' : tx'.length ≤ c') (hmt' : tx'.length ≤ 1000000) : Calls Try.prog 89 #[Value.agg (([Value.int .i64 kk, Value.slice A l.length q] ++ b16 f ++ [Value.slice T tx.length c])).toArray, Value.agg (([Value.int .i64 kk', Value.slice A' l'.length q'] ++ b16 f' ++ [Value.slice T' tx'.length c'])).toArray] w fun e w' => e = .returned (.bool b) ∧ Kp w w' (fun _ => False) := by
  have K_0 := Kp.refl w (fun _ => False)
  refine enter (args := [Value.agg (([Value.int .i64 kk, Value.slice A l.length q] ++ b16 f ++ [Value.slice T tx.length c])).toArray, Value.agg (([Value.int .i64 kk', Value.slice A' l'.length q'] ++ b16 f' ++ [Value.slice T' tx'.length c'])).toArray]) (n := 31) Try.func89 body89 rfl rfl rfl ?_
  intro a hE
  refine c_reg R89_0_l ?_
  refine p_cons (s_box p89_0_0 hE wn_none rfl rfl ?_)
  clear hE a; intro g1 w2 z3 B_g1 hk a hE
  replace B_g1 : w2.heap[g1]? = some (.cells (([Value.int .i64 kk, Value.slice A l.length q] ++ b16 f ++ [Value.slice T tx.length c])).toArray 64 (0, 0)) := B_g1
  have z_0_g1 := Nat.le_trans K_0.kept.1 z3
  replace K_0 := K_0.then_ hk (fun _ h => h.elim)
  clear hk
  refine p_cons (s_box p89_0_1 hE wn_none rfl rfl ?_)
  clear hE a; intro g4 w5 z6 B_g4 hk a hE
  replace B_g4 : w5.heap[g4]? = some (.cells (([Value.int .i64 kk', Value.slice A' l'.length q'] ++ b16 f' ++ [Value.slice T' tx'.length c'])).toArray 64 (0, 0)) := B_g4
  have n_g1_g4 : g1 ≠ g4 := ne_new B_g1 z6
  have z_0_g4 := Nat.le_trans K_0.kept.1 z6
  replace B_g1 := kp_blk B_g1 hk (fun h => h)
  replace K_0 := K_0.then_ hk (fun _ h => h.elim)
  clear hk
  refine q0 p89_0_2 hE (st_assign rfl) ?_
  clear hE a; intro a hE
  refine p_nil ?_
  refine x_norm ?_
  rcases Decidable.em (kk = kk') with hKK | hKK
  ·
    rcases Decidable.em (l = l') with hLL | hLL
    ·
      rcases Decidable.em (eqL (b16 f) (b16 f') = true) with hAD | hAD
      ·
        rcases Decidable.em (tx = tx') with hTX | hTX
        ·
          refine c_reg R89_1_l ?_
          refine q0 p89_1_0 hE (st_fieldAddr Try.underlying64 rfl tS3 rfl rfl) ?_
          clear hE a; intro a hE
          refine q0 p89_1_1 hE (st_load1 tA3 rfl ((blk_cell B_g1 0).trans rfl)) ?_
          clear hE a; intro a hE
          refine q0 p89_1_2 hE (st_fieldAddr Try.underlying64 rfl tS3 rfl rfl) ?_
          clear hE a; intro a hE
          refine q0 p89_1_3 hE (st_load1 tA3 rfl ((blk_cell B_g4 0).trans rfl)) ?_
          clear hE a; intro a hE
          refine q0 p89_1_4 hE (st_eql (b := true) rfl rfl (decide_eq_true hKK)) ?_
          clear hE a; intro a hE
          refine q0 p89_1_5 hE (st_move rfl) ?_
          clear hE a; intro a hE
          refine p_cons (s_still p89_1_6 hE (wn_some g89_1_5 rfl rfl) rfl (st_fieldAddr Try.underlying64 rfl tS62 rfl rfl) ?_)
          clear hE a; intro a hE
          refine p_cons (s_still p89_1_7 hE (wn_some g89_1_5 rfl rfl) rfl (st_load1 tA62 rfl ((blk_cell B_g1 1).trans rfl)) ?_)
          clear hE a; intro a hE
          refine p_cons (s_still p89_1_8 hE (wn_some g89_1_5 rfl rfl) rfl (st_fieldAddr Try.underlying64 rfl tS62 rfl rfl) ?_)
          clear hE a; intro a hE
          refine p_cons (s_still p89_1_9 hE (wn_some g89_1_5 rfl rfl) rfl (st_load1 tA62 rfl ((blk_cell B_g4 1).trans rfl)) ?_)
          clear hE a; intro a hE
          refine p_cons (s_call (xs := [Operand.tmp 12, Operand.tmp 14]) (args := [Value.slice A l.length q, Value.slice A' l'.length q']) p89_1_10 hE (wn_some g89_1_5 rfl rfl) rfl rfl Try.func132 cl132 (equali A A' q q' l l' true (decide_eq_true hLL) _ (fun W' hk => hF W' (K_0.then_ hk (fun _ h => h.elim))) (fun W' hk => hF' W' (K_0.then_ hk (fun _ h => h.elim))) hml) ?_)
          rintro e w7 ⟨rfl, hk⟩
          replace B_g1 := kp_blk B_g1 hk (fun h => h)
          replace B_g4 := kp_blk B_g4 hk (fun h => h)
          replace K_0 := K_0.then_ hk (fun _ h => h.elim)
          refine ⟨_, rfl, ?_⟩
          clear hE a; intro a hE
          refine q0 p89_1_11 hE (st_pick rfl rfl) ?_
          clear hE a; intro a hE
          refine q0 p89_1_12 hE (st_move rfl) ?_
          clear hE a; intro a hE
          refine p_cons (s_still p89_1_13 hE (wn_some g89_1_12 rfl rfl) rfl (st_fieldAddr Try.underlying64 rfl tS25 rfl rfl) ?_)
          clear hE a; intro a hE
          refine p_cons (s_still p89_1_14 hE (wn_some g89_1_12 rfl rfl) rfl (st_loadN (off := 2) (k := 16) (vs := b16 f) tA25 tS25 rfl B_g1 rfl rfl) ?_)
          clear hE a; intro a hE
          refine p_cons (s_still p89_1_15 hE (wn_some g89_1_12 rfl rfl) rfl (st_fieldAddr Try.underlying64 rfl tS25 rfl rfl) ?_)
          clear hE a; intro a hE
          refine p_cons (s_still p89_1_16 hE (wn_some g89_1_12 rfl rfl) rfl (st_loadN (off := 2) (k := 16) (vs := b16 f') tA25 tS25 rfl B_g4 rfl rfl) ?_)
          clear hE a; intro a hE
          refine p_cons (s_still p89_1_17 hE (wn_some g89_1_12 rfl rfl) rfl (st_eqlA (b := true) eg25 rfl rfl (eqA_flat eqX_ks (by kernel_rfl) rfl rfl hAD)) ?_)
          clear hE a; intro a hE
          refine q0 p89_1_18 hE (st_pick rfl rfl) ?_
          clear hE a; intro a hE
          refine q0 p89_1_19 hE (st_move rfl) ?_
          clear hE a; intro a hE
          refine p_cons (s_still p89_1_20 hE (wn_some g89_1_19 rfl rfl) rfl (st_fieldAddr Try.underlying64 rfl tS36 rfl rfl) ?_)
          clear hE a; intro a hE
          refine p_cons (s_still p89_1_21 hE (wn_some g89_1_19 rfl rfl) rfl (st_load1 tA36 rfl ((blk_cell B_g1 18).trans rfl)) ?_)
          clear hE a; intro a hE
          refine p_cons (s_still p89_1_22 hE (wn_some g89_1_19 rfl rfl) rfl (st_fieldAddr Try.underlying64 rfl tS36 rfl rfl) ?_)
          clear hE a; intro a hE
          refine p_cons (s_still p89_1_23 hE (wn_some g89_1_19 rfl rfl) rfl (st_load1 tA36 rfl ((blk_cell B_g4 18).trans rfl)) ?_)
          clear hE a; intro a hE
          refine p_cons (s_call (xs := [Operand.tmp 26, Operand.tmp 28]) (args := [Value.slice T tx.length c, Value.slice T' tx'.length c']) p89_1_24 hE (wn_some g89_1_19 rfl rfl) rfl rfl Try.func133 cl133 (equalb T T' c c' tx tx' true (decide_eq_true hTX) hr hr' _ (fun W' hk => hG W' (K_0.then_ hk (fun _ h => h.elim))) (fun W' hk => hG' W' (K_0.then_ hk (fun _ h => h.elim)))) ?_)
          rintro e w8 ⟨rfl, hk⟩
          replace B_g1 := kp_blk B_g1 hk (fun h => h)
          replace B_g4 := kp_blk B_g4 hk (fun h => h)
          replace K_0 := K_0.then_ hk (fun _ h => h.elim)
          refine ⟨_, rfl, ?_⟩
          clear hE a; intro a hE
          refine q0 p89_1_25 hE (st_pick rfl rfl) ?_
          clear hE a; intro a hE
          refine q0 p89_1_26 hE (st_assign rfl) ?_
          clear hE a; intro a hE
          refine p_nil ?_
          refine x_norm ?_
          refine wp_ret ?_
          refine ret_one (v := Value.bool true) rfl hE (.tmp rfl .nil) ?_
          exact ⟨by rw [← hb]; unfold sameB; rw [decide_eq_true hKK, decide_eq_true hLL, hAD, decide_eq_true hTX]; rfl, K_0⟩
        ·
          refine c_reg R89_1_l ?_
          refine q0 p89_1_0 hE (st_fieldAddr Try.underlying64 rfl tS3 rfl rfl) ?_
          clear hE a; intro a hE
          refine q0 p89_1_1 hE (st_load1 tA3 rfl ((blk_cell B_g1 0).trans rfl)) ?_
          clear hE a; intro a hE
          refine q0 p89_1_2 hE (st_fieldAddr Try.underlying64 rfl tS3 rfl rfl) ?_
          clear hE a; intro a hE
          refine q0 p89_1_3 hE (st_load1 tA3 rfl ((blk_cell B_g4 0).trans rfl)) ?_
          clear hE a; intro a hE
          refine q0 p89_1_4 hE (st_eql (b := true) rfl rfl (decide_eq_true hKK)) ?_
          clear hE a; intro a hE
          refine q0 p89_1_5 hE (st_move rfl) ?_
          clear hE a; intro a hE
          refine p_cons (s_still p89_1_6 hE (wn_some g89_1_5 rfl rfl) rfl (st_fieldAddr Try.underlying64 rfl tS62 rfl rfl) ?_)
          clear hE a; intro a hE
          refine p_cons (s_still p89_1_7 hE (wn_some g89_1_5 rfl rfl) rfl (st_load1 tA62 rfl ((blk_cell B_g1 1).trans rfl)) ?_)
          clear hE a; intro a hE
          refine p_cons (s_still p89_1_8 hE (wn_some g89_1_5 rfl rfl) rfl (st_fieldAddr Try.underlying64 rfl tS62 rfl rfl) ?_)
          clear hE a; intro a hE
          refine p_cons (s_still p89_1_9 hE (wn_some g89_1_5 rfl rfl) rfl (st_load1 tA62 rfl ((blk_cell B_g4 1).trans rfl)) ?_)
          clear hE a; intro a hE
          refine p_cons (s_call (xs := [Operand.tmp 12, Operand.tmp 14]) (args := [Value.slice A l.length q, Value.slice A' l'.length q']) p89_1_10 hE (wn_some g89_1_5 rfl rfl) rfl rfl Try.func132 cl132 (equali A A' q q' l l' true (decide_eq_true hLL) _ (fun W' hk => hF W' (K_0.then_ hk (fun _ h => h.elim))) (fun W' hk => hF' W' (K_0.then_ hk (fun _ h => h.elim))) hml) ?_)
          rintro e w9 ⟨rfl, hk⟩
          replace B_g1 := kp_blk B_g1 hk (fun h => h)
          replace B_g4 := kp_blk B_g4 hk (fun h => h)
          replace K_0 := K_0.then_ hk (fun _ h => h.elim)
          refine ⟨_, rfl, ?_⟩
          clear hE a; intro a hE
          refine q0 p89_1_11 hE (st_pick rfl rfl) ?_
          clear hE a; intro a hE
          refine q0 p89_1_12 hE (st_move rfl) ?_
          clear hE a; intro a hE
          refine p_cons (s_still p89_1_13 hE (wn_some g89_1_12 rfl rfl) rfl (st_fieldAddr Try.underlying64 rfl tS25 rfl rfl) ?_)
          clear hE a; intro a hE
          refine p_cons (s_still p89_1_14 hE (wn_some g89_1_12 rfl rfl) rfl (st_loadN (off := 2) (k := 16) (vs := b16 f) tA25 tS25 rfl B_g1 rfl rfl) ?_)
          clear hE a; intro a hE
          refine p_cons (s_still p89_1_15 hE (wn_some g89_1_12 rfl rfl) rfl (st_fieldAddr Try.underlying64 rfl tS25 rfl rfl) ?_)
          clear hE a; intro a hE
          refine p_cons (s_still p89_1_16 hE (wn_some g89_1_12 rfl rfl) rfl (st_loadN (off := 2) (k := 16) (vs := b16 f') tA25 tS25 rfl B_g4 rfl rfl) ?_)
          clear hE a; intro a hE
          refine p_cons (s_still p89_1_17 hE (wn_some g89_1_12 rfl rfl) rfl (st_eqlA (b := true) eg25 rfl rfl (eqA_flat eqX_ks (by kernel_rfl) rfl rfl hAD)) ?_)
          clear hE a; intro a hE
          refine q0 p89_1_18 hE (st_pick rfl rfl) ?_
          clear hE a; intro a hE
          refine q0 p89_1_19 hE (st_move rfl) ?_
          clear hE a; intro a hE
          refine p_cons (s_still p89_1_20 hE (wn_some g89_1_19 rfl rfl) rfl (st_fieldAddr Try.underlying64 rfl tS36 rfl rfl) ?_)
          clear hE a; intro a hE
          refine p_cons (s_still p89_1_21 hE (wn_some g89_1_19 rfl rfl) rfl (st_load1 tA36 rfl ((blk_cell B_g1 18).trans rfl)) ?_)
          clear hE a; intro a hE
          refine p_cons (s_still p89_1_22 hE (wn_some g89_1_19 rfl rfl) rfl (st_fieldAddr Try.underlying64 rfl tS36 rfl rfl) ?_)
          clear hE a; intro a hE
          refine p_cons (s_still p89_1_23 hE (wn_some g89_1_19 rfl rfl) rfl (st_load1 tA36 rfl ((blk_cell B_g4 18).trans rfl)) ?_)
          clear hE a; intro a hE
          refine p_cons (s_call (xs := [Operand.tmp 26, Operand.tmp 28]) (args := [Value.slice T tx.length c, Value.slice T' tx'.length c']) p89_1_24 hE (wn_some g89_1_19 rfl rfl) rfl rfl Try.func133 cl133 (equalb T T' c c' tx tx' false (decide_eq_false hTX) hr hr' _ (fun W' hk => hG W' (K_0.then_ hk (fun _ h => h.elim))) (fun W' hk => hG' W' (K_0.then_ hk (fun _ h => h.elim)))) ?_)
          rintro e w10 ⟨rfl, hk⟩
          replace B_g1 := kp_blk B_g1 hk (fun h => h)
          replace B_g4 := kp_blk B_g4 hk (fun h => h)
          replace K_0 := K_0.then_ hk (fun _ h => h.elim)
          refine ⟨_, rfl, ?_⟩
          clear hE a; intro a hE
          refine q0 p89_1_25 hE (st_pick rfl rfl) ?_
          clear hE a; intro a hE
          refine q0 p89_1_26 hE (st_assign rfl) ?_
          clear hE a; intro a hE
          refine p_nil ?_
          refine x_norm ?_
          refine wp_ret ?_
          refine ret_one (v := Value.bool false) rfl hE (.tmp rfl .nil) ?_
          exact ⟨by rw [← hb]; unfold sameB; rw [decide_eq_true hKK, decide_eq_true hLL, hAD, decide_eq_false hTX]; rfl, K_0⟩
      ·
        refine c_reg R89_1_l ?_
        refine q0 p89_1_0 hE (st_fieldAddr Try.underlying64 rfl tS3 rfl rfl) ?_
        clear hE a; intro a hE
        refine q0 p89_1_1 hE (st_load1 tA3 rfl ((blk_cell B_g1 0).trans rfl)) ?_
        clear hE a; intro a hE
        refine q0 p89_1_2 hE (st_fieldAddr Try.underlying64 rfl tS3 rfl rfl) ?_
        clear hE a; intro a hE
        refine q0 p89_1_3 hE (st_load1 tA3 rfl ((blk_cell B_g4 0).trans rfl)) ?_
        clear hE a; intro a hE
        refine q0 p89_1_4 hE (st_eql (b := true) rfl rfl (decide_eq_true hKK)) ?_
        clear hE a; intro a hE
        refine q0 p89_1_5 hE (st_move rfl) ?_
        clear hE a; intro a hE
        refine p_cons (s_still p89_1_6 hE (wn_some g89_1_5 rfl rfl) rfl (st_fieldAddr Try.underlying64 rfl tS62 rfl rfl) ?_)
        clear hE a; intro a hE
        refine p_cons (s_still p89_1_7 hE (wn_some g89_1_5 rfl rfl) rfl (st_load1 tA62 rfl ((blk_cell B_g1 1).trans rfl)) ?_)
        clear hE a; intro a hE
        refine p_cons (s_still p89_1_8 hE (wn_some g89_1_5 rfl rfl) rfl (st_fieldAddr Try.underlying64 rfl tS62 rfl rfl) ?_)
        clear hE a; intro a hE
        refine p_cons (s_still p89_1_9 hE (wn_some g89_1_5 rfl rfl) rfl (st_load1 tA62 rfl ((blk_cell B_g4 1).trans rfl)) ?_)
        clear hE a; intro a hE
        refine p_cons (s_call (xs := [Operand.tmp 12, Operand.tmp 14]) (args := [Value.slice A l.length q, Value.slice A' l'.length q']) p89_1_10 hE (wn_some g89_1_5 rfl rfl) rfl rfl Try.func132 cl132 (equali A A' q q' l l' true (decide_eq_true hLL) _ (fun W' hk => hF W' (K_0.then_ hk (fun _ h => h.elim))) (fun W' hk => hF' W' (K_0.then_ hk (fun _ h => h.elim))) hml) ?_)
        rintro e w11 ⟨rfl, hk⟩
        replace B_g1 := kp_blk B_g1 hk (fun h => h)
        replace B_g4 := kp_blk B_g4 hk (fun h => h)
        replace K_0 := K_0.then_ hk (fun _ h => h.elim)
        refine ⟨_, rfl, ?_⟩
        clear hE a; intro a hE
        refine q0 p89_1_11 hE (st_pick rfl rfl) ?_
        clear hE a; intro a hE
        refine q0 p89_1_12 hE (st_move rfl) ?_
        clear hE a; intro a hE
        refine p_cons (s_still p89_1_13 hE (wn_some g89_1_12 rfl rfl) rfl (st_fieldAddr Try.underlying64 rfl tS25 rfl rfl) ?_)
        clear hE a; intro a hE
        refine p_cons (s_still p89_1_14 hE (wn_some g89_1_12 rfl rfl) rfl (st_loadN (off := 2) (k := 16) (vs := b16 f) tA25 tS25 rfl B_g1 rfl rfl) ?_)
        clear hE a; intro a hE
        refine p_cons (s_still p89_1_15 hE (wn_some g89_1_12 rfl rfl) rfl (st_fieldAddr Try.underlying64 rfl tS25 rfl rfl) ?_)
        clear hE a; intro a hE
        refine p_cons (s_still p89_1_16 hE (wn_some g89_1_12 rfl rfl) rfl (st_loadN (off := 2) (k := 16) (vs := b16 f') tA25 tS25 rfl B_g4 rfl rfl) ?_)
        clear hE a; intro a hE
        refine p_cons (s_still p89_1_17 hE (wn_some g89_1_12 rfl rfl) rfl (st_eqlA (b := false) eg25 rfl rfl (eqA_flat eqX_ks (by kernel_rfl) rfl rfl (by simpa using hAD))) ?_)
        clear hE a; intro a hE
        refine q0 p89_1_18 hE (st_pick rfl rfl) ?_
        clear hE a; intro a hE
        refine q0 p89_1_19 hE (st_move rfl) ?_
        clear hE a; intro a hE
        refine p_cons (s_skip p89_1_20 hE (wn_some g89_1_19 rfl rfl) rfl ?_)
        clear hE a; intro a hE
        refine p_cons (s_skip p89_1_21 hE (wn_some g89_1_19 rfl rfl) rfl ?_)
        clear hE a; intro a hE
        refine p_cons (s_skip p89_1_22 hE (wn_some g89_1_19 rfl rfl) rfl ?_)
        clear hE a; intro a hE
        refine p_cons (s_skip p89_1_23 hE (wn_some g89_1_19 rfl rfl) rfl ?_)
        clear hE a; intro a hE
        refine p_cons (s_skip p89_1_24 hE (wn_some g89_1_19 rfl rfl) rfl ?_)
        clear hE a; intro a hE
        refine q0 p89_1_25 hE (st_pick rfl rfl) ?_
        clear hE a; intro a hE
        refine q0 p89_1_26 hE (st_assign rfl) ?_
        clear hE a; intro a hE
        refine p_nil ?_
        refine x_norm ?_
        refine wp_ret ?_
        refine ret_one (v := Value.bool false) rfl hE (.tmp rfl .nil) ?_
        exact ⟨by rw [← hb]; unfold sameB; rw [show eqL (b16 f) (b16 f') = false by simpa using hAD]; simp, K_0⟩
    ·
      refine c_reg R89_1_l ?_
      refine q0 p89_1_0 hE (st_fieldAddr Try.underlying64 rfl tS3 rfl rfl) ?_
      clear hE a; intro a hE
      refine q0 p89_1_1 hE (st_load1 tA3 rfl ((blk_cell B_g1 0).trans rfl)) ?_
      clear hE a; intro a hE
      refine q0 p89_1_2 hE (st_fieldAddr Try.underlying64 rfl tS3 rfl rfl) ?_
      clear hE a; intro a hE
      refine q0 p89_1_3 hE (st_load1 tA3 rfl ((blk_cell B_g4 0).trans rfl)) ?_
      clear hE a; intro a hE
      refine q0 p89_1_4 hE (st_eql (b := true) rfl rfl (decide_eq_true hKK)) ?_
      clear hE a; intro a hE
      refine q0 p89_1_5 hE (st_move rfl) ?_
      clear hE a; intro a hE
      refine p_cons (s_still p89_1_6 hE (wn_some g89_1_5 rfl rfl) rfl (st_fieldAddr Try.underlying64 rfl tS62 rfl rfl) ?_)
      clear hE a; intro a hE
      refine p_cons (s_still p89_1_7 hE (wn_some g89_1_5 rfl rfl) rfl (st_load1 tA62 rfl ((blk_cell B_g1 1).trans rfl)) ?_)
      clear hE a; intro a hE
      refine p_cons (s_still p89_1_8 hE (wn_some g89_1_5 rfl rfl) rfl (st_fieldAddr Try.underlying64 rfl tS62 rfl rfl) ?_)
      clear hE a; intro a hE
      refine p_cons (s_still p89_1_9 hE (wn_some g89_1_5 rfl rfl) rfl (st_load1 tA62 rfl ((blk_cell B_g4 1).trans rfl)) ?_)
      clear hE a; intro a hE
      refine p_cons (s_call (xs := [Operand.tmp 12, Operand.tmp 14]) (args := [Value.slice A l.length q, Value.slice A' l'.length q']) p89_1_10 hE (wn_some g89_1_5 rfl rfl) rfl rfl Try.func132 cl132 (equali A A' q q' l l' false (decide_eq_false hLL) _ (fun W' hk => hF W' (K_0.then_ hk (fun _ h => h.elim))) (fun W' hk => hF' W' (K_0.then_ hk (fun _ h => h.elim))) hml) ?_)
      rintro e w12 ⟨rfl, hk⟩
      replace B_g1 := kp_blk B_g1 hk (fun h => h)
      replace B_g4 := kp_blk B_g4 hk (fun h => h)
      replace K_0 := K_0.then_ hk (fun _ h => h.elim)
      refine ⟨_, rfl, ?_⟩
      clear hE a; intro a hE
      refine q0 p89_1_11 hE (st_pick rfl rfl) ?_
      clear hE a; intro a hE
      refine q0 p89_1_12 hE (st_move rfl) ?_
      clear hE a; intro a hE
      refine p_cons (s_skip p89_1_13 hE (wn_some g89_1_12 rfl rfl) rfl ?_)
      clear hE a; intro a hE
      refine p_cons (s_skip p89_1_14 hE (wn_some g89_1_12 rfl rfl) rfl ?_)
      clear hE a; intro a hE
      refine p_cons (s_skip p89_1_15 hE (wn_some g89_1_12 rfl rfl) rfl ?_)
      clear hE a; intro a hE
      refine p_cons (s_skip p89_1_16 hE (wn_some g89_1_12 rfl rfl) rfl ?_)
      clear hE a; intro a hE
      refine p_cons (s_skip p89_1_17 hE (wn_some g89_1_12 rfl rfl) rfl ?_)
      clear hE a; intro a hE
      refine q0 p89_1_18 hE (st_pick rfl rfl) ?_
      clear hE a; intro a hE
      refine q0 p89_1_19 hE (st_move rfl) ?_
      clear hE a; intro a hE
      refine p_cons (s_skip p89_1_20 hE (wn_some g89_1_19 rfl rfl) rfl ?_)
      clear hE a; intro a hE
      refine p_cons (s_skip p89_1_21 hE (wn_some g89_1_19 rfl rfl) rfl ?_)
      clear hE a; intro a hE
      refine p_cons (s_skip p89_1_22 hE (wn_some g89_1_19 rfl rfl) rfl ?_)
      clear hE a; intro a hE
      refine p_cons (s_skip p89_1_23 hE (wn_some g89_1_19 rfl rfl) rfl ?_)
      clear hE a; intro a hE
      refine p_cons (s_skip p89_1_24 hE (wn_some g89_1_19 rfl rfl) rfl ?_)
      clear hE a; intro a hE
      refine q0 p89_1_25 hE (st_pick rfl rfl) ?_
      clear hE a; intro a hE
      refine q0 p89_1_26 hE (st_assign rfl) ?_
      clear hE a; intro a hE
      refine p_nil ?_
      refine x_norm ?_
      refine wp_ret ?_
      refine ret_one (v := Value.bool false) rfl hE (.tmp rfl .nil) ?_
      exact ⟨by rw [← hb]; unfold sameB; rw [decide_eq_false hLL]; simp, K_0⟩
  ·
    refine c_reg R89_1_l ?_
    refine q0 p89_1_0 hE (st_fieldAddr Try.underlying64 rfl tS3 rfl rfl) ?_
    clear hE a; intro a hE
    refine q0 p89_1_1 hE (st_load1 tA3 rfl ((blk_cell B_g1 0).trans rfl)) ?_
    clear hE a; intro a hE
    refine q0 p89_1_2 hE (st_fieldAddr Try.underlying64 rfl tS3 rfl rfl) ?_
    clear hE a; intro a hE
    refine q0 p89_1_3 hE (st_load1 tA3 rfl ((blk_cell B_g4 0).trans rfl)) ?_
    clear hE a; intro a hE
    refine q0 p89_1_4 hE (st_eql (b := false) rfl rfl (decide_eq_false hKK)) ?_
    clear hE a; intro a hE
    refine q0 p89_1_5 hE (st_move rfl) ?_
    clear hE a; intro a hE
    refine p_cons (s_skip p89_1_6 hE (wn_some g89_1_5 rfl rfl) rfl ?_)
    clear hE a; intro a hE
    refine p_cons (s_skip p89_1_7 hE (wn_some g89_1_5 rfl rfl) rfl ?_)
    clear hE a; intro a hE
    refine p_cons (s_skip p89_1_8 hE (wn_some g89_1_5 rfl rfl) rfl ?_)
    clear hE a; intro a hE
    refine p_cons (s_skip p89_1_9 hE (wn_some g89_1_5 rfl rfl) rfl ?_)
    clear hE a; intro a hE
    refine p_cons (s_skip p89_1_10 hE (wn_some g89_1_5 rfl rfl) rfl ?_)
    clear hE a; intro a hE
    refine q0 p89_1_11 hE (st_pick rfl rfl) ?_
    clear hE a; intro a hE
    refine q0 p89_1_12 hE (st_move rfl) ?_
    clear hE a; intro a hE
    refine p_cons (s_skip p89_1_13 hE (wn_some g89_1_12 rfl rfl) rfl ?_)
    clear hE a; intro a hE
    refine p_cons (s_skip p89_1_14 hE (wn_some g89_1_12 rfl rfl) rfl ?_)
    clear hE a; intro a hE
    refine p_cons (s_skip p89_1_15 hE (wn_some g89_1_12 rfl rfl) rfl ?_)
    clear hE a; intro a hE
    refine p_cons (s_skip p89_1_16 hE (wn_some g89_1_12 rfl rfl) rfl ?_)
    clear hE a; intro a hE
    refine p_cons (s_skip p89_1_17 hE (wn_some g89_1_12 rfl rfl) rfl ?_)
    clear hE a; intro a hE
    refine q0 p89_1_18 hE (st_pick rfl rfl) ?_
    clear hE a; intro a hE
    refine q0 p89_1_19 hE (st_move rfl) ?_
    clear hE a; intro a hE
    refine p_cons (s_skip p89_1_20 hE (wn_some g89_1_19 rfl rfl) rfl ?_)
    clear hE a; intro a hE
    refine p_cons (s_skip p89_1_21 hE (wn_some g89_1_19 rfl rfl) rfl ?_)
    clear hE a; intro a hE
    refine p_cons (s_skip p89_1_22 hE (wn_some g89_1_19 rfl rfl) rfl ?_)
    clear hE a; intro a hE
    refine p_cons (s_skip p89_1_23 hE (wn_some g89_1_19 rfl rfl) rfl ?_)
    clear hE a; intro a hE
    refine p_cons (s_skip p89_1_24 hE (wn_some g89_1_19 rfl rfl) rfl ?_)
    clear hE a; intro a hE
    refine q0 p89_1_25 hE (st_pick rfl rfl) ?_
    clear hE a; intro a hE
    refine q0 p89_1_26 hE (st_assign rfl) ?_
    clear hE a; intro a hE
    refine p_nil ?_
    refine x_norm ?_
    refine wp_ret ?_
    refine ret_one (v := Value.bool false) rfl hE (.tmp rfl .nil) ?_
    exact ⟨by rw [← hb]; unfold sameB; rw [decide_eq_false hKK]; rfl, K_0⟩
theorem R51_0_l : List.range (regOf Try.f51 0).size = [0, 1, 2] := by kernel_rfl
theorem R51_1_l : List.range (regOf Try.f51 1).size = [0, 1, 2, 3, 4, 5, 6, 7, 8, 9, 10, 11, 12, 13, 14, 15, 16, 17, 18, 19, 20] := by kernel_rfl
theorem R51_2_l : List.range (regOf Try.f51 2).size = [0] := by kernel_rfl
theorem R51_3_l : List.range (regOf Try.f51 3).size = [0] := by kernel_rfl
theorem R51_4_l : List.range (regOf Try.f51 4).size = [0, 1, 2, 3, 4] := by kernel_rfl
theorem R51_6_l : List.range (regOf Try.f51 6).size = [0, 1, 2, 3, 4, 5, 6, 7, 8, 9, 10] := by kernel_rfl
theorem R51_7_l : List.range (regOf Try.f51 7).size = [0] := by kernel_rfl
theorem R51_5_l : List.range (regOf Try.f51 5).size = [0, 1, 2] := by kernel_rfl
theorem R51_8_l : List.range (regOf Try.f51 8).size = [0, 1, 2, 3, 4, 5] := by kernel_rfl
theorem body51 : Try.f51.body = some (.seq (.region 0 (regOf Try.f51 0) false) (.seq (.seq (.region 1 (regOf Try.f51 1) false) (.cond (Operand.tmp 26) (.seq (.region 2 (regOf Try.f51 2) false) (.ret)) (.skip))) (.seq (.seq (.region 3 (regOf Try.f51 3) false) (.block 0 (.loop (.seq (.seq (.region 4 (regOf Try.f51 4) false) (.cond (Operand.tmp 31) (.skip) (.exit 0))) (.seq (.block 1 (.seq (.region 6 (regOf Try.f51 6) true) (.cond (Operand.tmp 44) (.seq (.region 7 (regOf Try.f51 7) false) (.ret)) (.skip)))) (.region 5 (regOf Try.f51 5) false)))))) (.seq (.region 8 (regOf Try.f51 8) false) (.ret))))) := by kernel_rfl
theorem p51_0_0 : pj (regOf Try.f51 0) 0 = some (some 2, .box 80 (.tmp 0), 0, none) := by kernel_rfl
theorem p51_0_1 : pj (regOf Try.f51 0) 1 = some (some 3, .box 80 (.tmp 1), 0, none) := by kernel_rfl
theorem p51_0_2 : pj (regOf Try.f51 0) 2 = some (some 4, .assign (.const (.bool false)), 4, none) := by kernel_rfl
theorem p51_1_0 : pj (regOf Try.f51 1) 0 = some (some 6, .fieldAddr 80 (.tmp 2) 0, 0, none) := by kernel_rfl
theorem p51_1_1 : pj (regOf Try.f51 1) 1 = some (some 7, .load 3 (.tmp 6), 3, none) := by kernel_rfl
theorem p51_1_2 : pj (regOf Try.f51 1) 2 = some (some 8, .fieldAddr 80 (.tmp 3) 0, 0, none) := by kernel_rfl
theorem p51_1_3 : pj (regOf Try.f51 1) 3 = some (some 9, .load 3 (.tmp 8), 3, none) := by kernel_rfl
theorem p51_1_4 : pj (regOf Try.f51 1) 4 = some (some 10, .binOp .neq 3 (.tmp 7) (.tmp 9) 3, 4, none) := by kernel_rfl
theorem p51_1_5 : pj (regOf Try.f51 1) 5 = some (some 11, .move (.tmp 10), 4, none) := by kernel_rfl
theorem p51_1_6 : pj (regOf Try.f51 1) 6 = some (some 12, .fieldAddr 80 (.tmp 2) 2, 0, some (5, false)) := by kernel_rfl
theorem g51_1_5 : dstOf (regOf Try.f51 1) 5 = some 11 := by kernel_rfl
theorem tS22 : (Try.prog.info? 22).map (·.size) = some 16 := by kernel_rfl
theorem p51_1_7 : pj (regOf Try.f51 1) 7 = some (some 13, .load 22 (.tmp 12), 22, some (5, false)) := by kernel_rfl
theorem tA22 : (Try.prog.underlying 22).map aggD = some true := by kernel_rfl
theorem p51_1_8 : pj (regOf Try.f51 1) 8 = some (some 14, .fieldAddr 80 (.tmp 3) 2, 0, some (5, false)) := by kernel_rfl
theorem p51_1_9 : pj (regOf Try.f51 1) 9 = some (some 15, .load 22 (.tmp 14), 22, some (5, false)) := by kernel_rfl
theorem p51_1_10 : pj (regOf Try.f51 1) 10 = some (some 16, .binOp .neq 22 (.tmp 13) (.tmp 15) 22, 4, some (5, false)) := by kernel_rfl
theorem eg22 : Try.prog.eqGuardType Try.prog.depth 22 = false := by kernel_rfl
theorem p51_1_11 : pj (regOf Try.f51 1) 11 = some (some 17, .pick (.tmp 11) (.const (.bool true)) (.tmp 16), 4, none) := by kernel_rfl
theorem p51_1_12 : pj (regOf Try.f51 1) 12 = some (some 18, .move (.tmp 17), 4, none) := by kernel_rfl
theorem p51_1_13 : pj (regOf Try.f51 1) 13 = some (some 19, .fieldAddr 80 (.tmp 2) 1, 0, some (12, false)) := by kernel_rfl
theorem g51_1_12 : dstOf (regOf Try.f51 1) 12 = some 18 := by kernel_rfl
theorem p51_1_14 : pj (regOf Try.f51 1) 14 = some (some 20, .load 62 (.tmp 19), 62, some (12, false)) := by kernel_rfl
theorem p51_1_15 : pj (regOf Try.f51 1) 15 = some (some 21, .call { callee := .builtin .len, args := #[.tmp 20], argTypes := #[62] }, 3, some (12, false)) := by kernel_rfl
theorem p51_1_16 : pj (regOf Try.f51 1) 16 = some (some 22, .fieldAddr 80 (.tmp 3) 1, 0, some (12, false)) := by kernel_rfl
theorem p51_1_17 : pj (regOf Try.f51 1) 17 = some (some 23, .load 62 (.tmp 22), 62, some (12, false)) := by kernel_rfl
theorem p51_1_18 : pj (regOf Try.f51 1) 18 = some (some 24, .call { callee := .builtin .len, args := #[.tmp 23], argTypes := #[62] }, 3, some (12, false)) := by kernel_rfl
theorem p51_1_19 : pj (regOf Try.f51 1) 19 = some (some 25, .binOp .neq 3 (.tmp 21) (.tmp 24) 3, 4, some (12, false)) := by kernel_rfl
theorem p51_1_20 : pj (regOf Try.f51 1) 20 = some (some 26, .pick (.tmp 18) (.const (.bool true)) (.tmp 25), 4, none) := by kernel_rfl
theorem p51_3_0 : pj (regOf Try.f51 3) 0 = some (some 5, .assign (.const (.int .i64 0)), 3, none) := by kernel_rfl
theorem p51_4_0 : pj (regOf Try.f51 4) 0 = some (some 27, .move (.tmp 5), 3, none) := by kernel_rfl
theorem p51_4_1 : pj (regOf Try.f51 4) 1 = some (some 28, .fieldAddr 80 (.tmp 2) 1, 0, none) := by kernel_rfl
theorem p51_4_2 : pj (regOf Try.f51 4) 2 = some (some 29, .load 62 (.tmp 28), 62, none) := by kernel_rfl
theorem p51_4_3 : pj (regOf Try.f51 4) 3 = some (some 30, .call { callee := .builtin .len, args := #[.tmp 29], argTypes := #[62] }, 3, none) := by kernel_rfl
theorem p51_4_4 : pj (regOf Try.f51 4) 4 = some (some 31, .binOp .lss 3 (.tmp 27) (.tmp 30) 3, 4, none) := by kernel_rfl
theorem ns51_6 : Region.noSelect (regOf Try.f51 6) = true := by kernel_rfl
theorem p51_6_0 : pj (regOf Try.f51 6) 0 = some (some 34, .fieldAddr 80 (.tmp 2) 1, 0, none) := by kernel_rfl
theorem p51_6_1 : pj (regOf Try.f51 6) 1 = some (some 35, .load 62 (.tmp 34), 62, none) := by kernel_rfl
theorem p51_6_2 : pj (regOf Try.f51 6) 2 = some (some 36, .move (.tmp 5), 3, none) := by kernel_rfl
theorem p51_6_3 : pj (regOf Try.f51 6) 3 = some (some 37, .indexAddr 62 (.tmp 35) (.tmp 36), 0, none) := by kernel_rfl
theorem p51_6_4 : pj (regOf Try.f51 6) 4 = some (some 38, .load 3 (.tmp 37), 3, none) := by kernel_rfl
theorem p51_6_5 : pj (regOf Try.f51 6) 5 = some (some 39, .fieldAddr 80 (.tmp 3) 1, 0, none) := by kernel_rfl
theorem p51_6_6 : pj (regOf Try.f51 6) 6 = some (some 40, .load 62 (.tmp 39), 62, none) := by kernel_rfl
theorem p51_6_7 : pj (regOf Try.f51 6) 7 = some (some 41, .move (.tmp 5), 3, none) := by kernel_rfl
theorem p51_6_8 : pj (regOf Try.f51 6) 8 = some (some 42, .indexAddr 62 (.tmp 40) (.tmp 41), 0, none) := by kernel_rfl
theorem p51_6_9 : pj (regOf Try.f51 6) 9 = some (some 43, .load 3 (.tmp 42), 3, none) := by kernel_rfl
theorem p51_6_10 : pj (regOf Try.f51 6) 10 = some (some 44, .binOp .neq 3 (.tmp 38) (.tmp 43) 3, 4, none) := by kernel_rfl
theorem p51_5_0 : pj (regOf Try.f51 5) 0 = some (some 32, .move (.tmp 5), 3, none) := by kernel_rfl
theorem p51_5_1 : pj (regOf Try.f51 5) 1 = some (some 33, .binOp .add 3 (.tmp 32) (.const (.int .i64 1)) 3, 3, none) := by kernel_rfl
theorem p51_5_2 : pj (regOf Try.f51 5) 2 = some (some 5, .assign (.tmp 33), 3, none) := by kernel_rfl
theorem p51_7_0 : pj (regOf Try.f51 7) 0 = some (some 4, .assign (.const (.bool false)), 4, none) := by kernel_rfl
theorem p51_8_0 : pj (regOf Try.f51 8) 0 = some (some 45, .fieldAddr 80 (.tmp 2) 3, 0, none) := by kernel_rfl
theorem p51_8_1 : pj (regOf Try.f51 8) 1 = some (some 46, .load 36 (.tmp 45), 36, none) := by kernel_rfl
theorem p51_8_2 : pj (regOf Try.f51 8) 2 = some (some 47, .fieldAddr 80 (.tmp 3) 3, 0, none) := by kernel_rfl
theorem p51_8_3 : pj (regOf Try.f51 8) 3 = some (some 48, .load 36 (.tmp 47), 36, none) := by kernel_rfl
theorem p51_8_4 : pj (regOf Try.f51 8) 4 = some (some 49, .call { callee := .value (.func 21), args := #[.tmp 46, .tmp 48], argTypes := #[36, 36] }, 4, none) := by kernel_rfl
theorem cl21 : callable Try.f21 = true := by kernel_rfl
theorem p51_8_5 : pj (regOf Try.f51 8) 5 = some (some 4, .assign (.tmp 49), 4, none) := by kernel_rfl
theorem p51_2_0 : pj (regOf Try.f51 2) 0 = some (some 4, .assign (.const (.bool false)), 4, none) := by kernel_rfl
set_option maxHeartbeats 4000000 in
theorem rsame_o (kk : Int) (l tx : List Int) (f : Nat → Int) (A T : Option Addr) (q c : Nat) (kk' : Int) (l' tx' : List Int) (f' : Nat → Int) (A' T' : Option Addr) (q' c' : Nat) (b : Bool) (hb : sameB kk l f tx kk' l' f' tx' = b) (hr : ∀ x ∈ tx, 0 ≤ x ∧ x ≤ 255) (hr' : ∀ x ∈ tx', 0 ≤ x ∧ x ≤ 255) (w : World) (hF : ∀ W', Kp w W' (fun _ => False) → Kd.C (Kd.int .i64) W' A l.length l) (hG : ∀ W', Kp w W' (fun _ => False) → Kd.C (Kd.int .u8) W' T tx.length tx) (hF' : ∀ W', Kp w W' (fun _ => False) → Kd.C (Kd.int .i64) W' A' l'.length l') (hG' : ∀ W', Kp w W' (fun _ => False) → Kd.C (Kd.int .u8) W' T' tx'.length tx') (hml : l.length ≤ 1000000000000) (hmt : tx.length ≤ 1000000) (hmc : tx.length ≤ c) (hmc' : tx'.length ≤ c') (hmt' : tx'.length ≤ 1000000) : Calls Try.prog 51 #[Value.agg (([Value.int .i64 kk, Value.slice A l.length q] ++ b16 f ++ [Value.slice T tx.length c])).toArray, Value.agg (([Value.int .i64 kk', Value.slice A' l'.length q'] ++ b16 f' ++ [Value.slice T' tx'.length c'])).toArray] w fun e w' => e = .returned (.bool b) ∧ Kp w w' (fun _ => False) := by
  have K_0 := Kp.refl w (fun _ => False)
  refine enter (args := [Value.agg (([Value.int .i64 kk, Value.slice A l.length q] ++ b16 f ++ [Value.slice T tx.length c])).toArray, Value.agg (([Value.int .i64 kk', Value.slice A' l'.length q'] ++ b16 f' ++ [Value.slice T' tx'.length c'])).toArray]) (n := 50) Try.func51 body51 rfl rfl rfl ?_
  intro a hE
  refine c_reg R51_0_l ?_
  refine p_cons (s_box p51_0_0 hE wn_none rfl rfl ?_)
  clear hE a; intro g1 w2 z3 B_g1 hk a hE
  replace B_g1 : w2.heap[g1]? = some (.cells (([Value.int .i64 kk, Value.slice A l.length q] ++ b16 f ++ [Value.slice T tx.length c])).toArray 80 (0, 0)) := B_g1
  have z_0_g1 := Nat.le_trans K_0.kept.1 z3
  replace K_0 := K_0.then_ hk (fun _ h => h.elim)
  clear hk
  refine p_cons (s_box p51_0_1 hE wn_none rfl rfl ?_)
  clear hE a; intro g4 w5 z6 B_g4 hk a hE
  replace B_g4 : w5.heap[g4]? = some (.cells (([Value.int .i64 kk', Value.slice A' l'.length q'] ++ b16 f' ++ [Value.slice T' tx'.length c'])).toArray 80 (0, 0)) := B_g4
  have n_g1_g4 : g1 ≠ g4 := ne_new B_g1 z6
  have z_0_g4 := Nat.le_trans K_0.kept.1 z6
  replace B_g1 := kp_blk B_g1 hk (fun h => h)
  replace K_0 := K_0.then_ hk (fun _ h => h.elim)
  clear hk
  refine q0 p51_0_2 hE (st_assign rfl) ?_
  clear hE a; intro a hE
  refine p_nil ?_
  refine x_norm ?_
  refine wp_seq ?_
  rcases Decidable.em (kk = kk') with hKK | hKK
  ·
    rcases Decidable.em (eqL (b16 f) (b16 f') = true) with hAD | hAD
    ·
      rcases Decidable.em (l.length = l'.length) with hLN | hLN
      ·
        refine c_reg R51_1_l ?_
        refine q0 p51_1_0 hE (st_fieldAddr Try.underlying80 rfl tS3 rfl rfl) ?_
        clear hE a; intro a hE
        refine q0 p51_1_1 hE (st_load1 tA3 rfl ((blk_cell B_g1 0).trans rfl)) ?_
        clear hE a; intro a hE
        refine q0 p51_1_2 hE (st_fieldAddr Try.underlying80 rfl tS3 rfl rfl) ?_
        clear hE a; intro a hE
        refine q0 p51_1_3 hE (st_load1 tA3 rfl ((blk_cell B_g4 0).trans rfl)) ?_
        clear hE a; intro a hE
        refine q0 p51_1_4 hE (st_neq (b := false) rfl rfl (by simp [hKK])) ?_
        clear hE a; intro a hE
        refine q0 p51_1_5 hE (st_move rfl) ?_
        clear hE a; intro a hE
        refine p_cons (s_still p51_1_6 hE (wn_some g51_1_5 rfl rfl) rfl (st_fieldAddr Try.underlying80 rfl tS22 rfl rfl) ?_)
        clear hE a; intro a hE
        refine p_cons (s_still p51_1_7 hE (wn_some g51_1_5 rfl rfl) rfl (st_loadN (off := 2) (k := 16) (vs := b16 f) tA22 tS22 rfl B_g1 rfl rfl) ?_)
        clear hE a; intro a hE
        refine p_cons (s_still p51_1_8 hE (wn_some g51_1_5 rfl rfl) rfl (st_fieldAddr Try.underlying80 rfl tS22 rfl rfl) ?_)
        clear hE a; intro a hE
        refine p_cons (s_still p51_1_9 hE (wn_some g51_1_5 rfl rfl) rfl (st_loadN (off := 2) (k := 16) (vs := b16 f') tA22 tS22 rfl B_g4 rfl rfl) ?_)
        clear hE a; intro a hE
        refine p_cons (s_still p51_1_10 hE (wn_some g51_1_5 rfl rfl) rfl (st_neqA (b := true) eg22 rfl rfl (eqA_flat eqY_ks (by kernel_rfl) rfl rfl hAD)) ?_)
        clear hE a; intro a hE
        refine q0 p51_1_11 hE (st_pick rfl rfl) ?_
        clear hE a; intro a hE
        refine q0 p51_1_12 hE (st_move rfl) ?_
        clear hE a; intro a hE
        refine p_cons (s_still p51_1_13 hE (wn_some g51_1_12 rfl rfl) rfl (st_fieldAddr Try.underlying80 rfl tS62 rfl rfl) ?_)
        clear hE a; intro a hE
        refine p_cons (s_still p51_1_14 hE (wn_some g51_1_12 rfl rfl) rfl (st_load1 tA62 rfl ((blk_cell B_g1 1).trans rfl)) ?_)
        clear hE a; intro a hE
        refine p_cons (s_still p51_1_15 hE (wn_some g51_1_12 rfl rfl) rfl (st_len Try.underlying62 rfl) ?_)
        clear hE a; intro a hE
        refine p_cons (s_still p51_1_16 hE (wn_some g51_1_12 rfl rfl) rfl (st_fieldAddr Try.underlying80 rfl tS62 rfl rfl) ?_)
        clear hE a; intro a hE
        refine p_cons (s_still p51_1_17 hE (wn_some g51_1_12 rfl rfl) rfl (st_load1 tA62 rfl ((blk_cell B_g4 1).trans rfl)) ?_)
        clear hE a; intro a hE
        refine p_cons (s_still p51_1_18 hE (wn_some g51_1_12 rfl rfl) rfl (st_len Try.underlying62 rfl) ?_)
        clear hE a; intro a hE
        refine p_cons (s_still p51_1_19 hE (wn_some g51_1_12 rfl rfl) rfl (st_neq (b := false) rfl rfl (by simp [hLN])) ?_)
        clear hE a; intro a hE
        refine q0 p51_1_20 hE (st_pick rfl rfl) ?_
        clear hE a; intro a hE
        refine p_nil ?_
        refine x_norm ?_
        refine c_cond (t := false) hE rfl ?_
        refine wp_skip ?_
        refine x_norm ?_
        refine wp_seq ?_
        refine c_reg R51_3_l ?_
        refine q0 p51_3_0 hE (st_assign rfl) ?_
        clear hE a; intro a hE
        refine p_nil ?_
        refine x_norm ?_
        refine wp_block ?_
        refine c_loop (α := Nat) (fun k a W => En 50 a [(0, Value.agg (([Value.int .i64 kk, Value.slice A l.length q] ++ b16 f ++ [Value.slice T tx.length c])).toArray), (1, Value.agg (([Value.int .i64 kk', Value.slice A' l'.length q'] ++ b16 f' ++ [Value.slice T' tx'.length c'])).toArray), (2, Value.pointer (some ⟨g1, 0, none⟩)), (3, Value.pointer (some ⟨g4, 0, none⟩)), (26, Value.bool false), (5, Value.int .i64 (k : Int))] ∧ k ≤ l.length ∧ (∀ j, j < k → rd l (j : Int) = rd l' (j : Int)) ∧ W.heap[g1]? = some (.cells (([Value.int .i64 kk, Value.slice A l.length q] ++ b16 f ++ [Value.slice T tx.length c])).toArray 80 (0, 0)) ∧ W.heap[g4]? = some (.cells (([Value.int .i64 kk', Value.slice A' l'.length q'] ++ b16 f' ++ [Value.slice T' tx'.length c'])).toArray 80 (0, 0)) ∧ Kp w W (fun _ => False)) (fun k => l.length - k) (0) ?_ ?_
        ·
          exact ⟨En.sub hE ⟨rfl, rfl, rfl, rfl, rfl, rfl, trivial⟩, Nat.zero_le _, fun j hj => absurd hj (Nat.not_lt_zero j), B_g1, B_g4, K_0⟩
        ·
          clear hE a
          rintro k a w7 ⟨hE, hk9, hall, B_g1, B_g4, K_0⟩
          refine wp_seq ?_
          rcases Decidable.em ((k : Int) < (l.length : Int)) with hK1 | hK1
          ·
            refine c_reg R51_4_l ?_
            refine q0 p51_4_0 hE (st_move rfl) ?_
            clear hE a; intro a hE
            refine q0 p51_4_1 hE (st_fieldAddr Try.underlying80 rfl tS62 rfl rfl) ?_
            clear hE a; intro a hE
            refine q0 p51_4_2 hE (st_load1 tA62 rfl ((blk_cell B_g1 1).trans rfl)) ?_
            clear hE a; intro a hE
            refine q0 p51_4_3 hE (st_len Try.underlying62 rfl) ?_
            clear hE a; intro a hE
            refine q0 p51_4_4 hE (st_lss (b := true) rfl rfl (decide_eq_true hK1)) ?_
            clear hE a; intro a hE
            refine p_nil ?_
            refine x_norm ?_
            refine c_cond (t := true) hE rfl ?_
            refine wp_skip ?_
            refine x_norm ?_
            refine wp_seq ?_
            refine wp_block ?_
            rcases Decidable.em (rd l (k : Int) = rd l' (k : Int)) with hEQ | hEQ
            ·
              refine c_drawS (S := fun W => W.heap[g1]? = some (.cells (([Value.int .i64 kk, Value.slice A l.length q] ++ b16 f ++ [Value.slice T tx.length c])).toArray 80 (0, 0)) ∧ W.heap[g4]? = some (.cells (([Value.int .i64 kk', Value.slice A' l'.length q'] ++ b16 f' ++ [Value.slice T' tx'.length c'])).toArray 80 (0, 0)) ∧ Kd.C (Kd.int .i64) W A l.length l ∧ Kd.C (Kd.int .i64) W A' l'.length l' ∧ True) rfl rfl (listed := #[false, false, false, false, false, false, false, false, false, false, false]) rfl ?_
              intro w8 hh hk
              replace B_g1 := kp_blk B_g1 hk (fun h => h)
              replace B_g4 := kp_blk B_g4 hk (fun h => h)
              replace K_0 := K_0.then_ hk (fun _ h => h.elim)
              clear hh hk
              refine d_take (v := Value.pointer (some ⟨g1, 1, none⟩)) p51_6_0 ns51_6 (by kernel_rfl) (by kernel_rfl) (fun _ _ _ h => h) hE wn_none rfl ⟨B_g1, B_g4, (hF _ K_0), (hF' _ K_0), trivial⟩ (fun W hS => (st_fieldAddr Try.underlying80 rfl tS62 rfl rfl)) rfl ?_
              clear hE a; intro a hE
              refine d_take (v := Value.slice A l.length q) p51_6_1 ns51_6 (by kernel_rfl) (by kernel_rfl) (fun _ _ _ h => h) hE wn_none rfl ⟨B_g1, B_g4, (hF _ K_0), (hF' _ K_0), trivial⟩ (fun W hS => (st_load1 tA62 rfl ((blk_cell hS.1 1).trans rfl))) rfl ?_
              clear hE a; intro a hE
              refine d_take (v := Value.int .i64 (k : Int)) p51_6_2 ns51_6 (by kernel_rfl) (by kernel_rfl) (fun _ _ _ h => h) hE wn_none rfl ⟨B_g1, B_g4, (hF _ K_0), (hF' _ K_0), trivial⟩ (fun W hS => (st_move rfl)) rfl ?_
              clear hE a; intro a hE
              refine d_take (v := Value.pointer (some (ea A k))) p51_6_3 ns51_6 (by kernel_rfl) (by kernel_rfl) (fun _ _ _ h => h) hE wn_none rfl ⟨B_g1, B_g4, (hF _ K_0), (hF' _ K_0), trivial⟩ (fun W hS => (st_indexAddrS (i := k) Try.underlying62 tS3 (C_at (hF _ K_0) (show k < _ by omega)).1 rfl rfl (by omega))) rfl ?_
              clear hE a; intro a hE
              refine d_take (v := Value.int .i64 (rd l (k : Int))) p51_6_4 ns51_6 (by kernel_rfl) (by kernel_rfl) (fun _ _ _ h => h) hE wn_none rfl ⟨B_g1, B_g4, (hF _ K_0), (hF' _ K_0), trivial⟩ (fun W hS => (st_loadC (i := k) tA3 (hS.2.2.1) (by omega) rfl)) rfl ?_
              clear hE a; intro a hE
              refine d_take (v := Value.pointer (some ⟨g4, 1, none⟩)) p51_6_5 ns51_6 (by kernel_rfl) (by kernel_rfl) (fun _ _ _ h => h) hE wn_none rfl ⟨B_g1, B_g4, (hF _ K_0), (hF' _ K_0), trivial⟩ (fun W hS => (st_fieldAddr Try.underlying80 rfl tS62 rfl rfl)) rfl ?_
              clear hE a; intro a hE
              refine d_take (v := Value.slice A' l'.length q') p51_6_6 ns51_6 (by kernel_rfl) (by kernel_rfl) (fun _ _ _ h => h) hE wn_none rfl ⟨B_g1, B_g4, (hF _ K_0), (hF' _ K_0), trivial⟩ (fun W hS => (st_load1 tA62 rfl ((blk_cell hS.2.1 1).trans rfl))) rfl ?_
              clear hE a; intro a hE
              refine d_take (v := Value.int .i64 (k : Int)) p51_6_7 ns51_6 (by kernel_rfl) (by kernel_rfl) (fun _ _ _ h => h) hE wn_none rfl ⟨B_g1, B_g4, (hF _ K_0), (hF' _ K_0), trivial⟩ (fun W hS => (st_move rfl)) rfl ?_
              clear hE a; intro a hE
              refine d_take (v := Value.pointer (some (ea A' k))) p51_6_8 ns51_6 (by kernel_rfl) (by kernel_rfl) (fun _ _ _ h => h) hE wn_none rfl ⟨B_g1, B_g4, (hF _ K_0), (hF' _ K_0), trivial⟩ (fun W hS => (st_indexAddrS (i := k) Try.underlying62 tS3 (C_at (hF' _ K_0) (show k < _ by omega)).1 rfl rfl (by omega))) rfl ?_
              clear hE a; intro a hE
              refine d_take (v := Value.int .i64 (rd l' (k : Int))) p51_6_9 ns51_6 (by kernel_rfl) (by kernel_rfl) (fun _ _ _ h => h) hE wn_none rfl ⟨B_g1, B_g4, (hF _ K_0), (hF' _ K_0), trivial⟩ (fun W hS => (st_loadC (i := k) tA3 (hS.2.2.2.1) (by omega) rfl)) rfl ?_
              clear hE a; intro a hE
              refine d_take (v := Value.bool false) p51_6_10 ns51_6 (by kernel_rfl) (by kernel_rfl) (fun _ _ _ h => h) hE wn_none rfl ⟨B_g1, B_g4, (hF _ K_0), (hF' _ K_0), trivial⟩ (fun W hS => (st_neq (b := false) rfl rfl (by simp [hEQ]))) rfl ?_
              clear hE a; intro a hE
              refine d_end (by kernel_rfl) ?_
              refine x_norm ?_
              refine c_cond (t := false) hE rfl ?_
              refine wp_skip ?_
              refine x_normB ?_
              refine x_norm ?_
              refine c_regL R51_5_l ?_
              refine q0 p51_5_0 hE (st_move rfl) ?_
              clear hE a; intro a hE
              refine q0 p51_5_1 hE (st_add (z := (k : Int) + 1) rfl rfl (wr_i64 _ (by omega) (by omega))) ?_
              clear hE a; intro a hE
              refine q0 p51_5_2 hE (st_assign rfl) ?_
              clear hE a; intro a hE
              refine p_nil ?_
              refine x_norm ?_
              exact ⟨k + 1, by omega, En.sub hE ⟨rfl, rfl, rfl, rfl, rfl, rfl, trivial⟩, by omega, fun j hj => by rcases Nat.lt_succ_iff_lt_or_eq.1 hj with h | h; exact hall j h; rw [h]; exact hEQ, B_g1, B_g4, K_0⟩
            ·
              refine c_drawS (S := fun W => W.heap[g1]? = some (.cells (([Value.int .i64 kk, Value.slice A l.length q] ++ b16 f ++ [Value.slice T tx.length c])).toArray 80 (0, 0)) ∧ W.heap[g4]? = some (.cells (([Value.int .i64 kk', Value.slice A' l'.length q'] ++ b16 f' ++ [Value.slice T' tx'.length c'])).toArray 80 (0, 0)) ∧ Kd.C (Kd.int .i64) W A l.length l ∧ Kd.C (Kd.int .i64) W A' l'.length l' ∧ True) rfl rfl (listed := #[false, false, false, false, false, false, false, false, false, false, false]) rfl ?_
              intro w9 hh hk
              replace B_g1 := kp_blk B_g1 hk (fun h => h)
              replace B_g4 := kp_blk B_g4 hk (fun h => h)
              replace K_0 := K_0.then_ hk (fun _ h => h.elim)
              clear hh hk
              refine d_take (v := Value.pointer (some ⟨g1, 1, none⟩)) p51_6_0 ns51_6 (by kernel_rfl) (by kernel_rfl) (fun _ _ _ h => h) hE wn_none rfl ⟨B_g1, B_g4, (hF _ K_0), (hF' _ K_0), trivial⟩ (fun W hS => (st_fieldAddr Try.underlying80 rfl tS62 rfl rfl)) rfl ?_
              clear hE a; intro a hE
              refine d_take (v := Value.slice A l.length q) p51_6_1 ns51_6 (by kernel_rfl) (by kernel_rfl) (fun _ _ _ h => h) hE wn_none rfl ⟨B_g1, B_g4, (hF _ K_0), (hF' _ K_0), trivial⟩ (fun W hS => (st_load1 tA62 rfl ((blk_cell hS.1 1).trans rfl))) rfl ?_
              clear hE a; intro a hE
              refine d_take (v := Value.int .i64 (k : Int)) p51_6_2 ns51_6 (by kernel_rfl) (by kernel_rfl) (fun _ _ _ h => h) hE wn_none rfl ⟨B_g1, B_g4, (hF _ K_0), (hF' _ K_0), trivial⟩ (fun W hS => (st_move rfl)) rfl ?_
              clear hE a; intro a hE
              refine d_take (v := Value.pointer (some (ea A k))) p51_6_3 ns51_6 (by kernel_rfl) (by kernel_rfl) (fun _ _ _ h => h) hE wn_none rfl ⟨B_g1, B_g4, (hF _ K_0), (hF' _ K_0), trivial⟩ (fun W hS => (st_indexAddrS (i := k) Try.underlying62 tS3 (C_at (hF _ K_0) (show k < _ by omega)).1 rfl rfl (by omega))) rfl ?_
              clear hE a; intro a hE
              refine d_take (v := Value.int .i64 (rd l (k : Int))) p51_6_4 ns51_6 (by kernel_rfl) (by kernel_rfl) (fun _ _ _ h => h) hE wn_none rfl ⟨B_g1, B_g4, (hF _ K_0), (hF' _ K_0), trivial⟩ (fun W hS => (st_loadC (i := k) tA3 (hS.2.2.1) (by omega) rfl)) rfl ?_
              clear hE a; intro a hE
              refine d_take (v := Value.pointer (some ⟨g4, 1, none⟩)) p51_6_5 ns51_6 (by kernel_rfl) (by kernel_rfl) (fun _ _ _ h => h) hE wn_none rfl ⟨B_g1, B_g4, (hF _ K_0), (hF' _ K_0), trivial⟩ (fun W hS => (st_fieldAddr Try.underlying80 rfl tS62 rfl rfl)) rfl ?_
              clear hE a; intro a hE
              refine d_take (v := Value.slice A' l'.length q') p51_6_6 ns51_6 (by kernel_rfl) (by kernel_rfl) (fun _ _ _ h => h) hE wn_none rfl ⟨B_g1, B_g4, (hF _ K_0), (hF' _ K_0), trivial⟩ (fun W hS => (st_load1 tA62 rfl ((blk_cell hS.2.1 1).trans rfl))) rfl ?_
              clear hE a; intro a hE
              refine d_take (v := Value.int .i64 (k : Int)) p51_6_7 ns51_6 (by kernel_rfl) (by kernel_rfl) (fun _ _ _ h => h) hE wn_none rfl ⟨B_g1, B_g4, (hF _ K_0), (hF' _ K_0), trivial⟩ (fun W hS => (st_move rfl)) rfl ?_
              clear hE a; intro a hE
              refine d_take (v := Value.pointer (some (ea A' k))) p51_6_8 ns51_6 (by kernel_rfl) (by kernel_rfl) (fun _ _ _ h => h) hE wn_none rfl ⟨B_g1, B_g4, (hF _ K_0), (hF' _ K_0), trivial⟩ (fun W hS => (st_indexAddrS (i := k) Try.underlying62 tS3 (C_at (hF' _ K_0) (show k < _ by omega)).1 rfl rfl (by omega))) rfl ?_
              clear hE a; intro a hE
              refine d_take (v := Value.int .i64 (rd l' (k : Int))) p51_6_9 ns51_6 (by kernel_rfl) (by kernel_rfl) (fun _ _ _ h => h) hE wn_none rfl ⟨B_g1, B_g4, (hF _ K_0), (hF' _ K_0), trivial⟩ (fun W hS => (st_loadC (i := k) tA3 (hS.2.2.2.1) (by omega) rfl)) rfl ?_
              clear hE a; intro a hE
              refine d_take (v := Value.bool true) p51_6_10 ns51_6 (by kernel_rfl) (by kernel_rfl) (fun _ _ _ h => h) hE wn_none rfl ⟨B_g1, B_g4, (hF _ K_0), (hF' _ K_0), trivial⟩ (fun W hS => (st_neq (b := true) rfl rfl (by simp [hEQ]))) rfl ?_
              clear hE a; intro a hE
              refine d_end (by kernel_rfl) ?_
              refine x_norm ?_
              refine c_cond (t := true) hE rfl ?_
              refine c_reg R51_7_l ?_
              refine q0 p51_7_0 hE (st_assign rfl) ?_
              clear hE a; intro a hE
              refine p_nil ?_
              refine x_norm ?_
              refine wp_ret ?_
              refine x_retB ?_
              refine x_ret ?_
              refine x_ret ?_
              refine x_retB ?_
              refine x_ret ?_
              refine ret_one (v := Value.bool false) rfl hE (.tmp rfl .nil) ?_
              exact ⟨by rw [← hb]; unfold sameB; rw [decide_eq_false (show ¬ l = l' from fun h => hEQ (by rw [h]))]; simp, K_0⟩
          ·
            refine c_reg R51_4_l ?_
            refine q0 p51_4_0 hE (st_move rfl) ?_
            clear hE a; intro a hE
            refine q0 p51_4_1 hE (st_fieldAddr Try.underlying80 rfl tS62 rfl rfl) ?_
            clear hE a; intro a hE
            refine q0 p51_4_2 hE (st_load1 tA62 rfl ((blk_cell B_g1 1).trans rfl)) ?_
            clear hE a; intro a hE
            refine q0 p51_4_3 hE (st_len Try.underlying62 rfl) ?_
            clear hE a; intro a hE
            refine q0 p51_4_4 hE (st_lss (b := false) rfl rfl (decide_eq_false hK1)) ?_
            clear hE a; intro a hE
            refine p_nil ?_
            refine x_norm ?_
            refine c_cond (t := false) hE rfl ?_
            refine wp_exit ?_
            refine x_exit ?_
            refine x_exit ?_
            refine x_in ?_
            refine x_norm ?_
            refine c_reg R51_8_l ?_
            refine q0 p51_8_0 hE (st_fieldAddr Try.underlying80 rfl tS36 rfl rfl) ?_
            clear hE a; intro a hE
            refine q0 p51_8_1 hE (st_load1 tA36 rfl ((blk_cell B_g1 18).trans rfl)) ?_
            clear hE a; intro a hE
            refine q0 p51_8_2 hE (st_fieldAddr Try.underlying80 rfl tS36 rfl rfl) ?_
            clear hE a; intro a hE
            refine q0 p51_8_3 hE (st_load1 tA36 rfl ((blk_cell B_g4 18).trans rfl)) ?_
            clear hE a; intro a hE
            refine p_cons (s_call (xs := [Operand.tmp 46, Operand.tmp 48]) (args := [Value.slice T tx.length c, Value.slice T' tx'.length c']) p51_8_4 hE wn_none rfl rfl Try.func21 cl21 (Go.Proofs.Ytndiddfleidnaaa.Pk.same_any T T' c c' tx tx' (decide (tx = tx')) rfl _ (hG _ K_0) hmc (hG' _ K_0) hmc' hmt) ?_)
            rintro e w10 ⟨rfl, hn⟩
            have hk := kp_n hn (fun _ => False)
            replace B_g1 := kp_blk B_g1 hk (fun h => h)
            replace B_g4 := kp_blk B_g4 hk (fun h => h)
            replace K_0 := K_0.then_ hk (fun _ h => h.elim)
            refine ⟨_, rfl, ?_⟩
            clear hE a; intro a hE
            refine q0 p51_8_5 hE (st_assign rfl) ?_
            clear hE a; intro a hE
            refine p_nil ?_
            refine x_norm ?_
            refine wp_ret ?_
            refine ret_one (v := Value.bool (decide (tx = tx'))) rfl hE (.tmp rfl .nil) ?_
            exact ⟨by rw [← hb]; unfold sameB; rw [decide_eq_true hKK, decide_eq_true (rd_ext hLN (fun j hj => hall j (by omega))), hAD]; simp, K_0⟩
      ·
        refine c_reg R51_1_l ?_
        refine q0 p51_1_0 hE (st_fieldAddr Try.underlying80 rfl tS3 rfl rfl) ?_
        clear hE a; intro a hE
        refine q0 p51_1_1 hE (st_load1 tA3 rfl ((blk_cell B_g1 0).trans rfl)) ?_
        clear hE a; intro a hE
        refine q0 p51_1_2 hE (st_fieldAddr Try.underlying80 rfl tS3 rfl rfl) ?_
        clear hE a; intro a hE
        refine q0 p51_1_3 hE (st_load1 tA3 rfl ((blk_cell B_g4 0).trans rfl)) ?_
        clear hE a; intro a hE
        refine q0 p51_1_4 hE (st_neq (b := false) rfl rfl (by simp [hKK])) ?_
        clear hE a; intro a hE
        refine q0 p51_1_5 hE (st_move rfl) ?_
        clear hE a; intro a hE
        refine p_cons (s_still p51_1_6 hE (wn_some g51_1_5 rfl rfl) rfl (st_fieldAddr Try.underlying80 rfl tS22 rfl rfl) ?_)
        clear hE a; intro a hE
        refine p_cons (s_still p51_1_7 hE (wn_some g51_1_5 rfl rfl) rfl (st_loadN (off := 2) (k := 16) (vs := b16 f) tA22 tS22 rfl B_g1 rfl rfl) ?_)
        clear hE a; intro a hE
        refine p_cons (s_still p51_1_8 hE (wn_some g51_1_5 rfl rfl) rfl (st_fieldAddr Try.underlying80 rfl tS22 rfl rfl) ?_)
        clear hE a; intro a hE
        refine p_cons (s_still p51_1_9 hE (wn_some g51_1_5 rfl rfl) rfl (st_loadN (off := 2) (k := 16) (vs := b16 f') tA22 tS22 rfl B_g4 rfl rfl) ?_)
        clear hE a; intro a hE
        refine p_cons (s_still p51_1_10 hE (wn_some g51_1_5 rfl rfl) rfl (st_neqA (b := true) eg22 rfl rfl (eqA_flat eqY_ks (by kernel_rfl) rfl rfl hAD)) ?_)
        clear hE a; intro a hE
        refine q0 p51_1_11 hE (st_pick rfl rfl) ?_
        clear hE a; intro a hE
        refine q0 p51_1_12 hE (st_move rfl) ?_
        clear hE a; intro a hE
        refine p_cons (s_still p51_1_13 hE (wn_some g51_1_12 rfl rfl) rfl (st_fieldAddr Try.underlying80 rfl tS62 rfl rfl) ?_)
        clear hE a; intro a hE
        refine p_cons (s_still p51_1_14 hE (wn_some g51_1_12 rfl rfl) rfl (st_load1 tA62 rfl ((blk_cell B_g1 1).trans rfl)) ?_)
        clear hE a; intro a hE
        refine p_cons (s_still p51_1_15 hE (wn_some g51_1_12 rfl rfl) rfl (st_len Try.underlying62 rfl) ?_)
        clear hE a; intro a hE
        refine p_cons (s_still p51_1_16 hE (wn_some g51_1_12 rfl rfl) rfl (st_fieldAddr Try.underlying80 rfl tS62 rfl rfl) ?_)
        clear hE a; intro a hE
        refine p_cons (s_still p51_1_17 hE (wn_some g51_1_12 rfl rfl) rfl (st_load1 tA62 rfl ((blk_cell B_g4 1).trans rfl)) ?_)
        clear hE a; intro a hE
        refine p_cons (s_still p51_1_18 hE (wn_some g51_1_12 rfl rfl) rfl (st_len Try.underlying62 rfl) ?_)
        clear hE a; intro a hE
        refine p_cons (s_still p51_1_19 hE (wn_some g51_1_12 rfl rfl) rfl (st_neq (b := true) rfl rfl (by simp; exact fun h => hLN (by omega))) ?_)
        clear hE a; intro a hE
        refine q0 p51_1_20 hE (st_pick rfl rfl) ?_
        clear hE a; intro a hE
        refine p_nil ?_
        refine x_norm ?_
        refine c_cond (t := true) hE rfl ?_
        refine c_reg R51_2_l ?_
        refine q0 p51_2_0 hE (st_assign rfl) ?_
        clear hE a; intro a hE
        refine p_nil ?_
        refine x_norm ?_
        refine wp_ret ?_
        refine x_ret ?_
        refine ret_one (v := Value.bool false) rfl hE (.tmp rfl .nil) ?_
        exact ⟨by rw [← hb]; unfold sameB; rw [decide_eq_false (show ¬ l = l' from fun h => hLN (by rw [h]))]; simp, K_0⟩
    ·
      refine c_reg R51_1_l ?_
      refine q0 p51_1_0 hE (st_fieldAddr Try.underlying80 rfl tS3 rfl rfl) ?_
      clear hE a; intro a hE
      refine q0 p51_1_1 hE (st_load1 tA3 rfl ((blk_cell B_g1 0).trans rfl)) ?_
      clear hE a; intro a hE
      refine q0 p51_1_2 hE (st_fieldAddr Try.underlying80 rfl tS3 rfl rfl) ?_
      clear hE a; intro a hE
      refine q0 p51_1_3 hE (st_load1 tA3 rfl ((blk_cell B_g4 0).trans rfl)) ?_
      clear hE a; intro a hE
      refine q0 p51_1_4 hE (st_neq (b := false) rfl rfl (by simp [hKK])) ?_
      clear hE a; intro a hE
      refine q0 p51_1_5 hE (st_move rfl) ?_
      clear hE a; intro a hE
      refine p_cons (s_still p51_1_6 hE (wn_some g51_1_5 rfl rfl) rfl (st_fieldAddr Try.underlying80 rfl tS22 rfl rfl) ?_)
      clear hE a; intro a hE
      refine p_cons (s_still p51_1_7 hE (wn_some g51_1_5 rfl rfl) rfl (st_loadN (off := 2) (k := 16) (vs := b16 f) tA22 tS22 rfl B_g1 rfl rfl) ?_)
      clear hE a; intro a hE
      refine p_cons (s_still p51_1_8 hE (wn_some g51_1_5 rfl rfl) rfl (st_fieldAddr Try.underlying80 rfl tS22 rfl rfl) ?_)
      clear hE a; intro a hE
      refine p_cons (s_still p51_1_9 hE (wn_some g51_1_5 rfl rfl) rfl (st_loadN (off := 2) (k := 16) (vs := b16 f') tA22 tS22 rfl B_g4 rfl rfl) ?_)
      clear hE a; intro a hE
      refine p_cons (s_still p51_1_10 hE (wn_some g51_1_5 rfl rfl) rfl (st_neqA (b := false) eg22 rfl rfl (eqA_flat eqY_ks (by kernel_rfl) rfl rfl (by simpa using hAD))) ?_)
      clear hE a; intro a hE
      refine q0 p51_1_11 hE (st_pick rfl rfl) ?_
      clear hE a; intro a hE
      refine q0 p51_1_12 hE (st_move rfl) ?_
      clear hE a; intro a hE
      refine p_cons (s_skip p51_1_13 hE (wn_some g51_1_12 rfl rfl) rfl ?_)
      clear hE a; intro a hE
      refine p_cons (s_skip p51_1_14 hE (wn_some g51_1_12 rfl rfl) rfl ?_)
      clear hE a; intro a hE
      refine p_cons (s_skip p51_1_15 hE (wn_some g51_1_12 rfl rfl) rfl ?_)
      clear hE a; intro a hE
      refine p_cons (s_skip p51_1_16 hE (wn_some g51_1_12 rfl rfl) rfl ?_)
      clear hE a; intro a hE
      refine p_cons (s_skip p51_1_17 hE (wn_some g51_1_12 rfl rfl) rfl ?_)
      clear hE a; intro a hE
      refine p_cons (s_skip p51_1_18 hE (wn_some g51_1_12 rfl rfl) rfl ?_)
      clear hE a; intro a hE
      refine p_cons (s_skip p51_1_19 hE (wn_some g51_1_12 rfl rfl) rfl ?_)
      clear hE a; intro a hE
      refine q0 p51_1_20 hE (st_pick rfl rfl) ?_
      clear hE a; intro a hE
      refine p_nil ?_
      refine x_norm ?_
      refine c_cond (t := true) hE rfl ?_
      refine c_reg R51_2_l ?_
      refine q0 p51_2_0 hE (st_assign rfl) ?_
      clear hE a; intro a hE
      refine p_nil ?_
      refine x_norm ?_
      refine wp_ret ?_
      refine x_ret ?_
      refine ret_one (v := Value.bool false) rfl hE (.tmp rfl .nil) ?_
      exact ⟨by rw [← hb]; unfold sameB; rw [show eqL (b16 f) (b16 f') = false by simpa using hAD]; simp, K_0⟩
  ·
    refine c_reg R51_1_l ?_
    refine q0 p51_1_0 hE (st_fieldAddr Try.underlying80 rfl tS3 rfl rfl) ?_
    clear hE a; intro a hE
    refine q0 p51_1_1 hE (st_load1 tA3 rfl ((blk_cell B_g1 0).trans rfl)) ?_
    clear hE a; intro a hE
    refine q0 p51_1_2 hE (st_fieldAddr Try.underlying80 rfl tS3 rfl rfl) ?_
    clear hE a; intro a hE
    refine q0 p51_1_3 hE (st_load1 tA3 rfl ((blk_cell B_g4 0).trans rfl)) ?_
    clear hE a; intro a hE
    refine q0 p51_1_4 hE (st_neq (b := true) rfl rfl (by simp [hKK])) ?_
    clear hE a; intro a hE
    refine q0 p51_1_5 hE (st_move rfl) ?_
    clear hE a; intro a hE
    refine p_cons (s_skip p51_1_6 hE (wn_some g51_1_5 rfl rfl) rfl ?_)
    clear hE a; intro a hE
    refine p_cons (s_skip p51_1_7 hE (wn_some g51_1_5 rfl rfl) rfl ?_)
    clear hE a; intro a hE
    refine p_cons (s_skip p51_1_8 hE (wn_some g51_1_5 rfl rfl) rfl ?_)
    clear hE a; intro a hE
    refine p_cons (s_skip p51_1_9 hE (wn_some g51_1_5 rfl rfl) rfl ?_)
    clear hE a; intro a hE
    refine p_cons (s_skip p51_1_10 hE (wn_some g51_1_5 rfl rfl) rfl ?_)
    clear hE a; intro a hE
    refine q0 p51_1_11 hE (st_pick rfl rfl) ?_
    clear hE a; intro a hE
    refine q0 p51_1_12 hE (st_move rfl) ?_
    clear hE a; intro a hE
    refine p_cons (s_skip p51_1_13 hE (wn_some g51_1_12 rfl rfl) rfl ?_)
    clear hE a; intro a hE
    refine p_cons (s_skip p51_1_14 hE (wn_some g51_1_12 rfl rfl) rfl ?_)
    clear hE a; intro a hE
    refine p_cons (s_skip p51_1_15 hE (wn_some g51_1_12 rfl rfl) rfl ?_)
    clear hE a; intro a hE
    refine p_cons (s_skip p51_1_16 hE (wn_some g51_1_12 rfl rfl) rfl ?_)
    clear hE a; intro a hE
    refine p_cons (s_skip p51_1_17 hE (wn_some g51_1_12 rfl rfl) rfl ?_)
    clear hE a; intro a hE
    refine p_cons (s_skip p51_1_18 hE (wn_some g51_1_12 rfl rfl) rfl ?_)
    clear hE a; intro a hE
    refine p_cons (s_skip p51_1_19 hE (wn_some g51_1_12 rfl rfl) rfl ?_)
    clear hE a; intro a hE
    refine q0 p51_1_20 hE (st_pick rfl rfl) ?_
    clear hE a; intro a hE
    refine p_nil ?_
    refine x_norm ?_
    refine c_cond (t := true) hE rfl ?_
    refine c_reg R51_2_l ?_
    refine q0 p51_2_0 hE (st_assign rfl) ?_
    clear hE a; intro a hE
    refine p_nil ?_
    refine x_norm ?_
    refine wp_ret ?_
    refine x_ret ?_
    refine ret_one (v := Value.bool false) rfl hE (.tmp rfl .nil) ?_
    exact ⟨by rw [← hb]; unfold sameB; rw [decide_eq_false hKK]; rfl, K_0⟩
def osame (x y : OV) : Bool := sameB x.1 x.2.1 (adr x) x.2.2.2 y.1 y.2.1 (adr y) y.2.2.2
def lsame (xs ys : List OV) : Bool := decide (xs.length = ys.length) && (List.range xs.length).all fun j => osame (xs.getD j zO) (ys.getD j zO)
theorem lsame_no {xs ys : List OV} {k : Nat} (hk : k < xs.length) (h : osame (xs.getD k zO) (ys.getD k zO) = false) : lsame xs ys = false := by
  unfold lsame
  rw [Bool.and_eq_false_iff]
  refine .inr ?_
  rw [List.all_eq_false]
  exact ⟨k, List.mem_range.2 hk, by rw [h]; simp⟩
theorem lsame_yes {xs ys : List OV} (hn : xs.length = ys.length) (h : ∀ j, j < xs.length → osame (xs.getD j zO) (ys.getD j zO) = true) : lsame xs ys = true := by
  unfold lsame
  rw [decide_eq_true hn, Bool.true_and, List.all_eq_true]
  exact fun j hj => h j (List.mem_range.1 hj)
theorem getD_mem {α : Type} {l : List α} {i : Nat} (h : i < l.length) (z : α) : l.getD i z ∈ l := by
  rw [List.getD_eq_getElem?_getD, List.getElem?_eq_getElem h]
  exact List.getElem_mem h
/-- Texts are bytes, nothing is too long. -/
def okO (x : OV) : Prop := (∀ y ∈ x.2.2.2, 0 ≤ y ∧ y ≤ 255) ∧ x.2.1.length ≤ 1000000000000 ∧ x.2.2.2.length ≤ 1000000
theorem R88_0_l : List.range (regOf Try.f88 0).size = [0] := by kernel_rfl
theorem R88_1_l : List.range (regOf Try.f88 1).size = [0, 1, 2, 3, 4] := by kernel_rfl
theorem R88_2_l : List.range (regOf Try.f88 2).size = [0] := by kernel_rfl
theorem R88_3_l : List.range (regOf Try.f88 3).size = [0, 1, 2] := by kernel_rfl
theorem R88_4_l : List.range (regOf Try.f88 4).size = [0] := by kernel_rfl
theorem R88_5_l : List.range (regOf Try.f88 5).size = [0, 1, 2, 3, 4, 5] := by kernel_rfl
theorem R88_6_l : List.range (regOf Try.f88 6).size = [0, 1, 2, 3, 4, 5] := by kernel_rfl
theorem R88_7_l : List.range (regOf Try.f88 7).size = [0, 1, 2, 3, 4] := by kernel_rfl
theorem R88_8_l : List.range (regOf Try.f88 8).size = [0] := by kernel_rfl
theorem R88_9_l : List.range (regOf Try.f88 9).size = [0, 1] := by kernel_rfl
theorem R88_10_l : List.range (regOf Try.f88 10).size = [0] := by kernel_rfl
theorem body88 : Try.f88.body = some (.seq (.region 0 (regOf Try.f88 0) false) (.seq (.seq (.region 1 (regOf Try.f88 1) false) (.cond (Operand.tmp 14) (.seq (.region 2 (regOf Try.f88 2) false) (.ret)) (.skip))) (.seq (.seq (.region 3 (regOf Try.f88 3) false) (.block 0 (.loop (.seq (.region 4 (regOf Try.f88 4) false) (.seq (.cond (Operand.tmp 18) (.skip) (.exit 0)) (.seq (.block 1 (.seq (.region 5 (regOf Try.f88 5) false) (.seq (.region 6 (regOf Try.f88 6) false) (.seq (.region 7 (regOf Try.f88 7) false) (.cond (Operand.tmp 30) (.seq (.region 8 (regOf Try.f88 8) false) (.ret)) (.skip)))))) (.region 9 (regOf Try.f88 9) false))))))) (.seq (.region 10 (regOf Try.f88 10) false) (.ret))))) := by kernel_rfl
theorem p88_0_0 : pj (regOf Try.f88 0) 0 = some (some 6, .assign (.const (.bool false)), 4, none) := by kernel_rfl
theorem p88_1_0 : pj (regOf Try.f88 1) 0 = some (some 10, .move (.tmp 0), 58, none) := by kernel_rfl
theorem p88_1_1 : pj (regOf Try.f88 1) 1 = some (some 11, .call { callee := .builtin .len, args := #[.tmp 10], argTypes := #[58] }, 3, none) := by kernel_rfl
theorem p88_1_2 : pj (regOf Try.f88 1) 2 = some (some 12, .move (.tmp 1), 58, none) := by kernel_rfl
theorem p88_1_3 : pj (regOf Try.f88 1) 3 = some (some 13, .call { callee := .builtin .len, args := #[.tmp 12], argTypes := #[58] }, 3, none) := by kernel_rfl
theorem p88_1_4 : pj (regOf Try.f88 1) 4 = some (some 14, .binOp .neq 3 (.tmp 11) (.tmp 13) 3, 4, none) := by kernel_rfl
theorem p88_3_0 : pj (regOf Try.f88 3) 0 = some (some 15, .move (.tmp 0), 58, none) := by kernel_rfl
theorem p88_3_1 : pj (regOf Try.f88 3) 1 = some (some 16, .call { callee := .builtin .len, args := #[.tmp 15], argTypes := #[58] }, 3, none) := by kernel_rfl
theorem p88_3_2 : pj (regOf Try.f88 3) 2 = some (some 17, .move (.const (.int .i64 0)), 3, none) := by kernel_rfl
theorem p88_4_0 : pj (regOf Try.f88 4) 0 = some (some 18, .binOp .lss 3 (.tmp 17) (.tmp 16) 3, 0, none) := by kernel_rfl
theorem p88_5_0 : pj (regOf Try.f88 5) 0 = some (some 19, .move (.tmp 17), 3, none) := by kernel_rfl
theorem p88_5_1 : pj (regOf Try.f88 5) 1 = some (some 20, .indexAddr 58 (.tmp 15) (.tmp 17), 0, none) := by kernel_rfl
theorem p88_5_2 : pj (regOf Try.f88 5) 2 = some (some 21, .load 64 (.tmp 20), 64, none) := by kernel_rfl
theorem p88_5_3 : pj (regOf Try.f88 5) 3 = some (some 8, .alloc 64, 0, none) := by kernel_rfl
theorem p88_5_4 : pj (regOf Try.f88 5) 4 = some (some 7, .assign (.tmp 19), 3, none) := by kernel_rfl
theorem p88_5_5 : pj (regOf Try.f88 5) 5 = some (none, .store 64 (.tmp 8) (.tmp 21), 0, none) := by kernel_rfl
theorem p88_6_0 : pj (regOf Try.f88 6) 0 = some (some 22, .move (.tmp 1), 58, none) := by kernel_rfl
theorem p88_6_1 : pj (regOf Try.f88 6) 1 = some (some 23, .move (.tmp 7), 3, none) := by kernel_rfl
theorem p88_6_2 : pj (regOf Try.f88 6) 2 = some (some 24, .indexAddr 58 (.tmp 22) (.tmp 23), 0, none) := by kernel_rfl
theorem p88_6_3 : pj (regOf Try.f88 6) 3 = some (some 25, .load 64 (.tmp 24), 64, none) := by kernel_rfl
theorem p88_6_4 : pj (regOf Try.f88 6) 4 = some (some 9, .alloc 64, 0, none) := by kernel_rfl
theorem p88_6_5 : pj (regOf Try.f88 6) 5 = some (none, .store 64 (.tmp 9) (.tmp 25), 0, none) := by kernel_rfl
theorem p88_7_0 : pj (regOf Try.f88 7) 0 = some (some 26, .move (.tmp 2), 149, none) := by kernel_rfl
theorem p88_7_1 : pj (regOf Try.f88 7) 1 = some (some 27, .load 64 (.tmp 8), 64, none) := by kernel_rfl
theorem p88_7_2 : pj (regOf Try.f88 7) 2 = some (some 28, .load 64 (.tmp 9), 64, none) := by kernel_rfl
theorem p88_7_3 : pj (regOf Try.f88 7) 3 = some (some 29, .call { callee := .value (.tmp 26), args := #[.tmp 27, .tmp 28], argTypes := #[64, 64] }, 4, none) := by kernel_rfl
theorem cl89 : callable Try.f89 = true := by kernel_rfl
theorem p88_7_4 : pj (regOf Try.f88 7) 4 = some (some 30, .unOp .not 4 (.tmp 29), 4, none) := by kernel_rfl
theorem p88_9_0 : pj (regOf Try.f88 9) 0 = some (some 31, .binOp .add 3 (.tmp 17) (.const (.int .i64 1)) 3, 3, none) := by kernel_rfl
theorem p88_9_1 : pj (regOf Try.f88 9) 1 = some (some 17, .move (.tmp 31), 3, none) := by kernel_rfl
theorem p88_8_0 : pj (regOf Try.f88 8) 0 = some (some 6, .assign (.const (.bool false)), 4, none) := by kernel_rfl
theorem p88_10_0 : pj (regOf Try.f88 10) 0 = some (some 6, .assign (.const (.bool true)), 4, none) := by kernel_rfl
theorem p88_2_0 : pj (regOf Try.f88 2) 0 = some (some 6, .assign (.const (.bool false)), 4, none) := by kernel_rfl
set_option maxHeartbeats 4000000 in
theorem eqfunc_o (A B : Option Addr) (c cb : Nat) (xs ys : List OV) (b : Bool) (hb : lsame xs ys = b) (hx : ∀ x ∈ xs, okO x) (hy : ∀ x ∈ ys, okO x) (w : World) (hF : Kd.C dO w A xs.length xs) (hG : Kd.C dO w B ys.length ys) (hmx : xs.length ≤ 1000000000000) : Calls Try.prog 88 #[.slice A xs.length c, .slice B ys.length cb, .func (.func 89) #[] #[]] w fun e w' => e = .returned (.bool b) ∧ Kp w w' (fun _ => False) := by
  have K_0 := Kp.refl w (fun _ => False)
  refine enter (args := [Value.slice A xs.length c, Value.slice B ys.length cb, Value.func (.func 89) #[] #[]]) (n := 32) Try.func88 body88 rfl rfl rfl ?_
  intro a hE
  refine c_reg R88_0_l ?_
  refine q0 p88_0_0 hE (st_assign rfl) ?_
  clear hE a; intro a hE
  refine p_nil ?_
  refine x_norm ?_
  refine wp_seq ?_
  rcases Decidable.em (xs.length = ys.length) with hLN | hLN
  ·
    refine c_reg R88_1_l ?_
    refine q0 p88_1_0 hE (st_move rfl) ?_
    clear hE a; intro a hE
    refine q0 p88_1_1 hE (st_len Try.underlying58 rfl) ?_
    clear hE a; intro a hE
    refine q0 p88_1_2 hE (st_move rfl) ?_
    clear hE a; intro a hE
    refine q0 p88_1_3 hE (st_len Try.underlying58 rfl) ?_
    clear hE a; intro a hE
    refine q0 p88_1_4 hE (st_neq (b := false) rfl rfl (by simp [hLN])) ?_
    clear hE a; intro a hE
    refine p_nil ?_
    refine x_norm ?_
    refine c_cond (t := false) hE rfl ?_
    refine wp_skip ?_
    refine x_norm ?_
    refine wp_seq ?_
    refine c_reg R88_3_l ?_
    refine q0 p88_3_0 hE (st_move rfl) ?_
    clear hE a; intro a hE
    refine q0 p88_3_1 hE (st_len Try.underlying58 rfl) ?_
    clear hE a; intro a hE
    refine q0 p88_3_2 hE (st_move rfl) ?_
    clear hE a; intro a hE
    refine p_nil ?_
    refine x_norm ?_
    refine wp_block ?_
    refine c_loop (α := Nat) (fun k a W => En 32 a [(0, Value.slice A xs.length c), (1, Value.slice B ys.length cb), (2, Value.func (.func 89) #[] #[]), (14, Value.bool false), (15, Value.slice A xs.length c), (16, Value.int .i64 (xs.length : Int)), (17, Value.int .i64 (k : Int))] ∧ k ≤ xs.length ∧ (∀ j, j < k → osame (xs.getD j zO) (ys.getD j zO) = true) ∧ Kp w W (fun _ => False)) (fun k => xs.length - k) (0) ?_ ?_
    ·
      exact ⟨En.sub hE ⟨rfl, rfl, rfl, rfl, rfl, rfl, rfl, trivial⟩, Nat.zero_le _, fun j hj => absurd hj (Nat.not_lt_zero j), K_0⟩
    ·
      clear hE a
      rintro k a w1 ⟨hE, hk9, hall, K_0⟩
      rcases Decidable.em ((k : Int) < (xs.length : Int)) with hK1 | hK1
      ·
        refine c_reg R88_4_l ?_
        refine q0 p88_4_0 hE (st_lss (b := true) rfl rfl (decide_eq_true hK1)) ?_
        clear hE a; intro a hE
        refine p_nil ?_
        refine x_norm ?_
        refine wp_seq ?_
        refine c_cond (t := true) hE rfl ?_
        refine wp_skip ?_
        refine x_norm ?_
        refine wp_seq ?_
        refine wp_block ?_
        have hkx : k < xs.length := by omega
        have hky : k < ys.length := by omega
        obtain ⟨hAe2, cce2, hKe2, hce2⟩ := C_elem (i := k) hF zO (show k < xs.length by omega)
        obtain ⟨x, hxe2⟩ : ∃ x, List.getD xs k zO = x := ⟨_, rfl⟩
        rw [hxe2] at hKe2
        obtain ⟨Ae2, qe2, Te2, ce2, rfl, hle2, hme2, hCe2, hDe2⟩ := opt_open hKe2
        obtain ⟨hAe3, cce3, hKe3, hce3⟩ := C_elem (i := k) hG zO (show k < ys.length by omega)
        obtain ⟨y, hxe3⟩ : ∃ x, List.getD ys k zO = x := ⟨_, rfl⟩
        rw [hxe3] at hKe3
        obtain ⟨Ae3, qe3, Te3, ce3, rfl, hle3, hme3, hCe3, hDe3⟩ := opt_open hKe3
        have hokx := hx _ (getD_mem hkx zO)
        rw [hxe2] at hokx
        have hoky := hy _ (getD_mem hky zO)
        rw [hxe3] at hoky
        refine c_reg R88_5_l ?_
        refine q0 p88_5_0 hE (st_move rfl) ?_
        clear hE a; intro a hE
        refine q0 p88_5_1 hE (st_indexAddrR (i := k) (s := 19) Try.underlying58 tS64 hAe2 rfl rfl (by omega)) ?_
        clear hE a; intro a hE
        refine q0 p88_5_2 hE (st_loadR (off := k * 19) (j := 0) (k := 19) (vs := ([Value.int .i64 x.1, Value.slice Ae2 x.2.1.length qe2] ++ b16 (adr x) ++ [Value.slice Te2 x.2.2.2.length ce2])) tA64 tS64 (fun j u h => cell_to K_0 (hce2 j u h)) rfl rfl (by omega) rfl) ?_
        clear hE a; intro a hE
        refine p_cons (s_alloc p88_5_3 hE wn_none rfl tZ64 ?_)
        clear hE a; intro g4 w5 z6 B_g4 hk a hE
        replace B_g4 : w5.heap[g4]? = some (.cells (([Value.int .i64 0, Value.slice none 0 0] ++ b16 (fun _ => 0) ++ [Value.slice none 0 0])).toArray 64 (0, 0)) := B_g4
        have z_0_g4 := Nat.le_trans K_0.kept.1 z6
        replace K_0 := K_0.then_ hk (fun _ h => h.elim)
        clear hk
        refine q0 p88_5_4 hE (st_assign rfl) ?_
        clear hE a; intro a hE
        refine p_cons (s_store (off := 0) (k := 19) (cs' := (([Value.int .i64 x.1, Value.slice Ae2 x.2.1.length qe2] ++ b16 (adr x) ++ [Value.slice Te2 x.2.2.2.length ce2])).toArray) p88_5_5 hE wn_none tS64 rfl rfl rfl rfl B_g4 (Nat.le_of_ble_eq_true rfl) rfl ?_)
        intro w7 B_g4' hk
        replace K_0 := K_0.then_ hk (fun k h => by rw [show k = g4 from h]; exact Or.inr z_0_g4)
        replace B_g4 := B_g4'
        clear hk
        refine p_nil ?_
        refine x_norm ?_
        refine c_reg R88_6_l ?_
        refine q0 p88_6_0 hE (st_move rfl) ?_
        clear hE a; intro a hE
        refine q0 p88_6_1 hE (st_move rfl) ?_
        clear hE a; intro a hE
        refine q0 p88_6_2 hE (st_indexAddrR (i := k) (s := 19) Try.underlying58 tS64 hAe3 rfl rfl (by omega)) ?_
        clear hE a; intro a hE
        refine q0 p88_6_3 hE (st_loadR (off := k * 19) (j := 0) (k := 19) (vs := ([Value.int .i64 y.1, Value.slice Ae3 y.2.1.length qe3] ++ b16 (adr y) ++ [Value.slice Te3 y.2.2.2.length ce3])) tA64 tS64 (fun j u h => cell_to K_0 (hce3 j u h)) rfl rfl (by omega) rfl) ?_
        clear hE a; intro a hE
        refine p_cons (s_alloc p88_6_4 hE wn_none rfl tZ64 ?_)
        clear hE a; intro g8 w9 z10 B_g8 hk a hE
        replace B_g8 : w9.heap[g8]? = some (.cells (([Value.int .i64 0, Value.slice none 0 0] ++ b16 (fun _ => 0) ++ [Value.slice none 0 0])).toArray 64 (0, 0)) := B_g8
        have n_g4_g8 : g4 ≠ g8 := ne_new B_g4 z10
        have z_0_g8 := Nat.le_trans K_0.kept.1 z10
        replace B_g4 := kp_blk B_g4 hk (fun h => h)
        replace K_0 := K_0.then_ hk (fun _ h => h.elim)
        clear hk
        refine p_cons (s_store (off := 0) (k := 19) (cs' := (([Value.int .i64 y.1, Value.slice Ae3 y.2.1.length qe3] ++ b16 (adr y) ++ [Value.slice Te3 y.2.2.2.length ce3])).toArray) p88_6_5 hE wn_none tS64 rfl rfl rfl rfl B_g8 (Nat.le_of_ble_eq_true rfl) rfl ?_)
        intro w11 B_g8' hk
        replace B_g4 := kp_blk B_g4 hk n_g4_g8
        replace K_0 := K_0.then_ hk (fun k h => by rw [show k = g8 from h]; exact Or.inr z_0_g8)
        replace B_g8 := B_g8'
        clear hk
        refine p_nil ?_
        refine x_norm ?_
        rcases Decidable.em (osame x y = true) with hOS | hOS
        ·
          refine c_reg R88_7_l ?_
          refine q0 p88_7_0 hE (st_move rfl) ?_
          clear hE a; intro a hE
          refine q0 p88_7_1 hE (st_loadN (off := 0) (k := 19) (vs := ([Value.int .i64 x.1, Value.slice Ae2 x.2.1.length qe2] ++ b16 (adr x) ++ [Value.slice Te2 x.2.2.2.length ce2])) tA64 tS64 rfl B_g4 rfl rfl) ?_
          clear hE a; intro a hE
          refine q0 p88_7_2 hE (st_loadN (off := 0) (k := 19) (vs := ([Value.int .i64 y.1, Value.slice Ae3 y.2.1.length qe3] ++ b16 (adr y) ++ [Value.slice Te3 y.2.2.2.length ce3])) tA64 tS64 rfl B_g8 rfl rfl) ?_
          clear hE a; intro a hE
          refine p_cons (s_callv (fst := []) (cap := []) (xs := [Operand.tmp 27, Operand.tmp 28]) (args := [Value.agg (([Value.int .i64 x.1, Value.slice Ae2 x.2.1.length qe2] ++ b16 (adr x) ++ [Value.slice Te2 x.2.2.2.length ce2])).toArray, Value.agg (([Value.int .i64 y.1, Value.slice Ae3 y.2.1.length qe3] ++ b16 (adr y) ++ [Value.slice Te3 y.2.2.2.length ce3])).toArray]) p88_7_3 hE wn_none rfl rfl rfl Try.func89 cl89 (same_o x.1 x.2.1 x.2.2.2 (adr x) Ae2 Te2 qe2 ce2 y.1 y.2.1 y.2.2.2 (adr y) Ae3 Te3 qe3 ce3 true hOS hokx.1 hoky.1 _ (fun W' hk => C_to hCe2 (K_0.then_ hk (fun _ h => h.elim))) (fun W' hk => C_to hDe2 (K_0.then_ hk (fun _ h => h.elim))) (fun W' hk => C_to hCe3 (K_0.then_ hk (fun _ h => h.elim))) (fun W' hk => C_to hDe3 (K_0.then_ hk (fun _ h => h.elim))) hokx.2.1 hokx.2.2 hme2 hme3 hoky.2.2) ?_)
          rintro e w12 ⟨rfl, hk⟩
          replace B_g4 := kp_blk B_g4 hk (fun h => h)
          replace B_g8 := kp_blk B_g8 hk (fun h => h)
          replace K_0 := K_0.then_ hk (fun _ h => h.elim)
          refine ⟨_, rfl, ?_⟩
          clear hE a; intro a hE
          refine q0 p88_7_4 hE (st_not rfl rfl) ?_
          clear hE a; intro a hE
          refine p_nil ?_
          refine x_norm ?_
          refine c_cond (t := false) hE rfl ?_
          refine wp_skip ?_
          refine x_normB ?_
          refine x_norm ?_
          refine c_regL R88_9_l ?_
          refine q0 p88_9_0 hE (st_add (z := (k : Int) + 1) rfl rfl (wr_i64 _ (by omega) (by omega))) ?_
          clear hE a; intro a hE
          refine q0 p88_9_1 hE (st_move rfl) ?_
          clear hE a; intro a hE
          refine p_nil ?_
          refine x_norm ?_
          have hsk : osame (xs.getD k zO) (ys.getD k zO) = true := by rw [hxe2, hxe3]; exact hOS
          exact ⟨k + 1, by omega, En.sub hE ⟨rfl, rfl, rfl, rfl, rfl, rfl, rfl, trivial⟩, by omega, fun j hj => by rcases Nat.lt_succ_iff_lt_or_eq.1 hj with h | h; exact hall j h; rw [h]; exact hsk, K_0⟩
        ·
          refine c_reg R88_7_l ?_
          refine q0 p88_7_0 hE (st_move rfl) ?_
          clear hE a; intro a hE
          refine q0 p88_7_1 hE (st_loadN (off := 0) (k := 19) (vs := ([Value.int .i64 x.1, Value.slice Ae2 x.2.1.length qe2] ++ b16 (adr x) ++ [Value.slice Te2 x.2.2.2.length ce2])) tA64 tS64 rfl B_g4 rfl rfl) ?_
          clear hE a; intro a hE
          refine q0 p88_7_2 hE (st_loadN (off := 0) (k := 19) (vs := ([Value.int .i64 y.1, Value.slice Ae3 y.2.1.length qe3] ++ b16 (adr y) ++ [Value.slice Te3 y.2.2.2.length ce3])) tA64 tS64 rfl B_g8 rfl rfl) ?_
          clear hE a; intro a hE
          refine p_cons (s_callv (fst := []) (cap := []) (xs := [Operand.tmp 27, Operand.tmp 28]) (args := [Value.agg (([Value.int .i64 x.1, Value.slice Ae2 x.2.1.length qe2] ++ b16 (adr x) ++ [Value.slice Te2 x.2.2.2.length ce2])).toArray, Value.agg (([Value.int .i64 y.1, Value.slice Ae3 y.2.1.length qe3] ++ b16 (adr y) ++ [Value.slice Te3 y.2.2.2.length ce3])).toArray]) p88_7_3 hE wn_none rfl rfl rfl Try.func89 cl89 (same_o x.1 x.2.1 x.2.2.2 (adr x) Ae2 Te2 qe2 ce2 y.1 y.2.1 y.2.2.2 (adr y) Ae3 Te3 qe3 ce3 false (by simpa [osame] using hOS) hokx.1 hoky.1 _ (fun W' hk => C_to hCe2 (K_0.then_ hk (fun _ h => h.elim))) (fun W' hk => C_to hDe2 (K_0.then_ hk (fun _ h => h.elim))) (fun W' hk => C_to hCe3 (K_0.then_ hk (fun _ h => h.elim))) (fun W' hk => C_to hDe3 (K_0.then_ hk (fun _ h => h.elim))) hokx.2.1 hokx.2.2 hme2 hme3 hoky.2.2) ?_)
          rintro e w13 ⟨rfl, hk⟩
          replace B_g4 := kp_blk B_g4 hk (fun h => h)
          replace B_g8 := kp_blk B_g8 hk (fun h => h)
          replace K_0 := K_0.then_ hk (fun _ h => h.elim)
          refine ⟨_, rfl, ?_⟩
          clear hE a; intro a hE
          refine q0 p88_7_4 hE (st_not rfl rfl) ?_
          clear hE a; intro a hE
          refine p_nil ?_
          refine x_norm ?_
          refine c_cond (t := true) hE rfl ?_
          refine c_reg R88_8_l ?_
          refine q0 p88_8_0 hE (st_assign rfl) ?_
          clear hE a; intro a hE
          refine p_nil ?_
          refine x_norm ?_
          refine wp_ret ?_
          refine x_retB ?_
          refine x_ret ?_
          refine x_ret ?_
          refine x_retB ?_
          refine x_ret ?_
          refine ret_one (v := Value.bool false) rfl hE (.tmp rfl .nil) ?_
          exact ⟨by rw [← hb, show lsame xs ys = false from by exact lsame_no hkx (by rw [hxe2, hxe3]; simpa using hOS)], K_0⟩
      ·
        refine c_reg R88_4_l ?_
        refine q0 p88_4_0 hE (st_lss (b := false) rfl rfl (decide_eq_false hK1)) ?_
        clear hE a; intro a hE
        refine p_nil ?_
        refine x_norm ?_
        refine wp_seq ?_
        refine c_cond (t := false) hE rfl ?_
        refine wp_exit ?_
        refine x_exit ?_
        refine x_exit ?_
        refine x_in ?_
        refine x_norm ?_
        refine c_reg R88_10_l ?_
        refine q0 p88_10_0 hE (st_assign rfl) ?_
        clear hE a; intro a hE
        refine p_nil ?_
        refine x_norm ?_
        refine wp_ret ?_
        refine ret_one (v := Value.bool true) rfl hE (.tmp rfl .nil) ?_
        exact ⟨by rw [← hb, show lsame xs ys = true from by exact lsame_yes hLN (fun j hj => hall j (by omega))], K_0⟩
  ·
    refine c_reg R88_1_l ?_
    refine q0 p88_1_0 hE (st_move rfl) ?_
    clear hE a; intro a hE
    refine q0 p88_1_1 hE (st_len Try.underlying58 rfl) ?_
    clear hE a; intro a hE
    refine q0 p88_1_2 hE (st_move rfl) ?_
    clear hE a; intro a hE
    refine q0 p88_1_3 hE (st_len Try.underlying58 rfl) ?_
    clear hE a; intro a hE
    refine q0 p88_1_4 hE (st_neq (b := true) rfl rfl (by simp; exact fun h => hLN (by omega))) ?_
    clear hE a; intro a hE
    refine p_nil ?_
    refine x_norm ?_
    refine c_cond (t := true) hE rfl ?_
    refine c_reg R88_2_l ?_
    refine q0 p88_2_0 hE (st_assign rfl) ?_
    clear hE a; intro a hE
    refine p_nil ?_
    refine x_norm ?_
    refine wp_ret ?_
    refine x_ret ?_
    refine ret_one (v := Value.bool false) rfl hE (.tmp rfl .nil) ?_
    exact ⟨by rw [← hb, show lsame xs ys = false from by show lsame xs ys = _; unfold lsame; rw [decide_eq_false hLN]; rfl], K_0⟩
theorem R37_0_l : List.range (regOf Try.f37 0).size = [0] := by kernel_rfl
theorem R37_1_l : List.range (regOf Try.f37 1).size = [0, 1, 2, 3] := by kernel_rfl
theorem body37 : Try.f37.body = some (.seq (.region 0 (regOf Try.f37 0) false) (.seq (.region 1 (regOf Try.f37 1) false) (.ret))) := by kernel_rfl
theorem p37_0_0 : pj (regOf Try.f37 0) 0 = some (some 4, .assign (.const (.bool false)), 4, none) := by kernel_rfl
theorem p37_1_0 : pj (regOf Try.f37 1) 0 = some (some 5, .move (.tmp 0), 58, none) := by kernel_rfl
theorem p37_1_1 : pj (regOf Try.f37 1) 1 = some (some 6, .move (.tmp 1), 58, none) := by kernel_rfl
theorem p37_1_2 : pj (regOf Try.f37 1) 2 = some (some 7, .call { callee := .value (.func 88), args := #[.tmp 5, .tmp 6, .func 89], argTypes := #[58, 58, 149] }, 4, none) := by kernel_rfl
theorem cl88 : callable Try.f88 = true := by kernel_rfl
theorem p37_1_3 : pj (regOf Try.f37 1) 3 = some (some 4, .assign (.tmp 7), 4, none) := by kernel_rfl
set_option maxHeartbeats 4000000 in
theorem Same_o (A B : Option Addr) (c cb : Nat) (xs ys : List OV) (b : Bool) (hb : lsame xs ys = b) (hx : ∀ x ∈ xs, okO x) (hy : ∀ x ∈ ys, okO x) (w : World) (hF : Kd.C dO w A xs.length xs) (hG : Kd.C dO w B ys.length ys) (hmx : xs.length ≤ 1000000000000) : Calls Try.prog 37 #[.slice A xs.length c, .slice B ys.length cb] w fun e w' => e = .returned (.bool b) ∧ Kp w w' (fun _ => False) := by
  have K_0 := Kp.refl w (fun _ => False)
  refine enter (args := [Value.slice A xs.length c, Value.slice B ys.length cb]) (n := 8) Try.func37 body37 rfl rfl rfl ?_
  intro a hE
  refine c_reg R37_0_l ?_
  refine q0 p37_0_0 hE (st_assign rfl) ?_
  clear hE a; intro a hE
  refine p_nil ?_
  refine x_norm ?_
  refine c_reg R37_1_l ?_
  refine q0 p37_1_0 hE (st_move rfl) ?_
  clear hE a; intro a hE
  refine q0 p37_1_1 hE (st_move rfl) ?_
  clear hE a; intro a hE
  refine p_cons (s_call (xs := [Operand.tmp 5, Operand.tmp 6, Operand.func 89]) (args := [Value.slice A xs.length c, Value.slice B ys.length cb, Value.func (.func 89) #[] #[]]) p37_1_2 hE wn_none rfl rfl Try.func88 cl88 (eqfunc_o A B c cb xs ys b hb hx hy _ (C_to hF K_0) (C_to hG K_0) hmx) ?_)
  rintro e w1 ⟨rfl, hk⟩
  replace K_0 := K_0.then_ hk (fun _ h => h.elim)
  refine ⟨_, rfl, ?_⟩
  clear hE a; intro a hE
  refine q0 p37_1_3 hE (st_assign rfl) ?_
  clear hE a; intro a hE
  refine p_nil ?_
  refine x_norm ?_
  refine wp_ret ?_
  refine ret_one (v := Value.bool b) rfl hE (.tmp rfl .nil) ?_
  exact ⟨rfl, K_0⟩
theorem R38_0_l : List.range (regOf Try.f38 0).size = [0] := by kernel_rfl
theorem R38_1_l : List.range (regOf Try.f38 1).size = [0, 1, 2, 3, 4] := by kernel_rfl
theorem R38_2_l : List.range (regOf Try.f38 2).size = [0] := by kernel_rfl
theorem R38_3_l : List.range (regOf Try.f38 3).size = [0] := by kernel_rfl
theorem R38_4_l : List.range (regOf Try.f38 4).size = [0, 1, 2, 3] := by kernel_rfl
theorem R38_6_l : List.range (regOf Try.f38 6).size = [0, 1, 2, 3, 4, 5, 6, 7, 8, 9] := by kernel_rfl
theorem R38_7_l : List.range (regOf Try.f38 7).size = [0] := by kernel_rfl
theorem R38_5_l : List.range (regOf Try.f38 5).size = [0, 1, 2] := by kernel_rfl
theorem R38_8_l : List.range (regOf Try.f38 8).size = [0] := by kernel_rfl
theorem body38 : Try.f38.body = some (.seq (.region 0 (regOf Try.f38 0) false) (.seq (.seq (.region 1 (regOf Try.f38 1) false) (.cond (Operand.tmp 10) (.seq (.region 2 (regOf Try.f38 2) false) (.ret)) (.skip))) (.seq (.seq (.region 3 (regOf Try.f38 3) false) (.block 0 (.loop (.seq (.seq (.region 4 (regOf Try.f38 4) false) (.cond (Operand.tmp 14) (.skip) (.exit 0))) (.seq (.block 1 (.seq (.region 6 (regOf Try.f38 6) true) (.cond (Operand.tmp 26) (.seq (.region 7 (regOf Try.f38 7) false) (.ret)) (.skip)))) (.region 5 (regOf Try.f38 5) false)))))) (.seq (.region 8 (regOf Try.f38 8) false) (.ret))))) := by kernel_rfl
theorem p38_0_0 : pj (regOf Try.f38 0) 0 = some (some 4, .assign (.const (.bool false)), 4, none) := by kernel_rfl
theorem p38_1_0 : pj (regOf Try.f38 1) 0 = some (some 6, .move (.tmp 0), 57, none) := by kernel_rfl
theorem p38_1_1 : pj (regOf Try.f38 1) 1 = some (some 7, .call { callee := .builtin .len, args := #[.tmp 6], argTypes := #[57] }, 3, none) := by kernel_rfl
theorem p38_1_2 : pj (regOf Try.f38 1) 2 = some (some 8, .move (.tmp 1), 57, none) := by kernel_rfl
theorem p38_1_3 : pj (regOf Try.f38 1) 3 = some (some 9, .call { callee := .builtin .len, args := #[.tmp 8], argTypes := #[57] }, 3, none) := by kernel_rfl
theorem p38_1_4 : pj (regOf Try.f38 1) 4 = some (some 10, .binOp .neq 3 (.tmp 7) (.tmp 9) 3, 4, none) := by kernel_rfl
theorem p38_3_0 : pj (regOf Try.f38 3) 0 = some (some 5, .assign (.const (.int .i64 0)), 3, none) := by kernel_rfl
theorem p38_4_0 : pj (regOf Try.f38 4) 0 = some (some 11, .move (.tmp 5), 3, none) := by kernel_rfl
theorem p38_4_1 : pj (regOf Try.f38 4) 1 = some (some 12, .move (.tmp 0), 57, none) := by kernel_rfl
theorem p38_4_2 : pj (regOf Try.f38 4) 2 = some (some 13, .call { callee := .builtin .len, args := #[.tmp 12], argTypes := #[57] }, 3, none) := by kernel_rfl
theorem p38_4_3 : pj (regOf Try.f38 4) 3 = some (some 14, .binOp .lss 3 (.tmp 11) (.tmp 13) 3, 4, none) := by kernel_rfl
theorem ns38_6 : Region.noSelect (regOf Try.f38 6) = true := by kernel_rfl
theorem p38_6_0 : pj (regOf Try.f38 6) 0 = some (some 17, .move (.tmp 0), 57, none) := by kernel_rfl
theorem p38_6_1 : pj (regOf Try.f38 6) 1 = some (some 18, .move (.tmp 5), 3, none) := by kernel_rfl
theorem p38_6_2 : pj (regOf Try.f38 6) 2 = some (some 19, .indexAddr 57 (.tmp 17) (.tmp 18), 0, none) := by kernel_rfl
theorem tS80 : (Try.prog.info? 80).map (·.size) = some 19 := by kernel_rfl
theorem p38_6_3 : pj (regOf Try.f38 6) 3 = some (some 20, .load 80 (.tmp 19), 80, none) := by kernel_rfl
theorem tA80 : (Try.prog.underlying 80).map aggD = some true := by kernel_rfl
theorem p38_6_4 : pj (regOf Try.f38 6) 4 = some (some 21, .move (.tmp 1), 57, none) := by kernel_rfl
theorem p38_6_5 : pj (regOf Try.f38 6) 5 = some (some 22, .move (.tmp 5), 3, none) := by kernel_rfl
theorem p38_6_6 : pj (regOf Try.f38 6) 6 = some (some 23, .indexAddr 57 (.tmp 21) (.tmp 22), 0, none) := by kernel_rfl
theorem p38_6_7 : pj (regOf Try.f38 6) 7 = some (some 24, .load 80 (.tmp 23), 80, none) := by kernel_rfl
theorem p38_6_8 : pj (regOf Try.f38 6) 8 = some (some 25, .call { callee := .value (.func 51), args := #[.tmp 20, .tmp 24], argTypes := #[80, 80] }, 4, none) := by kernel_rfl
theorem cl51 : callable Try.f51 = true := by kernel_rfl
theorem p38_6_9 : pj (regOf Try.f38 6) 9 = some (some 26, .unOp .not 4 (.tmp 25), 4, none) := by kernel_rfl
theorem p38_5_0 : pj (regOf Try.f38 5) 0 = some (some 15, .move (.tmp 5), 3, none) := by kernel_rfl
theorem p38_5_1 : pj (regOf Try.f38 5) 1 = some (some 16, .binOp .add 3 (.tmp 15) (.const (.int .i64 1)) 3, 3, none) := by kernel_rfl
theorem p38_5_2 : pj (regOf Try.f38 5) 2 = some (some 5, .assign (.tmp 16), 3, none) := by kernel_rfl
theorem p38_7_0 : pj (regOf Try.f38 7) 0 = some (some 4, .assign (.const (.bool false)), 4, none) := by kernel_rfl
theorem p38_8_0 : pj (regOf Try.f38 8) 0 = some (some 4, .assign (.const (.bool true)), 4, none) := by kernel_rfl
theorem p38_2_0 : pj (regOf Try.f38 2) 0 = some (some 4, .assign (.const (.bool false)), 4, none) := by kernel_rfl
set_option maxHeartbeats 4000000 in
theorem All_o (A B : Option Addr) (c cb : Nat) (xs ys : List OV) (b : Bool) (hb : lsame xs ys = b) (hx : ∀ x ∈ xs, okO x) (hy : ∀ x ∈ ys, okO x) (w : World) (hF : Kd.C dO w A xs.length xs) (hG : Kd.C dO w B ys.length ys) (hmx : xs.length ≤ 1000000000000) : Calls Try.prog 38 #[.slice A xs.length c, .slice B ys.length cb] w fun e w' => e = .returned (.bool b) ∧ Kp w w' (fun _ => False) := by
  have K_0 := Kp.refl w (fun _ => False)
  refine enter (args := [Value.slice A xs.length c, Value.slice B ys.length cb]) (n := 27) Try.func38 body38 rfl rfl rfl ?_
  intro a hE
  refine c_reg R38_0_l ?_
  refine q0 p38_0_0 hE (st_assign rfl) ?_
  clear hE a; intro a hE
  refine p_nil ?_
  refine x_norm ?_
  refine wp_seq ?_
  rcases Decidable.em (xs.length = ys.length) with hLN | hLN
  ·
    refine c_reg R38_1_l ?_
    refine q0 p38_1_0 hE (st_move rfl) ?_
    clear hE a; intro a hE
    refine q0 p38_1_1 hE (st_len Try.underlying57 rfl) ?_
    clear hE a; intro a hE
    refine q0 p38_1_2 hE (st_move rfl) ?_
    clear hE a; intro a hE
    refine q0 p38_1_3 hE (st_len Try.underlying57 rfl) ?_
    clear hE a; intro a hE
    refine q0 p38_1_4 hE (st_neq (b := false) rfl rfl (by simp [hLN])) ?_
    clear hE a; intro a hE
    refine p_nil ?_
    refine x_norm ?_
    refine c_cond (t := false) hE rfl ?_
    refine wp_skip ?_
    refine x_norm ?_
    refine wp_seq ?_
    refine c_reg R38_3_l ?_
    refine q0 p38_3_0 hE (st_assign rfl) ?_
    clear hE a; intro a hE
    refine p_nil ?_
    refine x_norm ?_
    refine wp_block ?_
    refine c_loop (α := Nat) (fun k a W => En 27 a [(0, Value.slice A xs.length c), (1, Value.slice B ys.length cb), (10, Value.bool false), (5, Value.int .i64 (k : Int))] ∧ k ≤ xs.length ∧ (∀ j, j < k → osame (xs.getD j zO) (ys.getD j zO) = true) ∧ Kp w W (fun _ => False)) (fun k => xs.length - k) (0) ?_ ?_
    ·
      exact ⟨En.sub hE ⟨rfl, rfl, rfl, rfl, trivial⟩, Nat.zero_le _, fun j hj => absurd hj (Nat.not_lt_zero j), K_0⟩
    ·
      clear hE a
      rintro k a w1 ⟨hE, hk9, hall, K_0⟩
      refine wp_seq ?_
      rcases Decidable.em ((k : Int) < (xs.length : Int)) with hK1 | hK1
      ·
        refine c_reg R38_4_l ?_
        refine q0 p38_4_0 hE (st_move rfl) ?_
        clear hE a; intro a hE
        refine q0 p38_4_1 hE (st_move rfl) ?_
        clear hE a; intro a hE
        refine q0 p38_4_2 hE (st_len Try.underlying57 rfl) ?_
        clear hE a; intro a hE
        refine q0 p38_4_3 hE (st_lss (b := true) rfl rfl (decide_eq_true hK1)) ?_
        clear hE a; intro a hE
        refine p_nil ?_
        refine x_norm ?_
        refine c_cond (t := true) hE rfl ?_
        refine wp_skip ?_
        refine x_norm ?_
        refine wp_seq ?_
        refine wp_block ?_
        have hkx : k < xs.length := by omega
        have hky : k < ys.length := by omega
        obtain ⟨hAe2, cce2, hKe2, hce2⟩ := C_elem (i := k) hF zO (show k < xs.length by omega)
        obtain ⟨x, hxe2⟩ : ∃ x, List.getD xs k zO = x := ⟨_, rfl⟩
        rw [hxe2] at hKe2
        obtain ⟨Ae2, qe2, Te2, ce2, rfl, hle2, hme2, hCe2, hDe2⟩ := opt_open hKe2
        obtain ⟨hAe3, cce3, hKe3, hce3⟩ := C_elem (i := k) hG zO (show k < ys.length by omega)
        obtain ⟨y, hxe3⟩ : ∃ x, List.getD ys k zO = x := ⟨_, rfl⟩
        rw [hxe3] at hKe3
        obtain ⟨Ae3, qe3, Te3, ce3, rfl, hle3, hme3, hCe3, hDe3⟩ := opt_open hKe3
        have hokx := hx _ (getD_mem hkx zO)
        rw [hxe2] at hokx
        have hoky := hy _ (getD_mem hky zO)
        rw [hxe3] at hoky
        rcases Decidable.em (osame x y = true) with hOS | hOS
        ·
          refine c_drawS (S := fun W => (∀ j u, (([Value.int .i64 x.1, Value.slice Ae2 x.2.1.length qe2] ++ b16 (adr x) ++ [Value.slice Te2 x.2.2.2.length ce2]))[j]? = some u → W.cell? (ea A (k * 19 + j)) = some u) ∧ (∀ j u, (([Value.int .i64 y.1, Value.slice Ae3 y.2.1.length qe3] ++ b16 (adr y) ++ [Value.slice Te3 y.2.2.2.length ce3]))[j]? = some u → W.cell? (ea B (k * 19 + j)) = some u) ∧ True) rfl rfl (listed := #[false, false, false, false, false, false, false, false, false, false]) rfl ?_
          intro w4 hh hk
          replace K_0 := K_0.then_ hk (fun _ h => h.elim)
          clear hh hk
          refine d_take (v := Value.slice A xs.length c) p38_6_0 ns38_6 (by kernel_rfl) (by kernel_rfl) (fun _ _ _ h => h) hE wn_none rfl ⟨(fun j u h => cell_to K_0 (hce2 j u h)), (fun j u h => cell_to K_0 (hce3 j u h)), trivial⟩ (fun W hS => (st_move rfl)) rfl ?_
          clear hE a; intro a hE
          refine d_take (v := Value.int .i64 (k : Int)) p38_6_1 ns38_6 (by kernel_rfl) (by kernel_rfl) (fun _ _ _ h => h) hE wn_none rfl ⟨(fun j u h => cell_to K_0 (hce2 j u h)), (fun j u h => cell_to K_0 (hce3 j u h)), trivial⟩ (fun W hS => (st_move rfl)) rfl ?_
          clear hE a; intro a hE
          refine d_take (v := Value.pointer (some (ea A (k * 19)))) p38_6_2 ns38_6 (by kernel_rfl) (by kernel_rfl) (fun _ _ _ h => h) hE wn_none rfl ⟨(fun j u h => cell_to K_0 (hce2 j u h)), (fun j u h => cell_to K_0 (hce3 j u h)), trivial⟩ (fun W hS => (st_indexAddrR (i := k) (s := 19) Try.underlying57 tS80 hAe2 rfl rfl (by omega))) rfl ?_
          clear hE a; intro a hE
          refine d_take (v := Value.agg (([Value.int .i64 x.1, Value.slice Ae2 x.2.1.length qe2] ++ b16 (adr x) ++ [Value.slice Te2 x.2.2.2.length ce2])).toArray) p38_6_3 ns38_6 (by kernel_rfl) (by kernel_rfl) (fun _ _ _ h => h) hE wn_none rfl ⟨(fun j u h => cell_to K_0 (hce2 j u h)), (fun j u h => cell_to K_0 (hce3 j u h)), trivial⟩ (fun W hS => (st_loadR (off := k * 19) (j := 0) (k := 19) (vs := ([Value.int .i64 x.1, Value.slice Ae2 x.2.1.length qe2] ++ b16 (adr x) ++ [Value.slice Te2 x.2.2.2.length ce2])) tA80 tS80 (hS.1) rfl rfl (by omega) rfl)) rfl ?_
          clear hE a; intro a hE
          refine d_take (v := Value.slice B ys.length cb) p38_6_4 ns38_6 (by kernel_rfl) (by kernel_rfl) (fun _ _ _ h => h) hE wn_none rfl ⟨(fun j u h => cell_to K_0 (hce2 j u h)), (fun j u h => cell_to K_0 (hce3 j u h)), trivial⟩ (fun W hS => (st_move rfl)) rfl ?_
          clear hE a; intro a hE
          refine d_take (v := Value.int .i64 (k : Int)) p38_6_5 ns38_6 (by kernel_rfl) (by kernel_rfl) (fun _ _ _ h => h) hE wn_none rfl ⟨(fun j u h => cell_to K_0 (hce2 j u h)), (fun j u h => cell_to K_0 (hce3 j u h)), trivial⟩ (fun W hS => (st_move rfl)) rfl ?_
          clear hE a; intro a hE
          refine d_take (v := Value.pointer (some (ea B (k * 19)))) p38_6_6 ns38_6 (by kernel_rfl) (by kernel_rfl) (fun _ _ _ h => h) hE wn_none rfl ⟨(fun j u h => cell_to K_0 (hce2 j u h)), (fun j u h => cell_to K_0 (hce3 j u h)), trivial⟩ (fun W hS => (st_indexAddrR (i := k) (s := 19) Try.underlying57 tS80 hAe3 rfl rfl (by omega))) rfl ?_
          clear hE a; intro a hE
          refine d_take (v := Value.agg (([Value.int .i64 y.1, Value.slice Ae3 y.2.1.length qe3] ++ b16 (adr y) ++ [Value.slice Te3 y.2.2.2.length ce3])).toArray) p38_6_7 ns38_6 (by kernel_rfl) (by kernel_rfl) (fun _ _ _ h => h) hE wn_none rfl ⟨(fun j u h => cell_to K_0 (hce2 j u h)), (fun j u h => cell_to K_0 (hce3 j u h)), trivial⟩ (fun W hS => (st_loadR (off := k * 19) (j := 0) (k := 19) (vs := ([Value.int .i64 y.1, Value.slice Ae3 y.2.1.length qe3] ++ b16 (adr y) ++ [Value.slice Te3 y.2.2.2.length ce3])) tA80 tS80 (hS.2.1) rfl rfl (by omega) rfl)) rfl ?_
          clear hE a; intro a hE
          refine d_one (by kernel_rfl) rfl (s_call (xs := [Operand.tmp 20, Operand.tmp 24]) (args := [Value.agg (([Value.int .i64 x.1, Value.slice Ae2 x.2.1.length qe2] ++ b16 (adr x) ++ [Value.slice Te2 x.2.2.2.length ce2])).toArray, Value.agg (([Value.int .i64 y.1, Value.slice Ae3 y.2.1.length qe3] ++ b16 (adr y) ++ [Value.slice Te3 y.2.2.2.length ce3])).toArray]) p38_6_8 hE wn_none rfl rfl Try.func51 cl51 (rsame_o x.1 x.2.1 x.2.2.2 (adr x) Ae2 Te2 qe2 ce2 y.1 y.2.1 y.2.2.2 (adr y) Ae3 Te3 qe3 ce3 true hOS hokx.1 hoky.1 _ (fun W' hk => C_to hCe2 (K_0.then_ hk (fun _ h => h.elim))) (fun W' hk => C_to hDe2 (K_0.then_ hk (fun _ h => h.elim))) (fun W' hk => C_to hCe3 (K_0.then_ hk (fun _ h => h.elim))) (fun W' hk => C_to hDe3 (K_0.then_ hk (fun _ h => h.elim))) hokx.2.1 hokx.2.2 hme2 hme3 hoky.2.2) ?_)
          rintro e w5 ⟨rfl, hk⟩
          replace K_0 := K_0.then_ hk (fun _ h => h.elim)
          refine ⟨_, rfl, ?_⟩
          clear hE a; intro a hE
          refine ⟨⟨(fun j u h => cell_to K_0 (hce2 j u h)), (fun j u h => cell_to K_0 (hce3 j u h)), trivial⟩, ?_⟩
          refine d_take (v := Value.bool false) p38_6_9 ns38_6 (by kernel_rfl) (by kernel_rfl) (fun _ _ _ h => h) hE wn_none rfl ⟨(fun j u h => cell_to K_0 (hce2 j u h)), (fun j u h => cell_to K_0 (hce3 j u h)), trivial⟩ (fun W hS => (st_not rfl rfl)) rfl ?_
          clear hE a; intro a hE
          refine d_end (by kernel_rfl) ?_
          refine x_norm ?_
          refine c_cond (t := false) hE rfl ?_
          refine wp_skip ?_
          refine x_normB ?_
          refine x_norm ?_
          refine c_regL R38_5_l ?_
          refine q0 p38_5_0 hE (st_move rfl) ?_
          clear hE a; intro a hE
          refine q0 p38_5_1 hE (st_add (z := (k : Int) + 1) rfl rfl (wr_i64 _ (by omega) (by omega))) ?_
          clear hE a; intro a hE
          refine q0 p38_5_2 hE (st_assign rfl) ?_
          clear hE a; intro a hE
          refine p_nil ?_
          refine x_norm ?_
          have hsk : osame (xs.getD k zO) (ys.getD k zO) = true := by rw [hxe2, hxe3]; exact hOS
          exact ⟨k + 1, by omega, En.sub hE ⟨rfl, rfl, rfl, rfl, trivial⟩, by omega, fun j hj => by rcases Nat.lt_succ_iff_lt_or_eq.1 hj with h | h; exact hall j h; rw [h]; exact hsk, K_0⟩
        ·
          refine c_drawS (S := fun W => (∀ j u, (([Value.int .i64 x.1, Value.slice Ae2 x.2.1.length qe2] ++ b16 (adr x) ++ [Value.slice Te2 x.2.2.2.length ce2]))[j]? = some u → W.cell? (ea A (k * 19 + j)) = some u) ∧ (∀ j u, (([Value.int .i64 y.1, Value.slice Ae3 y.2.1.length qe3] ++ b16 (adr y) ++ [Value.slice Te3 y.2.2.2.length ce3]))[j]? = some u → W.cell? (ea B (k * 19 + j)) = some u) ∧ True) rfl rfl (listed := #[false, false, false, false, false, false, false, false, false, false]) rfl ?_
          intro w6 hh hk
          replace K_0 := K_0.then_ hk (fun _ h => h.elim)
          clear hh hk
          refine d_take (v := Value.slice A xs.length c) p38_6_0 ns38_6 (by kernel_rfl) (by kernel_rfl) (fun _ _ _ h => h) hE wn_none rfl ⟨(fun j u h => cell_to K_0 (hce2 j u h)), (fun j u h => cell_to K_0 (hce3 j u h)), trivial⟩ (fun W hS => (st_move rfl)) rfl ?_
          clear hE a; intro a hE
          refine d_take (v := Value.int .i64 (k : Int)) p38_6_1 ns38_6 (by kernel_rfl) (by kernel_rfl) (fun _ _ _ h => h) hE wn_none rfl ⟨(fun j u h => cell_to K_0 (hce2 j u h)), (fun j u h => cell_to K_0 (hce3 j u h)), trivial⟩ (fun W hS => (st_move rfl)) rfl ?_
          clear hE a; intro a hE
          refine d_take (v := Value.pointer (some (ea A (k * 19)))) p38_6_2 ns38_6 (by kernel_rfl) (by kernel_rfl) (fun _ _ _ h => h) hE wn_none rfl ⟨(fun j u h => cell_to K_0 (hce2 j u h)), (fun j u h => cell_to K_0 (hce3 j u h)), trivial⟩ (fun W hS => (st_indexAddrR (i := k) (s := 19) Try.underlying57 tS80 hAe2 rfl rfl (by omega))) rfl ?_
          clear hE a; intro a hE
          refine d_take (v := Value.agg (([Value.int .i64 x.1, Value.slice Ae2 x.2.1.length qe2] ++ b16 (adr x) ++ [Value.slice Te2 x.2.2.2.length ce2])).toArray) p38_6_3 ns38_6 (by kernel_rfl) (by kernel_rfl) (fun _ _ _ h => h) hE wn_none rfl ⟨(fun j u h => cell_to K_0 (hce2 j u h)), (fun j u h => cell_to K_0 (hce3 j u h)), trivial⟩ (fun W hS => (st_loadR (off := k * 19) (j := 0) (k := 19) (vs := ([Value.int .i64 x.1, Value.slice Ae2 x.2.1.length qe2] ++ b16 (adr x) ++ [Value.slice Te2 x.2.2.2.length ce2])) tA80 tS80 (hS.1) rfl rfl (by omega) rfl)) rfl ?_
          clear hE a; intro a hE
          refine d_take (v := Value.slice B ys.length cb) p38_6_4 ns38_6 (by kernel_rfl) (by kernel_rfl) (fun _ _ _ h => h) hE wn_none rfl ⟨(fun j u h => cell_to K_0 (hce2 j u h)), (fun j u h => cell_to K_0 (hce3 j u h)), trivial⟩ (fun W hS => (st_move rfl)) rfl ?_
          clear hE a; intro a hE
          refine d_take (v := Value.int .i64 (k : Int)) p38_6_5 ns38_6 (by kernel_rfl) (by kernel_rfl) (fun _ _ _ h => h) hE wn_none rfl ⟨(fun j u h => cell_to K_0 (hce2 j u h)), (fun j u h => cell_to K_0 (hce3 j u h)), trivial⟩ (fun W hS => (st_move rfl)) rfl ?_
          clear hE a; intro a hE
          refine d_take (v := Value.pointer (some (ea B (k * 19)))) p38_6_6 ns38_6 (by kernel_rfl) (by kernel_rfl) (fun _ _ _ h => h) hE wn_none rfl ⟨(fun j u h => cell_to K_0 (hce2 j u h)), (fun j u h => cell_to K_0 (hce3 j u h)), trivial⟩ (fun W hS => (st_indexAddrR (i := k) (s := 19) Try.underlying57 tS80 hAe3 rfl rfl (by omega))) rfl ?_
          clear hE a; intro a hE
          refine d_take (v := Value.agg (([Value.int .i64 y.1, Value.slice Ae3 y.2.1.length qe3] ++ b16 (adr y) ++ [Value.slice Te3 y.2.2.2.length ce3])).toArray) p38_6_7 ns38_6 (by kernel_rfl) (by kernel_rfl) (fun _ _ _ h => h) hE wn_none rfl ⟨(fun j u h => cell_to K_0 (hce2 j u h)), (fun j u h => cell_to K_0 (hce3 j u h)), trivial⟩ (fun W hS => (st_loadR (off := k * 19) (j := 0) (k := 19) (vs := ([Value.int .i64 y.1, Value.slice Ae3 y.2.1.length qe3] ++ b16 (adr y) ++ [Value.slice Te3 y.2.2.2.length ce3])) tA80 tS80 (hS.2.1) rfl rfl (by omega) rfl)) rfl ?_
          clear hE a; intro a hE
          refine d_one (by kernel_rfl) rfl (s_call (xs := [Operand.tmp 20, Operand.tmp 24]) (args := [Value.agg (([Value.int .i64 x.1, Value.slice Ae2 x.2.1.length qe2] ++ b16 (adr x) ++ [Value.slice Te2 x.2.2.2.length ce2])).toArray, Value.agg (([Value.int .i64 y.1, Value.slice Ae3 y.2.1.length qe3] ++ b16 (adr y) ++ [Value.slice Te3 y.2.2.2.length ce3])).toArray]) p38_6_8 hE wn_none rfl rfl Try.func51 cl51 (rsame_o x.1 x.2.1 x.2.2.2 (adr x) Ae2 Te2 qe2 ce2 y.1 y.2.1 y.2.2.2 (adr y) Ae3 Te3 qe3 ce3 false (by simpa [osame] using hOS) hokx.1 hoky.1 _ (fun W' hk => C_to hCe2 (K_0.then_ hk (fun _ h => h.elim))) (fun W' hk => C_to hDe2 (K_0.then_ hk (fun _ h => h.elim))) (fun W' hk => C_to hCe3 (K_0.then_ hk (fun _ h => h.elim))) (fun W' hk => C_to hDe3 (K_0.then_ hk (fun _ h => h.elim))) hokx.2.1 hokx.2.2 hme2 hme3 hoky.2.2) ?_)
          rintro e w7 ⟨rfl, hk⟩
          replace K_0 := K_0.then_ hk (fun _ h => h.elim)
          refine ⟨_, rfl, ?_⟩
          clear hE a; intro a hE
          refine ⟨⟨(fun j u h => cell_to K_0 (hce2 j u h)), (fun j u h => cell_to K_0 (hce3 j u h)), trivial⟩, ?_⟩
          refine d_take (v := Value.bool true) p38_6_9 ns38_6 (by kernel_rfl) (by kernel_rfl) (fun _ _ _ h => h) hE wn_none rfl ⟨(fun j u h => cell_to K_0 (hce2 j u h)), (fun j u h => cell_to K_0 (hce3 j u h)), trivial⟩ (fun W hS => (st_not rfl rfl)) rfl ?_
          clear hE a; intro a hE
          refine d_end (by kernel_rfl) ?_
          refine x_norm ?_
          refine c_cond (t := true) hE rfl ?_
          refine c_reg R38_7_l ?_
          refine q0 p38_7_0 hE (st_assign rfl) ?_
          clear hE a; intro a hE
          refine p_nil ?_
          refine x_norm ?_
          refine wp_ret ?_
          refine x_retB ?_
          refine x_ret ?_
          refine x_ret ?_
          refine x_retB ?_
          refine x_ret ?_
          refine ret_one (v := Value.bool false) rfl hE (.tmp rfl .nil) ?_
          exact ⟨by rw [← hb, show lsame xs ys = false from by exact lsame_no hkx (by rw [hxe2, hxe3]; simpa using hOS)], K_0⟩
      ·
        refine c_reg R38_4_l ?_
        refine q0 p38_4_0 hE (st_move rfl) ?_
        clear hE a; intro a hE
        refine q0 p38_4_1 hE (st_move rfl) ?_
        clear hE a; intro a hE
        refine q0 p38_4_2 hE (st_len Try.underlying57 rfl) ?_
        clear hE a; intro a hE
        refine q0 p38_4_3 hE (st_lss (b := false) rfl rfl (decide_eq_false hK1)) ?_
        clear hE a; intro a hE
        refine p_nil ?_
        refine x_norm ?_
        refine c_cond (t := false) hE rfl ?_
        refine wp_exit ?_
        refine x_exit ?_
        refine x_exit ?_
        refine x_in ?_
        refine x_norm ?_
        refine c_reg R38_8_l ?_
        refine q0 p38_8_0 hE (st_assign rfl) ?_
        clear hE a; intro a hE
        refine p_nil ?_
        refine x_norm ?_
        refine wp_ret ?_
        refine ret_one (v := Value.bool true) rfl hE (.tmp rfl .nil) ?_
        exact ⟨by rw [← hb, show lsame xs ys = true from by exact lsame_yes hLN (fun j hj => hall j (by omega))], K_0⟩
  ·
    refine c_reg R38_1_l ?_
    refine q0 p38_1_0 hE (st_move rfl) ?_
    clear hE a; intro a hE
    refine q0 p38_1_1 hE (st_len Try.underlying57 rfl) ?_
    clear hE a; intro a hE
    refine q0 p38_1_2 hE (st_move rfl) ?_
    clear hE a; intro a hE
    refine q0 p38_1_3 hE (st_len Try.underlying57 rfl) ?_
    clear hE a; intro a hE
    refine q0 p38_1_4 hE (st_neq (b := true) rfl rfl (by simp; exact fun h => hLN (by omega))) ?_
    clear hE a; intro a hE
    refine p_nil ?_
    refine x_norm ?_
    refine c_cond (t := true) hE rfl ?_
    refine c_reg R38_2_l ?_
    refine q0 p38_2_0 hE (st_assign rfl) ?_
    clear hE a; intro a hE
    refine p_nil ?_
    refine x_norm ?_
    refine wp_ret ?_
    refine x_ret ?_
    refine ret_one (v := Value.bool false) rfl hE (.tmp rfl .nil) ?_
    exact ⟨by rw [← hb, show lsame xs ys = false from by show lsame xs ys = _; unfold lsame; rw [decide_eq_false hLN]; rfl], K_0⟩
end Go.Proofs.Ytndiddfleidnaaa.Os
