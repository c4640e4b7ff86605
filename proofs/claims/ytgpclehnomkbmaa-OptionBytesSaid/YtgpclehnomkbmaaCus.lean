/- Cursors over bytes, of the program and of the document. -/
import Derived.Test.YtgpclehnomkbmaaRdv
import Derived.Test.YtgpclehnomkbmaaPackMore
set_option maxRecDepth 100000
set_option linter.unusedVariables false
set_option linter.unusedSimpArgs false
namespace Go.Proofs.Ytgpclehnomkbmaa.Cu
open Go.RowKit Go.Proofs.YtgpclehnomkbmaaW.PrintWords Go.Proofs.Ytgpclehnomkbmaa.Ds
open Go.Proofs.Ytgpclehnomkbmaa.Pk (Kp spanF span_any clone_b)
def joinF (l : List Int) : Int := l.foldl (fun n x => n * 256 + x) 0
def isB (l : List Int) : Prop := ∀ x ∈ l, 0 ≤ x ∧ x ≤ 255
/-- Of len bytes, p read, r was wrong: is there room for k more, what is wrong then, where it stands, what is read. -/
def okc (len p k : Nat) (r : Int) : Prop := r = 0 ∧ p + k ≤ len
instance (len p k : Nat) (r : Int) : Decidable (okc len p k r) := inferInstanceAs (Decidable (_ ∧ _))
def rN (len p k : Nat) (r : Int) : Int := if okc len p k r then 0 else if r = 0 then 4 else r
def pN (len p k : Nat) (r : Int) : Nat := if okc len p k r then p + k else p
def lN (l : List Int) (p k : Nat) (r : Int) : List Int := if okc l.length p k r then (l.drop p).take k else []
theorem lN_len (l : List Int) (p k : Nat) (r : Int) : (lN l p k r).length = if okc l.length p k r then k else 0 := by
 unfold lN
 split
 · rename_i h; rw [List.length_take, List.length_drop]; have := h.2; omega
 · rfl
theorem lN_le (l : List Int) (p k : Nat) (r : Int) : (lN l p k r).length ≤ k := by rw [lN_len]; split <;> omega
theorem lN_le2 (l : List Int) (p k : Nat) (r : Int) : (lN l p k r).length ≤ l.length := by
 rw [lN_len]
 split
 · rename_i h; have := h.2; omega
 · exact Nat.zero_le _
theorem pN_le {len p : Nat} (h : p ≤ len) (k : Nat) (r : Int) : pN len p k r ≤ len := by
 unfold pN
 split
 · rename_i h; exact h.2
 · exact h
theorem isB_lN {l : List Int} (h : isB l) (p k : Nat) (r : Int) : isB (lN l p k r) := by
 unfold lN
 split
 · exact fun x hx => h x (List.mem_of_mem_drop (List.mem_of_mem_take hx))
 · exact fun x hx => absurd hx (by simp)
theorem join_bd : ∀ (l : List Int), isB l → l.length ≤ 4 → 0 ≤ joinF l ∧ joinF l < 4294967296
 | [], _, _ => by decide
 | [a], h, _ => by have h1 := h a (by simp); show 0 ≤ 0 * 256 + a ∧ 0 * 256 + a < _; omega
 | [a, b], h, _ => by have h1 := h a (by simp); have h2 := h b (by simp); show 0 ≤ (0 * 256 + a) * 256 + b ∧ (0 * 256 + a) * 256 + b < _; omega
 | [a, b, c], h, _ => by have h1 := h a (by simp); have h2 := h b (by simp); have h3 := h c (by simp); show 0 ≤ ((0 * 256 + a) * 256 + b) * 256 + c ∧ ((0 * 256 + a) * 256 + b) * 256 + c < _; omega
 | [a, b, c, d], h, _ => by have h1 := h a (by simp); have h2 := h b (by simp); have h3 := h c (by simp); have h4 := h d (by simp); show 0 ≤ (((0 * 256 + a) * 256 + b) * 256 + c) * 256 + d ∧ (((0 * 256 + a) * 256 + b) * 256 + c) * 256 + d < _; omega
 | _ :: _ :: _ :: _ :: _ :: _, _, h => by simp only [List.length_cons] at h; omega
theorem join_take (l : List Int) (j : Nat) (h : j < l.length) : joinF (l.take (j + 1)) = joinF (l.take j) * 256 + rd l (j : Int) := by
 unfold joinF
 rw [List.take_succ_eq_append_getElem h, List.foldl_append]
 simp [rd, rdOf, List.getD_eq_getElem?_getD, h]
theorem isB_take {l : List Int} (h : isB l) (n : Nat) : isB (l.take n) := fun x hx => h x (List.mem_of_mem_take hx)
theorem isB_rd {l : List Int} (h : isB l) {j : Nat} (hj : j < l.length) : 0 ≤ rd l (j : Int) ∧ rd l (j : Int) ≤ 255 := h _ (by simp [rd, rdOf, List.getD_eq_getElem?_getD, hj])
/-- A part of a row. -/
theorem C_cut {α : Type} {dd : Kd α} {w : World} {xs : List α} {A A' : Option Addr} {n c lo k : Nat} (z : α) (hC : dd.C w A n xs) (hc : n ≤ c) (hlo : lo + k ≤ n) (hA : (if c = lo then A else A.map (·.add (lo * dd.sz))) = A') : dd.C w A' k ((xs.drop lo).take k) := by
 have hl : xs.length = n := hC.1
 refine ⟨by rw [List.length_take, List.length_drop]; omega, by have := hC.2.1; omega, fun hk => ?_⟩
 rw [if_neg (by omega)] at hA
 subst hA
 obtain ⟨ad, e, h⟩ := hC.2.2 (by omega)
 subst e
 refine ⟨_, rfl, fun j p hj => ?_⟩
 have hjk : j < k := by
  have := (List.getElem?_eq_some_iff.1 hj).1
  rw [List.length_take] at this; omega
 have hj2 : xs[lo + j]? = some p := by
  rw [List.getElem?_take_of_lt hjk, List.getElem?_drop] at hj; exact hj
 obtain ⟨c, hl, hK, hc⟩ := h (lo + j) p hj2
 refine ⟨c, hl, hK, fun i u hu => ?_⟩
 have := hc i u hu
 rw [addr_add2, show lo * dd.sz + (j * dd.sz + i) = (lo + j) * dd.sz + i by rw [Nat.add_mul, Nat.add_assoc]]
 exact this
section
variable {P : Program} {T T1 T2 : TypeId} {m : List (Nat × Value)} {w : World} {X Y L H : Operand} {A : Option Addr} {n c s : Nat} {e : TypeId} {k : IntKind}
theorem st_eqlP {p : Option Addr} {b : Bool} (hT : P.underlying T1 = some (.pointer (P.pointee T1))) (h1 : ev m X = some (.pointer p)) (h2 : ev m Y = some (.pointer none)) (hb : p.isNone = b) : Still P (.binOp .eql T1 X Y T2) T m w (.bool b) := fun n a hE o e1 e2 => by
 subst hb; unfold execOp; rw [e1]
 simp [hE.ev h1, hE.ev h2, eqGuard, run_eql_pointer_nil w T1 p hT]
theorem st_neqP {p : Option Addr} {b : Bool} (hT : P.underlying T1 = some (.pointer (P.pointee T1))) (h1 : ev m X = some (.pointer p)) (h2 : ev m Y = some (.pointer none)) (hb : (!p.isNone) = b) : Still P (.binOp .neq T1 X Y T2) T m w (.bool b) := fun n a hE o e1 e2 => by
 subst hb; unfold execOp; rw [e1]
 simp [hE.ev h1, hE.ev h2, eqGuard, run_neq_pointer_nil w T1 p hT]
theorem st_sliceLHM {M : Operand} {lo hi mx r q : Nat} {k2 k3 : IntKind} {A' : Option Addr} (hT : P.underlying T1 = some (.slice e)) (hs : (P.info? e).map (·.size) = some s) (h1 : ev m X = some (.slice A n c)) (h2 : ev m L = some (.int k (lo : Int))) (h3 : ev m H = some (.int k2 (hi : Int))) (h4 : ev m M = some (.int k3 (mx : Int))) (hl : lo ≤ hi) (hh : hi ≤ mx) (hm : mx ≤ c) (hr : hi - lo = r) (hq : mx - lo = q) (hA : (if mx = lo then A else A.map (·.add (lo * s))) = A') : Still P (.slice T1 X (some L) (some H) (some M)) T m w (.slice A' r q) := fun z a hE o e1 e2 => by
 unfold execOp; rw [e1]
 simp [hE.ev h1, hE.ev h2, hE.ev h3, hE.ev h4, Instr.sliceAt, Instr.slice, Instr.sliceBounds, Instr.sliceBound, asIntOf, run_underlying hT, run_sizeD hs, hl, hh, hm, hA, hr, hq]
end
theorem R50_0_l : List.range (regOf Try.f50 0).size = [0] := by kernel_rfl
theorem R50_1_l : List.range (regOf Try.f50 1).size = [0, 1, 2, 3, 4] := by kernel_rfl
theorem body50 : Try.f50.body = some (.seq (.region 0 (regOf Try.f50 0) false) (.seq (.region 1 (regOf Try.f50 1) false) (.ret))) := by kernel_rfl
theorem p50_0_0 : pj (regOf Try.f50 0) 0 = some (some 2, .assign (.const (.pointer none)), 104, none) := by kernel_rfl
theorem p50_1_0 : pj (regOf Try.f50 1) 0 = some (some 3, .move (.tmp 0), 22, none) := by kernel_rfl
theorem p50_1_1 : pj (regOf Try.f50 1) 1 = some (some 4, .build 186 #[(0, .tmp 3)], 186, none) := by kernel_rfl
theorem p50_1_2 : pj (regOf Try.f50 1) 2 = some (some 5, .build 188 #[(0, .tmp 4)], 188, none) := by kernel_rfl
theorem p50_1_3 : pj (regOf Try.f50 1) 3 = some (some 6, .box 188 (.tmp 5), 104, none) := by kernel_rfl
theorem p50_1_4 : pj (regOf Try.f50 1) 4 = some (some 2, .assign (.tmp 6), 104, none) := by kernel_rfl
set_option maxHeartbeats 4000000 in
theorem over_c (A : Option Addr) (n c : Nat) (w : World) : Calls Try.prog 50 #[.slice A n c] w fun e w' => ∃ g, e = .returned (.pointer (some ⟨g, 0, none⟩)) ∧ w.heap.size ≤ g ∧ w'.heap[g]? = some (.cells #[.slice A n c, .int .i64 0, .int .i64 0] 188 (0, 0)) ∧ Kp w w' (fun _ => False) := by
 have K_0 := Kp.refl w (fun _ => False)
 refine enter (args := [Value.slice A n c]) (n := 7) Try.func50 body50 rfl rfl rfl ?_
 intro a hE
 refine c_reg R50_0_l ?_
 refine q0 p50_0_0 hE (st_assign rfl) ?_; clear hE a; intro a hE
 refine p_nil (x_norm (c_reg R50_1_l ?_))
 refine q0 p50_1_0 hE (st_move rfl) ?_; clear hE a; intro a hE
 refine q0 p50_1_1 hE (st_build (xs := [(0, Operand.tmp 3)]) (vs := [(0, Value.slice A n c)]) (cs := #[Value.slice A n c, Value.int .i64 0]) rfl (by kernel_rfl)) ?_; clear hE a; intro a hE
 refine q0 p50_1_2 hE (st_build (xs := [(0, Operand.tmp 4)]) (vs := [(0, Value.agg #[Value.slice A n c, Value.int .i64 0])]) (cs := #[Value.slice A n c, Value.int .i64 0, Value.int .i64 0]) rfl (by kernel_rfl)) ?_; clear hE a; intro a hE
 refine p_cons (s_box p50_1_3 hE wn_none rfl rfl ?_)
 clear hE a; intro g1 w2 z3 B_g1 hk a hE
 replace B_g1 : w2.heap[g1]? = some (.cells #[Value.slice A n c, Value.int .i64 0, Value.int .i64 0] 188 (0, 0)) := B_g1
 have z_0_g1 := Nat.le_trans K_0.kept.1 z3
 replace K_0 := K_0.then_ hk (fun _ h => h.elim)
 clear hk
 refine q0 p50_1_4 hE (st_assign rfl) ?_; clear hE a; intro a hE
 refine p_nil (x_norm (wp_ret ?_))
 refine ret_one (v := Value.pointer (some ⟨g1, 0, none⟩)) rfl hE (.tmp rfl .nil) ?_
 exact ⟨g1, rfl, z_0_g1, B_g1, K_0⟩
theorem R108_0_l : List.range (regOf Try.f108 0).size = [0] := by kernel_rfl
theorem body108 : Try.f108.body = some (.seq (.region 0 (regOf Try.f108 0) false) (.seq (.region 1 (regOf Try.f108 1) true) (.ret))) := by kernel_rfl
theorem p108_0_0 : pj (regOf Try.f108 0) 0 = some (some 2, .assign (.const (.int .i64 0)), 3, none) := by kernel_rfl
theorem ns108_1 : Region.noSelect (regOf Try.f108 1) = true := by kernel_rfl
theorem p108_1_0 : pj (regOf Try.f108 1) 0 = some (some 3, .move (.tmp 0), 225, none) := by kernel_rfl
theorem p108_1_1 : pj (regOf Try.f108 1) 1 = some (some 4, .nilCheck (.tmp 3), 0, none) := by kernel_rfl
theorem p108_1_2 : pj (regOf Try.f108 1) 2 = some (some 5, .fieldAddr 186 (.tmp 4) 0, 0, none) := by kernel_rfl
theorem tS22 : (Try.prog.info? 22).map (·.size) = some 1 := by kernel_rfl
theorem p108_1_3 : pj (regOf Try.f108 1) 3 = some (some 6, .load 22 (.tmp 5), 22, none) := by kernel_rfl
theorem tA22 : (Try.prog.underlying 22).map aggD = some false := by kernel_rfl
theorem p108_1_4 : pj (regOf Try.f108 1) 4 = some (some 7, .call { callee := .builtin .len, args := #[.tmp 6], argTypes := #[22] }, 3, none) := by kernel_rfl
theorem p108_1_5 : pj (regOf Try.f108 1) 5 = some (some 8, .move (.tmp 0), 225, none) := by kernel_rfl
theorem p108_1_6 : pj (regOf Try.f108 1) 6 = some (some 9, .nilCheck (.tmp 8), 0, none) := by kernel_rfl
theorem p108_1_7 : pj (regOf Try.f108 1) 7 = some (some 10, .fieldAddr 186 (.tmp 9) 1, 0, none) := by kernel_rfl
theorem tS3 : (Try.prog.info? 3).map (·.size) = some 1 := by kernel_rfl
theorem p108_1_8 : pj (regOf Try.f108 1) 8 = some (some 11, .load 3 (.tmp 10), 3, none) := by kernel_rfl
theorem tA3 : (Try.prog.underlying 3).map aggD = some false := by kernel_rfl
theorem p108_1_9 : pj (regOf Try.f108 1) 9 = some (some 12, .binOp .sub 3 (.tmp 7) (.tmp 11) 3, 3, none) := by kernel_rfl
theorem p108_1_10 : pj (regOf Try.f108 1) 10 = some (some 2, .assign (.tmp 12), 3, none) := by kernel_rfl
set_option maxHeartbeats 4000000 in
theorem lft_c (n : Nat) (g : Nat) (A : Option Addr) (c : Nat) (p : Nat) (r : Int) (w : World) (hp : p ≤ n) (hn : n ≤ 1000000000) (B_g : w.heap[g]? = some (.cells #[.slice A n c, .int .i64 (p : Int), .int .i64 r] 188 (0, 0))) : Calls Try.prog 108 #[.pointer (some ⟨g, 0, none⟩)] w fun e w' => e = .returned (.int .i64 ((n - p : Nat) : Int)) ∧ Kp w w' (fun _ => False) := by
 have K_0 := Kp.refl w (fun _ => False)
 refine enter (args := [Value.pointer (some ⟨g, 0, none⟩)]) (n := 13) Try.func108 body108 rfl rfl rfl ?_
 intro a hE
 refine c_reg R108_0_l ?_
 refine q0 p108_0_0 hE (st_assign rfl) ?_; clear hE a; intro a hE
 refine p_nil (x_norm ?_)
 refine c_drawS (S := fun W => W.heap[g]? = some (.cells #[Value.slice A n c, Value.int .i64 (p : Int), Value.int .i64 r] 188 (0, 0)) ∧ True) rfl rfl (listed := #[false, false, false, false, false, false, false, false, false, false, false]) rfl ?_
 intro w1 hh hk
 replace B_g := kp_blk B_g hk (fun h => h)
 replace K_0 := K_0.then_ hk (fun _ h => h.elim)
 clear hh hk
 refine Rv.dq (v := Value.pointer (some ⟨g, 0, none⟩)) p108_1_0 ns108_1 hE wn_none ⟨B_g, trivial⟩ (fun W hS => (st_move rfl)) ?_; clear hE a; intro a hE
 refine Rv.dq (v := Value.pointer (some ⟨g, 0, none⟩)) p108_1_1 ns108_1 hE wn_none ⟨B_g, trivial⟩ (fun W hS => (st_nil rfl)) ?_; clear hE a; intro a hE
 refine Rv.dq (v := Value.pointer (some ⟨g, 0, none⟩)) p108_1_2 ns108_1 hE wn_none ⟨B_g, trivial⟩ (fun W hS => (st_fieldAddr Try.underlying186 rfl tS22 rfl rfl)) ?_; clear hE a; intro a hE
 refine Rv.dq (v := Value.slice A n c) p108_1_3 ns108_1 hE wn_none ⟨B_g, trivial⟩ (fun W hS => (st_load1 tA22 rfl ((blk_cell hS.1 0).trans rfl))) ?_; clear hE a; intro a hE
 refine Rv.dq (v := Value.int .i64 (n : Int)) p108_1_4 ns108_1 hE wn_none ⟨B_g, trivial⟩ (fun W hS => (st_len Try.underlying22 rfl)) ?_; clear hE a; intro a hE
 refine Rv.dq (v := Value.pointer (some ⟨g, 0, none⟩)) p108_1_5 ns108_1 hE wn_none ⟨B_g, trivial⟩ (fun W hS => (st_move rfl)) ?_; clear hE a; intro a hE
 refine Rv.dq (v := Value.pointer (some ⟨g, 0, none⟩)) p108_1_6 ns108_1 hE wn_none ⟨B_g, trivial⟩ (fun W hS => (st_nil rfl)) ?_; clear hE a; intro a hE
 refine Rv.dq (v := Value.pointer (some ⟨g, 1, none⟩)) p108_1_7 ns108_1 hE wn_none ⟨B_g, trivial⟩ (fun W hS => (st_fieldAddr Try.underlying186 rfl tS3 rfl rfl)) ?_; clear hE a; intro a hE
 refine Rv.dq (v := Value.int .i64 (p : Int)) p108_1_8 ns108_1 hE wn_none ⟨B_g, trivial⟩ (fun W hS => (st_load1 tA3 rfl ((blk_cell hS.1 1).trans rfl))) ?_; clear hE a; intro a hE
 refine Rv.dq (v := Value.int .i64 ((n - p : Nat) : Int)) p108_1_9 ns108_1 hE wn_none ⟨B_g, trivial⟩ (fun W hS => (st_sub (z := ((n - p : Nat) : Int)) rfl rfl (by rw [wr_i64 _ (by omega) (by omega)]; omega))) ?_; clear hE a; intro a hE
 refine Rv.dq (v := Value.int .i64 ((n - p : Nat) : Int)) p108_1_10 ns108_1 hE wn_none ⟨B_g, trivial⟩ (fun W hS => (st_assign rfl)) ?_; clear hE a; intro a hE
 refine d_end (by kernel_rfl) ?_
 refine x_norm (wp_ret ?_)
 refine ret_one (v := Value.int .i64 ((n - p : Nat) : Int)) rfl hE (.tmp rfl .nil) ?_
 exact ⟨rfl, K_0⟩
theorem R51_0_l : List.range (regOf Try.f51 0).size = [0] := by kernel_rfl
theorem R51_1_l : List.range (regOf Try.f51 1).size = [0, 1] := by kernel_rfl
theorem R51_3_l : List.range (regOf Try.f51 3).size = [0, 1, 2, 3, 4] := by kernel_rfl
theorem body51 : Try.f51.body = some (.seq (.region 0 (regOf Try.f51 0) false) (.seq (.seq (.region 1 (regOf Try.f51 1) false) (.cond (Operand.tmp 4) (.seq (.region 2 (regOf Try.f51 2) false) (.ret)) (.skip))) (.seq (.region 3 (regOf Try.f51 3) false) (.ret)))) := by kernel_rfl
theorem p51_0_0 : pj (regOf Try.f51 0) 0 = some (some 2, .assign (.const (.int .i64 0)), 3, none) := by kernel_rfl
theorem p51_1_0 : pj (regOf Try.f51 1) 0 = some (some 3, .move (.tmp 0), 104, none) := by kernel_rfl
theorem p51_1_1 : pj (regOf Try.f51 1) 1 = some (some 4, .binOp .eql 104 (.tmp 3) (.const (.pointer none)) 104, 4, none) := by kernel_rfl
theorem tP104 : Try.prog.underlying 104 = some (.pointer (Try.prog.pointee 104)) := by kernel_rfl
theorem p51_3_0 : pj (regOf Try.f51 3) 0 = some (some 5, .move (.tmp 0), 104, none) := by kernel_rfl
theorem p51_3_1 : pj (regOf Try.f51 3) 1 = some (some 6, .nilCheck (.tmp 5), 0, none) := by kernel_rfl
theorem p51_3_2 : pj (regOf Try.f51 3) 2 = some (some 7, .fieldAddr 188 (.tmp 6) 0, 0, none) := by kernel_rfl
theorem tS186 : (Try.prog.info? 186).map (·.size) = some 2 := by kernel_rfl
theorem p51_3_3 : pj (regOf Try.f51 3) 3 = some (some 8, .call { callee := .value (.func 108), args := #[.tmp 7], argTypes := #[186] }, 3, none) := by kernel_rfl
theorem cl108 : callable Try.f108 = true := by kernel_rfl
theorem p51_3_4 : pj (regOf Try.f51 3) 4 = some (some 2, .assign (.tmp 8), 3, none) := by kernel_rfl
set_option maxHeartbeats 4000000 in
theorem left_c (n : Nat) (g : Nat) (A : Option Addr) (c : Nat) (p : Nat) (r : Int) (w : World) (hp : p ≤ n) (hn : n ≤ 1000000000) (B_g : w.heap[g]? = some (.cells #[.slice A n c, .int .i64 (p : Int), .int .i64 r] 188 (0, 0))) : Calls Try.prog 51 #[.pointer (some ⟨g, 0, none⟩)] w fun e w' => e = .returned (.int .i64 ((n - p : Nat) : Int)) ∧ Kp w w' (fun _ => False) := by
 have K_0 := Kp.refl w (fun _ => False)
 refine enter (args := [Value.pointer (some ⟨g, 0, none⟩)]) (n := 9) Try.func51 body51 rfl rfl rfl ?_
 intro a hE
 refine c_reg R51_0_l ?_
 refine q0 p51_0_0 hE (st_assign rfl) ?_; clear hE a; intro a hE
 refine p_nil (x_norm (wp_seq (c_reg R51_1_l ?_)))
 refine q0 p51_1_0 hE (st_move rfl) ?_; clear hE a; intro a hE
 refine q0 p51_1_1 hE (st_eqlP (b := false) tP104 rfl rfl rfl) ?_; clear hE a; intro a hE
 refine p_nil (x_norm ?_)
 refine c_cond (t := false) hE rfl ?_
 refine wp_skip (x_norm (c_reg R51_3_l ?_))
 refine q0 p51_3_0 hE (st_move rfl) ?_; clear hE a; intro a hE
 refine q0 p51_3_1 hE (st_nil rfl) ?_; clear hE a; intro a hE
 refine q0 p51_3_2 hE (st_fieldAddr Try.underlying188 rfl tS186 rfl rfl) ?_; clear hE a; intro a hE
 refine p_cons (s_call (xs := [Operand.tmp 7]) (args := [Value.pointer (some ⟨g, 0, none⟩)]) p51_3_3 hE wn_none rfl rfl Try.func108 cl108 (lft_c _ g A c p _ _ (by omega) (by omega) B_g) ?_)
 rintro e w1 ⟨rfl, hk⟩
 replace B_g := kp_blk B_g hk (fun h => h)
 replace K_0 := K_0.then_ hk (fun _ h => h.elim)
 refine ⟨_, rfl, ?_⟩; clear hE a; intro a hE
 refine q0 p51_3_4 hE (st_assign rfl) ?_; clear hE a; intro a hE
 refine p_nil (x_norm (wp_ret ?_))
 refine ret_one (v := Value.int .i64 ((n - p : Nat) : Int)) rfl hE (.tmp rfl .nil) ?_
 exact ⟨rfl, K_0⟩
theorem R66_0_l : List.range (regOf Try.f66 0).size = [0] := by kernel_rfl
theorem R66_1_l : List.range (regOf Try.f66 1).size = [0, 1] := by kernel_rfl
theorem R66_3_l : List.range (regOf Try.f66 3).size = [0, 1, 2, 3, 4] := by kernel_rfl
theorem body66 : Try.f66.body = some (.seq (.region 0 (regOf Try.f66 0) false) (.seq (.seq (.region 1 (regOf Try.f66 1) false) (.cond (Operand.tmp 4) (.seq (.region 2 (regOf Try.f66 2) false) (.ret)) (.skip))) (.seq (.region 3 (regOf Try.f66 3) false) (.ret)))) := by kernel_rfl
theorem p66_0_0 : pj (regOf Try.f66 0) 0 = some (some 2, .assign (.const (.int .i64 0)), 24, none) := by kernel_rfl
theorem p66_1_0 : pj (regOf Try.f66 1) 0 = some (some 3, .move (.tmp 0), 104, none) := by kernel_rfl
theorem p66_1_1 : pj (regOf Try.f66 1) 1 = some (some 4, .binOp .eql 104 (.tmp 3) (.const (.pointer none)) 104, 4, none) := by kernel_rfl
theorem p66_3_0 : pj (regOf Try.f66 3) 0 = some (some 5, .move (.tmp 0), 104, none) := by kernel_rfl
theorem p66_3_1 : pj (regOf Try.f66 3) 1 = some (some 6, .nilCheck (.tmp 5), 0, none) := by kernel_rfl
theorem p66_3_2 : pj (regOf Try.f66 3) 2 = some (some 7, .fieldAddr 188 (.tmp 6) 1, 0, none) := by kernel_rfl
theorem tS24 : (Try.prog.info? 24).map (·.size) = some 1 := by kernel_rfl
theorem p66_3_3 : pj (regOf Try.f66 3) 3 = some (some 8, .load 24 (.tmp 7), 24, none) := by kernel_rfl
theorem tA24 : (Try.prog.underlying 24).map aggD = some false := by kernel_rfl
theorem p66_3_4 : pj (regOf Try.f66 3) 4 = some (some 2, .assign (.tmp 8), 24, none) := by kernel_rfl
set_option maxHeartbeats 4000000 in
theorem err_c (n : Nat) (g : Nat) (A : Option Addr) (c : Nat) (p : Nat) (r : Int) (w : World) (B_g : w.heap[g]? = some (.cells #[.slice A n c, .int .i64 (p : Int), .int .i64 r] 188 (0, 0))) : Calls Try.prog 66 #[.pointer (some ⟨g, 0, none⟩)] w fun e w' => e = .returned (.int .i64 r) ∧ Kp w w' (fun _ => False) := by
 have K_0 := Kp.refl w (fun _ => False)
 refine enter (args := [Value.pointer (some ⟨g, 0, none⟩)]) (n := 9) Try.func66 body66 rfl rfl rfl ?_
 intro a hE
 refine c_reg R66_0_l ?_
 refine q0 p66_0_0 hE (st_assign rfl) ?_; clear hE a; intro a hE
 refine p_nil (x_norm (wp_seq (c_reg R66_1_l ?_)))
 refine q0 p66_1_0 hE (st_move rfl) ?_; clear hE a; intro a hE
 refine q0 p66_1_1 hE (st_eqlP (b := false) tP104 rfl rfl rfl) ?_; clear hE a; intro a hE
 refine p_nil (x_norm ?_)
 refine c_cond (t := false) hE rfl ?_
 refine wp_skip (x_norm (c_reg R66_3_l ?_))
 refine q0 p66_3_0 hE (st_move rfl) ?_; clear hE a; intro a hE
 refine q0 p66_3_1 hE (st_nil rfl) ?_; clear hE a; intro a hE
 refine q0 p66_3_2 hE (st_fieldAddr Try.underlying188 rfl tS24 rfl rfl) ?_; clear hE a; intro a hE
 refine q0 p66_3_3 hE (st_load1 tA24 rfl ((blk_cell B_g 2).trans rfl)) ?_; clear hE a; intro a hE
 refine q0 p66_3_4 hE (st_assign rfl) ?_; clear hE a; intro a hE
 refine p_nil (x_norm (wp_ret ?_))
 refine ret_one (v := Value.int .i64 r) rfl hE (.tmp rfl .nil) ?_
 exact ⟨rfl, K_0⟩
theorem R145_0_l : List.range (regOf Try.f145 0).size = [0, 1, 2, 3, 4, 5, 6, 7, 8] := by kernel_rfl
theorem R145_1_l : List.range (regOf Try.f145 1).size = [0, 1, 2, 3, 4] := by kernel_rfl
theorem body145 : Try.f145.body = some (.seq (.region 0 (regOf Try.f145 0) false) (.cond (Operand.tmp 12) (.region 1 (regOf Try.f145 1) false) (.skip))) := by kernel_rfl
theorem p145_0_0 : pj (regOf Try.f145 0) 0 = some (some 4, .move (.tmp 0), 104, none) := by kernel_rfl
theorem p145_0_1 : pj (regOf Try.f145 0) 1 = some (some 5, .binOp .neq 104 (.tmp 4) (.const (.pointer none)) 104, 4, none) := by kernel_rfl
theorem p145_0_2 : pj (regOf Try.f145 0) 2 = some (some 6, .move (.tmp 5), 4, none) := by kernel_rfl
theorem p145_0_3 : pj (regOf Try.f145 0) 3 = some (some 7, .move (.tmp 0), 104, some (2, true)) := by kernel_rfl
theorem g145_0_2 : dstOf (regOf Try.f145 0) 2 = some 6 := by kernel_rfl
theorem p145_0_4 : pj (regOf Try.f145 0) 4 = some (some 8, .nilCheck (.tmp 7), 0, some (2, true)) := by kernel_rfl
theorem p145_0_5 : pj (regOf Try.f145 0) 5 = some (some 9, .fieldAddr 188 (.tmp 8) 1, 0, some (2, true)) := by kernel_rfl
theorem p145_0_6 : pj (regOf Try.f145 0) 6 = some (some 10, .load 24 (.tmp 9), 24, some (2, true)) := by kernel_rfl
theorem p145_0_7 : pj (regOf Try.f145 0) 7 = some (some 11, .binOp .eql 24 (.tmp 10) (.const (.int .i64 0)) 24, 4, some (2, true)) := by kernel_rfl
theorem p145_0_8 : pj (regOf Try.f145 0) 8 = some (some 12, .pick (.tmp 6) (.tmp 11) (.const (.bool false)), 4, none) := by kernel_rfl
theorem p145_1_0 : pj (regOf Try.f145 1) 0 = some (some 13, .move (.tmp 0), 104, none) := by kernel_rfl
theorem p145_1_1 : pj (regOf Try.f145 1) 1 = some (some 14, .move (.tmp 1), 24, none) := by kernel_rfl
theorem p145_1_2 : pj (regOf Try.f145 1) 2 = some (some 15, .nilCheck (.tmp 13), 0, none) := by kernel_rfl
theorem p145_1_3 : pj (regOf Try.f145 1) 3 = some (some 16, .fieldAddr 188 (.tmp 15) 1, 0, none) := by kernel_rfl
theorem p145_1_4 : pj (regOf Try.f145 1) 4 = some (none, .store 24 (.tmp 16) (.tmp 14), 0, none) := by kernel_rfl
set_option maxHeartbeats 4000000 in
theorem spoil_c (n : Nat) (ee : Int) (g : Nat) (A : Option Addr) (c : Nat) (p : Nat) (r : Int) (w : World) (B_g : w.heap[g]? = some (.cells #[.slice A n c, .int .i64 (p : Int), .int .i64 r] 188 (0, 0))) : Calls Try.prog 145 #[.pointer (some ⟨g, 0, none⟩), .int .i64 ee] w fun e w' => e = .returned (.tuple #[]) ∧ w'.heap[g]? = some (.cells #[.slice A n c, .int .i64 (p : Int), .int .i64 (if r = 0 then ee else r)] 188 (0, 0)) ∧ Kp w w' (fun k => k = g) := by
 have K_0 := Kp.refl w (fun k => k = g)
 refine enter (args := [Value.pointer (some ⟨g, 0, none⟩), Value.int .i64 ee]) (n := 17) Try.func145 body145 rfl rfl rfl ?_
 intro a hE
 rcases Decidable.em (r = 0) with hR0 | hR0
 ·
  refine c_reg R145_0_l ?_
  refine q0 p145_0_0 hE (st_move rfl) ?_; clear hE a; intro a hE
  refine q0 p145_0_1 hE (st_neqP (b := true) tP104 rfl rfl rfl) ?_; clear hE a; intro a hE
  refine q0 p145_0_2 hE (st_move rfl) ?_; clear hE a; intro a hE
  refine p_cons (s_still p145_0_3 hE (wn_some g145_0_2 rfl rfl) rfl (st_move rfl) ?_); clear hE a; intro a hE
  refine p_cons (s_still p145_0_4 hE (wn_some g145_0_2 rfl rfl) rfl (st_nil rfl) ?_); clear hE a; intro a hE
  refine p_cons (s_still p145_0_5 hE (wn_some g145_0_2 rfl rfl) rfl (st_fieldAddr Try.underlying188 rfl tS24 rfl rfl) ?_); clear hE a; intro a hE
  refine p_cons (s_still p145_0_6 hE (wn_some g145_0_2 rfl rfl) rfl (st_load1 tA24 rfl ((blk_cell B_g 2).trans rfl)) ?_); clear hE a; intro a hE
  refine p_cons (s_still p145_0_7 hE (wn_some g145_0_2 rfl rfl) rfl (st_eql (b := true) rfl rfl (decide_eq_true hR0)) ?_); clear hE a; intro a hE
  refine q0 p145_0_8 hE (st_pick rfl rfl) ?_; clear hE a; intro a hE
  refine p_nil (x_norm ?_)
  refine c_cond (t := true) hE rfl ?_
  refine c_regL R145_1_l ?_
  refine q0 p145_1_0 hE (st_move rfl) ?_; clear hE a; intro a hE
  refine q0 p145_1_1 hE (st_move rfl) ?_; clear hE a; intro a hE
  refine q0 p145_1_2 hE (st_nil rfl) ?_; clear hE a; intro a hE
  refine q0 p145_1_3 hE (st_fieldAddr Try.underlying188 rfl tS24 rfl rfl) ?_; clear hE a; intro a hE
  refine p_cons (s_store (off := 2) (k := 1) (cs' := #[Value.slice A n c, Value.int .i64 (p : Int), Value.int .i64 ee]) p145_1_4 hE wn_none tS24 rfl rfl rfl rfl B_g (Nat.le_of_ble_eq_true rfl) rfl ?_)
  intro w1 B_g' hk
  replace K_0 := K_0.then_ hk (fun k h => by rw [show k = g from h]; exact Or.inl rfl)
  replace B_g := B_g'
  clear hk
  refine p_nil (end_of_ret ?_)
  refine ret_list (rs := []) (vs := []) rfl hE .nil rfl ?_
  exact ⟨rfl, by rw [if_pos hR0]; exact B_g, K_0⟩
 ·
  refine c_reg R145_0_l ?_
  refine q0 p145_0_0 hE (st_move rfl) ?_; clear hE a; intro a hE
  refine q0 p145_0_1 hE (st_neqP (b := true) tP104 rfl rfl rfl) ?_; clear hE a; intro a hE
  refine q0 p145_0_2 hE (st_move rfl) ?_; clear hE a; intro a hE
  refine p_cons (s_still p145_0_3 hE (wn_some g145_0_2 rfl rfl) rfl (st_move rfl) ?_); clear hE a; intro a hE
  refine p_cons (s_still p145_0_4 hE (wn_some g145_0_2 rfl rfl) rfl (st_nil rfl) ?_); clear hE a; intro a hE
  refine p_cons (s_still p145_0_5 hE (wn_some g145_0_2 rfl rfl) rfl (st_fieldAddr Try.underlying188 rfl tS24 rfl rfl) ?_); clear hE a; intro a hE
  refine p_cons (s_still p145_0_6 hE (wn_some g145_0_2 rfl rfl) rfl (st_load1 tA24 rfl ((blk_cell B_g 2).trans rfl)) ?_); clear hE a; intro a hE
  refine p_cons (s_still p145_0_7 hE (wn_some g145_0_2 rfl rfl) rfl (st_eql (b := false) rfl rfl (decide_eq_false hR0)) ?_); clear hE a; intro a hE
  refine q0 p145_0_8 hE (st_pick rfl rfl) ?_; clear hE a; intro a hE
  refine p_nil (x_norm ?_)
  refine c_cond (t := false) hE rfl ?_
  refine wp_skip (end_of_ret ?_)
  refine ret_list (rs := []) (vs := []) rfl hE .nil rfl ?_
  exact ⟨rfl, by rw [if_neg hR0]; exact B_g, K_0⟩
theorem R151_0_l : List.range (regOf Try.f151 0).size = [0] := by kernel_rfl
theorem R151_1_l : List.range (regOf Try.f151 1).size = [0, 1, 2, 3, 4, 5, 6, 7, 8] := by kernel_rfl
theorem body151 : Try.f151.body = some (.seq (.region 0 (regOf Try.f151 0) false) (.seq (.region 1 (regOf Try.f151 1) false) (.seq (.region 2 (regOf Try.f151 2) true) (.ret)))) := by kernel_rfl
theorem p151_0_0 : pj (regOf Try.f151 0) 0 = some (some 4, .assign (.const (.slice none 0 0)), 22, none) := by kernel_rfl
theorem p151_1_0 : pj (regOf Try.f151 1) 0 = some (some 5, .move (.tmp 0), 225, none) := by kernel_rfl
theorem p151_1_1 : pj (regOf Try.f151 1) 1 = some (some 6, .nilCheck (.tmp 5), 0, none) := by kernel_rfl
theorem p151_1_2 : pj (regOf Try.f151 1) 2 = some (some 7, .fieldAddr 186 (.tmp 6) 1, 0, none) := by kernel_rfl
theorem p151_1_3 : pj (regOf Try.f151 1) 3 = some (some 8, .load 3 (.tmp 7), 3, none) := by kernel_rfl
theorem p151_1_4 : pj (regOf Try.f151 1) 4 = some (some 9, .move (.tmp 1), 3, none) := by kernel_rfl
theorem p151_1_5 : pj (regOf Try.f151 1) 5 = some (some 10, .binOp .add 3 (.tmp 8) (.tmp 9) 3, 3, none) := by kernel_rfl
theorem p151_1_6 : pj (regOf Try.f151 1) 6 = some (some 11, .nilCheck (.tmp 5), 0, none) := by kernel_rfl
theorem p151_1_7 : pj (regOf Try.f151 1) 7 = some (some 12, .fieldAddr 186 (.tmp 11) 1, 0, none) := by kernel_rfl
theorem p151_1_8 : pj (regOf Try.f151 1) 8 = some (none, .store 3 (.tmp 12) (.tmp 10), 0, none) := by kernel_rfl
theorem ns151_2 : Region.noSelect (regOf Try.f151 2) = true := by kernel_rfl
theorem p151_2_0 : pj (regOf Try.f151 2) 0 = some (some 13, .move (.tmp 0), 225, none) := by kernel_rfl
theorem p151_2_1 : pj (regOf Try.f151 2) 1 = some (some 14, .nilCheck (.tmp 13), 0, none) := by kernel_rfl
theorem p151_2_2 : pj (regOf Try.f151 2) 2 = some (some 15, .fieldAddr 186 (.tmp 14) 0, 0, none) := by kernel_rfl
theorem p151_2_3 : pj (regOf Try.f151 2) 3 = some (some 16, .load 22 (.tmp 15), 22, none) := by kernel_rfl
theorem p151_2_4 : pj (regOf Try.f151 2) 4 = some (some 17, .move (.tmp 0), 225, none) := by kernel_rfl
theorem p151_2_5 : pj (regOf Try.f151 2) 5 = some (some 18, .nilCheck (.tmp 17), 0, none) := by kernel_rfl
theorem p151_2_6 : pj (regOf Try.f151 2) 6 = some (some 19, .fieldAddr 186 (.tmp 18) 1, 0, none) := by kernel_rfl
theorem p151_2_7 : pj (regOf Try.f151 2) 7 = some (some 20, .load 3 (.tmp 19), 3, none) := by kernel_rfl
theorem p151_2_8 : pj (regOf Try.f151 2) 8 = some (some 21, .move (.tmp 1), 3, none) := by kernel_rfl
theorem p151_2_9 : pj (regOf Try.f151 2) 9 = some (some 22, .binOp .sub 3 (.tmp 20) (.tmp 21) 3, 3, none) := by kernel_rfl
theorem p151_2_10 : pj (regOf Try.f151 2) 10 = some (some 23, .move (.tmp 0), 225, none) := by kernel_rfl
theorem p151_2_11 : pj (regOf Try.f151 2) 11 = some (some 24, .nilCheck (.tmp 23), 0, none) := by kernel_rfl
theorem p151_2_12 : pj (regOf Try.f151 2) 12 = some (some 25, .fieldAddr 186 (.tmp 24) 1, 0, none) := by kernel_rfl
theorem p151_2_13 : pj (regOf Try.f151 2) 13 = some (some 26, .load 3 (.tmp 25), 3, none) := by kernel_rfl
theorem p151_2_14 : pj (regOf Try.f151 2) 14 = some (some 27, .move (.tmp 0), 225, none) := by kernel_rfl
theorem p151_2_15 : pj (regOf Try.f151 2) 15 = some (some 28, .nilCheck (.tmp 27), 0, none) := by kernel_rfl
theorem p151_2_16 : pj (regOf Try.f151 2) 16 = some (some 29, .fieldAddr 186 (.tmp 28) 1, 0, none) := by kernel_rfl
theorem p151_2_17 : pj (regOf Try.f151 2) 17 = some (some 30, .load 3 (.tmp 29), 3, none) := by kernel_rfl
theorem p151_2_18 : pj (regOf Try.f151 2) 18 = some (some 31, .slice 22 (.tmp 16) (some (.tmp 22)) (some (.tmp 26)) (some (.tmp 30)), 22, none) := by kernel_rfl
theorem tS5 : (Try.prog.info? 5).map (·.size) = some 1 := by kernel_rfl
theorem p151_2_19 : pj (regOf Try.f151 2) 19 = some (some 4, .assign (.tmp 31), 22, none) := by kernel_rfl
set_option maxHeartbeats 4000000 in
theorem pass_c (n k : Nat) (g : Nat) (A : Option Addr) (c : Nat) (p : Nat) (r : Int) (w : World) (hk : p + k ≤ c) (hc : c ≤ 9223372036854775807) (B_g : w.heap[g]? = some (.cells #[.slice A n c, .int .i64 (p : Int), .int .i64 r] 188 (0, 0))) : Calls Try.prog 151 #[.pointer (some ⟨g, 0, none⟩), .int .i64 (k : Int)] w fun e w' => e = .returned (.slice (if p + k = p then A else A.map (·.add (p * 1))) k k) ∧ w'.heap[g]? = some (.cells #[.slice A n c, .int .i64 ((p + k : Nat) : Int), .int .i64 r] 188 (0, 0)) ∧ Kp w w' (fun k => k = g) := by
 have K_0 := Kp.refl w (fun k => k = g)
 refine enter (args := [Value.pointer (some ⟨g, 0, none⟩), Value.int .i64 (k : Int)]) (n := 32) Try.func151 body151 rfl rfl rfl ?_
 intro a hE
 refine c_reg R151_0_l ?_
 refine q0 p151_0_0 hE (st_assign rfl) ?_; clear hE a; intro a hE
 refine p_nil (x_norm (c_reg R151_1_l ?_))
 refine q0 p151_1_0 hE (st_move rfl) ?_; clear hE a; intro a hE
 refine q0 p151_1_1 hE (st_nil rfl) ?_; clear hE a; intro a hE
 refine q0 p151_1_2 hE (st_fieldAddr Try.underlying186 rfl tS3 rfl rfl) ?_; clear hE a; intro a hE
 refine q0 p151_1_3 hE (st_load1 tA3 rfl ((blk_cell B_g 1).trans rfl)) ?_; clear hE a; intro a hE
 refine q0 p151_1_4 hE (st_move rfl) ?_; clear hE a; intro a hE
 refine q0 p151_1_5 hE (st_add (z := ((p + k : Nat) : Int)) rfl rfl (by rw [wr_i64 _ (by omega) (by omega)]; omega)) ?_; clear hE a; intro a hE
 refine q0 p151_1_6 hE (st_nil rfl) ?_; clear hE a; intro a hE
 refine q0 p151_1_7 hE (st_fieldAddr Try.underlying186 rfl tS3 rfl rfl) ?_; clear hE a; intro a hE
 refine p_cons (s_store (off := 1) (k := 1) (cs' := #[Value.slice A n c, Value.int .i64 ((p + k : Nat) : Int), Value.int .i64 r]) p151_1_8 hE wn_none tS3 rfl rfl rfl rfl B_g (Nat.le_of_ble_eq_true rfl) rfl ?_)
 intro w1 B_g' hk
 replace K_0 := K_0.then_ hk (fun k h => by rw [show k = g from h]; exact Or.inl rfl)
 replace B_g := B_g'
 clear hk
 refine p_nil (x_norm ?_)
 refine c_drawS (S := fun W => W.heap[g]? = some (.cells #[Value.slice A n c, Value.int .i64 ((p + k : Nat) : Int), Value.int .i64 r] 188 (0, 0)) ∧ True) rfl rfl (listed := #[false, false, false, false, false, false, false, false, false, false, false, false, false, false, false, false, false, false, false, false]) rfl ?_
 intro w2 hh hk
 replace B_g := kp_blk B_g hk (fun h => h)
 replace K_0 := K_0.then_ hk (fun _ h => h.elim)
 clear hh hk
 refine Rv.dq (v := Value.pointer (some ⟨g, 0, none⟩)) p151_2_0 ns151_2 hE wn_none ⟨B_g, trivial⟩ (fun W hS => (st_move rfl)) ?_; clear hE a; intro a hE
 refine Rv.dq (v := Value.pointer (some ⟨g, 0, none⟩)) p151_2_1 ns151_2 hE wn_none ⟨B_g, trivial⟩ (fun W hS => (st_nil rfl)) ?_; clear hE a; intro a hE
 refine Rv.dq (v := Value.pointer (some ⟨g, 0, none⟩)) p151_2_2 ns151_2 hE wn_none ⟨B_g, trivial⟩ (fun W hS => (st_fieldAddr Try.underlying186 rfl tS22 rfl rfl)) ?_; clear hE a; intro a hE
 refine Rv.dq (v := Value.slice A n c) p151_2_3 ns151_2 hE wn_none ⟨B_g, trivial⟩ (fun W hS => (st_load1 tA22 rfl ((blk_cell hS.1 0).trans rfl))) ?_; clear hE a; intro a hE
 refine Rv.dq (v := Value.pointer (some ⟨g, 0, none⟩)) p151_2_4 ns151_2 hE wn_none ⟨B_g, trivial⟩ (fun W hS => (st_move rfl)) ?_; clear hE a; intro a hE
 refine Rv.dq (v := Value.pointer (some ⟨g, 0, none⟩)) p151_2_5 ns151_2 hE wn_none ⟨B_g, trivial⟩ (fun W hS => (st_nil rfl)) ?_; clear hE a; intro a hE
 refine Rv.dq (v := Value.pointer (some ⟨g, 1, none⟩)) p151_2_6 ns151_2 hE wn_none ⟨B_g, trivial⟩ (fun W hS => (st_fieldAddr Try.underlying186 rfl tS3 rfl rfl)) ?_; clear hE a; intro a hE
 refine Rv.dq (v := Value.int .i64 ((p + k : Nat) : Int)) p151_2_7 ns151_2 hE wn_none ⟨B_g, trivial⟩ (fun W hS => (st_load1 tA3 rfl ((blk_cell hS.1 1).trans rfl))) ?_; clear hE a; intro a hE
 refine Rv.dq (v := Value.int .i64 (k : Int)) p151_2_8 ns151_2 hE wn_none ⟨B_g, trivial⟩ (fun W hS => (st_move rfl)) ?_; clear hE a; intro a hE
 refine Rv.dq (v := Value.int .i64 (p : Int)) p151_2_9 ns151_2 hE wn_none ⟨B_g, trivial⟩ (fun W hS => (st_sub (z := (p : Int)) rfl rfl (by rw [wr_i64 _ (by omega) (by omega)]; omega))) ?_; clear hE a; intro a hE
 refine Rv.dq (v := Value.pointer (some ⟨g, 0, none⟩)) p151_2_10 ns151_2 hE wn_none ⟨B_g, trivial⟩ (fun W hS => (st_move rfl)) ?_; clear hE a; intro a hE
 refine Rv.dq (v := Value.pointer (some ⟨g, 0, none⟩)) p151_2_11 ns151_2 hE wn_none ⟨B_g, trivial⟩ (fun W hS => (st_nil rfl)) ?_; clear hE a; intro a hE
 refine Rv.dq (v := Value.pointer (some ⟨g, 1, none⟩)) p151_2_12 ns151_2 hE wn_none ⟨B_g, trivial⟩ (fun W hS => (st_fieldAddr Try.underlying186 rfl tS3 rfl rfl)) ?_; clear hE a; intro a hE
 refine Rv.dq (v := Value.int .i64 ((p + k : Nat) : Int)) p151_2_13 ns151_2 hE wn_none ⟨B_g, trivial⟩ (fun W hS => (st_load1 tA3 rfl ((blk_cell hS.1 1).trans rfl))) ?_; clear hE a; intro a hE
 refine Rv.dq (v := Value.pointer (some ⟨g, 0, none⟩)) p151_2_14 ns151_2 hE wn_none ⟨B_g, trivial⟩ (fun W hS => (st_move rfl)) ?_; clear hE a; intro a hE
 refine Rv.dq (v := Value.pointer (some ⟨g, 0, none⟩)) p151_2_15 ns151_2 hE wn_none ⟨B_g, trivial⟩ (fun W hS => (st_nil rfl)) ?_; clear hE a; intro a hE
 refine Rv.dq (v := Value.pointer (some ⟨g, 1, none⟩)) p151_2_16 ns151_2 hE wn_none ⟨B_g, trivial⟩ (fun W hS => (st_fieldAddr Try.underlying186 rfl tS3 rfl rfl)) ?_; clear hE a; intro a hE
 refine Rv.dq (v := Value.int .i64 ((p + k : Nat) : Int)) p151_2_17 ns151_2 hE wn_none ⟨B_g, trivial⟩ (fun W hS => (st_load1 tA3 rfl ((blk_cell hS.1 1).trans rfl))) ?_; clear hE a; intro a hE
 refine Rv.dq (v := Value.slice (if p + k = p then A else A.map (·.add (p * 1))) k k) p151_2_18 ns151_2 hE wn_none ⟨B_g, trivial⟩ (fun W hS => (st_sliceLHM (lo := p) (hi := p + k) (mx := p + k) Try.underlying22 tS5 rfl rfl rfl rfl (by omega) (by omega) (by omega) (by omega) (by omega) rfl)) ?_; clear hE a; intro a hE
 refine Rv.dq (v := Value.slice (if p + k = p then A else A.map (·.add (p * 1))) k k) p151_2_19 ns151_2 hE wn_none ⟨B_g, trivial⟩ (fun W hS => (st_assign rfl)) ?_; clear hE a; intro a hE
 refine d_end (by kernel_rfl) ?_
 refine x_norm (wp_ret ?_)
 refine ret_one (v := Value.slice (if p + k = p then A else A.map (·.add (p * 1))) k k) rfl hE (.tmp rfl .nil) ?_
 exact ⟨rfl, B_g, K_0⟩
theorem C_take9 {d : Kd Int} {w : World} {A : Option Addr} {n m : Nat} {xs : List Int} (h : d.C w A n xs) (hm : m ≤ n) : d.C w A m (xs.take m) := by
 refine ⟨by rw [List.length_take, h.1]; omega, Nat.le_trans hm h.2.1, fun h0 => ?_⟩
 obtain ⟨ad, e, hr⟩ := h.2.2 (by omega)
 refine ⟨ad, e, fun j x hj => hr j x ?_⟩
 have := (List.getElem?_eq_some_iff.1 hj).1
 rw [List.length_take] at this
 rwa [List.getElem?_take_of_lt (by omega)] at hj
theorem R122_0_l : List.range (regOf Try.f122 0).size = [0, 1] := by kernel_rfl
theorem R122_1_l : List.range (regOf Try.f122 1).size = [0, 1, 2, 3] := by kernel_rfl
theorem R122_2_l : List.range (regOf Try.f122 2).size = [0, 1] := by kernel_rfl
theorem R122_3_l : List.range (regOf Try.f122 3).size = [0, 1, 2] := by kernel_rfl
theorem R122_6_l : List.range (regOf Try.f122 6).size = [0, 1, 2, 3, 4, 5, 6] := by kernel_rfl
theorem R122_7_l : List.range (regOf Try.f122 7).size = [0, 1] := by kernel_rfl
theorem R122_8_l : List.range (regOf Try.f122 8).size = [0, 1] := by kernel_rfl
theorem R122_9_l : List.range (regOf Try.f122 9).size = [0, 1, 2, 3, 4, 5, 6] := by kernel_rfl
theorem body122 : Try.f122.body = some (.seq (.region 0 (regOf Try.f122 0) false) (.seq (.block 0 (.seq (.region 1 (regOf Try.f122 1) false) (.cond (Operand.tmp 6) (.seq (.region 2 (regOf Try.f122 2) false) (.ret)) (.seq (.region 3 (regOf Try.f122 3) false) (.cond (Operand.tmp 10) (.seq (.region 4 (regOf Try.f122 4) false) (.seq (.region 5 (regOf Try.f122 5) false) (.ret))) (.seq (.region 6 (regOf Try.f122 6) false) (.cond (Operand.tmp 15) (.seq (.region 7 (regOf Try.f122 7) false) (.seq (.region 8 (regOf Try.f122 8) false) (.ret))) (.skip)))))))) (.seq (.region 9 (regOf Try.f122 9) false) (.ret)))) := by kernel_rfl
theorem p122_0_0 : pj (regOf Try.f122 0) 0 = some (some 4, .assign (.const (.slice none 0 0)), 22, none) := by kernel_rfl
theorem p122_0_1 : pj (regOf Try.f122 0) 1 = some (some 5, .assign (.const (.bool false)), 4, none) := by kernel_rfl
theorem p122_1_0 : pj (regOf Try.f122 1) 0 = some (some 7, .move (.tmp 0), 104, none) := by kernel_rfl
theorem p122_1_1 : pj (regOf Try.f122 1) 1 = some (some 8, .call { callee := .value (.func 66), args := #[.tmp 7], argTypes := #[104] }, 24, none) := by kernel_rfl
theorem cl66 : callable Try.f66 = true := by kernel_rfl
theorem p122_1_2 : pj (regOf Try.f122 1) 2 = some (some 9, .binOp .neq 24 (.tmp 8) (.const (.int .i64 0)) 24, 4, none) := by kernel_rfl
theorem p122_1_3 : pj (regOf Try.f122 1) 3 = some (some 6, .assign (.tmp 9), 4, none) := by kernel_rfl
theorem p122_3_0 : pj (regOf Try.f122 3) 0 = some (some 11, .move (.tmp 1), 3, none) := by kernel_rfl
theorem p122_3_1 : pj (regOf Try.f122 3) 1 = some (some 12, .binOp .lss 3 (.tmp 11) (.const (.int .i64 0)) 3, 4, none) := by kernel_rfl
theorem p122_3_2 : pj (regOf Try.f122 3) 2 = some (some 10, .assign (.tmp 12), 4, none) := by kernel_rfl
theorem p122_6_0 : pj (regOf Try.f122 6) 0 = some (some 16, .move (.tmp 1), 3, none) := by kernel_rfl
theorem p122_6_1 : pj (regOf Try.f122 6) 1 = some (some 17, .move (.tmp 0), 104, none) := by kernel_rfl
theorem p122_6_2 : pj (regOf Try.f122 6) 2 = some (some 18, .nilCheck (.tmp 17), 0, none) := by kernel_rfl
theorem p122_6_3 : pj (regOf Try.f122 6) 3 = some (some 19, .fieldAddr 188 (.tmp 18) 0, 0, none) := by kernel_rfl
theorem p122_6_4 : pj (regOf Try.f122 6) 4 = some (some 20, .call { callee := .value (.func 108), args := #[.tmp 19], argTypes := #[186] }, 3, none) := by kernel_rfl
theorem p122_6_5 : pj (regOf Try.f122 6) 5 = some (some 21, .binOp .gtr 3 (.tmp 16) (.tmp 20) 3, 4, none) := by kernel_rfl
theorem p122_6_6 : pj (regOf Try.f122 6) 6 = some (some 15, .assign (.tmp 21), 4, none) := by kernel_rfl
theorem p122_9_0 : pj (regOf Try.f122 9) 0 = some (some 24, .move (.tmp 0), 104, none) := by kernel_rfl
theorem p122_9_1 : pj (regOf Try.f122 9) 1 = some (some 25, .nilCheck (.tmp 24), 0, none) := by kernel_rfl
theorem p122_9_2 : pj (regOf Try.f122 9) 2 = some (some 26, .fieldAddr 188 (.tmp 25) 0, 0, none) := by kernel_rfl
theorem p122_9_3 : pj (regOf Try.f122 9) 3 = some (some 27, .move (.tmp 1), 3, none) := by kernel_rfl
theorem p122_9_4 : pj (regOf Try.f122 9) 4 = some (some 28, .call { callee := .value (.func 151), args := #[.tmp 26, .tmp 27], argTypes := #[186, 3] }, 22, none) := by kernel_rfl
theorem cl151 : callable Try.f151 = true := by kernel_rfl
theorem p122_9_5 : pj (regOf Try.f122 9) 5 = some (some 4, .assign (.tmp 28), 22, none) := by kernel_rfl
theorem p122_9_6 : pj (regOf Try.f122 9) 6 = some (some 5, .assign (.const (.bool true)), 4, none) := by kernel_rfl
theorem p122_7_0 : pj (regOf Try.f122 7) 0 = some (some 22, .move (.tmp 0), 104, none) := by kernel_rfl
theorem p122_7_1 : pj (regOf Try.f122 7) 1 = some (some 23, .call { callee := .value (.func 145), args := #[.tmp 22, .const (.int .i64 4)], argTypes := #[104, 24] }, 0, none) := by kernel_rfl
theorem cl145 : callable Try.f145 = true := by kernel_rfl
theorem p122_8_0 : pj (regOf Try.f122 8) 0 = some (some 4, .assign (.const (.slice none 0 0)), 22, none) := by kernel_rfl
theorem p122_8_1 : pj (regOf Try.f122 8) 1 = some (some 5, .assign (.const (.bool false)), 4, none) := by kernel_rfl
theorem p122_2_0 : pj (regOf Try.f122 2) 0 = some (some 4, .assign (.const (.slice none 0 0)), 22, none) := by kernel_rfl
theorem p122_2_1 : pj (regOf Try.f122 2) 1 = some (some 5, .assign (.const (.bool false)), 4, none) := by kernel_rfl
set_option maxHeartbeats 4000000 in
theorem need_c (g : Nat) (A : Option Addr) (c : Nat) (l : List Int) (p k : Nat) (r : Int) (w : World) (hp : p ≤ l.length) (hl : l.length ≤ 1000000) (hc : l.length ≤ c) (hc2 : c ≤ 9223372036854775807) (hk0 : k ≤ 1000000000) (B_g : w.heap[g]? = some (.cells #[.slice A l.length c, .int .i64 (p : Int), .int .i64 r] 188 (0, 0))) : Calls Try.prog 122 #[.pointer (some ⟨g, 0, none⟩), .int .i64 (k : Int)] w fun e w' => ∃ A', e = .returned (.tuple #[.slice A' (lN l p k r).length (lN l p k r).length, .bool (decide (okc l.length p k r))]) ∧ (∀ W', Kd.C (Kd.int .u8) W' A l.length l → Kd.C (Kd.int .u8) W' A' (lN l p k r).length (lN l p k r)) ∧ w'.heap[g]? = some (.cells #[.slice A l.length c, .int .i64 ((pN l.length p k r : Nat) : Int), .int .i64 (rN l.length p k r)] 188 (0, 0)) ∧ Kp w w' (fun k => k = g) := by
 have K_0 := Kp.refl w (fun k => k = g)
 refine enter (args := [Value.pointer (some ⟨g, 0, none⟩), Value.int .i64 (k : Int)]) (n := 29) Try.func122 body122 rfl rfl rfl ?_
 intro a hE
 refine c_reg R122_0_l ?_
 refine q0 p122_0_0 hE (st_assign rfl) ?_; clear hE a; intro a hE
 refine q0 p122_0_1 hE (st_assign rfl) ?_; clear hE a; intro a hE
 refine p_nil (x_norm (wp_seq (wp_block ?_)))
 rcases Decidable.em (r = 0) with hR0 | hR0
 ·
  subst hR0
  rcases Decidable.em (p + k ≤ l.length) with hFT | hFT
  ·
   refine c_reg R122_1_l ?_
   refine q0 p122_1_0 hE (st_move rfl) ?_; clear hE a; intro a hE
   refine p_cons (s_call (xs := [Operand.tmp 7]) (args := [Value.pointer (some ⟨g, 0, none⟩)]) p122_1_1 hE wn_none rfl rfl Try.func66 cl66 (err_c _ g A c p _ _ B_g) ?_)
   rintro e w1 ⟨rfl, hk⟩
   replace B_g := kp_blk B_g hk (fun h => h)
   replace K_0 := K_0.then_ hk (fun _ h => h.elim)
   refine ⟨_, rfl, ?_⟩; clear hE a; intro a hE
   refine q0 p122_1_2 hE (st_neq (b := false) rfl rfl (by decide)) ?_; clear hE a; intro a hE
   refine q0 p122_1_3 hE (st_assign rfl) ?_; clear hE a; intro a hE
   refine p_nil (x_norm ?_)
   refine c_cond (t := false) hE rfl ?_
   refine c_reg R122_3_l ?_
   refine q0 p122_3_0 hE (st_move rfl) ?_; clear hE a; intro a hE
   refine q0 p122_3_1 hE (st_lss (b := false) rfl rfl (decide_eq_false (by omega))) ?_; clear hE a; intro a hE
   refine q0 p122_3_2 hE (st_assign rfl) ?_; clear hE a; intro a hE
   refine p_nil (x_norm ?_)
   refine c_cond (t := false) hE rfl ?_
   refine c_reg R122_6_l ?_
   refine q0 p122_6_0 hE (st_move rfl) ?_; clear hE a; intro a hE
   refine q0 p122_6_1 hE (st_move rfl) ?_; clear hE a; intro a hE
   refine q0 p122_6_2 hE (st_nil rfl) ?_; clear hE a; intro a hE
   refine q0 p122_6_3 hE (st_fieldAddr Try.underlying188 rfl tS186 rfl rfl) ?_; clear hE a; intro a hE
   refine p_cons (s_call (xs := [Operand.tmp 19]) (args := [Value.pointer (some ⟨g, 0, none⟩)]) p122_6_4 hE wn_none rfl rfl Try.func108 cl108 (lft_c _ g A c p _ _ hp (by omega) B_g) ?_)
   rintro e w2 ⟨rfl, hk⟩
   replace B_g := kp_blk B_g hk (fun h => h)
   replace K_0 := K_0.then_ hk (fun _ h => h.elim)
   refine ⟨_, rfl, ?_⟩; clear hE a; intro a hE
   refine q0 p122_6_5 hE (st_gtr (b := false) rfl rfl (decide_eq_false (by omega))) ?_; clear hE a; intro a hE
   refine q0 p122_6_6 hE (st_assign rfl) ?_; clear hE a; intro a hE
   refine p_nil (x_norm ?_)
   refine c_cond (t := false) hE rfl ?_
   refine wp_skip (x_normB (x_norm (c_reg R122_9_l ?_)))
   refine q0 p122_9_0 hE (st_move rfl) ?_; clear hE a; intro a hE
   refine q0 p122_9_1 hE (st_nil rfl) ?_; clear hE a; intro a hE
   refine q0 p122_9_2 hE (st_fieldAddr Try.underlying188 rfl tS186 rfl rfl) ?_; clear hE a; intro a hE
   refine q0 p122_9_3 hE (st_move rfl) ?_; clear hE a; intro a hE
   refine p_cons (s_call (xs := [Operand.tmp 26, Operand.tmp 27]) (args := [Value.pointer (some ⟨g, 0, none⟩), Value.int .i64 (k : Int)]) p122_9_4 hE wn_none rfl rfl Try.func151 cl151 (pass_c _ k g A c p _ _ (by omega) hc2 B_g) ?_)
   rintro e w3 ⟨rfl, B_g', hk⟩
   replace K_0 := K_0.then_ hk (fun k h => by rw [show k = g from h]; exact Or.inl rfl)
   replace B_g := B_g'
   refine ⟨_, rfl, ?_⟩; clear hE a; intro a hE
   refine q0 p122_9_5 hE (st_assign rfl) ?_; clear hE a; intro a hE
   refine q0 p122_9_6 hE (st_assign rfl) ?_; clear hE a; intro a hE
   refine p_nil (x_norm (wp_ret ?_))
   refine ret_list (rs := [.tmp 4, .tmp 5]) (vs := [Value.slice (if p + k = p then A else A.map (·.add (p * 1))) k k, Value.bool true]) rfl hE (.tmp rfl (.tmp rfl .nil)) rfl ?_
   have hok : okc l.length p k 0 := ⟨rfl, hFT⟩
   have hlen : (lN l p k 0).length = k := by rw [lN_len, if_pos hok]
   exact ⟨_, by rw [hlen, decide_eq_true hok], fun W' hC => by have := C_cut (c := p + k) (lo := p) (k := k) (A' := if p + k = p then A else A.map (·.add (p * 1))) (0 : Int) (C_take9 hC hFT) (Nat.le_refl _) (Nat.le_refl _) rfl; rw [hlen]; unfold lN; rw [if_pos hok]; rw [List.drop_take, List.take_take] at this; simpa using this, by rw [show pN l.length p k 0 = p + k from if_pos hok, show rN l.length p k 0 = 0 from if_pos hok]; exact B_g, K_0⟩
  ·
   refine c_reg R122_1_l ?_
   refine q0 p122_1_0 hE (st_move rfl) ?_; clear hE a; intro a hE
   refine p_cons (s_call (xs := [Operand.tmp 7]) (args := [Value.pointer (some ⟨g, 0, none⟩)]) p122_1_1 hE wn_none rfl rfl Try.func66 cl66 (err_c _ g A c p _ _ B_g) ?_)
   rintro e w4 ⟨rfl, hk⟩
   replace B_g := kp_blk B_g hk (fun h => h)
   replace K_0 := K_0.then_ hk (fun _ h => h.elim)
   refine ⟨_, rfl, ?_⟩; clear hE a; intro a hE
   refine q0 p122_1_2 hE (st_neq (b := false) rfl rfl (by decide)) ?_; clear hE a; intro a hE
   refine q0 p122_1_3 hE (st_assign rfl) ?_; clear hE a; intro a hE
   refine p_nil (x_norm ?_)
   refine c_cond (t := false) hE rfl ?_
   refine c_reg R122_3_l ?_
   refine q0 p122_3_0 hE (st_move rfl) ?_; clear hE a; intro a hE
   refine q0 p122_3_1 hE (st_lss (b := false) rfl rfl (decide_eq_false (by omega))) ?_; clear hE a; intro a hE
   refine q0 p122_3_2 hE (st_assign rfl) ?_; clear hE a; intro a hE
   refine p_nil (x_norm ?_)
   refine c_cond (t := false) hE rfl ?_
   refine c_reg R122_6_l ?_
   refine q0 p122_6_0 hE (st_move rfl) ?_; clear hE a; intro a hE
   refine q0 p122_6_1 hE (st_move rfl) ?_; clear hE a; intro a hE
   refine q0 p122_6_2 hE (st_nil rfl) ?_; clear hE a; intro a hE
   refine q0 p122_6_3 hE (st_fieldAddr Try.underlying188 rfl tS186 rfl rfl) ?_; clear hE a; intro a hE
   refine p_cons (s_call (xs := [Operand.tmp 19]) (args := [Value.pointer (some ⟨g, 0, none⟩)]) p122_6_4 hE wn_none rfl rfl Try.func108 cl108 (lft_c _ g A c p _ _ hp (by omega) B_g) ?_)
   rintro e w5 ⟨rfl, hk⟩
   replace B_g := kp_blk B_g hk (fun h => h)
   replace K_0 := K_0.then_ hk (fun _ h => h.elim)
   refine ⟨_, rfl, ?_⟩; clear hE a; intro a hE
   refine q0 p122_6_5 hE (st_gtr (b := true) rfl rfl (decide_eq_true (by omega))) ?_; clear hE a; intro a hE
   refine q0 p122_6_6 hE (st_assign rfl) ?_; clear hE a; intro a hE
   refine p_nil (x_norm ?_)
   refine c_cond (t := true) hE rfl ?_
   refine c_reg R122_7_l ?_
   refine q0 p122_7_0 hE (st_move rfl) ?_; clear hE a; intro a hE
   refine p_cons (s_call (xs := [Operand.tmp 22, Operand.const (Value.int IntKind.i64 4)]) (args := [Value.pointer (some ⟨g, 0, none⟩), Value.int .i64 4]) p122_7_1 hE wn_none rfl rfl Try.func145 cl145 (spoil_c _ 4 g A c p _ _ B_g) ?_)
   rintro e w6 ⟨rfl, B_g', hk⟩
   rw [if_pos rfl] at B_g'
   replace K_0 := K_0.then_ hk (fun k h => by rw [show k = g from h]; exact Or.inl rfl)
   replace B_g := B_g'
   refine ⟨_, rfl, ?_⟩; clear hE a; intro a hE
   refine p_nil (x_norm (c_reg R122_8_l ?_))
   refine q0 p122_8_0 hE (st_assign rfl) ?_; clear hE a; intro a hE
   refine q0 p122_8_1 hE (st_assign rfl) ?_; clear hE a; intro a hE
   refine p_nil (x_norm (wp_ret (x_retB (x_ret ?_))))
   refine ret_list (rs := [.tmp 4, .tmp 5]) (vs := [Value.slice none 0 0, Value.bool false]) rfl hE (.tmp rfl (.tmp rfl .nil)) rfl ?_
   have hok : ¬ okc l.length p k 0 := fun h => hFT h.2
   have hlen : lN l p k 0 = [] := if_neg hok
   exact ⟨none, by rw [hlen, decide_eq_false hok]; rfl, fun W' hC => by rw [hlen]; exact Kd.C_nil _ _, by rw [show pN l.length p k 0 = p from if_neg hok, show rN l.length p k 0 = 4 from by unfold rN; rw [if_neg hok]; rfl]; exact B_g, K_0.mono (fun _ h => h)⟩
 ·
  refine c_reg R122_1_l ?_
  refine q0 p122_1_0 hE (st_move rfl) ?_; clear hE a; intro a hE
  refine p_cons (s_call (xs := [Operand.tmp 7]) (args := [Value.pointer (some ⟨g, 0, none⟩)]) p122_1_1 hE wn_none rfl rfl Try.func66 cl66 (err_c _ g A c p _ _ B_g) ?_)
  rintro e w7 ⟨rfl, hk⟩
  replace B_g := kp_blk B_g hk (fun h => h)
  replace K_0 := K_0.then_ hk (fun _ h => h.elim)
  refine ⟨_, rfl, ?_⟩; clear hE a; intro a hE
  refine q0 p122_1_2 hE (st_neq (b := true) rfl rfl (by simp [hR0])) ?_; clear hE a; intro a hE
  refine q0 p122_1_3 hE (st_assign rfl) ?_; clear hE a; intro a hE
  refine p_nil (x_norm ?_)
  refine c_cond (t := true) hE rfl ?_
  refine c_reg R122_2_l ?_
  refine q0 p122_2_0 hE (st_assign rfl) ?_; clear hE a; intro a hE
  refine q0 p122_2_1 hE (st_assign rfl) ?_; clear hE a; intro a hE
  refine p_nil (x_norm (wp_ret (x_retB (x_ret ?_))))
  refine ret_list (rs := [.tmp 4, .tmp 5]) (vs := [Value.slice none 0 0, Value.bool false]) rfl hE (.tmp rfl (.tmp rfl .nil)) rfl ?_
  have hok : ¬ okc l.length p k r := fun h => hR0 h.1
  have hlen : lN l p k r = [] := if_neg hok
  exact ⟨none, by rw [hlen, decide_eq_false hok]; rfl, fun W' hC => by rw [hlen]; exact Kd.C_nil _ _, by rw [show pN l.length p k r = p from if_neg hok, show rN l.length p k r = r from by unfold rN; rw [if_neg hok]; rw [if_neg hR0]]; exact B_g, K_0.mono (fun _ h => h)⟩
theorem R146_0_l : List.range (regOf Try.f146 0).size = [0] := by kernel_rfl
theorem R146_1_l : List.range (regOf Try.f146 1).size = [0] := by kernel_rfl
theorem R146_2_l : List.range (regOf Try.f146 2).size = [0, 1, 2] := by kernel_rfl
theorem R146_3_l : List.range (regOf Try.f146 3).size = [0] := by kernel_rfl
theorem R146_4_l : List.range (regOf Try.f146 4).size = [0, 1, 2] := by kernel_rfl
theorem R146_5_l : List.range (regOf Try.f146 5).size = [0, 1, 2, 3, 4, 5] := by kernel_rfl
theorem R146_6_l : List.range (regOf Try.f146 6).size = [0, 1] := by kernel_rfl
theorem R146_7_l : List.range (regOf Try.f146 7).size = [0, 1] := by kernel_rfl
theorem body146 : Try.f146.body = some (.seq (.region 0 (regOf Try.f146 0) false) (.seq (.region 1 (regOf Try.f146 1) false) (.seq (.seq (.region 2 (regOf Try.f146 2) false) (.block 0 (.loop (.seq (.region 3 (regOf Try.f146 3) false) (.seq (.cond (Operand.tmp 9) (.skip) (.exit 0)) (.seq (.block 1 (.seq (.region 4 (regOf Try.f146 4) false) (.region 5 (regOf Try.f146 5) false))) (.region 6 (regOf Try.f146 6) false))))))) (.seq (.region 7 (regOf Try.f146 7) false) (.ret))))) := by kernel_rfl
theorem p146_0_0 : pj (regOf Try.f146 0) 0 = some (some 2, .assign (.const (.int .i64 0)), 3, none) := by kernel_rfl
theorem p146_1_0 : pj (regOf Try.f146 1) 0 = some (some 3, .assign (.const (.int .i64 0)), 3, none) := by kernel_rfl
theorem p146_2_0 : pj (regOf Try.f146 2) 0 = some (some 6, .move (.tmp 0), 22, none) := by kernel_rfl
theorem p146_2_1 : pj (regOf Try.f146 2) 1 = some (some 7, .call { callee := .builtin .len, args := #[.tmp 6], argTypes := #[22] }, 3, none) := by kernel_rfl
theorem p146_2_2 : pj (regOf Try.f146 2) 2 = some (some 8, .move (.const (.int .i64 0)), 3, none) := by kernel_rfl
theorem p146_3_0 : pj (regOf Try.f146 3) 0 = some (some 9, .binOp .lss 3 (.tmp 8) (.tmp 7) 3, 0, none) := by kernel_rfl
theorem p146_4_0 : pj (regOf Try.f146 4) 0 = some (some 10, .indexAddr 22 (.tmp 6) (.tmp 8), 0, none) := by kernel_rfl
theorem p146_4_1 : pj (regOf Try.f146 4) 1 = some (some 11, .load 5 (.tmp 10), 5, none) := by kernel_rfl
theorem tA5 : (Try.prog.underlying 5).map aggD = some false := by kernel_rfl
theorem p146_4_2 : pj (regOf Try.f146 4) 2 = some (some 5, .assign (.tmp 11), 5, none) := by kernel_rfl
theorem p146_5_0 : pj (regOf Try.f146 5) 0 = some (some 12, .move (.tmp 3), 3, none) := by kernel_rfl
theorem p146_5_1 : pj (regOf Try.f146 5) 1 = some (some 13, .binOp .mul 3 (.tmp 12) (.const (.int .i64 256)) 3, 3, none) := by kernel_rfl
theorem p146_5_2 : pj (regOf Try.f146 5) 2 = some (some 14, .move (.tmp 5), 5, none) := by kernel_rfl
theorem p146_5_3 : pj (regOf Try.f146 5) 3 = some (some 15, .convert 5 3 (.tmp 14), 3, none) := by kernel_rfl
theorem p146_5_4 : pj (regOf Try.f146 5) 4 = some (some 16, .binOp .add 3 (.tmp 13) (.tmp 15) 3, 3, none) := by kernel_rfl
theorem p146_5_5 : pj (regOf Try.f146 5) 5 = some (some 3, .assign (.tmp 16), 3, none) := by kernel_rfl
theorem p146_6_0 : pj (regOf Try.f146 6) 0 = some (some 17, .binOp .add 3 (.tmp 8) (.const (.int .i64 1)) 3, 3, none) := by kernel_rfl
theorem p146_6_1 : pj (regOf Try.f146 6) 1 = some (some 8, .move (.tmp 17), 3, none) := by kernel_rfl
theorem p146_7_0 : pj (regOf Try.f146 7) 0 = some (some 18, .move (.tmp 3), 3, none) := by kernel_rfl
theorem p146_7_1 : pj (regOf Try.f146 7) 1 = some (some 2, .assign (.tmp 18), 3, none) := by kernel_rfl
set_option maxHeartbeats 4000000 in
theorem joined_c (A : Option Addr) (c : Nat) (l : List Int) (w : World) (hb : isB l) (hl : l.length ≤ 4) (F_A : ∀ W', Kp w W' (fun _ => False) → Kd.C (Kd.int .u8) W' A l.length l) : Calls Try.prog 146 #[.slice A l.length c] w fun e w' => e = .returned (.int .i64 (joinF l)) ∧ Kp w w' (fun _ => False) := by
 have K_0 := Kp.refl w (fun _ => False)
 refine enter (args := [Value.slice A l.length c]) (n := 19) Try.func146 body146 rfl rfl rfl ?_
 intro a hE
 refine c_reg R146_0_l ?_
 refine q0 p146_0_0 hE (st_assign rfl) ?_; clear hE a; intro a hE
 refine p_nil (x_norm (c_reg R146_1_l ?_))
 refine q0 p146_1_0 hE (st_assign rfl) ?_; clear hE a; intro a hE
 refine p_nil (x_norm (wp_seq (c_reg R146_2_l ?_)))
 refine q0 p146_2_0 hE (st_move rfl) ?_; clear hE a; intro a hE
 refine q0 p146_2_1 hE (st_len Try.underlying22 rfl) ?_; clear hE a; intro a hE
 refine q0 p146_2_2 hE (st_move rfl) ?_; clear hE a; intro a hE
 refine p_nil (x_norm (wp_block ?_))
 refine c_loop (α := Nat) (fun j a W => En 19 a [(0, Value.slice A l.length c), (2, Value.int .i64 0), (6, Value.slice A l.length c), (7, Value.int .i64 (l.length : Int)), (8, Value.int .i64 (j : Int)), (3, Value.int .i64 (joinF (l.take j)))] ∧ j ≤ l.length ∧ Kp w W (fun _ => False)) (fun j => l.length - j) (0) ?_ ?_
 ·
  exact ⟨En.sub hE ⟨rfl, rfl, rfl, rfl, rfl, rfl, trivial⟩, Nat.zero_le _, K_0⟩
 ·
  clear hE a
  rintro j a w1 ⟨hE, hj9, K_0⟩
  rcases Decidable.em ((j : Int) < (l.length : Int)) with hK1 | hK1
  ·
   refine c_reg R146_3_l ?_
   refine q0 p146_3_0 hE (st_lss (b := true) rfl rfl (decide_eq_true hK1)) ?_; clear hE a; intro a hE
   refine p_nil (x_norm (wp_seq ?_))
   refine c_cond (t := true) hE rfl ?_
   refine wp_skip (x_norm (wp_seq (wp_block (c_reg R146_4_l ?_))))
   refine q0 p146_4_0 hE (st_indexAddrC (i := j) Try.underlying22 tS5 (F_A _ K_0) rfl rfl (by omega)) ?_; clear hE a; intro a hE
   refine q0 (v := Value.int .u8 (rd l (j : Int))) p146_4_1 hE (st_loadC (i := j) tA5 (F_A _ K_0) (by omega) rfl) ?_; clear hE a; intro a hE
   refine q0 p146_4_2 hE (st_assign rfl) ?_; clear hE a; intro a hE
   refine p_nil (x_norm (c_regL R146_5_l ?_))
   have hjl : j < l.length := by omega
   have hjb := join_bd (l.take j) (isB_take hb j) (by rw [List.length_take]; omega)
   have hrb := isB_rd hb hjl
   refine q0 p146_5_0 hE (st_move rfl) ?_; clear hE a; intro a hE
   refine q0 p146_5_1 hE (st_mul (z := (joinF (l.take j)) * 256) rfl rfl (wr_i64 _ (by omega) (by omega))) ?_; clear hE a; intro a hE
   refine q0 p146_5_2 hE (st_move rfl) ?_; clear hE a; intro a hE
   refine q0 p146_5_3 hE (st_conv (z := (rd l (j : Int))) (by kernel_rfl) Try.underlying3 rfl (wr_i64 _ (by omega) (by omega))) ?_; clear hE a; intro a hE
   refine q0 p146_5_4 hE (st_add (z := ((joinF (l.take j)) * 256) + (rd l (j : Int))) rfl rfl (wr_i64 _ (by omega) (by omega))) ?_; clear hE a; intro a hE
   refine q0 p146_5_5 hE (st_assign rfl) ?_; clear hE a; intro a hE
   refine p_nil (x_normB (x_norm (c_regL R146_6_l ?_)))
   refine q0 p146_6_0 hE (st_add (z := (j : Int) + 1) rfl rfl (wr_i64 _ (by omega) (by omega))) ?_; clear hE a; intro a hE
   refine q0 p146_6_1 hE (st_move rfl) ?_; clear hE a; intro a hE
   refine p_nil (x_norm ?_)
   have e9 : joinF (l.take j) * 256 + rd l (j : Int) = joinF (l.take (j + 1)) := (join_take l j hjl).symm
   exact ⟨j + 1, by omega, En.sub hE ⟨rfl, rfl, rfl, rfl, rfl, (by rw [e9]; rfl), trivial⟩, by omega, K_0⟩
  ·
   refine c_reg R146_3_l ?_
   refine q0 p146_3_0 hE (st_lss (b := false) rfl rfl (decide_eq_false hK1)) ?_; clear hE a; intro a hE
   refine p_nil (x_norm (wp_seq ?_))
   refine c_cond (t := false) hE rfl ?_
   refine wp_exit (x_exit (x_exit (x_in (x_norm (c_reg R146_7_l ?_)))))
   refine q0 p146_7_0 hE (st_move rfl) ?_; clear hE a; intro a hE
   refine q0 p146_7_1 hE (st_assign rfl) ?_; clear hE a; intro a hE
   refine p_nil (x_norm (wp_ret ?_))
   refine ret_one (v := Value.int .i64 (joinF (l.take j))) rfl hE (.tmp rfl .nil) ?_
   obtain rfl : j = l.length := by omega
   exact ⟨by rw [List.take_length], K_0⟩
theorem R67_0_l : List.range (regOf Try.f67 0).size = [0] := by kernel_rfl
theorem R67_1_l : List.range (regOf Try.f67 1).size = [0, 1, 2, 3, 4, 5, 6, 7] := by kernel_rfl
theorem R67_2_l : List.range (regOf Try.f67 2).size = [0, 1, 2] := by kernel_rfl
theorem body67 : Try.f67.body = some (.seq (.region 0 (regOf Try.f67 0) false) (.seq (.region 1 (regOf Try.f67 1) false) (.seq (.region 2 (regOf Try.f67 2) false) (.ret)))) := by kernel_rfl
theorem p67_0_0 : pj (regOf Try.f67 0) 0 = some (some 4, .assign (.const (.slice none 0 0)), 22, none) := by kernel_rfl
theorem p67_1_0 : pj (regOf Try.f67 1) 0 = some (some 8, .move (.tmp 0), 104, none) := by kernel_rfl
theorem p67_1_1 : pj (regOf Try.f67 1) 1 = some (some 9, .move (.tmp 1), 3, none) := by kernel_rfl
theorem p67_1_2 : pj (regOf Try.f67 1) 2 = some (some 10, .call { callee := .value (.func 122), args := #[.tmp 8, .tmp 9], argTypes := #[104, 3] }, 121, none) := by kernel_rfl
theorem cl122 : callable Try.f122 = true := by kernel_rfl
theorem p67_1_3 : pj (regOf Try.f67 1) 3 = some (some 7, .move (.tmp 10), 121, none) := by kernel_rfl
theorem p67_1_4 : pj (regOf Try.f67 1) 4 = some (some 11, .extract (.tmp 7) 0, 22, none) := by kernel_rfl
theorem p67_1_5 : pj (regOf Try.f67 1) 5 = some (some 12, .extract (.tmp 7) 1, 4, none) := by kernel_rfl
theorem p67_1_6 : pj (regOf Try.f67 1) 6 = some (some 5, .assign (.tmp 11), 22, none) := by kernel_rfl
theorem p67_1_7 : pj (regOf Try.f67 1) 7 = some (some 6, .assign (.tmp 12), 4, none) := by kernel_rfl
theorem p67_2_0 : pj (regOf Try.f67 2) 0 = some (some 13, .move (.tmp 5), 22, none) := by kernel_rfl
theorem p67_2_1 : pj (regOf Try.f67 2) 1 = some (some 14, .call { callee := .value (.func 123), args := #[.tmp 13], argTypes := #[22] }, 22, none) := by kernel_rfl
theorem cl123 : callable Try.f123 = true := by kernel_rfl
theorem p67_2_2 : pj (regOf Try.f67 2) 2 = some (some 4, .assign (.tmp 14), 22, none) := by kernel_rfl
set_option maxHeartbeats 4000000 in
theorem bytes_c (g : Nat) (A : Option Addr) (c : Nat) (l : List Int) (p k : Nat) (r : Int) (w : World) (hp : p ≤ l.length) (hl : l.length ≤ 1000000) (hc : l.length ≤ c) (hc2 : c ≤ 9223372036854775807) (hk0 : k ≤ 1000000000) (B_g : w.heap[g]? = some (.cells #[.slice A l.length c, .int .i64 (p : Int), .int .i64 r] 188 (0, 0))) (F_A : ∀ W', Kp w W' (fun k => k = g) → Kd.C (Kd.int .u8) W' A l.length l) : Calls Try.prog 67 #[.pointer (some ⟨g, 0, none⟩), .int .i64 (k : Int)] w fun e w' => ∃ A' c', e = .returned (.slice A' (lN l p k r).length c') ∧ w'.ownsRow w.heap.size 5 1 (.slice A' (lN l p k r).length c') (lN l p k r).length (encs (Value.int .u8) (lN l p k r)) ∧ (¬ OB A' g) ∧ w'.heap[g]? = some (.cells #[.slice A l.length c, .int .i64 ((pN l.length p k r : Nat) : Int), .int .i64 (rN l.length p k r)] 188 (0, 0)) ∧ Kp w w' (fun k => k = g) := by
 have K_0 := Kp.refl w (fun k => k = g)
 refine enter (args := [Value.pointer (some ⟨g, 0, none⟩), Value.int .i64 (k : Int)]) (n := 15) Try.func67 body67 rfl rfl rfl ?_
 intro a hE
 refine c_reg R67_0_l ?_
 refine q0 p67_0_0 hE (st_assign rfl) ?_; clear hE a; intro a hE
 refine p_nil (x_norm (c_reg R67_1_l ?_))
 refine q0 p67_1_0 hE (st_move rfl) ?_; clear hE a; intro a hE
 refine q0 p67_1_1 hE (st_move rfl) ?_; clear hE a; intro a hE
 refine p_cons (s_call (xs := [Operand.tmp 8, Operand.tmp 9]) (args := [Value.pointer (some ⟨g, 0, none⟩), Value.int .i64 (k : Int)]) p67_1_2 hE wn_none rfl rfl Try.func122 cl122 (need_c g A c l p k r _ hp hl hc hc2 (by omega) B_g) ?_)
 rintro e w1 ⟨A1, rfl, hcut, B_g', hk⟩
 replace K_0 := K_0.then_ hk (fun k h => by rw [show k = g from h]; exact Or.inl rfl)
 replace B_g := B_g'
 have K_s2 := Kp.refl w1 (fun k => k = g)
 have F_n : ∀ W', Kp w1 W' (fun k => k = g) → Kd.C (Kd.int .u8) W' A1 (lN l p k r).length (lN l p k r) := fun W' hk => hcut W' (F_A W' (K_0.then_ hk (fun _ h => .inl h)))
 refine ⟨_, rfl, ?_⟩; clear hE a; intro a hE
 refine q0 p67_1_3 hE (st_move rfl) ?_; clear hE a; intro a hE
 refine q0 p67_1_4 hE (st_extract rfl rfl) ?_; clear hE a; intro a hE
 refine q0 p67_1_5 hE (st_extract rfl rfl) ?_; clear hE a; intro a hE
 refine q0 p67_1_6 hE (st_assign rfl) ?_; clear hE a; intro a hE
 refine q0 p67_1_7 hE (st_assign rfl) ?_; clear hE a; intro a hE
 refine p_nil (x_norm (c_reg R67_2_l ?_))
 refine q0 p67_2_0 hE (st_move rfl) ?_; clear hE a; intro a hE
 have hnb_g := blk_lt B_g
 have hnz_0 := K_0.kept.1
 have hnz_s2 := K_s2.kept.1
 refine p_cons (s_call (xs := [Operand.tmp 13]) (args := [Value.slice A1 ((lN l p k r).length) ((lN l p k r).length)]) p67_2_1 hE wn_none rfl rfl Try.func123 cl123 (clone_b A1 (lN l p k r).length (lN l p k r) _ (F_n _ K_s2) (by have := lN_le2 l p k r; omega)) ?_)
 rintro e w3 ⟨A2, c2, rfl, O_o, hk⟩
 replace B_g := kp_blk B_g hk (fun h => h)
 replace K_0 := K_0.then_ hk (fun _ h => h.elim)
 replace K_s2 := K_s2.then_ hk (fun _ h => h.elim)
 have Nb_o_g : ¬ OB A2 g := fun h => by have := (own_ob O_o h).1; have := hnb_g; omega
 have Z_0_o : ∀ k, OB A2 k → (fun k => k = g) k ∨ w.heap.size ≤ k := fun k h => .inr (by have := (own_ob O_o h).1; have := hnz_0; omega)
 have Z_s2_o : ∀ k, OB A2 k → (fun k => k = g) k ∨ w1.heap.size ≤ k := fun k h => .inr (by have := (own_ob O_o h).1; have := hnz_s2; omega)
 replace O_o := own_lower O_o hnz_0
 refine ⟨_, rfl, ?_⟩; clear hE a; intro a hE
 refine q0 p67_2_2 hE (st_assign rfl) ?_; clear hE a; intro a hE
 refine p_nil (x_norm (wp_ret ?_))
 refine ret_one (v := Value.slice A2 ((lN l p k r).length) c2) rfl hE (.tmp rfl .nil) ?_
 exact ⟨A2, c2, rfl, O_o, Nb_o_g, B_g, K_0⟩
theorem R109_0_l : List.range (regOf Try.f109 0).size = [0] := by kernel_rfl
theorem R109_1_l : List.range (regOf Try.f109 1).size = [0, 1, 2] := by kernel_rfl
theorem R109_3_l : List.range (regOf Try.f109 3).size = [0, 1, 2, 3, 4, 5, 6, 7] := by kernel_rfl
theorem R109_4_l : List.range (regOf Try.f109 4).size = [0, 1, 2] := by kernel_rfl
theorem body109 : Try.f109.body = some (.seq (.region 0 (regOf Try.f109 0) false) (.seq (.seq (.region 1 (regOf Try.f109 1) false) (.cond (Operand.tmp 9) (.region 2 (regOf Try.f109 2) false) (.skip))) (.seq (.region 3 (regOf Try.f109 3) false) (.seq (.region 4 (regOf Try.f109 4) false) (.ret))))) := by kernel_rfl
theorem p109_0_0 : pj (regOf Try.f109 0) 0 = some (some 4, .assign (.const (.int .i64 0)), 3, none) := by kernel_rfl
theorem p109_1_0 : pj (regOf Try.f109 1) 0 = some (some 7, .move (.tmp 1), 3, none) := by kernel_rfl
theorem p109_1_1 : pj (regOf Try.f109 1) 1 = some (some 8, .call { callee := .value (.func 130), args := #[.tmp 7], argTypes := #[3] }, 3, none) := by kernel_rfl
theorem cl130 : callable Try.f130 = true := by kernel_rfl
theorem p109_1_2 : pj (regOf Try.f109 1) 2 = some (some 9, .binOp .eql 3 (.tmp 8) (.const (.int .i64 0)) 3, 4, none) := by kernel_rfl
theorem p109_3_0 : pj (regOf Try.f109 3) 0 = some (some 13, .move (.tmp 0), 104, none) := by kernel_rfl
theorem p109_3_1 : pj (regOf Try.f109 3) 1 = some (some 14, .move (.tmp 1), 3, none) := by kernel_rfl
theorem p109_3_2 : pj (regOf Try.f109 3) 2 = some (some 15, .call { callee := .value (.func 122), args := #[.tmp 13, .tmp 14], argTypes := #[104, 3] }, 121, none) := by kernel_rfl
theorem p109_3_3 : pj (regOf Try.f109 3) 3 = some (some 12, .move (.tmp 15), 121, none) := by kernel_rfl
theorem p109_3_4 : pj (regOf Try.f109 3) 4 = some (some 16, .extract (.tmp 12) 0, 22, none) := by kernel_rfl
theorem p109_3_5 : pj (regOf Try.f109 3) 5 = some (some 17, .extract (.tmp 12) 1, 4, none) := by kernel_rfl
theorem p109_3_6 : pj (regOf Try.f109 3) 6 = some (some 5, .assign (.tmp 16), 22, none) := by kernel_rfl
theorem p109_3_7 : pj (regOf Try.f109 3) 7 = some (some 6, .assign (.tmp 17), 4, none) := by kernel_rfl
theorem p109_4_0 : pj (regOf Try.f109 4) 0 = some (some 18, .move (.tmp 5), 22, none) := by kernel_rfl
theorem p109_4_1 : pj (regOf Try.f109 4) 1 = some (some 19, .call { callee := .value (.func 146), args := #[.tmp 18], argTypes := #[22] }, 3, none) := by kernel_rfl
theorem cl146 : callable Try.f146 = true := by kernel_rfl
theorem p109_4_2 : pj (regOf Try.f109 4) 2 = some (some 4, .assign (.tmp 19), 3, none) := by kernel_rfl
set_option maxHeartbeats 4000000 in
theorem take_c (g : Nat) (A : Option Addr) (c : Nat) (l : List Int) (p k : Nat) (r : Int) (w : World) (hp : p ≤ l.length) (hl : l.length ≤ 1000000) (hc : l.length ≤ c) (hc2 : c ≤ 9223372036854775807) (hk0 : k ≤ 4) (hsp : ¬ spanF (k : Int) = 0) (hb : isB l) (B_g : w.heap[g]? = some (.cells #[.slice A l.length c, .int .i64 (p : Int), .int .i64 r] 188 (0, 0))) (F_A : ∀ W', Kp w W' (fun k => k = g) → Kd.C (Kd.int .u8) W' A l.length l) : Calls Try.prog 109 #[.pointer (some ⟨g, 0, none⟩), .int .i64 (k : Int)] w fun e w' => e = .returned (.int .i64 (joinF (lN l p k r))) ∧ w'.heap[g]? = some (.cells #[.slice A l.length c, .int .i64 ((pN l.length p k r : Nat) : Int), .int .i64 (rN l.length p k r)] 188 (0, 0)) ∧ Kp w w' (fun k => k = g) := by
 have K_0 := Kp.refl w (fun k => k = g)
 refine enter (args := [Value.pointer (some ⟨g, 0, none⟩), Value.int .i64 (k : Int)]) (n := 20) Try.func109 body109 rfl rfl rfl ?_
 intro a hE
 refine c_reg R109_0_l ?_
 refine q0 p109_0_0 hE (st_assign rfl) ?_; clear hE a; intro a hE
 refine p_nil (x_norm (wp_seq (c_reg R109_1_l ?_)))
 refine q0 p109_1_0 hE (st_move rfl) ?_; clear hE a; intro a hE
 refine p_cons (s_call (xs := [Operand.tmp 7]) (args := [Value.int .i64 (k : Int)]) p109_1_1 hE wn_none rfl rfl Try.func130 cl130 (span_any (k : Int) _) ?_)
 rintro e w1 ⟨rfl, hk⟩
 replace B_g := kp_blk B_g hk (fun h => h)
 replace K_0 := K_0.then_ hk (fun _ h => h.elim)
 refine ⟨_, rfl, ?_⟩; clear hE a; intro a hE
 refine q0 p109_1_2 hE (st_eql (b := false) rfl rfl (decide_eq_false hsp)) ?_; clear hE a; intro a hE
 refine p_nil (x_norm ?_)
 refine c_cond (t := false) hE rfl ?_
 refine wp_skip (x_norm (c_reg R109_3_l ?_))
 refine q0 p109_3_0 hE (st_move rfl) ?_; clear hE a; intro a hE
 refine q0 p109_3_1 hE (st_move rfl) ?_; clear hE a; intro a hE
 refine p_cons (s_call (xs := [Operand.tmp 13, Operand.tmp 14]) (args := [Value.pointer (some ⟨g, 0, none⟩), Value.int .i64 (k : Int)]) p109_3_2 hE wn_none rfl rfl Try.func122 cl122 (need_c g A c l p k r _ hp hl hc hc2 (by omega) B_g) ?_)
 rintro e w2 ⟨A1, rfl, hcut, B_g', hk⟩
 replace K_0 := K_0.then_ hk (fun k h => by rw [show k = g from h]; exact Or.inl rfl)
 replace B_g := B_g'
 have K_s3 := Kp.refl w2 (fun k => k = g)
 have F_n : ∀ W', Kp w2 W' (fun k => k = g) → Kd.C (Kd.int .u8) W' A1 (lN l p k r).length (lN l p k r) := fun W' hk => hcut W' (F_A W' (K_0.then_ hk (fun _ h => .inl h)))
 refine ⟨_, rfl, ?_⟩; clear hE a; intro a hE
 refine q0 p109_3_3 hE (st_move rfl) ?_; clear hE a; intro a hE
 refine q0 p109_3_4 hE (st_extract rfl rfl) ?_; clear hE a; intro a hE
 refine q0 p109_3_5 hE (st_extract rfl rfl) ?_; clear hE a; intro a hE
 refine q0 p109_3_6 hE (st_assign rfl) ?_; clear hE a; intro a hE
 refine q0 p109_3_7 hE (st_assign rfl) ?_; clear hE a; intro a hE
 refine p_nil (x_norm (c_reg R109_4_l ?_))
 refine q0 p109_4_0 hE (st_move rfl) ?_; clear hE a; intro a hE
 refine p_cons (s_call (xs := [Operand.tmp 18]) (args := [Value.slice A1 ((lN l p k r).length) ((lN l p k r).length)]) p109_4_1 hE wn_none rfl rfl Try.func146 cl146 (joined_c A1 _ (lN l p k r) _ (isB_lN hb p k r) (by have := lN_le l p k r; omega) (fun W' hk => F_n _ (K_s3.then_ hk (fun _ h => h.elim)))) ?_)
 rintro e w4 ⟨rfl, hk⟩
 replace B_g := kp_blk B_g hk (fun h => h)
 replace K_0 := K_0.then_ hk (fun _ h => h.elim)
 replace K_s3 := K_s3.then_ hk (fun _ h => h.elim)
 refine ⟨_, rfl, ?_⟩; clear hE a; intro a hE
 refine q0 p109_4_2 hE (st_assign rfl) ?_; clear hE a; intro a hE
 refine p_nil (x_norm (wp_ret ?_))
 refine ret_one (v := Value.int .i64 (joinF (lN l p k r))) rfl hE (.tmp rfl .nil) ?_
 exact ⟨rfl, B_g, K_0⟩
theorem R110_0_l : List.range (regOf Try.f110 0).size = [0] := by kernel_rfl
theorem R110_1_l : List.range (regOf Try.f110 1).size = [0, 1, 2, 3, 4, 5, 6, 7] := by kernel_rfl
theorem R110_2_l : List.range (regOf Try.f110 2).size = [0, 1, 2, 3] := by kernel_rfl
theorem R110_3_l : List.range (regOf Try.f110 3).size = [0, 1] := by kernel_rfl
theorem R110_4_l : List.range (regOf Try.f110 4).size = [0, 1, 2, 3] := by kernel_rfl
theorem R110_5_l : List.range (regOf Try.f110 5).size = [0, 1] := by kernel_rfl
theorem body110 : Try.f110.body = some (.seq (.region 0 (regOf Try.f110 0) false) (.seq (.region 1 (regOf Try.f110 1) false) (.seq (.region 2 (regOf Try.f110 2) false) (.seq (.seq (.region 3 (regOf Try.f110 3) false) (.cond (Operand.tmp 18) (.region 4 (regOf Try.f110 4) false) (.skip))) (.seq (.region 5 (regOf Try.f110 5) false) (.ret)))))) := by kernel_rfl
theorem p110_0_0 : pj (regOf Try.f110 0) 0 = some (some 4, .assign (.const (.pointer none)), 104, none) := by kernel_rfl
theorem p110_1_0 : pj (regOf Try.f110 1) 0 = some (some 9, .move (.tmp 0), 104, none) := by kernel_rfl
theorem p110_1_1 : pj (regOf Try.f110 1) 1 = some (some 10, .move (.tmp 1), 3, none) := by kernel_rfl
theorem p110_1_2 : pj (regOf Try.f110 1) 2 = some (some 11, .call { callee := .value (.func 122), args := #[.tmp 9, .tmp 10], argTypes := #[104, 3] }, 121, none) := by kernel_rfl
theorem p110_1_3 : pj (regOf Try.f110 1) 3 = some (some 8, .move (.tmp 11), 121, none) := by kernel_rfl
theorem p110_1_4 : pj (regOf Try.f110 1) 4 = some (some 12, .extract (.tmp 8) 0, 22, none) := by kernel_rfl
theorem p110_1_5 : pj (regOf Try.f110 1) 5 = some (some 13, .extract (.tmp 8) 1, 4, none) := by kernel_rfl
theorem p110_1_6 : pj (regOf Try.f110 1) 6 = some (some 5, .assign (.tmp 12), 22, none) := by kernel_rfl
theorem p110_1_7 : pj (regOf Try.f110 1) 7 = some (some 6, .assign (.tmp 13), 4, none) := by kernel_rfl
theorem p110_2_0 : pj (regOf Try.f110 2) 0 = some (some 14, .move (.tmp 5), 22, none) := by kernel_rfl
theorem p110_2_1 : pj (regOf Try.f110 2) 1 = some (some 15, .call { callee := .value (.func 123), args := #[.tmp 14], argTypes := #[22] }, 22, none) := by kernel_rfl
theorem p110_2_2 : pj (regOf Try.f110 2) 2 = some (some 16, .call { callee := .value (.func 50), args := #[.tmp 15], argTypes := #[22] }, 104, none) := by kernel_rfl
theorem cl50 : callable Try.f50 = true := by kernel_rfl
theorem p110_2_3 : pj (regOf Try.f110 2) 3 = some (some 7, .assign (.tmp 16), 104, none) := by kernel_rfl
theorem p110_3_0 : pj (regOf Try.f110 3) 0 = some (some 17, .move (.tmp 6), 4, none) := by kernel_rfl
theorem p110_3_1 : pj (regOf Try.f110 3) 1 = some (some 18, .unOp .not 4 (.tmp 17), 4, none) := by kernel_rfl
theorem p110_5_0 : pj (regOf Try.f110 5) 0 = some (some 23, .move (.tmp 7), 104, none) := by kernel_rfl
theorem p110_5_1 : pj (regOf Try.f110 5) 1 = some (some 4, .assign (.tmp 23), 104, none) := by kernel_rfl
theorem p110_4_0 : pj (regOf Try.f110 4) 0 = some (some 19, .move (.tmp 7), 104, none) := by kernel_rfl
theorem p110_4_1 : pj (regOf Try.f110 4) 1 = some (some 20, .move (.tmp 0), 104, none) := by kernel_rfl
theorem p110_4_2 : pj (regOf Try.f110 4) 2 = some (some 21, .call { callee := .value (.func 66), args := #[.tmp 20], argTypes := #[104] }, 24, none) := by kernel_rfl
theorem p110_4_3 : pj (regOf Try.f110 4) 3 = some (some 22, .call { callee := .value (.func 145), args := #[.tmp 19, .tmp 21], argTypes := #[104, 24] }, 0, none) := by kernel_rfl
set_option maxHeartbeats 4000000 in
theorem within_c (g : Nat) (A : Option Addr) (c : Nat) (l : List Int) (p k : Nat) (r : Int) (w : World) (hp : p ≤ l.length) (hl : l.length ≤ 1000000) (hc : l.length ≤ c) (hc2 : c ≤ 9223372036854775807) (hk0 : k ≤ 1000000000) (B_g : w.heap[g]? = some (.cells #[.slice A l.length c, .int .i64 (p : Int), .int .i64 r] 188 (0, 0))) (F_A : ∀ W', Kp w W' (fun k => k = g) → Kd.C (Kd.int .u8) W' A l.length l) : Calls Try.prog 110 #[.pointer (some ⟨g, 0, none⟩), .int .i64 (k : Int)] w fun e w' => ∃ g2 A' c', e = .returned (.pointer (some ⟨g2, 0, none⟩)) ∧ w.heap.size ≤ g2 ∧ w'.ownsRow w.heap.size 5 1 (.slice A' (lN l p k r).length c') (lN l p k r).length (encs (Value.int .u8) (lN l p k r)) ∧ w'.heap[g2]? = some (.cells #[.slice A' (lN l p k r).length c', .int .i64 0, .int .i64 (rN l.length p k r)] 188 (0, 0)) ∧ (¬ OB A' g2) ∧ (¬ OB A' g) ∧ w'.heap[g]? = some (.cells #[.slice A l.length c, .int .i64 ((pN l.length p k r : Nat) : Int), .int .i64 (rN l.length p k r)] 188 (0, 0)) ∧ Kp w w' (fun k => k = g) := by
 have K_0 := Kp.refl w (fun k => k = g)
 refine enter (args := [Value.pointer (some ⟨g, 0, none⟩), Value.int .i64 (k : Int)]) (n := 24) Try.func110 body110 rfl rfl rfl ?_
 intro a hE
 refine c_reg R110_0_l ?_
 refine q0 p110_0_0 hE (st_assign rfl) ?_; clear hE a; intro a hE
 refine p_nil (x_norm (c_reg R110_1_l ?_))
 refine q0 p110_1_0 hE (st_move rfl) ?_; clear hE a; intro a hE
 refine q0 p110_1_1 hE (st_move rfl) ?_; clear hE a; intro a hE
 refine p_cons (s_call (xs := [Operand.tmp 9, Operand.tmp 10]) (args := [Value.pointer (some ⟨g, 0, none⟩), Value.int .i64 (k : Int)]) p110_1_2 hE wn_none rfl rfl Try.func122 cl122 (need_c g A c l p k r _ hp hl hc hc2 (by omega) B_g) ?_)
 rintro e w1 ⟨A1, rfl, hcut, B_g', hk⟩
 replace K_0 := K_0.then_ hk (fun k h => by rw [show k = g from h]; exact Or.inl rfl)
 replace B_g := B_g'
 have K_s2 := Kp.refl w1 (fun k => k = g)
 have F_n : ∀ W', Kp w1 W' (fun k => k = g) → Kd.C (Kd.int .u8) W' A1 (lN l p k r).length (lN l p k r) := fun W' hk => hcut W' (F_A W' (K_0.then_ hk (fun _ h => .inl h)))
 refine ⟨_, rfl, ?_⟩; clear hE a; intro a hE
 refine q0 p110_1_3 hE (st_move rfl) ?_; clear hE a; intro a hE
 refine q0 p110_1_4 hE (st_extract rfl rfl) ?_; clear hE a; intro a hE
 refine q0 p110_1_5 hE (st_extract rfl rfl) ?_; clear hE a; intro a hE
 refine q0 p110_1_6 hE (st_assign rfl) ?_; clear hE a; intro a hE
 refine q0 p110_1_7 hE (st_assign rfl) ?_; clear hE a; intro a hE
 refine p_nil (x_norm (c_reg R110_2_l ?_))
 refine q0 p110_2_0 hE (st_move rfl) ?_; clear hE a; intro a hE
 have hnb_g := blk_lt B_g
 have hnz_0 := K_0.kept.1
 have hnz_s2 := K_s2.kept.1
 refine p_cons (s_call (xs := [Operand.tmp 14]) (args := [Value.slice A1 ((lN l p k r).length) ((lN l p k r).length)]) p110_2_1 hE wn_none rfl rfl Try.func123 cl123 (clone_b A1 (lN l p k r).length (lN l p k r) _ (F_n _ K_s2) (by have := lN_le2 l p k r; omega)) ?_)
 rintro e w3 ⟨A2, c2, rfl, O_o, hk⟩
 replace B_g := kp_blk B_g hk (fun h => h)
 replace K_0 := K_0.then_ hk (fun _ h => h.elim)
 replace K_s2 := K_s2.then_ hk (fun _ h => h.elim)
 have Nb_o_g : ¬ OB A2 g := fun h => by have := (own_ob O_o h).1; have := hnb_g; omega
 have Z_0_o : ∀ k, OB A2 k → (fun k => k = g) k ∨ w.heap.size ≤ k := fun k h => .inr (by have := (own_ob O_o h).1; have := hnz_0; omega)
 have Z_s2_o : ∀ k, OB A2 k → (fun k => k = g) k ∨ w1.heap.size ≤ k := fun k h => .inr (by have := (own_ob O_o h).1; have := hnz_s2; omega)
 replace O_o := own_lower O_o hnz_0
 refine ⟨_, rfl, ?_⟩; clear hE a; intro a hE
 refine p_cons (s_call (xs := [Operand.tmp 15]) (args := [Value.slice A2 ((lN l p k r).length) c2]) p110_2_2 hE wn_none rfl rfl Try.func50 cl50 (over_c A2 ((lN l p k r).length) c2 _) ?_)
 rintro e w6 ⟨u4, rfl, z5, B_u4, hk⟩
 have n_g_u4 : g ≠ u4 := ne_new B_g z5
 have z_0_u4 := Nat.le_trans K_0.kept.1 z5
 have z_s2_u4 := Nat.le_trans K_s2.kept.1 z5
 have Nb_o_u4 : ¬ OB A2 u4 := fun h => by have := (own_ob O_o h).2; omega
 replace B_g := kp_blk B_g hk (fun h => h)
 replace O_o := own_keep O_o hk (fun _ _ h => h)
 replace K_0 := K_0.then_ hk (fun _ h => h.elim)
 replace K_s2 := K_s2.then_ hk (fun _ h => h.elim)
 refine ⟨_, rfl, ?_⟩; clear hE a; intro a hE
 refine q0 p110_2_3 hE (st_assign rfl) ?_; clear hE a; intro a hE
 refine p_nil (x_norm (wp_seq ?_))
 rcases Decidable.em (okc l.length p k r) with hOK | hOK
 ·
  rw [decide_eq_true hOK] at hE
  refine c_reg R110_3_l ?_
  refine q0 p110_3_0 hE (st_move rfl) ?_; clear hE a; intro a hE
  refine q0 p110_3_1 hE (st_not rfl rfl) ?_; clear hE a; intro a hE
  refine p_nil (x_norm ?_)
  refine c_cond (t := false) hE rfl ?_
  refine wp_skip (x_norm (c_reg R110_5_l ?_))
  refine q0 p110_5_0 hE (st_move rfl) ?_; clear hE a; intro a hE
  refine q0 p110_5_1 hE (st_assign rfl) ?_; clear hE a; intro a hE
  refine p_nil (x_norm (wp_ret ?_))
  refine ret_one (v := Value.pointer (some ⟨u4, 0, none⟩)) rfl hE (.tmp rfl .nil) ?_
  exact ⟨u4, A2, c2, rfl, z_0_u4, O_o, by rw [show rN l.length p k r = 0 from if_pos hOK]; exact B_u4, Nb_o_u4, Nb_o_g, B_g, K_0⟩
 ·
  rw [decide_eq_false hOK] at hE
  refine c_reg R110_3_l ?_
  refine q0 p110_3_0 hE (st_move rfl) ?_; clear hE a; intro a hE
  refine q0 p110_3_1 hE (st_not rfl rfl) ?_; clear hE a; intro a hE
  refine p_nil (x_norm ?_)
  refine c_cond (t := true) hE rfl ?_
  refine c_regL R110_4_l ?_
  refine q0 p110_4_0 hE (st_move rfl) ?_; clear hE a; intro a hE
  refine q0 p110_4_1 hE (st_move rfl) ?_; clear hE a; intro a hE
  refine p_cons (s_call (xs := [Operand.tmp 20]) (args := [Value.pointer (some ⟨g, 0, none⟩)]) p110_4_2 hE wn_none rfl rfl Try.func66 cl66 (err_c _ g A c _ _ _ B_g) ?_)
  rintro e w7 ⟨rfl, hk⟩
  replace B_g := kp_blk B_g hk (fun h => h)
  replace B_u4 := kp_blk B_u4 hk (fun h => h)
  replace O_o := own_keep O_o hk (fun _ _ h => h)
  replace K_0 := K_0.then_ hk (fun _ h => h.elim)
  replace K_s2 := K_s2.then_ hk (fun _ h => h.elim)
  refine ⟨_, rfl, ?_⟩; clear hE a; intro a hE
  refine p_cons (s_call (xs := [Operand.tmp 19, Operand.tmp 21]) (args := [Value.pointer (some ⟨u4, 0, none⟩), Value.int .i64 (rN l.length p k r)]) p110_4_3 hE wn_none rfl rfl Try.func145 cl145 (spoil_c _ (rN l.length p k r) u4 A2 c2 0 _ _ B_u4) ?_)
  rintro e w8 ⟨rfl, B_u4', hk⟩
  rw [if_pos rfl] at B_u4'
  replace B_g := kp_blk B_g hk n_g_u4
  replace O_o := own_keep O_o hk (fun k hk2 h2 => Nb_o_u4 (by rw [show k = u4 from h2] at hk2; exact hk2))
  replace K_0 := K_0.then_ hk (fun k h => by rw [show k = u4 from h]; exact Or.inr z_0_u4)
  replace K_s2 := K_s2.then_ hk (fun k h => by rw [show k = u4 from h]; exact Or.inr z_s2_u4)
  replace B_u4 := B_u4'
  refine ⟨_, rfl, ?_⟩; clear hE a; intro a hE
  refine p_nil (x_norm (c_reg R110_5_l ?_))
  refine q0 p110_5_0 hE (st_move rfl) ?_; clear hE a; intro a hE
  refine q0 p110_5_1 hE (st_assign rfl) ?_; clear hE a; intro a hE
  refine p_nil (x_norm (wp_ret ?_))
  refine ret_one (v := Value.pointer (some ⟨u4, 0, none⟩)) rfl hE (.tmp rfl .nil) ?_
  exact ⟨u4, A2, c2, rfl, z_0_u4, O_o, B_u4, Nb_o_u4, Nb_o_g, B_g, K_0⟩
def clF (n p : Nat) (r : Int) : Int := if r = 0 then (if p < n then 3 else 0) else r
theorem R112_0_l : List.range (regOf Try.f112 0).size = [0] := by kernel_rfl
theorem R112_1_l : List.range (regOf Try.f112 1).size = [0, 1, 2] := by kernel_rfl
theorem R112_2_l : List.range (regOf Try.f112 2).size = [0, 1] := by kernel_rfl
theorem R112_3_l : List.range (regOf Try.f112 3).size = [0, 1] := by kernel_rfl
theorem R112_4_l : List.range (regOf Try.f112 4).size = [0, 1, 2, 3, 4] := by kernel_rfl
theorem R112_5_l : List.range (regOf Try.f112 5).size = [0] := by kernel_rfl
theorem R112_6_l : List.range (regOf Try.f112 6).size = [0] := by kernel_rfl
theorem body112 : Try.f112.body = some (.seq (.region 0 (regOf Try.f112 0) false) (.seq (.seq (.region 1 (regOf Try.f112 1) false) (.seq (.region 2 (regOf Try.f112 2) false) (.cond (Operand.tmp 7) (.seq (.region 3 (regOf Try.f112 3) false) (.ret)) (.skip)))) (.seq (.seq (.region 4 (regOf Try.f112 4) false) (.cond (Operand.tmp 13) (.seq (.region 5 (regOf Try.f112 5) false) (.ret)) (.skip))) (.seq (.region 6 (regOf Try.f112 6) false) (.ret))))) := by kernel_rfl
theorem p112_0_0 : pj (regOf Try.f112 0) 0 = some (some 2, .assign (.const (.int .i64 0)), 24, none) := by kernel_rfl
theorem p112_1_0 : pj (regOf Try.f112 1) 0 = some (some 4, .move (.tmp 0), 104, none) := by kernel_rfl
theorem p112_1_1 : pj (regOf Try.f112 1) 1 = some (some 5, .call { callee := .value (.func 66), args := #[.tmp 4], argTypes := #[104] }, 24, none) := by kernel_rfl
theorem p112_1_2 : pj (regOf Try.f112 1) 2 = some (some 3, .assign (.tmp 5), 24, none) := by kernel_rfl
theorem p112_2_0 : pj (regOf Try.f112 2) 0 = some (some 6, .move (.tmp 3), 24, none) := by kernel_rfl
theorem p112_2_1 : pj (regOf Try.f112 2) 1 = some (some 7, .binOp .neq 24 (.tmp 6) (.const (.int .i64 0)) 24, 4, none) := by kernel_rfl
theorem p112_4_0 : pj (regOf Try.f112 4) 0 = some (some 9, .move (.tmp 0), 104, none) := by kernel_rfl
theorem p112_4_1 : pj (regOf Try.f112 4) 1 = some (some 10, .nilCheck (.tmp 9), 0, none) := by kernel_rfl
theorem p112_4_2 : pj (regOf Try.f112 4) 2 = some (some 11, .fieldAddr 188 (.tmp 10) 0, 0, none) := by kernel_rfl
theorem p112_4_3 : pj (regOf Try.f112 4) 3 = some (some 12, .call { callee := .value (.func 108), args := #[.tmp 11], argTypes := #[186] }, 3, none) := by kernel_rfl
theorem p112_4_4 : pj (regOf Try.f112 4) 4 = some (some 13, .binOp .gtr 3 (.tmp 12) (.const (.int .i64 0)) 3, 4, none) := by kernel_rfl
theorem p112_5_0 : pj (regOf Try.f112 5) 0 = some (some 2, .assign (.const (.int .i64 3)), 24, none) := by kernel_rfl
theorem p112_6_0 : pj (regOf Try.f112 6) 0 = some (some 2, .assign (.const (.int .i64 0)), 24, none) := by kernel_rfl
theorem p112_3_0 : pj (regOf Try.f112 3) 0 = some (some 8, .move (.tmp 3), 24, none) := by kernel_rfl
theorem p112_3_1 : pj (regOf Try.f112 3) 1 = some (some 2, .assign (.tmp 8), 24, none) := by kernel_rfl
set_option maxHeartbeats 4000000 in
theorem close_c (n : Nat) (g : Nat) (A : Option Addr) (c : Nat) (p : Nat) (r : Int) (w : World) (hp : p ≤ n) (hn : n ≤ 1000000000) (B_g : w.heap[g]? = some (.cells #[.slice A n c, .int .i64 (p : Int), .int .i64 r] 188 (0, 0))) : Calls Try.prog 112 #[.pointer (some ⟨g, 0, none⟩)] w fun e w' => e = .returned (.int .i64 (clF n p r)) ∧ Kp w w' (fun _ => False) := by
 have K_0 := Kp.refl w (fun _ => False)
 refine enter (args := [Value.pointer (some ⟨g, 0, none⟩)]) (n := 14) Try.func112 body112 rfl rfl rfl ?_
 intro a hE
 refine c_reg R112_0_l ?_
 refine q0 p112_0_0 hE (st_assign rfl) ?_; clear hE a; intro a hE
 refine p_nil (x_norm (wp_seq ?_))
 rcases Decidable.em (r = 0) with hR0 | hR0
 ·
  rcases Decidable.em (p < n) with hPL | hPL
  ·
   refine c_reg R112_1_l ?_
   refine q0 p112_1_0 hE (st_move rfl) ?_; clear hE a; intro a hE
   refine p_cons (s_call (xs := [Operand.tmp 4]) (args := [Value.pointer (some ⟨g, 0, none⟩)]) p112_1_1 hE wn_none rfl rfl Try.func66 cl66 (err_c _ g A c p _ _ B_g) ?_)
   rintro e w1 ⟨rfl, hk⟩
   replace B_g := kp_blk B_g hk (fun h => h)
   replace K_0 := K_0.then_ hk (fun _ h => h.elim)
   refine ⟨_, rfl, ?_⟩; clear hE a; intro a hE
   refine q0 p112_1_2 hE (st_assign rfl) ?_; clear hE a; intro a hE
   refine p_nil (x_norm (c_reg R112_2_l ?_))
   refine q0 p112_2_0 hE (st_move rfl) ?_; clear hE a; intro a hE
   refine q0 p112_2_1 hE (st_neq (b := false) rfl rfl (by simp [hR0])) ?_; clear hE a; intro a hE
   refine p_nil (x_norm ?_)
   refine c_cond (t := false) hE rfl ?_
   refine wp_skip (x_norm (wp_seq (c_reg R112_4_l ?_)))
   refine q0 p112_4_0 hE (st_move rfl) ?_; clear hE a; intro a hE
   refine q0 p112_4_1 hE (st_nil rfl) ?_; clear hE a; intro a hE
   refine q0 p112_4_2 hE (st_fieldAddr Try.underlying188 rfl tS186 rfl rfl) ?_; clear hE a; intro a hE
   refine p_cons (s_call (xs := [Operand.tmp 11]) (args := [Value.pointer (some ⟨g, 0, none⟩)]) p112_4_3 hE wn_none rfl rfl Try.func108 cl108 (lft_c _ g A c p _ _ hp (by omega) B_g) ?_)
   rintro e w2 ⟨rfl, hk⟩
   replace B_g := kp_blk B_g hk (fun h => h)
   replace K_0 := K_0.then_ hk (fun _ h => h.elim)
   refine ⟨_, rfl, ?_⟩; clear hE a; intro a hE
   refine q0 p112_4_4 hE (st_gtr (b := true) rfl rfl (decide_eq_true (by omega))) ?_; clear hE a; intro a hE
   refine p_nil (x_norm ?_)
   refine c_cond (t := true) hE rfl ?_
   refine c_reg R112_5_l ?_
   refine q0 p112_5_0 hE (st_assign rfl) ?_; clear hE a; intro a hE
   refine p_nil (x_norm (wp_ret (x_ret ?_)))
   refine ret_one (v := Value.int .i64 3) rfl hE (.tmp rfl .nil) ?_
   exact ⟨by unfold clF; rw [if_pos hR0, if_pos hPL], K_0⟩
  ·
   refine c_reg R112_1_l ?_
   refine q0 p112_1_0 hE (st_move rfl) ?_; clear hE a; intro a hE
   refine p_cons (s_call (xs := [Operand.tmp 4]) (args := [Value.pointer (some ⟨g, 0, none⟩)]) p112_1_1 hE wn_none rfl rfl Try.func66 cl66 (err_c _ g A c p _ _ B_g) ?_)
   rintro e w3 ⟨rfl, hk⟩
   replace B_g := kp_blk B_g hk (fun h => h)
   replace K_0 := K_0.then_ hk (fun _ h => h.elim)
   refine ⟨_, rfl, ?_⟩; clear hE a; intro a hE
   refine q0 p112_1_2 hE (st_assign rfl) ?_; clear hE a; intro a hE
   refine p_nil (x_norm (c_reg R112_2_l ?_))
   refine q0 p112_2_0 hE (st_move rfl) ?_; clear hE a; intro a hE
   refine q0 p112_2_1 hE (st_neq (b := false) rfl rfl (by simp [hR0])) ?_; clear hE a; intro a hE
   refine p_nil (x_norm ?_)
   refine c_cond (t := false) hE rfl ?_
   refine wp_skip (x_norm (wp_seq (c_reg R112_4_l ?_)))
   refine q0 p112_4_0 hE (st_move rfl) ?_; clear hE a; intro a hE
   refine q0 p112_4_1 hE (st_nil rfl) ?_; clear hE a; intro a hE
   refine q0 p112_4_2 hE (st_fieldAddr Try.underlying188 rfl tS186 rfl rfl) ?_; clear hE a; intro a hE
   refine p_cons (s_call (xs := [Operand.tmp 11]) (args := [Value.pointer (some ⟨g, 0, none⟩)]) p112_4_3 hE wn_none rfl rfl Try.func108 cl108 (lft_c _ g A c p _ _ hp (by omega) B_g) ?_)
   rintro e w4 ⟨rfl, hk⟩
   replace B_g := kp_blk B_g hk (fun h => h)
   replace K_0 := K_0.then_ hk (fun _ h => h.elim)
   refine ⟨_, rfl, ?_⟩; clear hE a; intro a hE
   refine q0 p112_4_4 hE (st_gtr (b := false) rfl rfl (decide_eq_false (by omega))) ?_; clear hE a; intro a hE
   refine p_nil (x_norm ?_)
   refine c_cond (t := false) hE rfl ?_
   refine wp_skip (x_norm (c_reg R112_6_l ?_))
   refine q0 p112_6_0 hE (st_assign rfl) ?_; clear hE a; intro a hE
   refine p_nil (x_norm (wp_ret ?_))
   refine ret_one (v := Value.int .i64 0) rfl hE (.tmp rfl .nil) ?_
   exact ⟨by unfold clF; rw [if_pos hR0, if_neg hPL], K_0⟩
 ·
  refine c_reg R112_1_l ?_
  refine q0 p112_1_0 hE (st_move rfl) ?_; clear hE a; intro a hE
  refine p_cons (s_call (xs := [Operand.tmp 4]) (args := [Value.pointer (some ⟨g, 0, none⟩)]) p112_1_1 hE wn_none rfl rfl Try.func66 cl66 (err_c _ g A c p _ _ B_g) ?_)
  rintro e w5 ⟨rfl, hk⟩
  replace B_g := kp_blk B_g hk (fun h => h)
  replace K_0 := K_0.then_ hk (fun _ h => h.elim)
  refine ⟨_, rfl, ?_⟩; clear hE a; intro a hE
  refine q0 p112_1_2 hE (st_assign rfl) ?_; clear hE a; intro a hE
  refine p_nil (x_norm (c_reg R112_2_l ?_))
  refine q0 p112_2_0 hE (st_move rfl) ?_; clear hE a; intro a hE
  refine q0 p112_2_1 hE (st_neq (b := true) rfl rfl (by simp [hR0])) ?_; clear hE a; intro a hE
  refine p_nil (x_norm ?_)
  refine c_cond (t := true) hE rfl ?_
  refine c_reg R112_3_l ?_
  refine q0 p112_3_0 hE (st_move rfl) ?_; clear hE a; intro a hE
  refine q0 p112_3_1 hE (st_assign rfl) ?_; clear hE a; intro a hE
  refine p_nil (x_norm (wp_ret (x_ret ?_)))
  refine ret_one (v := Value.int .i64 r) rfl hE (.tmp rfl .nil) ?_
  exact ⟨by unfold clF; rw [if_neg hR0], K_0⟩
theorem take_e (g : Nat) (A : Option Addr) (c : Nat) (l : List Int) (p k : Nat) (r : Int) (kk : Int) (ek : kk = (k : Int)) (p2 : Nat) (r2 : Int) (hp2 : pN l.length p k r = p2) (hr2 : rN l.length p k r = r2) (w : World) (hp : p ≤ l.length) (hl : l.length ≤ 1000000) (hc : l.length ≤ c) (hc2 : c ≤ 9223372036854775807) (v : Int) (hv : joinF (lN l p k r) = v) (hk0 : k ≤ 4) (hsp : ¬ spanF (k : Int) = 0) (hb : isB l) (B_g : w.heap[g]? = some (.cells #[.slice A l.length c, .int .i64 (p : Int), .int .i64 r] 188 (0, 0))) (F_A : ∀ W', Kp w W' (fun k => k = g) → Kd.C (Kd.int .u8) W' A l.length l) : Calls Try.prog 109 #[.pointer (some ⟨g, 0, none⟩), .int .i64 kk] w fun e w' => e = .returned (.int .i64 v) ∧ w'.heap[g]? = some (.cells #[.slice A l.length c, .int .i64 (p2 : Int), .int .i64 r2] 188 (0, 0)) ∧ Kp w w' (fun k => k = g) := by
 subst ek; subst hp2; subst hr2; subst hv
 exact take_c g A c l p k r w hp hl hc hc2 hk0 hsp hb B_g F_A
theorem bytes_e (g : Nat) (A : Option Addr) (c : Nat) (l : List Int) (p k : Nat) (r : Int) (kk : Int) (ek : kk = (k : Int)) (p2 : Nat) (r2 : Int) (hp2 : pN l.length p k r = p2) (hr2 : rN l.length p k r = r2) (w : World) (hp : p ≤ l.length) (hl : l.length ≤ 1000000) (hc : l.length ≤ c) (hc2 : c ≤ 9223372036854775807) (x : List Int) (hx : lN l p k r = x) (hk0 : k ≤ 1000000000) (B_g : w.heap[g]? = some (.cells #[.slice A l.length c, .int .i64 (p : Int), .int .i64 r] 188 (0, 0))) (F_A : ∀ W', Kp w W' (fun k => k = g) → Kd.C (Kd.int .u8) W' A l.length l) : Calls Try.prog 67 #[.pointer (some ⟨g, 0, none⟩), .int .i64 kk] w fun e w' => ∃ A' c', e = .returned (.slice A' x.length c') ∧ w'.ownsRow w.heap.size 5 1 (.slice A' x.length c') x.length (encs (Value.int .u8) x) ∧ (¬ OB A' g) ∧ w'.heap[g]? = some (.cells #[.slice A l.length c, .int .i64 (p2 : Int), .int .i64 r2] 188 (0, 0)) ∧ Kp w w' (fun k => k = g) := by
 subst ek; subst hp2; subst hr2; subst hx
 exact bytes_c g A c l p k r w hp hl hc hc2 hk0 B_g F_A
theorem within_e (g : Nat) (A : Option Addr) (c : Nat) (l : List Int) (p k : Nat) (r : Int) (kk : Int) (ek : kk = (k : Int)) (p2 : Nat) (r2 : Int) (hp2 : pN l.length p k r = p2) (hr2 : rN l.length p k r = r2) (w : World) (hp : p ≤ l.length) (hl : l.length ≤ 1000000) (hc : l.length ≤ c) (hc2 : c ≤ 9223372036854775807) (x : List Int) (hx : lN l p k r = x) (hk0 : k ≤ 1000000000) (B_g : w.heap[g]? = some (.cells #[.slice A l.length c, .int .i64 (p : Int), .int .i64 r] 188 (0, 0))) (F_A : ∀ W', Kp w W' (fun k => k = g) → Kd.C (Kd.int .u8) W' A l.length l) : Calls Try.prog 110 #[.pointer (some ⟨g, 0, none⟩), .int .i64 kk] w fun e w' => ∃ g2 A' c', e = .returned (.pointer (some ⟨g2, 0, none⟩)) ∧ w.heap.size ≤ g2 ∧ w'.ownsRow w.heap.size 5 1 (.slice A' x.length c') x.length (encs (Value.int .u8) x) ∧ w'.heap[g2]? = some (.cells #[.slice A' x.length c', .int .i64 0, .int .i64 r2] 188 (0, 0)) ∧ (¬ OB A' g2) ∧ (¬ OB A' g) ∧ w'.heap[g]? = some (.cells #[.slice A l.length c, .int .i64 (p2 : Int), .int .i64 r2] 188 (0, 0)) ∧ Kp w w' (fun k => k = g) := by
 subst ek; subst hp2; subst hr2; subst hx
 exact within_c g A c l p k r w hp hl hc hc2 hk0 B_g F_A
end Go.Proofs.Ytgpclehnomkbmaa.Cu
