/- An option's bytes. -/
import Derived.Test.YtgpclehnomkbmaaOptChk
import Derived.Test.YtgpclehnomkbmaaOrw
import Derived.Test.YtgpclehnomkbmaaOptWord
set_option maxRecDepth 100000
set_option linter.unusedVariables false
set_option linter.unusedSimpArgs false
namespace Go.Proofs.Ytgpclehnomkbmaa.Ob
open Go.RowKit Go.Proofs.YtgpclehnomkbmaaW.PrintWords Go.Proofs.Ytgpclehnomkbmaa.Ds Go.Proofs.Ytgpclehnomkbmaa.Op Go.Proofs.Ytgpclehnomkbmaa.Oc Go.Proofs.Ytgpclehnomkbmaa.Or Go.Proofs.Ytgpclehnomkbmaa.Ow
open Go.Proofs.Ytgpclehnomkbmaa.Pk (Kp fitsF spanF putF digF fits_any put_ok C_take)
/-- The bytes of the numbers from place a to place z. -/
def putsF (SZ l : List Int) (a z : Nat) : List Int := ((List.range' a (z - a)).map fun (j : Nat) => putF (rd SZ (j : Int)) [rd l (j : Int)]).flatten
theorem puts_nil (SZ l : List Int) (a : Nat) : putsF SZ l a a = [] := by unfold putsF; simp
theorem puts_succ {SZ l : List Int} {a k : Nat} (h : a ≤ k) (X : List Int) : X ++ putsF SZ l a k ++ putF (rd SZ (k : Int)) [rd l (k : Int)] = X ++ putsF SZ l a (k + 1) := by
 unfold putsF
 rw [List.append_assoc]
 congr 1
 rw [show k + 1 - a = (k - a) + 1 by omega, List.range'_concat, List.map_append, List.flatten_append]
 simp [show a + (k - a) = k by omega]
theorem puts_len (SZ l : List Int) (a : Nat) : ∀ z, (putsF SZ l a z).length ≤ 4 * (z - a)
 | 0 => by simp [putsF]
 | z + 1 => by
  by_cases h : a ≤ z
  ·
   have := congrArg List.length (puts_succ (SZ := SZ) (l := l) h [])
   have h2 := puts_len SZ l a z
   have h3 := Go.Proofs.Ytgpclehnomkbmaa.Pk.putF_len (rd SZ (z : Int)) [rd l (z : Int)]
   simp only [List.nil_append, List.length_append, List.length_cons, List.length_nil] at this h3
   omega
  ·
   unfold putsF
   rw [show z + 1 - a = 0 by omega]
   simp
theorem puts_mono {SZ l : List Int} {a k z : Nat} (h1 : a ≤ k) (h2 : k ≤ z) (X : List Int) : (X ++ putsF SZ l a k).length ≤ (X ++ putsF SZ l a z).length := by
 obtain ⟨d, rfl⟩ : ∃ d, z = k + d := ⟨z - k, by omega⟩
 induction d with
 | zero => exact Nat.le_refl _
 | succ d ih =>
  have := congrArg List.length (puts_succ (SZ := SZ) (l := l) (show a ≤ k + d by omega) X)
  have h3 := ih (by omega)
  rw [show k + (d + 1) = k + d + 1 from rfl]
  simp only [List.length_append] at this h3 ⊢
  omega
theorem R149_0_l : List.range (regOf Try.f149 0).size = [0, 1] := by kernel_rfl
theorem R149_1_l : List.range (regOf Try.f149 1).size = [0, 1, 2] := by kernel_rfl
theorem R149_2_l : List.range (regOf Try.f149 2).size = [0, 1, 2] := by kernel_rfl
theorem body149 : Try.f149.body = some (.seq (.region 0 (regOf Try.f149 0) false) (.block 0 (.loop (.seq (.seq (.region 1 (regOf Try.f149 1) false) (.cond (Operand.tmp 11) (.skip) (.exit 0))) (.seq (.block 1 (.region 3 (regOf Try.f149 3) true)) (.region 2 (regOf Try.f149 2) false)))))) := by kernel_rfl
theorem p149_0_0 : pj (regOf Try.f149 0) 0 = some (some 8, .move (.tmp 0), 3, none) := by kernel_rfl
theorem p149_0_1 : pj (regOf Try.f149 0) 1 = some (some 7, .assign (.tmp 8), 3, none) := by kernel_rfl
theorem p149_1_0 : pj (regOf Try.f149 1) 0 = some (some 9, .move (.tmp 7), 3, none) := by kernel_rfl
theorem p149_1_1 : pj (regOf Try.f149 1) 1 = some (some 10, .move (.tmp 1), 3, none) := by kernel_rfl
theorem p149_1_2 : pj (regOf Try.f149 1) 2 = some (some 11, .binOp .lss 3 (.tmp 9) (.tmp 10) 3, 4, none) := by kernel_rfl
theorem ns149_3 : Region.noSelect (regOf Try.f149 3) = true := by kernel_rfl
theorem p149_3_1 : pj (regOf Try.f149 3) 1 = some (some 16, .fieldAddr 116 (.tmp 3) 1, 0, none) := by kernel_rfl
theorem tS42 : (Try.prog.info? 42).map (·.size) = some 1 := by kernel_rfl
theorem p149_3_2 : pj (regOf Try.f149 3) 2 = some (some 17, .load 42 (.tmp 16), 42, none) := by kernel_rfl
theorem tA42 : (Try.prog.underlying 42).map aggD = some false := by kernel_rfl
theorem p149_3_3 : pj (regOf Try.f149 3) 3 = some (some 18, .move (.tmp 7), 3, none) := by kernel_rfl
theorem p149_3_4 : pj (regOf Try.f149 3) 4 = some (some 19, .indexAddr 42 (.tmp 17) (.tmp 18), 0, none) := by kernel_rfl
theorem tS3 : (Try.prog.info? 3).map (·.size) = some 1 := by kernel_rfl
theorem p149_3_5 : pj (regOf Try.f149 3) 5 = some (some 20, .load 3 (.tmp 19), 3, none) := by kernel_rfl
theorem tA3 : (Try.prog.underlying 3).map aggD = some false := by kernel_rfl
theorem p149_3_6 : pj (regOf Try.f149 3) 6 = some (some 21, .fieldAddr 50 (.tmp 4) 1, 0, none) := by kernel_rfl
theorem p149_3_7 : pj (regOf Try.f149 3) 7 = some (some 22, .load 42 (.tmp 21), 42, none) := by kernel_rfl
theorem p149_3_8 : pj (regOf Try.f149 3) 8 = some (some 23, .move (.tmp 7), 3, none) := by kernel_rfl
theorem p149_3_9 : pj (regOf Try.f149 3) 9 = some (some 24, .indexAddr 42 (.tmp 22) (.tmp 23), 0, none) := by kernel_rfl
theorem p149_3_10 : pj (regOf Try.f149 3) 10 = some (some 25, .load 3 (.tmp 24), 3, none) := by kernel_rfl
theorem p149_3_0 : pj (regOf Try.f149 3) 0 = some (some 15, .load 22 (.tmp 2), 22, none) := by kernel_rfl
theorem tA22 : (Try.prog.underlying 22).map aggD = some false := by kernel_rfl
theorem p149_3_11 : pj (regOf Try.f149 3) 11 = some (some 26, .buildSlice 42 1 #[(0, .tmp 25)], 42, none) := by kernel_rfl
theorem p149_3_12 : pj (regOf Try.f149 3) 12 = some (some 27, .call { callee := .value (.func 129), args := #[.tmp 15, .tmp 20, .tmp 26], argTypes := #[22, 3, 42] }, 33, none) := by kernel_rfl
theorem cl129 : callable Try.f129 = true := by kernel_rfl
theorem p149_3_13 : pj (regOf Try.f149 3) 13 = some (some 14, .move (.tmp 27), 33, none) := by kernel_rfl
theorem p149_3_14 : pj (regOf Try.f149 3) 14 = some (some 28, .extract (.tmp 14) 0, 22, none) := by kernel_rfl
theorem p149_3_15 : pj (regOf Try.f149 3) 15 = some (some 29, .extract (.tmp 14) 1, 24, none) := by kernel_rfl
theorem p149_3_16 : pj (regOf Try.f149 3) 16 = some (none, .store 22 (.tmp 2) (.tmp 28), 0, none) := by kernel_rfl
theorem tS22 : (Try.prog.info? 22).map (·.size) = some 1 := by kernel_rfl
theorem p149_2_0 : pj (regOf Try.f149 2) 0 = some (some 12, .move (.tmp 7), 3, none) := by kernel_rfl
theorem p149_2_1 : pj (regOf Try.f149 2) 1 = some (some 13, .binOp .add 3 (.tmp 12) (.const (.int .i64 1)) 3, 3, none) := by kernel_rfl
theorem p149_2_2 : pj (regOf Try.f149 2) 2 = some (some 7, .assign (.tmp 13), 3, none) := by kernel_rfl
set_option maxHeartbeats 4000000 in
theorem put_any (gb gf go s0 z0 bs : Nat) (WD : ByteArray) (AS B T A : Option Addr) (cs q ct c : Nat) (be ln ze kk : Int) (ad : Bool) (SZ l tx X : List Int) (f : Nat → Int) (haz : s0 ≤ z0) (hz : z0 ≤ SZ.length) (hl : l.length = SZ.length) (hm : SZ.length ≤ 10) (hfit : ∀ j, j < SZ.length → fitsF (rd SZ (j : Int)) [rd l (j : Int)] = true) (hlen : (X ++ putsF SZ l s0 z0).length ≤ 1280) (n1 : gb ≠ gf) (n2 : gb ≠ go) (n3 : gf ≠ go) (hnA : ¬ OB A gb) (nx : Nat) (hnx : nx = X.length) (w : World) (hbs : bs ≤ w.heap.size) (hb : w.heap[gb]? = some (.cells #[.slice A nx c] 22 (0, 0))) (hf : w.heap[gf]? = some (.cells #[.string WD, .slice AS SZ.length cs, .int .i64 be, .bool ad, .int .i64 ln, .int .i64 ze] 116 (0, 0))) (ho : w.heap[go]? = some (.cells (([Value.int .i64 kk, Value.slice B l.length q] ++ b16 f ++ [Value.slice T tx.length ct])).toArray 50 (0, 0))) (hO : w.ownsRow bs 5 1 (.slice A nx c) nx (encs (Value.int .u8) X)) (F_A : ∀ W', Kp w W' (fun k => k = gb) → Kd.C (Kd.int .i64) W' AS SZ.length SZ) (F_B : ∀ W', Kp w W' (fun k => k = gb) → Kd.C (Kd.int .i64) W' B l.length l) : Calls Try.prog 149 #[.int .i64 (s0 : Int), .int .i64 (z0 : Int), .pointer (some ⟨gb, 0, none⟩), .pointer (some ⟨gf, 0, none⟩), .pointer (some ⟨go, 0, none⟩)] w fun e w' => ∃ A' c', e = .returned (.tuple #[]) ∧ w'.heap[gb]? = some (.cells #[.slice A' (X ++ putsF SZ l s0 z0).length c'] 22 (0, 0)) ∧ w'.ownsRow bs 5 1 (.slice A' (X ++ putsF SZ l s0 z0).length c') (X ++ putsF SZ l s0 z0).length (encs (Value.int .u8) (X ++ putsF SZ l s0 z0)) ∧ (∀ k, OB A' k → OB A k ∨ w.heap.size ≤ k) ∧ (¬ OB A' gb) ∧ Kp w w' (fun k => k = gb) := by
 have K_0 := Kp.refl w (fun k => k = gb)
 subst hnx
 have B_gb := hb
 have B_gf := hf
 have B_go := ho
 have n_gb_gf := n1
 have n_gb_go := n2
 have n_gf_go := n3
 refine enter (args := [Value.int .i64 (s0 : Int), Value.int .i64 (z0 : Int), Value.pointer (some ⟨gb, 0, none⟩), Value.pointer (some ⟨gf, 0, none⟩), Value.pointer (some ⟨go, 0, none⟩)]) (n := 30) Try.func149 body149 rfl rfl rfl ?_
 intro a hE
 refine c_reg R149_0_l ?_
 refine q0 p149_0_0 hE (st_move rfl) ?_; clear hE a; intro a hE
 refine q0 p149_0_1 hE (st_assign rfl) ?_; clear hE a; intro a hE
 refine p_nil (x_norm (wp_block ?_))
 replace B_gb : w.heap[gb]? = some (.cells #[.slice A (X ++ putsF SZ l s0 s0).length c] 22 (0, 0)) := by rw [puts_nil, List.append_nil]; exact B_gb
 refine c_loop (α := Nat) (fun k a W => ∃ (Ao : Option Addr), ∃ (co : Nat), En 30 a [(0, Value.int .i64 (s0 : Int)), (1, Value.int .i64 (z0 : Int)), (2, Value.pointer (some ⟨gb, 0, none⟩)), (3, Value.pointer (some ⟨gf, 0, none⟩)), (4, Value.pointer (some ⟨go, 0, none⟩)), (7, Value.int .i64 (k : Int))] ∧ s0 ≤ k ∧ k ≤ z0 ∧ (W.ownsRow bs 5 1 (.slice Ao (X ++ putsF SZ l s0 k).length co) (X ++ putsF SZ l s0 k).length (encs (Value.int .u8) (X ++ putsF SZ l s0 k))) ∧ ((∀ k, OB Ao k → OB A k ∨ w.heap.size ≤ k)) ∧ (¬ OB Ao gb) ∧ W.heap[gb]? = some (.cells #[Value.slice Ao ((X ++ putsF SZ l s0 k).length) co] 22 (0, 0)) ∧ W.heap[gf]? = some (.cells #[Value.string WD, Value.slice AS SZ.length cs, Value.int .i64 be, Value.bool ad, Value.int .i64 ln, Value.int .i64 ze] 116 (0, 0)) ∧ W.heap[go]? = some (.cells (([Value.int .i64 kk, Value.slice B l.length q] ++ b16 f ++ [Value.slice T tx.length ct])).toArray 50 (0, 0)) ∧ Kp w W (fun k => k = gb)) (fun k => z0 - k) (s0) ?_ ?_
 ·
  exact ⟨A, c, En.sub hE ⟨rfl, rfl, rfl, rfl, rfl, rfl, trivial⟩, Nat.le_refl _, haz, (by rw [puts_nil, List.append_nil]; exact hO), (fun k h => .inl h), hnA, B_gb, B_gf, B_go, K_0⟩
 ·
  clear hE a
  rintro k a w1 ⟨Ao, co, hE, hka, hkz, hOw, hat, hnb, B_gb, B_gf, B_go, K_0⟩
  refine wp_seq ?_
  rcases Decidable.em ((k : Int) < (z0 : Int)) with hK1 | hK1
  ·
   refine c_reg R149_1_l ?_
   refine q0 p149_1_0 hE (st_move rfl) ?_; clear hE a; intro a hE
   refine q0 p149_1_1 hE (st_move rfl) ?_; clear hE a; intro a hE
   refine q0 p149_1_2 hE (st_lss (b := true) rfl rfl (decide_eq_true hK1)) ?_; clear hE a; intro a hE
   refine p_nil (x_norm ?_)
   refine c_cond (t := true) hE rfl ?_
   refine wp_skip (x_norm (wp_seq (wp_block ?_)))
   have hkz1 : k + 1 ≤ z0 := by omega
   have K_s2 := Kp.refl w1 (fun k => k = gb)
   have F_X : ∀ W', Kp w1 W' (fun k => k = gb) → Kd.C (Kd.int .u8) W' Ao (X ++ putsF SZ l s0 k).length (X ++ putsF SZ l s0 k) := fun W' hk => own_told (own_keep hOw hk (fun k h h2 => by subst h2; exact hnb h))
   refine c_drawM (S := fun W => W.heap[gf]? = some (.cells #[Value.string WD, Value.slice AS SZ.length cs, Value.int .i64 be, Value.bool ad, Value.int .i64 ln, Value.int .i64 ze] 116 (0, 0)) ∧ W.heap[go]? = some (.cells (([Value.int .i64 kk, Value.slice B l.length q] ++ b16 f ++ [Value.slice T tx.length ct])).toArray 50 (0, 0)) ∧ Kd.C (Kd.int .i64) W AS SZ.length SZ ∧ Kd.C (Kd.int .i64) W B l.length l ∧ True) rfl rfl (listed := #[false, false, false, false, false, false, false, false, false, false, false, false, false, false, false, false, false]) rfl (by repeat' first | exact pan_body | refine pan_then ?_ | refine pan_block ?_) (fun QQ hQ hend => ?_)
   have dr3_5 : ∀ (A3_12 : Option Addr) (c3_12 : Nat) (g3_11 : Nat) (W : World) (a : Act), En 30 a [(0, Value.int .i64 (s0 : Int)), (1, Value.int .i64 (z0 : Int)), (2, Value.pointer (some ⟨gb, 0, none⟩)), (3, Value.pointer (some ⟨gf, 0, none⟩)), (4, Value.pointer (some ⟨go, 0, none⟩)), (7, Value.int .i64 (k : Int)), (11, Value.bool true), (14, Value.tuple #[Value.slice A3_12 ((X ++ putsF SZ l s0 (k + 1)).length) c3_12, Value.int .i64 0]), (15, Value.slice Ao ((X ++ putsF SZ l s0 k).length) co), (16, Value.pointer (some ⟨gf, 1, none⟩)), (17, Value.slice AS SZ.length cs), (18, Value.int .i64 (k : Int)), (19, Value.pointer (some (ea AS k))), (20, Value.int .i64 (rd SZ (k : Int))), (21, Value.pointer (some ⟨go, 1, none⟩)), (22, Value.slice B l.length q), (23, Value.int .i64 (k : Int)), (24, Value.pointer (some (ea B k))), (25, Value.int .i64 (rd l (k : Int))), (26, Value.slice (some ⟨g3_11, 0, none⟩) 1 1), (27, Value.tuple #[Value.slice A3_12 ((X ++ putsF SZ l s0 (k + 1)).length) c3_12, Value.int .i64 0]), (28, Value.slice A3_12 ((X ++ putsF SZ l s0 (k + 1)).length) c3_12)] → W.heap[gb]? = some (.cells #[Value.slice A3_12 ((X ++ putsF SZ l s0 (k + 1)).length) c3_12] 22 (0, 0)) → W.heap[gf]? = some (.cells #[Value.string WD, Value.slice AS SZ.length cs, Value.int .i64 be, Value.bool ad, Value.int .i64 ln, Value.int .i64 ze] 116 (0, 0)) → W.heap[go]? = some (.cells (([Value.int .i64 kk, Value.slice B l.length q] ++ b16 f ++ [Value.slice T tx.length ct])).toArray 50 (0, 0)) → W.heap[g3_11]? = some (.cells #[Value.int .i64 (rd l (k : Int))] 3 (0, 0)) → g3_11 ≠ gb → g3_11 ≠ gf → g3_11 ≠ go → w.heap.size ≤ g3_11 → w1.heap.size ≤ g3_11 → ¬ OB A3_12 gb → ¬ OB A3_12 gf → ¬ OB A3_12 go → ¬ OB A3_12 g3_11 → (∀ k, OB A3_12 k → (fun k => k = gb) k ∨ w.heap.size ≤ k) → (∀ k, OB A3_12 k → (fun k => k = gb) k ∨ w1.heap.size ≤ k) → W.ownsRow w.heap.size 5 1 (.slice A3_12 ((X ++ putsF SZ l s0 (k + 1)).length) c3_12) ((X ++ putsF SZ l s0 (k + 1)).length) (encs (Value.int .u8) (X ++ putsF SZ l s0 (k + 1))) → Kp w W (fun k => k = gb) → Kp w1 W (fun k => k = gb) → wpAnyH Try.prog .any (regOf Try.f149 3) QQ (fun W => W.heap[gf]? = some (.cells #[Value.string WD, Value.slice AS SZ.length cs, Value.int .i64 be, Value.bool ad, Value.int .i64 ln, Value.int .i64 ze] 116 (0, 0)) ∧ W.heap[go]? = some (.cells (([Value.int .i64 kk, Value.slice B l.length q] ++ b16 f ++ [Value.slice T tx.length ct])).toArray 50 (0, 0)) ∧ Kd.C (Kd.int .i64) W AS SZ.length SZ ∧ Kd.C (Kd.int .i64) W B l.length l ∧ True) 0 #[true, true, true, true, true, true, true, true, true, true, true, true, true, true, true, true, true] a W := by
    intro A3_12 c3_12 g3_11 w10 a hE B_gb B_gf B_go B_g3_11 n_g3_11_gb n_g3_11_gf n_g3_11_go z_0_g3_11 z_s2_g3_11 Nb_q3_12_gb Nb_q3_12_gf Nb_q3_12_go Nb_q3_12_g3_11 Z_0_q3_12 Z_s2_q3_12 O_q3_12 K_0 K_s2
    refine d_end (by kernel_rfl) (hend _ _ ?_)
    refine x_normB (x_norm (c_regL R149_2_l ?_))
    refine q0 p149_2_0 hE (st_move rfl) ?_; clear hE a; intro a hE
    refine q0 p149_2_1 hE (st_add (z := (k : Int) + 1) rfl rfl (wr_i64 _ (by omega) (by omega))) ?_; clear hE a; intro a hE
    refine q0 p149_2_2 hE (st_assign rfl) ?_; clear hE a; intro a hE
    refine p_nil (x_norm ?_)
    have hOw9 := own_lower O_q3_12 hbs
    have hat9 : ∀ k, OB A3_12 k → OB A k ∨ w.heap.size ≤ k := fun k h => .inr (own_ob O_q3_12 h).1
    exact ⟨k + 1, by omega, A3_12, c3_12, En.sub hE ⟨rfl, rfl, rfl, rfl, rfl, rfl, trivial⟩, (by omega), (by omega), hOw9, hat9, Nb_q3_12_gb, B_gb, B_gf, B_go, K_0⟩
   have dr3_4 : ∀ (A3_12 : Option Addr) (c3_12 : Nat) (g3_11 : Nat) (W : World) (a : Act), En 30 a [(0, Value.int .i64 (s0 : Int)), (1, Value.int .i64 (z0 : Int)), (2, Value.pointer (some ⟨gb, 0, none⟩)), (3, Value.pointer (some ⟨gf, 0, none⟩)), (4, Value.pointer (some ⟨go, 0, none⟩)), (7, Value.int .i64 (k : Int)), (11, Value.bool true), (14, Value.tuple #[Value.slice A3_12 ((X ++ putsF SZ l s0 (k + 1)).length) c3_12, Value.int .i64 0]), (15, Value.slice Ao ((X ++ putsF SZ l s0 k).length) co), (16, Value.pointer (some ⟨gf, 1, none⟩)), (17, Value.slice AS SZ.length cs), (18, Value.int .i64 (k : Int)), (19, Value.pointer (some (ea AS k))), (20, Value.int .i64 (rd SZ (k : Int))), (21, Value.pointer (some ⟨go, 1, none⟩)), (22, Value.slice B l.length q), (23, Value.int .i64 (k : Int)), (24, Value.pointer (some (ea B k))), (25, Value.int .i64 (rd l (k : Int))), (26, Value.slice (some ⟨g3_11, 0, none⟩) 1 1), (27, Value.tuple #[Value.slice A3_12 ((X ++ putsF SZ l s0 (k + 1)).length) c3_12, Value.int .i64 0]), (28, Value.slice A3_12 ((X ++ putsF SZ l s0 (k + 1)).length) c3_12)] → W.heap[gb]? = some (.cells #[Value.slice Ao ((X ++ putsF SZ l s0 k).length) co] 22 (0, 0)) → W.heap[gf]? = some (.cells #[Value.string WD, Value.slice AS SZ.length cs, Value.int .i64 be, Value.bool ad, Value.int .i64 ln, Value.int .i64 ze] 116 (0, 0)) → W.heap[go]? = some (.cells (([Value.int .i64 kk, Value.slice B l.length q] ++ b16 f ++ [Value.slice T tx.length ct])).toArray 50 (0, 0)) → W.heap[g3_11]? = some (.cells #[Value.int .i64 (rd l (k : Int))] 3 (0, 0)) → g3_11 ≠ gb → g3_11 ≠ gf → g3_11 ≠ go → w.heap.size ≤ g3_11 → w1.heap.size ≤ g3_11 → ¬ OB A3_12 gb → ¬ OB A3_12 gf → ¬ OB A3_12 go → ¬ OB A3_12 g3_11 → (∀ k, OB A3_12 k → (fun k => k = gb) k ∨ w.heap.size ≤ k) → (∀ k, OB A3_12 k → (fun k => k = gb) k ∨ w1.heap.size ≤ k) → W.ownsRow w.heap.size 5 1 (.slice A3_12 ((X ++ putsF SZ l s0 (k + 1)).length) c3_12) ((X ++ putsF SZ l s0 (k + 1)).length) (encs (Value.int .u8) (X ++ putsF SZ l s0 (k + 1))) → Kp w W (fun k => k = gb) → Kp w1 W (fun k => k = gb) → wpAnyH Try.prog .any (regOf Try.f149 3) QQ (fun W => W.heap[gf]? = some (.cells #[Value.string WD, Value.slice AS SZ.length cs, Value.int .i64 be, Value.bool ad, Value.int .i64 ln, Value.int .i64 ze] 116 (0, 0)) ∧ W.heap[go]? = some (.cells (([Value.int .i64 kk, Value.slice B l.length q] ++ b16 f ++ [Value.slice T tx.length ct])).toArray 50 (0, 0)) ∧ Kd.C (Kd.int .i64) W AS SZ.length SZ ∧ Kd.C (Kd.int .i64) W B l.length l ∧ True) 1 #[true, true, true, true, true, true, true, true, true, true, true, true, true, true, true, true, false] a W := by
    intro A3_12 c3_12 g3_11 w11 a hE B_gb B_gf B_go B_g3_11 n_g3_11_gb n_g3_11_gf n_g3_11_go z_0_g3_11 z_s2_g3_11 Nb_q3_12_gb Nb_q3_12_gf Nb_q3_12_go Nb_q3_12_g3_11 Z_0_q3_12 Z_s2_q3_12 O_q3_12 K_0 K_s2
    refine d_all (rs := [16]) (by kernel_rfl) rfl ?_
    refine all_cons (d_lit (listed' := #[true, true, true, true, true, true, true, true, true, true, true, true, true, true, true, true, true]) rfl ?_) ?_
    ·
     refine (s_store (off := 0) (k := 1) (cs' := #[Value.slice A3_12 ((X ++ putsF SZ l s0 (k + 1)).length) c3_12]) p149_3_16 hE wn_none tS22 rfl rfl rfl rfl B_gb (Nat.le_of_ble_eq_true rfl) rfl ?_)
     intro w12 B_gb' hk
     replace B_gf := kp_blk B_gf hk (Ne.symm n_gb_gf)
     replace B_go := kp_blk B_go hk (Ne.symm n_gb_go)
     replace B_g3_11 := kp_blk B_g3_11 hk n_g3_11_gb
     replace O_q3_12 := own_keep O_q3_12 hk (fun k hk2 h2 => Nb_q3_12_gb (by rw [show k = gb from h2] at hk2; exact hk2))
     replace K_0 := K_0.then_ hk (fun k h => by rw [show k = gb from h]; exact Or.inl rfl)
     replace K_s2 := K_s2.then_ hk (fun k h => by rw [show k = gb from h]; exact Or.inl rfl)
     replace B_gb := B_gb'
     clear hk
     refine ⟨⟨B_gf, B_go, (F_A _ K_0), (F_B _ K_0), trivial⟩, ?_⟩
     exact dr3_5 A3_12 c3_12 g3_11 _ a (En.sub hE ⟨rfl, rfl, rfl, rfl, rfl, rfl, rfl, rfl, rfl, rfl, rfl, rfl, rfl, rfl, rfl, rfl, rfl, rfl, rfl, rfl, rfl, rfl, trivial⟩) B_gb B_gf B_go B_g3_11 n_g3_11_gb n_g3_11_gf n_g3_11_go z_0_g3_11 z_s2_g3_11 Nb_q3_12_gb Nb_q3_12_gf Nb_q3_12_go Nb_q3_12_g3_11 Z_0_q3_12 Z_s2_q3_12 O_q3_12 K_0 K_s2
    exact all_nil
   have dr3_3 : ∀ (g3_11 : Nat) (W : World) (a : Act), En 30 a [(0, Value.int .i64 (s0 : Int)), (1, Value.int .i64 (z0 : Int)), (2, Value.pointer (some ⟨gb, 0, none⟩)), (3, Value.pointer (some ⟨gf, 0, none⟩)), (4, Value.pointer (some ⟨go, 0, none⟩)), (7, Value.int .i64 (k : Int)), (11, Value.bool true), (15, Value.slice Ao ((X ++ putsF SZ l s0 k).length) co), (16, Value.pointer (some ⟨gf, 1, none⟩)), (17, Value.slice AS SZ.length cs), (18, Value.int .i64 (k : Int)), (19, Value.pointer (some (ea AS k))), (20, Value.int .i64 (rd SZ (k : Int))), (21, Value.pointer (some ⟨go, 1, none⟩)), (22, Value.slice B l.length q), (23, Value.int .i64 (k : Int)), (24, Value.pointer (some (ea B k))), (25, Value.int .i64 (rd l (k : Int))), (26, Value.slice (some ⟨g3_11, 0, none⟩) 1 1)] → W.heap[gb]? = some (.cells #[Value.slice Ao ((X ++ putsF SZ l s0 k).length) co] 22 (0, 0)) → W.heap[gf]? = some (.cells #[Value.string WD, Value.slice AS SZ.length cs, Value.int .i64 be, Value.bool ad, Value.int .i64 ln, Value.int .i64 ze] 116 (0, 0)) → W.heap[go]? = some (.cells (([Value.int .i64 kk, Value.slice B l.length q] ++ b16 f ++ [Value.slice T tx.length ct])).toArray 50 (0, 0)) → W.heap[g3_11]? = some (.cells #[Value.int .i64 (rd l (k : Int))] 3 (0, 0)) → g3_11 ≠ gb → g3_11 ≠ gf → g3_11 ≠ go → w.heap.size ≤ g3_11 → w1.heap.size ≤ g3_11 → Kp w W (fun k => k = gb) → Kp w1 W (fun k => k = gb) → wpAnyH Try.prog .any (regOf Try.f149 3) QQ (fun W => W.heap[gf]? = some (.cells #[Value.string WD, Value.slice AS SZ.length cs, Value.int .i64 be, Value.bool ad, Value.int .i64 ln, Value.int .i64 ze] 116 (0, 0)) ∧ W.heap[go]? = some (.cells (([Value.int .i64 kk, Value.slice B l.length q] ++ b16 f ++ [Value.slice T tx.length ct])).toArray 50 (0, 0)) ∧ Kd.C (Kd.int .i64) W AS SZ.length SZ ∧ Kd.C (Kd.int .i64) W B l.length l ∧ True) 5 #[true, true, true, true, true, true, true, true, true, true, true, true, false, false, false, false, false] a W := by
    intro g3_11 w13 a hE B_gb B_gf B_go B_g3_11 n_g3_11_gb n_g3_11_gf n_g3_11_go z_0_g3_11 z_s2_g3_11 K_0 K_s2
    refine d_all (rs := [12]) (by kernel_rfl) rfl ?_
    refine all_cons (d_lit (listed' := #[true, true, true, true, true, true, true, true, true, true, true, true, true, false, false, false, false]) rfl ?_) ?_
    ·
     have hnb_gb := blk_lt B_gb
     have hnb_gf := blk_lt B_gf
     have hnb_go := blk_lt B_go
     have hnb_g3_11 := blk_lt B_g3_11
     have hnz_0 := K_0.kept.1
     have hnz_s2 := K_s2.kept.1
     refine (s_call (xs := [Operand.tmp 15, Operand.tmp 20, Operand.tmp 26]) (args := [Value.slice Ao ((X ++ putsF SZ l s0 k).length) co, Value.int .i64 (rd SZ (k : Int)), Value.slice (some ⟨g3_11, 0, none⟩) 1 1]) p149_3_12 hE wn_none rfl rfl Try.func129 cl129 (put_ok Ao (some ⟨g3_11, 0, none⟩) co 1 (rd SZ (k : Int)) (X ++ putsF SZ l s0 k) [(rd l (k : Int))] 1 rfl (hfit k (by omega)) _ (F_X _ K_s2) (C_blk (k := .i64) (l := [(rd l (k : Int))]) (off := 0) B_g3_11 ⟨rfl, Nat.le_of_ble_eq_true rfl⟩ rfl) (Nat.le_refl 1) (by rw [puts_succ hka]; exact Nat.le_trans (puts_mono (by omega) hkz1 X) hlen)) ?_)
     rintro e w14 ⟨v9, rfl, O_q3_12, hb9⟩
     have hk := Kp.of_below hb9 (fun _ => False)
     rw [puts_succ hka] at O_q3_12
     obtain ⟨A3_12, c3_12, rfl⟩ := own_sl O_q3_12
     replace B_gb := kp_blk B_gb hk (fun h => h)
     replace B_gf := kp_blk B_gf hk (fun h => h)
     replace B_go := kp_blk B_go hk (fun h => h)
     replace B_g3_11 := kp_blk B_g3_11 hk (fun h => h)
     replace K_0 := K_0.then_ hk (fun _ h => h.elim)
     replace K_s2 := K_s2.then_ hk (fun _ h => h.elim)
     have Nb_q3_12_gb : ¬ OB A3_12 gb := fun h => by have := (own_ob O_q3_12 h).1; have := hnb_gb; omega
     have Nb_q3_12_gf : ¬ OB A3_12 gf := fun h => by have := (own_ob O_q3_12 h).1; have := hnb_gf; omega
     have Nb_q3_12_go : ¬ OB A3_12 go := fun h => by have := (own_ob O_q3_12 h).1; have := hnb_go; omega
     have Nb_q3_12_g3_11 : ¬ OB A3_12 g3_11 := fun h => by have := (own_ob O_q3_12 h).1; have := hnb_g3_11; omega
     have Z_0_q3_12 : ∀ k, OB A3_12 k → (fun k => k = gb) k ∨ w.heap.size ≤ k := fun k h => .inr (by have := (own_ob O_q3_12 h).1; have := hnz_0; omega)
     have Z_s2_q3_12 : ∀ k, OB A3_12 k → (fun k => k = gb) k ∨ w1.heap.size ≤ k := fun k h => .inr (by have := (own_ob O_q3_12 h).1; have := hnz_s2; omega)
     replace O_q3_12 := own_lower O_q3_12 hnz_0
     refine ⟨_, rfl, ?_⟩; clear hE a; intro a hE
     refine ⟨⟨B_gf, B_go, (F_A _ K_0), (F_B _ K_0), trivial⟩, ?_⟩
     have hS9 : w14.heap[gf]? = some (.cells #[Value.string WD, Value.slice AS SZ.length cs, Value.int .i64 be, Value.bool ad, Value.int .i64 ln, Value.int .i64 ze] 116 (0, 0)) ∧ w14.heap[go]? = some (.cells (([Value.int .i64 kk, Value.slice B l.length q] ++ b16 f ++ [Value.slice T tx.length ct])).toArray 50 (0, 0)) ∧ Kd.C (Kd.int .i64) w14 AS SZ.length SZ ∧ Kd.C (Kd.int .i64) w14 B l.length l ∧ True := ⟨B_gf, B_go, (F_A _ K_0), (F_B _ K_0), trivial⟩
     refine Rv.dq (listed' := #[true, true, true, true, true, true, true, true, true, true, true, true, true, true, false, false, false]) (v := Value.tuple #[Value.slice A3_12 ((X ++ putsF SZ l s0 (k + 1)).length) c3_12, Value.int .i64 0]) p149_3_13 ns149_3 hE wn_none hS9 (fun W hS => (st_move rfl)) ?_ (fun c a w h => hQ c a _ _ w h); clear hE a; intro a hE
     refine Rv.dq (listed' := #[true, true, true, true, true, true, true, true, true, true, true, true, true, true, true, false, false]) (v := Value.slice A3_12 ((X ++ putsF SZ l s0 (k + 1)).length) c3_12) p149_3_14 ns149_3 hE wn_none hS9 (fun W hS => (st_extract rfl rfl)) ?_ (fun c a w h => hQ c a _ _ w h); clear hE a; intro a hE
     refine Rv.dq (listed' := #[true, true, true, true, true, true, true, true, true, true, true, true, true, true, true, true, false]) (v := Value.int .i64 0) p149_3_15 ns149_3 hE wn_none hS9 (fun W hS => (st_extract rfl rfl)) ?_ (fun c a w h => hQ c a _ _ w h); clear hE a; intro a hE
     exact dr3_4 A3_12 c3_12 g3_11 _ a (En.sub hE ⟨rfl, rfl, rfl, rfl, rfl, rfl, rfl, rfl, rfl, rfl, rfl, rfl, rfl, rfl, rfl, rfl, rfl, rfl, rfl, rfl, rfl, rfl, trivial⟩) B_gb B_gf B_go B_g3_11 n_g3_11_gb n_g3_11_gf n_g3_11_go z_0_g3_11 z_s2_g3_11 Nb_q3_12_gb Nb_q3_12_gf Nb_q3_12_go Nb_q3_12_g3_11 Z_0_q3_12 Z_s2_q3_12 O_q3_12 K_0 K_s2
    exact all_nil
   have dr3_2 : ∀ (W : World) (a : Act), En 30 a [(0, Value.int .i64 (s0 : Int)), (1, Value.int .i64 (z0 : Int)), (2, Value.pointer (some ⟨gb, 0, none⟩)), (3, Value.pointer (some ⟨gf, 0, none⟩)), (4, Value.pointer (some ⟨go, 0, none⟩)), (7, Value.int .i64 (k : Int)), (11, Value.bool true), (15, Value.slice Ao ((X ++ putsF SZ l s0 k).length) co), (16, Value.pointer (some ⟨gf, 1, none⟩)), (17, Value.slice AS SZ.length cs), (18, Value.int .i64 (k : Int)), (19, Value.pointer (some (ea AS k))), (20, Value.int .i64 (rd SZ (k : Int))), (21, Value.pointer (some ⟨go, 1, none⟩)), (22, Value.slice B l.length q), (23, Value.int .i64 (k : Int)), (24, Value.pointer (some (ea B k))), (25, Value.int .i64 (rd l (k : Int)))] → W.heap[gb]? = some (.cells #[Value.slice Ao ((X ++ putsF SZ l s0 k).length) co] 22 (0, 0)) → W.heap[gf]? = some (.cells #[Value.string WD, Value.slice AS SZ.length cs, Value.int .i64 be, Value.bool ad, Value.int .i64 ln, Value.int .i64 ze] 116 (0, 0)) → W.heap[go]? = some (.cells (([Value.int .i64 kk, Value.slice B l.length q] ++ b16 f ++ [Value.slice T tx.length ct])).toArray 50 (0, 0)) → Kp w W (fun k => k = gb) → Kp w1 W (fun k => k = gb) → wpAnyH Try.prog .any (regOf Try.f149 3) QQ (fun W => W.heap[gf]? = some (.cells #[Value.string WD, Value.slice AS SZ.length cs, Value.int .i64 be, Value.bool ad, Value.int .i64 ln, Value.int .i64 ze] 116 (0, 0)) ∧ W.heap[go]? = some (.cells (([Value.int .i64 kk, Value.slice B l.length q] ++ b16 f ++ [Value.slice T tx.length ct])).toArray 50 (0, 0)) ∧ Kd.C (Kd.int .i64) W AS SZ.length SZ ∧ Kd.C (Kd.int .i64) W B l.length l ∧ True) 6 #[true, true, true, true, true, true, true, true, true, true, true, false, false, false, false, false, false] a W := by
    intro w15 a hE B_gb B_gf B_go K_0 K_s2
    refine d_all (rs := [11]) (by kernel_rfl) rfl ?_
    refine all_cons (d_lit (listed' := #[true, true, true, true, true, true, true, true, true, true, true, true, false, false, false, false, false]) rfl ?_) ?_
    ·
     refine (s_row (xs := [(0, Operand.tmp 25)]) (vs := [(0, Value.int .i64 (rd l (k : Int)))]) (cs := #[Value.int .i64 (rd l (k : Int))]) p149_3_11 hE wn_none rfl Try.underlying42 rfl (by kernel_rfl) ?_)
     clear hE a; intro g3_11 w16 z17 B_g3_11 hk a hE
     have n_gb_g3_11 : gb ≠ g3_11 := ne_new B_gb z17
     have n_gf_g3_11 : gf ≠ g3_11 := ne_new B_gf z17
     have n_go_g3_11 : go ≠ g3_11 := ne_new B_go z17
     have z_0_g3_11 := Nat.le_trans K_0.kept.1 z17
     have z_s2_g3_11 := Nat.le_trans K_s2.kept.1 z17
     replace B_gb := kp_blk B_gb hk (fun h => h)
     replace B_gf := kp_blk B_gf hk (fun h => h)
     replace B_go := kp_blk B_go hk (fun h => h)
     replace K_0 := K_0.then_ hk (fun _ h => h.elim)
     replace K_s2 := K_s2.then_ hk (fun _ h => h.elim)
     clear hk
     refine ⟨⟨B_gf, B_go, (F_A _ K_0), (F_B _ K_0), trivial⟩, ?_⟩
     have n_g3_11_gb := Ne.symm n_gb_g3_11
     have n_g3_11_gf := Ne.symm n_gf_g3_11
     have n_g3_11_go := Ne.symm n_go_g3_11
     exact dr3_3 g3_11 _ a (En.sub hE ⟨rfl, rfl, rfl, rfl, rfl, rfl, rfl, rfl, rfl, rfl, rfl, rfl, rfl, rfl, rfl, rfl, rfl, rfl, rfl, trivial⟩) B_gb B_gf B_go B_g3_11 n_g3_11_gb n_g3_11_gf n_g3_11_go z_0_g3_11 z_s2_g3_11 K_0 K_s2
    exact all_nil
   have dr3_1 : ∀ (g3_11 : Nat) (W : World) (a : Act), En 30 a [(0, Value.int .i64 (s0 : Int)), (1, Value.int .i64 (z0 : Int)), (2, Value.pointer (some ⟨gb, 0, none⟩)), (3, Value.pointer (some ⟨gf, 0, none⟩)), (4, Value.pointer (some ⟨go, 0, none⟩)), (7, Value.int .i64 (k : Int)), (11, Value.bool true), (16, Value.pointer (some ⟨gf, 1, none⟩)), (17, Value.slice AS SZ.length cs), (18, Value.int .i64 (k : Int)), (19, Value.pointer (some (ea AS k))), (20, Value.int .i64 (rd SZ (k : Int))), (21, Value.pointer (some ⟨go, 1, none⟩)), (22, Value.slice B l.length q), (23, Value.int .i64 (k : Int)), (24, Value.pointer (some (ea B k))), (25, Value.int .i64 (rd l (k : Int))), (26, Value.slice (some ⟨g3_11, 0, none⟩) 1 1)] → W.heap[gb]? = some (.cells #[Value.slice Ao ((X ++ putsF SZ l s0 k).length) co] 22 (0, 0)) → W.heap[gf]? = some (.cells #[Value.string WD, Value.slice AS SZ.length cs, Value.int .i64 be, Value.bool ad, Value.int .i64 ln, Value.int .i64 ze] 116 (0, 0)) → W.heap[go]? = some (.cells (([Value.int .i64 kk, Value.slice B l.length q] ++ b16 f ++ [Value.slice T tx.length ct])).toArray 50 (0, 0)) → W.heap[g3_11]? = some (.cells #[Value.int .i64 (rd l (k : Int))] 3 (0, 0)) → g3_11 ≠ gb → g3_11 ≠ gf → g3_11 ≠ go → w.heap.size ≤ g3_11 → w1.heap.size ≤ g3_11 → Kp w W (fun k => k = gb) → Kp w1 W (fun k => k = gb) → wpAnyH Try.prog .any (regOf Try.f149 3) QQ (fun W => W.heap[gf]? = some (.cells #[Value.string WD, Value.slice AS SZ.length cs, Value.int .i64 be, Value.bool ad, Value.int .i64 ln, Value.int .i64 ze] 116 (0, 0)) ∧ W.heap[go]? = some (.cells (([Value.int .i64 kk, Value.slice B l.length q] ++ b16 f ++ [Value.slice T tx.length ct])).toArray 50 (0, 0)) ∧ Kd.C (Kd.int .i64) W AS SZ.length SZ ∧ Kd.C (Kd.int .i64) W B l.length l ∧ True) 6 #[false, true, true, true, true, true, true, true, true, true, true, true, false, false, false, false, false] a W := by
    intro g3_11 w18 a hE B_gb B_gf B_go B_g3_11 n_g3_11_gb n_g3_11_gf n_g3_11_go z_0_g3_11 z_s2_g3_11 K_0 K_s2
    refine d_all (rs := [0]) (by kernel_rfl) rfl ?_
    refine all_cons (d_lit (listed' := #[true, true, true, true, true, true, true, true, true, true, true, true, false, false, false, false, false]) rfl ?_) ?_
    ·
     refine (s_still p149_3_0 hE wn_none rfl (st_load1 tA22 rfl ((blk_cell B_gb 0).trans rfl)) ?_); clear hE a; intro a hE
     refine ⟨⟨B_gf, B_go, (F_A _ K_0), (F_B _ K_0), trivial⟩, ?_⟩
     exact dr3_3 g3_11 _ a (En.sub hE ⟨rfl, rfl, rfl, rfl, rfl, rfl, rfl, rfl, rfl, rfl, rfl, rfl, rfl, rfl, rfl, rfl, rfl, rfl, rfl, trivial⟩) B_gb B_gf B_go B_g3_11 n_g3_11_gb n_g3_11_gf n_g3_11_go z_0_g3_11 z_s2_g3_11 K_0 K_s2
    exact all_nil
   have dr3_0 : ∀ (W : World) (a : Act), En 30 a [(0, Value.int .i64 (s0 : Int)), (1, Value.int .i64 (z0 : Int)), (2, Value.pointer (some ⟨gb, 0, none⟩)), (3, Value.pointer (some ⟨gf, 0, none⟩)), (4, Value.pointer (some ⟨go, 0, none⟩)), (7, Value.int .i64 (k : Int)), (11, Value.bool true), (16, Value.pointer (some ⟨gf, 1, none⟩)), (17, Value.slice AS SZ.length cs), (18, Value.int .i64 (k : Int)), (19, Value.pointer (some (ea AS k))), (20, Value.int .i64 (rd SZ (k : Int))), (21, Value.pointer (some ⟨go, 1, none⟩)), (22, Value.slice B l.length q), (23, Value.int .i64 (k : Int)), (24, Value.pointer (some (ea B k))), (25, Value.int .i64 (rd l (k : Int)))] → W.heap[gb]? = some (.cells #[Value.slice Ao ((X ++ putsF SZ l s0 k).length) co] 22 (0, 0)) → W.heap[gf]? = some (.cells #[Value.string WD, Value.slice AS SZ.length cs, Value.int .i64 be, Value.bool ad, Value.int .i64 ln, Value.int .i64 ze] 116 (0, 0)) → W.heap[go]? = some (.cells (([Value.int .i64 kk, Value.slice B l.length q] ++ b16 f ++ [Value.slice T tx.length ct])).toArray 50 (0, 0)) → Kp w W (fun k => k = gb) → Kp w1 W (fun k => k = gb) → wpAnyH Try.prog .any (regOf Try.f149 3) QQ (fun W => W.heap[gf]? = some (.cells #[Value.string WD, Value.slice AS SZ.length cs, Value.int .i64 be, Value.bool ad, Value.int .i64 ln, Value.int .i64 ze] 116 (0, 0)) ∧ W.heap[go]? = some (.cells (([Value.int .i64 kk, Value.slice B l.length q] ++ b16 f ++ [Value.slice T tx.length ct])).toArray 50 (0, 0)) ∧ Kd.C (Kd.int .i64) W AS SZ.length SZ ∧ Kd.C (Kd.int .i64) W B l.length l ∧ True) 7 #[false, true, true, true, true, true, true, true, true, true, true, false, false, false, false, false, false] a W := by
    intro w19 a hE B_gb B_gf B_go K_0 K_s2
    refine d_all (rs := [0, 11]) (by kernel_rfl) rfl ?_
    refine all_cons (d_lit (listed' := #[true, true, true, true, true, true, true, true, true, true, true, false, false, false, false, false, false]) rfl ?_) ?_
    ·
     refine (s_still p149_3_0 hE wn_none rfl (st_load1 tA22 rfl ((blk_cell B_gb 0).trans rfl)) ?_); clear hE a; intro a hE
     refine ⟨⟨B_gf, B_go, (F_A _ K_0), (F_B _ K_0), trivial⟩, ?_⟩
     exact dr3_2 _ a (En.sub hE ⟨rfl, rfl, rfl, rfl, rfl, rfl, rfl, rfl, rfl, rfl, rfl, rfl, rfl, rfl, rfl, rfl, rfl, rfl, trivial⟩) B_gb B_gf B_go K_0 K_s2
    refine all_cons (d_lit (listed' := #[false, true, true, true, true, true, true, true, true, true, true, true, false, false, false, false, false]) rfl ?_) ?_
    ·
     refine (s_row (xs := [(0, Operand.tmp 25)]) (vs := [(0, Value.int .i64 (rd l (k : Int)))]) (cs := #[Value.int .i64 (rd l (k : Int))]) p149_3_11 hE wn_none rfl Try.underlying42 rfl (by kernel_rfl) ?_)
     clear hE a; intro g3_11 w20 z21 B_g3_11 hk a hE
     have n_gb_g3_11 : gb ≠ g3_11 := ne_new B_gb z21
     have n_gf_g3_11 : gf ≠ g3_11 := ne_new B_gf z21
     have n_go_g3_11 : go ≠ g3_11 := ne_new B_go z21
     have z_0_g3_11 := Nat.le_trans K_0.kept.1 z21
     have z_s2_g3_11 := Nat.le_trans K_s2.kept.1 z21
     replace B_gb := kp_blk B_gb hk (fun h => h)
     replace B_gf := kp_blk B_gf hk (fun h => h)
     replace B_go := kp_blk B_go hk (fun h => h)
     replace K_0 := K_0.then_ hk (fun _ h => h.elim)
     replace K_s2 := K_s2.then_ hk (fun _ h => h.elim)
     clear hk
     refine ⟨⟨B_gf, B_go, (F_A _ K_0), (F_B _ K_0), trivial⟩, ?_⟩
     have n_g3_11_gb := Ne.symm n_gb_g3_11
     have n_g3_11_gf := Ne.symm n_gf_g3_11
     have n_g3_11_go := Ne.symm n_go_g3_11
     exact dr3_1 g3_11 _ a (En.sub hE ⟨rfl, rfl, rfl, rfl, rfl, rfl, rfl, rfl, rfl, rfl, rfl, rfl, rfl, rfl, rfl, rfl, rfl, rfl, trivial⟩) B_gb B_gf B_go B_g3_11 n_g3_11_gb n_g3_11_gf n_g3_11_go z_0_g3_11 z_s2_g3_11 K_0 K_s2
    exact all_nil
   intro w3 hh hk
   replace B_gb := kp_blk B_gb hk (fun h => h)
   replace B_gf := kp_blk B_gf hk (fun h => h)
   replace B_go := kp_blk B_go hk (fun h => h)
   replace K_0 := K_0.then_ hk (fun _ h => h.elim)
   replace K_s2 := K_s2.then_ hk (fun _ h => h.elim)
   clear hh hk
   have hS9 : w3.heap[gf]? = some (.cells #[Value.string WD, Value.slice AS SZ.length cs, Value.int .i64 be, Value.bool ad, Value.int .i64 ln, Value.int .i64 ze] 116 (0, 0)) ∧ w3.heap[go]? = some (.cells (([Value.int .i64 kk, Value.slice B l.length q] ++ b16 f ++ [Value.slice T tx.length ct])).toArray 50 (0, 0)) ∧ Kd.C (Kd.int .i64) w3 AS SZ.length SZ ∧ Kd.C (Kd.int .i64) w3 B l.length l ∧ True := ⟨B_gf, B_go, (F_A _ K_0), (F_B _ K_0), trivial⟩
   refine Rv.dq (listed' := #[false, true, false, false, false, false, false, false, false, false, false, false, false, false, false, false, false]) (v := Value.pointer (some ⟨gf, 1, none⟩)) p149_3_1 ns149_3 hE wn_none hS9 (fun W hS => (st_fieldAddr Try.underlying116 rfl tS42 rfl rfl)) ?_ (fun c a w h => hQ c a _ _ w h); clear hE a; intro a hE
   refine Rv.dq (listed' := #[false, true, true, false, false, false, false, false, false, false, false, false, false, false, false, false, false]) (v := Value.slice AS SZ.length cs) p149_3_2 ns149_3 hE wn_none hS9 (fun W hS => (st_load1 tA42 rfl ((blk_cell hS.1 1).trans rfl))) ?_ (fun c a w h => hQ c a _ _ w h); clear hE a; intro a hE
   refine Rv.dq (listed' := #[false, true, true, true, false, false, false, false, false, false, false, false, false, false, false, false, false]) (v := Value.int .i64 (k : Int)) p149_3_3 ns149_3 hE wn_none hS9 (fun W hS => (st_move rfl)) ?_ (fun c a w h => hQ c a _ _ w h); clear hE a; intro a hE
   refine Rv.dq (listed' := #[false, true, true, true, true, false, false, false, false, false, false, false, false, false, false, false, false]) (v := Value.pointer (some (ea AS k))) p149_3_4 ns149_3 hE wn_none hS9 (fun W hS => (st_indexAddrS (i := k) Try.underlying42 tS3 (C_at (F_A _ K_0) (show k < _ by omega)).1 rfl rfl (by omega))) ?_ (fun c a w h => hQ c a _ _ w h); clear hE a; intro a hE
   refine Rv.dq (listed' := #[false, true, true, true, true, true, false, false, false, false, false, false, false, false, false, false, false]) (v := Value.int .i64 (rd SZ (k : Int))) p149_3_5 ns149_3 hE wn_none hS9 (fun W hS => (st_loadC (i := k) tA3 (hS.2.2.1) (by omega) rfl)) ?_ (fun c a w h => hQ c a _ _ w h); clear hE a; intro a hE
   refine Rv.dq (listed' := #[false, true, true, true, true, true, true, false, false, false, false, false, false, false, false, false, false]) (v := Value.pointer (some ⟨go, 1, none⟩)) p149_3_6 ns149_3 hE wn_none hS9 (fun W hS => (st_fieldAddr Try.underlying50 rfl tS42 rfl rfl)) ?_ (fun c a w h => hQ c a _ _ w h); clear hE a; intro a hE
   refine Rv.dq (listed' := #[false, true, true, true, true, true, true, true, false, false, false, false, false, false, false, false, false]) (v := Value.slice B l.length q) p149_3_7 ns149_3 hE wn_none hS9 (fun W hS => (st_load1 tA42 rfl ((blk_cell hS.2.1 1).trans rfl))) ?_ (fun c a w h => hQ c a _ _ w h); clear hE a; intro a hE
   refine Rv.dq (listed' := #[false, true, true, true, true, true, true, true, true, false, false, false, false, false, false, false, false]) (v := Value.int .i64 (k : Int)) p149_3_8 ns149_3 hE wn_none hS9 (fun W hS => (st_move rfl)) ?_ (fun c a w h => hQ c a _ _ w h); clear hE a; intro a hE
   refine Rv.dq (listed' := #[false, true, true, true, true, true, true, true, true, true, false, false, false, false, false, false, false]) (v := Value.pointer (some (ea B k))) p149_3_9 ns149_3 hE wn_none hS9 (fun W hS => (st_indexAddrS (i := k) Try.underlying42 tS3 (C_at (F_B _ K_0) (show k < _ by omega)).1 rfl rfl (by omega))) ?_ (fun c a w h => hQ c a _ _ w h); clear hE a; intro a hE
   refine Rv.dq (listed' := #[false, true, true, true, true, true, true, true, true, true, true, false, false, false, false, false, false]) (v := Value.int .i64 (rd l (k : Int))) p149_3_10 ns149_3 hE wn_none hS9 (fun W hS => (st_loadC (i := k) tA3 (hS.2.2.2.1) (by omega) rfl)) ?_ (fun c a w h => hQ c a _ _ w h); clear hE a; intro a hE
   exact dr3_0 _ a (En.sub hE ⟨rfl, rfl, rfl, rfl, rfl, rfl, rfl, rfl, rfl, rfl, rfl, rfl, rfl, rfl, rfl, rfl, rfl, trivial⟩) B_gb B_gf B_go K_0 K_s2
  ·
   refine c_reg R149_1_l ?_
   refine q0 p149_1_0 hE (st_move rfl) ?_; clear hE a; intro a hE
   refine q0 p149_1_1 hE (st_move rfl) ?_; clear hE a; intro a hE
   refine q0 p149_1_2 hE (st_lss (b := false) rfl rfl (decide_eq_false hK1)) ?_; clear hE a; intro a hE
   refine p_nil (x_norm ?_)
   refine c_cond (t := false) hE rfl ?_
   refine wp_exit (x_exit (x_exit (x_in (end_of_ret ?_))))
   refine ret_list (rs := []) (vs := []) rfl hE .nil rfl ?_
   obtain rfl : k = z0 := by omega
   exact ⟨Ao, co, rfl, B_gb, hOw, hat, hnb, K_0⟩
def atF (k : Nat) : Nat := (sizesF k).length - (behindF k).toNat
theorem kind_facts (k : Nat) (hk : k ≤ 9) : 0 ≤ behindF k ∧ behindF k ≤ (sizesF k).length ∧ (sizesF k).length ≤ 10 := by
 match k, hk with
 | 0, _ => exact ⟨by decide, by decide, by decide⟩
 | 1, _ => exact ⟨by decide, by decide, by decide⟩
 | 2, _ => exact ⟨by decide, by decide, by decide⟩
 | 3, _ => exact ⟨by decide, by decide, by decide⟩
 | 4, _ => exact ⟨by decide, by decide, by decide⟩
 | 5, _ => exact ⟨by decide, by decide, by decide⟩
 | 6, _ => exact ⟨by decide, by decide, by decide⟩
 | 7, _ => exact ⟨by decide, by decide, by decide⟩
 | 8, _ => exact ⟨by decide, by decide, by decide⟩
 | 9, _ => exact ⟨by decide, by decide, by decide⟩
def bodyF (k : Nat) (l : List Int) (f : Nat → Int) (tx : List Int) : List Int := if k = 1 then List.replicate (rd l (0 : Int)).toNat 0 else putsF (sizesF k) l 0 (atF k) ++ (if addrF k = true then l16 f else []) ++ putsF (sizesF k) l (atF k) (sizesF k).length ++ tx
def bytesF (k : Nat) (l : List Int) (f : Nat → Int) (tx : List Int) : List Int := if k = 0 then [0] else [(k : Int), ((bodyF k l f tx).length : Int) % 256] ++ bodyF k l f tx
theorem num_fits {SZ l : List Int} {ln ze : Int} (h : numB SZ ln ze l = true) : ∀ j, j < SZ.length → fitsF (rd SZ (j : Int)) [rd l (j : Int)] = true := fun j hj => ((numB_iff SZ ln ze l).1 h j hj).1
theorem pads_num {l : List Int} (h : numB (sizesF 1) (lenF 1) (zeroF 1) l = true) : 0 ≤ rd l (0 : Int) ∧ rd l (0 : Int) ≤ 255 := by
 have h2 := ((numB_iff _ _ _ l).1 h 0 (by decide)).1
 simp only [fitsF, Bool.and_eq_true, List.all_eq_true, decide_eq_true_eq] at h2
 have h3 := h2.2 (rd l ((0 : Nat) : Int)) (by simp)
 have e : spanF (rd (sizesF 1) ((0 : Nat) : Int)) = 256 := rfl
 rw [e] at h3
 have e2 : rd l ((0 : Nat) : Int) = rd l (0 : Int) := rfl
 omega
theorem body_len {k : Nat} (hk : k ≤ 9) {l : List Int} (f : Nat → Int) {tx : List Int} (hn : numB (sizesF k) (lenF k) (zeroF k) l = true) (ht : tx.length ≤ 64) : (bodyF k l f tx).length ≤ 255 := by
 unfold bodyF
 by_cases h1 : k = 1
 ·
  subst h1
  have := pads_num hn
  rw [if_pos rfl, List.length_replicate]; omega
 ·
  rw [if_neg h1]
  have a := puts_len (sizesF k) l 0 (atF k)
  have b := puts_len (sizesF k) l (atF k) (sizesF k).length
  have c := kind_facts k hk
  have d : atF k ≤ (sizesF k).length := by unfold atF; omega
  have e : (if addrF k = true then l16 f else []).length ≤ 16 := by split <;> simp [l16]
  simp only [List.length_append]
  omega
theorem R114_0_l : List.range (regOf Try.f114 0).size = [0, 1] := by kernel_rfl
theorem R114_1_l : List.range (regOf Try.f114 1).size = [0, 1, 2] := by kernel_rfl
theorem R114_2_l : List.range (regOf Try.f114 2).size = [0, 1, 2, 3, 4, 5] := by kernel_rfl
theorem R114_3_l : List.range (regOf Try.f114 3).size = [0, 1, 2, 3, 4, 5, 6, 7, 8] := by kernel_rfl
theorem R114_4_l : List.range (regOf Try.f114 4).size = [0] := by kernel_rfl
theorem R114_5_l : List.range (regOf Try.f114 5).size = [0, 1, 2, 3, 4, 5, 6] := by kernel_rfl
theorem R114_6_l : List.range (regOf Try.f114 6).size = [0, 1] := by kernel_rfl
theorem R114_7_l : List.range (regOf Try.f114 7).size = [0, 1, 2] := by kernel_rfl
theorem R114_8_l : List.range (regOf Try.f114 8).size = [0, 1] := by kernel_rfl
theorem R114_10_l : List.range (regOf Try.f114 10).size = [0, 1, 2, 3, 4, 5] := by kernel_rfl
theorem R114_11_l : List.range (regOf Try.f114 11).size = [0, 1, 2, 3, 4] := by kernel_rfl
theorem body114 : Try.f114.body = some (.seq (.region 0 (regOf Try.f114 0) false) (.seq (.seq (.region 1 (regOf Try.f114 1) false) (.cond (Operand.tmp 10) (.seq (.region 2 (regOf Try.f114 2) false) (.ret)) (.skip))) (.seq (.region 3 (regOf Try.f114 3) false) (.seq (.region 4 (regOf Try.f114 4) false) (.seq (.region 5 (regOf Try.f114 5) false) (.seq (.region 6 (regOf Try.f114 6) false) (.seq (.region 7 (regOf Try.f114 7) false) (.seq (.seq (.region 8 (regOf Try.f114 8) false) (.cond (Operand.tmp 33) (.region 9 (regOf Try.f114 9) true) (.skip))) (.seq (.region 10 (regOf Try.f114 10) false) (.seq (.region 11 (regOf Try.f114 11) false) (.ret))))))))))) := by kernel_rfl
theorem p114_0_0 : pj (regOf Try.f114 0) 0 = some (some 1, .box 50 (.tmp 0), 0, none) := by kernel_rfl
theorem p114_0_1 : pj (regOf Try.f114 0) 1 = some (some 2, .assign (.const (.slice none 0 0)), 22, none) := by kernel_rfl
theorem p114_1_0 : pj (regOf Try.f114 1) 0 = some (some 8, .fieldAddr 50 (.tmp 1) 0, 0, none) := by kernel_rfl
theorem p114_1_1 : pj (regOf Try.f114 1) 1 = some (some 9, .load 3 (.tmp 8), 3, none) := by kernel_rfl
theorem p114_1_2 : pj (regOf Try.f114 1) 2 = some (some 10, .binOp .eql 3 (.tmp 9) (.const (.int .i64 1)) 3, 4, none) := by kernel_rfl
theorem p114_2_0 : pj (regOf Try.f114 2) 0 = some (some 11, .fieldAddr 50 (.tmp 1) 1, 0, none) := by kernel_rfl
theorem p114_2_1 : pj (regOf Try.f114 2) 1 = some (some 12, .load 42 (.tmp 11), 42, none) := by kernel_rfl
theorem p114_2_2 : pj (regOf Try.f114 2) 2 = some (some 13, .indexAddr 42 (.tmp 12) (.const (.int .i64 0)), 0, none) := by kernel_rfl
theorem p114_2_3 : pj (regOf Try.f114 2) 3 = some (some 14, .load 3 (.tmp 13), 3, none) := by kernel_rfl
theorem p114_2_4 : pj (regOf Try.f114 2) 4 = some (some 15, .makeSlice 22 (.tmp 14) (.tmp 14), 22, none) := by kernel_rfl
theorem eD5 : elemD Try.prog 5 = some (1, 1, 1) := by kernel_rfl
theorem tZ5 : (Try.prog.info? 5).bind (·.zero) = some (Value.int .u8 0) := by kernel_rfl
theorem p114_2_5 : pj (regOf Try.f114 2) 5 = some (some 2, .assign (.tmp 15), 22, none) := by kernel_rfl
theorem p114_3_0 : pj (regOf Try.f114 3) 0 = some (some 17, .fieldAddr 50 (.tmp 1) 0, 0, none) := by kernel_rfl
theorem p114_3_1 : pj (regOf Try.f114 3) 1 = some (some 18, .load 3 (.tmp 17), 3, none) := by kernel_rfl
theorem p114_3_2 : pj (regOf Try.f114 3) 2 = some (some 19, .call { callee := .value (.func 57), args := #[.tmp 18], argTypes := #[3] }, 117, none) := by kernel_rfl
theorem cl57 : callable Try.f57 = true := by kernel_rfl
theorem p114_3_3 : pj (regOf Try.f114 3) 3 = some (some 16, .move (.tmp 19), 117, none) := by kernel_rfl
theorem p114_3_4 : pj (regOf Try.f114 3) 4 = some (some 20, .extract (.tmp 16) 0, 116, none) := by kernel_rfl
theorem p114_3_5 : pj (regOf Try.f114 3) 5 = some (some 21, .extract (.tmp 16) 1, 4, none) := by kernel_rfl
theorem p114_3_6 : pj (regOf Try.f114 3) 6 = some (some 3, .alloc 116, 0, none) := by kernel_rfl
theorem tZ116 : (Try.prog.info? 116).bind (·.zero) = some (Value.agg #[Value.string ByteArray.empty, Value.slice none 0 0, Value.int .i64 0, Value.bool false, Value.int .i64 0, Value.int .i64 0]) := by kernel_rfl
theorem p114_3_7 : pj (regOf Try.f114 3) 7 = some (none, .store 116 (.tmp 3) (.tmp 20), 0, none) := by kernel_rfl
theorem tS116 : (Try.prog.info? 116).map (·.size) = some 6 := by kernel_rfl
theorem p114_3_8 : pj (regOf Try.f114 3) 8 = some (some 4, .assign (.tmp 21), 4, none) := by kernel_rfl
theorem p114_4_0 : pj (regOf Try.f114 4) 0 = some (some 5, .alloc 22, 0, none) := by kernel_rfl
theorem tZ22 : (Try.prog.info? 22).bind (·.zero) = some (Value.slice none 0 0) := by kernel_rfl
theorem p114_5_0 : pj (regOf Try.f114 5) 0 = some (some 22, .fieldAddr 116 (.tmp 3) 1, 0, none) := by kernel_rfl
theorem p114_5_1 : pj (regOf Try.f114 5) 1 = some (some 23, .load 42 (.tmp 22), 42, none) := by kernel_rfl
theorem p114_5_2 : pj (regOf Try.f114 5) 2 = some (some 24, .call { callee := .builtin .len, args := #[.tmp 23], argTypes := #[42] }, 3, none) := by kernel_rfl
theorem p114_5_3 : pj (regOf Try.f114 5) 3 = some (some 25, .fieldAddr 116 (.tmp 3) 2, 0, none) := by kernel_rfl
theorem p114_5_4 : pj (regOf Try.f114 5) 4 = some (some 26, .load 3 (.tmp 25), 3, none) := by kernel_rfl
theorem p114_5_5 : pj (regOf Try.f114 5) 5 = some (some 27, .binOp .sub 3 (.tmp 24) (.tmp 26) 3, 3, none) := by kernel_rfl
theorem p114_5_6 : pj (regOf Try.f114 5) 6 = some (some 6, .assign (.tmp 27), 3, none) := by kernel_rfl
theorem p114_6_0 : pj (regOf Try.f114 6) 0 = some (some 28, .makeFunc (.func 149) #[] #[.tmp 5, .tmp 3, .tmp 1], 229, none) := by kernel_rfl
theorem p114_6_1 : pj (regOf Try.f114 6) 1 = some (some 7, .assign (.tmp 28), 229, none) := by kernel_rfl
theorem p114_7_0 : pj (regOf Try.f114 7) 0 = some (some 29, .move (.tmp 7), 229, none) := by kernel_rfl
theorem p114_7_1 : pj (regOf Try.f114 7) 1 = some (some 30, .move (.tmp 6), 3, none) := by kernel_rfl
theorem p114_7_2 : pj (regOf Try.f114 7) 2 = some (some 31, .call { callee := .value (.tmp 29), args := #[.const (.int .i64 0), .tmp 30], argTypes := #[3, 3] }, 0, none) := by kernel_rfl
theorem cl149 : callable Try.f149 = true := by kernel_rfl
theorem p114_8_0 : pj (regOf Try.f114 8) 0 = some (some 32, .fieldAddr 116 (.tmp 3) 3, 0, none) := by kernel_rfl
theorem tS4 : (Try.prog.info? 4).map (·.size) = some 1 := by kernel_rfl
theorem p114_8_1 : pj (regOf Try.f114 8) 1 = some (some 33, .load 4 (.tmp 32), 4, none) := by kernel_rfl
theorem tA4 : (Try.prog.underlying 4).map aggD = some false := by kernel_rfl
theorem ns114_9 : Region.noSelect (regOf Try.f114 9) = true := by kernel_rfl
theorem p114_9_1 : pj (regOf Try.f114 9) 1 = some (some 35, .fieldAddr 50 (.tmp 1) 2, 0, none) := by kernel_rfl
theorem tS48 : (Try.prog.info? 48).map (·.size) = some 16 := by kernel_rfl
theorem p114_9_2 : pj (regOf Try.f114 9) 2 = some (some 36, .slice 48 (.tmp 35) none none none, 22, none) := by kernel_rfl
theorem tS5 : (Try.prog.info? 5).map (·.size) = some 1 := by kernel_rfl
theorem p114_9_0 : pj (regOf Try.f114 9) 0 = some (some 34, .load 22 (.tmp 5), 22, none) := by kernel_rfl
theorem p114_9_3 : pj (regOf Try.f114 9) 3 = some (some 37, .call { callee := .builtin .append, args := #[.tmp 34, .tmp 36], argTypes := #[22, 22] }, 22, none) := by kernel_rfl
theorem p114_9_4 : pj (regOf Try.f114 9) 4 = some (none, .store 22 (.tmp 5) (.tmp 37), 0, none) := by kernel_rfl
theorem p114_10_0 : pj (regOf Try.f114 10) 0 = some (some 38, .move (.tmp 7), 229, none) := by kernel_rfl
theorem p114_10_1 : pj (regOf Try.f114 10) 1 = some (some 39, .move (.tmp 6), 3, none) := by kernel_rfl
theorem p114_10_2 : pj (regOf Try.f114 10) 2 = some (some 40, .fieldAddr 116 (.tmp 3) 1, 0, none) := by kernel_rfl
theorem p114_10_3 : pj (regOf Try.f114 10) 3 = some (some 41, .load 42 (.tmp 40), 42, none) := by kernel_rfl
theorem p114_10_4 : pj (regOf Try.f114 10) 4 = some (some 42, .call { callee := .builtin .len, args := #[.tmp 41], argTypes := #[42] }, 3, none) := by kernel_rfl
theorem p114_10_5 : pj (regOf Try.f114 10) 5 = some (some 43, .call { callee := .value (.tmp 38), args := #[.tmp 39, .tmp 42], argTypes := #[3, 3] }, 0, none) := by kernel_rfl
theorem p114_11_0 : pj (regOf Try.f114 11) 0 = some (some 44, .load 22 (.tmp 5), 22, none) := by kernel_rfl
theorem p114_11_1 : pj (regOf Try.f114 11) 1 = some (some 45, .fieldAddr 50 (.tmp 1) 3, 0, none) := by kernel_rfl
theorem p114_11_2 : pj (regOf Try.f114 11) 2 = some (some 46, .load 22 (.tmp 45), 22, none) := by kernel_rfl
theorem p114_11_3 : pj (regOf Try.f114 11) 3 = some (some 47, .call { callee := .builtin .append, args := #[.tmp 44, .tmp 46], argTypes := #[22, 22] }, 22, none) := by kernel_rfl
theorem p114_11_4 : pj (regOf Try.f114 11) 4 = some (some 2, .assign (.tmp 47), 22, none) := by kernel_rfl
set_option maxHeartbeats 4000000 in
theorem body_any (k : Nat) (hk9 : k ≤ 9) (l tx : List Int) (f : Nat → Int) (B T : Option Addr) (q ct : Nat) (hln : l.length = (sizesF k).length) (hN : numB (sizesF k) (lenF k) (zeroF k) l = true) (htx : tx.length ≤ 64) (w : World) (hF : ∀ W', Kp w W' (fun _ => False) → Kd.C (Kd.int .i64) W' B l.length l) (hG : ∀ W', Kp w W' (fun _ => False) → Kd.C (Kd.int .u8) W' T tx.length tx) : Calls Try.prog 114 #[Value.agg (([Value.int .i64 (k : Int), Value.slice B l.length q] ++ b16 f ++ [Value.slice T tx.length ct])).toArray] w fun e w' => ∃ A' n c', e = .returned (.slice A' n c') ∧ n = (bodyF k l f tx).length ∧ w'.ownsRow w.heap.size 5 1 (.slice A' n c') n (encs (Value.int .u8) (bodyF k l f tx)) ∧ Kp w w' (fun _ => False) := by
 have K_0 := Kp.refl w (fun _ => False)
 have hkf := kind_facts k hk9
 have hfit := num_fits hN
 have hat1 : atF k ≤ (sizesF k).length := by unfold atF; omega
 have pl1 := puts_len (sizesF k) l 0 (atF k)
 have pl2 := puts_len (sizesF k) l (atF k) (sizesF k).length
 refine enter (args := [Value.agg (([Value.int .i64 (k : Int), Value.slice B l.length q] ++ b16 f ++ [Value.slice T tx.length ct])).toArray]) (n := 48) Try.func114 body114 rfl rfl rfl ?_
 intro a hE
 refine c_reg R114_0_l ?_
 refine p_cons (s_box p114_0_0 hE wn_none rfl rfl ?_)
 clear hE a; intro g1 w2 z3 B_g1 hk a hE
 replace B_g1 : w2.heap[g1]? = some (.cells (([Value.int .i64 (k : Int), Value.slice B l.length q] ++ b16 f ++ [Value.slice T tx.length ct])).toArray 50 (0, 0)) := B_g1
 have z_0_g1 := Nat.le_trans K_0.kept.1 z3
 replace K_0 := K_0.then_ hk (fun _ h => h.elim)
 clear hk
 refine q0 p114_0_1 hE (st_assign rfl) ?_; clear hE a; intro a hE
 refine p_nil (x_norm (wp_seq ?_))
 rcases Decidable.em (k = 1) with hP1 | hP1
 ·
  subst hP1
  have hp9 := pads_num hN
  have hl1 : l.length = 1 := hln
  refine c_reg R114_1_l ?_
  refine q0 p114_1_0 hE (st_fieldAddr Try.underlying50 rfl tS3 rfl rfl) ?_; clear hE a; intro a hE
  refine q0 p114_1_1 hE (st_load1 tA3 rfl ((blk_cell B_g1 0).trans rfl)) ?_; clear hE a; intro a hE
  refine q0 p114_1_2 hE (st_eql (b := true) rfl rfl (decide_eq_true (by omega))) ?_; clear hE a; intro a hE
  refine p_nil (x_norm ?_)
  refine c_cond (t := true) hE rfl ?_
  refine c_reg R114_2_l ?_
  refine q0 p114_2_0 hE (st_fieldAddr Try.underlying50 rfl tS42 rfl rfl) ?_; clear hE a; intro a hE
  refine q0 p114_2_1 hE (st_load1 tA42 rfl ((blk_cell B_g1 1).trans rfl)) ?_; clear hE a; intro a hE
  refine q0 p114_2_2 hE (st_indexAddrC (i := 0) Try.underlying42 tS3 (hF _ K_0) rfl rfl (by omega)) ?_; clear hE a; intro a hE
  refine q0 (v := Value.int .i64 (rd l (0 : Int))) p114_2_3 hE (st_loadC (i := 0) tA3 (hF _ K_0) (by omega) rfl) ?_; clear hE a; intro a hE
  obtain ⟨qq, hqq⟩ : ∃ q : Nat, rd l (0 : Int) = (q : Int) := ⟨(rd l (0 : Int)).toNat, by omega⟩
  rw [hqq] at hE
  refine p_cons (s_make (s := 1) (q := qq) p114_2_4 hE wn_none rfl Try.underlying22 tZ5 eD5 rfl rfl (by omega) (by omega) rfl ?_)
  clear hE a; intro g4 w5 z6 B_g4 hk a hE
  have zz9 := Nat.le_trans K_0.kept.1 z6
  replace B_g1 := kp_blk B_g1 hk (fun h => h)
  replace K_0 := K_0.then_ hk (fun _ h => h.elim)
  clear hk
  have O_m := own_blk9 (k := .u8) (l := List.replicate qq 0) B_g4 (show w.heap.size ≤ g4 from zz9) (by simp [encs]) (by rw [List.length_replicate]; show qq ≤ maxLen; unfold maxLen; omega)
  rw [List.length_replicate] at O_m
  refine q0 p114_2_5 hE (st_assign rfl) ?_; clear hE a; intro a hE
  refine p_nil (x_norm (wp_ret (x_ret ?_)))
  refine ret_one (v := Value.slice (some ⟨g4, 0, none⟩) qq qq) rfl hE (.tmp rfl .nil) ?_
  have e9 : bodyF 1 l f tx = List.replicate qq 0 := by unfold bodyF; rw [if_pos rfl, hqq, Int.toNat_natCast]
  exact ⟨_, _, _, rfl, by rw [e9, List.length_replicate], by rw [e9]; exact O_m, K_0⟩
 ·
  rcases Decidable.em (addrF k = true) with hAD | hAD
  ·
   refine c_reg R114_1_l ?_
   refine q0 p114_1_0 hE (st_fieldAddr Try.underlying50 rfl tS3 rfl rfl) ?_; clear hE a; intro a hE
   refine q0 p114_1_1 hE (st_load1 tA3 rfl ((blk_cell B_g1 0).trans rfl)) ?_; clear hE a; intro a hE
   refine q0 p114_1_2 hE (st_eql (b := false) rfl rfl (decide_eq_false (by omega))) ?_; clear hE a; intro a hE
   refine p_nil (x_norm ?_)
   refine c_cond (t := false) hE rfl ?_
   refine wp_skip (x_norm (c_reg R114_3_l ?_))
   refine q0 p114_3_0 hE (st_fieldAddr Try.underlying50 rfl tS3 rfl rfl) ?_; clear hE a; intro a hE
   refine q0 p114_3_1 hE (st_load1 tA3 rfl ((blk_cell B_g1 0).trans rfl)) ?_; clear hE a; intro a hE
   refine p_cons (s_call (xs := [Operand.tmp 18]) (args := [Value.int .i64 (k : Int)]) p114_3_2 hE wn_none rfl rfl Try.func57 cl57 (of_okb k hk9 true hAD _) ?_)
   rintro e w7 ⟨A1, c1, rfl, hF1, hc1, hk⟩
   replace B_g1 := kp_blk B_g1 hk (fun h => h)
   replace K_0 := K_0.then_ hk (fun _ h => h.elim)
   have K_s8 := Kp.refl w7 (fun _ => False)
   have F_1 : ∀ W', Kp w7 W' (fun _ => False) → Kd.C (Kd.int .i64) W' A1 (sizesF k).length (sizesF k) := hF1
   refine ⟨_, rfl, ?_⟩; clear hE a; intro a hE
   refine q0 p114_3_3 hE (st_move rfl) ?_; clear hE a; intro a hE
   refine q0 p114_3_4 hE (st_extract rfl rfl) ?_; clear hE a; intro a hE
   refine q0 p114_3_5 hE (st_extract rfl rfl) ?_; clear hE a; intro a hE
   refine p_cons (s_alloc p114_3_6 hE wn_none rfl tZ116 ?_)
   clear hE a; intro g9 w10 z11 B_g9 hk a hE
   replace B_g9 : w10.heap[g9]? = some (.cells #[Value.string ByteArray.empty, Value.slice none 0 0, Value.int .i64 0, Value.bool false, Value.int .i64 0, Value.int .i64 0] 116 (0, 0)) := B_g9
   have n_g1_g9 : g1 ≠ g9 := ne_new B_g1 z11
   have z_0_g9 := Nat.le_trans K_0.kept.1 z11
   have z_s8_g9 := Nat.le_trans K_s8.kept.1 z11
   replace B_g1 := kp_blk B_g1 hk (fun h => h)
   replace K_0 := K_0.then_ hk (fun _ h => h.elim)
   replace K_s8 := K_s8.then_ hk (fun _ h => h.elim)
   clear hk
   refine p_cons (s_store (off := 0) (k := 6) (cs' := #[Value.string (wordF k), Value.slice A1 ((sizesF k).length) c1, Value.int .i64 (behindF k), Value.bool true, Value.int .i64 (lenF k), Value.int .i64 (zeroF k)]) p114_3_7 hE wn_none tS116 rfl rfl rfl rfl B_g9 (Nat.le_of_ble_eq_true rfl) rfl ?_)
   intro w12 B_g9' hk
   replace B_g1 := kp_blk B_g1 hk n_g1_g9
   replace K_0 := K_0.then_ hk (fun k h => by rw [show k = g9 from h]; exact Or.inr z_0_g9)
   replace K_s8 := K_s8.then_ hk (fun k h => by rw [show k = g9 from h]; exact Or.inr z_s8_g9)
   replace B_g9 := B_g9'
   clear hk
   refine q0 p114_3_8 hE (st_assign rfl) ?_; clear hE a; intro a hE
   refine p_nil (x_norm (c_reg R114_4_l ?_))
   refine p_cons (s_alloc p114_4_0 hE wn_none rfl tZ22 ?_)
   clear hE a; intro g13 w14 z15 B_g13 hk a hE
   replace B_g13 : w14.heap[g13]? = some (.cells #[Value.slice none 0 0] 22 (0, 0)) := B_g13
   have n_g1_g13 : g1 ≠ g13 := ne_new B_g1 z15
   have n_g9_g13 : g9 ≠ g13 := ne_new B_g9 z15
   have z_0_g13 := Nat.le_trans K_0.kept.1 z15
   have z_s8_g13 := Nat.le_trans K_s8.kept.1 z15
   replace B_g1 := kp_blk B_g1 hk (fun h => h)
   replace B_g9 := kp_blk B_g9 hk (fun h => h)
   replace K_0 := K_0.then_ hk (fun _ h => h.elim)
   replace K_s8 := K_s8.then_ hk (fun _ h => h.elim)
   clear hk
   refine p_nil (x_norm (c_reg R114_5_l ?_))
   refine q0 p114_5_0 hE (st_fieldAddr Try.underlying116 rfl tS42 rfl rfl) ?_; clear hE a; intro a hE
   refine q0 p114_5_1 hE (st_load1 tA42 rfl ((blk_cell B_g9 1).trans rfl)) ?_; clear hE a; intro a hE
   refine q0 p114_5_2 hE (st_len Try.underlying42 rfl) ?_; clear hE a; intro a hE
   refine q0 p114_5_3 hE (st_fieldAddr Try.underlying116 rfl tS3 rfl rfl) ?_; clear hE a; intro a hE
   refine q0 p114_5_4 hE (st_load1 tA3 rfl ((blk_cell B_g9 2).trans rfl)) ?_; clear hE a; intro a hE
   refine q0 p114_5_5 hE (st_sub (z := ((atF k : Nat) : Int)) rfl rfl (by rw [wr_i64 _ (by omega) (by omega)]; unfold atF; omega)) ?_; clear hE a; intro a hE
   refine q0 p114_5_6 hE (st_assign rfl) ?_; clear hE a; intro a hE
   refine p_nil (x_norm (c_reg R114_6_l ?_))
   refine q0 p114_6_0 hE (st_func (first := []) (captured := [Operand.tmp 5, Operand.tmp 3, Operand.tmp 1]) rfl rfl) ?_; clear hE a; intro a hE
   refine q0 p114_6_1 hE (st_assign rfl) ?_; clear hE a; intro a hE
   refine p_nil (x_norm (c_reg R114_7_l ?_))
   refine q0 p114_7_0 hE (st_move rfl) ?_; clear hE a; intro a hE
   refine q0 p114_7_1 hE (st_move rfl) ?_; clear hE a; intro a hE
   have O_b := own_none w14 w.heap.size 5 1
   have Nb_b_g1 : ¬ OB none g1 := ob_nil
   have Nb_b_g9 : ¬ OB none g9 := ob_nil
   have Nb_b_g13 : ¬ OB none g13 := ob_nil
   have Z_0_b : ∀ k, OB none k → (fun _ => False) k ∨ w.heap.size ≤ k := fun k h => absurd h ob_nil
   have Z_s8_b : ∀ k, OB none k → (fun _ => False) k ∨ w7.heap.size ≤ k := fun k h => absurd h ob_nil
   refine p_cons (s_callv (fst := []) (cap := [Value.pointer (some ⟨g13, 0, none⟩), Value.pointer (some ⟨g9, 0, none⟩), Value.pointer (some ⟨g1, 0, none⟩)]) (xs := [Operand.const (Value.int IntKind.i64 0), Operand.tmp 30]) (args := [Value.int .i64 0, Value.int .i64 ((atF k : Nat) : Int)]) p114_7_2 hE wn_none rfl rfl rfl Try.func149 cl149 (put_any g13 g9 g1 0 (atF k) w.heap.size (wordF k) A1 B T none c1 q ct 0 (behindF k) (lenF k) (zeroF k) (k : Int) true (sizesF k) l tx [] f (Nat.zero_le _) hat1 hln hkf.2.2 hfit (by simp only [List.length_append, List.length_nil, l16, List.length_cons]; omega) (Ne.symm n_g9_g13) (Ne.symm n_g1_g13) (Ne.symm n_g1_g9) Nb_b_g13 0 (by simp only [List.length_append, l16, List.length_cons, List.length_nil]) _ K_0.kept.1 B_g13 B_g9 B_g1 O_b (fun W' hk => F_1 _ (K_s8.then_ hk (fun k h => by rw [show k = g13 from h]; exact Or.inr z_s8_g13))) (fun W' hk => hF _ (K_0.then_ hk (fun k h => by rw [show k = g13 from h]; exact Or.inr z_0_g13)))) ?_)
   rintro e w18 ⟨Ab16, cb17, rfl, B_g13', O_b', hat, Nb_b_g13', hk⟩
   have Nb_b_g1' := grow_n Nb_b_g1 (blk_lt B_g1) hat
   have Nb_b_g9' := grow_n Nb_b_g9 (blk_lt B_g9) hat
   have Z_0_b' := grow_z Z_0_b K_0.kept.1 hat
   have Z_s8_b' := grow_z Z_s8_b K_s8.kept.1 hat
   replace B_g1 := kp_blk B_g1 hk n_g1_g13
   replace B_g9 := kp_blk B_g9 hk n_g9_g13
   replace K_0 := K_0.then_ hk (fun k h => by rw [show k = g13 from h]; exact Or.inr z_0_g13)
   replace K_s8 := K_s8.then_ hk (fun k h => by rw [show k = g13 from h]; exact Or.inr z_s8_g13)
   replace Nb_b_g1 := Nb_b_g1'
   replace Nb_b_g9 := Nb_b_g9'
   replace Nb_b_g13 := Nb_b_g13'
   replace Z_0_b := Z_0_b'
   replace Z_s8_b := Z_s8_b'
   replace O_b := O_b'
   replace B_g13 := B_g13'
   refine ⟨_, rfl, ?_⟩; clear hE a; intro a hE
   refine p_nil (x_norm (wp_seq (c_reg R114_8_l ?_)))
   refine q0 p114_8_0 hE (st_fieldAddr Try.underlying116 rfl tS4 rfl rfl) ?_; clear hE a; intro a hE
   refine q0 p114_8_1 hE (st_load1 tA4 rfl ((blk_cell B_g9 3).trans rfl)) ?_; clear hE a; intro a hE
   refine p_nil (x_norm ?_)
   refine c_cond (t := true) hE rfl ?_
   have hn8_h19 : ([] ++ putsF (sizesF k) l 0 (atF k)).length ≤ 200 := by simp only [List.length_append, l16, List.length_cons, List.length_nil]; omega
   refine c_draw (S := fun W => W.heap[g1]? = some (.cells (([Value.int .i64 (k : Int), Value.slice B l.length q] ++ b16 f ++ [Value.slice T tx.length ct])).toArray 50 (0, 0)) ∧ W.heap[g9]? = some (.cells #[Value.string (wordF k), Value.slice A1 ((sizesF k).length) c1, Value.int .i64 (behindF k), Value.bool true, Value.int .i64 (lenF k), Value.int .i64 (zeroF k)] 116 (0, 0)) ∧ True) rfl rfl (listed := #[false, false, false, false, false]) rfl ?_
   intro w20 hh hk
   replace B_g1 := kp_blk B_g1 hk (fun h => h)
   replace B_g9 := kp_blk B_g9 hk (fun h => h)
   replace B_g13 := kp_blk B_g13 hk (fun h => h)
   replace O_b := own_keep O_b hk (fun _ _ h => h)
   replace K_0 := K_0.then_ hk (fun _ h => h.elim)
   replace K_s8 := K_s8.then_ hk (fun _ h => h.elim)
   clear hh hk
   refine Rv.dq (v := Value.pointer (some ⟨g1, 2, none⟩)) p114_9_1 ns114_9 hE wn_none ⟨B_g1, B_g9, trivial⟩ (fun W hS => (st_fieldAddr Try.underlying50 rfl tS48 rfl rfl)) ?_; clear hE a; intro a hE
   refine Rv.dq (v := Value.slice (some ⟨g1, 2, none⟩) 16 16) p114_9_2 ns114_9 hE wn_none ⟨B_g1, B_g9, trivial⟩ (fun W hS => (st_sliceA Try.underlying48 tS5 rfl)) ?_; clear hE a; intro a hE
   refine d_one (by kernel_rfl) rfl (s_still p114_9_0 hE wn_none rfl (st_load1 tA22 rfl ((blk_cell B_g13 0).trans rfl)) ?_); clear hE a; intro a hE
   refine ⟨⟨B_g1, B_g9, trivial⟩, ?_⟩
   refine d_one (by kernel_rfl) rfl (s_appendC (xs := ([] ++ putsF (sizesF k) l 0 (atF k))) (ys := (l16 f)) p114_9_3 hE wn_none rfl Try.underlying22 eD5 rfl O_b rfl (C_blk (k := .u8) (l := (l16 f)) (off := 2) B_g1 ⟨rfl, Nat.le_of_ble_eq_true rfl⟩ rfl) (by omega) (by omega) K_0.kept.1 ?_)
   clear hE a; intro Ab21 cb22 w23 O_b' hk hat a hE
   have Nb_b_g1' := grow_n Nb_b_g1 (blk_lt B_g1) hat
   have Nb_b_g9' := grow_n Nb_b_g9 (blk_lt B_g9) hat
   have Nb_b_g13' := grow_n Nb_b_g13 (blk_lt B_g13) hat
   have Z_0_b' := grow_z Z_0_b K_0.kept.1 hat
   have Z_s8_b' := grow_z Z_s8_b K_s8.kept.1 hat
   replace B_g1 := kp_blk B_g1 hk Nb_b_g1
   replace B_g9 := kp_blk B_g9 hk Nb_b_g9
   replace B_g13 := kp_blk B_g13 hk Nb_b_g13
   replace K_0 := K_0.then_ hk Z_0_b
   replace K_s8 := K_s8.then_ hk Z_s8_b
   replace Nb_b_g1 := Nb_b_g1'
   replace Nb_b_g9 := Nb_b_g9'
   replace Nb_b_g13 := Nb_b_g13'
   replace Z_0_b := Z_0_b'
   replace Z_s8_b := Z_s8_b'
   replace O_b : w23.ownsRow _ 5 1 (.slice Ab21 (([] ++ putsF (sizesF k) l 0 (atF k)).length + 16) cb22) (([] ++ putsF (sizesF k) l 0 (atF k)).length + 16) (encs (Value.int .u8) (([] ++ putsF (sizesF k) l 0 (atF k)) ++ (l16 f))) := O_b'
   clear O_b' hk hat
   refine ⟨⟨B_g1, B_g9, trivial⟩, ?_⟩
   refine d_one (by kernel_rfl) rfl (s_store (off := 0) (k := 1) (cs' := #[Value.slice Ab21 (([] ++ putsF (sizesF k) l 0 (atF k)).length + 16) cb22]) p114_9_4 hE wn_none tS22 rfl rfl rfl rfl B_g13 (Nat.le_of_ble_eq_true rfl) rfl ?_)
   intro w24 B_g13' hk
   replace B_g1 := kp_blk B_g1 hk n_g1_g13
   replace B_g9 := kp_blk B_g9 hk n_g9_g13
   replace O_b := own_keep O_b hk (fun k hk2 h2 => Nb_b_g13 (by rw [show k = g13 from h2] at hk2; exact hk2))
   replace K_0 := K_0.then_ hk (fun k h => by rw [show k = g13 from h]; exact Or.inr z_0_g13)
   replace K_s8 := K_s8.then_ hk (fun k h => by rw [show k = g13 from h]; exact Or.inr z_s8_g13)
   replace B_g13 := B_g13'
   clear hk
   refine ⟨⟨B_g1, B_g9, trivial⟩, ?_⟩
   refine d_end (by kernel_rfl) ?_
   refine x_norm (c_reg R114_10_l ?_)
   refine q0 p114_10_0 hE (st_move rfl) ?_; clear hE a; intro a hE
   refine q0 p114_10_1 hE (st_move rfl) ?_; clear hE a; intro a hE
   refine q0 p114_10_2 hE (st_fieldAddr Try.underlying116 rfl tS42 rfl rfl) ?_; clear hE a; intro a hE
   refine q0 p114_10_3 hE (st_load1 tA42 rfl ((blk_cell B_g9 1).trans rfl)) ?_; clear hE a; intro a hE
   refine q0 p114_10_4 hE (st_len Try.underlying42 rfl) ?_; clear hE a; intro a hE
   refine p_cons (s_callv (fst := []) (cap := [Value.pointer (some ⟨g13, 0, none⟩), Value.pointer (some ⟨g9, 0, none⟩), Value.pointer (some ⟨g1, 0, none⟩)]) (xs := [Operand.tmp 39, Operand.tmp 42]) (args := [Value.int .i64 ((atF k : Nat) : Int), Value.int .i64 ((sizesF k).length : Int)]) p114_10_5 hE wn_none rfl rfl rfl Try.func149 cl149 (put_any g13 g9 g1 (atF k) (sizesF k).length w.heap.size (wordF k) A1 B T Ab21 c1 q ct cb22 (behindF k) (lenF k) (zeroF k) (k : Int) true (sizesF k) l tx (([] ++ putsF (sizesF k) l 0 (atF k)) ++ (l16 f)) f hat1 (Nat.le_refl _) hln hkf.2.2 hfit (by simp only [List.length_append, List.length_nil, l16, List.length_cons]; omega) (Ne.symm n_g9_g13) (Ne.symm n_g1_g13) (Ne.symm n_g1_g9) Nb_b_g13 (([] ++ putsF (sizesF k) l 0 (atF k)).length + 16) (by simp only [List.length_append, l16, List.length_cons, List.length_nil]) _ K_0.kept.1 B_g13 B_g9 B_g1 O_b (fun W' hk => F_1 _ (K_s8.then_ hk (fun k h => by rw [show k = g13 from h]; exact Or.inr z_s8_g13))) (fun W' hk => hF _ (K_0.then_ hk (fun k h => by rw [show k = g13 from h]; exact Or.inr z_0_g13)))) ?_)
   rintro e w27 ⟨Ab25, cb26, rfl, B_g13', O_b', hat, Nb_b_g13', hk⟩
   have Nb_b_g1' := grow_n Nb_b_g1 (blk_lt B_g1) hat
   have Nb_b_g9' := grow_n Nb_b_g9 (blk_lt B_g9) hat
   have Z_0_b' := grow_z Z_0_b K_0.kept.1 hat
   have Z_s8_b' := grow_z Z_s8_b K_s8.kept.1 hat
   replace B_g1 := kp_blk B_g1 hk n_g1_g13
   replace B_g9 := kp_blk B_g9 hk n_g9_g13
   replace K_0 := K_0.then_ hk (fun k h => by rw [show k = g13 from h]; exact Or.inr z_0_g13)
   replace K_s8 := K_s8.then_ hk (fun k h => by rw [show k = g13 from h]; exact Or.inr z_s8_g13)
   replace Nb_b_g1 := Nb_b_g1'
   replace Nb_b_g9 := Nb_b_g9'
   replace Nb_b_g13 := Nb_b_g13'
   replace Z_0_b := Z_0_b'
   replace Z_s8_b := Z_s8_b'
   replace O_b := O_b'
   replace B_g13 := B_g13'
   refine ⟨_, rfl, ?_⟩; clear hE a; intro a hE
   refine p_nil (x_norm (c_reg R114_11_l ?_))
   have hn8_h28 : ((([] ++ putsF (sizesF k) l 0 (atF k)) ++ (l16 f)) ++ putsF (sizesF k) l (atF k) (sizesF k).length).length ≤ 200 := by simp only [List.length_append, l16, List.length_cons, List.length_nil]; omega
   refine q0 p114_11_0 hE (st_load1 tA22 rfl ((blk_cell B_g13 0).trans rfl)) ?_; clear hE a; intro a hE
   refine q0 p114_11_1 hE (st_fieldAddr Try.underlying50 rfl tS22 rfl rfl) ?_; clear hE a; intro a hE
   refine q0 p114_11_2 hE (st_load1 tA22 rfl ((blk_cell B_g1 18).trans rfl)) ?_; clear hE a; intro a hE
   refine p_cons (s_appendC (xs := ((([] ++ putsF (sizesF k) l 0 (atF k)) ++ (l16 f)) ++ putsF (sizesF k) l (atF k) (sizesF k).length)) (ys := tx) p114_11_3 hE wn_none rfl Try.underlying22 eD5 rfl O_b rfl (hG _ K_0) (by omega) (by omega) K_0.kept.1 ?_)
   clear hE a; intro Ab29 cb30 w31 O_b' hk hat a hE
   have Nb_b_g1' := grow_n Nb_b_g1 (blk_lt B_g1) hat
   have Nb_b_g9' := grow_n Nb_b_g9 (blk_lt B_g9) hat
   have Nb_b_g13' := grow_n Nb_b_g13 (blk_lt B_g13) hat
   have Z_0_b' := grow_z Z_0_b K_0.kept.1 hat
   have Z_s8_b' := grow_z Z_s8_b K_s8.kept.1 hat
   replace B_g1 := kp_blk B_g1 hk Nb_b_g1
   replace B_g9 := kp_blk B_g9 hk Nb_b_g9
   replace B_g13 := kp_blk B_g13 hk Nb_b_g13
   replace K_0 := K_0.then_ hk Z_0_b
   replace K_s8 := K_s8.then_ hk Z_s8_b
   replace Nb_b_g1 := Nb_b_g1'
   replace Nb_b_g9 := Nb_b_g9'
   replace Nb_b_g13 := Nb_b_g13'
   replace Z_0_b := Z_0_b'
   replace Z_s8_b := Z_s8_b'
   replace O_b : w31.ownsRow _ 5 1 (.slice Ab29 (((([] ++ putsF (sizesF k) l 0 (atF k)) ++ (l16 f)) ++ putsF (sizesF k) l (atF k) (sizesF k).length).length + tx.length) cb30) (((([] ++ putsF (sizesF k) l 0 (atF k)) ++ (l16 f)) ++ putsF (sizesF k) l (atF k) (sizesF k).length).length + tx.length) (encs (Value.int .u8) (((([] ++ putsF (sizesF k) l 0 (atF k)) ++ (l16 f)) ++ putsF (sizesF k) l (atF k) (sizesF k).length) ++ tx)) := O_b'
   clear O_b' hk hat
   refine q0 p114_11_4 hE (st_assign rfl) ?_; clear hE a; intro a hE
   refine p_nil (x_norm (wp_ret ?_))
   refine ret_one (v := Value.slice Ab29 (((([] ++ putsF (sizesF k) l 0 (atF k)) ++ (l16 f)) ++ putsF (sizesF k) l (atF k) (sizesF k).length).length + tx.length) cb30) rfl hE (.tmp rfl .nil) ?_
   have e9 : (((([] ++ putsF (sizesF k) l 0 (atF k)) ++ (l16 f)) ++ putsF (sizesF k) l (atF k) (sizesF k).length) ++ tx) = bodyF k l f tx := by unfold bodyF; rw [if_neg hP1, if_pos hAD]; simp [List.append_assoc]
   have hn9 : (((([] ++ putsF (sizesF k) l 0 (atF k)) ++ (l16 f)) ++ putsF (sizesF k) l (atF k) (sizesF k).length).length + tx.length) = (bodyF k l f tx).length := by rw [← e9]; simp only [List.length_append, l16, List.length_cons, List.length_nil]
   rw [e9] at O_b
   exact ⟨_, _, _, rfl, hn9, O_b, K_0⟩
  ·
   refine c_reg R114_1_l ?_
   refine q0 p114_1_0 hE (st_fieldAddr Try.underlying50 rfl tS3 rfl rfl) ?_; clear hE a; intro a hE
   refine q0 p114_1_1 hE (st_load1 tA3 rfl ((blk_cell B_g1 0).trans rfl)) ?_; clear hE a; intro a hE
   refine q0 p114_1_2 hE (st_eql (b := false) rfl rfl (decide_eq_false (by omega))) ?_; clear hE a; intro a hE
   refine p_nil (x_norm ?_)
   refine c_cond (t := false) hE rfl ?_
   refine wp_skip (x_norm (c_reg R114_3_l ?_))
   refine q0 p114_3_0 hE (st_fieldAddr Try.underlying50 rfl tS3 rfl rfl) ?_; clear hE a; intro a hE
   refine q0 p114_3_1 hE (st_load1 tA3 rfl ((blk_cell B_g1 0).trans rfl)) ?_; clear hE a; intro a hE
   refine p_cons (s_call (xs := [Operand.tmp 18]) (args := [Value.int .i64 (k : Int)]) p114_3_2 hE wn_none rfl rfl Try.func57 cl57 (of_okb k hk9 false (Bool.eq_false_iff.2 hAD) _) ?_)
   rintro e w32 ⟨A1, c1, rfl, hF1, hc1, hk⟩
   replace B_g1 := kp_blk B_g1 hk (fun h => h)
   replace K_0 := K_0.then_ hk (fun _ h => h.elim)
   have K_s33 := Kp.refl w32 (fun _ => False)
   have F_1 : ∀ W', Kp w32 W' (fun _ => False) → Kd.C (Kd.int .i64) W' A1 (sizesF k).length (sizesF k) := hF1
   refine ⟨_, rfl, ?_⟩; clear hE a; intro a hE
   refine q0 p114_3_3 hE (st_move rfl) ?_; clear hE a; intro a hE
   refine q0 p114_3_4 hE (st_extract rfl rfl) ?_; clear hE a; intro a hE
   refine q0 p114_3_5 hE (st_extract rfl rfl) ?_; clear hE a; intro a hE
   refine p_cons (s_alloc p114_3_6 hE wn_none rfl tZ116 ?_)
   clear hE a; intro g34 w35 z36 B_g34 hk a hE
   replace B_g34 : w35.heap[g34]? = some (.cells #[Value.string ByteArray.empty, Value.slice none 0 0, Value.int .i64 0, Value.bool false, Value.int .i64 0, Value.int .i64 0] 116 (0, 0)) := B_g34
   have n_g1_g34 : g1 ≠ g34 := ne_new B_g1 z36
   have z_0_g34 := Nat.le_trans K_0.kept.1 z36
   have z_s33_g34 := Nat.le_trans K_s33.kept.1 z36
   replace B_g1 := kp_blk B_g1 hk (fun h => h)
   replace K_0 := K_0.then_ hk (fun _ h => h.elim)
   replace K_s33 := K_s33.then_ hk (fun _ h => h.elim)
   clear hk
   refine p_cons (s_store (off := 0) (k := 6) (cs' := #[Value.string (wordF k), Value.slice A1 ((sizesF k).length) c1, Value.int .i64 (behindF k), Value.bool false, Value.int .i64 (lenF k), Value.int .i64 (zeroF k)]) p114_3_7 hE wn_none tS116 rfl rfl rfl rfl B_g34 (Nat.le_of_ble_eq_true rfl) rfl ?_)
   intro w37 B_g34' hk
   replace B_g1 := kp_blk B_g1 hk n_g1_g34
   replace K_0 := K_0.then_ hk (fun k h => by rw [show k = g34 from h]; exact Or.inr z_0_g34)
   replace K_s33 := K_s33.then_ hk (fun k h => by rw [show k = g34 from h]; exact Or.inr z_s33_g34)
   replace B_g34 := B_g34'
   clear hk
   refine q0 p114_3_8 hE (st_assign rfl) ?_; clear hE a; intro a hE
   refine p_nil (x_norm (c_reg R114_4_l ?_))
   refine p_cons (s_alloc p114_4_0 hE wn_none rfl tZ22 ?_)
   clear hE a; intro g38 w39 z40 B_g38 hk a hE
   replace B_g38 : w39.heap[g38]? = some (.cells #[Value.slice none 0 0] 22 (0, 0)) := B_g38
   have n_g1_g38 : g1 ≠ g38 := ne_new B_g1 z40
   have n_g34_g38 : g34 ≠ g38 := ne_new B_g34 z40
   have z_0_g38 := Nat.le_trans K_0.kept.1 z40
   have z_s33_g38 := Nat.le_trans K_s33.kept.1 z40
   replace B_g1 := kp_blk B_g1 hk (fun h => h)
   replace B_g34 := kp_blk B_g34 hk (fun h => h)
   replace K_0 := K_0.then_ hk (fun _ h => h.elim)
   replace K_s33 := K_s33.then_ hk (fun _ h => h.elim)
   clear hk
   refine p_nil (x_norm (c_reg R114_5_l ?_))
   refine q0 p114_5_0 hE (st_fieldAddr Try.underlying116 rfl tS42 rfl rfl) ?_; clear hE a; intro a hE
   refine q0 p114_5_1 hE (st_load1 tA42 rfl ((blk_cell B_g34 1).trans rfl)) ?_; clear hE a; intro a hE
   refine q0 p114_5_2 hE (st_len Try.underlying42 rfl) ?_; clear hE a; intro a hE
   refine q0 p114_5_3 hE (st_fieldAddr Try.underlying116 rfl tS3 rfl rfl) ?_; clear hE a; intro a hE
   refine q0 p114_5_4 hE (st_load1 tA3 rfl ((blk_cell B_g34 2).trans rfl)) ?_; clear hE a; intro a hE
   refine q0 p114_5_5 hE (st_sub (z := ((atF k : Nat) : Int)) rfl rfl (by rw [wr_i64 _ (by omega) (by omega)]; unfold atF; omega)) ?_; clear hE a; intro a hE
   refine q0 p114_5_6 hE (st_assign rfl) ?_; clear hE a; intro a hE
   refine p_nil (x_norm (c_reg R114_6_l ?_))
   refine q0 p114_6_0 hE (st_func (first := []) (captured := [Operand.tmp 5, Operand.tmp 3, Operand.tmp 1]) rfl rfl) ?_; clear hE a; intro a hE
   refine q0 p114_6_1 hE (st_assign rfl) ?_; clear hE a; intro a hE
   refine p_nil (x_norm (c_reg R114_7_l ?_))
   refine q0 p114_7_0 hE (st_move rfl) ?_; clear hE a; intro a hE
   refine q0 p114_7_1 hE (st_move rfl) ?_; clear hE a; intro a hE
   have O_b := own_none w39 w.heap.size 5 1
   have Nb_b_g1 : ¬ OB none g1 := ob_nil
   have Nb_b_g34 : ¬ OB none g34 := ob_nil
   have Nb_b_g38 : ¬ OB none g38 := ob_nil
   have Z_0_b : ∀ k, OB none k → (fun _ => False) k ∨ w.heap.size ≤ k := fun k h => absurd h ob_nil
   have Z_s33_b : ∀ k, OB none k → (fun _ => False) k ∨ w32.heap.size ≤ k := fun k h => absurd h ob_nil
   refine p_cons (s_callv (fst := []) (cap := [Value.pointer (some ⟨g38, 0, none⟩), Value.pointer (some ⟨g34, 0, none⟩), Value.pointer (some ⟨g1, 0, none⟩)]) (xs := [Operand.const (Value.int IntKind.i64 0), Operand.tmp 30]) (args := [Value.int .i64 0, Value.int .i64 ((atF k : Nat) : Int)]) p114_7_2 hE wn_none rfl rfl rfl Try.func149 cl149 (put_any g38 g34 g1 0 (atF k) w.heap.size (wordF k) A1 B T none c1 q ct 0 (behindF k) (lenF k) (zeroF k) (k : Int) false (sizesF k) l tx [] f (Nat.zero_le _) hat1 hln hkf.2.2 hfit (by simp only [List.length_append, List.length_nil, l16, List.length_cons]; omega) (Ne.symm n_g34_g38) (Ne.symm n_g1_g38) (Ne.symm n_g1_g34) Nb_b_g38 0 (by simp only [List.length_append, l16, List.length_cons, List.length_nil]) _ K_0.kept.1 B_g38 B_g34 B_g1 O_b (fun W' hk => F_1 _ (K_s33.then_ hk (fun k h => by rw [show k = g38 from h]; exact Or.inr z_s33_g38))) (fun W' hk => hF _ (K_0.then_ hk (fun k h => by rw [show k = g38 from h]; exact Or.inr z_0_g38)))) ?_)
   rintro e w43 ⟨Ab41, cb42, rfl, B_g38', O_b', hat, Nb_b_g38', hk⟩
   have Nb_b_g1' := grow_n Nb_b_g1 (blk_lt B_g1) hat
   have Nb_b_g34' := grow_n Nb_b_g34 (blk_lt B_g34) hat
   have Z_0_b' := grow_z Z_0_b K_0.kept.1 hat
   have Z_s33_b' := grow_z Z_s33_b K_s33.kept.1 hat
   replace B_g1 := kp_blk B_g1 hk n_g1_g38
   replace B_g34 := kp_blk B_g34 hk n_g34_g38
   replace K_0 := K_0.then_ hk (fun k h => by rw [show k = g38 from h]; exact Or.inr z_0_g38)
   replace K_s33 := K_s33.then_ hk (fun k h => by rw [show k = g38 from h]; exact Or.inr z_s33_g38)
   replace Nb_b_g1 := Nb_b_g1'
   replace Nb_b_g34 := Nb_b_g34'
   replace Nb_b_g38 := Nb_b_g38'
   replace Z_0_b := Z_0_b'
   replace Z_s33_b := Z_s33_b'
   replace O_b := O_b'
   replace B_g38 := B_g38'
   refine ⟨_, rfl, ?_⟩; clear hE a; intro a hE
   refine p_nil (x_norm (wp_seq (c_reg R114_8_l ?_)))
   refine q0 p114_8_0 hE (st_fieldAddr Try.underlying116 rfl tS4 rfl rfl) ?_; clear hE a; intro a hE
   refine q0 p114_8_1 hE (st_load1 tA4 rfl ((blk_cell B_g34 3).trans rfl)) ?_; clear hE a; intro a hE
   refine p_nil (x_norm ?_)
   refine c_cond (t := false) hE rfl ?_
   refine wp_skip (x_norm (c_reg R114_10_l ?_))
   refine q0 p114_10_0 hE (st_move rfl) ?_; clear hE a; intro a hE
   refine q0 p114_10_1 hE (st_move rfl) ?_; clear hE a; intro a hE
   refine q0 p114_10_2 hE (st_fieldAddr Try.underlying116 rfl tS42 rfl rfl) ?_; clear hE a; intro a hE
   refine q0 p114_10_3 hE (st_load1 tA42 rfl ((blk_cell B_g34 1).trans rfl)) ?_; clear hE a; intro a hE
   refine q0 p114_10_4 hE (st_len Try.underlying42 rfl) ?_; clear hE a; intro a hE
   refine p_cons (s_callv (fst := []) (cap := [Value.pointer (some ⟨g38, 0, none⟩), Value.pointer (some ⟨g34, 0, none⟩), Value.pointer (some ⟨g1, 0, none⟩)]) (xs := [Operand.tmp 39, Operand.tmp 42]) (args := [Value.int .i64 ((atF k : Nat) : Int), Value.int .i64 ((sizesF k).length : Int)]) p114_10_5 hE wn_none rfl rfl rfl Try.func149 cl149 (put_any g38 g34 g1 (atF k) (sizesF k).length w.heap.size (wordF k) A1 B T Ab41 c1 q ct cb42 (behindF k) (lenF k) (zeroF k) (k : Int) false (sizesF k) l tx ([] ++ putsF (sizesF k) l 0 (atF k)) f hat1 (Nat.le_refl _) hln hkf.2.2 hfit (by simp only [List.length_append, List.length_nil, l16, List.length_cons]; omega) (Ne.symm n_g34_g38) (Ne.symm n_g1_g38) (Ne.symm n_g1_g34) Nb_b_g38 (([] ++ putsF (sizesF k) l 0 (atF k)).length) (by simp only [List.length_append, l16, List.length_cons, List.length_nil]) _ K_0.kept.1 B_g38 B_g34 B_g1 O_b (fun W' hk => F_1 _ (K_s33.then_ hk (fun k h => by rw [show k = g38 from h]; exact Or.inr z_s33_g38))) (fun W' hk => hF _ (K_0.then_ hk (fun k h => by rw [show k = g38 from h]; exact Or.inr z_0_g38)))) ?_)
   rintro e w46 ⟨Ab44, cb45, rfl, B_g38', O_b', hat, Nb_b_g38', hk⟩
   have Nb_b_g1' := grow_n Nb_b_g1 (blk_lt B_g1) hat
   have Nb_b_g34' := grow_n Nb_b_g34 (blk_lt B_g34) hat
   have Z_0_b' := grow_z Z_0_b K_0.kept.1 hat
   have Z_s33_b' := grow_z Z_s33_b K_s33.kept.1 hat
   replace B_g1 := kp_blk B_g1 hk n_g1_g38
   replace B_g34 := kp_blk B_g34 hk n_g34_g38
   replace K_0 := K_0.then_ hk (fun k h => by rw [show k = g38 from h]; exact Or.inr z_0_g38)
   replace K_s33 := K_s33.then_ hk (fun k h => by rw [show k = g38 from h]; exact Or.inr z_s33_g38)
   replace Nb_b_g1 := Nb_b_g1'
   replace Nb_b_g34 := Nb_b_g34'
   replace Nb_b_g38 := Nb_b_g38'
   replace Z_0_b := Z_0_b'
   replace Z_s33_b := Z_s33_b'
   replace O_b := O_b'
   replace B_g38 := B_g38'
   refine ⟨_, rfl, ?_⟩; clear hE a; intro a hE
   refine p_nil (x_norm (c_reg R114_11_l ?_))
   have hn8_h47 : (([] ++ putsF (sizesF k) l 0 (atF k)) ++ putsF (sizesF k) l (atF k) (sizesF k).length).length ≤ 200 := by simp only [List.length_append, l16, List.length_cons, List.length_nil]; omega
   refine q0 p114_11_0 hE (st_load1 tA22 rfl ((blk_cell B_g38 0).trans rfl)) ?_; clear hE a; intro a hE
   refine q0 p114_11_1 hE (st_fieldAddr Try.underlying50 rfl tS22 rfl rfl) ?_; clear hE a; intro a hE
   refine q0 p114_11_2 hE (st_load1 tA22 rfl ((blk_cell B_g1 18).trans rfl)) ?_; clear hE a; intro a hE
   refine p_cons (s_appendC (xs := (([] ++ putsF (sizesF k) l 0 (atF k)) ++ putsF (sizesF k) l (atF k) (sizesF k).length)) (ys := tx) p114_11_3 hE wn_none rfl Try.underlying22 eD5 rfl O_b rfl (hG _ K_0) (by omega) (by omega) K_0.kept.1 ?_)
   clear hE a; intro Ab48 cb49 w50 O_b' hk hat a hE
   have Nb_b_g1' := grow_n Nb_b_g1 (blk_lt B_g1) hat
   have Nb_b_g34' := grow_n Nb_b_g34 (blk_lt B_g34) hat
   have Nb_b_g38' := grow_n Nb_b_g38 (blk_lt B_g38) hat
   have Z_0_b' := grow_z Z_0_b K_0.kept.1 hat
   have Z_s33_b' := grow_z Z_s33_b K_s33.kept.1 hat
   replace B_g1 := kp_blk B_g1 hk Nb_b_g1
   replace B_g34 := kp_blk B_g34 hk Nb_b_g34
   replace B_g38 := kp_blk B_g38 hk Nb_b_g38
   replace K_0 := K_0.then_ hk Z_0_b
   replace K_s33 := K_s33.then_ hk Z_s33_b
   replace Nb_b_g1 := Nb_b_g1'
   replace Nb_b_g34 := Nb_b_g34'
   replace Nb_b_g38 := Nb_b_g38'
   replace Z_0_b := Z_0_b'
   replace Z_s33_b := Z_s33_b'
   replace O_b : w50.ownsRow _ 5 1 (.slice Ab48 ((([] ++ putsF (sizesF k) l 0 (atF k)) ++ putsF (sizesF k) l (atF k) (sizesF k).length).length + tx.length) cb49) ((([] ++ putsF (sizesF k) l 0 (atF k)) ++ putsF (sizesF k) l (atF k) (sizesF k).length).length + tx.length) (encs (Value.int .u8) ((([] ++ putsF (sizesF k) l 0 (atF k)) ++ putsF (sizesF k) l (atF k) (sizesF k).length) ++ tx)) := O_b'
   clear O_b' hk hat
   refine q0 p114_11_4 hE (st_assign rfl) ?_; clear hE a; intro a hE
   refine p_nil (x_norm (wp_ret ?_))
   refine ret_one (v := Value.slice Ab48 ((([] ++ putsF (sizesF k) l 0 (atF k)) ++ putsF (sizesF k) l (atF k) (sizesF k).length).length + tx.length) cb49) rfl hE (.tmp rfl .nil) ?_
   have e9 : ((([] ++ putsF (sizesF k) l 0 (atF k)) ++ putsF (sizesF k) l (atF k) (sizesF k).length) ++ tx) = bodyF k l f tx := by unfold bodyF; rw [if_neg hP1, if_neg hAD]; simp [List.append_assoc]
   have hn9 : ((([] ++ putsF (sizesF k) l 0 (atF k)) ++ putsF (sizesF k) l (atF k) (sizesF k).length).length + tx.length) = (bodyF k l f tx).length := by rw [← e9]; simp only [List.length_append, l16, List.length_cons, List.length_nil]
   rw [e9] at O_b
   exact ⟨_, _, _, rfl, hn9, O_b, K_0⟩
theorem R56_0_l : List.range (regOf Try.f56 0).size = [0, 1] := by kernel_rfl
theorem R56_1_l : List.range (regOf Try.f56 1).size = [0, 1, 2] := by kernel_rfl
theorem R56_2_l : List.range (regOf Try.f56 2).size = [0, 1] := by kernel_rfl
theorem R56_3_l : List.range (regOf Try.f56 3).size = [0, 1, 2] := by kernel_rfl
theorem R56_4_l : List.range (regOf Try.f56 4).size = [0, 1, 2, 3, 4, 5, 6, 7, 8, 9] := by kernel_rfl
theorem body56 : Try.f56.body = some (.seq (.region 0 (regOf Try.f56 0) false) (.seq (.seq (.region 1 (regOf Try.f56 1) false) (.cond (Operand.tmp 6) (.seq (.region 2 (regOf Try.f56 2) false) (.ret)) (.skip))) (.seq (.region 3 (regOf Try.f56 3) false) (.seq (.region 4 (regOf Try.f56 4) false) (.ret))))) := by kernel_rfl
theorem p56_0_0 : pj (regOf Try.f56 0) 0 = some (some 1, .box 50 (.tmp 0), 0, none) := by kernel_rfl
theorem p56_0_1 : pj (regOf Try.f56 0) 1 = some (some 2, .assign (.const (.slice none 0 0)), 22, none) := by kernel_rfl
theorem p56_1_0 : pj (regOf Try.f56 1) 0 = some (some 4, .fieldAddr 50 (.tmp 1) 0, 0, none) := by kernel_rfl
theorem p56_1_1 : pj (regOf Try.f56 1) 1 = some (some 5, .load 3 (.tmp 4), 3, none) := by kernel_rfl
theorem p56_1_2 : pj (regOf Try.f56 1) 2 = some (some 6, .binOp .eql 3 (.tmp 5) (.const (.int .i64 0)) 3, 4, none) := by kernel_rfl
theorem p56_2_0 : pj (regOf Try.f56 2) 0 = some (some 7, .buildSlice 22 1 #[(0, .const (.int .u8 0))], 22, none) := by kernel_rfl
theorem p56_2_1 : pj (regOf Try.f56 2) 1 = some (some 2, .assign (.tmp 7), 22, none) := by kernel_rfl
theorem p56_3_0 : pj (regOf Try.f56 3) 0 = some (some 8, .load 50 (.tmp 1), 50, none) := by kernel_rfl
theorem tA50 : (Try.prog.underlying 50).map aggD = some true := by kernel_rfl
theorem tS50 : (Try.prog.info? 50).map (·.size) = some 19 := by kernel_rfl
theorem p56_3_1 : pj (regOf Try.f56 3) 1 = some (some 9, .call { callee := .value (.func 114), args := #[.tmp 8], argTypes := #[50] }, 22, none) := by kernel_rfl
theorem cl114 : callable Try.f114 = true := by kernel_rfl
theorem p56_3_2 : pj (regOf Try.f56 3) 2 = some (some 3, .assign (.tmp 9), 22, none) := by kernel_rfl
theorem p56_4_0 : pj (regOf Try.f56 4) 0 = some (some 10, .fieldAddr 50 (.tmp 1) 0, 0, none) := by kernel_rfl
theorem p56_4_1 : pj (regOf Try.f56 4) 1 = some (some 11, .load 3 (.tmp 10), 3, none) := by kernel_rfl
theorem p56_4_2 : pj (regOf Try.f56 4) 2 = some (some 12, .convert 3 5 (.tmp 11), 5, none) := by kernel_rfl
theorem p56_4_3 : pj (regOf Try.f56 4) 3 = some (some 13, .move (.tmp 3), 22, none) := by kernel_rfl
theorem p56_4_4 : pj (regOf Try.f56 4) 4 = some (some 14, .call { callee := .builtin .len, args := #[.tmp 13], argTypes := #[22] }, 3, none) := by kernel_rfl
theorem p56_4_5 : pj (regOf Try.f56 4) 5 = some (some 15, .convert 3 5 (.tmp 14), 5, none) := by kernel_rfl
theorem p56_4_6 : pj (regOf Try.f56 4) 6 = some (some 16, .buildSlice 22 2 #[(0, .tmp 12), (1, .tmp 15)], 22, none) := by kernel_rfl
theorem p56_4_7 : pj (regOf Try.f56 4) 7 = some (some 17, .move (.tmp 3), 22, none) := by kernel_rfl
theorem p56_4_8 : pj (regOf Try.f56 4) 8 = some (some 18, .call { callee := .builtin .append, args := #[.tmp 16, .tmp 17], argTypes := #[22, 22] }, 22, none) := by kernel_rfl
theorem p56_4_9 : pj (regOf Try.f56 4) 9 = some (some 2, .assign (.tmp 18), 22, none) := by kernel_rfl
set_option maxHeartbeats 4000000 in
theorem bytes_any (k : Nat) (hk9 : k ≤ 9) (l tx : List Int) (f : Nat → Int) (B T : Option Addr) (q ct : Nat) (hln : l.length = (sizesF k).length) (hN : numB (sizesF k) (lenF k) (zeroF k) l = true) (htx : tx.length ≤ 64) (w : World) (hF : ∀ W', Kp w W' (fun _ => False) → Kd.C (Kd.int .i64) W' B l.length l) (hG : ∀ W', Kp w W' (fun _ => False) → Kd.C (Kd.int .u8) W' T tx.length tx) : Calls Try.prog 56 #[Value.agg (([Value.int .i64 (k : Int), Value.slice B l.length q] ++ b16 f ++ [Value.slice T tx.length ct])).toArray] w fun e w' => ∃ A' n c', e = .returned (.slice A' n c') ∧ n = (bytesF k l f tx).length ∧ w'.ownsRow w.heap.size 5 1 (.slice A' n c') n (encs (Value.int .u8) (bytesF k l f tx)) ∧ Kp w w' (fun _ => False) := by
 have K_0 := Kp.refl w (fun _ => False)
 have hbl := body_len hk9 f hN htx
 refine enter (args := [Value.agg (([Value.int .i64 (k : Int), Value.slice B l.length q] ++ b16 f ++ [Value.slice T tx.length ct])).toArray]) (n := 19) Try.func56 body56 rfl rfl rfl ?_
 intro a hE
 refine c_reg R56_0_l ?_
 refine p_cons (s_box p56_0_0 hE wn_none rfl rfl ?_)
 clear hE a; intro g1 w2 z3 B_g1 hk a hE
 replace B_g1 : w2.heap[g1]? = some (.cells (([Value.int .i64 (k : Int), Value.slice B l.length q] ++ b16 f ++ [Value.slice T tx.length ct])).toArray 50 (0, 0)) := B_g1
 have z_0_g1 := Nat.le_trans K_0.kept.1 z3
 replace K_0 := K_0.then_ hk (fun _ h => h.elim)
 clear hk
 refine q0 p56_0_1 hE (st_assign rfl) ?_; clear hE a; intro a hE
 refine p_nil (x_norm (wp_seq ?_))
 rcases Decidable.em (k = 0) with hZ0 | hZ0
 ·
  subst hZ0
  refine c_reg R56_1_l ?_
  refine q0 p56_1_0 hE (st_fieldAddr Try.underlying50 rfl tS3 rfl rfl) ?_; clear hE a; intro a hE
  refine q0 p56_1_1 hE (st_load1 tA3 rfl ((blk_cell B_g1 0).trans rfl)) ?_; clear hE a; intro a hE
  refine q0 p56_1_2 hE (st_eql (b := true) rfl rfl (decide_eq_true (by omega))) ?_; clear hE a; intro a hE
  refine p_nil (x_norm ?_)
  refine c_cond (t := true) hE rfl ?_
  refine c_reg R56_2_l ?_
  refine p_cons (s_row (xs := [(0, Operand.const (Value.int IntKind.u8 0))]) (vs := [(0, Value.int .u8 0)]) (cs := #[Value.int .u8 0]) p56_2_0 hE wn_none rfl Try.underlying22 rfl (by kernel_rfl) ?_)
  clear hE a; intro g4 w5 z6 B_g4 hk a hE
  have n_g1_g4 : g1 ≠ g4 := ne_new B_g1 z6
  have z_0_g4 := Nat.le_trans K_0.kept.1 z6
  replace B_g1 := kp_blk B_g1 hk (fun h => h)
  replace K_0 := K_0.then_ hk (fun _ h => h.elim)
  clear hk
  refine q0 p56_2_1 hE (st_assign rfl) ?_; clear hE a; intro a hE
  refine p_nil (x_norm (wp_ret (x_ret ?_)))
  refine ret_one (v := Value.slice (some ⟨g4, 0, none⟩) 1 1) rfl hE (.tmp rfl .nil) ?_
  have e9 : bytesF 0 l f tx = [0] := rfl
  exact ⟨_, _, _, rfl, by rw [e9]; rfl, by rw [e9]; exact own_blk9 (k := .u8) (l := [0]) B_g4 (show w.heap.size ≤ g4 from z_0_g4) rfl (Nat.le_of_ble_eq_true rfl), K_0⟩
 ·
  refine c_reg R56_1_l ?_
  refine q0 p56_1_0 hE (st_fieldAddr Try.underlying50 rfl tS3 rfl rfl) ?_; clear hE a; intro a hE
  refine q0 p56_1_1 hE (st_load1 tA3 rfl ((blk_cell B_g1 0).trans rfl)) ?_; clear hE a; intro a hE
  refine q0 p56_1_2 hE (st_eql (b := false) rfl rfl (decide_eq_false (by omega))) ?_; clear hE a; intro a hE
  refine p_nil (x_norm ?_)
  refine c_cond (t := false) hE rfl ?_
  refine wp_skip (x_norm (c_reg R56_3_l ?_))
  refine q0 p56_3_0 hE (st_loadN (off := 0) (k := 19) (vs := ([Value.int .i64 (k : Int), Value.slice B l.length q] ++ b16 f ++ [Value.slice T tx.length ct])) tA50 tS50 rfl B_g1 rfl rfl) ?_; clear hE a; intro a hE
  have hnb_g1 := blk_lt B_g1
  have hnz_0 := K_0.kept.1
  refine p_cons (s_call (xs := [Operand.tmp 8]) (args := [Value.agg (([Value.int .i64 (k : Int), Value.slice B l.length q] ++ b16 f ++ [Value.slice T tx.length ct])).toArray]) p56_3_1 hE wn_none rfl rfl Try.func114 cl114 (body_any k hk9 l tx f B T q ct hln hN htx _ (fun W' hk => hF W' (K_0.then_ hk (fun _ h => h.elim))) (fun W' hk => hG W' (K_0.then_ hk (fun _ h => h.elim)))) ?_)
  rintro e w10 ⟨A8, n9, c9, rfl, hn9, O_q7, hk⟩
  subst hn9
  replace B_g1 := kp_blk B_g1 hk (fun h => h)
  replace K_0 := K_0.then_ hk (fun _ h => h.elim)
  have Nb_q7_g1 : ¬ OB A8 g1 := fun h => by have := (own_ob O_q7 h).1; have := hnb_g1; omega
  have Z_0_q7 : ∀ k, OB A8 k → (fun _ => False) k ∨ w.heap.size ≤ k := fun k h => .inr (by have := (own_ob O_q7 h).1; have := hnz_0; omega)
  replace O_q7 := own_lower O_q7 hnz_0
  refine ⟨_, rfl, ?_⟩; clear hE a; intro a hE
  refine q0 p56_3_2 hE (st_assign rfl) ?_; clear hE a; intro a hE
  refine p_nil (x_norm (c_reg R56_4_l ?_))
  refine q0 p56_4_0 hE (st_fieldAddr Try.underlying50 rfl tS3 rfl rfl) ?_; clear hE a; intro a hE
  refine q0 p56_4_1 hE (st_load1 tA3 rfl ((blk_cell B_g1 0).trans rfl)) ?_; clear hE a; intro a hE
  refine q0 p56_4_2 hE (st_conv (z := (k : Int)) (by kernel_rfl) Try.underlying5 rfl (wr_u8 _ (by omega) (by omega))) ?_; clear hE a; intro a hE
  refine q0 p56_4_3 hE (st_move rfl) ?_; clear hE a; intro a hE
  refine q0 p56_4_4 hE (st_len Try.underlying22 rfl) ?_; clear hE a; intro a hE
  refine q0 p56_4_5 hE (st_conv (z := (((bodyF k l f tx).length : Int) % 256)) (by kernel_rfl) Try.underlying5 rfl (IntKind.wrap_u8 _)) ?_; clear hE a; intro a hE
  refine p_cons (s_row (xs := [(0, Operand.tmp 12), (1, Operand.tmp 15)]) (vs := [(0, Value.int .u8 (k : Int)), (1, Value.int .u8 (((bodyF k l f tx).length : Int) % 256))]) (cs := #[Value.int .u8 (k : Int), Value.int .u8 (((bodyF k l f tx).length : Int) % 256)]) p56_4_6 hE wn_none rfl Try.underlying22 rfl (by kernel_rfl) ?_)
  clear hE a; intro g11 w12 z13 B_g11 hk a hE
  have n_g1_g11 : g1 ≠ g11 := ne_new B_g1 z13
  have z_0_g11 := Nat.le_trans K_0.kept.1 z13
  have Nb_q7_g11 : ¬ OB A8 g11 := fun h => by have := (own_ob O_q7 h).2; omega
  replace B_g1 := kp_blk B_g1 hk (fun h => h)
  replace O_q7 := own_keep O_q7 hk (fun _ _ h => h)
  replace K_0 := K_0.then_ hk (fun _ h => h.elim)
  clear hk
  refine q0 p56_4_7 hE (st_move rfl) ?_; clear hE a; intro a hE
  have O_q14 := own_blk9 (k := .u8) (l := [(k : Int), (((bodyF k l f tx).length : Int) % 256)]) B_g11 (show w.heap.size ≤ g11 from z_0_g11) rfl (Nat.le_of_ble_eq_true rfl)
  have Nb_q14_g1 : ¬ OB (some ⟨g11, 0, none⟩) g1 := fun h => by have h := ob_blk.1 h; exact (Ne.symm n_g1_g11) h
  have Z_0_q14 : ∀ k, OB (some ⟨g11, 0, none⟩) k → (fun _ => False) k ∨ w.heap.size ≤ k := fun k h => by have h := ob_blk.1 h; subst h; exact Or.inr z_0_g11
  have NN_q14_q7 : ∀ k, OB (some ⟨g11, 0, none⟩) k → ¬ OB A8 k := fun k h h2 => by have h := ob_blk.1 h; subst h; exact Nb_q7_g11 h2
  have NN_q7_q14 : ∀ k, OB A8 k → ¬ OB (some ⟨g11, 0, none⟩) k := fun k h h2 => NN_q14_q7 k h2 h
  refine p_cons (s_appendC (xs := [(k : Int), (((bodyF k l f tx).length : Int) % 256)]) (ys := (bodyF k l f tx)) p56_4_8 hE wn_none rfl Try.underlying22 eD5 rfl O_q14 rfl (own_told O_q7) (by omega) (by omega) K_0.kept.1 ?_)
  clear hE a; intro Aq1415 cq1416 w17 O_q14' hk hat a hE
  have Nb_q14_g1' := grow_n Nb_q14_g1 (blk_lt B_g1) hat
  have NN_q7_q14' : ∀ k, OB A8 k → ¬ OB Aq1415 k := fun k h h2 => (hat k h2).elim (NN_q7_q14 k h) (fun h3 => by have := (own_ob O_q7 h).2; omega)
  have Z_0_q14' := grow_z Z_0_q14 K_0.kept.1 hat
  replace B_g1 := kp_blk B_g1 hk Nb_q14_g1
  replace O_q7 := own_keep O_q7 hk NN_q7_q14
  replace K_0 := K_0.then_ hk Z_0_q14
  replace Nb_q14_g1 := Nb_q14_g1'
  replace NN_q7_q14 := NN_q7_q14'
  replace NN_q14_q7 : ∀ k, OB Aq1415 k → ¬ OB A8 k := fun k h h2 => NN_q7_q14 k h2 h
  replace Z_0_q14 := Z_0_q14'
  replace O_q14 : w17.ownsRow _ 5 1 (.slice Aq1415 (2 + (bodyF k l f tx).length) cq1416) (2 + (bodyF k l f tx).length) (encs (Value.int .u8) ([(k : Int), (((bodyF k l f tx).length : Int) % 256)] ++ (bodyF k l f tx))) := O_q14'
  clear O_q14' hk hat
  refine q0 p56_4_9 hE (st_assign rfl) ?_; clear hE a; intro a hE
  refine p_nil (x_norm (wp_ret ?_))
  refine ret_one (v := Value.slice Aq1415 (2 + (bodyF k l f tx).length) cq1416) rfl hE (.tmp rfl .nil) ?_
  have e9 : ([(k : Int), (((bodyF k l f tx).length : Int) % 256)] ++ (bodyF k l f tx)) = bytesF k l f tx := by unfold bytesF; rw [if_neg hZ0]
  have hn9 : (2 + (bodyF k l f tx).length) = (bytesF k l f tx).length := by rw [← e9]; simp only [List.length_append, List.length_cons, List.length_nil]
  rw [e9] at O_q14
  exact ⟨_, _, _, rfl, hn9, O_q14, K_0⟩
end Go.Proofs.Ytgpclehnomkbmaa.Ob
