/- The document's table: a new route. -/
import Derived.Test.YtnmlckaeheiodaaDoorRtd
set_option maxRecDepth 100000
set_option linter.unusedVariables false
set_option linter.unusedSimpArgs false
namespace Go.Proofs.YtnmlckaeheiodaaDoor.Rd19
open Go.RowKit Go.Proofs.YtnmlckaeheiodaaDoorW.PrintWords Go.Proofs.YtnmlckaeheiodaaDoor.Ds Go.Proofs.YtnmlckaeheiodaaDoor.Lol Go.Proofs.YtnmlckaeheiodaaDoor.Ra
open Go.Proofs.YtnmlckaeheiodaaDoor.Pk (Kp)
open Go.Proofs.YtnmlckaeheiodaaDoor.Mi (st_eqlP x_retS MapI getI putI)
theorem R18_17_l : List.range (regOf Tryd.f18 17).size = [0] := by kernel_rfl
theorem ns18_16 : Region.noSelect (regOf Tryd.f18 16) = true := by kernel_rfl
theorem p18_16_0 : pj (regOf Tryd.f18 16) 0 = some (some 97, .move (.tmp 0), 54, none) := by kernel_rfl
theorem p18_16_2 : pj (regOf Tryd.f18 16) 2 = some (some 99, .move (.tmp 0), 54, none) := by kernel_rfl
theorem p18_16_3 : pj (regOf Tryd.f18 16) 3 = some (some 100, .nilCheck (.tmp 99), 0, none) := by kernel_rfl
theorem p18_16_4 : pj (regOf Tryd.f18 16) 4 = some (some 101, .fieldAddr 56 (.tmp 100) 1, 0, none) := by kernel_rfl
theorem p18_16_6 : pj (regOf Tryd.f18 16) 6 = some (some 103, .move (.tmp 8), 3, none) := by kernel_rfl
theorem p18_16_9 : pj (regOf Tryd.f18 16) 9 = some (some 106, .load 61 (.tmp 3), 61, none) := by kernel_rfl
theorem tA61 : (Tryd.prog.underlying 61).map aggD = some true := by kernel_rfl
theorem p18_16_12 : pj (regOf Tryd.f18 16) 12 = some (some 109, .move (.tmp 0), 54, none) := by kernel_rfl
theorem p18_16_13 : pj (regOf Tryd.f18 16) 13 = some (some 110, .nilCheck (.tmp 109), 0, none) := by kernel_rfl
theorem p18_16_14 : pj (regOf Tryd.f18 16) 14 = some (some 111, .fieldAddr 56 (.tmp 110) 1, 0, none) := by kernel_rfl
theorem p18_16_16 : pj (regOf Tryd.f18 16) 16 = some (some 113, .move (.tmp 8), 3, none) := by kernel_rfl
theorem p18_16_1 : pj (regOf Tryd.f18 16) 1 = some (some 98, .buildSlice 22 0 #[], 22, none) := by kernel_rfl
theorem p18_16_5 : pj (regOf Tryd.f18 16) 5 = some (some 102, .load 22 (.tmp 101), 22, none) := by kernel_rfl
theorem p18_16_7 : pj (regOf Tryd.f18 16) 7 = some (some 104, .slice 22 (.tmp 102) none (some (.tmp 103)) none, 22, none) := by kernel_rfl
theorem p18_16_10 : pj (regOf Tryd.f18 16) 10 = some (some 107, .buildSlice 22 1 #[(0, .tmp 106)], 22, none) := by kernel_rfl
theorem p18_16_15 : pj (regOf Tryd.f18 16) 15 = some (some 112, .load 22 (.tmp 111), 22, none) := by kernel_rfl
theorem p18_16_17 : pj (regOf Tryd.f18 16) 17 = some (some 114, .slice 22 (.tmp 112) (some (.tmp 113)) none none, 22, none) := by kernel_rfl
theorem p18_16_8 : pj (regOf Tryd.f18 16) 8 = some (some 105, .call { callee := .builtin .append, args := #[.tmp 98, .tmp 104], argTypes := #[22, 22] }, 22, none) := by kernel_rfl
theorem eD61 : elemD Tryd.prog 61 = some (4, 4, 32) := by kernel_rfl
theorem p18_16_11 : pj (regOf Tryd.f18 16) 11 = some (some 108, .call { callee := .builtin .append, args := #[.tmp 105, .tmp 107], argTypes := #[22, 22] }, 22, none) := by kernel_rfl
theorem p18_16_18 : pj (regOf Tryd.f18 16) 18 = some (some 115, .call { callee := .builtin .append, args := #[.tmp 108, .tmp 114], argTypes := #[22, 22] }, 22, none) := by kernel_rfl
theorem p18_16_19 : pj (regOf Tryd.f18 16) 19 = some (some 116, .nilCheck (.tmp 97), 0, none) := by kernel_rfl
theorem p18_16_20 : pj (regOf Tryd.f18 16) 20 = some (some 117, .fieldAddr 56 (.tmp 116) 1, 0, none) := by kernel_rfl
theorem p18_16_21 : pj (regOf Tryd.f18 16) 21 = some (none, .store 22 (.tmp 117) (.tmp 115), 0, none) := by kernel_rfl
theorem p18_17_0 : pj (regOf Tryd.f18 17) 0 = some (some 4, .assign (.const (.int .i64 0)), 3, none) := by kernel_rfl
set_option maxHeartbeats 4000000 in
theorem learn16 {R : Ending → World → Prop} (w W : World) (gd : Nat) (A : Option Addr) (c : Nat) (L : List R4) (r : R4) (i gb : Nat) (B_gd : W.heap[gd]? = some (.cells #[.int .i64 32, .slice A L.length c] 56 (0, 0))) (O_L : Rv.RdV W A L.length 4 (flR L)) (hcA : L.length ≤ c ∧ (A = none → c = 0)) (hll : L.length ≤ 1000) (Nb_L_gd : ¬ OB A gd) (Nb_L_gb : ¬ OB A gb) (B_gb : W.heap[gb]? = some (.cells #[Value.int .i64 r.1, Value.int .i64 r.2.1, Value.int .i64 r.2.2.1, Value.int .i64 r.2.2.2] 61 (0, 0))) (n_gd_gb : gd ≠ gb) (K_0 : Kp w W (fun k => k = gd)) (hi1 : i ≤ L.length) (hRR : ∀ A' c' W', W'.heap[gd]? = some (.cells #[.int .i64 32, .slice A' (L.take i ++ r :: L.drop i).length c'] 56 (0, 0)) → Rv.RdV W' A' (L.take i ++ r :: L.drop i).length 4 (flR (L.take i ++ r :: L.drop i)) → ((L.take i ++ r :: L.drop i).length ≤ c' ∧ (A' = none → c' = 0)) → (∀ k, OB A' k → w.heap.size ≤ k) → Kp w W' (fun k => k = gd) → R (.returned (.int .i64 0)) W') (a : Act) (hE : En 118 a [(0, Value.pointer (some ⟨gd, 0, none⟩)), (3, Value.pointer (some ⟨gb, 0, none⟩)), (8, Value.int .i64 (i : Int))]) : Code.wp Tryd.prog (.seq (.region 16 (regOf Tryd.f18 16) true) (.seq (.region 17 (regOf Tryd.f18 17) false) (.ret))) (bodyPost Tryd.prog Tryd.f18 R) a W := by
 have hiL : i ≤ L.length := by omega
 obtain ⟨AD, hAD⟩ : ∃ z, (if c = i then A else A.map (·.add (i * 4))) = z := ⟨_, rfl⟩
 refine c_drawMS (S := fun W => W.heap[gb]? = some (.cells #[Value.int .i64 r.1, Value.int .i64 r.2.1, Value.int .i64 r.2.2.1, Value.int .i64 r.2.2.2] 61 (0, 0)) ∧ True) rfl rfl (listed := #[false, false, false, false, false, false, false, false, false, false, false, false, false, false, false, false, false, false, false, false, false, false]) rfl pan_body (fun QQ hQ hend => ?_)
 have dr16_23 : ∀ (A16_11 : Option Addr) (A16_18 : Option Addr) (A16_8 : Option Addr) (c16_11 : Nat) (c16_18 : Nat) (c16_8 : Nat) (g16_1 : Nat) (g16_10 : Nat) (W : World) (a : Act), En 118 a [(0, Value.pointer (some ⟨gd, 0, none⟩)), (3, Value.pointer (some ⟨gb, 0, none⟩)), (8, Value.int .i64 (i : Int)), (97, Value.pointer (some ⟨gd, 0, none⟩)), (98, Value.slice (some ⟨g16_1, 0, none⟩) 0 0), (99, Value.pointer (some ⟨gd, 0, none⟩)), (100, Value.pointer (some ⟨gd, 0, none⟩)), (101, Value.pointer (some ⟨gd, 1, none⟩)), (102, Value.slice A L.length c), (103, Value.int .i64 (i : Int)), (104, Value.slice A i c), (105, Value.slice A16_8 (0 + i) c16_8), (106, Value.agg #[Value.int .i64 r.1, Value.int .i64 r.2.1, Value.int .i64 r.2.2.1, Value.int .i64 r.2.2.2]), (107, Value.slice (some ⟨g16_10, 0, none⟩) 1 1), (108, Value.slice A16_11 ((0 + i) + 1) c16_11), (109, Value.pointer (some ⟨gd, 0, none⟩)), (110, Value.pointer (some ⟨gd, 0, none⟩)), (111, Value.pointer (some ⟨gd, 1, none⟩)), (112, Value.slice A L.length c), (113, Value.int .i64 (i : Int)), (114, Value.slice AD (L.length - i) (c - i)), (115, Value.slice A16_18 (((0 + i) + 1) + (L.length - i)) c16_18), (116, Value.pointer (some ⟨gd, 0, none⟩)), (117, Value.pointer (some ⟨gd, 1, none⟩))] → W.heap[gd]? = some (.cells #[Value.int .i64 32, Value.slice A16_18 (((0 + i) + 1) + (L.length - i)) c16_18] 56 (0, 0)) → W.heap[gb]? = some (.cells #[Value.int .i64 r.1, Value.int .i64 r.2.1, Value.int .i64 r.2.2.1, Value.int .i64 r.2.2.2] 61 (0, 0)) → W.heap[g16_10]? = some (.cells #[Value.int .i64 r.1, Value.int .i64 r.2.1, Value.int .i64 r.2.2.1, Value.int .i64 r.2.2.2] 61 (0, 0)) → g16_10 ≠ gb → g16_10 ≠ gd → gb ≠ gd → w.heap.size ≤ g16_10 → ¬ OB A g16_10 → (∀ k, OB A k → ¬ OB A16_18 k) → ¬ OB A16_18 gd → ¬ OB A16_18 gb → ¬ OB A16_18 g16_10 → (∀ k, OB A16_18 k → (fun k => k = gd) k ∨ w.heap.size ≤ k) → (∀ k, OB A16_18 k → ¬ OB A k) → Rv.RdV W A L.length 4 (flR L) → W.ownsRow w.heap.size 61 4 (.slice A16_18 (((0 + i) + 1) + (L.length - i)) c16_18) (((0 + i) + 1) + (L.length - i)) ((([] ++ ((flR L).take (i * 4))) ++ [Value.int .i64 r.1, Value.int .i64 r.2.1, Value.int .i64 r.2.2.1, Value.int .i64 r.2.2.2]) ++ ((flR L).drop (i * 4))) → Kp w W (fun k => k = gd) → wpAnyH Tryd.prog .any (regOf Tryd.f18 16) QQ (fun W => W.heap[gb]? = some (.cells #[Value.int .i64 r.1, Value.int .i64 r.2.1, Value.int .i64 r.2.2.1, Value.int .i64 r.2.2.2] 61 (0, 0)) ∧ True) 0 #[true, true, true, true, true, true, true, true, true, true, true, true, true, true, true, true, true, true, true, true, true, true] a W := by
  intro A16_11 A16_18 A16_8 c16_11 c16_18 c16_8 g16_1 g16_10 w46 a hE B_gd B_gb B_g16_10 n_g16_10_gb n_g16_10_gd n_gb_gd z_0_g16_10 Nb_L_g16_10 NN_L_q16_8 Nb_q16_8_gd Nb_q16_8_gb Nb_q16_8_g16_10 Z_0_q16_8 NN_q16_8_L O_L O_q16_8 K_0
  refine d_end (by kernel_rfl) (hend _ _ ?_)
  refine c_reg R18_17_l ?_
  refine q0 p18_17_0 hE (st_assign rfl) ?_; clear hE a; intro a hE
  refine p_nil (x_norm (wp_ret ?_))
  refine ret_one (v := Value.int .i64 0) rfl hE (.tmp rfl .nil) ?_
  rw [cut4] at O_q16_8
  have hln : (((0 + i) + 1) + (L.length - i)) = (L.take i ++ r :: L.drop i).length := by rw [List.length_append, List.length_cons, List.length_take, List.length_drop]; omega
  rw [hln] at O_q16_8 B_gd
  exact hRR A16_18 c16_18 _ B_gd (Rv.own_rdv O_q16_8 (flR_ones _)) ⟨(own_caps O_q16_8).1, own_cap0 O_q16_8⟩ (fun k h => (own_ob O_q16_8 h).1) K_0
 have dr16_22 : ∀ (A16_11 : Option Addr) (A16_18 : Option Addr) (A16_8 : Option Addr) (c16_11 : Nat) (c16_18 : Nat) (c16_8 : Nat) (g16_1 : Nat) (g16_10 : Nat) (W : World) (a : Act), En 118 a [(0, Value.pointer (some ⟨gd, 0, none⟩)), (3, Value.pointer (some ⟨gb, 0, none⟩)), (8, Value.int .i64 (i : Int)), (97, Value.pointer (some ⟨gd, 0, none⟩)), (98, Value.slice (some ⟨g16_1, 0, none⟩) 0 0), (99, Value.pointer (some ⟨gd, 0, none⟩)), (100, Value.pointer (some ⟨gd, 0, none⟩)), (101, Value.pointer (some ⟨gd, 1, none⟩)), (102, Value.slice A L.length c), (103, Value.int .i64 (i : Int)), (104, Value.slice A i c), (105, Value.slice A16_8 (0 + i) c16_8), (106, Value.agg #[Value.int .i64 r.1, Value.int .i64 r.2.1, Value.int .i64 r.2.2.1, Value.int .i64 r.2.2.2]), (107, Value.slice (some ⟨g16_10, 0, none⟩) 1 1), (108, Value.slice A16_11 ((0 + i) + 1) c16_11), (109, Value.pointer (some ⟨gd, 0, none⟩)), (110, Value.pointer (some ⟨gd, 0, none⟩)), (111, Value.pointer (some ⟨gd, 1, none⟩)), (112, Value.slice A L.length c), (113, Value.int .i64 (i : Int)), (114, Value.slice AD (L.length - i) (c - i)), (115, Value.slice A16_18 (((0 + i) + 1) + (L.length - i)) c16_18), (116, Value.pointer (some ⟨gd, 0, none⟩)), (117, Value.pointer (some ⟨gd, 1, none⟩))] → W.heap[gd]? = some (.cells #[Value.int .i64 32, Value.slice A L.length c] 56 (0, 0)) → W.heap[gb]? = some (.cells #[Value.int .i64 r.1, Value.int .i64 r.2.1, Value.int .i64 r.2.2.1, Value.int .i64 r.2.2.2] 61 (0, 0)) → W.heap[g16_10]? = some (.cells #[Value.int .i64 r.1, Value.int .i64 r.2.1, Value.int .i64 r.2.2.1, Value.int .i64 r.2.2.2] 61 (0, 0)) → g16_10 ≠ gb → g16_10 ≠ gd → gb ≠ gd → w.heap.size ≤ g16_10 → ¬ OB A g16_10 → (∀ k, OB A k → ¬ OB A16_18 k) → ¬ OB A16_18 gd → ¬ OB A16_18 gb → ¬ OB A16_18 g16_10 → (∀ k, OB A16_18 k → (fun k => k = gd) k ∨ w.heap.size ≤ k) → (∀ k, OB A16_18 k → ¬ OB A k) → Rv.RdV W A L.length 4 (flR L) → W.ownsRow w.heap.size 61 4 (.slice A16_18 (((0 + i) + 1) + (L.length - i)) c16_18) (((0 + i) + 1) + (L.length - i)) ((([] ++ ((flR L).take (i * 4))) ++ [Value.int .i64 r.1, Value.int .i64 r.2.1, Value.int .i64 r.2.2.1, Value.int .i64 r.2.2.2]) ++ ((flR L).drop (i * 4))) → Kp w W (fun k => k = gd) → wpAnyH Tryd.prog .any (regOf Tryd.f18 16) QQ (fun W => W.heap[gb]? = some (.cells #[Value.int .i64 r.1, Value.int .i64 r.2.1, Value.int .i64 r.2.2.1, Value.int .i64 r.2.2.2] 61 (0, 0)) ∧ True) 1 #[true, true, true, true, true, true, true, true, true, true, true, true, true, true, true, true, true, true, true, true, true, false] a W := by
  intro A16_11 A16_18 A16_8 c16_11 c16_18 c16_8 g16_1 g16_10 w47 a hE B_gd B_gb B_g16_10 n_g16_10_gb n_g16_10_gd n_gb_gd z_0_g16_10 Nb_L_g16_10 NN_L_q16_8 Nb_q16_8_gd Nb_q16_8_gb Nb_q16_8_g16_10 Z_0_q16_8 NN_q16_8_L O_L O_q16_8 K_0
  refine d_all (rs := [21]) (by kernel_rfl) rfl ?_
  refine all_cons (d_lit (listed' := #[true, true, true, true, true, true, true, true, true, true, true, true, true, true, true, true, true, true, true, true, true, true]) rfl ?_) ?_
  ·
   refine (s_store (off := 1) (k := 1) (cs' := #[Value.int .i64 32, Value.slice A16_18 (((0 + i) + 1) + (L.length - i)) c16_18]) p18_16_21 hE wn_none tS22 rfl rfl rfl rfl B_gd (Nat.le_of_ble_eq_true rfl) rfl ?_)
   intro w48 B_gd' hk
   replace B_gb := kp_blk B_gb hk n_gb_gd
   replace B_g16_10 := kp_blk B_g16_10 hk n_g16_10_gd
   replace O_L := Rv.rdv_keep O_L hk (fun k hk2 h2 => Nb_L_gd (by rw [show k = gd from h2] at hk2; exact hk2))
   replace O_q16_8 := own_keep O_q16_8 hk (fun k hk2 h2 => Nb_q16_8_gd (by rw [show k = gd from h2] at hk2; exact hk2))
   replace K_0 := K_0.then_ hk (fun k h => by rw [show k = gd from h]; exact Or.inl rfl)
   replace B_gd := B_gd'
   clear hk
   refine ⟨⟨B_gb, trivial⟩, ?_⟩
   exact dr16_23 A16_11 A16_18 A16_8 c16_11 c16_18 c16_8 g16_1 g16_10 _ a (En.sub hE ⟨rfl, rfl, rfl, rfl, rfl, rfl, rfl, rfl, rfl, rfl, rfl, rfl, rfl, rfl, rfl, rfl, rfl, rfl, rfl, rfl, rfl, rfl, rfl, rfl, trivial⟩) B_gd B_gb B_g16_10 n_g16_10_gb n_g16_10_gd n_gb_gd z_0_g16_10 Nb_L_g16_10 NN_L_q16_8 Nb_q16_8_gd Nb_q16_8_gb Nb_q16_8_g16_10 Z_0_q16_8 NN_q16_8_L O_L O_q16_8 K_0
  exact all_nil
 have dr16_21 : ∀ (A16_11 : Option Addr) (A16_8 : Option Addr) (c16_11 : Nat) (c16_8 : Nat) (g16_1 : Nat) (g16_10 : Nat) (W : World) (a : Act), En 118 a [(0, Value.pointer (some ⟨gd, 0, none⟩)), (3, Value.pointer (some ⟨gb, 0, none⟩)), (8, Value.int .i64 (i : Int)), (97, Value.pointer (some ⟨gd, 0, none⟩)), (98, Value.slice (some ⟨g16_1, 0, none⟩) 0 0), (99, Value.pointer (some ⟨gd, 0, none⟩)), (100, Value.pointer (some ⟨gd, 0, none⟩)), (101, Value.pointer (some ⟨gd, 1, none⟩)), (102, Value.slice A L.length c), (103, Value.int .i64 (i : Int)), (104, Value.slice A i c), (105, Value.slice A16_8 (0 + i) c16_8), (106, Value.agg #[Value.int .i64 r.1, Value.int .i64 r.2.1, Value.int .i64 r.2.2.1, Value.int .i64 r.2.2.2]), (107, Value.slice (some ⟨g16_10, 0, none⟩) 1 1), (108, Value.slice A16_11 ((0 + i) + 1) c16_11), (109, Value.pointer (some ⟨gd, 0, none⟩)), (110, Value.pointer (some ⟨gd, 0, none⟩)), (111, Value.pointer (some ⟨gd, 1, none⟩)), (112, Value.slice A L.length c), (113, Value.int .i64 (i : Int)), (114, Value.slice AD (L.length - i) (c - i))] → W.heap[gd]? = some (.cells #[Value.int .i64 32, Value.slice A L.length c] 56 (0, 0)) → W.heap[gb]? = some (.cells #[Value.int .i64 r.1, Value.int .i64 r.2.1, Value.int .i64 r.2.2.1, Value.int .i64 r.2.2.2] 61 (0, 0)) → W.heap[g16_10]? = some (.cells #[Value.int .i64 r.1, Value.int .i64 r.2.1, Value.int .i64 r.2.2.1, Value.int .i64 r.2.2.2] 61 (0, 0)) → g16_10 ≠ gb → g16_10 ≠ gd → gb ≠ gd → w.heap.size ≤ g16_10 → ¬ OB A g16_10 → (∀ k, OB A k → ¬ OB A16_11 k) → ¬ OB A16_11 gd → ¬ OB A16_11 gb → ¬ OB A16_11 g16_10 → (∀ k, OB A16_11 k → (fun k => k = gd) k ∨ w.heap.size ≤ k) → (∀ k, OB A16_11 k → ¬ OB A k) → Rv.RdV W A L.length 4 (flR L) → W.ownsRow w.heap.size 61 4 (.slice A16_11 ((0 + i) + 1) c16_11) ((0 + i) + 1) (([] ++ ((flR L).take (i * 4))) ++ [Value.int .i64 r.1, Value.int .i64 r.2.1, Value.int .i64 r.2.2.1, Value.int .i64 r.2.2.2]) → Kp w W (fun k => k = gd) → wpAnyH Tryd.prog .any (regOf Tryd.f18 16) QQ (fun W => W.heap[gb]? = some (.cells #[Value.int .i64 r.1, Value.int .i64 r.2.1, Value.int .i64 r.2.2.1, Value.int .i64 r.2.2.2] 61 (0, 0)) ∧ True) 4 #[true, true, true, true, true, true, true, true, true, true, true, true, true, true, true, true, true, true, false, false, false, false] a W := by
  intro A16_11 A16_8 c16_11 c16_8 g16_1 g16_10 w49 a hE B_gd B_gb B_g16_10 n_g16_10_gb n_g16_10_gd n_gb_gd z_0_g16_10 Nb_L_g16_10 NN_L_q16_8 Nb_q16_8_gd Nb_q16_8_gb Nb_q16_8_g16_10 Z_0_q16_8 NN_q16_8_L O_L O_q16_8 K_0
  refine d_all (rs := [18]) (by kernel_rfl) rfl ?_
  refine all_cons (d_lit (listed' := #[true, true, true, true, true, true, true, true, true, true, true, true, true, true, true, true, true, true, true, false, false, false]) rfl ?_) ?_
  ·
   refine (Rv.s_appendV (s := 4) (xs := (([] ++ ((flR L).take (i * 4))) ++ [Value.int .i64 r.1, Value.int .i64 r.2.1, Value.int .i64 r.2.2.1, Value.int .i64 r.2.2.2])) p18_16_18 hE wn_none rfl Tryd.underlying22 eD61 (by decide) rfl O_q16_8 rfl (Rv.rdv_drop O_L (by omega) hcA.1 rfl hAD) (by omega) (by omega) K_0.kept.1 ?_ (drop_cap hcA.2 hAD))
   clear hE a; intro A16_18 c16_18 w50 O_q16_8' hk hat a hE
   have Nb_q16_8_gd' := grow_n Nb_q16_8_gd (blk_lt B_gd) hat
   have Nb_q16_8_gb' := grow_n Nb_q16_8_gb (blk_lt B_gb) hat
   have Nb_q16_8_g16_10' := grow_n Nb_q16_8_g16_10 (blk_lt B_g16_10) hat
   have NN_L_q16_8' : ∀ k, OB A k → ¬ OB A16_18 k := fun k h h2 => (hat k h2).elim (NN_L_q16_8 k h) (fun h3 => by have := (Rv.rdv_ob O_L h).2; omega)
   have Z_0_q16_8' := grow_z Z_0_q16_8 K_0.kept.1 hat
   replace B_gd := kp_blk B_gd hk Nb_q16_8_gd
   replace B_gb := kp_blk B_gb hk Nb_q16_8_gb
   replace B_g16_10 := kp_blk B_g16_10 hk Nb_q16_8_g16_10
   replace O_L := Rv.rdv_keep O_L hk NN_L_q16_8
   replace K_0 := K_0.then_ hk Z_0_q16_8
   replace Nb_q16_8_gd := Nb_q16_8_gd'
   replace Nb_q16_8_gb := Nb_q16_8_gb'
   replace Nb_q16_8_g16_10 := Nb_q16_8_g16_10'
   replace NN_L_q16_8 := NN_L_q16_8'
   replace NN_q16_8_L : ∀ k, OB A16_18 k → ¬ OB A k := fun k h h2 => NN_L_q16_8 k h2 h
   replace Z_0_q16_8 := Z_0_q16_8'
   replace O_q16_8 := O_q16_8'
   try clear O_q16_8'
   clear hk hat
   refine ⟨⟨B_gb, trivial⟩, ?_⟩
   refine Rv.dq (listed' := #[true, true, true, true, true, true, true, true, true, true, true, true, true, true, true, true, true, true, true, true, false, false]) (v := Value.pointer (some ⟨gd, 0, none⟩)) p18_16_19 ns18_16 hE wn_none ⟨B_gb, trivial⟩ (fun W hS => (st_nil rfl)) ?_ (fun c a w h => hQ c a _ _ w h); clear hE a; intro a hE
   refine Rv.dq (listed' := #[true, true, true, true, true, true, true, true, true, true, true, true, true, true, true, true, true, true, true, true, true, false]) (v := Value.pointer (some ⟨gd, 1, none⟩)) p18_16_20 ns18_16 hE wn_none ⟨B_gb, trivial⟩ (fun W hS => (st_fieldAddr Tryd.underlying56 rfl tS22 rfl rfl)) ?_ (fun c a w h => hQ c a _ _ w h); clear hE a; intro a hE
   exact dr16_22 A16_11 A16_18 A16_8 c16_11 c16_18 c16_8 g16_1 g16_10 _ a (En.sub hE ⟨rfl, rfl, rfl, rfl, rfl, rfl, rfl, rfl, rfl, rfl, rfl, rfl, rfl, rfl, rfl, rfl, rfl, rfl, rfl, rfl, rfl, rfl, rfl, rfl, trivial⟩) B_gd B_gb B_g16_10 n_g16_10_gb n_g16_10_gd n_gb_gd z_0_g16_10 Nb_L_g16_10 NN_L_q16_8 Nb_q16_8_gd Nb_q16_8_gb Nb_q16_8_g16_10 Z_0_q16_8 NN_q16_8_L O_L O_q16_8 K_0
  exact all_nil
 have dr16_20 : ∀ (A16_8 : Option Addr) (c16_8 : Nat) (g16_1 : Nat) (g16_10 : Nat) (W : World) (a : Act), En 118 a [(0, Value.pointer (some ⟨gd, 0, none⟩)), (3, Value.pointer (some ⟨gb, 0, none⟩)), (8, Value.int .i64 (i : Int)), (97, Value.pointer (some ⟨gd, 0, none⟩)), (98, Value.slice (some ⟨g16_1, 0, none⟩) 0 0), (99, Value.pointer (some ⟨gd, 0, none⟩)), (100, Value.pointer (some ⟨gd, 0, none⟩)), (101, Value.pointer (some ⟨gd, 1, none⟩)), (102, Value.slice A L.length c), (103, Value.int .i64 (i : Int)), (104, Value.slice A i c), (105, Value.slice A16_8 (0 + i) c16_8), (106, Value.agg #[Value.int .i64 r.1, Value.int .i64 r.2.1, Value.int .i64 r.2.2.1, Value.int .i64 r.2.2.2]), (107, Value.slice (some ⟨g16_10, 0, none⟩) 1 1), (109, Value.pointer (some ⟨gd, 0, none⟩)), (110, Value.pointer (some ⟨gd, 0, none⟩)), (111, Value.pointer (some ⟨gd, 1, none⟩)), (112, Value.slice A L.length c), (113, Value.int .i64 (i : Int)), (114, Value.slice AD (L.length - i) (c - i))] → W.heap[gd]? = some (.cells #[Value.int .i64 32, Value.slice A L.length c] 56 (0, 0)) → W.heap[gb]? = some (.cells #[Value.int .i64 r.1, Value.int .i64 r.2.1, Value.int .i64 r.2.2.1, Value.int .i64 r.2.2.2] 61 (0, 0)) → W.heap[g16_10]? = some (.cells #[Value.int .i64 r.1, Value.int .i64 r.2.1, Value.int .i64 r.2.2.1, Value.int .i64 r.2.2.2] 61 (0, 0)) → g16_10 ≠ gb → g16_10 ≠ gd → gb ≠ gd → w.heap.size ≤ g16_10 → ¬ OB A g16_10 → (∀ k, OB A k → ¬ OB A16_8 k) → ¬ OB A16_8 gd → ¬ OB A16_8 gb → ¬ OB A16_8 g16_10 → (∀ k, OB A16_8 k → (fun k => k = gd) k ∨ w.heap.size ≤ k) → (∀ k, OB A16_8 k → ¬ OB A k) → Rv.RdV W A L.length 4 (flR L) → W.ownsRow w.heap.size 61 4 (.slice A16_8 (0 + i) c16_8) (0 + i) ([] ++ ((flR L).take (i * 4))) → Kp w W (fun k => k = gd) → wpAnyH Tryd.prog .any (regOf Tryd.f18 16) QQ (fun W => W.heap[gb]? = some (.cells #[Value.int .i64 r.1, Value.int .i64 r.2.1, Value.int .i64 r.2.2.1, Value.int .i64 r.2.2.2] 61 (0, 0)) ∧ True) 5 #[true, true, true, true, true, true, true, true, true, true, true, false, true, true, true, true, true, true, false, false, false, false] a W := by
  intro A16_8 c16_8 g16_1 g16_10 w51 a hE B_gd B_gb B_g16_10 n_g16_10_gb n_g16_10_gd n_gb_gd z_0_g16_10 Nb_L_g16_10 NN_L_q16_8 Nb_q16_8_gd Nb_q16_8_gb Nb_q16_8_g16_10 Z_0_q16_8 NN_q16_8_L O_L O_q16_8 K_0
  refine d_all (rs := [11]) (by kernel_rfl) rfl ?_
  refine all_cons (d_lit (listed' := #[true, true, true, true, true, true, true, true, true, true, true, true, true, true, true, true, true, true, false, false, false, false]) rfl ?_) ?_
  ·
   refine (s_append (s := 4) (xs := ([] ++ ((flR L).take (i * 4)))) (news := [Value.int .i64 r.1, Value.int .i64 r.2.1, Value.int .i64 r.2.2.1, Value.int .i64 r.2.2.2]) p18_16_11 hE wn_none rfl Tryd.underlying22 eD61 (by decide) rfl O_q16_8 rfl rfl (newsB B_g16_10 rfl) (ones rfl) (by omega) (by omega) K_0.kept.1 ?_)
   clear hE a; intro A16_11 c16_11 w52 O_q16_8' hk hat a hE
   have Nb_q16_8_gd' := grow_n Nb_q16_8_gd (blk_lt B_gd) hat
   have Nb_q16_8_gb' := grow_n Nb_q16_8_gb (blk_lt B_gb) hat
   have Nb_q16_8_g16_10' := grow_n Nb_q16_8_g16_10 (blk_lt B_g16_10) hat
   have NN_L_q16_8' : ∀ k, OB A k → ¬ OB A16_11 k := fun k h h2 => (hat k h2).elim (NN_L_q16_8 k h) (fun h3 => by have := (Rv.rdv_ob O_L h).2; omega)
   have Z_0_q16_8' := grow_z Z_0_q16_8 K_0.kept.1 hat
   replace B_gd := kp_blk B_gd hk Nb_q16_8_gd
   replace B_gb := kp_blk B_gb hk Nb_q16_8_gb
   replace B_g16_10 := kp_blk B_g16_10 hk Nb_q16_8_g16_10
   replace O_L := Rv.rdv_keep O_L hk NN_L_q16_8
   replace K_0 := K_0.then_ hk Z_0_q16_8
   replace Nb_q16_8_gd := Nb_q16_8_gd'
   replace Nb_q16_8_gb := Nb_q16_8_gb'
   replace Nb_q16_8_g16_10 := Nb_q16_8_g16_10'
   replace NN_L_q16_8 := NN_L_q16_8'
   replace NN_q16_8_L : ∀ k, OB A16_11 k → ¬ OB A k := fun k h h2 => NN_L_q16_8 k h2 h
   replace Z_0_q16_8 := Z_0_q16_8'
   replace O_q16_8 := O_q16_8'
   try clear O_q16_8'
   clear hk hat
   refine ⟨⟨B_gb, trivial⟩, ?_⟩
   exact dr16_21 A16_11 A16_8 c16_11 c16_8 g16_1 g16_10 _ a (En.sub hE ⟨rfl, rfl, rfl, rfl, rfl, rfl, rfl, rfl, rfl, rfl, rfl, rfl, rfl, rfl, rfl, rfl, rfl, rfl, rfl, rfl, rfl, trivial⟩) B_gd B_gb B_g16_10 n_g16_10_gb n_g16_10_gd n_gb_gd z_0_g16_10 Nb_L_g16_10 NN_L_q16_8 Nb_q16_8_gd Nb_q16_8_gb Nb_q16_8_g16_10 Z_0_q16_8 NN_q16_8_L O_L O_q16_8 K_0
  exact all_nil
 have dr16_19 : ∀ (A16_8 : Option Addr) (c16_8 : Nat) (g16_1 : Nat) (W : World) (a : Act), En 118 a [(0, Value.pointer (some ⟨gd, 0, none⟩)), (3, Value.pointer (some ⟨gb, 0, none⟩)), (8, Value.int .i64 (i : Int)), (97, Value.pointer (some ⟨gd, 0, none⟩)), (98, Value.slice (some ⟨g16_1, 0, none⟩) 0 0), (99, Value.pointer (some ⟨gd, 0, none⟩)), (100, Value.pointer (some ⟨gd, 0, none⟩)), (101, Value.pointer (some ⟨gd, 1, none⟩)), (102, Value.slice A L.length c), (103, Value.int .i64 (i : Int)), (104, Value.slice A i c), (105, Value.slice A16_8 (0 + i) c16_8), (106, Value.agg #[Value.int .i64 r.1, Value.int .i64 r.2.1, Value.int .i64 r.2.2.1, Value.int .i64 r.2.2.2]), (109, Value.pointer (some ⟨gd, 0, none⟩)), (110, Value.pointer (some ⟨gd, 0, none⟩)), (111, Value.pointer (some ⟨gd, 1, none⟩)), (112, Value.slice A L.length c), (113, Value.int .i64 (i : Int)), (114, Value.slice AD (L.length - i) (c - i))] → W.heap[gd]? = some (.cells #[Value.int .i64 32, Value.slice A L.length c] 56 (0, 0)) → W.heap[gb]? = some (.cells #[Value.int .i64 r.1, Value.int .i64 r.2.1, Value.int .i64 r.2.2.1, Value.int .i64 r.2.2.2] 61 (0, 0)) → gb ≠ gd → (∀ k, OB A k → ¬ OB A16_8 k) → ¬ OB A16_8 gd → ¬ OB A16_8 gb → (∀ k, OB A16_8 k → (fun k => k = gd) k ∨ w.heap.size ≤ k) → (∀ k, OB A16_8 k → ¬ OB A k) → Rv.RdV W A L.length 4 (flR L) → W.ownsRow w.heap.size 61 4 (.slice A16_8 (0 + i) c16_8) (0 + i) ([] ++ ((flR L).take (i * 4))) → Kp w W (fun k => k = gd) → wpAnyH Tryd.prog .any (regOf Tryd.f18 16) QQ (fun W => W.heap[gb]? = some (.cells #[Value.int .i64 r.1, Value.int .i64 r.2.1, Value.int .i64 r.2.2.1, Value.int .i64 r.2.2.2] 61 (0, 0)) ∧ True) 6 #[true, true, true, true, true, true, true, true, true, true, false, false, true, true, true, true, true, true, false, false, false, false] a W := by
  intro A16_8 c16_8 g16_1 w53 a hE B_gd B_gb n_gb_gd NN_L_q16_8 Nb_q16_8_gd Nb_q16_8_gb Z_0_q16_8 NN_q16_8_L O_L O_q16_8 K_0
  refine d_all (rs := [10]) (by kernel_rfl) rfl ?_
  refine all_cons (d_lit (listed' := #[true, true, true, true, true, true, true, true, true, true, true, false, true, true, true, true, true, true, false, false, false, false]) rfl ?_) ?_
  ·
   refine (s_row (xs := [(0, Operand.tmp 106)]) (vs := [(0, Value.agg #[Value.int .i64 r.1, Value.int .i64 r.2.1, Value.int .i64 r.2.2.1, Value.int .i64 r.2.2.2])]) (cs := #[Value.int .i64 r.1, Value.int .i64 r.2.1, Value.int .i64 r.2.2.1, Value.int .i64 r.2.2.2]) p18_16_10 hE wn_none rfl Tryd.underlying22 rfl (by kernel_rfl) ?_)
   clear hE a; intro g16_10 w54 z55 B_g16_10 hk a hE
   have n_gd_g16_10 : gd ≠ g16_10 := ne_new B_gd z55
   have n_gb_g16_10 : gb ≠ g16_10 := ne_new B_gb z55
   have z_0_g16_10 := Nat.le_trans K_0.kept.1 z55
   have Nb_L_g16_10 : ¬ OB A g16_10 := fun h => by have := (Rv.rdv_ob O_L h).2; omega
   have Nb_q16_8_g16_10 : ¬ OB A16_8 g16_10 := fun h => by have := (own_ob O_q16_8 h).2; omega
   replace B_gd := kp_blk B_gd hk (fun h => h)
   replace B_gb := kp_blk B_gb hk (fun h => h)
   replace O_L := Rv.rdv_keep O_L hk (fun _ _ h => h)
   replace O_q16_8 := own_keep O_q16_8 hk (fun _ _ h => h)
   replace K_0 := K_0.then_ hk (fun _ h => h.elim)
   clear hk
   refine ⟨⟨B_gb, trivial⟩, ?_⟩
   have n_g16_10_gb := Ne.symm n_gb_g16_10
   have n_g16_10_gd := Ne.symm n_gd_g16_10
   exact dr16_20 A16_8 c16_8 g16_1 g16_10 _ a (En.sub hE ⟨rfl, rfl, rfl, rfl, rfl, rfl, rfl, rfl, rfl, rfl, rfl, rfl, rfl, rfl, rfl, rfl, rfl, rfl, rfl, rfl, trivial⟩) B_gd B_gb B_g16_10 n_g16_10_gb n_g16_10_gd n_gb_gd z_0_g16_10 Nb_L_g16_10 NN_L_q16_8 Nb_q16_8_gd Nb_q16_8_gb Nb_q16_8_g16_10 Z_0_q16_8 NN_q16_8_L O_L O_q16_8 K_0
  exact all_nil
 have dr16_18 : ∀ (g16_1 : Nat) (g16_10 : Nat) (W : World) (a : Act), En 118 a [(0, Value.pointer (some ⟨gd, 0, none⟩)), (3, Value.pointer (some ⟨gb, 0, none⟩)), (8, Value.int .i64 (i : Int)), (97, Value.pointer (some ⟨gd, 0, none⟩)), (98, Value.slice (some ⟨g16_1, 0, none⟩) 0 0), (99, Value.pointer (some ⟨gd, 0, none⟩)), (100, Value.pointer (some ⟨gd, 0, none⟩)), (101, Value.pointer (some ⟨gd, 1, none⟩)), (102, Value.slice A L.length c), (103, Value.int .i64 (i : Int)), (104, Value.slice A i c), (106, Value.agg #[Value.int .i64 r.1, Value.int .i64 r.2.1, Value.int .i64 r.2.2.1, Value.int .i64 r.2.2.2]), (107, Value.slice (some ⟨g16_10, 0, none⟩) 1 1), (109, Value.pointer (some ⟨gd, 0, none⟩)), (110, Value.pointer (some ⟨gd, 0, none⟩)), (111, Value.pointer (some ⟨gd, 1, none⟩)), (112, Value.slice A L.length c), (113, Value.int .i64 (i : Int)), (114, Value.slice AD (L.length - i) (c - i))] → W.heap[gd]? = some (.cells #[Value.int .i64 32, Value.slice A L.length c] 56 (0, 0)) → W.heap[gb]? = some (.cells #[Value.int .i64 r.1, Value.int .i64 r.2.1, Value.int .i64 r.2.2.1, Value.int .i64 r.2.2.2] 61 (0, 0)) → W.heap[g16_1]? = some (.cells #[] 61 (0, 0)) → W.heap[g16_10]? = some (.cells #[Value.int .i64 r.1, Value.int .i64 r.2.1, Value.int .i64 r.2.2.1, Value.int .i64 r.2.2.2] 61 (0, 0)) → g16_1 ≠ g16_10 → g16_1 ≠ gb → g16_1 ≠ gd → g16_10 ≠ gb → g16_10 ≠ gd → gb ≠ gd → w.heap.size ≤ g16_1 → w.heap.size ≤ g16_10 → ¬ OB A g16_1 → ¬ OB A g16_10 → Rv.RdV W A L.length 4 (flR L) → Kp w W (fun k => k = gd) → wpAnyH Tryd.prog .any (regOf Tryd.f18 16) QQ (fun W => W.heap[gb]? = some (.cells #[Value.int .i64 r.1, Value.int .i64 r.2.1, Value.int .i64 r.2.2.1, Value.int .i64 r.2.2.2] 61 (0, 0)) ∧ True) 6 #[true, true, true, true, true, true, true, true, false, true, true, false, true, true, true, true, true, true, false, false, false, false] a W := by
  intro g16_1 g16_10 w56 a hE B_gd B_gb B_g16_1 B_g16_10 n_g16_1_g16_10 n_g16_1_gb n_g16_1_gd n_g16_10_gb n_g16_10_gd n_gb_gd z_0_g16_1 z_0_g16_10 Nb_L_g16_1 Nb_L_g16_10 O_L K_0
  refine d_all (rs := [8]) (by kernel_rfl) rfl ?_
  refine all_cons (d_lit (listed' := #[true, true, true, true, true, true, true, true, true, true, true, false, true, true, true, true, true, true, false, false, false, false]) rfl ?_) ?_
  ·
   have O_q16_8 := own_blk0 (s := 4) B_g16_1 (show w.heap.size ≤ g16_1 from z_0_g16_1)
   have Nb_q16_8_gd : ¬ OB (some ⟨g16_1, 0, none⟩) gd := fun h => by have h := ob_blk.1 h; exact n_g16_1_gd h
   have Nb_q16_8_gb : ¬ OB (some ⟨g16_1, 0, none⟩) gb := fun h => by have h := ob_blk.1 h; exact n_g16_1_gb h
   have Nb_q16_8_g16_10 : ¬ OB (some ⟨g16_1, 0, none⟩) g16_10 := fun h => by have h := ob_blk.1 h; exact n_g16_1_g16_10 h
   have Z_0_q16_8 : ∀ k, OB (some ⟨g16_1, 0, none⟩) k → (fun k => k = gd) k ∨ w.heap.size ≤ k := fun k h => by have h := ob_blk.1 h; subst h; exact Or.inr z_0_g16_1
   have NN_q16_8_L : ∀ k, OB (some ⟨g16_1, 0, none⟩) k → ¬ OB A k := fun k h h2 => by have h := ob_blk.1 h; subst h; exact Nb_L_g16_1 h2
   have NN_L_q16_8 : ∀ k, OB A k → ¬ OB (some ⟨g16_1, 0, none⟩) k := fun k h h2 => NN_q16_8_L k h2 h
   refine (Rv.s_appendV (s := 4) (xs := []) p18_16_8 hE wn_none rfl Tryd.underlying22 eD61 (by decide) rfl O_q16_8 rfl (Rv.rdv_take O_L (by omega)) (by omega) (by omega) K_0.kept.1 ?_ hcA.2)
   clear hE a; intro A16_8 c16_8 w57 O_q16_8' hk hat a hE
   have Nb_q16_8_gd' := grow_n Nb_q16_8_gd (blk_lt B_gd) hat
   have Nb_q16_8_gb' := grow_n Nb_q16_8_gb (blk_lt B_gb) hat
   have Nb_q16_8_g16_10' := grow_n Nb_q16_8_g16_10 (blk_lt B_g16_10) hat
   have NN_L_q16_8' : ∀ k, OB A k → ¬ OB A16_8 k := fun k h h2 => (hat k h2).elim (NN_L_q16_8 k h) (fun h3 => by have := (Rv.rdv_ob O_L h).2; omega)
   have Z_0_q16_8' := grow_z Z_0_q16_8 K_0.kept.1 hat
   replace B_gd := kp_blk B_gd hk Nb_q16_8_gd
   replace B_gb := kp_blk B_gb hk Nb_q16_8_gb
   replace B_g16_10 := kp_blk B_g16_10 hk Nb_q16_8_g16_10
   replace O_L := Rv.rdv_keep O_L hk NN_L_q16_8
   replace K_0 := K_0.then_ hk Z_0_q16_8
   replace Nb_q16_8_gd := Nb_q16_8_gd'
   replace Nb_q16_8_gb := Nb_q16_8_gb'
   replace Nb_q16_8_g16_10 := Nb_q16_8_g16_10'
   replace NN_L_q16_8 := NN_L_q16_8'
   replace NN_q16_8_L : ∀ k, OB A16_8 k → ¬ OB A k := fun k h h2 => NN_L_q16_8 k h2 h
   replace Z_0_q16_8 := Z_0_q16_8'
   replace O_q16_8 := O_q16_8'
   try clear O_q16_8'
   clear hk hat
   refine ⟨⟨B_gb, trivial⟩, ?_⟩
   exact dr16_20 A16_8 c16_8 g16_1 g16_10 _ a (En.sub hE ⟨rfl, rfl, rfl, rfl, rfl, rfl, rfl, rfl, rfl, rfl, rfl, rfl, rfl, rfl, rfl, rfl, rfl, rfl, rfl, rfl, trivial⟩) B_gd B_gb B_g16_10 n_g16_10_gb n_g16_10_gd n_gb_gd z_0_g16_10 Nb_L_g16_10 NN_L_q16_8 Nb_q16_8_gd Nb_q16_8_gb Nb_q16_8_g16_10 Z_0_q16_8 NN_q16_8_L O_L O_q16_8 K_0
  exact all_nil
 have dr16_17 : ∀ (A16_11 : Option Addr) (A16_8 : Option Addr) (c16_11 : Nat) (c16_8 : Nat) (g16_1 : Nat) (g16_10 : Nat) (W : World) (a : Act), En 118 a [(0, Value.pointer (some ⟨gd, 0, none⟩)), (3, Value.pointer (some ⟨gb, 0, none⟩)), (8, Value.int .i64 (i : Int)), (97, Value.pointer (some ⟨gd, 0, none⟩)), (98, Value.slice (some ⟨g16_1, 0, none⟩) 0 0), (99, Value.pointer (some ⟨gd, 0, none⟩)), (100, Value.pointer (some ⟨gd, 0, none⟩)), (101, Value.pointer (some ⟨gd, 1, none⟩)), (102, Value.slice A L.length c), (103, Value.int .i64 (i : Int)), (104, Value.slice A i c), (105, Value.slice A16_8 (0 + i) c16_8), (106, Value.agg #[Value.int .i64 r.1, Value.int .i64 r.2.1, Value.int .i64 r.2.2.1, Value.int .i64 r.2.2.2]), (107, Value.slice (some ⟨g16_10, 0, none⟩) 1 1), (108, Value.slice A16_11 ((0 + i) + 1) c16_11), (109, Value.pointer (some ⟨gd, 0, none⟩)), (110, Value.pointer (some ⟨gd, 0, none⟩)), (111, Value.pointer (some ⟨gd, 1, none⟩)), (113, Value.int .i64 (i : Int))] → W.heap[gd]? = some (.cells #[Value.int .i64 32, Value.slice A L.length c] 56 (0, 0)) → W.heap[gb]? = some (.cells #[Value.int .i64 r.1, Value.int .i64 r.2.1, Value.int .i64 r.2.2.1, Value.int .i64 r.2.2.2] 61 (0, 0)) → W.heap[g16_10]? = some (.cells #[Value.int .i64 r.1, Value.int .i64 r.2.1, Value.int .i64 r.2.2.1, Value.int .i64 r.2.2.2] 61 (0, 0)) → g16_10 ≠ gb → g16_10 ≠ gd → gb ≠ gd → w.heap.size ≤ g16_10 → ¬ OB A g16_10 → (∀ k, OB A k → ¬ OB A16_11 k) → ¬ OB A16_11 gd → ¬ OB A16_11 gb → ¬ OB A16_11 g16_10 → (∀ k, OB A16_11 k → (fun k => k = gd) k ∨ w.heap.size ≤ k) → (∀ k, OB A16_11 k → ¬ OB A k) → Rv.RdV W A L.length 4 (flR L) → W.ownsRow w.heap.size 61 4 (.slice A16_11 ((0 + i) + 1) c16_11) ((0 + i) + 1) (([] ++ ((flR L).take (i * 4))) ++ [Value.int .i64 r.1, Value.int .i64 r.2.1, Value.int .i64 r.2.2.1, Value.int .i64 r.2.2.2]) → Kp w W (fun k => k = gd) → wpAnyH Tryd.prog .any (regOf Tryd.f18 16) QQ (fun W => W.heap[gb]? = some (.cells #[Value.int .i64 r.1, Value.int .i64 r.2.1, Value.int .i64 r.2.2.1, Value.int .i64 r.2.2.2] 61 (0, 0)) ∧ True) 6 #[true, true, true, true, true, true, true, true, true, true, true, true, true, true, true, false, true, false, false, false, false, false] a W := by
  intro A16_11 A16_8 c16_11 c16_8 g16_1 g16_10 w58 a hE B_gd B_gb B_g16_10 n_g16_10_gb n_g16_10_gd n_gb_gd z_0_g16_10 Nb_L_g16_10 NN_L_q16_8 Nb_q16_8_gd Nb_q16_8_gb Nb_q16_8_g16_10 Z_0_q16_8 NN_q16_8_L O_L O_q16_8 K_0
  refine d_all (rs := [15]) (by kernel_rfl) rfl ?_
  refine all_cons (d_lit (listed' := #[true, true, true, true, true, true, true, true, true, true, true, true, true, true, true, true, true, false, false, false, false, false]) rfl ?_) ?_
  ·
   refine (s_still p18_16_15 hE wn_none rfl (st_load1 tA22 rfl ((blk_cell B_gd 1).trans rfl)) ?_); clear hE a; intro a hE
   refine ⟨⟨B_gb, trivial⟩, ?_⟩
   refine Rv.dq (listed' := #[true, true, true, true, true, true, true, true, true, true, true, true, true, true, true, true, true, true, false, false, false, false]) (v := Value.slice AD (L.length - i) (c - i)) p18_16_17 ns18_16 hE wn_none ⟨B_gb, trivial⟩ (fun W hS => (st_sliceL (lo := i) (A' := AD) Tryd.underlying22 tS61 rfl rfl (by omega) rfl rfl hAD)) ?_ (fun c a w h => hQ c a _ _ w h); clear hE a; intro a hE
   exact dr16_21 A16_11 A16_8 c16_11 c16_8 g16_1 g16_10 _ a (En.sub hE ⟨rfl, rfl, rfl, rfl, rfl, rfl, rfl, rfl, rfl, rfl, rfl, rfl, rfl, rfl, rfl, rfl, rfl, rfl, rfl, rfl, rfl, trivial⟩) B_gd B_gb B_g16_10 n_g16_10_gb n_g16_10_gd n_gb_gd z_0_g16_10 Nb_L_g16_10 NN_L_q16_8 Nb_q16_8_gd Nb_q16_8_gb Nb_q16_8_g16_10 Z_0_q16_8 NN_q16_8_L O_L O_q16_8 K_0
  exact all_nil
 have dr16_16 : ∀ (A16_8 : Option Addr) (c16_8 : Nat) (g16_1 : Nat) (g16_10 : Nat) (W : World) (a : Act), En 118 a [(0, Value.pointer (some ⟨gd, 0, none⟩)), (3, Value.pointer (some ⟨gb, 0, none⟩)), (8, Value.int .i64 (i : Int)), (97, Value.pointer (some ⟨gd, 0, none⟩)), (98, Value.slice (some ⟨g16_1, 0, none⟩) 0 0), (99, Value.pointer (some ⟨gd, 0, none⟩)), (100, Value.pointer (some ⟨gd, 0, none⟩)), (101, Value.pointer (some ⟨gd, 1, none⟩)), (102, Value.slice A L.length c), (103, Value.int .i64 (i : Int)), (104, Value.slice A i c), (105, Value.slice A16_8 (0 + i) c16_8), (106, Value.agg #[Value.int .i64 r.1, Value.int .i64 r.2.1, Value.int .i64 r.2.2.1, Value.int .i64 r.2.2.2]), (107, Value.slice (some ⟨g16_10, 0, none⟩) 1 1), (109, Value.pointer (some ⟨gd, 0, none⟩)), (110, Value.pointer (some ⟨gd, 0, none⟩)), (111, Value.pointer (some ⟨gd, 1, none⟩)), (113, Value.int .i64 (i : Int))] → W.heap[gd]? = some (.cells #[Value.int .i64 32, Value.slice A L.length c] 56 (0, 0)) → W.heap[gb]? = some (.cells #[Value.int .i64 r.1, Value.int .i64 r.2.1, Value.int .i64 r.2.2.1, Value.int .i64 r.2.2.2] 61 (0, 0)) → W.heap[g16_10]? = some (.cells #[Value.int .i64 r.1, Value.int .i64 r.2.1, Value.int .i64 r.2.2.1, Value.int .i64 r.2.2.2] 61 (0, 0)) → g16_10 ≠ gb → g16_10 ≠ gd → gb ≠ gd → w.heap.size ≤ g16_10 → ¬ OB A g16_10 → (∀ k, OB A k → ¬ OB A16_8 k) → ¬ OB A16_8 gd → ¬ OB A16_8 gb → ¬ OB A16_8 g16_10 → (∀ k, OB A16_8 k → (fun k => k = gd) k ∨ w.heap.size ≤ k) → (∀ k, OB A16_8 k → ¬ OB A k) → Rv.RdV W A L.length 4 (flR L) → W.ownsRow w.heap.size 61 4 (.slice A16_8 (0 + i) c16_8) (0 + i) ([] ++ ((flR L).take (i * 4))) → Kp w W (fun k => k = gd) → wpAnyH Tryd.prog .any (regOf Tryd.f18 16) QQ (fun W => W.heap[gb]? = some (.cells #[Value.int .i64 r.1, Value.int .i64 r.2.1, Value.int .i64 r.2.2.1, Value.int .i64 r.2.2.2] 61 (0, 0)) ∧ True) 7 #[true, true, true, true, true, true, true, true, true, true, true, false, true, true, true, false, true, false, false, false, false, false] a W := by
  intro A16_8 c16_8 g16_1 g16_10 w59 a hE B_gd B_gb B_g16_10 n_g16_10_gb n_g16_10_gd n_gb_gd z_0_g16_10 Nb_L_g16_10 NN_L_q16_8 Nb_q16_8_gd Nb_q16_8_gb Nb_q16_8_g16_10 Z_0_q16_8 NN_q16_8_L O_L O_q16_8 K_0
  refine d_all (rs := [11, 15]) (by kernel_rfl) rfl ?_
  refine all_cons (d_lit (listed' := #[true, true, true, true, true, true, true, true, true, true, true, true, true, true, true, false, true, false, false, false, false, false]) rfl ?_) ?_
  ·
   refine (s_append (s := 4) (xs := ([] ++ ((flR L).take (i * 4)))) (news := [Value.int .i64 r.1, Value.int .i64 r.2.1, Value.int .i64 r.2.2.1, Value.int .i64 r.2.2.2]) p18_16_11 hE wn_none rfl Tryd.underlying22 eD61 (by decide) rfl O_q16_8 rfl rfl (newsB B_g16_10 rfl) (ones rfl) (by omega) (by omega) K_0.kept.1 ?_)
   clear hE a; intro A16_11 c16_11 w60 O_q16_8' hk hat a hE
   have Nb_q16_8_gd' := grow_n Nb_q16_8_gd (blk_lt B_gd) hat
   have Nb_q16_8_gb' := grow_n Nb_q16_8_gb (blk_lt B_gb) hat
   have Nb_q16_8_g16_10' := grow_n Nb_q16_8_g16_10 (blk_lt B_g16_10) hat
   have NN_L_q16_8' : ∀ k, OB A k → ¬ OB A16_11 k := fun k h h2 => (hat k h2).elim (NN_L_q16_8 k h) (fun h3 => by have := (Rv.rdv_ob O_L h).2; omega)
   have Z_0_q16_8' := grow_z Z_0_q16_8 K_0.kept.1 hat
   replace B_gd := kp_blk B_gd hk Nb_q16_8_gd
   replace B_gb := kp_blk B_gb hk Nb_q16_8_gb
   replace B_g16_10 := kp_blk B_g16_10 hk Nb_q16_8_g16_10
   replace O_L := Rv.rdv_keep O_L hk NN_L_q16_8
   replace K_0 := K_0.then_ hk Z_0_q16_8
   replace Nb_q16_8_gd := Nb_q16_8_gd'
   replace Nb_q16_8_gb := Nb_q16_8_gb'
   replace Nb_q16_8_g16_10 := Nb_q16_8_g16_10'
   replace NN_L_q16_8 := NN_L_q16_8'
   replace NN_q16_8_L : ∀ k, OB A16_11 k → ¬ OB A k := fun k h h2 => NN_L_q16_8 k h2 h
   replace Z_0_q16_8 := Z_0_q16_8'
   replace O_q16_8 := O_q16_8'
   try clear O_q16_8'
   clear hk hat
   refine ⟨⟨B_gb, trivial⟩, ?_⟩
   exact dr16_17 A16_11 A16_8 c16_11 c16_8 g16_1 g16_10 _ a (En.sub hE ⟨rfl, rfl, rfl, rfl, rfl, rfl, rfl, rfl, rfl, rfl, rfl, rfl, rfl, rfl, rfl, rfl, rfl, rfl, rfl, trivial⟩) B_gd B_gb B_g16_10 n_g16_10_gb n_g16_10_gd n_gb_gd z_0_g16_10 Nb_L_g16_10 NN_L_q16_8 Nb_q16_8_gd Nb_q16_8_gb Nb_q16_8_g16_10 Z_0_q16_8 NN_q16_8_L O_L O_q16_8 K_0
  refine all_cons (d_lit (listed' := #[true, true, true, true, true, true, true, true, true, true, true, false, true, true, true, true, true, false, false, false, false, false]) rfl ?_) ?_
  ·
   refine (s_still p18_16_15 hE wn_none rfl (st_load1 tA22 rfl ((blk_cell B_gd 1).trans rfl)) ?_); clear hE a; intro a hE
   refine ⟨⟨B_gb, trivial⟩, ?_⟩
   refine Rv.dq (listed' := #[true, true, true, true, true, true, true, true, true, true, true, false, true, true, true, true, true, true, false, false, false, false]) (v := Value.slice AD (L.length - i) (c - i)) p18_16_17 ns18_16 hE wn_none ⟨B_gb, trivial⟩ (fun W hS => (st_sliceL (lo := i) (A' := AD) Tryd.underlying22 tS61 rfl rfl (by omega) rfl rfl hAD)) ?_ (fun c a w h => hQ c a _ _ w h); clear hE a; intro a hE
   exact dr16_20 A16_8 c16_8 g16_1 g16_10 _ a (En.sub hE ⟨rfl, rfl, rfl, rfl, rfl, rfl, rfl, rfl, rfl, rfl, rfl, rfl, rfl, rfl, rfl, rfl, rfl, rfl, rfl, rfl, trivial⟩) B_gd B_gb B_g16_10 n_g16_10_gb n_g16_10_gd n_gb_gd z_0_g16_10 Nb_L_g16_10 NN_L_q16_8 Nb_q16_8_gd Nb_q16_8_gb Nb_q16_8_g16_10 Z_0_q16_8 NN_q16_8_L O_L O_q16_8 K_0
  exact all_nil
 have dr16_15 : ∀ (g16_1 : Nat) (W : World) (a : Act), En 118 a [(0, Value.pointer (some ⟨gd, 0, none⟩)), (3, Value.pointer (some ⟨gb, 0, none⟩)), (8, Value.int .i64 (i : Int)), (97, Value.pointer (some ⟨gd, 0, none⟩)), (98, Value.slice (some ⟨g16_1, 0, none⟩) 0 0), (99, Value.pointer (some ⟨gd, 0, none⟩)), (100, Value.pointer (some ⟨gd, 0, none⟩)), (101, Value.pointer (some ⟨gd, 1, none⟩)), (102, Value.slice A L.length c), (103, Value.int .i64 (i : Int)), (104, Value.slice A i c), (106, Value.agg #[Value.int .i64 r.1, Value.int .i64 r.2.1, Value.int .i64 r.2.2.1, Value.int .i64 r.2.2.2]), (109, Value.pointer (some ⟨gd, 0, none⟩)), (110, Value.pointer (some ⟨gd, 0, none⟩)), (111, Value.pointer (some ⟨gd, 1, none⟩)), (112, Value.slice A L.length c), (113, Value.int .i64 (i : Int)), (114, Value.slice AD (L.length - i) (c - i))] → W.heap[gd]? = some (.cells #[Value.int .i64 32, Value.slice A L.length c] 56 (0, 0)) → W.heap[gb]? = some (.cells #[Value.int .i64 r.1, Value.int .i64 r.2.1, Value.int .i64 r.2.2.1, Value.int .i64 r.2.2.2] 61 (0, 0)) → W.heap[g16_1]? = some (.cells #[] 61 (0, 0)) → g16_1 ≠ gb → g16_1 ≠ gd → gb ≠ gd → w.heap.size ≤ g16_1 → ¬ OB A g16_1 → Rv.RdV W A L.length 4 (flR L) → Kp w W (fun k => k = gd) → wpAnyH Tryd.prog .any (regOf Tryd.f18 16) QQ (fun W => W.heap[gb]? = some (.cells #[Value.int .i64 r.1, Value.int .i64 r.2.1, Value.int .i64 r.2.2.1, Value.int .i64 r.2.2.2] 61 (0, 0)) ∧ True) 7 #[true, true, true, true, true, true, true, true, false, true, false, false, true, true, true, true, true, true, false, false, false, false] a W := by
  intro g16_1 w61 a hE B_gd B_gb B_g16_1 n_g16_1_gb n_g16_1_gd n_gb_gd z_0_g16_1 Nb_L_g16_1 O_L K_0
  refine d_all (rs := [8, 10]) (by kernel_rfl) rfl ?_
  refine all_cons (d_lit (listed' := #[true, true, true, true, true, true, true, true, true, true, false, false, true, true, true, true, true, true, false, false, false, false]) rfl ?_) ?_
  ·
   have O_q16_8 := own_blk0 (s := 4) B_g16_1 (show w.heap.size ≤ g16_1 from z_0_g16_1)
   have Nb_q16_8_gd : ¬ OB (some ⟨g16_1, 0, none⟩) gd := fun h => by have h := ob_blk.1 h; exact n_g16_1_gd h
   have Nb_q16_8_gb : ¬ OB (some ⟨g16_1, 0, none⟩) gb := fun h => by have h := ob_blk.1 h; exact n_g16_1_gb h
   have Z_0_q16_8 : ∀ k, OB (some ⟨g16_1, 0, none⟩) k → (fun k => k = gd) k ∨ w.heap.size ≤ k := fun k h => by have h := ob_blk.1 h; subst h; exact Or.inr z_0_g16_1
   have NN_q16_8_L : ∀ k, OB (some ⟨g16_1, 0, none⟩) k → ¬ OB A k := fun k h h2 => by have h := ob_blk.1 h; subst h; exact Nb_L_g16_1 h2
   have NN_L_q16_8 : ∀ k, OB A k → ¬ OB (some ⟨g16_1, 0, none⟩) k := fun k h h2 => NN_q16_8_L k h2 h
   refine (Rv.s_appendV (s := 4) (xs := []) p18_16_8 hE wn_none rfl Tryd.underlying22 eD61 (by decide) rfl O_q16_8 rfl (Rv.rdv_take O_L (by omega)) (by omega) (by omega) K_0.kept.1 ?_ hcA.2)
   clear hE a; intro A16_8 c16_8 w62 O_q16_8' hk hat a hE
   have Nb_q16_8_gd' := grow_n Nb_q16_8_gd (blk_lt B_gd) hat
   have Nb_q16_8_gb' := grow_n Nb_q16_8_gb (blk_lt B_gb) hat
   have NN_L_q16_8' : ∀ k, OB A k → ¬ OB A16_8 k := fun k h h2 => (hat k h2).elim (NN_L_q16_8 k h) (fun h3 => by have := (Rv.rdv_ob O_L h).2; omega)
   have Z_0_q16_8' := grow_z Z_0_q16_8 K_0.kept.1 hat
   replace B_gd := kp_blk B_gd hk Nb_q16_8_gd
   replace B_gb := kp_blk B_gb hk Nb_q16_8_gb
   replace O_L := Rv.rdv_keep O_L hk NN_L_q16_8
   replace K_0 := K_0.then_ hk Z_0_q16_8
   replace Nb_q16_8_gd := Nb_q16_8_gd'
   replace Nb_q16_8_gb := Nb_q16_8_gb'
   replace NN_L_q16_8 := NN_L_q16_8'
   replace NN_q16_8_L : ∀ k, OB A16_8 k → ¬ OB A k := fun k h h2 => NN_L_q16_8 k h2 h
   replace Z_0_q16_8 := Z_0_q16_8'
   replace O_q16_8 := O_q16_8'
   try clear O_q16_8'
   clear hk hat
   refine ⟨⟨B_gb, trivial⟩, ?_⟩
   exact dr16_19 A16_8 c16_8 g16_1 _ a (En.sub hE ⟨rfl, rfl, rfl, rfl, rfl, rfl, rfl, rfl, rfl, rfl, rfl, rfl, rfl, rfl, rfl, rfl, rfl, rfl, rfl, trivial⟩) B_gd B_gb n_gb_gd NN_L_q16_8 Nb_q16_8_gd Nb_q16_8_gb Z_0_q16_8 NN_q16_8_L O_L O_q16_8 K_0
  refine all_cons (d_lit (listed' := #[true, true, true, true, true, true, true, true, false, true, true, false, true, true, true, true, true, true, false, false, false, false]) rfl ?_) ?_
  ·
   refine (s_row (xs := [(0, Operand.tmp 106)]) (vs := [(0, Value.agg #[Value.int .i64 r.1, Value.int .i64 r.2.1, Value.int .i64 r.2.2.1, Value.int .i64 r.2.2.2])]) (cs := #[Value.int .i64 r.1, Value.int .i64 r.2.1, Value.int .i64 r.2.2.1, Value.int .i64 r.2.2.2]) p18_16_10 hE wn_none rfl Tryd.underlying22 rfl (by kernel_rfl) ?_)
   clear hE a; intro g16_10 w63 z64 B_g16_10 hk a hE
   have n_gd_g16_10 : gd ≠ g16_10 := ne_new B_gd z64
   have n_gb_g16_10 : gb ≠ g16_10 := ne_new B_gb z64
   have n_g16_1_g16_10 : g16_1 ≠ g16_10 := ne_new B_g16_1 z64
   have z_0_g16_10 := Nat.le_trans K_0.kept.1 z64
   have Nb_L_g16_10 : ¬ OB A g16_10 := fun h => by have := (Rv.rdv_ob O_L h).2; omega
   replace B_gd := kp_blk B_gd hk (fun h => h)
   replace B_gb := kp_blk B_gb hk (fun h => h)
   replace B_g16_1 := kp_blk B_g16_1 hk (fun h => h)
   replace O_L := Rv.rdv_keep O_L hk (fun _ _ h => h)
   replace K_0 := K_0.then_ hk (fun _ h => h.elim)
   clear hk
   refine ⟨⟨B_gb, trivial⟩, ?_⟩
   have n_g16_10_gb := Ne.symm n_gb_g16_10
   have n_g16_10_gd := Ne.symm n_gd_g16_10
   exact dr16_18 g16_1 g16_10 _ a (En.sub hE ⟨rfl, rfl, rfl, rfl, rfl, rfl, rfl, rfl, rfl, rfl, rfl, rfl, rfl, rfl, rfl, rfl, rfl, rfl, rfl, trivial⟩) B_gd B_gb B_g16_1 B_g16_10 n_g16_1_g16_10 n_g16_1_gb n_g16_1_gd n_g16_10_gb n_g16_10_gd n_gb_gd z_0_g16_1 z_0_g16_10 Nb_L_g16_1 Nb_L_g16_10 O_L K_0
  exact all_nil
 have dr16_14 : ∀ (g16_10 : Nat) (W : World) (a : Act), En 118 a [(0, Value.pointer (some ⟨gd, 0, none⟩)), (3, Value.pointer (some ⟨gb, 0, none⟩)), (8, Value.int .i64 (i : Int)), (97, Value.pointer (some ⟨gd, 0, none⟩)), (99, Value.pointer (some ⟨gd, 0, none⟩)), (100, Value.pointer (some ⟨gd, 0, none⟩)), (101, Value.pointer (some ⟨gd, 1, none⟩)), (102, Value.slice A L.length c), (103, Value.int .i64 (i : Int)), (104, Value.slice A i c), (106, Value.agg #[Value.int .i64 r.1, Value.int .i64 r.2.1, Value.int .i64 r.2.2.1, Value.int .i64 r.2.2.2]), (107, Value.slice (some ⟨g16_10, 0, none⟩) 1 1), (109, Value.pointer (some ⟨gd, 0, none⟩)), (110, Value.pointer (some ⟨gd, 0, none⟩)), (111, Value.pointer (some ⟨gd, 1, none⟩)), (112, Value.slice A L.length c), (113, Value.int .i64 (i : Int)), (114, Value.slice AD (L.length - i) (c - i))] → W.heap[gd]? = some (.cells #[Value.int .i64 32, Value.slice A L.length c] 56 (0, 0)) → W.heap[gb]? = some (.cells #[Value.int .i64 r.1, Value.int .i64 r.2.1, Value.int .i64 r.2.2.1, Value.int .i64 r.2.2.2] 61 (0, 0)) → W.heap[g16_10]? = some (.cells #[Value.int .i64 r.1, Value.int .i64 r.2.1, Value.int .i64 r.2.2.1, Value.int .i64 r.2.2.2] 61 (0, 0)) → g16_10 ≠ gb → g16_10 ≠ gd → gb ≠ gd → w.heap.size ≤ g16_10 → ¬ OB A g16_10 → Rv.RdV W A L.length 4 (flR L) → Kp w W (fun k => k = gd) → wpAnyH Tryd.prog .any (regOf Tryd.f18 16) QQ (fun W => W.heap[gb]? = some (.cells #[Value.int .i64 r.1, Value.int .i64 r.2.1, Value.int .i64 r.2.2.1, Value.int .i64 r.2.2.2] 61 (0, 0)) ∧ True) 7 #[true, false, true, true, true, true, true, true, false, true, true, false, true, true, true, true, true, true, false, false, false, false] a W := by
  intro g16_10 w65 a hE B_gd B_gb B_g16_10 n_g16_10_gb n_g16_10_gd n_gb_gd z_0_g16_10 Nb_L_g16_10 O_L K_0
  refine d_all (rs := [1]) (by kernel_rfl) rfl ?_
  refine all_cons (d_lit (listed' := #[true, true, true, true, true, true, true, true, false, true, true, false, true, true, true, true, true, true, false, false, false, false]) rfl ?_) ?_
  ·
   refine (s_row (xs := []) (vs := []) (cs := #[]) p18_16_1 hE wn_none rfl Tryd.underlying22 rfl (by kernel_rfl) ?_)
   clear hE a; intro g16_1 w66 z67 B_g16_1 hk a hE
   have n_gd_g16_1 : gd ≠ g16_1 := ne_new B_gd z67
   have n_gb_g16_1 : gb ≠ g16_1 := ne_new B_gb z67
   have n_g16_10_g16_1 : g16_10 ≠ g16_1 := ne_new B_g16_10 z67
   have z_0_g16_1 := Nat.le_trans K_0.kept.1 z67
   have Nb_L_g16_1 : ¬ OB A g16_1 := fun h => by have := (Rv.rdv_ob O_L h).2; omega
   replace B_gd := kp_blk B_gd hk (fun h => h)
   replace B_gb := kp_blk B_gb hk (fun h => h)
   replace B_g16_10 := kp_blk B_g16_10 hk (fun h => h)
   replace O_L := Rv.rdv_keep O_L hk (fun _ _ h => h)
   replace K_0 := K_0.then_ hk (fun _ h => h.elim)
   clear hk
   refine ⟨⟨B_gb, trivial⟩, ?_⟩
   have n_g16_1_g16_10 := Ne.symm n_g16_10_g16_1
   have n_g16_1_gb := Ne.symm n_gb_g16_1
   have n_g16_1_gd := Ne.symm n_gd_g16_1
   exact dr16_18 g16_1 g16_10 _ a (En.sub hE ⟨rfl, rfl, rfl, rfl, rfl, rfl, rfl, rfl, rfl, rfl, rfl, rfl, rfl, rfl, rfl, rfl, rfl, rfl, rfl, trivial⟩) B_gd B_gb B_g16_1 B_g16_10 n_g16_1_g16_10 n_g16_1_gb n_g16_1_gd n_g16_10_gb n_g16_10_gd n_gb_gd z_0_g16_1 z_0_g16_10 Nb_L_g16_1 Nb_L_g16_10 O_L K_0
  exact all_nil
 have dr16_13 : ∀ (W : World) (a : Act), En 118 a [(0, Value.pointer (some ⟨gd, 0, none⟩)), (3, Value.pointer (some ⟨gb, 0, none⟩)), (8, Value.int .i64 (i : Int)), (97, Value.pointer (some ⟨gd, 0, none⟩)), (99, Value.pointer (some ⟨gd, 0, none⟩)), (100, Value.pointer (some ⟨gd, 0, none⟩)), (101, Value.pointer (some ⟨gd, 1, none⟩)), (102, Value.slice A L.length c), (103, Value.int .i64 (i : Int)), (104, Value.slice A i c), (106, Value.agg #[Value.int .i64 r.1, Value.int .i64 r.2.1, Value.int .i64 r.2.2.1, Value.int .i64 r.2.2.2]), (109, Value.pointer (some ⟨gd, 0, none⟩)), (110, Value.pointer (some ⟨gd, 0, none⟩)), (111, Value.pointer (some ⟨gd, 1, none⟩)), (112, Value.slice A L.length c), (113, Value.int .i64 (i : Int)), (114, Value.slice AD (L.length - i) (c - i))] → W.heap[gd]? = some (.cells #[Value.int .i64 32, Value.slice A L.length c] 56 (0, 0)) → W.heap[gb]? = some (.cells #[Value.int .i64 r.1, Value.int .i64 r.2.1, Value.int .i64 r.2.2.1, Value.int .i64 r.2.2.2] 61 (0, 0)) → gb ≠ gd → Rv.RdV W A L.length 4 (flR L) → Kp w W (fun k => k = gd) → wpAnyH Tryd.prog .any (regOf Tryd.f18 16) QQ (fun W => W.heap[gb]? = some (.cells #[Value.int .i64 r.1, Value.int .i64 r.2.1, Value.int .i64 r.2.2.1, Value.int .i64 r.2.2.2] 61 (0, 0)) ∧ True) 8 #[true, false, true, true, true, true, true, true, false, true, false, false, true, true, true, true, true, true, false, false, false, false] a W := by
  intro w68 a hE B_gd B_gb n_gb_gd O_L K_0
  refine d_all (rs := [1, 10]) (by kernel_rfl) rfl ?_
  refine all_cons (d_lit (listed' := #[true, true, true, true, true, true, true, true, false, true, false, false, true, true, true, true, true, true, false, false, false, false]) rfl ?_) ?_
  ·
   refine (s_row (xs := []) (vs := []) (cs := #[]) p18_16_1 hE wn_none rfl Tryd.underlying22 rfl (by kernel_rfl) ?_)
   clear hE a; intro g16_1 w69 z70 B_g16_1 hk a hE
   have n_gd_g16_1 : gd ≠ g16_1 := ne_new B_gd z70
   have n_gb_g16_1 : gb ≠ g16_1 := ne_new B_gb z70
   have z_0_g16_1 := Nat.le_trans K_0.kept.1 z70
   have Nb_L_g16_1 : ¬ OB A g16_1 := fun h => by have := (Rv.rdv_ob O_L h).2; omega
   replace B_gd := kp_blk B_gd hk (fun h => h)
   replace B_gb := kp_blk B_gb hk (fun h => h)
   replace O_L := Rv.rdv_keep O_L hk (fun _ _ h => h)
   replace K_0 := K_0.then_ hk (fun _ h => h.elim)
   clear hk
   refine ⟨⟨B_gb, trivial⟩, ?_⟩
   have n_g16_1_gb := Ne.symm n_gb_g16_1
   have n_g16_1_gd := Ne.symm n_gd_g16_1
   exact dr16_15 g16_1 _ a (En.sub hE ⟨rfl, rfl, rfl, rfl, rfl, rfl, rfl, rfl, rfl, rfl, rfl, rfl, rfl, rfl, rfl, rfl, rfl, rfl, trivial⟩) B_gd B_gb B_g16_1 n_g16_1_gb n_g16_1_gd n_gb_gd z_0_g16_1 Nb_L_g16_1 O_L K_0
  refine all_cons (d_lit (listed' := #[true, false, true, true, true, true, true, true, false, true, true, false, true, true, true, true, true, true, false, false, false, false]) rfl ?_) ?_
  ·
   refine (s_row (xs := [(0, Operand.tmp 106)]) (vs := [(0, Value.agg #[Value.int .i64 r.1, Value.int .i64 r.2.1, Value.int .i64 r.2.2.1, Value.int .i64 r.2.2.2])]) (cs := #[Value.int .i64 r.1, Value.int .i64 r.2.1, Value.int .i64 r.2.2.1, Value.int .i64 r.2.2.2]) p18_16_10 hE wn_none rfl Tryd.underlying22 rfl (by kernel_rfl) ?_)
   clear hE a; intro g16_10 w71 z72 B_g16_10 hk a hE
   have n_gd_g16_10 : gd ≠ g16_10 := ne_new B_gd z72
   have n_gb_g16_10 : gb ≠ g16_10 := ne_new B_gb z72
   have z_0_g16_10 := Nat.le_trans K_0.kept.1 z72
   have Nb_L_g16_10 : ¬ OB A g16_10 := fun h => by have := (Rv.rdv_ob O_L h).2; omega
   replace B_gd := kp_blk B_gd hk (fun h => h)
   replace B_gb := kp_blk B_gb hk (fun h => h)
   replace O_L := Rv.rdv_keep O_L hk (fun _ _ h => h)
   replace K_0 := K_0.then_ hk (fun _ h => h.elim)
   clear hk
   refine ⟨⟨B_gb, trivial⟩, ?_⟩
   have n_g16_10_gb := Ne.symm n_gb_g16_10
   have n_g16_10_gd := Ne.symm n_gd_g16_10
   exact dr16_14 g16_10 _ a (En.sub hE ⟨rfl, rfl, rfl, rfl, rfl, rfl, rfl, rfl, rfl, rfl, rfl, rfl, rfl, rfl, rfl, rfl, rfl, rfl, trivial⟩) B_gd B_gb B_g16_10 n_g16_10_gb n_g16_10_gd n_gb_gd z_0_g16_10 Nb_L_g16_10 O_L K_0
  exact all_nil
 have dr16_12 : ∀ (g16_1 : Nat) (g16_10 : Nat) (W : World) (a : Act), En 118 a [(0, Value.pointer (some ⟨gd, 0, none⟩)), (3, Value.pointer (some ⟨gb, 0, none⟩)), (8, Value.int .i64 (i : Int)), (97, Value.pointer (some ⟨gd, 0, none⟩)), (98, Value.slice (some ⟨g16_1, 0, none⟩) 0 0), (99, Value.pointer (some ⟨gd, 0, none⟩)), (100, Value.pointer (some ⟨gd, 0, none⟩)), (101, Value.pointer (some ⟨gd, 1, none⟩)), (102, Value.slice A L.length c), (103, Value.int .i64 (i : Int)), (104, Value.slice A i c), (106, Value.agg #[Value.int .i64 r.1, Value.int .i64 r.2.1, Value.int .i64 r.2.2.1, Value.int .i64 r.2.2.2]), (107, Value.slice (some ⟨g16_10, 0, none⟩) 1 1), (109, Value.pointer (some ⟨gd, 0, none⟩)), (110, Value.pointer (some ⟨gd, 0, none⟩)), (111, Value.pointer (some ⟨gd, 1, none⟩)), (113, Value.int .i64 (i : Int))] → W.heap[gd]? = some (.cells #[Value.int .i64 32, Value.slice A L.length c] 56 (0, 0)) → W.heap[gb]? = some (.cells #[Value.int .i64 r.1, Value.int .i64 r.2.1, Value.int .i64 r.2.2.1, Value.int .i64 r.2.2.2] 61 (0, 0)) → W.heap[g16_1]? = some (.cells #[] 61 (0, 0)) → W.heap[g16_10]? = some (.cells #[Value.int .i64 r.1, Value.int .i64 r.2.1, Value.int .i64 r.2.2.1, Value.int .i64 r.2.2.2] 61 (0, 0)) → g16_1 ≠ g16_10 → g16_1 ≠ gb → g16_1 ≠ gd → g16_10 ≠ gb → g16_10 ≠ gd → gb ≠ gd → w.heap.size ≤ g16_1 → w.heap.size ≤ g16_10 → ¬ OB A g16_1 → ¬ OB A g16_10 → Rv.RdV W A L.length 4 (flR L) → Kp w W (fun k => k = gd) → wpAnyH Tryd.prog .any (regOf Tryd.f18 16) QQ (fun W => W.heap[gb]? = some (.cells #[Value.int .i64 r.1, Value.int .i64 r.2.1, Value.int .i64 r.2.2.1, Value.int .i64 r.2.2.2] 61 (0, 0)) ∧ True) 8 #[true, true, true, true, true, true, true, true, false, true, true, false, true, true, true, false, true, false, false, false, false, false] a W := by
  intro g16_1 g16_10 w73 a hE B_gd B_gb B_g16_1 B_g16_10 n_g16_1_g16_10 n_g16_1_gb n_g16_1_gd n_g16_10_gb n_g16_10_gd n_gb_gd z_0_g16_1 z_0_g16_10 Nb_L_g16_1 Nb_L_g16_10 O_L K_0
  refine d_all (rs := [8, 15]) (by kernel_rfl) rfl ?_
  refine all_cons (d_lit (listed' := #[true, true, true, true, true, true, true, true, true, true, true, false, true, true, true, false, true, false, false, false, false, false]) rfl ?_) ?_
  ·
   have O_q16_8 := own_blk0 (s := 4) B_g16_1 (show w.heap.size ≤ g16_1 from z_0_g16_1)
   have Nb_q16_8_gd : ¬ OB (some ⟨g16_1, 0, none⟩) gd := fun h => by have h := ob_blk.1 h; exact n_g16_1_gd h
   have Nb_q16_8_gb : ¬ OB (some ⟨g16_1, 0, none⟩) gb := fun h => by have h := ob_blk.1 h; exact n_g16_1_gb h
   have Nb_q16_8_g16_10 : ¬ OB (some ⟨g16_1, 0, none⟩) g16_10 := fun h => by have h := ob_blk.1 h; exact n_g16_1_g16_10 h
   have Z_0_q16_8 : ∀ k, OB (some ⟨g16_1, 0, none⟩) k → (fun k => k = gd) k ∨ w.heap.size ≤ k := fun k h => by have h := ob_blk.1 h; subst h; exact Or.inr z_0_g16_1
   have NN_q16_8_L : ∀ k, OB (some ⟨g16_1, 0, none⟩) k → ¬ OB A k := fun k h h2 => by have h := ob_blk.1 h; subst h; exact Nb_L_g16_1 h2
   have NN_L_q16_8 : ∀ k, OB A k → ¬ OB (some ⟨g16_1, 0, none⟩) k := fun k h h2 => NN_q16_8_L k h2 h
   refine (Rv.s_appendV (s := 4) (xs := []) p18_16_8 hE wn_none rfl Tryd.underlying22 eD61 (by decide) rfl O_q16_8 rfl (Rv.rdv_take O_L (by omega)) (by omega) (by omega) K_0.kept.1 ?_ hcA.2)
   clear hE a; intro A16_8 c16_8 w74 O_q16_8' hk hat a hE
   have Nb_q16_8_gd' := grow_n Nb_q16_8_gd (blk_lt B_gd) hat
   have Nb_q16_8_gb' := grow_n Nb_q16_8_gb (blk_lt B_gb) hat
   have Nb_q16_8_g16_10' := grow_n Nb_q16_8_g16_10 (blk_lt B_g16_10) hat
   have NN_L_q16_8' : ∀ k, OB A k → ¬ OB A16_8 k := fun k h h2 => (hat k h2).elim (NN_L_q16_8 k h) (fun h3 => by have := (Rv.rdv_ob O_L h).2; omega)
   have Z_0_q16_8' := grow_z Z_0_q16_8 K_0.kept.1 hat
   replace B_gd := kp_blk B_gd hk Nb_q16_8_gd
   replace B_gb := kp_blk B_gb hk Nb_q16_8_gb
   replace B_g16_10 := kp_blk B_g16_10 hk Nb_q16_8_g16_10
   replace O_L := Rv.rdv_keep O_L hk NN_L_q16_8
   replace K_0 := K_0.then_ hk Z_0_q16_8
   replace Nb_q16_8_gd := Nb_q16_8_gd'
   replace Nb_q16_8_gb := Nb_q16_8_gb'
   replace Nb_q16_8_g16_10 := Nb_q16_8_g16_10'
   replace NN_L_q16_8 := NN_L_q16_8'
   replace NN_q16_8_L : ∀ k, OB A16_8 k → ¬ OB A k := fun k h h2 => NN_L_q16_8 k h2 h
   replace Z_0_q16_8 := Z_0_q16_8'
   replace O_q16_8 := O_q16_8'
   try clear O_q16_8'
   clear hk hat
   refine ⟨⟨B_gb, trivial⟩, ?_⟩
   exact dr16_16 A16_8 c16_8 g16_1 g16_10 _ a (En.sub hE ⟨rfl, rfl, rfl, rfl, rfl, rfl, rfl, rfl, rfl, rfl, rfl, rfl, rfl, rfl, rfl, rfl, rfl, rfl, trivial⟩) B_gd B_gb B_g16_10 n_g16_10_gb n_g16_10_gd n_gb_gd z_0_g16_10 Nb_L_g16_10 NN_L_q16_8 Nb_q16_8_gd Nb_q16_8_gb Nb_q16_8_g16_10 Z_0_q16_8 NN_q16_8_L O_L O_q16_8 K_0
  refine all_cons (d_lit (listed' := #[true, true, true, true, true, true, true, true, false, true, true, false, true, true, true, true, true, false, false, false, false, false]) rfl ?_) ?_
  ·
   refine (s_still p18_16_15 hE wn_none rfl (st_load1 tA22 rfl ((blk_cell B_gd 1).trans rfl)) ?_); clear hE a; intro a hE
   refine ⟨⟨B_gb, trivial⟩, ?_⟩
   refine Rv.dq (listed' := #[true, true, true, true, true, true, true, true, false, true, true, false, true, true, true, true, true, true, false, false, false, false]) (v := Value.slice AD (L.length - i) (c - i)) p18_16_17 ns18_16 hE wn_none ⟨B_gb, trivial⟩ (fun W hS => (st_sliceL (lo := i) (A' := AD) Tryd.underlying22 tS61 rfl rfl (by omega) rfl rfl hAD)) ?_ (fun c a w h => hQ c a _ _ w h); clear hE a; intro a hE
   exact dr16_18 g16_1 g16_10 _ a (En.sub hE ⟨rfl, rfl, rfl, rfl, rfl, rfl, rfl, rfl, rfl, rfl, rfl, rfl, rfl, rfl, rfl, rfl, rfl, rfl, rfl, trivial⟩) B_gd B_gb B_g16_1 B_g16_10 n_g16_1_g16_10 n_g16_1_gb n_g16_1_gd n_g16_10_gb n_g16_10_gd n_gb_gd z_0_g16_1 z_0_g16_10 Nb_L_g16_1 Nb_L_g16_10 O_L K_0
  exact all_nil
 have dr16_11 : ∀ (g16_1 : Nat) (g16_10 : Nat) (W : World) (a : Act), En 118 a [(0, Value.pointer (some ⟨gd, 0, none⟩)), (3, Value.pointer (some ⟨gb, 0, none⟩)), (8, Value.int .i64 (i : Int)), (97, Value.pointer (some ⟨gd, 0, none⟩)), (98, Value.slice (some ⟨g16_1, 0, none⟩) 0 0), (99, Value.pointer (some ⟨gd, 0, none⟩)), (100, Value.pointer (some ⟨gd, 0, none⟩)), (101, Value.pointer (some ⟨gd, 1, none⟩)), (103, Value.int .i64 (i : Int)), (106, Value.agg #[Value.int .i64 r.1, Value.int .i64 r.2.1, Value.int .i64 r.2.2.1, Value.int .i64 r.2.2.2]), (107, Value.slice (some ⟨g16_10, 0, none⟩) 1 1), (109, Value.pointer (some ⟨gd, 0, none⟩)), (110, Value.pointer (some ⟨gd, 0, none⟩)), (111, Value.pointer (some ⟨gd, 1, none⟩)), (112, Value.slice A L.length c), (113, Value.int .i64 (i : Int)), (114, Value.slice AD (L.length - i) (c - i))] → W.heap[gd]? = some (.cells #[Value.int .i64 32, Value.slice A L.length c] 56 (0, 0)) → W.heap[gb]? = some (.cells #[Value.int .i64 r.1, Value.int .i64 r.2.1, Value.int .i64 r.2.2.1, Value.int .i64 r.2.2.2] 61 (0, 0)) → W.heap[g16_1]? = some (.cells #[] 61 (0, 0)) → W.heap[g16_10]? = some (.cells #[Value.int .i64 r.1, Value.int .i64 r.2.1, Value.int .i64 r.2.2.1, Value.int .i64 r.2.2.2] 61 (0, 0)) → g16_1 ≠ g16_10 → g16_1 ≠ gb → g16_1 ≠ gd → g16_10 ≠ gb → g16_10 ≠ gd → gb ≠ gd → w.heap.size ≤ g16_1 → w.heap.size ≤ g16_10 → ¬ OB A g16_1 → ¬ OB A g16_10 → Rv.RdV W A L.length 4 (flR L) → Kp w W (fun k => k = gd) → wpAnyH Tryd.prog .any (regOf Tryd.f18 16) QQ (fun W => W.heap[gb]? = some (.cells #[Value.int .i64 r.1, Value.int .i64 r.2.1, Value.int .i64 r.2.2.1, Value.int .i64 r.2.2.2] 61 (0, 0)) ∧ True) 8 #[true, true, true, true, true, false, true, false, false, true, true, false, true, true, true, true, true, true, false, false, false, false] a W := by
  intro g16_1 g16_10 w75 a hE B_gd B_gb B_g16_1 B_g16_10 n_g16_1_g16_10 n_g16_1_gb n_g16_1_gd n_g16_10_gb n_g16_10_gd n_gb_gd z_0_g16_1 z_0_g16_10 Nb_L_g16_1 Nb_L_g16_10 O_L K_0
  refine d_all (rs := [5]) (by kernel_rfl) rfl ?_
  refine all_cons (d_lit (listed' := #[true, true, true, true, true, true, true, false, false, true, true, false, true, true, true, true, true, true, false, false, false, false]) rfl ?_) ?_
  ·
   refine (s_still p18_16_5 hE wn_none rfl (st_load1 tA22 rfl ((blk_cell B_gd 1).trans rfl)) ?_); clear hE a; intro a hE
   refine ⟨⟨B_gb, trivial⟩, ?_⟩
   refine Rv.dq (listed' := #[true, true, true, true, true, true, true, true, false, true, true, false, true, true, true, true, true, true, false, false, false, false]) (v := Value.slice A i c) p18_16_7 ns18_16 hE wn_none ⟨B_gb, trivial⟩ (fun W hS => (st_sliceH (h := i) Tryd.underlying22 tS61 rfl rfl (by omega))) ?_ (fun c a w h => hQ c a _ _ w h); clear hE a; intro a hE
   exact dr16_18 g16_1 g16_10 _ a (En.sub hE ⟨rfl, rfl, rfl, rfl, rfl, rfl, rfl, rfl, rfl, rfl, rfl, rfl, rfl, rfl, rfl, rfl, rfl, rfl, rfl, trivial⟩) B_gd B_gb B_g16_1 B_g16_10 n_g16_1_g16_10 n_g16_1_gb n_g16_1_gd n_g16_10_gb n_g16_10_gd n_gb_gd z_0_g16_1 z_0_g16_10 Nb_L_g16_1 Nb_L_g16_10 O_L K_0
  exact all_nil
 have dr16_10 : ∀ (A16_8 : Option Addr) (c16_8 : Nat) (g16_1 : Nat) (W : World) (a : Act), En 118 a [(0, Value.pointer (some ⟨gd, 0, none⟩)), (3, Value.pointer (some ⟨gb, 0, none⟩)), (8, Value.int .i64 (i : Int)), (97, Value.pointer (some ⟨gd, 0, none⟩)), (98, Value.slice (some ⟨g16_1, 0, none⟩) 0 0), (99, Value.pointer (some ⟨gd, 0, none⟩)), (100, Value.pointer (some ⟨gd, 0, none⟩)), (101, Value.pointer (some ⟨gd, 1, none⟩)), (102, Value.slice A L.length c), (103, Value.int .i64 (i : Int)), (104, Value.slice A i c), (105, Value.slice A16_8 (0 + i) c16_8), (106, Value.agg #[Value.int .i64 r.1, Value.int .i64 r.2.1, Value.int .i64 r.2.2.1, Value.int .i64 r.2.2.2]), (109, Value.pointer (some ⟨gd, 0, none⟩)), (110, Value.pointer (some ⟨gd, 0, none⟩)), (111, Value.pointer (some ⟨gd, 1, none⟩)), (113, Value.int .i64 (i : Int))] → W.heap[gd]? = some (.cells #[Value.int .i64 32, Value.slice A L.length c] 56 (0, 0)) → W.heap[gb]? = some (.cells #[Value.int .i64 r.1, Value.int .i64 r.2.1, Value.int .i64 r.2.2.1, Value.int .i64 r.2.2.2] 61 (0, 0)) → gb ≠ gd → (∀ k, OB A k → ¬ OB A16_8 k) → ¬ OB A16_8 gd → ¬ OB A16_8 gb → (∀ k, OB A16_8 k → (fun k => k = gd) k ∨ w.heap.size ≤ k) → (∀ k, OB A16_8 k → ¬ OB A k) → Rv.RdV W A L.length 4 (flR L) → W.ownsRow w.heap.size 61 4 (.slice A16_8 (0 + i) c16_8) (0 + i) ([] ++ ((flR L).take (i * 4))) → Kp w W (fun k => k = gd) → wpAnyH Tryd.prog .any (regOf Tryd.f18 16) QQ (fun W => W.heap[gb]? = some (.cells #[Value.int .i64 r.1, Value.int .i64 r.2.1, Value.int .i64 r.2.2.1, Value.int .i64 r.2.2.2] 61 (0, 0)) ∧ True) 8 #[true, true, true, true, true, true, true, true, true, true, false, false, true, true, true, false, true, false, false, false, false, false] a W := by
  intro A16_8 c16_8 g16_1 w76 a hE B_gd B_gb n_gb_gd NN_L_q16_8 Nb_q16_8_gd Nb_q16_8_gb Z_0_q16_8 NN_q16_8_L O_L O_q16_8 K_0
  refine d_all (rs := [10, 15]) (by kernel_rfl) rfl ?_
  refine all_cons (d_lit (listed' := #[true, true, true, true, true, true, true, true, true, true, true, false, true, true, true, false, true, false, false, false, false, false]) rfl ?_) ?_
  ·
   refine (s_row (xs := [(0, Operand.tmp 106)]) (vs := [(0, Value.agg #[Value.int .i64 r.1, Value.int .i64 r.2.1, Value.int .i64 r.2.2.1, Value.int .i64 r.2.2.2])]) (cs := #[Value.int .i64 r.1, Value.int .i64 r.2.1, Value.int .i64 r.2.2.1, Value.int .i64 r.2.2.2]) p18_16_10 hE wn_none rfl Tryd.underlying22 rfl (by kernel_rfl) ?_)
   clear hE a; intro g16_10 w77 z78 B_g16_10 hk a hE
   have n_gd_g16_10 : gd ≠ g16_10 := ne_new B_gd z78
   have n_gb_g16_10 : gb ≠ g16_10 := ne_new B_gb z78
   have z_0_g16_10 := Nat.le_trans K_0.kept.1 z78
   have Nb_L_g16_10 : ¬ OB A g16_10 := fun h => by have := (Rv.rdv_ob O_L h).2; omega
   have Nb_q16_8_g16_10 : ¬ OB A16_8 g16_10 := fun h => by have := (own_ob O_q16_8 h).2; omega
   replace B_gd := kp_blk B_gd hk (fun h => h)
   replace B_gb := kp_blk B_gb hk (fun h => h)
   replace O_L := Rv.rdv_keep O_L hk (fun _ _ h => h)
   replace O_q16_8 := own_keep O_q16_8 hk (fun _ _ h => h)
   replace K_0 := K_0.then_ hk (fun _ h => h.elim)
   clear hk
   refine ⟨⟨B_gb, trivial⟩, ?_⟩
   have n_g16_10_gb := Ne.symm n_gb_g16_10
   have n_g16_10_gd := Ne.symm n_gd_g16_10
   exact dr16_16 A16_8 c16_8 g16_1 g16_10 _ a (En.sub hE ⟨rfl, rfl, rfl, rfl, rfl, rfl, rfl, rfl, rfl, rfl, rfl, rfl, rfl, rfl, rfl, rfl, rfl, rfl, trivial⟩) B_gd B_gb B_g16_10 n_g16_10_gb n_g16_10_gd n_gb_gd z_0_g16_10 Nb_L_g16_10 NN_L_q16_8 Nb_q16_8_gd Nb_q16_8_gb Nb_q16_8_g16_10 Z_0_q16_8 NN_q16_8_L O_L O_q16_8 K_0
  refine all_cons (d_lit (listed' := #[true, true, true, true, true, true, true, true, true, true, false, false, true, true, true, true, true, false, false, false, false, false]) rfl ?_) ?_
  ·
   refine (s_still p18_16_15 hE wn_none rfl (st_load1 tA22 rfl ((blk_cell B_gd 1).trans rfl)) ?_); clear hE a; intro a hE
   refine ⟨⟨B_gb, trivial⟩, ?_⟩
   refine Rv.dq (listed' := #[true, true, true, true, true, true, true, true, true, true, false, false, true, true, true, true, true, true, false, false, false, false]) (v := Value.slice AD (L.length - i) (c - i)) p18_16_17 ns18_16 hE wn_none ⟨B_gb, trivial⟩ (fun W hS => (st_sliceL (lo := i) (A' := AD) Tryd.underlying22 tS61 rfl rfl (by omega) rfl rfl hAD)) ?_ (fun c a w h => hQ c a _ _ w h); clear hE a; intro a hE
   exact dr16_19 A16_8 c16_8 g16_1 _ a (En.sub hE ⟨rfl, rfl, rfl, rfl, rfl, rfl, rfl, rfl, rfl, rfl, rfl, rfl, rfl, rfl, rfl, rfl, rfl, rfl, rfl, trivial⟩) B_gd B_gb n_gb_gd NN_L_q16_8 Nb_q16_8_gd Nb_q16_8_gb Z_0_q16_8 NN_q16_8_L O_L O_q16_8 K_0
  exact all_nil
 have dr16_9 : ∀ (g16_10 : Nat) (W : World) (a : Act), En 118 a [(0, Value.pointer (some ⟨gd, 0, none⟩)), (3, Value.pointer (some ⟨gb, 0, none⟩)), (8, Value.int .i64 (i : Int)), (97, Value.pointer (some ⟨gd, 0, none⟩)), (99, Value.pointer (some ⟨gd, 0, none⟩)), (100, Value.pointer (some ⟨gd, 0, none⟩)), (101, Value.pointer (some ⟨gd, 1, none⟩)), (102, Value.slice A L.length c), (103, Value.int .i64 (i : Int)), (104, Value.slice A i c), (106, Value.agg #[Value.int .i64 r.1, Value.int .i64 r.2.1, Value.int .i64 r.2.2.1, Value.int .i64 r.2.2.2]), (107, Value.slice (some ⟨g16_10, 0, none⟩) 1 1), (109, Value.pointer (some ⟨gd, 0, none⟩)), (110, Value.pointer (some ⟨gd, 0, none⟩)), (111, Value.pointer (some ⟨gd, 1, none⟩)), (113, Value.int .i64 (i : Int))] → W.heap[gd]? = some (.cells #[Value.int .i64 32, Value.slice A L.length c] 56 (0, 0)) → W.heap[gb]? = some (.cells #[Value.int .i64 r.1, Value.int .i64 r.2.1, Value.int .i64 r.2.2.1, Value.int .i64 r.2.2.2] 61 (0, 0)) → W.heap[g16_10]? = some (.cells #[Value.int .i64 r.1, Value.int .i64 r.2.1, Value.int .i64 r.2.2.1, Value.int .i64 r.2.2.2] 61 (0, 0)) → g16_10 ≠ gb → g16_10 ≠ gd → gb ≠ gd → w.heap.size ≤ g16_10 → ¬ OB A g16_10 → Rv.RdV W A L.length 4 (flR L) → Kp w W (fun k => k = gd) → wpAnyH Tryd.prog .any (regOf Tryd.f18 16) QQ (fun W => W.heap[gb]? = some (.cells #[Value.int .i64 r.1, Value.int .i64 r.2.1, Value.int .i64 r.2.2.1, Value.int .i64 r.2.2.2] 61 (0, 0)) ∧ True) 9 #[true, false, true, true, true, true, true, true, false, true, true, false, true, true, true, false, true, false, false, false, false, false] a W := by
  intro g16_10 w79 a hE B_gd B_gb B_g16_10 n_g16_10_gb n_g16_10_gd n_gb_gd z_0_g16_10 Nb_L_g16_10 O_L K_0
  refine d_all (rs := [1, 15]) (by kernel_rfl) rfl ?_
  refine all_cons (d_lit (listed' := #[true, true, true, true, true, true, true, true, false, true, true, false, true, true, true, false, true, false, false, false, false, false]) rfl ?_) ?_
  ·
   refine (s_row (xs := []) (vs := []) (cs := #[]) p18_16_1 hE wn_none rfl Tryd.underlying22 rfl (by kernel_rfl) ?_)
   clear hE a; intro g16_1 w80 z81 B_g16_1 hk a hE
   have n_gd_g16_1 : gd ≠ g16_1 := ne_new B_gd z81
   have n_gb_g16_1 : gb ≠ g16_1 := ne_new B_gb z81
   have n_g16_10_g16_1 : g16_10 ≠ g16_1 := ne_new B_g16_10 z81
   have z_0_g16_1 := Nat.le_trans K_0.kept.1 z81
   have Nb_L_g16_1 : ¬ OB A g16_1 := fun h => by have := (Rv.rdv_ob O_L h).2; omega
   replace B_gd := kp_blk B_gd hk (fun h => h)
   replace B_gb := kp_blk B_gb hk (fun h => h)
   replace B_g16_10 := kp_blk B_g16_10 hk (fun h => h)
   replace O_L := Rv.rdv_keep O_L hk (fun _ _ h => h)
   replace K_0 := K_0.then_ hk (fun _ h => h.elim)
   clear hk
   refine ⟨⟨B_gb, trivial⟩, ?_⟩
   have n_g16_1_g16_10 := Ne.symm n_g16_10_g16_1
   have n_g16_1_gb := Ne.symm n_gb_g16_1
   have n_g16_1_gd := Ne.symm n_gd_g16_1
   exact dr16_12 g16_1 g16_10 _ a (En.sub hE ⟨rfl, rfl, rfl, rfl, rfl, rfl, rfl, rfl, rfl, rfl, rfl, rfl, rfl, rfl, rfl, rfl, rfl, trivial⟩) B_gd B_gb B_g16_1 B_g16_10 n_g16_1_g16_10 n_g16_1_gb n_g16_1_gd n_g16_10_gb n_g16_10_gd n_gb_gd z_0_g16_1 z_0_g16_10 Nb_L_g16_1 Nb_L_g16_10 O_L K_0
  refine all_cons (d_lit (listed' := #[true, false, true, true, true, true, true, true, false, true, true, false, true, true, true, true, true, false, false, false, false, false]) rfl ?_) ?_
  ·
   refine (s_still p18_16_15 hE wn_none rfl (st_load1 tA22 rfl ((blk_cell B_gd 1).trans rfl)) ?_); clear hE a; intro a hE
   refine ⟨⟨B_gb, trivial⟩, ?_⟩
   refine Rv.dq (listed' := #[true, false, true, true, true, true, true, true, false, true, true, false, true, true, true, true, true, true, false, false, false, false]) (v := Value.slice AD (L.length - i) (c - i)) p18_16_17 ns18_16 hE wn_none ⟨B_gb, trivial⟩ (fun W hS => (st_sliceL (lo := i) (A' := AD) Tryd.underlying22 tS61 rfl rfl (by omega) rfl rfl hAD)) ?_ (fun c a w h => hQ c a _ _ w h); clear hE a; intro a hE
   exact dr16_14 g16_10 _ a (En.sub hE ⟨rfl, rfl, rfl, rfl, rfl, rfl, rfl, rfl, rfl, rfl, rfl, rfl, rfl, rfl, rfl, rfl, rfl, rfl, trivial⟩) B_gd B_gb B_g16_10 n_g16_10_gb n_g16_10_gd n_gb_gd z_0_g16_10 Nb_L_g16_10 O_L K_0
  exact all_nil
 have dr16_8 : ∀ (g16_1 : Nat) (W : World) (a : Act), En 118 a [(0, Value.pointer (some ⟨gd, 0, none⟩)), (3, Value.pointer (some ⟨gb, 0, none⟩)), (8, Value.int .i64 (i : Int)), (97, Value.pointer (some ⟨gd, 0, none⟩)), (98, Value.slice (some ⟨g16_1, 0, none⟩) 0 0), (99, Value.pointer (some ⟨gd, 0, none⟩)), (100, Value.pointer (some ⟨gd, 0, none⟩)), (101, Value.pointer (some ⟨gd, 1, none⟩)), (103, Value.int .i64 (i : Int)), (106, Value.agg #[Value.int .i64 r.1, Value.int .i64 r.2.1, Value.int .i64 r.2.2.1, Value.int .i64 r.2.2.2]), (109, Value.pointer (some ⟨gd, 0, none⟩)), (110, Value.pointer (some ⟨gd, 0, none⟩)), (111, Value.pointer (some ⟨gd, 1, none⟩)), (112, Value.slice A L.length c), (113, Value.int .i64 (i : Int)), (114, Value.slice AD (L.length - i) (c - i))] → W.heap[gd]? = some (.cells #[Value.int .i64 32, Value.slice A L.length c] 56 (0, 0)) → W.heap[gb]? = some (.cells #[Value.int .i64 r.1, Value.int .i64 r.2.1, Value.int .i64 r.2.2.1, Value.int .i64 r.2.2.2] 61 (0, 0)) → W.heap[g16_1]? = some (.cells #[] 61 (0, 0)) → g16_1 ≠ gb → g16_1 ≠ gd → gb ≠ gd → w.heap.size ≤ g16_1 → ¬ OB A g16_1 → Rv.RdV W A L.length 4 (flR L) → Kp w W (fun k => k = gd) → wpAnyH Tryd.prog .any (regOf Tryd.f18 16) QQ (fun W => W.heap[gb]? = some (.cells #[Value.int .i64 r.1, Value.int .i64 r.2.1, Value.int .i64 r.2.2.1, Value.int .i64 r.2.2.2] 61 (0, 0)) ∧ True) 9 #[true, true, true, true, true, false, true, false, false, true, false, false, true, true, true, true, true, true, false, false, false, false] a W := by
  intro g16_1 w82 a hE B_gd B_gb B_g16_1 n_g16_1_gb n_g16_1_gd n_gb_gd z_0_g16_1 Nb_L_g16_1 O_L K_0
  refine d_all (rs := [5, 10]) (by kernel_rfl) rfl ?_
  refine all_cons (d_lit (listed' := #[true, true, true, true, true, true, true, false, false, true, false, false, true, true, true, true, true, true, false, false, false, false]) rfl ?_) ?_
  ·
   refine (s_still p18_16_5 hE wn_none rfl (st_load1 tA22 rfl ((blk_cell B_gd 1).trans rfl)) ?_); clear hE a; intro a hE
   refine ⟨⟨B_gb, trivial⟩, ?_⟩
   refine Rv.dq (listed' := #[true, true, true, true, true, true, true, true, false, true, false, false, true, true, true, true, true, true, false, false, false, false]) (v := Value.slice A i c) p18_16_7 ns18_16 hE wn_none ⟨B_gb, trivial⟩ (fun W hS => (st_sliceH (h := i) Tryd.underlying22 tS61 rfl rfl (by omega))) ?_ (fun c a w h => hQ c a _ _ w h); clear hE a; intro a hE
   exact dr16_15 g16_1 _ a (En.sub hE ⟨rfl, rfl, rfl, rfl, rfl, rfl, rfl, rfl, rfl, rfl, rfl, rfl, rfl, rfl, rfl, rfl, rfl, rfl, trivial⟩) B_gd B_gb B_g16_1 n_g16_1_gb n_g16_1_gd n_gb_gd z_0_g16_1 Nb_L_g16_1 O_L K_0
  refine all_cons (d_lit (listed' := #[true, true, true, true, true, false, true, false, false, true, true, false, true, true, true, true, true, true, false, false, false, false]) rfl ?_) ?_
  ·
   refine (s_row (xs := [(0, Operand.tmp 106)]) (vs := [(0, Value.agg #[Value.int .i64 r.1, Value.int .i64 r.2.1, Value.int .i64 r.2.2.1, Value.int .i64 r.2.2.2])]) (cs := #[Value.int .i64 r.1, Value.int .i64 r.2.1, Value.int .i64 r.2.2.1, Value.int .i64 r.2.2.2]) p18_16_10 hE wn_none rfl Tryd.underlying22 rfl (by kernel_rfl) ?_)
   clear hE a; intro g16_10 w83 z84 B_g16_10 hk a hE
   have n_gd_g16_10 : gd ≠ g16_10 := ne_new B_gd z84
   have n_gb_g16_10 : gb ≠ g16_10 := ne_new B_gb z84
   have n_g16_1_g16_10 : g16_1 ≠ g16_10 := ne_new B_g16_1 z84
   have z_0_g16_10 := Nat.le_trans K_0.kept.1 z84
   have Nb_L_g16_10 : ¬ OB A g16_10 := fun h => by have := (Rv.rdv_ob O_L h).2; omega
   replace B_gd := kp_blk B_gd hk (fun h => h)
   replace B_gb := kp_blk B_gb hk (fun h => h)
   replace B_g16_1 := kp_blk B_g16_1 hk (fun h => h)
   replace O_L := Rv.rdv_keep O_L hk (fun _ _ h => h)
   replace K_0 := K_0.then_ hk (fun _ h => h.elim)
   clear hk
   refine ⟨⟨B_gb, trivial⟩, ?_⟩
   have n_g16_10_gb := Ne.symm n_gb_g16_10
   have n_g16_10_gd := Ne.symm n_gd_g16_10
   exact dr16_11 g16_1 g16_10 _ a (En.sub hE ⟨rfl, rfl, rfl, rfl, rfl, rfl, rfl, rfl, rfl, rfl, rfl, rfl, rfl, rfl, rfl, rfl, rfl, trivial⟩) B_gd B_gb B_g16_1 B_g16_10 n_g16_1_g16_10 n_g16_1_gb n_g16_1_gd n_g16_10_gb n_g16_10_gd n_gb_gd z_0_g16_1 z_0_g16_10 Nb_L_g16_1 Nb_L_g16_10 O_L K_0
  exact all_nil
 have dr16_7 : ∀ (g16_10 : Nat) (W : World) (a : Act), En 118 a [(0, Value.pointer (some ⟨gd, 0, none⟩)), (3, Value.pointer (some ⟨gb, 0, none⟩)), (8, Value.int .i64 (i : Int)), (97, Value.pointer (some ⟨gd, 0, none⟩)), (99, Value.pointer (some ⟨gd, 0, none⟩)), (100, Value.pointer (some ⟨gd, 0, none⟩)), (101, Value.pointer (some ⟨gd, 1, none⟩)), (103, Value.int .i64 (i : Int)), (106, Value.agg #[Value.int .i64 r.1, Value.int .i64 r.2.1, Value.int .i64 r.2.2.1, Value.int .i64 r.2.2.2]), (107, Value.slice (some ⟨g16_10, 0, none⟩) 1 1), (109, Value.pointer (some ⟨gd, 0, none⟩)), (110, Value.pointer (some ⟨gd, 0, none⟩)), (111, Value.pointer (some ⟨gd, 1, none⟩)), (112, Value.slice A L.length c), (113, Value.int .i64 (i : Int)), (114, Value.slice AD (L.length - i) (c - i))] → W.heap[gd]? = some (.cells #[Value.int .i64 32, Value.slice A L.length c] 56 (0, 0)) → W.heap[gb]? = some (.cells #[Value.int .i64 r.1, Value.int .i64 r.2.1, Value.int .i64 r.2.2.1, Value.int .i64 r.2.2.2] 61 (0, 0)) → W.heap[g16_10]? = some (.cells #[Value.int .i64 r.1, Value.int .i64 r.2.1, Value.int .i64 r.2.2.1, Value.int .i64 r.2.2.2] 61 (0, 0)) → g16_10 ≠ gb → g16_10 ≠ gd → gb ≠ gd → w.heap.size ≤ g16_10 → ¬ OB A g16_10 → Rv.RdV W A L.length 4 (flR L) → Kp w W (fun k => k = gd) → wpAnyH Tryd.prog .any (regOf Tryd.f18 16) QQ (fun W => W.heap[gb]? = some (.cells #[Value.int .i64 r.1, Value.int .i64 r.2.1, Value.int .i64 r.2.2.1, Value.int .i64 r.2.2.2] 61 (0, 0)) ∧ True) 9 #[true, false, true, true, true, false, true, false, false, true, true, false, true, true, true, true, true, true, false, false, false, false] a W := by
  intro g16_10 w85 a hE B_gd B_gb B_g16_10 n_g16_10_gb n_g16_10_gd n_gb_gd z_0_g16_10 Nb_L_g16_10 O_L K_0
  refine d_all (rs := [1, 5]) (by kernel_rfl) rfl ?_
  refine all_cons (d_lit (listed' := #[true, true, true, true, true, false, true, false, false, true, true, false, true, true, true, true, true, true, false, false, false, false]) rfl ?_) ?_
  ·
   refine (s_row (xs := []) (vs := []) (cs := #[]) p18_16_1 hE wn_none rfl Tryd.underlying22 rfl (by kernel_rfl) ?_)
   clear hE a; intro g16_1 w86 z87 B_g16_1 hk a hE
   have n_gd_g16_1 : gd ≠ g16_1 := ne_new B_gd z87
   have n_gb_g16_1 : gb ≠ g16_1 := ne_new B_gb z87
   have n_g16_10_g16_1 : g16_10 ≠ g16_1 := ne_new B_g16_10 z87
   have z_0_g16_1 := Nat.le_trans K_0.kept.1 z87
   have Nb_L_g16_1 : ¬ OB A g16_1 := fun h => by have := (Rv.rdv_ob O_L h).2; omega
   replace B_gd := kp_blk B_gd hk (fun h => h)
   replace B_gb := kp_blk B_gb hk (fun h => h)
   replace B_g16_10 := kp_blk B_g16_10 hk (fun h => h)
   replace O_L := Rv.rdv_keep O_L hk (fun _ _ h => h)
   replace K_0 := K_0.then_ hk (fun _ h => h.elim)
   clear hk
   refine ⟨⟨B_gb, trivial⟩, ?_⟩
   have n_g16_1_g16_10 := Ne.symm n_g16_10_g16_1
   have n_g16_1_gb := Ne.symm n_gb_g16_1
   have n_g16_1_gd := Ne.symm n_gd_g16_1
   exact dr16_11 g16_1 g16_10 _ a (En.sub hE ⟨rfl, rfl, rfl, rfl, rfl, rfl, rfl, rfl, rfl, rfl, rfl, rfl, rfl, rfl, rfl, rfl, rfl, trivial⟩) B_gd B_gb B_g16_1 B_g16_10 n_g16_1_g16_10 n_g16_1_gb n_g16_1_gd n_g16_10_gb n_g16_10_gd n_gb_gd z_0_g16_1 z_0_g16_10 Nb_L_g16_1 Nb_L_g16_10 O_L K_0
  refine all_cons (d_lit (listed' := #[true, false, true, true, true, true, true, false, false, true, true, false, true, true, true, true, true, true, false, false, false, false]) rfl ?_) ?_
  ·
   refine (s_still p18_16_5 hE wn_none rfl (st_load1 tA22 rfl ((blk_cell B_gd 1).trans rfl)) ?_); clear hE a; intro a hE
   refine ⟨⟨B_gb, trivial⟩, ?_⟩
   refine Rv.dq (listed' := #[true, false, true, true, true, true, true, true, false, true, true, false, true, true, true, true, true, true, false, false, false, false]) (v := Value.slice A i c) p18_16_7 ns18_16 hE wn_none ⟨B_gb, trivial⟩ (fun W hS => (st_sliceH (h := i) Tryd.underlying22 tS61 rfl rfl (by omega))) ?_ (fun c a w h => hQ c a _ _ w h); clear hE a; intro a hE
   exact dr16_14 g16_10 _ a (En.sub hE ⟨rfl, rfl, rfl, rfl, rfl, rfl, rfl, rfl, rfl, rfl, rfl, rfl, rfl, rfl, rfl, rfl, rfl, rfl, trivial⟩) B_gd B_gb B_g16_10 n_g16_10_gb n_g16_10_gd n_gb_gd z_0_g16_10 Nb_L_g16_10 O_L K_0
  exact all_nil
 have dr16_6 : ∀ (g16_1 : Nat) (W : World) (a : Act), En 118 a [(0, Value.pointer (some ⟨gd, 0, none⟩)), (3, Value.pointer (some ⟨gb, 0, none⟩)), (8, Value.int .i64 (i : Int)), (97, Value.pointer (some ⟨gd, 0, none⟩)), (98, Value.slice (some ⟨g16_1, 0, none⟩) 0 0), (99, Value.pointer (some ⟨gd, 0, none⟩)), (100, Value.pointer (some ⟨gd, 0, none⟩)), (101, Value.pointer (some ⟨gd, 1, none⟩)), (102, Value.slice A L.length c), (103, Value.int .i64 (i : Int)), (104, Value.slice A i c), (106, Value.agg #[Value.int .i64 r.1, Value.int .i64 r.2.1, Value.int .i64 r.2.2.1, Value.int .i64 r.2.2.2]), (109, Value.pointer (some ⟨gd, 0, none⟩)), (110, Value.pointer (some ⟨gd, 0, none⟩)), (111, Value.pointer (some ⟨gd, 1, none⟩)), (113, Value.int .i64 (i : Int))] → W.heap[gd]? = some (.cells #[Value.int .i64 32, Value.slice A L.length c] 56 (0, 0)) → W.heap[gb]? = some (.cells #[Value.int .i64 r.1, Value.int .i64 r.2.1, Value.int .i64 r.2.2.1, Value.int .i64 r.2.2.2] 61 (0, 0)) → W.heap[g16_1]? = some (.cells #[] 61 (0, 0)) → g16_1 ≠ gb → g16_1 ≠ gd → gb ≠ gd → w.heap.size ≤ g16_1 → ¬ OB A g16_1 → Rv.RdV W A L.length 4 (flR L) → Kp w W (fun k => k = gd) → wpAnyH Tryd.prog .any (regOf Tryd.f18 16) QQ (fun W => W.heap[gb]? = some (.cells #[Value.int .i64 r.1, Value.int .i64 r.2.1, Value.int .i64 r.2.2.1, Value.int .i64 r.2.2.2] 61 (0, 0)) ∧ True) 9 #[true, true, true, true, true, true, true, true, false, true, false, false, true, true, true, false, true, false, false, false, false, false] a W := by
  intro g16_1 w88 a hE B_gd B_gb B_g16_1 n_g16_1_gb n_g16_1_gd n_gb_gd z_0_g16_1 Nb_L_g16_1 O_L K_0
  refine d_all (rs := [8, 10, 15]) (by kernel_rfl) rfl ?_
  refine all_cons (d_lit (listed' := #[true, true, true, true, true, true, true, true, true, true, false, false, true, true, true, false, true, false, false, false, false, false]) rfl ?_) ?_
  ·
   have O_q16_8 := own_blk0 (s := 4) B_g16_1 (show w.heap.size ≤ g16_1 from z_0_g16_1)
   have Nb_q16_8_gd : ¬ OB (some ⟨g16_1, 0, none⟩) gd := fun h => by have h := ob_blk.1 h; exact n_g16_1_gd h
   have Nb_q16_8_gb : ¬ OB (some ⟨g16_1, 0, none⟩) gb := fun h => by have h := ob_blk.1 h; exact n_g16_1_gb h
   have Z_0_q16_8 : ∀ k, OB (some ⟨g16_1, 0, none⟩) k → (fun k => k = gd) k ∨ w.heap.size ≤ k := fun k h => by have h := ob_blk.1 h; subst h; exact Or.inr z_0_g16_1
   have NN_q16_8_L : ∀ k, OB (some ⟨g16_1, 0, none⟩) k → ¬ OB A k := fun k h h2 => by have h := ob_blk.1 h; subst h; exact Nb_L_g16_1 h2
   have NN_L_q16_8 : ∀ k, OB A k → ¬ OB (some ⟨g16_1, 0, none⟩) k := fun k h h2 => NN_q16_8_L k h2 h
   refine (Rv.s_appendV (s := 4) (xs := []) p18_16_8 hE wn_none rfl Tryd.underlying22 eD61 (by decide) rfl O_q16_8 rfl (Rv.rdv_take O_L (by omega)) (by omega) (by omega) K_0.kept.1 ?_ hcA.2)
   clear hE a; intro A16_8 c16_8 w89 O_q16_8' hk hat a hE
   have Nb_q16_8_gd' := grow_n Nb_q16_8_gd (blk_lt B_gd) hat
   have Nb_q16_8_gb' := grow_n Nb_q16_8_gb (blk_lt B_gb) hat
   have NN_L_q16_8' : ∀ k, OB A k → ¬ OB A16_8 k := fun k h h2 => (hat k h2).elim (NN_L_q16_8 k h) (fun h3 => by have := (Rv.rdv_ob O_L h).2; omega)
   have Z_0_q16_8' := grow_z Z_0_q16_8 K_0.kept.1 hat
   replace B_gd := kp_blk B_gd hk Nb_q16_8_gd
   replace B_gb := kp_blk B_gb hk Nb_q16_8_gb
   replace O_L := Rv.rdv_keep O_L hk NN_L_q16_8
   replace K_0 := K_0.then_ hk Z_0_q16_8
   replace Nb_q16_8_gd := Nb_q16_8_gd'
   replace Nb_q16_8_gb := Nb_q16_8_gb'
   replace NN_L_q16_8 := NN_L_q16_8'
   replace NN_q16_8_L : ∀ k, OB A16_8 k → ¬ OB A k := fun k h h2 => NN_L_q16_8 k h2 h
   replace Z_0_q16_8 := Z_0_q16_8'
   replace O_q16_8 := O_q16_8'
   try clear O_q16_8'
   clear hk hat
   refine ⟨⟨B_gb, trivial⟩, ?_⟩
   exact dr16_10 A16_8 c16_8 g16_1 _ a (En.sub hE ⟨rfl, rfl, rfl, rfl, rfl, rfl, rfl, rfl, rfl, rfl, rfl, rfl, rfl, rfl, rfl, rfl, rfl, trivial⟩) B_gd B_gb n_gb_gd NN_L_q16_8 Nb_q16_8_gd Nb_q16_8_gb Z_0_q16_8 NN_q16_8_L O_L O_q16_8 K_0
  refine all_cons (d_lit (listed' := #[true, true, true, true, true, true, true, true, false, true, true, false, true, true, true, false, true, false, false, false, false, false]) rfl ?_) ?_
  ·
   refine (s_row (xs := [(0, Operand.tmp 106)]) (vs := [(0, Value.agg #[Value.int .i64 r.1, Value.int .i64 r.2.1, Value.int .i64 r.2.2.1, Value.int .i64 r.2.2.2])]) (cs := #[Value.int .i64 r.1, Value.int .i64 r.2.1, Value.int .i64 r.2.2.1, Value.int .i64 r.2.2.2]) p18_16_10 hE wn_none rfl Tryd.underlying22 rfl (by kernel_rfl) ?_)
   clear hE a; intro g16_10 w90 z91 B_g16_10 hk a hE
   have n_gd_g16_10 : gd ≠ g16_10 := ne_new B_gd z91
   have n_gb_g16_10 : gb ≠ g16_10 := ne_new B_gb z91
   have n_g16_1_g16_10 : g16_1 ≠ g16_10 := ne_new B_g16_1 z91
   have z_0_g16_10 := Nat.le_trans K_0.kept.1 z91
   have Nb_L_g16_10 : ¬ OB A g16_10 := fun h => by have := (Rv.rdv_ob O_L h).2; omega
   replace B_gd := kp_blk B_gd hk (fun h => h)
   replace B_gb := kp_blk B_gb hk (fun h => h)
   replace B_g16_1 := kp_blk B_g16_1 hk (fun h => h)
   replace O_L := Rv.rdv_keep O_L hk (fun _ _ h => h)
   replace K_0 := K_0.then_ hk (fun _ h => h.elim)
   clear hk
   refine ⟨⟨B_gb, trivial⟩, ?_⟩
   have n_g16_10_gb := Ne.symm n_gb_g16_10
   have n_g16_10_gd := Ne.symm n_gd_g16_10
   exact dr16_12 g16_1 g16_10 _ a (En.sub hE ⟨rfl, rfl, rfl, rfl, rfl, rfl, rfl, rfl, rfl, rfl, rfl, rfl, rfl, rfl, rfl, rfl, rfl, trivial⟩) B_gd B_gb B_g16_1 B_g16_10 n_g16_1_g16_10 n_g16_1_gb n_g16_1_gd n_g16_10_gb n_g16_10_gd n_gb_gd z_0_g16_1 z_0_g16_10 Nb_L_g16_1 Nb_L_g16_10 O_L K_0
  refine all_cons (d_lit (listed' := #[true, true, true, true, true, true, true, true, false, true, false, false, true, true, true, true, true, false, false, false, false, false]) rfl ?_) ?_
  ·
   refine (s_still p18_16_15 hE wn_none rfl (st_load1 tA22 rfl ((blk_cell B_gd 1).trans rfl)) ?_); clear hE a; intro a hE
   refine ⟨⟨B_gb, trivial⟩, ?_⟩
   refine Rv.dq (listed' := #[true, true, true, true, true, true, true, true, false, true, false, false, true, true, true, true, true, true, false, false, false, false]) (v := Value.slice AD (L.length - i) (c - i)) p18_16_17 ns18_16 hE wn_none ⟨B_gb, trivial⟩ (fun W hS => (st_sliceL (lo := i) (A' := AD) Tryd.underlying22 tS61 rfl rfl (by omega) rfl rfl hAD)) ?_ (fun c a w h => hQ c a _ _ w h); clear hE a; intro a hE
   exact dr16_15 g16_1 _ a (En.sub hE ⟨rfl, rfl, rfl, rfl, rfl, rfl, rfl, rfl, rfl, rfl, rfl, rfl, rfl, rfl, rfl, rfl, rfl, rfl, trivial⟩) B_gd B_gb B_g16_1 n_g16_1_gb n_g16_1_gd n_gb_gd z_0_g16_1 Nb_L_g16_1 O_L K_0
  exact all_nil
 have dr16_5 : ∀ (W : World) (a : Act), En 118 a [(0, Value.pointer (some ⟨gd, 0, none⟩)), (3, Value.pointer (some ⟨gb, 0, none⟩)), (8, Value.int .i64 (i : Int)), (97, Value.pointer (some ⟨gd, 0, none⟩)), (99, Value.pointer (some ⟨gd, 0, none⟩)), (100, Value.pointer (some ⟨gd, 0, none⟩)), (101, Value.pointer (some ⟨gd, 1, none⟩)), (102, Value.slice A L.length c), (103, Value.int .i64 (i : Int)), (104, Value.slice A i c), (106, Value.agg #[Value.int .i64 r.1, Value.int .i64 r.2.1, Value.int .i64 r.2.2.1, Value.int .i64 r.2.2.2]), (109, Value.pointer (some ⟨gd, 0, none⟩)), (110, Value.pointer (some ⟨gd, 0, none⟩)), (111, Value.pointer (some ⟨gd, 1, none⟩)), (113, Value.int .i64 (i : Int))] → W.heap[gd]? = some (.cells #[Value.int .i64 32, Value.slice A L.length c] 56 (0, 0)) → W.heap[gb]? = some (.cells #[Value.int .i64 r.1, Value.int .i64 r.2.1, Value.int .i64 r.2.2.1, Value.int .i64 r.2.2.2] 61 (0, 0)) → gb ≠ gd → Rv.RdV W A L.length 4 (flR L) → Kp w W (fun k => k = gd) → wpAnyH Tryd.prog .any (regOf Tryd.f18 16) QQ (fun W => W.heap[gb]? = some (.cells #[Value.int .i64 r.1, Value.int .i64 r.2.1, Value.int .i64 r.2.2.1, Value.int .i64 r.2.2.2] 61 (0, 0)) ∧ True) 10 #[true, false, true, true, true, true, true, true, false, true, false, false, true, true, true, false, true, false, false, false, false, false] a W := by
  intro w92 a hE B_gd B_gb n_gb_gd O_L K_0
  refine d_all (rs := [1, 10, 15]) (by kernel_rfl) rfl ?_
  refine all_cons (d_lit (listed' := #[true, true, true, true, true, true, true, true, false, true, false, false, true, true, true, false, true, false, false, false, false, false]) rfl ?_) ?_
  ·
   refine (s_row (xs := []) (vs := []) (cs := #[]) p18_16_1 hE wn_none rfl Tryd.underlying22 rfl (by kernel_rfl) ?_)
   clear hE a; intro g16_1 w93 z94 B_g16_1 hk a hE
   have n_gd_g16_1 : gd ≠ g16_1 := ne_new B_gd z94
   have n_gb_g16_1 : gb ≠ g16_1 := ne_new B_gb z94
   have z_0_g16_1 := Nat.le_trans K_0.kept.1 z94
   have Nb_L_g16_1 : ¬ OB A g16_1 := fun h => by have := (Rv.rdv_ob O_L h).2; omega
   replace B_gd := kp_blk B_gd hk (fun h => h)
   replace B_gb := kp_blk B_gb hk (fun h => h)
   replace O_L := Rv.rdv_keep O_L hk (fun _ _ h => h)
   replace K_0 := K_0.then_ hk (fun _ h => h.elim)
   clear hk
   refine ⟨⟨B_gb, trivial⟩, ?_⟩
   have n_g16_1_gb := Ne.symm n_gb_g16_1
   have n_g16_1_gd := Ne.symm n_gd_g16_1
   exact dr16_6 g16_1 _ a (En.sub hE ⟨rfl, rfl, rfl, rfl, rfl, rfl, rfl, rfl, rfl, rfl, rfl, rfl, rfl, rfl, rfl, rfl, trivial⟩) B_gd B_gb B_g16_1 n_g16_1_gb n_g16_1_gd n_gb_gd z_0_g16_1 Nb_L_g16_1 O_L K_0
  refine all_cons (d_lit (listed' := #[true, false, true, true, true, true, true, true, false, true, true, false, true, true, true, false, true, false, false, false, false, false]) rfl ?_) ?_
  ·
   refine (s_row (xs := [(0, Operand.tmp 106)]) (vs := [(0, Value.agg #[Value.int .i64 r.1, Value.int .i64 r.2.1, Value.int .i64 r.2.2.1, Value.int .i64 r.2.2.2])]) (cs := #[Value.int .i64 r.1, Value.int .i64 r.2.1, Value.int .i64 r.2.2.1, Value.int .i64 r.2.2.2]) p18_16_10 hE wn_none rfl Tryd.underlying22 rfl (by kernel_rfl) ?_)
   clear hE a; intro g16_10 w95 z96 B_g16_10 hk a hE
   have n_gd_g16_10 : gd ≠ g16_10 := ne_new B_gd z96
   have n_gb_g16_10 : gb ≠ g16_10 := ne_new B_gb z96
   have z_0_g16_10 := Nat.le_trans K_0.kept.1 z96
   have Nb_L_g16_10 : ¬ OB A g16_10 := fun h => by have := (Rv.rdv_ob O_L h).2; omega
   replace B_gd := kp_blk B_gd hk (fun h => h)
   replace B_gb := kp_blk B_gb hk (fun h => h)
   replace O_L := Rv.rdv_keep O_L hk (fun _ _ h => h)
   replace K_0 := K_0.then_ hk (fun _ h => h.elim)
   clear hk
   refine ⟨⟨B_gb, trivial⟩, ?_⟩
   have n_g16_10_gb := Ne.symm n_gb_g16_10
   have n_g16_10_gd := Ne.symm n_gd_g16_10
   exact dr16_9 g16_10 _ a (En.sub hE ⟨rfl, rfl, rfl, rfl, rfl, rfl, rfl, rfl, rfl, rfl, rfl, rfl, rfl, rfl, rfl, rfl, trivial⟩) B_gd B_gb B_g16_10 n_g16_10_gb n_g16_10_gd n_gb_gd z_0_g16_10 Nb_L_g16_10 O_L K_0
  refine all_cons (d_lit (listed' := #[true, false, true, true, true, true, true, true, false, true, false, false, true, true, true, true, true, false, false, false, false, false]) rfl ?_) ?_
  ·
   refine (s_still p18_16_15 hE wn_none rfl (st_load1 tA22 rfl ((blk_cell B_gd 1).trans rfl)) ?_); clear hE a; intro a hE
   refine ⟨⟨B_gb, trivial⟩, ?_⟩
   refine Rv.dq (listed' := #[true, false, true, true, true, true, true, true, false, true, false, false, true, true, true, true, true, true, false, false, false, false]) (v := Value.slice AD (L.length - i) (c - i)) p18_16_17 ns18_16 hE wn_none ⟨B_gb, trivial⟩ (fun W hS => (st_sliceL (lo := i) (A' := AD) Tryd.underlying22 tS61 rfl rfl (by omega) rfl rfl hAD)) ?_ (fun c a w h => hQ c a _ _ w h); clear hE a; intro a hE
   exact dr16_13 _ a (En.sub hE ⟨rfl, rfl, rfl, rfl, rfl, rfl, rfl, rfl, rfl, rfl, rfl, rfl, rfl, rfl, rfl, rfl, rfl, trivial⟩) B_gd B_gb n_gb_gd O_L K_0
  exact all_nil
 have dr16_4 : ∀ (g16_1 : Nat) (g16_10 : Nat) (W : World) (a : Act), En 118 a [(0, Value.pointer (some ⟨gd, 0, none⟩)), (3, Value.pointer (some ⟨gb, 0, none⟩)), (8, Value.int .i64 (i : Int)), (97, Value.pointer (some ⟨gd, 0, none⟩)), (98, Value.slice (some ⟨g16_1, 0, none⟩) 0 0), (99, Value.pointer (some ⟨gd, 0, none⟩)), (100, Value.pointer (some ⟨gd, 0, none⟩)), (101, Value.pointer (some ⟨gd, 1, none⟩)), (103, Value.int .i64 (i : Int)), (106, Value.agg #[Value.int .i64 r.1, Value.int .i64 r.2.1, Value.int .i64 r.2.2.1, Value.int .i64 r.2.2.2]), (107, Value.slice (some ⟨g16_10, 0, none⟩) 1 1), (109, Value.pointer (some ⟨gd, 0, none⟩)), (110, Value.pointer (some ⟨gd, 0, none⟩)), (111, Value.pointer (some ⟨gd, 1, none⟩)), (113, Value.int .i64 (i : Int))] → W.heap[gd]? = some (.cells #[Value.int .i64 32, Value.slice A L.length c] 56 (0, 0)) → W.heap[gb]? = some (.cells #[Value.int .i64 r.1, Value.int .i64 r.2.1, Value.int .i64 r.2.2.1, Value.int .i64 r.2.2.2] 61 (0, 0)) → W.heap[g16_1]? = some (.cells #[] 61 (0, 0)) → W.heap[g16_10]? = some (.cells #[Value.int .i64 r.1, Value.int .i64 r.2.1, Value.int .i64 r.2.2.1, Value.int .i64 r.2.2.2] 61 (0, 0)) → g16_1 ≠ g16_10 → g16_1 ≠ gb → g16_1 ≠ gd → g16_10 ≠ gb → g16_10 ≠ gd → gb ≠ gd → w.heap.size ≤ g16_1 → w.heap.size ≤ g16_10 → ¬ OB A g16_1 → ¬ OB A g16_10 → Rv.RdV W A L.length 4 (flR L) → Kp w W (fun k => k = gd) → wpAnyH Tryd.prog .any (regOf Tryd.f18 16) QQ (fun W => W.heap[gb]? = some (.cells #[Value.int .i64 r.1, Value.int .i64 r.2.1, Value.int .i64 r.2.2.1, Value.int .i64 r.2.2.2] 61 (0, 0)) ∧ True) 10 #[true, true, true, true, true, false, true, false, false, true, true, false, true, true, true, false, true, false, false, false, false, false] a W := by
  intro g16_1 g16_10 w97 a hE B_gd B_gb B_g16_1 B_g16_10 n_g16_1_g16_10 n_g16_1_gb n_g16_1_gd n_g16_10_gb n_g16_10_gd n_gb_gd z_0_g16_1 z_0_g16_10 Nb_L_g16_1 Nb_L_g16_10 O_L K_0
  refine d_all (rs := [5, 15]) (by kernel_rfl) rfl ?_
  refine all_cons (d_lit (listed' := #[true, true, true, true, true, true, true, false, false, true, true, false, true, true, true, false, true, false, false, false, false, false]) rfl ?_) ?_
  ·
   refine (s_still p18_16_5 hE wn_none rfl (st_load1 tA22 rfl ((blk_cell B_gd 1).trans rfl)) ?_); clear hE a; intro a hE
   refine ⟨⟨B_gb, trivial⟩, ?_⟩
   refine Rv.dq (listed' := #[true, true, true, true, true, true, true, true, false, true, true, false, true, true, true, false, true, false, false, false, false, false]) (v := Value.slice A i c) p18_16_7 ns18_16 hE wn_none ⟨B_gb, trivial⟩ (fun W hS => (st_sliceH (h := i) Tryd.underlying22 tS61 rfl rfl (by omega))) ?_ (fun c a w h => hQ c a _ _ w h); clear hE a; intro a hE
   exact dr16_12 g16_1 g16_10 _ a (En.sub hE ⟨rfl, rfl, rfl, rfl, rfl, rfl, rfl, rfl, rfl, rfl, rfl, rfl, rfl, rfl, rfl, rfl, rfl, trivial⟩) B_gd B_gb B_g16_1 B_g16_10 n_g16_1_g16_10 n_g16_1_gb n_g16_1_gd n_g16_10_gb n_g16_10_gd n_gb_gd z_0_g16_1 z_0_g16_10 Nb_L_g16_1 Nb_L_g16_10 O_L K_0
  refine all_cons (d_lit (listed' := #[true, true, true, true, true, false, true, false, false, true, true, false, true, true, true, true, true, false, false, false, false, false]) rfl ?_) ?_
  ·
   refine (s_still p18_16_15 hE wn_none rfl (st_load1 tA22 rfl ((blk_cell B_gd 1).trans rfl)) ?_); clear hE a; intro a hE
   refine ⟨⟨B_gb, trivial⟩, ?_⟩
   refine Rv.dq (listed' := #[true, true, true, true, true, false, true, false, false, true, true, false, true, true, true, true, true, true, false, false, false, false]) (v := Value.slice AD (L.length - i) (c - i)) p18_16_17 ns18_16 hE wn_none ⟨B_gb, trivial⟩ (fun W hS => (st_sliceL (lo := i) (A' := AD) Tryd.underlying22 tS61 rfl rfl (by omega) rfl rfl hAD)) ?_ (fun c a w h => hQ c a _ _ w h); clear hE a; intro a hE
   exact dr16_11 g16_1 g16_10 _ a (En.sub hE ⟨rfl, rfl, rfl, rfl, rfl, rfl, rfl, rfl, rfl, rfl, rfl, rfl, rfl, rfl, rfl, rfl, rfl, trivial⟩) B_gd B_gb B_g16_1 B_g16_10 n_g16_1_g16_10 n_g16_1_gb n_g16_1_gd n_g16_10_gb n_g16_10_gd n_gb_gd z_0_g16_1 z_0_g16_10 Nb_L_g16_1 Nb_L_g16_10 O_L K_0
  exact all_nil
 have dr16_3 : ∀ (W : World) (a : Act), En 118 a [(0, Value.pointer (some ⟨gd, 0, none⟩)), (3, Value.pointer (some ⟨gb, 0, none⟩)), (8, Value.int .i64 (i : Int)), (97, Value.pointer (some ⟨gd, 0, none⟩)), (99, Value.pointer (some ⟨gd, 0, none⟩)), (100, Value.pointer (some ⟨gd, 0, none⟩)), (101, Value.pointer (some ⟨gd, 1, none⟩)), (103, Value.int .i64 (i : Int)), (106, Value.agg #[Value.int .i64 r.1, Value.int .i64 r.2.1, Value.int .i64 r.2.2.1, Value.int .i64 r.2.2.2]), (109, Value.pointer (some ⟨gd, 0, none⟩)), (110, Value.pointer (some ⟨gd, 0, none⟩)), (111, Value.pointer (some ⟨gd, 1, none⟩)), (112, Value.slice A L.length c), (113, Value.int .i64 (i : Int)), (114, Value.slice AD (L.length - i) (c - i))] → W.heap[gd]? = some (.cells #[Value.int .i64 32, Value.slice A L.length c] 56 (0, 0)) → W.heap[gb]? = some (.cells #[Value.int .i64 r.1, Value.int .i64 r.2.1, Value.int .i64 r.2.2.1, Value.int .i64 r.2.2.2] 61 (0, 0)) → gb ≠ gd → Rv.RdV W A L.length 4 (flR L) → Kp w W (fun k => k = gd) → wpAnyH Tryd.prog .any (regOf Tryd.f18 16) QQ (fun W => W.heap[gb]? = some (.cells #[Value.int .i64 r.1, Value.int .i64 r.2.1, Value.int .i64 r.2.2.1, Value.int .i64 r.2.2.2] 61 (0, 0)) ∧ True) 10 #[true, false, true, true, true, false, true, false, false, true, false, false, true, true, true, true, true, true, false, false, false, false] a W := by
  intro w98 a hE B_gd B_gb n_gb_gd O_L K_0
  refine d_all (rs := [1, 5, 10]) (by kernel_rfl) rfl ?_
  refine all_cons (d_lit (listed' := #[true, true, true, true, true, false, true, false, false, true, false, false, true, true, true, true, true, true, false, false, false, false]) rfl ?_) ?_
  ·
   refine (s_row (xs := []) (vs := []) (cs := #[]) p18_16_1 hE wn_none rfl Tryd.underlying22 rfl (by kernel_rfl) ?_)
   clear hE a; intro g16_1 w99 z100 B_g16_1 hk a hE
   have n_gd_g16_1 : gd ≠ g16_1 := ne_new B_gd z100
   have n_gb_g16_1 : gb ≠ g16_1 := ne_new B_gb z100
   have z_0_g16_1 := Nat.le_trans K_0.kept.1 z100
   have Nb_L_g16_1 : ¬ OB A g16_1 := fun h => by have := (Rv.rdv_ob O_L h).2; omega
   replace B_gd := kp_blk B_gd hk (fun h => h)
   replace B_gb := kp_blk B_gb hk (fun h => h)
   replace O_L := Rv.rdv_keep O_L hk (fun _ _ h => h)
   replace K_0 := K_0.then_ hk (fun _ h => h.elim)
   clear hk
   refine ⟨⟨B_gb, trivial⟩, ?_⟩
   have n_g16_1_gb := Ne.symm n_gb_g16_1
   have n_g16_1_gd := Ne.symm n_gd_g16_1
   exact dr16_8 g16_1 _ a (En.sub hE ⟨rfl, rfl, rfl, rfl, rfl, rfl, rfl, rfl, rfl, rfl, rfl, rfl, rfl, rfl, rfl, rfl, trivial⟩) B_gd B_gb B_g16_1 n_g16_1_gb n_g16_1_gd n_gb_gd z_0_g16_1 Nb_L_g16_1 O_L K_0
  refine all_cons (d_lit (listed' := #[true, false, true, true, true, true, true, false, false, true, false, false, true, true, true, true, true, true, false, false, false, false]) rfl ?_) ?_
  ·
   refine (s_still p18_16_5 hE wn_none rfl (st_load1 tA22 rfl ((blk_cell B_gd 1).trans rfl)) ?_); clear hE a; intro a hE
   refine ⟨⟨B_gb, trivial⟩, ?_⟩
   refine Rv.dq (listed' := #[true, false, true, true, true, true, true, true, false, true, false, false, true, true, true, true, true, true, false, false, false, false]) (v := Value.slice A i c) p18_16_7 ns18_16 hE wn_none ⟨B_gb, trivial⟩ (fun W hS => (st_sliceH (h := i) Tryd.underlying22 tS61 rfl rfl (by omega))) ?_ (fun c a w h => hQ c a _ _ w h); clear hE a; intro a hE
   exact dr16_13 _ a (En.sub hE ⟨rfl, rfl, rfl, rfl, rfl, rfl, rfl, rfl, rfl, rfl, rfl, rfl, rfl, rfl, rfl, rfl, rfl, trivial⟩) B_gd B_gb n_gb_gd O_L K_0
  refine all_cons (d_lit (listed' := #[true, false, true, true, true, false, true, false, false, true, true, false, true, true, true, true, true, true, false, false, false, false]) rfl ?_) ?_
  ·
   refine (s_row (xs := [(0, Operand.tmp 106)]) (vs := [(0, Value.agg #[Value.int .i64 r.1, Value.int .i64 r.2.1, Value.int .i64 r.2.2.1, Value.int .i64 r.2.2.2])]) (cs := #[Value.int .i64 r.1, Value.int .i64 r.2.1, Value.int .i64 r.2.2.1, Value.int .i64 r.2.2.2]) p18_16_10 hE wn_none rfl Tryd.underlying22 rfl (by kernel_rfl) ?_)
   clear hE a; intro g16_10 w101 z102 B_g16_10 hk a hE
   have n_gd_g16_10 : gd ≠ g16_10 := ne_new B_gd z102
   have n_gb_g16_10 : gb ≠ g16_10 := ne_new B_gb z102
   have z_0_g16_10 := Nat.le_trans K_0.kept.1 z102
   have Nb_L_g16_10 : ¬ OB A g16_10 := fun h => by have := (Rv.rdv_ob O_L h).2; omega
   replace B_gd := kp_blk B_gd hk (fun h => h)
   replace B_gb := kp_blk B_gb hk (fun h => h)
   replace O_L := Rv.rdv_keep O_L hk (fun _ _ h => h)
   replace K_0 := K_0.then_ hk (fun _ h => h.elim)
   clear hk
   refine ⟨⟨B_gb, trivial⟩, ?_⟩
   have n_g16_10_gb := Ne.symm n_gb_g16_10
   have n_g16_10_gd := Ne.symm n_gd_g16_10
   exact dr16_7 g16_10 _ a (En.sub hE ⟨rfl, rfl, rfl, rfl, rfl, rfl, rfl, rfl, rfl, rfl, rfl, rfl, rfl, rfl, rfl, rfl, trivial⟩) B_gd B_gb B_g16_10 n_g16_10_gb n_g16_10_gd n_gb_gd z_0_g16_10 Nb_L_g16_10 O_L K_0
  exact all_nil
 have dr16_2 : ∀ (g16_10 : Nat) (W : World) (a : Act), En 118 a [(0, Value.pointer (some ⟨gd, 0, none⟩)), (3, Value.pointer (some ⟨gb, 0, none⟩)), (8, Value.int .i64 (i : Int)), (97, Value.pointer (some ⟨gd, 0, none⟩)), (99, Value.pointer (some ⟨gd, 0, none⟩)), (100, Value.pointer (some ⟨gd, 0, none⟩)), (101, Value.pointer (some ⟨gd, 1, none⟩)), (103, Value.int .i64 (i : Int)), (106, Value.agg #[Value.int .i64 r.1, Value.int .i64 r.2.1, Value.int .i64 r.2.2.1, Value.int .i64 r.2.2.2]), (107, Value.slice (some ⟨g16_10, 0, none⟩) 1 1), (109, Value.pointer (some ⟨gd, 0, none⟩)), (110, Value.pointer (some ⟨gd, 0, none⟩)), (111, Value.pointer (some ⟨gd, 1, none⟩)), (113, Value.int .i64 (i : Int))] → W.heap[gd]? = some (.cells #[Value.int .i64 32, Value.slice A L.length c] 56 (0, 0)) → W.heap[gb]? = some (.cells #[Value.int .i64 r.1, Value.int .i64 r.2.1, Value.int .i64 r.2.2.1, Value.int .i64 r.2.2.2] 61 (0, 0)) → W.heap[g16_10]? = some (.cells #[Value.int .i64 r.1, Value.int .i64 r.2.1, Value.int .i64 r.2.2.1, Value.int .i64 r.2.2.2] 61 (0, 0)) → g16_10 ≠ gb → g16_10 ≠ gd → gb ≠ gd → w.heap.size ≤ g16_10 → ¬ OB A g16_10 → Rv.RdV W A L.length 4 (flR L) → Kp w W (fun k => k = gd) → wpAnyH Tryd.prog .any (regOf Tryd.f18 16) QQ (fun W => W.heap[gb]? = some (.cells #[Value.int .i64 r.1, Value.int .i64 r.2.1, Value.int .i64 r.2.2.1, Value.int .i64 r.2.2.2] 61 (0, 0)) ∧ True) 11 #[true, false, true, true, true, false, true, false, false, true, true, false, true, true, true, false, true, false, false, false, false, false] a W := by
  intro g16_10 w103 a hE B_gd B_gb B_g16_10 n_g16_10_gb n_g16_10_gd n_gb_gd z_0_g16_10 Nb_L_g16_10 O_L K_0
  refine d_all (rs := [1, 5, 15]) (by kernel_rfl) rfl ?_
  refine all_cons (d_lit (listed' := #[true, true, true, true, true, false, true, false, false, true, true, false, true, true, true, false, true, false, false, false, false, false]) rfl ?_) ?_
  ·
   refine (s_row (xs := []) (vs := []) (cs := #[]) p18_16_1 hE wn_none rfl Tryd.underlying22 rfl (by kernel_rfl) ?_)
   clear hE a; intro g16_1 w104 z105 B_g16_1 hk a hE
   have n_gd_g16_1 : gd ≠ g16_1 := ne_new B_gd z105
   have n_gb_g16_1 : gb ≠ g16_1 := ne_new B_gb z105
   have n_g16_10_g16_1 : g16_10 ≠ g16_1 := ne_new B_g16_10 z105
   have z_0_g16_1 := Nat.le_trans K_0.kept.1 z105
   have Nb_L_g16_1 : ¬ OB A g16_1 := fun h => by have := (Rv.rdv_ob O_L h).2; omega
   replace B_gd := kp_blk B_gd hk (fun h => h)
   replace B_gb := kp_blk B_gb hk (fun h => h)
   replace B_g16_10 := kp_blk B_g16_10 hk (fun h => h)
   replace O_L := Rv.rdv_keep O_L hk (fun _ _ h => h)
   replace K_0 := K_0.then_ hk (fun _ h => h.elim)
   clear hk
   refine ⟨⟨B_gb, trivial⟩, ?_⟩
   have n_g16_1_g16_10 := Ne.symm n_g16_10_g16_1
   have n_g16_1_gb := Ne.symm n_gb_g16_1
   have n_g16_1_gd := Ne.symm n_gd_g16_1
   exact dr16_4 g16_1 g16_10 _ a (En.sub hE ⟨rfl, rfl, rfl, rfl, rfl, rfl, rfl, rfl, rfl, rfl, rfl, rfl, rfl, rfl, rfl, trivial⟩) B_gd B_gb B_g16_1 B_g16_10 n_g16_1_g16_10 n_g16_1_gb n_g16_1_gd n_g16_10_gb n_g16_10_gd n_gb_gd z_0_g16_1 z_0_g16_10 Nb_L_g16_1 Nb_L_g16_10 O_L K_0
  refine all_cons (d_lit (listed' := #[true, false, true, true, true, true, true, false, false, true, true, false, true, true, true, false, true, false, false, false, false, false]) rfl ?_) ?_
  ·
   refine (s_still p18_16_5 hE wn_none rfl (st_load1 tA22 rfl ((blk_cell B_gd 1).trans rfl)) ?_); clear hE a; intro a hE
   refine ⟨⟨B_gb, trivial⟩, ?_⟩
   refine Rv.dq (listed' := #[true, false, true, true, true, true, true, true, false, true, true, false, true, true, true, false, true, false, false, false, false, false]) (v := Value.slice A i c) p18_16_7 ns18_16 hE wn_none ⟨B_gb, trivial⟩ (fun W hS => (st_sliceH (h := i) Tryd.underlying22 tS61 rfl rfl (by omega))) ?_ (fun c a w h => hQ c a _ _ w h); clear hE a; intro a hE
   exact dr16_9 g16_10 _ a (En.sub hE ⟨rfl, rfl, rfl, rfl, rfl, rfl, rfl, rfl, rfl, rfl, rfl, rfl, rfl, rfl, rfl, rfl, trivial⟩) B_gd B_gb B_g16_10 n_g16_10_gb n_g16_10_gd n_gb_gd z_0_g16_10 Nb_L_g16_10 O_L K_0
  refine all_cons (d_lit (listed' := #[true, false, true, true, true, false, true, false, false, true, true, false, true, true, true, true, true, false, false, false, false, false]) rfl ?_) ?_
  ·
   refine (s_still p18_16_15 hE wn_none rfl (st_load1 tA22 rfl ((blk_cell B_gd 1).trans rfl)) ?_); clear hE a; intro a hE
   refine ⟨⟨B_gb, trivial⟩, ?_⟩
   refine Rv.dq (listed' := #[true, false, true, true, true, false, true, false, false, true, true, false, true, true, true, true, true, true, false, false, false, false]) (v := Value.slice AD (L.length - i) (c - i)) p18_16_17 ns18_16 hE wn_none ⟨B_gb, trivial⟩ (fun W hS => (st_sliceL (lo := i) (A' := AD) Tryd.underlying22 tS61 rfl rfl (by omega) rfl rfl hAD)) ?_ (fun c a w h => hQ c a _ _ w h); clear hE a; intro a hE
   exact dr16_7 g16_10 _ a (En.sub hE ⟨rfl, rfl, rfl, rfl, rfl, rfl, rfl, rfl, rfl, rfl, rfl, rfl, rfl, rfl, rfl, rfl, trivial⟩) B_gd B_gb B_g16_10 n_g16_10_gb n_g16_10_gd n_gb_gd z_0_g16_10 Nb_L_g16_10 O_L K_0
  exact all_nil
 have dr16_1 : ∀ (g16_1 : Nat) (W : World) (a : Act), En 118 a [(0, Value.pointer (some ⟨gd, 0, none⟩)), (3, Value.pointer (some ⟨gb, 0, none⟩)), (8, Value.int .i64 (i : Int)), (97, Value.pointer (some ⟨gd, 0, none⟩)), (98, Value.slice (some ⟨g16_1, 0, none⟩) 0 0), (99, Value.pointer (some ⟨gd, 0, none⟩)), (100, Value.pointer (some ⟨gd, 0, none⟩)), (101, Value.pointer (some ⟨gd, 1, none⟩)), (103, Value.int .i64 (i : Int)), (106, Value.agg #[Value.int .i64 r.1, Value.int .i64 r.2.1, Value.int .i64 r.2.2.1, Value.int .i64 r.2.2.2]), (109, Value.pointer (some ⟨gd, 0, none⟩)), (110, Value.pointer (some ⟨gd, 0, none⟩)), (111, Value.pointer (some ⟨gd, 1, none⟩)), (113, Value.int .i64 (i : Int))] → W.heap[gd]? = some (.cells #[Value.int .i64 32, Value.slice A L.length c] 56 (0, 0)) → W.heap[gb]? = some (.cells #[Value.int .i64 r.1, Value.int .i64 r.2.1, Value.int .i64 r.2.2.1, Value.int .i64 r.2.2.2] 61 (0, 0)) → W.heap[g16_1]? = some (.cells #[] 61 (0, 0)) → g16_1 ≠ gb → g16_1 ≠ gd → gb ≠ gd → w.heap.size ≤ g16_1 → ¬ OB A g16_1 → Rv.RdV W A L.length 4 (flR L) → Kp w W (fun k => k = gd) → wpAnyH Tryd.prog .any (regOf Tryd.f18 16) QQ (fun W => W.heap[gb]? = some (.cells #[Value.int .i64 r.1, Value.int .i64 r.2.1, Value.int .i64 r.2.2.1, Value.int .i64 r.2.2.2] 61 (0, 0)) ∧ True) 11 #[true, true, true, true, true, false, true, false, false, true, false, false, true, true, true, false, true, false, false, false, false, false] a W := by
  intro g16_1 w106 a hE B_gd B_gb B_g16_1 n_g16_1_gb n_g16_1_gd n_gb_gd z_0_g16_1 Nb_L_g16_1 O_L K_0
  refine d_all (rs := [5, 10, 15]) (by kernel_rfl) rfl ?_
  refine all_cons (d_lit (listed' := #[true, true, true, true, true, true, true, false, false, true, false, false, true, true, true, false, true, false, false, false, false, false]) rfl ?_) ?_
  ·
   refine (s_still p18_16_5 hE wn_none rfl (st_load1 tA22 rfl ((blk_cell B_gd 1).trans rfl)) ?_); clear hE a; intro a hE
   refine ⟨⟨B_gb, trivial⟩, ?_⟩
   refine Rv.dq (listed' := #[true, true, true, true, true, true, true, true, false, true, false, false, true, true, true, false, true, false, false, false, false, false]) (v := Value.slice A i c) p18_16_7 ns18_16 hE wn_none ⟨B_gb, trivial⟩ (fun W hS => (st_sliceH (h := i) Tryd.underlying22 tS61 rfl rfl (by omega))) ?_ (fun c a w h => hQ c a _ _ w h); clear hE a; intro a hE
   exact dr16_6 g16_1 _ a (En.sub hE ⟨rfl, rfl, rfl, rfl, rfl, rfl, rfl, rfl, rfl, rfl, rfl, rfl, rfl, rfl, rfl, rfl, trivial⟩) B_gd B_gb B_g16_1 n_g16_1_gb n_g16_1_gd n_gb_gd z_0_g16_1 Nb_L_g16_1 O_L K_0
  refine all_cons (d_lit (listed' := #[true, true, true, true, true, false, true, false, false, true, true, false, true, true, true, false, true, false, false, false, false, false]) rfl ?_) ?_
  ·
   refine (s_row (xs := [(0, Operand.tmp 106)]) (vs := [(0, Value.agg #[Value.int .i64 r.1, Value.int .i64 r.2.1, Value.int .i64 r.2.2.1, Value.int .i64 r.2.2.2])]) (cs := #[Value.int .i64 r.1, Value.int .i64 r.2.1, Value.int .i64 r.2.2.1, Value.int .i64 r.2.2.2]) p18_16_10 hE wn_none rfl Tryd.underlying22 rfl (by kernel_rfl) ?_)
   clear hE a; intro g16_10 w107 z108 B_g16_10 hk a hE
   have n_gd_g16_10 : gd ≠ g16_10 := ne_new B_gd z108
   have n_gb_g16_10 : gb ≠ g16_10 := ne_new B_gb z108
   have n_g16_1_g16_10 : g16_1 ≠ g16_10 := ne_new B_g16_1 z108
   have z_0_g16_10 := Nat.le_trans K_0.kept.1 z108
   have Nb_L_g16_10 : ¬ OB A g16_10 := fun h => by have := (Rv.rdv_ob O_L h).2; omega
   replace B_gd := kp_blk B_gd hk (fun h => h)
   replace B_gb := kp_blk B_gb hk (fun h => h)
   replace B_g16_1 := kp_blk B_g16_1 hk (fun h => h)
   replace O_L := Rv.rdv_keep O_L hk (fun _ _ h => h)
   replace K_0 := K_0.then_ hk (fun _ h => h.elim)
   clear hk
   refine ⟨⟨B_gb, trivial⟩, ?_⟩
   have n_g16_10_gb := Ne.symm n_gb_g16_10
   have n_g16_10_gd := Ne.symm n_gd_g16_10
   exact dr16_4 g16_1 g16_10 _ a (En.sub hE ⟨rfl, rfl, rfl, rfl, rfl, rfl, rfl, rfl, rfl, rfl, rfl, rfl, rfl, rfl, rfl, trivial⟩) B_gd B_gb B_g16_1 B_g16_10 n_g16_1_g16_10 n_g16_1_gb n_g16_1_gd n_g16_10_gb n_g16_10_gd n_gb_gd z_0_g16_1 z_0_g16_10 Nb_L_g16_1 Nb_L_g16_10 O_L K_0
  refine all_cons (d_lit (listed' := #[true, true, true, true, true, false, true, false, false, true, false, false, true, true, true, true, true, false, false, false, false, false]) rfl ?_) ?_
  ·
   refine (s_still p18_16_15 hE wn_none rfl (st_load1 tA22 rfl ((blk_cell B_gd 1).trans rfl)) ?_); clear hE a; intro a hE
   refine ⟨⟨B_gb, trivial⟩, ?_⟩
   refine Rv.dq (listed' := #[true, true, true, true, true, false, true, false, false, true, false, false, true, true, true, true, true, true, false, false, false, false]) (v := Value.slice AD (L.length - i) (c - i)) p18_16_17 ns18_16 hE wn_none ⟨B_gb, trivial⟩ (fun W hS => (st_sliceL (lo := i) (A' := AD) Tryd.underlying22 tS61 rfl rfl (by omega) rfl rfl hAD)) ?_ (fun c a w h => hQ c a _ _ w h); clear hE a; intro a hE
   exact dr16_8 g16_1 _ a (En.sub hE ⟨rfl, rfl, rfl, rfl, rfl, rfl, rfl, rfl, rfl, rfl, rfl, rfl, rfl, rfl, rfl, rfl, trivial⟩) B_gd B_gb B_g16_1 n_g16_1_gb n_g16_1_gd n_gb_gd z_0_g16_1 Nb_L_g16_1 O_L K_0
  exact all_nil
 have dr16_0 : ∀ (W : World) (a : Act), En 118 a [(0, Value.pointer (some ⟨gd, 0, none⟩)), (3, Value.pointer (some ⟨gb, 0, none⟩)), (8, Value.int .i64 (i : Int)), (97, Value.pointer (some ⟨gd, 0, none⟩)), (99, Value.pointer (some ⟨gd, 0, none⟩)), (100, Value.pointer (some ⟨gd, 0, none⟩)), (101, Value.pointer (some ⟨gd, 1, none⟩)), (103, Value.int .i64 (i : Int)), (106, Value.agg #[Value.int .i64 r.1, Value.int .i64 r.2.1, Value.int .i64 r.2.2.1, Value.int .i64 r.2.2.2]), (109, Value.pointer (some ⟨gd, 0, none⟩)), (110, Value.pointer (some ⟨gd, 0, none⟩)), (111, Value.pointer (some ⟨gd, 1, none⟩)), (113, Value.int .i64 (i : Int))] → W.heap[gd]? = some (.cells #[Value.int .i64 32, Value.slice A L.length c] 56 (0, 0)) → W.heap[gb]? = some (.cells #[Value.int .i64 r.1, Value.int .i64 r.2.1, Value.int .i64 r.2.2.1, Value.int .i64 r.2.2.2] 61 (0, 0)) → Rv.RdV W A L.length 4 (flR L) → Kp w W (fun k => k = gd) → wpAnyH Tryd.prog .any (regOf Tryd.f18 16) QQ (fun W => W.heap[gb]? = some (.cells #[Value.int .i64 r.1, Value.int .i64 r.2.1, Value.int .i64 r.2.2.1, Value.int .i64 r.2.2.2] 61 (0, 0)) ∧ True) 12 #[true, false, true, true, true, false, true, false, false, true, false, false, true, true, true, false, true, false, false, false, false, false] a W := by
  intro w109 a hE B_gd B_gb O_L K_0
  refine d_all (rs := [1, 5, 10, 15]) (by kernel_rfl) rfl ?_
  refine all_cons (d_lit (listed' := #[true, true, true, true, true, false, true, false, false, true, false, false, true, true, true, false, true, false, false, false, false, false]) rfl ?_) ?_
  ·
   refine (s_row (xs := []) (vs := []) (cs := #[]) p18_16_1 hE wn_none rfl Tryd.underlying22 rfl (by kernel_rfl) ?_)
   clear hE a; intro g16_1 w110 z111 B_g16_1 hk a hE
   have n_gd_g16_1 : gd ≠ g16_1 := ne_new B_gd z111
   have n_gb_g16_1 : gb ≠ g16_1 := ne_new B_gb z111
   have z_0_g16_1 := Nat.le_trans K_0.kept.1 z111
   have Nb_L_g16_1 : ¬ OB A g16_1 := fun h => by have := (Rv.rdv_ob O_L h).2; omega
   replace B_gd := kp_blk B_gd hk (fun h => h)
   replace B_gb := kp_blk B_gb hk (fun h => h)
   replace O_L := Rv.rdv_keep O_L hk (fun _ _ h => h)
   replace K_0 := K_0.then_ hk (fun _ h => h.elim)
   clear hk
   refine ⟨⟨B_gb, trivial⟩, ?_⟩
   have n_g16_1_gb := Ne.symm n_gb_g16_1
   have n_g16_1_gd := Ne.symm n_gd_g16_1
   have n_gb_gd := Ne.symm n_gd_gb
   exact dr16_1 g16_1 _ a (En.sub hE ⟨rfl, rfl, rfl, rfl, rfl, rfl, rfl, rfl, rfl, rfl, rfl, rfl, rfl, rfl, trivial⟩) B_gd B_gb B_g16_1 n_g16_1_gb n_g16_1_gd n_gb_gd z_0_g16_1 Nb_L_g16_1 O_L K_0
  refine all_cons (d_lit (listed' := #[true, false, true, true, true, true, true, false, false, true, false, false, true, true, true, false, true, false, false, false, false, false]) rfl ?_) ?_
  ·
   refine (s_still p18_16_5 hE wn_none rfl (st_load1 tA22 rfl ((blk_cell B_gd 1).trans rfl)) ?_); clear hE a; intro a hE
   refine ⟨⟨B_gb, trivial⟩, ?_⟩
   refine Rv.dq (listed' := #[true, false, true, true, true, true, true, true, false, true, false, false, true, true, true, false, true, false, false, false, false, false]) (v := Value.slice A i c) p18_16_7 ns18_16 hE wn_none ⟨B_gb, trivial⟩ (fun W hS => (st_sliceH (h := i) Tryd.underlying22 tS61 rfl rfl (by omega))) ?_ (fun c a w h => hQ c a _ _ w h); clear hE a; intro a hE
   have n_gb_gd := Ne.symm n_gd_gb
   exact dr16_5 _ a (En.sub hE ⟨rfl, rfl, rfl, rfl, rfl, rfl, rfl, rfl, rfl, rfl, rfl, rfl, rfl, rfl, rfl, trivial⟩) B_gd B_gb n_gb_gd O_L K_0
  refine all_cons (d_lit (listed' := #[true, false, true, true, true, false, true, false, false, true, true, false, true, true, true, false, true, false, false, false, false, false]) rfl ?_) ?_
  ·
   refine (s_row (xs := [(0, Operand.tmp 106)]) (vs := [(0, Value.agg #[Value.int .i64 r.1, Value.int .i64 r.2.1, Value.int .i64 r.2.2.1, Value.int .i64 r.2.2.2])]) (cs := #[Value.int .i64 r.1, Value.int .i64 r.2.1, Value.int .i64 r.2.2.1, Value.int .i64 r.2.2.2]) p18_16_10 hE wn_none rfl Tryd.underlying22 rfl (by kernel_rfl) ?_)
   clear hE a; intro g16_10 w112 z113 B_g16_10 hk a hE
   have n_gd_g16_10 : gd ≠ g16_10 := ne_new B_gd z113
   have n_gb_g16_10 : gb ≠ g16_10 := ne_new B_gb z113
   have z_0_g16_10 := Nat.le_trans K_0.kept.1 z113
   have Nb_L_g16_10 : ¬ OB A g16_10 := fun h => by have := (Rv.rdv_ob O_L h).2; omega
   replace B_gd := kp_blk B_gd hk (fun h => h)
   replace B_gb := kp_blk B_gb hk (fun h => h)
   replace O_L := Rv.rdv_keep O_L hk (fun _ _ h => h)
   replace K_0 := K_0.then_ hk (fun _ h => h.elim)
   clear hk
   refine ⟨⟨B_gb, trivial⟩, ?_⟩
   have n_g16_10_gb := Ne.symm n_gb_g16_10
   have n_g16_10_gd := Ne.symm n_gd_g16_10
   have n_gb_gd := Ne.symm n_gd_gb
   exact dr16_2 g16_10 _ a (En.sub hE ⟨rfl, rfl, rfl, rfl, rfl, rfl, rfl, rfl, rfl, rfl, rfl, rfl, rfl, rfl, trivial⟩) B_gd B_gb B_g16_10 n_g16_10_gb n_g16_10_gd n_gb_gd z_0_g16_10 Nb_L_g16_10 O_L K_0
  refine all_cons (d_lit (listed' := #[true, false, true, true, true, false, true, false, false, true, false, false, true, true, true, true, true, false, false, false, false, false]) rfl ?_) ?_
  ·
   refine (s_still p18_16_15 hE wn_none rfl (st_load1 tA22 rfl ((blk_cell B_gd 1).trans rfl)) ?_); clear hE a; intro a hE
   refine ⟨⟨B_gb, trivial⟩, ?_⟩
   refine Rv.dq (listed' := #[true, false, true, true, true, false, true, false, false, true, false, false, true, true, true, true, true, true, false, false, false, false]) (v := Value.slice AD (L.length - i) (c - i)) p18_16_17 ns18_16 hE wn_none ⟨B_gb, trivial⟩ (fun W hS => (st_sliceL (lo := i) (A' := AD) Tryd.underlying22 tS61 rfl rfl (by omega) rfl rfl hAD)) ?_ (fun c a w h => hQ c a _ _ w h); clear hE a; intro a hE
   have n_gb_gd := Ne.symm n_gd_gb
   exact dr16_3 _ a (En.sub hE ⟨rfl, rfl, rfl, rfl, rfl, rfl, rfl, rfl, rfl, rfl, rfl, rfl, rfl, rfl, rfl, trivial⟩) B_gd B_gb n_gb_gd O_L K_0
  exact all_nil
 intro w1 hh hk
 replace B_gd := kp_blk B_gd hk (fun h => h)
 replace B_gb := kp_blk B_gb hk (fun h => h)
 replace O_L := Rv.rdv_keep O_L hk (fun _ _ h => h)
 replace K_0 := K_0.then_ hk (fun _ h => h.elim)
 clear hh hk
 refine Rv.dq (listed' := #[true, false, false, false, false, false, false, false, false, false, false, false, false, false, false, false, false, false, false, false, false, false]) (v := Value.pointer (some ⟨gd, 0, none⟩)) p18_16_0 ns18_16 hE wn_none ⟨B_gb, trivial⟩ (fun W hS => (st_move rfl)) ?_ (fun c a w h => hQ c a _ _ w h); clear hE a; intro a hE
 refine Rv.dq (listed' := #[true, false, true, false, false, false, false, false, false, false, false, false, false, false, false, false, false, false, false, false, false, false]) (v := Value.pointer (some ⟨gd, 0, none⟩)) p18_16_2 ns18_16 hE wn_none ⟨B_gb, trivial⟩ (fun W hS => (st_move rfl)) ?_ (fun c a w h => hQ c a _ _ w h); clear hE a; intro a hE
 refine Rv.dq (listed' := #[true, false, true, true, false, false, false, false, false, false, false, false, false, false, false, false, false, false, false, false, false, false]) (v := Value.pointer (some ⟨gd, 0, none⟩)) p18_16_3 ns18_16 hE wn_none ⟨B_gb, trivial⟩ (fun W hS => (st_nil rfl)) ?_ (fun c a w h => hQ c a _ _ w h); clear hE a; intro a hE
 refine Rv.dq (listed' := #[true, false, true, true, true, false, false, false, false, false, false, false, false, false, false, false, false, false, false, false, false, false]) (v := Value.pointer (some ⟨gd, 1, none⟩)) p18_16_4 ns18_16 hE wn_none ⟨B_gb, trivial⟩ (fun W hS => (st_fieldAddr Tryd.underlying56 rfl tS22 rfl rfl)) ?_ (fun c a w h => hQ c a _ _ w h); clear hE a; intro a hE
 refine Rv.dq (listed' := #[true, false, true, true, true, false, true, false, false, false, false, false, false, false, false, false, false, false, false, false, false, false]) (v := Value.int .i64 (i : Int)) p18_16_6 ns18_16 hE wn_none ⟨B_gb, trivial⟩ (fun W hS => (st_move rfl)) ?_ (fun c a w h => hQ c a _ _ w h); clear hE a; intro a hE
 refine Rv.dq (listed' := #[true, false, true, true, true, false, true, false, false, true, false, false, false, false, false, false, false, false, false, false, false, false]) (v := Value.agg #[Value.int .i64 r.1, Value.int .i64 r.2.1, Value.int .i64 r.2.2.1, Value.int .i64 r.2.2.2]) p18_16_9 ns18_16 hE wn_none ⟨B_gb, trivial⟩ (fun W hS => (st_loadN (off := 0) (k := 4) (vs := [Value.int .i64 r.1, Value.int .i64 r.2.1, Value.int .i64 r.2.2.1, Value.int .i64 r.2.2.2]) tA61 tS61 rfl hS.1 rfl rfl)) ?_ (fun c a w h => hQ c a _ _ w h); clear hE a; intro a hE
 refine Rv.dq (listed' := #[true, false, true, true, true, false, true, false, false, true, false, false, true, false, false, false, false, false, false, false, false, false]) (v := Value.pointer (some ⟨gd, 0, none⟩)) p18_16_12 ns18_16 hE wn_none ⟨B_gb, trivial⟩ (fun W hS => (st_move rfl)) ?_ (fun c a w h => hQ c a _ _ w h); clear hE a; intro a hE
 refine Rv.dq (listed' := #[true, false, true, true, true, false, true, false, false, true, false, false, true, true, false, false, false, false, false, false, false, false]) (v := Value.pointer (some ⟨gd, 0, none⟩)) p18_16_13 ns18_16 hE wn_none ⟨B_gb, trivial⟩ (fun W hS => (st_nil rfl)) ?_ (fun c a w h => hQ c a _ _ w h); clear hE a; intro a hE
 refine Rv.dq (listed' := #[true, false, true, true, true, false, true, false, false, true, false, false, true, true, true, false, false, false, false, false, false, false]) (v := Value.pointer (some ⟨gd, 1, none⟩)) p18_16_14 ns18_16 hE wn_none ⟨B_gb, trivial⟩ (fun W hS => (st_fieldAddr Tryd.underlying56 rfl tS22 rfl rfl)) ?_ (fun c a w h => hQ c a _ _ w h); clear hE a; intro a hE
 refine Rv.dq (listed' := #[true, false, true, true, true, false, true, false, false, true, false, false, true, true, true, false, true, false, false, false, false, false]) (v := Value.int .i64 (i : Int)) p18_16_16 ns18_16 hE wn_none ⟨B_gb, trivial⟩ (fun W hS => (st_move rfl)) ?_ (fun c a w h => hQ c a _ _ w h); clear hE a; intro a hE
 have n_gb_gd := Ne.symm n_gd_gb
 exact dr16_0 _ a (En.sub hE ⟨rfl, rfl, rfl, rfl, rfl, rfl, rfl, rfl, rfl, rfl, rfl, rfl, rfl, trivial⟩) B_gd B_gb O_L K_0
end Go.Proofs.YtnmlckaeheiodaaDoor.Rd19
