/- Contracts of package header: Check, Passed, Encode. -/
import Derived.Test.YtndiddfleidnaaaConcat
set_option maxRecDepth 100000
set_option linter.unusedVariables false
set_option linter.unusedSimpArgs false
namespace Go.Proofs.Ytndiddfleidnaaa.Hd
open Go.RowKit Go.Proofs.YtndiddfleidnaaaW.PrintWords Go.Proofs.Ytndiddfleidnaaa.Ds Go.Proofs.Ytndiddfleidnaaa.Cc
open Go.Proofs.Ytndiddfleidnaaa.Pk (Kp fitsF spanF putF digF fits_any put_ok)
theorem kp_eq {w w' : World} (h : w' = w) (S : Nat → Prop) : Kp w w' S := by rw [h]; exact Kp.refl _ _
theorem kp_n {w w' : World} (h : ∃ n, w' = w.drewN n) (S : Nat → Prop) : Kp w w' S := by obtain ⟨n, rfl⟩ := h; exact (Kp.refl _ _).drewN n
def okF (c f l x h : Int) : Bool := fitsF 1 [c, x, h] && fitsF 2 [l] && decide (0 ≤ f ∧ f < 1048576)
theorem fits1 {l : List Int} (h : ∀ x ∈ l, 0 ≤ x ∧ x ≤ 255) : fitsF 1 l = true := by
  simp only [fitsF, Bool.and_eq_true, List.all_eq_true, decide_eq_true_eq]
  exact ⟨by decide, fun x hx => by have := h x hx; have : spanF 1 = 256 := rfl; omega⟩
theorem okF_of {c f l x h : Int} (H : okF c f l x h = true) : (0 ≤ c ∧ c ≤ 255) ∧ (0 ≤ f ∧ f ≤ 1048575) ∧ (0 ≤ l ∧ l ≤ 65535) ∧ (0 ≤ x ∧ x ≤ 255) ∧ (0 ≤ h ∧ h ≤ 255) := by
  simp only [okF, fitsF, Bool.and_eq_true, List.all_eq_true, decide_eq_true_eq] at H
  obtain ⟨⟨⟨_, h1⟩, ⟨_, h2⟩⟩, h3⟩ := H
  have e1 : spanF 1 = 256 := rfl
  have e2 : spanF 2 = 65536 := rfl
  have a1 := h1 c (by simp)
  have a2 := h1 x (by simp)
  have a3 := h1 h (by simp)
  have a4 := h2 l (by simp)
  omega
theorem okF_mk {c f l x h : Int} (hc : 0 ≤ c ∧ c ≤ 255) (hf : 0 ≤ f ∧ f ≤ 1048575) (hl : 0 ≤ l ∧ l ≤ 65535) (hx : 0 ≤ x ∧ x ≤ 255) (hh : 0 ≤ h ∧ h ≤ 255) : okF c f l x h = true := by
  simp only [okF, fitsF, Bool.and_eq_true, List.all_eq_true, decide_eq_true_eq]
  have e1 : spanF 1 = 256 := rfl
  have e2 : spanF 2 = 65536 := rfl
  refine ⟨⟨⟨by omega, ?_⟩, ⟨by omega, ?_⟩⟩, by omega⟩
  · intro y hy; simp at hy; omega
  · intro y hy; simp at hy; omega
theorem fits4 (c f : Int) (hc : 0 ≤ c ∧ c ≤ 255) (hf : 0 ≤ f ∧ f ≤ 1048575) : fitsF 4 [(1536 + c) * 1048576 + f] = true := by
  simp only [fitsF, Bool.and_eq_true, List.all_eq_true, decide_eq_true_eq]
  have e1 : spanF 4 = 4294967296 := rfl
  exact ⟨by omega, fun y hy => by simp at hy; omega⟩
theorem fits2 (l : Int) (hl : 0 ≤ l ∧ l ≤ 65535) : fitsF 2 [l] = true := by
  simp only [fitsF, Bool.and_eq_true, List.all_eq_true, decide_eq_true_eq]
  have e1 : spanF 2 = 65536 := rfl
  exact ⟨by omega, fun y hy => by simp at hy; omega⟩
/-- A header's bytes. -/
def encF (c f l x h : Int) (s d : Nat → Int) : List Int := putF 4 [(1536 + c) * 1048576 + f] ++ putF 2 [l] ++ putF 1 [x, h] ++ l16 s ++ l16 d
theorem put4 (y : Int) : putF 4 [y] = [y / 16777216 % 256, y / 65536 % 256, y / 256 % 256, y % 256] := rfl
theorem put2 (y : Int) : putF 2 [y] = [y / 256 % 256, y % 256] := rfl
theorem put1 (x y : Int) : putF 1 [x, y] = [x % 256, y % 256] := rfl
theorem R15_0_l : List.range (regOf Try.f15 0).size = [0, 1] := by kernel_rfl
theorem R15_1_l : List.range (regOf Try.f15 1).size = [0, 1, 2, 3, 4, 5, 6, 7, 8, 9, 10, 11, 12, 13, 14, 15] := by kernel_rfl
theorem body15 : Try.f15.body = some (.seq (.region 0 (regOf Try.f15 0) false) (.seq (.region 1 (regOf Try.f15 1) false) (.ret))) := by kernel_rfl
theorem p15_0_0 : pj (regOf Try.f15 0) 0 = some (some 1, Op.box 24 (Operand.tmp 0), 0, none) := by kernel_rfl
theorem p15_0_1 : pj (regOf Try.f15 0) 1 = some (some 2, Op.alloc 27, 0, none) := by kernel_rfl
theorem tZ27 : (Try.prog.info? 27).bind (·.zero) = some (Value.agg #[Value.int .i64 0, Value.int .i64 0, Value.int .i64 0, Value.int .i64 0, Value.int .i64 0, Value.int .u8 0, Value.int .u8 0, Value.int .u8 0, Value.int .u8 0, Value.int .u8 0, Value.int .u8 0, Value.int .u8 0, Value.int .u8 0, Value.int .u8 0, Value.int .u8 0, Value.int .u8 0, Value.int .u8 0, Value.int .u8 0, Value.int .u8 0, Value.int .u8 0, Value.int .u8 0, Value.int .u8 0, Value.int .u8 0, Value.int .u8 0, Value.int .u8 0, Value.int .u8 0, Value.int .u8 0, Value.int .u8 0, Value.int .u8 0, Value.int .u8 0, Value.int .u8 0, Value.int .u8 0, Value.int .u8 0, Value.int .u8 0, Value.int .u8 0, Value.int .u8 0, Value.int .u8 0]) := by kernel_rfl
theorem p15_1_0 : pj (regOf Try.f15 1) 0 = some (some 3, Op.fieldAddr 24 (Operand.tmp 1) 0, 0, none) := by kernel_rfl
theorem tS3 : (Try.prog.info? 3).map (·.size) = some 1 := by kernel_rfl
theorem p15_1_1 : pj (regOf Try.f15 1) 1 = some (some 4, Op.load 3 (Operand.tmp 3), 3, none) := by kernel_rfl
theorem tA3 : (Try.prog.underlying 3).map aggD = some false := by kernel_rfl
theorem p15_1_2 : pj (regOf Try.f15 1) 2 = some (some 5, Op.fieldAddr 24 (Operand.tmp 1) 1, 0, none) := by kernel_rfl
theorem p15_1_3 : pj (regOf Try.f15 1) 3 = some (some 6, Op.load 3 (Operand.tmp 5), 3, none) := by kernel_rfl
theorem p15_1_4 : pj (regOf Try.f15 1) 4 = some (some 7, Op.fieldAddr 24 (Operand.tmp 1) 2, 0, none) := by kernel_rfl
theorem p15_1_5 : pj (regOf Try.f15 1) 5 = some (some 8, Op.load 3 (Operand.tmp 7), 3, none) := by kernel_rfl
theorem p15_1_6 : pj (regOf Try.f15 1) 6 = some (some 9, Op.fieldAddr 24 (Operand.tmp 1) 3, 0, none) := by kernel_rfl
theorem p15_1_7 : pj (regOf Try.f15 1) 7 = some (some 10, Op.load 3 (Operand.tmp 9), 3, none) := by kernel_rfl
theorem p15_1_8 : pj (regOf Try.f15 1) 8 = some (some 11, Op.fieldAddr 24 (Operand.tmp 1) 4, 0, none) := by kernel_rfl
theorem p15_1_9 : pj (regOf Try.f15 1) 9 = some (some 12, Op.load 3 (Operand.tmp 11), 3, none) := by kernel_rfl
theorem p15_1_10 : pj (regOf Try.f15 1) 10 = some (some 13, Op.fieldAddr 24 (Operand.tmp 1) 5, 0, none) := by kernel_rfl
theorem tS22 : (Try.prog.info? 22).map (·.size) = some 16 := by kernel_rfl
theorem p15_1_11 : pj (regOf Try.f15 1) 11 = some (some 14, Op.load 22 (Operand.tmp 13), 22, none) := by kernel_rfl
theorem tA22 : (Try.prog.underlying 22).map aggD = some true := by kernel_rfl
theorem p15_1_12 : pj (regOf Try.f15 1) 12 = some (some 15, Op.fieldAddr 24 (Operand.tmp 1) 6, 0, none) := by kernel_rfl
theorem p15_1_13 : pj (regOf Try.f15 1) 13 = some (some 16, Op.load 22 (Operand.tmp 15), 22, none) := by kernel_rfl
theorem p15_1_14 : pj (regOf Try.f15 1) 14 = some (some 17, Op.build 27 #[(0, Operand.tmp 4), (1, Operand.tmp 6), (2, Operand.tmp 8), (3, Operand.tmp 10), (4, Operand.tmp 12), (5, Operand.tmp 14), (6, Operand.tmp 16)], 27, none) := by kernel_rfl
theorem p15_1_15 : pj (regOf Try.f15 1) 15 = some (none, Op.store 27 (Operand.tmp 2) (Operand.tmp 17), 0, none) := by kernel_rfl
theorem tS27 : (Try.prog.info? 27).map (·.size) = some 37 := by kernel_rfl
theorem tA27 : (Try.prog.underlying 27).map aggD = some true := by kernel_rfl
set_option maxHeartbeats 4000000 in
theorem to_any (c f l x h : Int) (s d : Nat → Int) (w : World) : Calls Try.prog 15 #[Value.agg (([Value.int .i64 c, Value.int .i64 f, Value.int .i64 l, Value.int .i64 x, Value.int .i64 h] ++ b16 s ++ b16 d)).toArray] w fun e w' => e = .returned (Value.agg (([Value.int .i64 c, Value.int .i64 f, Value.int .i64 l, Value.int .i64 x, Value.int .i64 h] ++ b16 s ++ b16 d)).toArray) ∧ Kp w w' (fun _ => False) := by
  have K_0 := Kp.refl w (fun _ => False)
  refine enter (args := [Value.agg (([Value.int .i64 c, Value.int .i64 f, Value.int .i64 l, Value.int .i64 x, Value.int .i64 h] ++ b16 s ++ b16 d)).toArray]) (n := 18) Try.func15 body15 rfl rfl rfl ?_
  intro a hE
  refine c_reg R15_0_l ?_
  refine p_cons (s_box p15_0_0 hE wn_none rfl rfl ?_)
  clear hE a; intro g1 w2 z3 B_g1 hk a hE
  replace B_g1 : w2.heap[g1]? = some (.cells (([Value.int .i64 c, Value.int .i64 f, Value.int .i64 l, Value.int .i64 x, Value.int .i64 h] ++ b16 s ++ b16 d)).toArray 24 (0, 0)) := B_g1
  have z_0_g1 := Nat.le_trans K_0.kept.1 z3
  replace K_0 := K_0.then_ hk (fun _ h => h.elim)
  clear hk
  refine p_cons (s_alloc p15_0_1 hE wn_none rfl tZ27 ?_)
  clear hE a; intro g4 w5 z6 B_g4 hk a hE
  replace B_g4 : w5.heap[g4]? = some (.cells #[Value.int .i64 0, Value.int .i64 0, Value.int .i64 0, Value.int .i64 0, Value.int .i64 0, Value.int .u8 0, Value.int .u8 0, Value.int .u8 0, Value.int .u8 0, Value.int .u8 0, Value.int .u8 0, Value.int .u8 0, Value.int .u8 0, Value.int .u8 0, Value.int .u8 0, Value.int .u8 0, Value.int .u8 0, Value.int .u8 0, Value.int .u8 0, Value.int .u8 0, Value.int .u8 0, Value.int .u8 0, Value.int .u8 0, Value.int .u8 0, Value.int .u8 0, Value.int .u8 0, Value.int .u8 0, Value.int .u8 0, Value.int .u8 0, Value.int .u8 0, Value.int .u8 0, Value.int .u8 0, Value.int .u8 0, Value.int .u8 0, Value.int .u8 0, Value.int .u8 0, Value.int .u8 0] 27 (0, 0)) := B_g4
  have n_g1_g4 : g1 ≠ g4 := ne_new B_g1 z6
  have z_0_g4 := Nat.le_trans K_0.kept.1 z6
  replace B_g1 := kp_blk B_g1 hk (fun h => h)
  replace K_0 := K_0.then_ hk (fun _ h => h.elim)
  clear hk
  refine p_nil ?_
  refine x_norm ?_
  refine c_reg R15_1_l ?_
  refine p_cons (s_still p15_1_0 hE wn_none rfl (st_fieldAddr Try.underlying24 rfl tS3 rfl rfl) ?_)
  clear hE a; intro a hE
  refine p_cons (s_still p15_1_1 hE wn_none rfl (st_load1 tA3 rfl ((blk_cell B_g1 0).trans rfl)) ?_)
  clear hE a; intro a hE
  refine p_cons (s_still p15_1_2 hE wn_none rfl (st_fieldAddr Try.underlying24 rfl tS3 rfl rfl) ?_)
  clear hE a; intro a hE
  refine p_cons (s_still p15_1_3 hE wn_none rfl (st_load1 tA3 rfl ((blk_cell B_g1 1).trans rfl)) ?_)
  clear hE a; intro a hE
  refine p_cons (s_still p15_1_4 hE wn_none rfl (st_fieldAddr Try.underlying24 rfl tS3 rfl rfl) ?_)
  clear hE a; intro a hE
  refine p_cons (s_still p15_1_5 hE wn_none rfl (st_load1 tA3 rfl ((blk_cell B_g1 2).trans rfl)) ?_)
  clear hE a; intro a hE
  refine p_cons (s_still p15_1_6 hE wn_none rfl (st_fieldAddr Try.underlying24 rfl tS3 rfl rfl) ?_)
  clear hE a; intro a hE
  refine p_cons (s_still p15_1_7 hE wn_none rfl (st_load1 tA3 rfl ((blk_cell B_g1 3).trans rfl)) ?_)
  clear hE a; intro a hE
  refine p_cons (s_still p15_1_8 hE wn_none rfl (st_fieldAddr Try.underlying24 rfl tS3 rfl rfl) ?_)
  clear hE a; intro a hE
  refine p_cons (s_still p15_1_9 hE wn_none rfl (st_load1 tA3 rfl ((blk_cell B_g1 4).trans rfl)) ?_)
  clear hE a; intro a hE
  refine p_cons (s_still p15_1_10 hE wn_none rfl (st_fieldAddr Try.underlying24 rfl tS22 rfl rfl) ?_)
  clear hE a; intro a hE
  refine p_cons (s_still p15_1_11 hE wn_none rfl (st_loadN (off := 5) (k := 16) (vs := b16 s) tA22 tS22 rfl B_g1 rfl rfl) ?_)
  clear hE a; intro a hE
  refine p_cons (s_still p15_1_12 hE wn_none rfl (st_fieldAddr Try.underlying24 rfl tS22 rfl rfl) ?_)
  clear hE a; intro a hE
  refine p_cons (s_still p15_1_13 hE wn_none rfl (st_loadN (off := 21) (k := 16) (vs := b16 d) tA22 tS22 rfl B_g1 rfl rfl) ?_)
  clear hE a; intro a hE
  refine p_cons (s_still p15_1_14 hE wn_none rfl (st_build (xs := [(0, Operand.tmp 4), (1, Operand.tmp 6), (2, Operand.tmp 8), (3, Operand.tmp 10), (4, Operand.tmp 12), (5, Operand.tmp 14), (6, Operand.tmp 16)]) (vs := [(0, Value.int .i64 c), (1, Value.int .i64 f), (2, Value.int .i64 l), (3, Value.int .i64 x), (4, Value.int .i64 h), (5, Value.agg (b16 s).toArray), (6, Value.agg (b16 d).toArray)]) (cs := (([Value.int .i64 c, Value.int .i64 f, Value.int .i64 l, Value.int .i64 x, Value.int .i64 h] ++ b16 s ++ b16 d)).toArray) rfl (by kernel_rfl)) ?_)
  clear hE a; intro a hE
  refine p_cons (s_store (off := 0) (k := 37) (cs' := (([Value.int .i64 c, Value.int .i64 f, Value.int .i64 l, Value.int .i64 x, Value.int .i64 h] ++ b16 s ++ b16 d)).toArray) p15_1_15 hE wn_none tS27 rfl rfl rfl rfl B_g4 (Nat.le_of_ble_eq_true rfl) rfl ?_)
  intro w7 B_g4' hk
  replace B_g1 := kp_blk B_g1 hk n_g1_g4
  replace K_0 := K_0.then_ hk (fun k h => by rw [show k = g4 from h]; exact Or.inr z_0_g4)
  replace B_g4 := B_g4'
  clear hk
  refine p_nil ?_
  refine x_norm ?_
  refine wp_ret ?_
  refine ret_one (v := Value.agg (([Value.int .i64 c, Value.int .i64 f, Value.int .i64 l, Value.int .i64 x, Value.int .i64 h] ++ b16 s ++ b16 d)).toArray) rfl hE (.cellN (us := ([Value.int .i64 c, Value.int .i64 f, Value.int .i64 l, Value.int .i64 x, Value.int .i64 h] ++ b16 s ++ b16 d)) tA27 tS27 rfl B_g4 rfl .nil) ?_
  exact ⟨rfl, K_0⟩
theorem R23_0_l : List.range (regOf Try.f23 0).size = [0, 1] := by kernel_rfl
theorem R23_1_l : List.range (regOf Try.f23 1).size = [0, 1, 2, 3, 4, 5, 6, 7, 8, 9, 10, 11, 12, 13, 14, 15] := by kernel_rfl
theorem body23 : Try.f23.body = some (.seq (.region 0 (regOf Try.f23 0) false) (.seq (.region 1 (regOf Try.f23 1) false) (.ret))) := by kernel_rfl
theorem p23_0_0 : pj (regOf Try.f23 0) 0 = some (some 1, Op.box 27 (Operand.tmp 0), 0, none) := by kernel_rfl
theorem p23_0_1 : pj (regOf Try.f23 0) 1 = some (some 2, Op.alloc 24, 0, none) := by kernel_rfl
theorem tZ24 : (Try.prog.info? 24).bind (·.zero) = some (Value.agg #[Value.int .i64 0, Value.int .i64 0, Value.int .i64 0, Value.int .i64 0, Value.int .i64 0, Value.int .u8 0, Value.int .u8 0, Value.int .u8 0, Value.int .u8 0, Value.int .u8 0, Value.int .u8 0, Value.int .u8 0, Value.int .u8 0, Value.int .u8 0, Value.int .u8 0, Value.int .u8 0, Value.int .u8 0, Value.int .u8 0, Value.int .u8 0, Value.int .u8 0, Value.int .u8 0, Value.int .u8 0, Value.int .u8 0, Value.int .u8 0, Value.int .u8 0, Value.int .u8 0, Value.int .u8 0, Value.int .u8 0, Value.int .u8 0, Value.int .u8 0, Value.int .u8 0, Value.int .u8 0, Value.int .u8 0, Value.int .u8 0, Value.int .u8 0, Value.int .u8 0, Value.int .u8 0]) := by kernel_rfl
theorem p23_1_0 : pj (regOf Try.f23 1) 0 = some (some 3, Op.fieldAddr 27 (Operand.tmp 1) 0, 0, none) := by kernel_rfl
theorem p23_1_1 : pj (regOf Try.f23 1) 1 = some (some 4, Op.load 3 (Operand.tmp 3), 3, none) := by kernel_rfl
theorem p23_1_2 : pj (regOf Try.f23 1) 2 = some (some 5, Op.fieldAddr 27 (Operand.tmp 1) 1, 0, none) := by kernel_rfl
theorem p23_1_3 : pj (regOf Try.f23 1) 3 = some (some 6, Op.load 3 (Operand.tmp 5), 3, none) := by kernel_rfl
theorem p23_1_4 : pj (regOf Try.f23 1) 4 = some (some 7, Op.fieldAddr 27 (Operand.tmp 1) 2, 0, none) := by kernel_rfl
theorem p23_1_5 : pj (regOf Try.f23 1) 5 = some (some 8, Op.load 3 (Operand.tmp 7), 3, none) := by kernel_rfl
theorem p23_1_6 : pj (regOf Try.f23 1) 6 = some (some 9, Op.fieldAddr 27 (Operand.tmp 1) 3, 0, none) := by kernel_rfl
theorem p23_1_7 : pj (regOf Try.f23 1) 7 = some (some 10, Op.load 3 (Operand.tmp 9), 3, none) := by kernel_rfl
theorem p23_1_8 : pj (regOf Try.f23 1) 8 = some (some 11, Op.fieldAddr 27 (Operand.tmp 1) 4, 0, none) := by kernel_rfl
theorem p23_1_9 : pj (regOf Try.f23 1) 9 = some (some 12, Op.load 3 (Operand.tmp 11), 3, none) := by kernel_rfl
theorem p23_1_10 : pj (regOf Try.f23 1) 10 = some (some 13, Op.fieldAddr 27 (Operand.tmp 1) 5, 0, none) := by kernel_rfl
theorem tS25 : (Try.prog.info? 25).map (·.size) = some 16 := by kernel_rfl
theorem p23_1_11 : pj (regOf Try.f23 1) 11 = some (some 14, Op.load 25 (Operand.tmp 13), 25, none) := by kernel_rfl
theorem tA25 : (Try.prog.underlying 25).map aggD = some true := by kernel_rfl
theorem p23_1_12 : pj (regOf Try.f23 1) 12 = some (some 15, Op.fieldAddr 27 (Operand.tmp 1) 6, 0, none) := by kernel_rfl
theorem p23_1_13 : pj (regOf Try.f23 1) 13 = some (some 16, Op.load 25 (Operand.tmp 15), 25, none) := by kernel_rfl
theorem p23_1_14 : pj (regOf Try.f23 1) 14 = some (some 17, Op.build 24 #[(0, Operand.tmp 4), (1, Operand.tmp 6), (2, Operand.tmp 8), (3, Operand.tmp 10), (4, Operand.tmp 12), (5, Operand.tmp 14), (6, Operand.tmp 16)], 24, none) := by kernel_rfl
theorem p23_1_15 : pj (regOf Try.f23 1) 15 = some (none, Op.store 24 (Operand.tmp 2) (Operand.tmp 17), 0, none) := by kernel_rfl
theorem tS24 : (Try.prog.info? 24).map (·.size) = some 37 := by kernel_rfl
theorem tA24 : (Try.prog.underlying 24).map aggD = some true := by kernel_rfl
set_option maxHeartbeats 4000000 in
theorem of_any (c f l x h : Int) (s d : Nat → Int) (w : World) : Calls Try.prog 23 #[Value.agg (([Value.int .i64 c, Value.int .i64 f, Value.int .i64 l, Value.int .i64 x, Value.int .i64 h] ++ b16 s ++ b16 d)).toArray] w fun e w' => e = .returned (Value.agg (([Value.int .i64 c, Value.int .i64 f, Value.int .i64 l, Value.int .i64 x, Value.int .i64 h] ++ b16 s ++ b16 d)).toArray) ∧ Kp w w' (fun _ => False) := by
  have K_0 := Kp.refl w (fun _ => False)
  refine enter (args := [Value.agg (([Value.int .i64 c, Value.int .i64 f, Value.int .i64 l, Value.int .i64 x, Value.int .i64 h] ++ b16 s ++ b16 d)).toArray]) (n := 18) Try.func23 body23 rfl rfl rfl ?_
  intro a hE
  refine c_reg R23_0_l ?_
  refine p_cons (s_box p23_0_0 hE wn_none rfl rfl ?_)
  clear hE a; intro g1 w2 z3 B_g1 hk a hE
  replace B_g1 : w2.heap[g1]? = some (.cells (([Value.int .i64 c, Value.int .i64 f, Value.int .i64 l, Value.int .i64 x, Value.int .i64 h] ++ b16 s ++ b16 d)).toArray 27 (0, 0)) := B_g1
  have z_0_g1 := Nat.le_trans K_0.kept.1 z3
  replace K_0 := K_0.then_ hk (fun _ h => h.elim)
  clear hk
  refine p_cons (s_alloc p23_0_1 hE wn_none rfl tZ24 ?_)
  clear hE a; intro g4 w5 z6 B_g4 hk a hE
  replace B_g4 : w5.heap[g4]? = some (.cells #[Value.int .i64 0, Value.int .i64 0, Value.int .i64 0, Value.int .i64 0, Value.int .i64 0, Value.int .u8 0, Value.int .u8 0, Value.int .u8 0, Value.int .u8 0, Value.int .u8 0, Value.int .u8 0, Value.int .u8 0, Value.int .u8 0, Value.int .u8 0, Value.int .u8 0, Value.int .u8 0, Value.int .u8 0, Value.int .u8 0, Value.int .u8 0, Value.int .u8 0, Value.int .u8 0, Value.int .u8 0, Value.int .u8 0, Value.int .u8 0, Value.int .u8 0, Value.int .u8 0, Value.int .u8 0, Value.int .u8 0, Value.int .u8 0, Value.int .u8 0, Value.int .u8 0, Value.int .u8 0, Value.int .u8 0, Value.int .u8 0, Value.int .u8 0, Value.int .u8 0, Value.int .u8 0] 24 (0, 0)) := B_g4
  have n_g1_g4 : g1 ≠ g4 := ne_new B_g1 z6
  have z_0_g4 := Nat.le_trans K_0.kept.1 z6
  replace B_g1 := kp_blk B_g1 hk (fun h => h)
  replace K_0 := K_0.then_ hk (fun _ h => h.elim)
  clear hk
  refine p_nil ?_
  refine x_norm ?_
  refine c_reg R23_1_l ?_
  refine p_cons (s_still p23_1_0 hE wn_none rfl (st_fieldAddr Try.underlying27 rfl tS3 rfl rfl) ?_)
  clear hE a; intro a hE
  refine p_cons (s_still p23_1_1 hE wn_none rfl (st_load1 tA3 rfl ((blk_cell B_g1 0).trans rfl)) ?_)
  clear hE a; intro a hE
  refine p_cons (s_still p23_1_2 hE wn_none rfl (st_fieldAddr Try.underlying27 rfl tS3 rfl rfl) ?_)
  clear hE a; intro a hE
  refine p_cons (s_still p23_1_3 hE wn_none rfl (st_load1 tA3 rfl ((blk_cell B_g1 1).trans rfl)) ?_)
  clear hE a; intro a hE
  refine p_cons (s_still p23_1_4 hE wn_none rfl (st_fieldAddr Try.underlying27 rfl tS3 rfl rfl) ?_)
  clear hE a; intro a hE
  refine p_cons (s_still p23_1_5 hE wn_none rfl (st_load1 tA3 rfl ((blk_cell B_g1 2).trans rfl)) ?_)
  clear hE a; intro a hE
  refine p_cons (s_still p23_1_6 hE wn_none rfl (st_fieldAddr Try.underlying27 rfl tS3 rfl rfl) ?_)
  clear hE a; intro a hE
  refine p_cons (s_still p23_1_7 hE wn_none rfl (st_load1 tA3 rfl ((blk_cell B_g1 3).trans rfl)) ?_)
  clear hE a; intro a hE
  refine p_cons (s_still p23_1_8 hE wn_none rfl (st_fieldAddr Try.underlying27 rfl tS3 rfl rfl) ?_)
  clear hE a; intro a hE
  refine p_cons (s_still p23_1_9 hE wn_none rfl (st_load1 tA3 rfl ((blk_cell B_g1 4).trans rfl)) ?_)
  clear hE a; intro a hE
  refine p_cons (s_still p23_1_10 hE wn_none rfl (st_fieldAddr Try.underlying27 rfl tS25 rfl rfl) ?_)
  clear hE a; intro a hE
  refine p_cons (s_still p23_1_11 hE wn_none rfl (st_loadN (off := 5) (k := 16) (vs := b16 s) tA25 tS25 rfl B_g1 rfl rfl) ?_)
  clear hE a; intro a hE
  refine p_cons (s_still p23_1_12 hE wn_none rfl (st_fieldAddr Try.underlying27 rfl tS25 rfl rfl) ?_)
  clear hE a; intro a hE
  refine p_cons (s_still p23_1_13 hE wn_none rfl (st_loadN (off := 21) (k := 16) (vs := b16 d) tA25 tS25 rfl B_g1 rfl rfl) ?_)
  clear hE a; intro a hE
  refine p_cons (s_still p23_1_14 hE wn_none rfl (st_build (xs := [(0, Operand.tmp 4), (1, Operand.tmp 6), (2, Operand.tmp 8), (3, Operand.tmp 10), (4, Operand.tmp 12), (5, Operand.tmp 14), (6, Operand.tmp 16)]) (vs := [(0, Value.int .i64 c), (1, Value.int .i64 f), (2, Value.int .i64 l), (3, Value.int .i64 x), (4, Value.int .i64 h), (5, Value.agg (b16 s).toArray), (6, Value.agg (b16 d).toArray)]) (cs := (([Value.int .i64 c, Value.int .i64 f, Value.int .i64 l, Value.int .i64 x, Value.int .i64 h] ++ b16 s ++ b16 d)).toArray) rfl (by kernel_rfl)) ?_)
  clear hE a; intro a hE
  refine p_cons (s_store (off := 0) (k := 37) (cs' := (([Value.int .i64 c, Value.int .i64 f, Value.int .i64 l, Value.int .i64 x, Value.int .i64 h] ++ b16 s ++ b16 d)).toArray) p23_1_15 hE wn_none tS24 rfl rfl rfl rfl B_g4 (Nat.le_of_ble_eq_true rfl) rfl ?_)
  intro w7 B_g4' hk
  replace B_g1 := kp_blk B_g1 hk n_g1_g4
  replace K_0 := K_0.then_ hk (fun k h => by rw [show k = g4 from h]; exact Or.inr z_0_g4)
  replace B_g4 := B_g4'
  clear hk
  refine p_nil ?_
  refine x_norm ?_
  refine wp_ret ?_
  refine ret_one (v := Value.agg (([Value.int .i64 c, Value.int .i64 f, Value.int .i64 l, Value.int .i64 x, Value.int .i64 h] ++ b16 s ++ b16 d)).toArray) rfl hE (.cellN (us := ([Value.int .i64 c, Value.int .i64 f, Value.int .i64 l, Value.int .i64 x, Value.int .i64 h] ++ b16 s ++ b16 d)) tA24 tS24 rfl B_g4 rfl .nil) ?_
  exact ⟨rfl, K_0⟩
theorem R16_0_l : List.range (regOf Try.f16 0).size = [0, 1] := by kernel_rfl
theorem R16_1_l : List.range (regOf Try.f16 1).size = [0, 1, 2, 3, 4, 5, 6, 7, 8, 9, 10, 11, 12, 13, 14, 15, 16, 17, 18, 19, 20, 21, 22, 23, 24, 25] := by kernel_rfl
theorem R16_2_l : List.range (regOf Try.f16 2).size = [0] := by kernel_rfl
theorem R16_3_l : List.range (regOf Try.f16 3).size = [0] := by kernel_rfl
theorem body16 : Try.f16.body = some (.seq (.region 0 (regOf Try.f16 0) false) (.seq (.seq (.region 1 (regOf Try.f16 1) false) (.cond (Operand.tmp 28) (.seq (.region 2 (regOf Try.f16 2) false) (.ret)) (.skip))) (.seq (.region 3 (regOf Try.f16 3) false) (.ret)))) := by kernel_rfl
theorem p16_0_0 : pj (regOf Try.f16 0) 0 = some (some 1, Op.box 27 (Operand.tmp 0), 0, none) := by kernel_rfl
theorem p16_0_1 : pj (regOf Try.f16 0) 1 = some (some 2, Op.assign (Operand.const (Value.int IntKind.i64 0)), 29, none) := by kernel_rfl
theorem p16_1_0 : pj (regOf Try.f16 1) 0 = some (some 3, Op.fieldAddr 27 (Operand.tmp 1) 0, 0, none) := by kernel_rfl
theorem p16_1_1 : pj (regOf Try.f16 1) 1 = some (some 4, Op.load 3 (Operand.tmp 3), 3, none) := by kernel_rfl
theorem p16_1_2 : pj (regOf Try.f16 1) 2 = some (some 5, Op.fieldAddr 27 (Operand.tmp 1) 3, 0, none) := by kernel_rfl
theorem p16_1_3 : pj (regOf Try.f16 1) 3 = some (some 6, Op.load 3 (Operand.tmp 5), 3, none) := by kernel_rfl
theorem p16_1_4 : pj (regOf Try.f16 1) 4 = some (some 7, Op.fieldAddr 27 (Operand.tmp 1) 4, 0, none) := by kernel_rfl
theorem p16_1_5 : pj (regOf Try.f16 1) 5 = some (some 8, Op.load 3 (Operand.tmp 7), 3, none) := by kernel_rfl
theorem p16_1_6 : pj (regOf Try.f16 1) 6 = some (some 9, Op.buildSlice 62 3 #[(0, Operand.tmp 4), (1, Operand.tmp 6), (2, Operand.tmp 8)], 62, none) := by kernel_rfl
theorem p16_1_7 : pj (regOf Try.f16 1) 7 = some (some 10, Op.call { callee := Callee.value (Operand.func 69), args := #[Operand.const (Value.int IntKind.i64 1), Operand.tmp 9], argTypes := #[3, 62] }, 4, none) := by kernel_rfl
theorem cl69 : callable Try.f69 = true := by kernel_rfl
theorem p16_1_8 : pj (regOf Try.f16 1) 8 = some (some 11, Op.unOp UnOp.not 4 (Operand.tmp 10), 4, none) := by kernel_rfl
theorem p16_1_9 : pj (regOf Try.f16 1) 9 = some (some 12, Op.move (Operand.tmp 11), 4, none) := by kernel_rfl
theorem p16_1_10 : pj (regOf Try.f16 1) 10 = some (some 13, Op.fieldAddr 27 (Operand.tmp 1) 2, 0, some (9, false)) := by kernel_rfl
theorem g16_1_9 : dstOf (regOf Try.f16 1) 9 = some 12 := by kernel_rfl
theorem p16_1_11 : pj (regOf Try.f16 1) 11 = some (some 14, Op.load 3 (Operand.tmp 13), 3, some (9, false)) := by kernel_rfl
theorem p16_1_12 : pj (regOf Try.f16 1) 12 = some (some 15, Op.buildSlice 62 1 #[(0, Operand.tmp 14)], 62, some (9, false)) := by kernel_rfl
theorem p16_1_13 : pj (regOf Try.f16 1) 13 = some (some 16, Op.call { callee := Callee.value (Operand.func 69), args := #[Operand.const (Value.int IntKind.i64 2), Operand.tmp 15], argTypes := #[3, 62] }, 4, some (9, false)) := by kernel_rfl
theorem p16_1_14 : pj (regOf Try.f16 1) 14 = some (some 17, Op.unOp UnOp.not 4 (Operand.tmp 16), 4, some (9, false)) := by kernel_rfl
theorem p16_1_15 : pj (regOf Try.f16 1) 15 = some (some 18, Op.pick (Operand.tmp 12) (Operand.const (Value.bool true)) (Operand.tmp 17), 4, none) := by kernel_rfl
theorem p16_1_16 : pj (regOf Try.f16 1) 16 = some (some 19, Op.move (Operand.tmp 18), 4, none) := by kernel_rfl
theorem p16_1_17 : pj (regOf Try.f16 1) 17 = some (some 20, Op.fieldAddr 27 (Operand.tmp 1) 1, 0, some (16, false)) := by kernel_rfl
theorem g16_1_16 : dstOf (regOf Try.f16 1) 16 = some 19 := by kernel_rfl
theorem p16_1_18 : pj (regOf Try.f16 1) 18 = some (some 21, Op.load 3 (Operand.tmp 20), 3, some (16, false)) := by kernel_rfl
theorem p16_1_19 : pj (regOf Try.f16 1) 19 = some (some 22, Op.binOp BinOp.lss 3 (Operand.tmp 21) (Operand.const (Value.int IntKind.i64 0)) 3, 4, some (16, false)) := by kernel_rfl
theorem p16_1_20 : pj (regOf Try.f16 1) 20 = some (some 23, Op.pick (Operand.tmp 19) (Operand.const (Value.bool true)) (Operand.tmp 22), 4, none) := by kernel_rfl
theorem p16_1_21 : pj (regOf Try.f16 1) 21 = some (some 24, Op.move (Operand.tmp 23), 4, none) := by kernel_rfl
theorem p16_1_22 : pj (regOf Try.f16 1) 22 = some (some 25, Op.fieldAddr 27 (Operand.tmp 1) 1, 0, some (21, false)) := by kernel_rfl
theorem g16_1_21 : dstOf (regOf Try.f16 1) 21 = some 24 := by kernel_rfl
theorem p16_1_23 : pj (regOf Try.f16 1) 23 = some (some 26, Op.load 3 (Operand.tmp 25), 3, some (21, false)) := by kernel_rfl
theorem p16_1_24 : pj (regOf Try.f16 1) 24 = some (some 27, Op.binOp BinOp.geq 3 (Operand.tmp 26) (Operand.const (Value.int IntKind.i64 1048576)) 3, 4, some (21, false)) := by kernel_rfl
theorem p16_1_25 : pj (regOf Try.f16 1) 25 = some (some 28, Op.pick (Operand.tmp 24) (Operand.const (Value.bool true)) (Operand.tmp 27), 4, none) := by kernel_rfl
theorem p16_2_0 : pj (regOf Try.f16 2) 0 = some (some 2, Op.assign (Operand.const (Value.int IntKind.i64 1)), 29, none) := by kernel_rfl
set_option maxHeartbeats 4000000 in
theorem check_1 (c f l x h : Int) (s d : Nat → Int) (h1 : fitsF 1 [c, x, h] = false) (w : World) : Calls Try.prog 16 #[Value.agg (([Value.int .i64 c, Value.int .i64 f, Value.int .i64 l, Value.int .i64 x, Value.int .i64 h] ++ b16 s ++ b16 d)).toArray] w fun e w' => e = .returned (.int .i64 1) ∧ Kp w w' (fun _ => False) := by
  have K_0 := Kp.refl w (fun _ => False)
  refine enter (args := [Value.agg (([Value.int .i64 c, Value.int .i64 f, Value.int .i64 l, Value.int .i64 x, Value.int .i64 h] ++ b16 s ++ b16 d)).toArray]) (n := 29) Try.func16 body16 rfl rfl rfl ?_
  intro a hE
  refine c_reg R16_0_l ?_
  refine p_cons (s_box p16_0_0 hE wn_none rfl rfl ?_)
  clear hE a; intro g1 w2 z3 B_g1 hk a hE
  replace B_g1 : w2.heap[g1]? = some (.cells (([Value.int .i64 c, Value.int .i64 f, Value.int .i64 l, Value.int .i64 x, Value.int .i64 h] ++ b16 s ++ b16 d)).toArray 27 (0, 0)) := B_g1
  have z_0_g1 := Nat.le_trans K_0.kept.1 z3
  replace K_0 := K_0.then_ hk (fun _ h => h.elim)
  clear hk
  refine p_cons (s_still p16_0_1 hE wn_none rfl (st_assign rfl) ?_)
  clear hE a; intro a hE
  refine p_nil ?_
  refine x_norm ?_
  refine wp_seq ?_
  refine c_reg R16_1_l ?_
  refine p_cons (s_still p16_1_0 hE wn_none rfl (st_fieldAddr Try.underlying27 rfl tS3 rfl rfl) ?_)
  clear hE a; intro a hE
  refine p_cons (s_still p16_1_1 hE wn_none rfl (st_load1 tA3 rfl ((blk_cell B_g1 0).trans rfl)) ?_)
  clear hE a; intro a hE
  refine p_cons (s_still p16_1_2 hE wn_none rfl (st_fieldAddr Try.underlying27 rfl tS3 rfl rfl) ?_)
  clear hE a; intro a hE
  refine p_cons (s_still p16_1_3 hE wn_none rfl (st_load1 tA3 rfl ((blk_cell B_g1 3).trans rfl)) ?_)
  clear hE a; intro a hE
  refine p_cons (s_still p16_1_4 hE wn_none rfl (st_fieldAddr Try.underlying27 rfl tS3 rfl rfl) ?_)
  clear hE a; intro a hE
  refine p_cons (s_still p16_1_5 hE wn_none rfl (st_load1 tA3 rfl ((blk_cell B_g1 4).trans rfl)) ?_)
  clear hE a; intro a hE
  refine p_cons (s_row (xs := [(0, Operand.tmp 4), (1, Operand.tmp 6), (2, Operand.tmp 8)]) (vs := [(0, Value.int .i64 c), (1, Value.int .i64 x), (2, Value.int .i64 h)]) (cs := #[Value.int .i64 c, Value.int .i64 x, Value.int .i64 h]) p16_1_6 hE wn_none rfl Try.underlying62 rfl (by kernel_rfl) ?_)
  clear hE a; intro g4 w5 z6 B_g4 hk a hE
  have n_g1_g4 : g1 ≠ g4 := ne_new B_g1 z6
  have z_0_g4 := Nat.le_trans K_0.kept.1 z6
  replace B_g1 := kp_blk B_g1 hk (fun h => h)
  replace K_0 := K_0.then_ hk (fun _ h => h.elim)
  clear hk
  refine p_cons (s_call (xs := [Operand.const (Value.int IntKind.i64 1), Operand.tmp 9]) (args := [Value.int .i64 1, Value.slice (some ⟨g4, 0, none⟩) 3 3]) p16_1_7 hE wn_none rfl rfl Try.func69 cl69 (fits_any (some ⟨g4, 0, none⟩) 3 1 [c, x, h] false h1 _ (C_blk (k := .i64) (l := [c, x, h]) B_g4 ⟨rfl, Nat.le_of_ble_eq_true rfl⟩ rfl) (Nat.le_of_ble_eq_true rfl)) ?_)
  rintro e w7 ⟨rfl, hw⟩
  have hk := kp_eq hw (fun _ => False)
  replace B_g1 := kp_blk B_g1 hk (fun h => h)
  replace B_g4 := kp_blk B_g4 hk (fun h => h)
  replace K_0 := K_0.then_ hk (fun _ h => h.elim)
  refine ⟨_, rfl, ?_⟩
  clear hE a; intro a hE
  refine p_cons (s_still p16_1_8 hE wn_none rfl (st_not rfl rfl) ?_)
  clear hE a; intro a hE
  refine p_cons (s_still p16_1_9 hE wn_none rfl (st_move rfl) ?_)
  clear hE a; intro a hE
  refine p_cons (s_skip p16_1_10 hE (wn_some g16_1_9 rfl rfl) rfl ?_)
  clear hE a; intro a hE
  refine p_cons (s_skip p16_1_11 hE (wn_some g16_1_9 rfl rfl) rfl ?_)
  clear hE a; intro a hE
  refine p_cons (s_skip p16_1_12 hE (wn_some g16_1_9 rfl rfl) rfl ?_)
  clear hE a; intro a hE
  refine p_cons (s_skip p16_1_13 hE (wn_some g16_1_9 rfl rfl) rfl ?_)
  clear hE a; intro a hE
  refine p_cons (s_skip p16_1_14 hE (wn_some g16_1_9 rfl rfl) rfl ?_)
  clear hE a; intro a hE
  refine p_cons (s_still p16_1_15 hE wn_none rfl (st_pick rfl rfl) ?_)
  clear hE a; intro a hE
  refine p_cons (s_still p16_1_16 hE wn_none rfl (st_move rfl) ?_)
  clear hE a; intro a hE
  refine p_cons (s_skip p16_1_17 hE (wn_some g16_1_16 rfl rfl) rfl ?_)
  clear hE a; intro a hE
  refine p_cons (s_skip p16_1_18 hE (wn_some g16_1_16 rfl rfl) rfl ?_)
  clear hE a; intro a hE
  refine p_cons (s_skip p16_1_19 hE (wn_some g16_1_16 rfl rfl) rfl ?_)
  clear hE a; intro a hE
  refine p_cons (s_still p16_1_20 hE wn_none rfl (st_pick rfl rfl) ?_)
  clear hE a; intro a hE
  refine p_cons (s_still p16_1_21 hE wn_none rfl (st_move rfl) ?_)
  clear hE a; intro a hE
  refine p_cons (s_skip p16_1_22 hE (wn_some g16_1_21 rfl rfl) rfl ?_)
  clear hE a; intro a hE
  refine p_cons (s_skip p16_1_23 hE (wn_some g16_1_21 rfl rfl) rfl ?_)
  clear hE a; intro a hE
  refine p_cons (s_skip p16_1_24 hE (wn_some g16_1_21 rfl rfl) rfl ?_)
  clear hE a; intro a hE
  refine p_cons (s_still p16_1_25 hE wn_none rfl (st_pick rfl rfl) ?_)
  clear hE a; intro a hE
  refine p_nil ?_
  refine x_norm ?_
  refine c_cond (t := true) hE rfl ?_
  refine c_reg R16_2_l ?_
  refine p_cons (s_still p16_2_0 hE wn_none rfl (st_assign rfl) ?_)
  clear hE a; intro a hE
  refine p_nil ?_
  refine x_norm ?_
  refine wp_ret ?_
  refine x_ret ?_
  refine ret_one (v := Value.int .i64 1) rfl hE (.tmp rfl .nil) ?_
  exact ⟨rfl, K_0⟩

set_option maxHeartbeats 4000000 in
theorem check_2 (c f l x h : Int) (s d : Nat → Int) (h1 : fitsF 1 [c, x, h] = true) (h2 : fitsF 2 [l] = false) (w : World) : Calls Try.prog 16 #[Value.agg (([Value.int .i64 c, Value.int .i64 f, Value.int .i64 l, Value.int .i64 x, Value.int .i64 h] ++ b16 s ++ b16 d)).toArray] w fun e w' => e = .returned (.int .i64 1) ∧ Kp w w' (fun _ => False) := by
  have K_0 := Kp.refl w (fun _ => False)
  refine enter (args := [Value.agg (([Value.int .i64 c, Value.int .i64 f, Value.int .i64 l, Value.int .i64 x, Value.int .i64 h] ++ b16 s ++ b16 d)).toArray]) (n := 29) Try.func16 body16 rfl rfl rfl ?_
  intro a hE
  refine c_reg R16_0_l ?_
  refine p_cons (s_box p16_0_0 hE wn_none rfl rfl ?_)
  clear hE a; intro g1 w2 z3 B_g1 hk a hE
  replace B_g1 : w2.heap[g1]? = some (.cells (([Value.int .i64 c, Value.int .i64 f, Value.int .i64 l, Value.int .i64 x, Value.int .i64 h] ++ b16 s ++ b16 d)).toArray 27 (0, 0)) := B_g1
  have z_0_g1 := Nat.le_trans K_0.kept.1 z3
  replace K_0 := K_0.then_ hk (fun _ h => h.elim)
  clear hk
  refine p_cons (s_still p16_0_1 hE wn_none rfl (st_assign rfl) ?_)
  clear hE a; intro a hE
  refine p_nil ?_
  refine x_norm ?_
  refine wp_seq ?_
  refine c_reg R16_1_l ?_
  refine p_cons (s_still p16_1_0 hE wn_none rfl (st_fieldAddr Try.underlying27 rfl tS3 rfl rfl) ?_)
  clear hE a; intro a hE
  refine p_cons (s_still p16_1_1 hE wn_none rfl (st_load1 tA3 rfl ((blk_cell B_g1 0).trans rfl)) ?_)
  clear hE a; intro a hE
  refine p_cons (s_still p16_1_2 hE wn_none rfl (st_fieldAddr Try.underlying27 rfl tS3 rfl rfl) ?_)
  clear hE a; intro a hE
  refine p_cons (s_still p16_1_3 hE wn_none rfl (st_load1 tA3 rfl ((blk_cell B_g1 3).trans rfl)) ?_)
  clear hE a; intro a hE
  refine p_cons (s_still p16_1_4 hE wn_none rfl (st_fieldAddr Try.underlying27 rfl tS3 rfl rfl) ?_)
  clear hE a; intro a hE
  refine p_cons (s_still p16_1_5 hE wn_none rfl (st_load1 tA3 rfl ((blk_cell B_g1 4).trans rfl)) ?_)
  clear hE a; intro a hE
  refine p_cons (s_row (xs := [(0, Operand.tmp 4), (1, Operand.tmp 6), (2, Operand.tmp 8)]) (vs := [(0, Value.int .i64 c), (1, Value.int .i64 x), (2, Value.int .i64 h)]) (cs := #[Value.int .i64 c, Value.int .i64 x, Value.int .i64 h]) p16_1_6 hE wn_none rfl Try.underlying62 rfl (by kernel_rfl) ?_)
  clear hE a; intro g4 w5 z6 B_g4 hk a hE
  have n_g1_g4 : g1 ≠ g4 := ne_new B_g1 z6
  have z_0_g4 := Nat.le_trans K_0.kept.1 z6
  replace B_g1 := kp_blk B_g1 hk (fun h => h)
  replace K_0 := K_0.then_ hk (fun _ h => h.elim)
  clear hk
  refine p_cons (s_call (xs := [Operand.const (Value.int IntKind.i64 1), Operand.tmp 9]) (args := [Value.int .i64 1, Value.slice (some ⟨g4, 0, none⟩) 3 3]) p16_1_7 hE wn_none rfl rfl Try.func69 cl69 (fits_any (some ⟨g4, 0, none⟩) 3 1 [c, x, h] true h1 _ (C_blk (k := .i64) (l := [c, x, h]) B_g4 ⟨rfl, Nat.le_of_ble_eq_true rfl⟩ rfl) (Nat.le_of_ble_eq_true rfl)) ?_)
  rintro e w7 ⟨rfl, hw⟩
  have hk := kp_eq hw (fun _ => False)
  replace B_g1 := kp_blk B_g1 hk (fun h => h)
  replace B_g4 := kp_blk B_g4 hk (fun h => h)
  replace K_0 := K_0.then_ hk (fun _ h => h.elim)
  refine ⟨_, rfl, ?_⟩
  clear hE a; intro a hE
  refine p_cons (s_still p16_1_8 hE wn_none rfl (st_not rfl rfl) ?_)
  clear hE a; intro a hE
  refine p_cons (s_still p16_1_9 hE wn_none rfl (st_move rfl) ?_)
  clear hE a; intro a hE
  refine p_cons (s_still p16_1_10 hE (wn_some g16_1_9 rfl rfl) rfl (st_fieldAddr Try.underlying27 rfl tS3 rfl rfl) ?_)
  clear hE a; intro a hE
  refine p_cons (s_still p16_1_11 hE (wn_some g16_1_9 rfl rfl) rfl (st_load1 tA3 rfl ((blk_cell B_g1 2).trans rfl)) ?_)
  clear hE a; intro a hE
  refine p_cons (s_row (xs := [(0, Operand.tmp 14)]) (vs := [(0, Value.int .i64 l)]) (cs := #[Value.int .i64 l]) p16_1_12 hE (wn_some g16_1_9 rfl rfl) rfl Try.underlying62 rfl (by kernel_rfl) ?_)
  clear hE a; intro g8 w9 z10 B_g8 hk a hE
  have n_g1_g8 : g1 ≠ g8 := ne_new B_g1 z10
  have n_g4_g8 : g4 ≠ g8 := ne_new B_g4 z10
  have z_0_g8 := Nat.le_trans K_0.kept.1 z10
  replace B_g1 := kp_blk B_g1 hk (fun h => h)
  replace B_g4 := kp_blk B_g4 hk (fun h => h)
  replace K_0 := K_0.then_ hk (fun _ h => h.elim)
  clear hk
  refine p_cons (s_call (xs := [Operand.const (Value.int IntKind.i64 2), Operand.tmp 15]) (args := [Value.int .i64 2, Value.slice (some ⟨g8, 0, none⟩) 1 1]) p16_1_13 hE (wn_some g16_1_9 rfl rfl) rfl rfl Try.func69 cl69 (fits_any (some ⟨g8, 0, none⟩) 1 2 [l] false h2 _ (C_blk (k := .i64) (l := [l]) B_g8 ⟨rfl, Nat.le_of_ble_eq_true rfl⟩ rfl) (Nat.le_of_ble_eq_true rfl)) ?_)
  rintro e w11 ⟨rfl, hw⟩
  have hk := kp_eq hw (fun _ => False)
  replace B_g1 := kp_blk B_g1 hk (fun h => h)
  replace B_g4 := kp_blk B_g4 hk (fun h => h)
  replace B_g8 := kp_blk B_g8 hk (fun h => h)
  replace K_0 := K_0.then_ hk (fun _ h => h.elim)
  refine ⟨_, rfl, ?_⟩
  clear hE a; intro a hE
  refine p_cons (s_still p16_1_14 hE (wn_some g16_1_9 rfl rfl) rfl (st_not rfl rfl) ?_)
  clear hE a; intro a hE
  refine p_cons (s_still p16_1_15 hE wn_none rfl (st_pick rfl rfl) ?_)
  clear hE a; intro a hE
  refine p_cons (s_still p16_1_16 hE wn_none rfl (st_move rfl) ?_)
  clear hE a; intro a hE
  refine p_cons (s_skip p16_1_17 hE (wn_some g16_1_16 rfl rfl) rfl ?_)
  clear hE a; intro a hE
  refine p_cons (s_skip p16_1_18 hE (wn_some g16_1_16 rfl rfl) rfl ?_)
  clear hE a; intro a hE
  refine p_cons (s_skip p16_1_19 hE (wn_some g16_1_16 rfl rfl) rfl ?_)
  clear hE a; intro a hE
  refine p_cons (s_still p16_1_20 hE wn_none rfl (st_pick rfl rfl) ?_)
  clear hE a; intro a hE
  refine p_cons (s_still p16_1_21 hE wn_none rfl (st_move rfl) ?_)
  clear hE a; intro a hE
  refine p_cons (s_skip p16_1_22 hE (wn_some g16_1_21 rfl rfl) rfl ?_)
  clear hE a; intro a hE
  refine p_cons (s_skip p16_1_23 hE (wn_some g16_1_21 rfl rfl) rfl ?_)
  clear hE a; intro a hE
  refine p_cons (s_skip p16_1_24 hE (wn_some g16_1_21 rfl rfl) rfl ?_)
  clear hE a; intro a hE
  refine p_cons (s_still p16_1_25 hE wn_none rfl (st_pick rfl rfl) ?_)
  clear hE a; intro a hE
  refine p_nil ?_
  refine x_norm ?_
  refine c_cond (t := true) hE rfl ?_
  refine c_reg R16_2_l ?_
  refine p_cons (s_still p16_2_0 hE wn_none rfl (st_assign rfl) ?_)
  clear hE a; intro a hE
  refine p_nil ?_
  refine x_norm ?_
  refine wp_ret ?_
  refine x_ret ?_
  refine ret_one (v := Value.int .i64 1) rfl hE (.tmp rfl .nil) ?_
  exact ⟨rfl, K_0⟩
theorem p16_3_0 : pj (regOf Try.f16 3) 0 = some (some 2, Op.assign (Operand.const (Value.int IntKind.i64 0)), 29, none) := by kernel_rfl
set_option maxHeartbeats 4000000 in
theorem check_3 (c f l x h : Int) (s d : Nat → Int) (h1 : fitsF 1 [c, x, h] = true) (h2 : fitsF 2 [l] = true) (w : World) : Calls Try.prog 16 #[Value.agg (([Value.int .i64 c, Value.int .i64 f, Value.int .i64 l, Value.int .i64 x, Value.int .i64 h] ++ b16 s ++ b16 d)).toArray] w fun e w' => e = .returned (.int .i64 (if 0 ≤ f ∧ f < 1048576 then 0 else 1)) ∧ Kp w w' (fun _ => False) := by
  have K_0 := Kp.refl w (fun _ => False)
  refine enter (args := [Value.agg (([Value.int .i64 c, Value.int .i64 f, Value.int .i64 l, Value.int .i64 x, Value.int .i64 h] ++ b16 s ++ b16 d)).toArray]) (n := 29) Try.func16 body16 rfl rfl rfl ?_
  intro a hE
  refine c_reg R16_0_l ?_
  refine p_cons (s_box p16_0_0 hE wn_none rfl rfl ?_)
  clear hE a; intro g1 w2 z3 B_g1 hk a hE
  replace B_g1 : w2.heap[g1]? = some (.cells (([Value.int .i64 c, Value.int .i64 f, Value.int .i64 l, Value.int .i64 x, Value.int .i64 h] ++ b16 s ++ b16 d)).toArray 27 (0, 0)) := B_g1
  have z_0_g1 := Nat.le_trans K_0.kept.1 z3
  replace K_0 := K_0.then_ hk (fun _ h => h.elim)
  clear hk
  refine p_cons (s_still p16_0_1 hE wn_none rfl (st_assign rfl) ?_)
  clear hE a; intro a hE
  refine p_nil ?_
  refine x_norm ?_
  refine wp_seq ?_
  refine c_reg R16_1_l ?_
  refine p_cons (s_still p16_1_0 hE wn_none rfl (st_fieldAddr Try.underlying27 rfl tS3 rfl rfl) ?_)
  clear hE a; intro a hE
  refine p_cons (s_still p16_1_1 hE wn_none rfl (st_load1 tA3 rfl ((blk_cell B_g1 0).trans rfl)) ?_)
  clear hE a; intro a hE
  refine p_cons (s_still p16_1_2 hE wn_none rfl (st_fieldAddr Try.underlying27 rfl tS3 rfl rfl) ?_)
  clear hE a; intro a hE
  refine p_cons (s_still p16_1_3 hE wn_none rfl (st_load1 tA3 rfl ((blk_cell B_g1 3).trans rfl)) ?_)
  clear hE a; intro a hE
  refine p_cons (s_still p16_1_4 hE wn_none rfl (st_fieldAddr Try.underlying27 rfl tS3 rfl rfl) ?_)
  clear hE a; intro a hE
  refine p_cons (s_still p16_1_5 hE wn_none rfl (st_load1 tA3 rfl ((blk_cell B_g1 4).trans rfl)) ?_)
  clear hE a; intro a hE
  refine p_cons (s_row (xs := [(0, Operand.tmp 4), (1, Operand.tmp 6), (2, Operand.tmp 8)]) (vs := [(0, Value.int .i64 c), (1, Value.int .i64 x), (2, Value.int .i64 h)]) (cs := #[Value.int .i64 c, Value.int .i64 x, Value.int .i64 h]) p16_1_6 hE wn_none rfl Try.underlying62 rfl (by kernel_rfl) ?_)
  clear hE a; intro g4 w5 z6 B_g4 hk a hE
  have n_g1_g4 : g1 ≠ g4 := ne_new B_g1 z6
  have z_0_g4 := Nat.le_trans K_0.kept.1 z6
  replace B_g1 := kp_blk B_g1 hk (fun h => h)
  replace K_0 := K_0.then_ hk (fun _ h => h.elim)
  clear hk
  refine p_cons (s_call (xs := [Operand.const (Value.int IntKind.i64 1), Operand.tmp 9]) (args := [Value.int .i64 1, Value.slice (some ⟨g4, 0, none⟩) 3 3]) p16_1_7 hE wn_none rfl rfl Try.func69 cl69 (fits_any (some ⟨g4, 0, none⟩) 3 1 [c, x, h] true h1 _ (C_blk (k := .i64) (l := [c, x, h]) B_g4 ⟨rfl, Nat.le_of_ble_eq_true rfl⟩ rfl) (Nat.le_of_ble_eq_true rfl)) ?_)
  rintro e w7 ⟨rfl, hw⟩
  have hk := kp_eq hw (fun _ => False)
  replace B_g1 := kp_blk B_g1 hk (fun h => h)
  replace B_g4 := kp_blk B_g4 hk (fun h => h)
  replace K_0 := K_0.then_ hk (fun _ h => h.elim)
  refine ⟨_, rfl, ?_⟩
  clear hE a; intro a hE
  refine p_cons (s_still p16_1_8 hE wn_none rfl (st_not rfl rfl) ?_)
  clear hE a; intro a hE
  refine p_cons (s_still p16_1_9 hE wn_none rfl (st_move rfl) ?_)
  clear hE a; intro a hE
  refine p_cons (s_still p16_1_10 hE (wn_some g16_1_9 rfl rfl) rfl (st_fieldAddr Try.underlying27 rfl tS3 rfl rfl) ?_)
  clear hE a; intro a hE
  refine p_cons (s_still p16_1_11 hE (wn_some g16_1_9 rfl rfl) rfl (st_load1 tA3 rfl ((blk_cell B_g1 2).trans rfl)) ?_)
  clear hE a; intro a hE
  refine p_cons (s_row (xs := [(0, Operand.tmp 14)]) (vs := [(0, Value.int .i64 l)]) (cs := #[Value.int .i64 l]) p16_1_12 hE (wn_some g16_1_9 rfl rfl) rfl Try.underlying62 rfl (by kernel_rfl) ?_)
  clear hE a; intro g8 w9 z10 B_g8 hk a hE
  have n_g1_g8 : g1 ≠ g8 := ne_new B_g1 z10
  have n_g4_g8 : g4 ≠ g8 := ne_new B_g4 z10
  have z_0_g8 := Nat.le_trans K_0.kept.1 z10
  replace B_g1 := kp_blk B_g1 hk (fun h => h)
  replace B_g4 := kp_blk B_g4 hk (fun h => h)
  replace K_0 := K_0.then_ hk (fun _ h => h.elim)
  clear hk
  refine p_cons (s_call (xs := [Operand.const (Value.int IntKind.i64 2), Operand.tmp 15]) (args := [Value.int .i64 2, Value.slice (some ⟨g8, 0, none⟩) 1 1]) p16_1_13 hE (wn_some g16_1_9 rfl rfl) rfl rfl Try.func69 cl69 (fits_any (some ⟨g8, 0, none⟩) 1 2 [l] true h2 _ (C_blk (k := .i64) (l := [l]) B_g8 ⟨rfl, Nat.le_of_ble_eq_true rfl⟩ rfl) (Nat.le_of_ble_eq_true rfl)) ?_)
  rintro e w11 ⟨rfl, hw⟩
  have hk := kp_eq hw (fun _ => False)
  replace B_g1 := kp_blk B_g1 hk (fun h => h)
  replace B_g4 := kp_blk B_g4 hk (fun h => h)
  replace B_g8 := kp_blk B_g8 hk (fun h => h)
  replace K_0 := K_0.then_ hk (fun _ h => h.elim)
  refine ⟨_, rfl, ?_⟩
  clear hE a; intro a hE
  refine p_cons (s_still p16_1_14 hE (wn_some g16_1_9 rfl rfl) rfl (st_not rfl rfl) ?_)
  clear hE a; intro a hE
  refine p_cons (s_still p16_1_15 hE wn_none rfl (st_pick rfl rfl) ?_)
  clear hE a; intro a hE
  refine p_cons (s_still p16_1_16 hE wn_none rfl (st_move rfl) ?_)
  clear hE a; intro a hE
  refine p_cons (s_still p16_1_17 hE (wn_some g16_1_16 rfl rfl) rfl (st_fieldAddr Try.underlying27 rfl tS3 rfl rfl) ?_)
  clear hE a; intro a hE
  refine p_cons (s_still p16_1_18 hE (wn_some g16_1_16 rfl rfl) rfl (st_load1 tA3 rfl ((blk_cell B_g1 1).trans rfl)) ?_)
  clear hE a; intro a hE
  rcases Decidable.em (f < 0) with hc12 | hc12
  ·
    refine p_cons (s_still (v := Value.bool true) p16_1_19 hE (wn_some g16_1_16 rfl rfl) rfl (st_lss rfl rfl (decide_eq_true hc12)) ?_)
    clear hE a; intro a hE
    refine p_cons (s_still p16_1_20 hE wn_none rfl (st_pick rfl rfl) ?_)
    clear hE a; intro a hE
    refine p_cons (s_still p16_1_21 hE wn_none rfl (st_move rfl) ?_)
    clear hE a; intro a hE
    refine p_cons (s_skip p16_1_22 hE (wn_some g16_1_21 rfl rfl) rfl ?_)
    clear hE a; intro a hE
    refine p_cons (s_skip p16_1_23 hE (wn_some g16_1_21 rfl rfl) rfl ?_)
    clear hE a; intro a hE
    refine p_cons (s_skip p16_1_24 hE (wn_some g16_1_21 rfl rfl) rfl ?_)
    clear hE a; intro a hE
    refine p_cons (s_still p16_1_25 hE wn_none rfl (st_pick rfl rfl) ?_)
    clear hE a; intro a hE
    refine p_nil ?_
    refine x_norm ?_
    refine c_cond (t := true) hE rfl ?_
    refine c_reg R16_2_l ?_
    refine p_cons (s_still p16_2_0 hE wn_none rfl (st_assign rfl) ?_)
    clear hE a; intro a hE
    refine p_nil ?_
    refine x_norm ?_
    refine wp_ret ?_
    refine x_ret ?_
    refine ret_one (v := Value.int .i64 1) rfl hE (.tmp rfl .nil) ?_
    exact ⟨by rw [if_neg (by omega)], K_0⟩
  ·
    refine p_cons (s_still (v := Value.bool false) p16_1_19 hE (wn_some g16_1_16 rfl rfl) rfl (st_lss rfl rfl (decide_eq_false hc12)) ?_)
    clear hE a; intro a hE
    refine p_cons (s_still p16_1_20 hE wn_none rfl (st_pick rfl rfl) ?_)
    clear hE a; intro a hE
    refine p_cons (s_still p16_1_21 hE wn_none rfl (st_move rfl) ?_)
    clear hE a; intro a hE
    refine p_cons (s_still p16_1_22 hE (wn_some g16_1_21 rfl rfl) rfl (st_fieldAddr Try.underlying27 rfl tS3 rfl rfl) ?_)
    clear hE a; intro a hE
    refine p_cons (s_still p16_1_23 hE (wn_some g16_1_21 rfl rfl) rfl (st_load1 tA3 rfl ((blk_cell B_g1 1).trans rfl)) ?_)
    clear hE a; intro a hE
    rcases Decidable.em (1048576 ≤ f) with hc13 | hc13
    ·
      refine p_cons (s_still (v := Value.bool true) p16_1_24 hE (wn_some g16_1_21 rfl rfl) rfl (st_geq rfl rfl (decide_eq_true hc13)) ?_)
      clear hE a; intro a hE
      refine p_cons (s_still p16_1_25 hE wn_none rfl (st_pick rfl rfl) ?_)
      clear hE a; intro a hE
      refine p_nil ?_
      refine x_norm ?_
      refine c_cond (t := true) hE rfl ?_
      refine c_reg R16_2_l ?_
      refine p_cons (s_still p16_2_0 hE wn_none rfl (st_assign rfl) ?_)
      clear hE a; intro a hE
      refine p_nil ?_
      refine x_norm ?_
      refine wp_ret ?_
      refine x_ret ?_
      refine ret_one (v := Value.int .i64 1) rfl hE (.tmp rfl .nil) ?_
      exact ⟨by rw [if_neg (by omega)], K_0⟩
    ·
      refine p_cons (s_still (v := Value.bool false) p16_1_24 hE (wn_some g16_1_21 rfl rfl) rfl (st_geq rfl rfl (decide_eq_false hc13)) ?_)
      clear hE a; intro a hE
      refine p_cons (s_still p16_1_25 hE wn_none rfl (st_pick rfl rfl) ?_)
      clear hE a; intro a hE
      refine p_nil ?_
      refine x_norm ?_
      refine c_cond (t := false) hE rfl ?_
      refine wp_skip ?_
      refine x_norm ?_
      refine c_reg R16_3_l ?_
      refine p_cons (s_still p16_3_0 hE wn_none rfl (st_assign rfl) ?_)
      clear hE a; intro a hE
      refine p_nil ?_
      refine x_norm ?_
      refine wp_ret ?_
      refine ret_one (v := Value.int .i64 0) rfl hE (.tmp rfl .nil) ?_
      exact ⟨by rw [if_pos (by omega)], K_0⟩
theorem check_any (c f l x h : Int) (s d : Nat → Int) (e0 : Int) (he : (if okF c f l x h then 0 else 1) = e0) (w : World) : Calls Try.prog 16 #[Value.agg (([Value.int .i64 c, Value.int .i64 f, Value.int .i64 l, Value.int .i64 x, Value.int .i64 h] ++ b16 s ++ b16 d)).toArray] w fun e w' => e = .returned (.int .i64 e0) ∧ Kp w w' (fun _ => False) := by
  subst he
  by_cases h1 : fitsF 1 [c, x, h] = true
  · by_cases h2 : fitsF 2 [l] = true
    · have := check_3 c f l x h s d h1 h2 w
      simpa [okF, h1, h2] using this
    · have := check_2 c f l x h s d h1 (by simpa using h2) w
      simpa [okF, h1, h2] using this
  · have := check_1 c f l x h s d (by simpa using h1) w
    simpa [okF, h1] using this
theorem R18_0_l : List.range (regOf Try.f18 0).size = [0, 1, 2] := by kernel_rfl
theorem R18_1_l : List.range (regOf Try.f18 1).size = [0, 1, 2] := by kernel_rfl
theorem R18_2_l : List.range (regOf Try.f18 2).size = [0, 1] := by kernel_rfl
theorem R18_3_l : List.range (regOf Try.f18 3).size = [0, 1, 2, 3] := by kernel_rfl
theorem R18_4_l : List.range (regOf Try.f18 4).size = [0, 1, 2] := by kernel_rfl
theorem R18_5_l : List.range (regOf Try.f18 5).size = [0, 1, 2] := by kernel_rfl
theorem R18_6_l : List.range (regOf Try.f18 6).size = [0, 1, 2, 3, 4] := by kernel_rfl
theorem R18_7_l : List.range (regOf Try.f18 7).size = [0, 1, 2] := by kernel_rfl
theorem body18 : Try.f18.body = some (.seq (.region 0 (regOf Try.f18 0) false) (.seq (.seq (.region 1 (regOf Try.f18 1) false) (.seq (.region 2 (regOf Try.f18 2) false) (.cond (Operand.tmp 8) (.seq (.region 3 (regOf Try.f18 3) false) (.ret)) (.skip)))) (.seq (.seq (.region 4 (regOf Try.f18 4) false) (.cond (Operand.tmp 13) (.seq (.region 5 (regOf Try.f18 5) false) (.ret)) (.skip))) (.seq (.region 6 (regOf Try.f18 6) false) (.seq (.region 7 (regOf Try.f18 7) false) (.ret)))))) := by kernel_rfl
theorem p18_0_0 : pj (regOf Try.f18 0) 0 = some (some 1, Op.box 27 (Operand.tmp 0), 0, none) := by kernel_rfl
theorem p18_0_1 : pj (regOf Try.f18 0) 1 = some (some 2, Op.alloc 27, 0, none) := by kernel_rfl
theorem p18_0_2 : pj (regOf Try.f18 0) 2 = some (some 3, Op.assign (Operand.const (Value.int IntKind.i64 0)), 29, none) := by kernel_rfl
theorem p18_1_0 : pj (regOf Try.f18 1) 0 = some (some 5, Op.load 27 (Operand.tmp 1), 27, none) := by kernel_rfl
theorem p18_1_1 : pj (regOf Try.f18 1) 1 = some (some 6, Op.call { callee := Callee.value (Operand.func 16), args := #[Operand.tmp 5], argTypes := #[27] }, 29, none) := by kernel_rfl
theorem cl16 : callable Try.f16 = true := by kernel_rfl
theorem p18_1_2 : pj (regOf Try.f18 1) 2 = some (some 4, Op.assign (Operand.tmp 6), 29, none) := by kernel_rfl
theorem p18_2_0 : pj (regOf Try.f18 2) 0 = some (some 7, Op.move (Operand.tmp 4), 29, none) := by kernel_rfl
theorem p18_2_1 : pj (regOf Try.f18 2) 1 = some (some 8, Op.binOp BinOp.neq 29 (Operand.tmp 7) (Operand.const (Value.int IntKind.i64 0)) 29, 4, none) := by kernel_rfl
theorem p18_3_0 : pj (regOf Try.f18 3) 0 = some (some 9, Op.build 27 #[], 27, none) := by kernel_rfl
theorem p18_3_1 : pj (regOf Try.f18 3) 1 = some (some 10, Op.move (Operand.tmp 4), 29, none) := by kernel_rfl
theorem p18_3_2 : pj (regOf Try.f18 3) 2 = some (none, Op.store 27 (Operand.tmp 2) (Operand.tmp 9), 0, none) := by kernel_rfl
theorem p18_3_3 : pj (regOf Try.f18 3) 3 = some (some 3, Op.assign (Operand.tmp 10), 29, none) := by kernel_rfl
set_option maxHeartbeats 4000000 in
theorem passed_bad (c f l x h : Int) (s d : Nat → Int) (hok : okF c f l x h = false) (w : World) : Calls Try.prog 18 #[Value.agg (([Value.int .i64 c, Value.int .i64 f, Value.int .i64 l, Value.int .i64 x, Value.int .i64 h] ++ b16 s ++ b16 d)).toArray] w fun e w' => e = .returned (.tuple #[Value.agg #[Value.int .i64 0, Value.int .i64 0, Value.int .i64 0, Value.int .i64 0, Value.int .i64 0, Value.int .u8 0, Value.int .u8 0, Value.int .u8 0, Value.int .u8 0, Value.int .u8 0, Value.int .u8 0, Value.int .u8 0, Value.int .u8 0, Value.int .u8 0, Value.int .u8 0, Value.int .u8 0, Value.int .u8 0, Value.int .u8 0, Value.int .u8 0, Value.int .u8 0, Value.int .u8 0, Value.int .u8 0, Value.int .u8 0, Value.int .u8 0, Value.int .u8 0, Value.int .u8 0, Value.int .u8 0, Value.int .u8 0, Value.int .u8 0, Value.int .u8 0, Value.int .u8 0, Value.int .u8 0, Value.int .u8 0, Value.int .u8 0, Value.int .u8 0, Value.int .u8 0, Value.int .u8 0], .int .i64 1]) ∧ Kp w w' (fun _ => False) := by
  have K_0 := Kp.refl w (fun _ => False)
  refine enter (args := [Value.agg (([Value.int .i64 c, Value.int .i64 f, Value.int .i64 l, Value.int .i64 x, Value.int .i64 h] ++ b16 s ++ b16 d)).toArray]) (n := 20) Try.func18 body18 rfl rfl rfl ?_
  intro a hE
  refine c_reg R18_0_l ?_
  refine p_cons (s_box p18_0_0 hE wn_none rfl rfl ?_)
  clear hE a; intro g1 w2 z3 B_g1 hk a hE
  replace B_g1 : w2.heap[g1]? = some (.cells (([Value.int .i64 c, Value.int .i64 f, Value.int .i64 l, Value.int .i64 x, Value.int .i64 h] ++ b16 s ++ b16 d)).toArray 27 (0, 0)) := B_g1
  have z_0_g1 := Nat.le_trans K_0.kept.1 z3
  replace K_0 := K_0.then_ hk (fun _ h => h.elim)
  clear hk
  refine p_cons (s_alloc p18_0_1 hE wn_none rfl tZ27 ?_)
  clear hE a; intro g4 w5 z6 B_g4 hk a hE
  replace B_g4 : w5.heap[g4]? = some (.cells #[Value.int .i64 0, Value.int .i64 0, Value.int .i64 0, Value.int .i64 0, Value.int .i64 0, Value.int .u8 0, Value.int .u8 0, Value.int .u8 0, Value.int .u8 0, Value.int .u8 0, Value.int .u8 0, Value.int .u8 0, Value.int .u8 0, Value.int .u8 0, Value.int .u8 0, Value.int .u8 0, Value.int .u8 0, Value.int .u8 0, Value.int .u8 0, Value.int .u8 0, Value.int .u8 0, Value.int .u8 0, Value.int .u8 0, Value.int .u8 0, Value.int .u8 0, Value.int .u8 0, Value.int .u8 0, Value.int .u8 0, Value.int .u8 0, Value.int .u8 0, Value.int .u8 0, Value.int .u8 0, Value.int .u8 0, Value.int .u8 0, Value.int .u8 0, Value.int .u8 0, Value.int .u8 0] 27 (0, 0)) := B_g4
  have n_g1_g4 : g1 ≠ g4 := ne_new B_g1 z6
  have z_0_g4 := Nat.le_trans K_0.kept.1 z6
  replace B_g1 := kp_blk B_g1 hk (fun h => h)
  replace K_0 := K_0.then_ hk (fun _ h => h.elim)
  clear hk
  refine p_cons (s_still p18_0_2 hE wn_none rfl (st_assign rfl) ?_)
  clear hE a; intro a hE
  refine p_nil ?_
  refine x_norm ?_
  refine wp_seq ?_
  refine c_reg R18_1_l ?_
  refine p_cons (s_still p18_1_0 hE wn_none rfl (st_loadN (off := 0) (k := 37) (vs := ([Value.int .i64 c, Value.int .i64 f, Value.int .i64 l, Value.int .i64 x, Value.int .i64 h] ++ b16 s ++ b16 d)) tA27 tS27 rfl B_g1 rfl rfl) ?_)
  clear hE a; intro a hE
  refine p_cons (s_call (xs := [Operand.tmp 5]) (args := [Value.agg (([Value.int .i64 c, Value.int .i64 f, Value.int .i64 l, Value.int .i64 x, Value.int .i64 h] ++ b16 s ++ b16 d)).toArray]) p18_1_1 hE wn_none rfl rfl Try.func16 cl16 (check_any c f l x h s d 1 (by rw [hok]; rfl) _) ?_)
  rintro e w7 ⟨rfl, hk⟩
  replace B_g1 := kp_blk B_g1 hk (fun h => h)
  replace B_g4 := kp_blk B_g4 hk (fun h => h)
  replace K_0 := K_0.then_ hk (fun _ h => h.elim)
  refine ⟨_, rfl, ?_⟩
  clear hE a; intro a hE
  refine p_cons (s_still p18_1_2 hE wn_none rfl (st_assign rfl) ?_)
  clear hE a; intro a hE
  refine p_nil ?_
  refine x_norm ?_
  refine c_reg R18_2_l ?_
  refine p_cons (s_still p18_2_0 hE wn_none rfl (st_move rfl) ?_)
  clear hE a; intro a hE
  refine p_cons (s_still p18_2_1 hE wn_none rfl (st_neq (b := true) rfl rfl (by decide)) ?_)
  clear hE a; intro a hE
  refine p_nil ?_
  refine x_norm ?_
  refine c_cond (t := true) hE rfl ?_
  refine c_reg R18_3_l ?_
  refine p_cons (s_still p18_3_0 hE wn_none rfl (st_build (xs := []) (vs := []) (cs := #[Value.int .i64 0, Value.int .i64 0, Value.int .i64 0, Value.int .i64 0, Value.int .i64 0, Value.int .u8 0, Value.int .u8 0, Value.int .u8 0, Value.int .u8 0, Value.int .u8 0, Value.int .u8 0, Value.int .u8 0, Value.int .u8 0, Value.int .u8 0, Value.int .u8 0, Value.int .u8 0, Value.int .u8 0, Value.int .u8 0, Value.int .u8 0, Value.int .u8 0, Value.int .u8 0, Value.int .u8 0, Value.int .u8 0, Value.int .u8 0, Value.int .u8 0, Value.int .u8 0, Value.int .u8 0, Value.int .u8 0, Value.int .u8 0, Value.int .u8 0, Value.int .u8 0, Value.int .u8 0, Value.int .u8 0, Value.int .u8 0, Value.int .u8 0, Value.int .u8 0, Value.int .u8 0]) rfl (by kernel_rfl)) ?_)
  clear hE a; intro a hE
  refine p_cons (s_still p18_3_1 hE wn_none rfl (st_move rfl) ?_)
  clear hE a; intro a hE
  refine p_cons (s_store (off := 0) (k := 37) (cs' := #[Value.int .i64 0, Value.int .i64 0, Value.int .i64 0, Value.int .i64 0, Value.int .i64 0, Value.int .u8 0, Value.int .u8 0, Value.int .u8 0, Value.int .u8 0, Value.int .u8 0, Value.int .u8 0, Value.int .u8 0, Value.int .u8 0, Value.int .u8 0, Value.int .u8 0, Value.int .u8 0, Value.int .u8 0, Value.int .u8 0, Value.int .u8 0, Value.int .u8 0, Value.int .u8 0, Value.int .u8 0, Value.int .u8 0, Value.int .u8 0, Value.int .u8 0, Value.int .u8 0, Value.int .u8 0, Value.int .u8 0, Value.int .u8 0, Value.int .u8 0, Value.int .u8 0, Value.int .u8 0, Value.int .u8 0, Value.int .u8 0, Value.int .u8 0, Value.int .u8 0, Value.int .u8 0]) p18_3_2 hE wn_none tS27 rfl rfl rfl rfl B_g4 (Nat.le_of_ble_eq_true rfl) rfl ?_)
  intro w8 B_g4' hk
  replace B_g1 := kp_blk B_g1 hk n_g1_g4
  replace K_0 := K_0.then_ hk (fun k h => by rw [show k = g4 from h]; exact Or.inr z_0_g4)
  replace B_g4 := B_g4'
  clear hk
  refine p_cons (s_still p18_3_3 hE wn_none rfl (st_assign rfl) ?_)
  clear hE a; intro a hE
  refine p_nil ?_
  refine x_norm ?_
  refine wp_ret ?_
  refine x_ret ?_
  refine ret_list (rs := [.cell 2 27, .tmp 3]) (vs := [Value.agg #[Value.int .i64 0, Value.int .i64 0, Value.int .i64 0, Value.int .i64 0, Value.int .i64 0, Value.int .u8 0, Value.int .u8 0, Value.int .u8 0, Value.int .u8 0, Value.int .u8 0, Value.int .u8 0, Value.int .u8 0, Value.int .u8 0, Value.int .u8 0, Value.int .u8 0, Value.int .u8 0, Value.int .u8 0, Value.int .u8 0, Value.int .u8 0, Value.int .u8 0, Value.int .u8 0, Value.int .u8 0, Value.int .u8 0, Value.int .u8 0, Value.int .u8 0, Value.int .u8 0, Value.int .u8 0, Value.int .u8 0, Value.int .u8 0, Value.int .u8 0, Value.int .u8 0, Value.int .u8 0, Value.int .u8 0, Value.int .u8 0, Value.int .u8 0, Value.int .u8 0, Value.int .u8 0], Value.int .i64 1]) rfl hE (.cellN (us := [Value.int .i64 0, Value.int .i64 0, Value.int .i64 0, Value.int .i64 0, Value.int .i64 0, Value.int .u8 0, Value.int .u8 0, Value.int .u8 0, Value.int .u8 0, Value.int .u8 0, Value.int .u8 0, Value.int .u8 0, Value.int .u8 0, Value.int .u8 0, Value.int .u8 0, Value.int .u8 0, Value.int .u8 0, Value.int .u8 0, Value.int .u8 0, Value.int .u8 0, Value.int .u8 0, Value.int .u8 0, Value.int .u8 0, Value.int .u8 0, Value.int .u8 0, Value.int .u8 0, Value.int .u8 0, Value.int .u8 0, Value.int .u8 0, Value.int .u8 0, Value.int .u8 0, Value.int .u8 0, Value.int .u8 0, Value.int .u8 0, Value.int .u8 0, Value.int .u8 0, Value.int .u8 0]) tA27 tS27 rfl B_g4 rfl (.tmp rfl .nil)) rfl ?_
  exact ⟨rfl, K_0⟩
theorem p18_4_0 : pj (regOf Try.f18 4) 0 = some (some 11, Op.fieldAddr 27 (Operand.tmp 1) 4, 0, none) := by kernel_rfl
theorem p18_4_1 : pj (regOf Try.f18 4) 1 = some (some 12, Op.load 3 (Operand.tmp 11), 3, none) := by kernel_rfl
theorem p18_4_2 : pj (regOf Try.f18 4) 2 = some (some 13, Op.binOp BinOp.lss 3 (Operand.tmp 12) (Operand.const (Value.int IntKind.i64 2)) 3, 4, none) := by kernel_rfl
theorem p18_5_0 : pj (regOf Try.f18 5) 0 = some (some 14, Op.build 27 #[], 27, none) := by kernel_rfl
theorem p18_5_1 : pj (regOf Try.f18 5) 1 = some (none, Op.store 27 (Operand.tmp 2) (Operand.tmp 14), 0, none) := by kernel_rfl
theorem p18_5_2 : pj (regOf Try.f18 5) 2 = some (some 3, Op.assign (Operand.const (Value.int IntKind.i64 12)), 29, none) := by kernel_rfl
set_option maxHeartbeats 4000000 in
theorem passed_low (c f l x h : Int) (s d : Nat → Int) (hok : okF c f l x h = true) (h2 : h < 2) (w : World) : Calls Try.prog 18 #[Value.agg (([Value.int .i64 c, Value.int .i64 f, Value.int .i64 l, Value.int .i64 x, Value.int .i64 h] ++ b16 s ++ b16 d)).toArray] w fun e w' => e = .returned (.tuple #[Value.agg #[Value.int .i64 0, Value.int .i64 0, Value.int .i64 0, Value.int .i64 0, Value.int .i64 0, Value.int .u8 0, Value.int .u8 0, Value.int .u8 0, Value.int .u8 0, Value.int .u8 0, Value.int .u8 0, Value.int .u8 0, Value.int .u8 0, Value.int .u8 0, Value.int .u8 0, Value.int .u8 0, Value.int .u8 0, Value.int .u8 0, Value.int .u8 0, Value.int .u8 0, Value.int .u8 0, Value.int .u8 0, Value.int .u8 0, Value.int .u8 0, Value.int .u8 0, Value.int .u8 0, Value.int .u8 0, Value.int .u8 0, Value.int .u8 0, Value.int .u8 0, Value.int .u8 0, Value.int .u8 0, Value.int .u8 0, Value.int .u8 0, Value.int .u8 0, Value.int .u8 0, Value.int .u8 0], .int .i64 12]) ∧ Kp w w' (fun _ => False) := by
  have K_0 := Kp.refl w (fun _ => False)
  refine enter (args := [Value.agg (([Value.int .i64 c, Value.int .i64 f, Value.int .i64 l, Value.int .i64 x, Value.int .i64 h] ++ b16 s ++ b16 d)).toArray]) (n := 20) Try.func18 body18 rfl rfl rfl ?_
  intro a hE
  refine c_reg R18_0_l ?_
  refine p_cons (s_box p18_0_0 hE wn_none rfl rfl ?_)
  clear hE a; intro g1 w2 z3 B_g1 hk a hE
  replace B_g1 : w2.heap[g1]? = some (.cells (([Value.int .i64 c, Value.int .i64 f, Value.int .i64 l, Value.int .i64 x, Value.int .i64 h] ++ b16 s ++ b16 d)).toArray 27 (0, 0)) := B_g1
  have z_0_g1 := Nat.le_trans K_0.kept.1 z3
  replace K_0 := K_0.then_ hk (fun _ h => h.elim)
  clear hk
  refine p_cons (s_alloc p18_0_1 hE wn_none rfl tZ27 ?_)
  clear hE a; intro g4 w5 z6 B_g4 hk a hE
  replace B_g4 : w5.heap[g4]? = some (.cells #[Value.int .i64 0, Value.int .i64 0, Value.int .i64 0, Value.int .i64 0, Value.int .i64 0, Value.int .u8 0, Value.int .u8 0, Value.int .u8 0, Value.int .u8 0, Value.int .u8 0, Value.int .u8 0, Value.int .u8 0, Value.int .u8 0, Value.int .u8 0, Value.int .u8 0, Value.int .u8 0, Value.int .u8 0, Value.int .u8 0, Value.int .u8 0, Value.int .u8 0, Value.int .u8 0, Value.int .u8 0, Value.int .u8 0, Value.int .u8 0, Value.int .u8 0, Value.int .u8 0, Value.int .u8 0, Value.int .u8 0, Value.int .u8 0, Value.int .u8 0, Value.int .u8 0, Value.int .u8 0, Value.int .u8 0, Value.int .u8 0, Value.int .u8 0, Value.int .u8 0, Value.int .u8 0] 27 (0, 0)) := B_g4
  have n_g1_g4 : g1 ≠ g4 := ne_new B_g1 z6
  have z_0_g4 := Nat.le_trans K_0.kept.1 z6
  replace B_g1 := kp_blk B_g1 hk (fun h => h)
  replace K_0 := K_0.then_ hk (fun _ h => h.elim)
  clear hk
  refine p_cons (s_still p18_0_2 hE wn_none rfl (st_assign rfl) ?_)
  clear hE a; intro a hE
  refine p_nil ?_
  refine x_norm ?_
  refine wp_seq ?_
  refine c_reg R18_1_l ?_
  refine p_cons (s_still p18_1_0 hE wn_none rfl (st_loadN (off := 0) (k := 37) (vs := ([Value.int .i64 c, Value.int .i64 f, Value.int .i64 l, Value.int .i64 x, Value.int .i64 h] ++ b16 s ++ b16 d)) tA27 tS27 rfl B_g1 rfl rfl) ?_)
  clear hE a; intro a hE
  refine p_cons (s_call (xs := [Operand.tmp 5]) (args := [Value.agg (([Value.int .i64 c, Value.int .i64 f, Value.int .i64 l, Value.int .i64 x, Value.int .i64 h] ++ b16 s ++ b16 d)).toArray]) p18_1_1 hE wn_none rfl rfl Try.func16 cl16 (check_any c f l x h s d 0 (by rw [hok]; rfl) _) ?_)
  rintro e w7 ⟨rfl, hk⟩
  replace B_g1 := kp_blk B_g1 hk (fun h => h)
  replace B_g4 := kp_blk B_g4 hk (fun h => h)
  replace K_0 := K_0.then_ hk (fun _ h => h.elim)
  refine ⟨_, rfl, ?_⟩
  clear hE a; intro a hE
  refine p_cons (s_still p18_1_2 hE wn_none rfl (st_assign rfl) ?_)
  clear hE a; intro a hE
  refine p_nil ?_
  refine x_norm ?_
  refine c_reg R18_2_l ?_
  refine p_cons (s_still p18_2_0 hE wn_none rfl (st_move rfl) ?_)
  clear hE a; intro a hE
  refine p_cons (s_still p18_2_1 hE wn_none rfl (st_neq (b := false) rfl rfl (by decide)) ?_)
  clear hE a; intro a hE
  refine p_nil ?_
  refine x_norm ?_
  refine c_cond (t := false) hE rfl ?_
  refine wp_skip ?_
  refine x_norm ?_
  refine wp_seq ?_
  refine c_reg R18_4_l ?_
  refine p_cons (s_still p18_4_0 hE wn_none rfl (st_fieldAddr Try.underlying27 rfl tS3 rfl rfl) ?_)
  clear hE a; intro a hE
  refine p_cons (s_still p18_4_1 hE wn_none rfl (st_load1 tA3 rfl ((blk_cell B_g1 4).trans rfl)) ?_)
  clear hE a; intro a hE
  refine p_cons (s_still p18_4_2 hE wn_none rfl (st_lss (b := true) rfl rfl (decide_eq_true h2)) ?_)
  clear hE a; intro a hE
  refine p_nil ?_
  refine x_norm ?_
  refine c_cond (t := true) hE rfl ?_
  refine c_reg R18_5_l ?_
  refine p_cons (s_still p18_5_0 hE wn_none rfl (st_build (xs := []) (vs := []) (cs := #[Value.int .i64 0, Value.int .i64 0, Value.int .i64 0, Value.int .i64 0, Value.int .i64 0, Value.int .u8 0, Value.int .u8 0, Value.int .u8 0, Value.int .u8 0, Value.int .u8 0, Value.int .u8 0, Value.int .u8 0, Value.int .u8 0, Value.int .u8 0, Value.int .u8 0, Value.int .u8 0, Value.int .u8 0, Value.int .u8 0, Value.int .u8 0, Value.int .u8 0, Value.int .u8 0, Value.int .u8 0, Value.int .u8 0, Value.int .u8 0, Value.int .u8 0, Value.int .u8 0, Value.int .u8 0, Value.int .u8 0, Value.int .u8 0, Value.int .u8 0, Value.int .u8 0, Value.int .u8 0, Value.int .u8 0, Value.int .u8 0, Value.int .u8 0, Value.int .u8 0, Value.int .u8 0]) rfl (by kernel_rfl)) ?_)
  clear hE a; intro a hE
  refine p_cons (s_store (off := 0) (k := 37) (cs' := #[Value.int .i64 0, Value.int .i64 0, Value.int .i64 0, Value.int .i64 0, Value.int .i64 0, Value.int .u8 0, Value.int .u8 0, Value.int .u8 0, Value.int .u8 0, Value.int .u8 0, Value.int .u8 0, Value.int .u8 0, Value.int .u8 0, Value.int .u8 0, Value.int .u8 0, Value.int .u8 0, Value.int .u8 0, Value.int .u8 0, Value.int .u8 0, Value.int .u8 0, Value.int .u8 0, Value.int .u8 0, Value.int .u8 0, Value.int .u8 0, Value.int .u8 0, Value.int .u8 0, Value.int .u8 0, Value.int .u8 0, Value.int .u8 0, Value.int .u8 0, Value.int .u8 0, Value.int .u8 0, Value.int .u8 0, Value.int .u8 0, Value.int .u8 0, Value.int .u8 0, Value.int .u8 0]) p18_5_1 hE wn_none tS27 rfl rfl rfl rfl B_g4 (Nat.le_of_ble_eq_true rfl) rfl ?_)
  intro w8 B_g4' hk
  replace B_g1 := kp_blk B_g1 hk n_g1_g4
  replace K_0 := K_0.then_ hk (fun k h => by rw [show k = g4 from h]; exact Or.inr z_0_g4)
  replace B_g4 := B_g4'
  clear hk
  refine p_cons (s_still p18_5_2 hE wn_none rfl (st_assign rfl) ?_)
  clear hE a; intro a hE
  refine p_nil ?_
  refine x_norm ?_
  refine wp_ret ?_
  refine x_ret ?_
  refine ret_list (rs := [.cell 2 27, .tmp 3]) (vs := [Value.agg #[Value.int .i64 0, Value.int .i64 0, Value.int .i64 0, Value.int .i64 0, Value.int .i64 0, Value.int .u8 0, Value.int .u8 0, Value.int .u8 0, Value.int .u8 0, Value.int .u8 0, Value.int .u8 0, Value.int .u8 0, Value.int .u8 0, Value.int .u8 0, Value.int .u8 0, Value.int .u8 0, Value.int .u8 0, Value.int .u8 0, Value.int .u8 0, Value.int .u8 0, Value.int .u8 0, Value.int .u8 0, Value.int .u8 0, Value.int .u8 0, Value.int .u8 0, Value.int .u8 0, Value.int .u8 0, Value.int .u8 0, Value.int .u8 0, Value.int .u8 0, Value.int .u8 0, Value.int .u8 0, Value.int .u8 0, Value.int .u8 0, Value.int .u8 0, Value.int .u8 0, Value.int .u8 0], Value.int .i64 12]) rfl hE (.cellN (us := [Value.int .i64 0, Value.int .i64 0, Value.int .i64 0, Value.int .i64 0, Value.int .i64 0, Value.int .u8 0, Value.int .u8 0, Value.int .u8 0, Value.int .u8 0, Value.int .u8 0, Value.int .u8 0, Value.int .u8 0, Value.int .u8 0, Value.int .u8 0, Value.int .u8 0, Value.int .u8 0, Value.int .u8 0, Value.int .u8 0, Value.int .u8 0, Value.int .u8 0, Value.int .u8 0, Value.int .u8 0, Value.int .u8 0, Value.int .u8 0, Value.int .u8 0, Value.int .u8 0, Value.int .u8 0, Value.int .u8 0, Value.int .u8 0, Value.int .u8 0, Value.int .u8 0, Value.int .u8 0, Value.int .u8 0, Value.int .u8 0, Value.int .u8 0, Value.int .u8 0, Value.int .u8 0]) tA27 tS27 rfl B_g4 rfl (.tmp rfl .nil)) rfl ?_
  exact ⟨rfl, K_0⟩
theorem p18_6_0 : pj (regOf Try.f18 6) 0 = some (some 15, Op.fieldAddr 27 (Operand.tmp 1) 4, 0, none) := by kernel_rfl
theorem p18_6_1 : pj (regOf Try.f18 6) 1 = some (some 16, Op.load 3 (Operand.tmp 15), 3, none) := by kernel_rfl
theorem p18_6_2 : pj (regOf Try.f18 6) 2 = some (some 17, Op.binOp BinOp.sub 3 (Operand.tmp 16) (Operand.const (Value.int IntKind.i64 1)) 3, 3, none) := by kernel_rfl
theorem p18_6_3 : pj (regOf Try.f18 6) 3 = some (some 18, Op.fieldAddr 27 (Operand.tmp 1) 4, 0, none) := by kernel_rfl
theorem p18_6_4 : pj (regOf Try.f18 6) 4 = some (none, Op.store 3 (Operand.tmp 18) (Operand.tmp 17), 0, none) := by kernel_rfl
theorem p18_7_0 : pj (regOf Try.f18 7) 0 = some (some 19, Op.load 27 (Operand.tmp 1), 27, none) := by kernel_rfl
theorem p18_7_1 : pj (regOf Try.f18 7) 1 = some (none, Op.store 27 (Operand.tmp 2) (Operand.tmp 19), 0, none) := by kernel_rfl
theorem p18_7_2 : pj (regOf Try.f18 7) 2 = some (some 3, Op.assign (Operand.const (Value.int IntKind.i64 0)), 29, none) := by kernel_rfl
set_option maxHeartbeats 4000000 in
theorem passed_ok (c f l x h : Int) (s d : Nat → Int) (hok : okF c f l x h = true) (h2 : ¬ h < 2) (w : World) : Calls Try.prog 18 #[Value.agg (([Value.int .i64 c, Value.int .i64 f, Value.int .i64 l, Value.int .i64 x, Value.int .i64 h] ++ b16 s ++ b16 d)).toArray] w fun e w' => e = .returned (.tuple #[Value.agg (([Value.int .i64 c, Value.int .i64 f, Value.int .i64 l, Value.int .i64 x, Value.int .i64 (h - 1)] ++ b16 s ++ b16 d)).toArray, .int .i64 0]) ∧ Kp w w' (fun _ => False) := by
  have K_0 := Kp.refl w (fun _ => False)
  obtain ⟨_, _, _, _, hh1, hh2⟩ := okF_of hok
  refine enter (args := [Value.agg (([Value.int .i64 c, Value.int .i64 f, Value.int .i64 l, Value.int .i64 x, Value.int .i64 h] ++ b16 s ++ b16 d)).toArray]) (n := 20) Try.func18 body18 rfl rfl rfl ?_
  intro a hE
  refine c_reg R18_0_l ?_
  refine p_cons (s_box p18_0_0 hE wn_none rfl rfl ?_)
  clear hE a; intro g1 w2 z3 B_g1 hk a hE
  replace B_g1 : w2.heap[g1]? = some (.cells (([Value.int .i64 c, Value.int .i64 f, Value.int .i64 l, Value.int .i64 x, Value.int .i64 h] ++ b16 s ++ b16 d)).toArray 27 (0, 0)) := B_g1
  have z_0_g1 := Nat.le_trans K_0.kept.1 z3
  replace K_0 := K_0.then_ hk (fun _ h => h.elim)
  clear hk
  refine p_cons (s_alloc p18_0_1 hE wn_none rfl tZ27 ?_)
  clear hE a; intro g4 w5 z6 B_g4 hk a hE
  replace B_g4 : w5.heap[g4]? = some (.cells #[Value.int .i64 0, Value.int .i64 0, Value.int .i64 0, Value.int .i64 0, Value.int .i64 0, Value.int .u8 0, Value.int .u8 0, Value.int .u8 0, Value.int .u8 0, Value.int .u8 0, Value.int .u8 0, Value.int .u8 0, Value.int .u8 0, Value.int .u8 0, Value.int .u8 0, Value.int .u8 0, Value.int .u8 0, Value.int .u8 0, Value.int .u8 0, Value.int .u8 0, Value.int .u8 0, Value.int .u8 0, Value.int .u8 0, Value.int .u8 0, Value.int .u8 0, Value.int .u8 0, Value.int .u8 0, Value.int .u8 0, Value.int .u8 0, Value.int .u8 0, Value.int .u8 0, Value.int .u8 0, Value.int .u8 0, Value.int .u8 0, Value.int .u8 0, Value.int .u8 0, Value.int .u8 0] 27 (0, 0)) := B_g4
  have n_g1_g4 : g1 ≠ g4 := ne_new B_g1 z6
  have z_0_g4 := Nat.le_trans K_0.kept.1 z6
  replace B_g1 := kp_blk B_g1 hk (fun h => h)
  replace K_0 := K_0.then_ hk (fun _ h => h.elim)
  clear hk
  refine p_cons (s_still p18_0_2 hE wn_none rfl (st_assign rfl) ?_)
  clear hE a; intro a hE
  refine p_nil ?_
  refine x_norm ?_
  refine wp_seq ?_
  refine c_reg R18_1_l ?_
  refine p_cons (s_still p18_1_0 hE wn_none rfl (st_loadN (off := 0) (k := 37) (vs := ([Value.int .i64 c, Value.int .i64 f, Value.int .i64 l, Value.int .i64 x, Value.int .i64 h] ++ b16 s ++ b16 d)) tA27 tS27 rfl B_g1 rfl rfl) ?_)
  clear hE a; intro a hE
  refine p_cons (s_call (xs := [Operand.tmp 5]) (args := [Value.agg (([Value.int .i64 c, Value.int .i64 f, Value.int .i64 l, Value.int .i64 x, Value.int .i64 h] ++ b16 s ++ b16 d)).toArray]) p18_1_1 hE wn_none rfl rfl Try.func16 cl16 (check_any c f l x h s d 0 (by rw [hok]; rfl) _) ?_)
  rintro e w7 ⟨rfl, hk⟩
  replace B_g1 := kp_blk B_g1 hk (fun h => h)
  replace B_g4 := kp_blk B_g4 hk (fun h => h)
  replace K_0 := K_0.then_ hk (fun _ h => h.elim)
  refine ⟨_, rfl, ?_⟩
  clear hE a; intro a hE
  refine p_cons (s_still p18_1_2 hE wn_none rfl (st_assign rfl) ?_)
  clear hE a; intro a hE
  refine p_nil ?_
  refine x_norm ?_
  refine c_reg R18_2_l ?_
  refine p_cons (s_still p18_2_0 hE wn_none rfl (st_move rfl) ?_)
  clear hE a; intro a hE
  refine p_cons (s_still p18_2_1 hE wn_none rfl (st_neq (b := false) rfl rfl (by decide)) ?_)
  clear hE a; intro a hE
  refine p_nil ?_
  refine x_norm ?_
  refine c_cond (t := false) hE rfl ?_
  refine wp_skip ?_
  refine x_norm ?_
  refine wp_seq ?_
  refine c_reg R18_4_l ?_
  refine p_cons (s_still p18_4_0 hE wn_none rfl (st_fieldAddr Try.underlying27 rfl tS3 rfl rfl) ?_)
  clear hE a; intro a hE
  refine p_cons (s_still p18_4_1 hE wn_none rfl (st_load1 tA3 rfl ((blk_cell B_g1 4).trans rfl)) ?_)
  clear hE a; intro a hE
  refine p_cons (s_still p18_4_2 hE wn_none rfl (st_lss (b := false) rfl rfl (decide_eq_false h2)) ?_)
  clear hE a; intro a hE
  refine p_nil ?_
  refine x_norm ?_
  refine c_cond (t := false) hE rfl ?_
  refine wp_skip ?_
  refine x_norm ?_
  refine c_reg R18_6_l ?_
  refine p_cons (s_still p18_6_0 hE wn_none rfl (st_fieldAddr Try.underlying27 rfl tS3 rfl rfl) ?_)
  clear hE a; intro a hE
  refine p_cons (s_still p18_6_1 hE wn_none rfl (st_load1 tA3 rfl ((blk_cell B_g1 4).trans rfl)) ?_)
  clear hE a; intro a hE
  refine p_cons (s_still p18_6_2 hE wn_none rfl (st_sub (z := h - 1) rfl rfl (wr_i64 _ (by omega) (by omega))) ?_)
  clear hE a; intro a hE
  refine p_cons (s_still p18_6_3 hE wn_none rfl (st_fieldAddr Try.underlying27 rfl tS3 rfl rfl) ?_)
  clear hE a; intro a hE
  refine p_cons (s_store (off := 4) (k := 1) (cs' := (([Value.int .i64 c, Value.int .i64 f, Value.int .i64 l, Value.int .i64 x, Value.int .i64 (h - 1)] ++ b16 s ++ b16 d)).toArray) p18_6_4 hE wn_none tS3 rfl rfl rfl rfl B_g1 (Nat.le_of_ble_eq_true rfl) rfl ?_)
  intro w8 B_g1' hk
  replace B_g4 := kp_blk B_g4 hk (Ne.symm n_g1_g4)
  replace K_0 := K_0.then_ hk (fun k h => by rw [show k = g1 from h]; exact Or.inr z_0_g1)
  replace B_g1 := B_g1'
  clear hk
  refine p_nil ?_
  refine x_norm ?_
  refine c_reg R18_7_l ?_
  refine p_cons (s_still p18_7_0 hE wn_none rfl (st_loadN (off := 0) (k := 37) (vs := ([Value.int .i64 c, Value.int .i64 f, Value.int .i64 l, Value.int .i64 x, Value.int .i64 (h - 1)] ++ b16 s ++ b16 d)) tA27 tS27 rfl B_g1 rfl rfl) ?_)
  clear hE a; intro a hE
  refine p_cons (s_store (off := 0) (k := 37) (cs' := (([Value.int .i64 c, Value.int .i64 f, Value.int .i64 l, Value.int .i64 x, Value.int .i64 (h - 1)] ++ b16 s ++ b16 d)).toArray) p18_7_1 hE wn_none tS27 rfl rfl rfl rfl B_g4 (Nat.le_of_ble_eq_true rfl) rfl ?_)
  intro w9 B_g4' hk
  replace B_g1 := kp_blk B_g1 hk n_g1_g4
  replace K_0 := K_0.then_ hk (fun k h => by rw [show k = g4 from h]; exact Or.inr z_0_g4)
  replace B_g4 := B_g4'
  clear hk
  refine p_cons (s_still p18_7_2 hE wn_none rfl (st_assign rfl) ?_)
  clear hE a; intro a hE
  refine p_nil ?_
  refine x_norm ?_
  refine wp_ret ?_
  refine ret_list (rs := [.cell 2 27, .tmp 3]) (vs := [Value.agg (([Value.int .i64 c, Value.int .i64 f, Value.int .i64 l, Value.int .i64 x, Value.int .i64 (h - 1)] ++ b16 s ++ b16 d)).toArray, Value.int .i64 0]) rfl hE (.cellN (us := ([Value.int .i64 c, Value.int .i64 f, Value.int .i64 l, Value.int .i64 x, Value.int .i64 (h - 1)] ++ b16 s ++ b16 d)) tA27 tS27 rfl B_g4 rfl (.tmp rfl .nil)) rfl ?_
  exact ⟨rfl, K_0⟩
theorem R70_0_l : List.range (regOf Try.f70 0).size = [0] := by kernel_rfl
theorem R70_1_l : List.range (regOf Try.f70 1).size = [0, 1, 2, 3, 4] := by kernel_rfl
theorem R70_2_l : List.range (regOf Try.f70 2).size = [0, 1, 2, 3, 4, 5, 6, 7, 8, 9, 10, 11, 12, 13, 14, 15, 16, 17] := by kernel_rfl
theorem R70_3_l : List.range (regOf Try.f70 3).size = [0, 1] := by kernel_rfl
theorem body70 : Try.f70.body = some (.seq (.region 0 (regOf Try.f70 0) false) (.seq (.seq (.region 1 (regOf Try.f70 1) false) (.cond (Operand.tmp 11) (.region 2 (regOf Try.f70 2) false) (.skip))) (.seq (.region 3 (regOf Try.f70 3) false) (.ret)))) := by kernel_rfl
theorem p70_0_0 : pj (regOf Try.f70 0) 0 = some (some 6, Op.assign (Operand.const (Value.pointer none)), 121, none) := by kernel_rfl
theorem p70_1_0 : pj (regOf Try.f70 1) 0 = some (some 7, Op.move (Operand.tmp 0), 121, none) := by kernel_rfl
theorem p70_1_1 : pj (regOf Try.f70 1) 1 = some (some 8, Op.nilCheck (Operand.tmp 7), 0, none) := by kernel_rfl
theorem p70_1_2 : pj (regOf Try.f70 1) 2 = some (some 9, Op.fieldAddr 123 (Operand.tmp 8) 1, 0, none) := by kernel_rfl
theorem tS29 : (Try.prog.info? 29).map (·.size) = some 1 := by kernel_rfl
theorem p70_1_3 : pj (regOf Try.f70 1) 3 = some (some 10, Op.load 29 (Operand.tmp 9), 29, none) := by kernel_rfl
theorem tA29 : (Try.prog.underlying 29).map aggD = some false := by kernel_rfl
theorem p70_1_4 : pj (regOf Try.f70 1) 4 = some (some 11, Op.binOp BinOp.eql 29 (Operand.tmp 10) (Operand.const (Value.int IntKind.i64 0)) 29, 4, none) := by kernel_rfl
theorem p70_2_0 : pj (regOf Try.f70 2) 0 = some (some 13, Op.move (Operand.tmp 0), 121, none) := by kernel_rfl
theorem p70_2_1 : pj (regOf Try.f70 2) 1 = some (some 14, Op.move (Operand.tmp 0), 121, none) := by kernel_rfl
theorem p70_2_2 : pj (regOf Try.f70 2) 2 = some (some 15, Op.move (Operand.tmp 0), 121, none) := by kernel_rfl
theorem p70_2_3 : pj (regOf Try.f70 2) 3 = some (some 16, Op.nilCheck (Operand.tmp 15), 0, none) := by kernel_rfl
theorem p70_2_4 : pj (regOf Try.f70 2) 4 = some (some 17, Op.fieldAddr 123 (Operand.tmp 16) 0, 0, none) := by kernel_rfl
theorem tS36 : (Try.prog.info? 36).map (·.size) = some 1 := by kernel_rfl
theorem p70_2_5 : pj (regOf Try.f70 2) 5 = some (some 18, Op.load 36 (Operand.tmp 17), 36, none) := by kernel_rfl
theorem tA36 : (Try.prog.underlying 36).map aggD = some false := by kernel_rfl
theorem p70_2_6 : pj (regOf Try.f70 2) 6 = some (some 19, Op.move (Operand.tmp 1), 3, none) := by kernel_rfl
theorem p70_2_7 : pj (regOf Try.f70 2) 7 = some (some 20, Op.move (Operand.tmp 2), 62, none) := by kernel_rfl
theorem p70_2_8 : pj (regOf Try.f70 2) 8 = some (some 21, Op.call { callee := Callee.value (Operand.func 77), args := #[Operand.tmp 18, Operand.tmp 19, Operand.tmp 20], argTypes := #[36, 3, 62] }, 37, none) := by kernel_rfl
theorem cl77 : callable Try.f77 = true := by kernel_rfl
theorem p70_2_9 : pj (regOf Try.f70 2) 9 = some (some 12, Op.move (Operand.tmp 21), 37, none) := by kernel_rfl
theorem p70_2_10 : pj (regOf Try.f70 2) 10 = some (some 22, Op.extract (Operand.tmp 12) 0, 36, none) := by kernel_rfl
theorem p70_2_11 : pj (regOf Try.f70 2) 11 = some (some 23, Op.extract (Operand.tmp 12) 1, 29, none) := by kernel_rfl
theorem p70_2_12 : pj (regOf Try.f70 2) 12 = some (some 24, Op.nilCheck (Operand.tmp 13), 0, none) := by kernel_rfl
theorem p70_2_13 : pj (regOf Try.f70 2) 13 = some (some 25, Op.fieldAddr 123 (Operand.tmp 24) 0, 0, none) := by kernel_rfl
theorem p70_2_14 : pj (regOf Try.f70 2) 14 = some (none, Op.store 36 (Operand.tmp 25) (Operand.tmp 22), 0, none) := by kernel_rfl
theorem p70_2_15 : pj (regOf Try.f70 2) 15 = some (some 26, Op.nilCheck (Operand.tmp 14), 0, none) := by kernel_rfl
theorem p70_2_16 : pj (regOf Try.f70 2) 16 = some (some 27, Op.fieldAddr 123 (Operand.tmp 26) 1, 0, none) := by kernel_rfl
theorem p70_2_17 : pj (regOf Try.f70 2) 17 = some (none, Op.store 29 (Operand.tmp 27) (Operand.tmp 23), 0, none) := by kernel_rfl
theorem p70_3_0 : pj (regOf Try.f70 3) 0 = some (some 28, Op.move (Operand.tmp 0), 121, none) := by kernel_rfl
theorem p70_3_1 : pj (regOf Try.f70 3) 1 = some (some 6, Op.assign (Operand.tmp 28), 121, none) := by kernel_rfl
set_option maxHeartbeats 4000000 in
theorem chain_put (b : Nat) (A B : Option Addr) (c cl : Nat) (k : Int) (X Y : List Int) (w : World) (hb : w.heap[b]? = some (.cells #[.slice A X.length c, .int .i64 0] 123 (0, 0))) (hX : ∀ W, Kp w W (fun k => k = b) → Kd.C (Kd.int .u8) W A X.length X) (hY : ∀ W, Kp w W (fun k => k = b) → Kd.C (Kd.int .i64) W B Y.length Y) (hlc : Y.length ≤ cl) (hfit : fitsF k Y = true) (hlen : (X ++ putF k Y).length ≤ 1280) : Calls Try.prog 70 #[.pointer (some ⟨b, 0, none⟩), .int .i64 k, .slice B Y.length cl] w fun e w' => ∃ A' c', e = .returned (.pointer (some ⟨b, 0, none⟩)) ∧ w'.heap[b]? = some (.cells #[.slice A' (X ++ putF k Y).length c', .int .i64 0] 123 (0, 0)) ∧ w'.ownsRow w.heap.size 5 1 (.slice A' (X ++ putF k Y).length c') (X ++ putF k Y).length (encs (Value.int .u8) (X ++ putF k Y)) ∧ Kp w w' (fun k => k = b) := by
  have K_0 := Kp.refl w (fun k => k = b)
  have B_b := hb
  refine enter (args := [Value.pointer (some ⟨b, 0, none⟩), Value.int .i64 k, Value.slice B Y.length cl]) (n := 29) Try.func70 body70 rfl rfl rfl ?_
  intro a hE
  refine c_reg R70_0_l ?_
  refine p_cons (s_still p70_0_0 hE wn_none rfl (st_assign rfl) ?_)
  clear hE a; intro a hE
  refine p_nil ?_
  refine x_norm ?_
  refine wp_seq ?_
  refine c_reg R70_1_l ?_
  refine p_cons (s_still p70_1_0 hE wn_none rfl (st_move rfl) ?_)
  clear hE a; intro a hE
  refine p_cons (s_still p70_1_1 hE wn_none rfl (st_nil rfl) ?_)
  clear hE a; intro a hE
  refine p_cons (s_still p70_1_2 hE wn_none rfl (st_fieldAddr Try.underlying123 rfl tS29 rfl rfl) ?_)
  clear hE a; intro a hE
  refine p_cons (s_still p70_1_3 hE wn_none rfl (st_load1 tA29 rfl ((blk_cell B_b 1).trans rfl)) ?_)
  clear hE a; intro a hE
  refine p_cons (s_still p70_1_4 hE wn_none rfl (st_eql (b := true) rfl rfl (by decide)) ?_)
  clear hE a; intro a hE
  refine p_nil ?_
  refine x_norm ?_
  refine c_cond (t := true) hE rfl ?_
  refine c_regL R70_2_l ?_
  refine p_cons (s_still p70_2_0 hE wn_none rfl (st_move rfl) ?_)
  clear hE a; intro a hE
  refine p_cons (s_still p70_2_1 hE wn_none rfl (st_move rfl) ?_)
  clear hE a; intro a hE
  refine p_cons (s_still p70_2_2 hE wn_none rfl (st_move rfl) ?_)
  clear hE a; intro a hE
  refine p_cons (s_still p70_2_3 hE wn_none rfl (st_nil rfl) ?_)
  clear hE a; intro a hE
  refine p_cons (s_still p70_2_4 hE wn_none rfl (st_fieldAddr Try.underlying123 rfl tS36 rfl rfl) ?_)
  clear hE a; intro a hE
  refine p_cons (s_still p70_2_5 hE wn_none rfl (st_load1 tA36 rfl ((blk_cell B_b 0).trans rfl)) ?_)
  clear hE a; intro a hE
  refine p_cons (s_still p70_2_6 hE wn_none rfl (st_move rfl) ?_)
  clear hE a; intro a hE
  refine p_cons (s_still p70_2_7 hE wn_none rfl (st_move rfl) ?_)
  clear hE a; intro a hE
  have hnb_b := blk_lt B_b
  have hnz_0 := K_0.kept.1
  refine p_cons (s_call (xs := [Operand.tmp 18, Operand.tmp 19, Operand.tmp 20]) (args := [Value.slice A X.length c, Value.int .i64 k, Value.slice B Y.length cl]) p70_2_8 hE wn_none rfl rfl Try.func77 cl77 (put_ok A B c cl k X Y Y.length rfl hfit _ (hX _ K_0) (hY _ K_0) hlc hlen) ?_)
  rintro e w4 ⟨v, rfl, O_q3, hb⟩
  have hk := Kp.of_below hb (fun _ => False)
  obtain ⟨A1, c2, rfl⟩ := own_sl O_q3
  replace B_b := kp_blk B_b hk (fun h => h)
  replace K_0 := K_0.then_ hk (fun _ h => h.elim)
  have Nb_q3_b : ¬ OB A1 b := fun h => by have := (own_ob O_q3 h).1; have := hnb_b; omega
  have Z_0_q3 : ∀ k, OB A1 k → (fun k => k = b) k ∨ w.heap.size ≤ k := fun k h => .inr (by have := (own_ob O_q3 h).1; have := hnz_0; omega)
  replace O_q3 := own_lower O_q3 hnz_0
  refine ⟨_, rfl, ?_⟩
  clear hE a; intro a hE
  refine p_cons (s_still p70_2_9 hE wn_none rfl (st_move rfl) ?_)
  clear hE a; intro a hE
  refine p_cons (s_still p70_2_10 hE wn_none rfl (st_extract rfl rfl) ?_)
  clear hE a; intro a hE
  refine p_cons (s_still p70_2_11 hE wn_none rfl (st_extract rfl rfl) ?_)
  clear hE a; intro a hE
  refine p_cons (s_still p70_2_12 hE wn_none rfl (st_nil rfl) ?_)
  clear hE a; intro a hE
  refine p_cons (s_still p70_2_13 hE wn_none rfl (st_fieldAddr Try.underlying123 rfl tS36 rfl rfl) ?_)
  clear hE a; intro a hE
  refine p_cons (s_store (off := 0) (k := 1) (cs' := #[Value.slice A1 ((X ++ putF k Y).length) c2, Value.int .i64 0]) p70_2_14 hE wn_none tS36 rfl rfl rfl rfl B_b (Nat.le_of_ble_eq_true rfl) rfl ?_)
  intro w5 B_b' hk
  replace O_q3 := own_keep O_q3 hk (fun k hk2 h2 => Nb_q3_b (by rw [show k = b from h2] at hk2; exact hk2))
  replace K_0 := K_0.then_ hk (fun k h => by rw [show k = b from h]; exact Or.inl rfl)
  replace B_b := B_b'
  clear hk
  refine p_cons (s_still p70_2_15 hE wn_none rfl (st_nil rfl) ?_)
  clear hE a; intro a hE
  refine p_cons (s_still p70_2_16 hE wn_none rfl (st_fieldAddr Try.underlying123 rfl tS29 rfl rfl) ?_)
  clear hE a; intro a hE
  refine p_cons (s_store (off := 1) (k := 1) (cs' := #[Value.slice A1 ((X ++ putF k Y).length) c2, Value.int .i64 0]) p70_2_17 hE wn_none tS29 rfl rfl rfl rfl B_b (Nat.le_of_ble_eq_true rfl) rfl ?_)
  intro w6 B_b' hk
  replace O_q3 := own_keep O_q3 hk (fun k hk2 h2 => Nb_q3_b (by rw [show k = b from h2] at hk2; exact hk2))
  replace K_0 := K_0.then_ hk (fun k h => by rw [show k = b from h]; exact Or.inl rfl)
  replace B_b := B_b'
  clear hk
  refine p_nil ?_
  refine x_norm ?_
  refine c_reg R70_3_l ?_
  refine p_cons (s_still p70_3_0 hE wn_none rfl (st_move rfl) ?_)
  clear hE a; intro a hE
  refine p_cons (s_still p70_3_1 hE wn_none rfl (st_assign rfl) ?_)
  clear hE a; intro a hE
  refine p_nil ?_
  refine x_norm ?_
  refine wp_ret ?_
  refine ret_one (v := Value.pointer (some ⟨b, 0, none⟩)) rfl hE (.tmp rfl .nil) ?_
  exact ⟨A1, c2, rfl, B_b, O_q3, K_0⟩
theorem R19_0_l : List.range (regOf Try.f19 0).size = [0, 1, 2] := by kernel_rfl
theorem R19_1_l : List.range (regOf Try.f19 1).size = [0, 1, 2] := by kernel_rfl
theorem R19_2_l : List.range (regOf Try.f19 2).size = [0, 1] := by kernel_rfl
theorem R19_3_l : List.range (regOf Try.f19 3).size = [0, 1, 2] := by kernel_rfl
theorem R19_4_l : List.range (regOf Try.f19 4).size = [0, 1, 2, 3, 4, 5, 6, 7] := by kernel_rfl
theorem R19_5_l : List.range (regOf Try.f19 5).size = [0, 1, 2, 3, 4, 5, 6, 7, 8, 9, 10, 11, 12, 13, 14, 15] := by kernel_rfl
theorem R19_6_l : List.range (regOf Try.f19 6).size = [0, 1, 2, 3, 4, 5, 6, 7, 8, 9, 10, 11, 12, 13, 14, 15] := by kernel_rfl
theorem body19 : Try.f19.body = some (.seq (.region 0 (regOf Try.f19 0) false) (.seq (.seq (.region 1 (regOf Try.f19 1) false) (.seq (.region 2 (regOf Try.f19 2) false) (.cond (Operand.tmp 10) (.seq (.region 3 (regOf Try.f19 3) false) (.ret)) (.skip)))) (.seq (.region 4 (regOf Try.f19 4) false) (.seq (.region 5 (regOf Try.f19 5) true) (.seq (.region 6 (regOf Try.f19 6) true) (.ret)))))) := by kernel_rfl
theorem p19_0_0 : pj (regOf Try.f19 0) 0 = some (some 1, Op.box 27 (Operand.tmp 0), 0, none) := by kernel_rfl
theorem p19_0_1 : pj (regOf Try.f19 0) 1 = some (some 2, Op.assign (Operand.const (Value.slice none 0 0)), 36, none) := by kernel_rfl
theorem p19_0_2 : pj (regOf Try.f19 0) 2 = some (some 3, Op.assign (Operand.const (Value.int IntKind.i64 0)), 29, none) := by kernel_rfl
theorem p19_1_0 : pj (regOf Try.f19 1) 0 = some (some 7, Op.load 27 (Operand.tmp 1), 27, none) := by kernel_rfl
theorem p19_1_1 : pj (regOf Try.f19 1) 1 = some (some 8, Op.call { callee := Callee.value (Operand.func 16), args := #[Operand.tmp 7], argTypes := #[27] }, 29, none) := by kernel_rfl
theorem p19_1_2 : pj (regOf Try.f19 1) 2 = some (some 4, Op.assign (Operand.tmp 8), 29, none) := by kernel_rfl
theorem p19_2_0 : pj (regOf Try.f19 2) 0 = some (some 9, Op.move (Operand.tmp 4), 29, none) := by kernel_rfl
theorem p19_2_1 : pj (regOf Try.f19 2) 1 = some (some 10, Op.binOp BinOp.neq 29 (Operand.tmp 9) (Operand.const (Value.int IntKind.i64 0)) 29, 4, none) := by kernel_rfl
theorem p19_3_0 : pj (regOf Try.f19 3) 0 = some (some 11, Op.move (Operand.tmp 4), 29, none) := by kernel_rfl
theorem p19_3_1 : pj (regOf Try.f19 3) 1 = some (some 2, Op.assign (Operand.const (Value.slice none 0 0)), 36, none) := by kernel_rfl
theorem p19_3_2 : pj (regOf Try.f19 3) 2 = some (some 3, Op.assign (Operand.tmp 11), 29, none) := by kernel_rfl
set_option maxHeartbeats 4000000 in
theorem enc_bad (c f l x h : Int) (s d : Nat → Int) (hok : okF c f l x h = false) (w : World) : Calls Try.prog 19 #[Value.agg (([Value.int .i64 c, Value.int .i64 f, Value.int .i64 l, Value.int .i64 x, Value.int .i64 h] ++ b16 s ++ b16 d)).toArray] w fun e w' => e = .returned (.tuple #[.slice none 0 0, .int .i64 1]) ∧ Kp w w' (fun _ => False) := by
  have K_0 := Kp.refl w (fun _ => False)
  refine enter (args := [Value.agg (([Value.int .i64 c, Value.int .i64 f, Value.int .i64 l, Value.int .i64 x, Value.int .i64 h] ++ b16 s ++ b16 d)).toArray]) (n := 48) Try.func19 body19 rfl rfl rfl ?_
  intro a hE
  refine c_reg R19_0_l ?_
  refine p_cons (s_box p19_0_0 hE wn_none rfl rfl ?_)
  clear hE a; intro g1 w2 z3 B_g1 hk a hE
  replace B_g1 : w2.heap[g1]? = some (.cells (([Value.int .i64 c, Value.int .i64 f, Value.int .i64 l, Value.int .i64 x, Value.int .i64 h] ++ b16 s ++ b16 d)).toArray 27 (0, 0)) := B_g1
  have z_0_g1 := Nat.le_trans K_0.kept.1 z3
  replace K_0 := K_0.then_ hk (fun _ h => h.elim)
  clear hk
  refine p_cons (s_still p19_0_1 hE wn_none rfl (st_assign rfl) ?_)
  clear hE a; intro a hE
  refine p_cons (s_still p19_0_2 hE wn_none rfl (st_assign rfl) ?_)
  clear hE a; intro a hE
  refine p_nil ?_
  refine x_norm ?_
  refine wp_seq ?_
  refine c_reg R19_1_l ?_
  refine p_cons (s_still p19_1_0 hE wn_none rfl (st_loadN (off := 0) (k := 37) (vs := ([Value.int .i64 c, Value.int .i64 f, Value.int .i64 l, Value.int .i64 x, Value.int .i64 h] ++ b16 s ++ b16 d)) tA27 tS27 rfl B_g1 rfl rfl) ?_)
  clear hE a; intro a hE
  refine p_cons (s_call (xs := [Operand.tmp 7]) (args := [Value.agg (([Value.int .i64 c, Value.int .i64 f, Value.int .i64 l, Value.int .i64 x, Value.int .i64 h] ++ b16 s ++ b16 d)).toArray]) p19_1_1 hE wn_none rfl rfl Try.func16 cl16 (check_any c f l x h s d 1 (by rw [hok]; rfl) _) ?_)
  rintro e w4 ⟨rfl, hk⟩
  replace B_g1 := kp_blk B_g1 hk (fun h => h)
  replace K_0 := K_0.then_ hk (fun _ h => h.elim)
  refine ⟨_, rfl, ?_⟩
  clear hE a; intro a hE
  refine p_cons (s_still p19_1_2 hE wn_none rfl (st_assign rfl) ?_)
  clear hE a; intro a hE
  refine p_nil ?_
  refine x_norm ?_
  refine c_reg R19_2_l ?_
  refine p_cons (s_still p19_2_0 hE wn_none rfl (st_move rfl) ?_)
  clear hE a; intro a hE
  refine p_cons (s_still p19_2_1 hE wn_none rfl (st_neq (b := true) rfl rfl (by decide)) ?_)
  clear hE a; intro a hE
  refine p_nil ?_
  refine x_norm ?_
  refine c_cond (t := true) hE rfl ?_
  refine c_reg R19_3_l ?_
  refine p_cons (s_still p19_3_0 hE wn_none rfl (st_move rfl) ?_)
  clear hE a; intro a hE
  refine p_cons (s_still p19_3_1 hE wn_none rfl (st_assign rfl) ?_)
  clear hE a; intro a hE
  refine p_cons (s_still p19_3_2 hE wn_none rfl (st_assign rfl) ?_)
  clear hE a; intro a hE
  refine p_nil ?_
  refine x_norm ?_
  refine wp_ret ?_
  refine x_ret ?_
  refine ret_list (rs := [.tmp 2, .tmp 3]) (vs := [Value.slice none 0 0, Value.int .i64 1]) rfl hE (.tmp rfl (.tmp rfl .nil)) rfl ?_
  exact ⟨rfl, K_0⟩
theorem p19_4_0 : pj (regOf Try.f19 4) 0 = some (some 12, Op.fieldAddr 27 (Operand.tmp 1) 0, 0, none) := by kernel_rfl
theorem p19_4_1 : pj (regOf Try.f19 4) 1 = some (some 13, Op.load 3 (Operand.tmp 12), 3, none) := by kernel_rfl
theorem p19_4_2 : pj (regOf Try.f19 4) 2 = some (some 14, Op.binOp BinOp.add 3 (Operand.const (Value.int IntKind.i64 1536)) (Operand.tmp 13) 3, 3, none) := by kernel_rfl
theorem p19_4_3 : pj (regOf Try.f19 4) 3 = some (some 15, Op.binOp BinOp.mul 3 (Operand.tmp 14) (Operand.const (Value.int IntKind.i64 1048576)) 3, 3, none) := by kernel_rfl
theorem p19_4_4 : pj (regOf Try.f19 4) 4 = some (some 16, Op.fieldAddr 27 (Operand.tmp 1) 1, 0, none) := by kernel_rfl
theorem p19_4_5 : pj (regOf Try.f19 4) 5 = some (some 17, Op.load 3 (Operand.tmp 16), 3, none) := by kernel_rfl
theorem p19_4_6 : pj (regOf Try.f19 4) 6 = some (some 18, Op.binOp BinOp.add 3 (Operand.tmp 15) (Operand.tmp 17) 3, 3, none) := by kernel_rfl
theorem p19_4_7 : pj (regOf Try.f19 4) 7 = some (some 5, Op.assign (Operand.tmp 18), 3, none) := by kernel_rfl
theorem ns19_5 : Region.noSelect (regOf Try.f19 5) = true := by kernel_rfl
theorem p19_5_0 : pj (regOf Try.f19 5) 0 = some (some 19, Op.build 123 #[], 123, none) := by kernel_rfl
theorem p19_5_2 : pj (regOf Try.f19 5) 2 = some (some 21, Op.move (Operand.tmp 5), 3, none) := by kernel_rfl
theorem p19_5_5 : pj (regOf Try.f19 5) 5 = some (some 24, Op.fieldAddr 27 (Operand.tmp 1) 2, 0, none) := by kernel_rfl
theorem p19_5_6 : pj (regOf Try.f19 5) 6 = some (some 25, Op.load 3 (Operand.tmp 24), 3, none) := by kernel_rfl
theorem p19_5_9 : pj (regOf Try.f19 5) 9 = some (some 28, Op.fieldAddr 27 (Operand.tmp 1) 3, 0, none) := by kernel_rfl
theorem p19_5_10 : pj (regOf Try.f19 5) 10 = some (some 29, Op.load 3 (Operand.tmp 28), 3, none) := by kernel_rfl
theorem p19_5_11 : pj (regOf Try.f19 5) 11 = some (some 30, Op.fieldAddr 27 (Operand.tmp 1) 4, 0, none) := by kernel_rfl
theorem p19_5_12 : pj (regOf Try.f19 5) 12 = some (some 31, Op.load 3 (Operand.tmp 30), 3, none) := by kernel_rfl
theorem p19_5_1 : pj (regOf Try.f19 5) 1 = some (some 20, Op.box 123 (Operand.tmp 19), 121, none) := by kernel_rfl
theorem p19_5_3 : pj (regOf Try.f19 5) 3 = some (some 22, Op.buildSlice 62 1 #[(0, Operand.tmp 21)], 62, none) := by kernel_rfl
theorem p19_5_7 : pj (regOf Try.f19 5) 7 = some (some 26, Op.buildSlice 62 1 #[(0, Operand.tmp 25)], 62, none) := by kernel_rfl
theorem p19_5_13 : pj (regOf Try.f19 5) 13 = some (some 32, Op.buildSlice 62 2 #[(0, Operand.tmp 29), (1, Operand.tmp 31)], 62, none) := by kernel_rfl
theorem p19_5_4 : pj (regOf Try.f19 5) 4 = some (some 23, Op.call { callee := Callee.value (Operand.func 70), args := #[Operand.tmp 20, Operand.const (Value.int IntKind.i64 4), Operand.tmp 22], argTypes := #[121, 3, 62] }, 121, none) := by kernel_rfl
theorem cl70 : callable Try.f70 = true := by kernel_rfl
theorem p19_5_8 : pj (regOf Try.f19 5) 8 = some (some 27, Op.call { callee := Callee.value (Operand.func 70), args := #[Operand.tmp 23, Operand.const (Value.int IntKind.i64 2), Operand.tmp 26], argTypes := #[121, 3, 62] }, 121, none) := by kernel_rfl
theorem p19_5_14 : pj (regOf Try.f19 5) 14 = some (some 33, Op.call { callee := Callee.value (Operand.func 70), args := #[Operand.tmp 27, Operand.const (Value.int IntKind.i64 1), Operand.tmp 32], argTypes := #[121, 3, 62] }, 121, none) := by kernel_rfl
theorem p19_5_15 : pj (regOf Try.f19 5) 15 = some (some 6, Op.assign (Operand.tmp 33), 121, none) := by kernel_rfl
theorem ns19_6 : Region.noSelect (regOf Try.f19 6) = true := by kernel_rfl
theorem p19_6_0 : pj (regOf Try.f19 6) 0 = some (some 34, Op.move (Operand.tmp 6), 121, none) := by kernel_rfl
theorem p19_6_1 : pj (regOf Try.f19 6) 1 = some (some 35, Op.nilCheck (Operand.tmp 34), 0, none) := by kernel_rfl
theorem p19_6_2 : pj (regOf Try.f19 6) 2 = some (some 36, Op.fieldAddr 123 (Operand.tmp 35) 0, 0, none) := by kernel_rfl
theorem p19_6_3 : pj (regOf Try.f19 6) 3 = some (some 37, Op.load 36 (Operand.tmp 36), 36, none) := by kernel_rfl
theorem p19_6_4 : pj (regOf Try.f19 6) 4 = some (some 38, Op.fieldAddr 27 (Operand.tmp 1) 5, 0, none) := by kernel_rfl
theorem p19_6_5 : pj (regOf Try.f19 6) 5 = some (some 39, Op.slice 25 (Operand.tmp 38) none none none, 36, none) := by kernel_rfl
theorem tS5 : (Try.prog.info? 5).map (·.size) = some 1 := by kernel_rfl
theorem p19_6_6 : pj (regOf Try.f19 6) 6 = some (some 40, Op.fieldAddr 27 (Operand.tmp 1) 6, 0, none) := by kernel_rfl
theorem p19_6_7 : pj (regOf Try.f19 6) 7 = some (some 41, Op.slice 25 (Operand.tmp 40) none none none, 36, none) := by kernel_rfl
theorem p19_6_10 : pj (regOf Try.f19 6) 10 = some (some 44, Op.move (Operand.tmp 6), 121, none) := by kernel_rfl
theorem p19_6_11 : pj (regOf Try.f19 6) 11 = some (some 45, Op.nilCheck (Operand.tmp 44), 0, none) := by kernel_rfl
theorem p19_6_12 : pj (regOf Try.f19 6) 12 = some (some 46, Op.fieldAddr 123 (Operand.tmp 45) 1, 0, none) := by kernel_rfl
theorem p19_6_13 : pj (regOf Try.f19 6) 13 = some (some 47, Op.load 29 (Operand.tmp 46), 29, none) := by kernel_rfl
theorem p19_6_8 : pj (regOf Try.f19 6) 8 = some (some 42, Op.buildSlice 35 3 #[(0, Operand.tmp 37), (1, Operand.tmp 39), (2, Operand.tmp 41)], 35, none) := by kernel_rfl
theorem p19_6_9 : pj (regOf Try.f19 6) 9 = some (some 43, Op.call { callee := Callee.value (Operand.func 71), args := #[Operand.tmp 42], argTypes := #[35] }, 36, none) := by kernel_rfl
theorem cl71 : callable Try.f71 = true := by kernel_rfl
theorem p19_6_14 : pj (regOf Try.f19 6) 14 = some (some 2, Op.assign (Operand.tmp 43), 36, none) := by kernel_rfl
theorem p19_6_15 : pj (regOf Try.f19 6) 15 = some (some 3, Op.assign (Operand.tmp 47), 29, none) := by kernel_rfl
set_option maxHeartbeats 4000000 in
theorem enc_ok (c f l x h : Int) (s d : Nat → Int) (hok : okF c f l x h = true) (w : World) : Calls Try.prog 19 #[Value.agg (([Value.int .i64 c, Value.int .i64 f, Value.int .i64 l, Value.int .i64 x, Value.int .i64 h] ++ b16 s ++ b16 d)).toArray] w fun e w' => ∃ A c', e = .returned (.tuple #[.slice A 40 c', .int .i64 0]) ∧ w'.ownsRow w.heap.size 5 1 (.slice A 40 c') 40 (encs (Value.int .u8) (encF c f l x h s d)) ∧ Kp w w' (fun _ => False) := by
  have K_0 := Kp.refl w (fun _ => False)
  obtain ⟨hc, hf, hl, hx, hh⟩ := okF_of hok
  have hfxh : fitsF 1 [x, h] = true := fits1 (by intro y hy; simp at hy; omega)
  refine enter (args := [Value.agg (([Value.int .i64 c, Value.int .i64 f, Value.int .i64 l, Value.int .i64 x, Value.int .i64 h] ++ b16 s ++ b16 d)).toArray]) (n := 48) Try.func19 body19 rfl rfl rfl ?_
  intro a hE
  refine c_reg R19_0_l ?_
  refine p_cons (s_box p19_0_0 hE wn_none rfl rfl ?_)
  clear hE a; intro g1 w2 z3 B_g1 hk a hE
  replace B_g1 : w2.heap[g1]? = some (.cells (([Value.int .i64 c, Value.int .i64 f, Value.int .i64 l, Value.int .i64 x, Value.int .i64 h] ++ b16 s ++ b16 d)).toArray 27 (0, 0)) := B_g1
  have z_0_g1 := Nat.le_trans K_0.kept.1 z3
  replace K_0 := K_0.then_ hk (fun _ h => h.elim)
  clear hk
  refine p_cons (s_still p19_0_1 hE wn_none rfl (st_assign rfl) ?_)
  clear hE a; intro a hE
  refine p_cons (s_still p19_0_2 hE wn_none rfl (st_assign rfl) ?_)
  clear hE a; intro a hE
  refine p_nil ?_
  refine x_norm ?_
  refine wp_seq ?_
  refine c_reg R19_1_l ?_
  refine p_cons (s_still p19_1_0 hE wn_none rfl (st_loadN (off := 0) (k := 37) (vs := ([Value.int .i64 c, Value.int .i64 f, Value.int .i64 l, Value.int .i64 x, Value.int .i64 h] ++ b16 s ++ b16 d)) tA27 tS27 rfl B_g1 rfl rfl) ?_)
  clear hE a; intro a hE
  refine p_cons (s_call (xs := [Operand.tmp 7]) (args := [Value.agg (([Value.int .i64 c, Value.int .i64 f, Value.int .i64 l, Value.int .i64 x, Value.int .i64 h] ++ b16 s ++ b16 d)).toArray]) p19_1_1 hE wn_none rfl rfl Try.func16 cl16 (check_any c f l x h s d 0 (by rw [hok]; rfl) _) ?_)
  rintro e w4 ⟨rfl, hk⟩
  replace B_g1 := kp_blk B_g1 hk (fun h => h)
  replace K_0 := K_0.then_ hk (fun _ h => h.elim)
  refine ⟨_, rfl, ?_⟩
  clear hE a; intro a hE
  refine p_cons (s_still p19_1_2 hE wn_none rfl (st_assign rfl) ?_)
  clear hE a; intro a hE
  refine p_nil ?_
  refine x_norm ?_
  refine c_reg R19_2_l ?_
  refine p_cons (s_still p19_2_0 hE wn_none rfl (st_move rfl) ?_)
  clear hE a; intro a hE
  refine p_cons (s_still p19_2_1 hE wn_none rfl (st_neq (b := false) rfl rfl (by decide)) ?_)
  clear hE a; intro a hE
  refine p_nil ?_
  refine x_norm ?_
  refine c_cond (t := false) hE rfl ?_
  refine wp_skip ?_
  refine x_norm ?_
  refine c_reg R19_4_l ?_
  refine p_cons (s_still p19_4_0 hE wn_none rfl (st_fieldAddr Try.underlying27 rfl tS3 rfl rfl) ?_)
  clear hE a; intro a hE
  refine p_cons (s_still p19_4_1 hE wn_none rfl (st_load1 tA3 rfl ((blk_cell B_g1 0).trans rfl)) ?_)
  clear hE a; intro a hE
  refine p_cons (s_still p19_4_2 hE wn_none rfl (st_add (z := 1536 + c) rfl rfl (wr_i64 _ (by omega) (by omega))) ?_)
  clear hE a; intro a hE
  refine p_cons (s_still p19_4_3 hE wn_none rfl (st_mul (z := (1536 + c) * 1048576) rfl rfl (wr_i64 _ (by omega) (by omega))) ?_)
  clear hE a; intro a hE
  refine p_cons (s_still p19_4_4 hE wn_none rfl (st_fieldAddr Try.underlying27 rfl tS3 rfl rfl) ?_)
  clear hE a; intro a hE
  refine p_cons (s_still p19_4_5 hE wn_none rfl (st_load1 tA3 rfl ((blk_cell B_g1 1).trans rfl)) ?_)
  clear hE a; intro a hE
  refine p_cons (s_still p19_4_6 hE wn_none rfl (st_add (z := ((1536 + c) * 1048576) + f) rfl rfl (wr_i64 _ (by omega) (by omega))) ?_)
  clear hE a; intro a hE
  refine p_cons (s_still p19_4_7 hE wn_none rfl (st_assign rfl) ?_)
  clear hE a; intro a hE
  refine p_nil ?_
  refine x_norm ?_
  refine c_drawMS (S := fun W => W.heap[g1]? = some (.cells (([Value.int .i64 c, Value.int .i64 f, Value.int .i64 l, Value.int .i64 x, Value.int .i64 h] ++ b16 s ++ b16 d)).toArray 27 (0, 0)) ∧ True) rfl rfl (listed := #[false, false, false, false, false, false, false, false, false, false, false, false, false, false, false, false]) rfl pan_body (fun QQ hQ hend => ?_)
  have dr5_22 : ∀ (A5_14 : Option Addr) (A5_4 : Option Addr) (A5_8 : Option Addr) (c5_14 : Nat) (c5_4 : Nat) (c5_8 : Nat) (g5_1 : Nat) (g5_13 : Nat) (g5_3 : Nat) (g5_7 : Nat) (W : World) (a : Act), En 48 a [(0, Value.agg (([Value.int .i64 c, Value.int .i64 f, Value.int .i64 l, Value.int .i64 x, Value.int .i64 h] ++ b16 s ++ b16 d)).toArray), (1, Value.pointer (some ⟨g1, 0, none⟩)), (2, Value.slice none 0 0), (3, Value.int .i64 0), (4, Value.int .i64 0), (5, Value.int .i64 (((1536 + c) * 1048576) + f)), (6, Value.pointer (some ⟨g5_1, 0, none⟩)), (10, Value.bool false), (19, Value.agg #[Value.slice none 0 0, Value.int .i64 0]), (20, Value.pointer (some ⟨g5_1, 0, none⟩)), (21, Value.int .i64 (((1536 + c) * 1048576) + f)), (22, Value.slice (some ⟨g5_3, 0, none⟩) 1 1), (23, Value.pointer (some ⟨g5_1, 0, none⟩)), (24, Value.pointer (some ⟨g1, 2, none⟩)), (25, Value.int .i64 l), (26, Value.slice (some ⟨g5_7, 0, none⟩) 1 1), (27, Value.pointer (some ⟨g5_1, 0, none⟩)), (28, Value.pointer (some ⟨g1, 3, none⟩)), (29, Value.int .i64 x), (30, Value.pointer (some ⟨g1, 4, none⟩)), (31, Value.int .i64 h), (32, Value.slice (some ⟨g5_13, 0, none⟩) 2 2), (33, Value.pointer (some ⟨g5_1, 0, none⟩))] → W.heap[g1]? = some (.cells (([Value.int .i64 c, Value.int .i64 f, Value.int .i64 l, Value.int .i64 x, Value.int .i64 h] ++ b16 s ++ b16 d)).toArray 27 (0, 0)) → W.heap[g5_3]? = some (.cells #[Value.int .i64 (((1536 + c) * 1048576) + f)] 3 (0, 0)) → W.heap[g5_1]? = some (.cells #[Value.slice A5_14 ((((putF 4 [((1536 + c) * 1048576) + f]) ++ putF 2 [l]) ++ putF 1 [x, h]).length) c5_14, Value.int .i64 0] 123 (0, 0)) → W.heap[g5_7]? = some (.cells #[Value.int .i64 l] 3 (0, 0)) → W.heap[g5_13]? = some (.cells #[Value.int .i64 x, Value.int .i64 h] 3 (0, 0)) → g1 ≠ g5_1 → g1 ≠ g5_13 → g1 ≠ g5_3 → g1 ≠ g5_7 → g5_1 ≠ g5_13 → g5_1 ≠ g5_3 → g5_1 ≠ g5_7 → g5_13 ≠ g5_3 → g5_13 ≠ g5_7 → g5_3 ≠ g5_7 → w.heap.size ≤ g5_1 → w.heap.size ≤ g5_13 → w.heap.size ≤ g5_3 → w.heap.size ≤ g5_7 → ¬ OB A5_14 g1 → ¬ OB A5_14 g5_3 → ¬ OB A5_14 g5_1 → ¬ OB A5_14 g5_7 → ¬ OB A5_14 g5_13 → (∀ k, OB A5_14 k → (fun _ => False) k ∨ w.heap.size ≤ k) → W.ownsRow w.heap.size 5 1 (.slice A5_14 ((((putF 4 [((1536 + c) * 1048576) + f]) ++ putF 2 [l]) ++ putF 1 [x, h]).length) c5_14) ((((putF 4 [((1536 + c) * 1048576) + f]) ++ putF 2 [l]) ++ putF 1 [x, h]).length) (encs (Value.int .u8) (((putF 4 [((1536 + c) * 1048576) + f]) ++ putF 2 [l]) ++ putF 1 [x, h])) → Kp w W (fun _ => False) → wpAnyH Try.prog .any (regOf Try.f19 5) QQ (fun W => W.heap[g1]? = some (.cells (([Value.int .i64 c, Value.int .i64 f, Value.int .i64 l, Value.int .i64 x, Value.int .i64 h] ++ b16 s ++ b16 d)).toArray 27 (0, 0)) ∧ True) 0 #[true, true, true, true, true, true, true, true, true, true, true, true, true, true, true, true] a W := by
    intro A5_14 A5_4 A5_8 c5_14 c5_4 c5_8 g5_1 g5_13 g5_3 g5_7 w87 a hE B_g1 B_g5_3 B_g5_1 B_g5_7 B_g5_13 n_g1_g5_1 n_g1_g5_13 n_g1_g5_3 n_g1_g5_7 n_g5_1_g5_13 n_g5_1_g5_3 n_g5_1_g5_7 n_g5_13_g5_3 n_g5_13_g5_7 n_g5_3_g5_7 z_0_g5_1 z_0_g5_13 z_0_g5_3 z_0_g5_7 Nb_q5_14_g1 Nb_q5_14_g5_3 Nb_q5_14_g5_1 Nb_q5_14_g5_7 Nb_q5_14_g5_13 Z_0_q5_14 O_q5_14 K_0
    refine d_end (by kernel_rfl) (hend _ _ ?_)
    refine c_drawS (S := fun W => W.heap[g1]? = some (.cells (([Value.int .i64 c, Value.int .i64 f, Value.int .i64 l, Value.int .i64 x, Value.int .i64 h] ++ b16 s ++ b16 d)).toArray 27 (0, 0)) ∧ W.heap[g5_3]? = some (.cells #[Value.int .i64 (((1536 + c) * 1048576) + f)] 3 (0, 0)) ∧ W.heap[g5_1]? = some (.cells #[Value.slice A5_14 ((((putF 4 [((1536 + c) * 1048576) + f]) ++ putF 2 [l]) ++ putF 1 [x, h]).length) c5_14, Value.int .i64 0] 123 (0, 0)) ∧ W.heap[g5_7]? = some (.cells #[Value.int .i64 l] 3 (0, 0)) ∧ W.heap[g5_13]? = some (.cells #[Value.int .i64 x, Value.int .i64 h] 3 (0, 0)) ∧ True) rfl rfl (listed := #[false, false, false, false, false, false, false, false, false, false, false, false, false, false, false, false]) rfl ?_
    intro w88 hh hk
    replace B_g1 := kp_blk B_g1 hk (fun h => h)
    replace B_g5_3 := kp_blk B_g5_3 hk (fun h => h)
    replace B_g5_1 := kp_blk B_g5_1 hk (fun h => h)
    replace B_g5_7 := kp_blk B_g5_7 hk (fun h => h)
    replace B_g5_13 := kp_blk B_g5_13 hk (fun h => h)
    replace O_q5_14 := own_keep O_q5_14 hk (fun _ _ h => h)
    replace K_0 := K_0.then_ hk (fun _ h => h.elim)
    clear hh hk
    refine d_take (v := Value.pointer (some ⟨g5_1, 0, none⟩)) p19_6_0 ns19_6 (by kernel_rfl) (by kernel_rfl) (fun _ _ _ h => h) hE wn_none rfl ⟨B_g1, B_g5_3, B_g5_1, B_g5_7, B_g5_13, trivial⟩ (fun W hS => (st_move rfl)) (listed' := #[true, false, false, false, false, false, false, false, false, false, false, false, false, false, false, false]) rfl ?_
    clear hE a; intro a hE
    refine d_take (v := Value.pointer (some ⟨g5_1, 0, none⟩)) p19_6_1 ns19_6 (by kernel_rfl) (by kernel_rfl) (fun _ _ _ h => h) hE wn_none rfl ⟨B_g1, B_g5_3, B_g5_1, B_g5_7, B_g5_13, trivial⟩ (fun W hS => (st_nil rfl)) (listed' := #[true, true, false, false, false, false, false, false, false, false, false, false, false, false, false, false]) rfl ?_
    clear hE a; intro a hE
    refine d_take (v := Value.pointer (some ⟨g5_1, 0, none⟩)) p19_6_2 ns19_6 (by kernel_rfl) (by kernel_rfl) (fun _ _ _ h => h) hE wn_none rfl ⟨B_g1, B_g5_3, B_g5_1, B_g5_7, B_g5_13, trivial⟩ (fun W hS => (st_fieldAddr Try.underlying123 rfl tS36 rfl rfl)) (listed' := #[true, true, true, false, false, false, false, false, false, false, false, false, false, false, false, false]) rfl ?_
    clear hE a; intro a hE
    refine d_take (v := Value.slice A5_14 ((((putF 4 [((1536 + c) * 1048576) + f]) ++ putF 2 [l]) ++ putF 1 [x, h]).length) c5_14) p19_6_3 ns19_6 (by kernel_rfl) (by kernel_rfl) (fun _ _ _ h => h) hE wn_none rfl ⟨B_g1, B_g5_3, B_g5_1, B_g5_7, B_g5_13, trivial⟩ (fun W hS => (st_load1 tA36 rfl ((blk_cell hS.2.2.1 0).trans rfl))) (listed' := #[true, true, true, true, false, false, false, false, false, false, false, false, false, false, false, false]) rfl ?_
    clear hE a; intro a hE
    refine d_take (v := Value.pointer (some ⟨g1, 5, none⟩)) p19_6_4 ns19_6 (by kernel_rfl) (by kernel_rfl) (fun _ _ _ h => h) hE wn_none rfl ⟨B_g1, B_g5_3, B_g5_1, B_g5_7, B_g5_13, trivial⟩ (fun W hS => (st_fieldAddr Try.underlying27 rfl tS25 rfl rfl)) (listed' := #[true, true, true, true, true, false, false, false, false, false, false, false, false, false, false, false]) rfl ?_
    clear hE a; intro a hE
    refine d_take (v := Value.slice (some ⟨g1, 5, none⟩) 16 16) p19_6_5 ns19_6 (by kernel_rfl) (by kernel_rfl) (fun _ _ _ h => h) hE wn_none rfl ⟨B_g1, B_g5_3, B_g5_1, B_g5_7, B_g5_13, trivial⟩ (fun W hS => (st_sliceA Try.underlying25 tS5 rfl)) (listed' := #[true, true, true, true, true, true, false, false, false, false, false, false, false, false, false, false]) rfl ?_
    clear hE a; intro a hE
    refine d_take (v := Value.pointer (some ⟨g1, 21, none⟩)) p19_6_6 ns19_6 (by kernel_rfl) (by kernel_rfl) (fun _ _ _ h => h) hE wn_none rfl ⟨B_g1, B_g5_3, B_g5_1, B_g5_7, B_g5_13, trivial⟩ (fun W hS => (st_fieldAddr Try.underlying27 rfl tS25 rfl rfl)) (listed' := #[true, true, true, true, true, true, true, false, false, false, false, false, false, false, false, false]) rfl ?_
    clear hE a; intro a hE
    refine d_take (v := Value.slice (some ⟨g1, 21, none⟩) 16 16) p19_6_7 ns19_6 (by kernel_rfl) (by kernel_rfl) (fun _ _ _ h => h) hE wn_none rfl ⟨B_g1, B_g5_3, B_g5_1, B_g5_7, B_g5_13, trivial⟩ (fun W hS => (st_sliceA Try.underlying25 tS5 rfl)) (listed' := #[true, true, true, true, true, true, true, true, false, false, false, false, false, false, false, false]) rfl ?_
    clear hE a; intro a hE
    refine d_take (v := Value.pointer (some ⟨g5_1, 0, none⟩)) p19_6_10 ns19_6 (by kernel_rfl) (by kernel_rfl) (fun _ _ _ h => h) hE wn_none rfl ⟨B_g1, B_g5_3, B_g5_1, B_g5_7, B_g5_13, trivial⟩ (fun W hS => (st_move rfl)) (listed' := #[true, true, true, true, true, true, true, true, false, false, true, false, false, false, false, false]) rfl ?_
    clear hE a; intro a hE
    refine d_take (v := Value.pointer (some ⟨g5_1, 0, none⟩)) p19_6_11 ns19_6 (by kernel_rfl) (by kernel_rfl) (fun _ _ _ h => h) hE wn_none rfl ⟨B_g1, B_g5_3, B_g5_1, B_g5_7, B_g5_13, trivial⟩ (fun W hS => (st_nil rfl)) (listed' := #[true, true, true, true, true, true, true, true, false, false, true, true, false, false, false, false]) rfl ?_
    clear hE a; intro a hE
    refine d_take (v := Value.pointer (some ⟨g5_1, 1, none⟩)) p19_6_12 ns19_6 (by kernel_rfl) (by kernel_rfl) (fun _ _ _ h => h) hE wn_none rfl ⟨B_g1, B_g5_3, B_g5_1, B_g5_7, B_g5_13, trivial⟩ (fun W hS => (st_fieldAddr Try.underlying123 rfl tS29 rfl rfl)) (listed' := #[true, true, true, true, true, true, true, true, false, false, true, true, true, false, false, false]) rfl ?_
    clear hE a; intro a hE
    refine d_take (v := Value.int .i64 0) p19_6_13 ns19_6 (by kernel_rfl) (by kernel_rfl) (fun _ _ _ h => h) hE wn_none rfl ⟨B_g1, B_g5_3, B_g5_1, B_g5_7, B_g5_13, trivial⟩ (fun W hS => (st_load1 tA29 rfl ((blk_cell hS.2.2.1 1).trans rfl))) (listed' := #[true, true, true, true, true, true, true, true, false, false, true, true, true, true, false, false]) rfl ?_
    clear hE a; intro a hE
    refine d_one (by kernel_rfl) (listed' := #[true, true, true, true, true, true, true, true, true, false, true, true, true, true, false, false]) rfl (s_row (xs := [(0, Operand.tmp 37), (1, Operand.tmp 39), (2, Operand.tmp 41)]) (vs := [(0, Value.slice A5_14 ((((putF 4 [((1536 + c) * 1048576) + f]) ++ putF 2 [l]) ++ putF 1 [x, h]).length) c5_14), (1, Value.slice (some ⟨g1, 5, none⟩) 16 16), (2, Value.slice (some ⟨g1, 21, none⟩) 16 16)]) (cs := #[Value.slice A5_14 ((((putF 4 [((1536 + c) * 1048576) + f]) ++ putF 2 [l]) ++ putF 1 [x, h]).length) c5_14, Value.slice (some ⟨g1, 5, none⟩) 16 16, Value.slice (some ⟨g1, 21, none⟩) 16 16]) p19_6_8 hE wn_none rfl Try.underlying35 rfl (by kernel_rfl) ?_)
    clear hE a; intro g89 w90 z91 B_g89 hk a hE
    have n_g1_g89 : g1 ≠ g89 := ne_new B_g1 z91
    have n_g5_3_g89 : g5_3 ≠ g89 := ne_new B_g5_3 z91
    have n_g5_1_g89 : g5_1 ≠ g89 := ne_new B_g5_1 z91
    have n_g5_7_g89 : g5_7 ≠ g89 := ne_new B_g5_7 z91
    have n_g5_13_g89 : g5_13 ≠ g89 := ne_new B_g5_13 z91
    have z_0_g89 := Nat.le_trans K_0.kept.1 z91
    have Nb_q5_14_g89 : ¬ OB A5_14 g89 := fun h => by have := (own_ob O_q5_14 h).2; omega
    replace B_g1 := kp_blk B_g1 hk (fun h => h)
    replace B_g5_3 := kp_blk B_g5_3 hk (fun h => h)
    replace B_g5_1 := kp_blk B_g5_1 hk (fun h => h)
    replace B_g5_7 := kp_blk B_g5_7 hk (fun h => h)
    replace B_g5_13 := kp_blk B_g5_13 hk (fun h => h)
    replace O_q5_14 := own_keep O_q5_14 hk (fun _ _ h => h)
    replace K_0 := K_0.then_ hk (fun _ h => h.elim)
    clear hk
    refine ⟨⟨B_g1, B_g5_3, B_g5_1, B_g5_7, B_g5_13, trivial⟩, ?_⟩
    have hnb_g1 := blk_lt B_g1
    have hnb_g5_3 := blk_lt B_g5_3
    have hnb_g5_1 := blk_lt B_g5_1
    have hnb_g5_7 := blk_lt B_g5_7
    have hnb_g5_13 := blk_lt B_g5_13
    have hnb_g89 := blk_lt B_g89
    have hnz_0 := K_0.kept.1
    have hno_q5_14 := fun k (h : OB A5_14 k) => (own_ob O_q5_14 h).2
    have hrows := C_rows (e := 5) [(A5_14, c5_14, (((putF 4 [((1536 + c) * 1048576) + f]) ++ putF 2 [l]) ++ putF 1 [x, h])), (some ⟨g1, 5, none⟩, 16, l16 s), (some ⟨g1, 21, none⟩, 16, l16 d)] B_g89 rfl (Nat.le_of_ble_eq_true rfl) (by intro r hr; simp only [List.mem_cons, List.not_mem_nil, or_false] at hr; rcases hr with rfl | rfl | rfl; exact ⟨(own_caps O_q5_14).1, (own_told O_q5_14)⟩; exact ⟨Nat.le_of_ble_eq_true rfl, C_blk (k := .u8) (l := l16 s) (off := 5) B_g1 ⟨rfl, Nat.le_of_ble_eq_true rfl⟩ rfl⟩; exact ⟨Nat.le_of_ble_eq_true rfl, C_blk (k := .u8) (l := l16 d) (off := 21) B_g1 ⟨rfl, Nat.le_of_ble_eq_true rfl⟩ rfl⟩)
    refine d_one (by kernel_rfl) (listed' := #[true, true, true, true, true, true, true, true, true, true, true, true, true, true, false, false]) rfl (s_call (xs := [Operand.tmp 42]) (args := [Value.slice (some ⟨g89, 0, none⟩) 3 3]) p19_6_9 hE wn_none rfl rfl Try.func71 cl71 (concat_any (some ⟨g89, 0, none⟩) 3 3 [putF 4 [(1536 + c) * 1048576 + f] ++ putF 2 [l] ++ putF 1 [x, h], l16 s, l16 d] rfl _ hrows (Nat.le_of_ble_eq_true rfl) (Nat.le_of_ble_eq_true rfl) (Nat.le_of_ble_eq_true rfl)) ?_)
    rintro e w95 ⟨A92, c93, rfl, O_q94, hk⟩
    replace B_g1 := kp_blk B_g1 hk (fun h => h)
    replace B_g5_3 := kp_blk B_g5_3 hk (fun h => h)
    replace B_g5_1 := kp_blk B_g5_1 hk (fun h => h)
    replace B_g5_7 := kp_blk B_g5_7 hk (fun h => h)
    replace B_g5_13 := kp_blk B_g5_13 hk (fun h => h)
    replace B_g89 := kp_blk B_g89 hk (fun h => h)
    replace O_q5_14 := own_keep O_q5_14 hk (fun _ _ h => h)
    replace K_0 := K_0.then_ hk (fun _ h => h.elim)
    have Nb_q94_g1 : ¬ OB A92 g1 := fun h => by have := (own_ob O_q94 h).1; have := hnb_g1; omega
    have Nb_q94_g5_3 : ¬ OB A92 g5_3 := fun h => by have := (own_ob O_q94 h).1; have := hnb_g5_3; omega
    have Nb_q94_g5_1 : ¬ OB A92 g5_1 := fun h => by have := (own_ob O_q94 h).1; have := hnb_g5_1; omega
    have Nb_q94_g5_7 : ¬ OB A92 g5_7 := fun h => by have := (own_ob O_q94 h).1; have := hnb_g5_7; omega
    have Nb_q94_g5_13 : ¬ OB A92 g5_13 := fun h => by have := (own_ob O_q94 h).1; have := hnb_g5_13; omega
    have Nb_q94_g89 : ¬ OB A92 g89 := fun h => by have := (own_ob O_q94 h).1; have := hnb_g89; omega
    have Z_0_q94 : ∀ k, OB A92 k → (fun _ => False) k ∨ w.heap.size ≤ k := fun k h => .inr (by have := (own_ob O_q94 h).1; have := hnz_0; omega)
    have NN_q94_q5_14 : ∀ k, OB A92 k → ¬ OB A5_14 k := fun k h h2 => by have := (own_ob O_q94 h).1; have := hno_q5_14 k h2; omega
    have NN_q5_14_q94 : ∀ k, OB A5_14 k → ¬ OB A92 k := fun k h h2 => NN_q94_q5_14 k h2 h
    replace O_q94 := own_lower O_q94 hnz_0
    refine ⟨_, rfl, ?_⟩
    clear hE a; intro a hE
    refine ⟨⟨B_g1, B_g5_3, B_g5_1, B_g5_7, B_g5_13, trivial⟩, ?_⟩
    refine d_take (v := Value.slice A92 40 c93) p19_6_14 ns19_6 (by kernel_rfl) (by kernel_rfl) (fun _ _ _ h => h) hE wn_none rfl ⟨B_g1, B_g5_3, B_g5_1, B_g5_7, B_g5_13, trivial⟩ (fun W hS => (st_assign rfl)) (listed' := #[true, true, true, true, true, true, true, true, true, true, true, true, true, true, true, false]) rfl ?_
    clear hE a; intro a hE
    refine d_take (v := Value.int .i64 0) p19_6_15 ns19_6 (by kernel_rfl) (by kernel_rfl) (fun _ _ _ h => h) hE wn_none rfl ⟨B_g1, B_g5_3, B_g5_1, B_g5_7, B_g5_13, trivial⟩ (fun W hS => (st_assign rfl)) (listed' := #[true, true, true, true, true, true, true, true, true, true, true, true, true, true, true, true]) rfl ?_
    clear hE a; intro a hE
    refine d_end (by kernel_rfl) ?_
    refine x_norm ?_
    refine wp_ret ?_
    refine ret_list (rs := [.tmp 2, .tmp 3]) (vs := [Value.slice A92 40 c93, Value.int .i64 0]) rfl hE (.tmp rfl (.tmp rfl .nil)) rfl ?_
    exact ⟨_, _, rfl, O_q94, K_0⟩
  have dr5_21 : ∀ (A5_4 : Option Addr) (A5_8 : Option Addr) (c5_4 : Nat) (c5_8 : Nat) (g5_1 : Nat) (g5_13 : Nat) (g5_3 : Nat) (g5_7 : Nat) (W : World) (a : Act), En 48 a [(0, Value.agg (([Value.int .i64 c, Value.int .i64 f, Value.int .i64 l, Value.int .i64 x, Value.int .i64 h] ++ b16 s ++ b16 d)).toArray), (1, Value.pointer (some ⟨g1, 0, none⟩)), (2, Value.slice none 0 0), (3, Value.int .i64 0), (4, Value.int .i64 0), (5, Value.int .i64 (((1536 + c) * 1048576) + f)), (10, Value.bool false), (19, Value.agg #[Value.slice none 0 0, Value.int .i64 0]), (20, Value.pointer (some ⟨g5_1, 0, none⟩)), (21, Value.int .i64 (((1536 + c) * 1048576) + f)), (22, Value.slice (some ⟨g5_3, 0, none⟩) 1 1), (23, Value.pointer (some ⟨g5_1, 0, none⟩)), (24, Value.pointer (some ⟨g1, 2, none⟩)), (25, Value.int .i64 l), (26, Value.slice (some ⟨g5_7, 0, none⟩) 1 1), (27, Value.pointer (some ⟨g5_1, 0, none⟩)), (28, Value.pointer (some ⟨g1, 3, none⟩)), (29, Value.int .i64 x), (30, Value.pointer (some ⟨g1, 4, none⟩)), (31, Value.int .i64 h), (32, Value.slice (some ⟨g5_13, 0, none⟩) 2 2)] → W.heap[g1]? = some (.cells (([Value.int .i64 c, Value.int .i64 f, Value.int .i64 l, Value.int .i64 x, Value.int .i64 h] ++ b16 s ++ b16 d)).toArray 27 (0, 0)) → W.heap[g5_3]? = some (.cells #[Value.int .i64 (((1536 + c) * 1048576) + f)] 3 (0, 0)) → W.heap[g5_1]? = some (.cells #[Value.slice A5_8 (((putF 4 [((1536 + c) * 1048576) + f]) ++ putF 2 [l]).length) c5_8, Value.int .i64 0] 123 (0, 0)) → W.heap[g5_7]? = some (.cells #[Value.int .i64 l] 3 (0, 0)) → W.heap[g5_13]? = some (.cells #[Value.int .i64 x, Value.int .i64 h] 3 (0, 0)) → g1 ≠ g5_1 → g1 ≠ g5_13 → g1 ≠ g5_3 → g1 ≠ g5_7 → g5_1 ≠ g5_13 → g5_1 ≠ g5_3 → g5_1 ≠ g5_7 → g5_13 ≠ g5_3 → g5_13 ≠ g5_7 → g5_3 ≠ g5_7 → w.heap.size ≤ g5_1 → w.heap.size ≤ g5_13 → w.heap.size ≤ g5_3 → w.heap.size ≤ g5_7 → ¬ OB A5_8 g1 → ¬ OB A5_8 g5_3 → ¬ OB A5_8 g5_1 → ¬ OB A5_8 g5_7 → ¬ OB A5_8 g5_13 → (∀ k, OB A5_8 k → (fun _ => False) k ∨ w.heap.size ≤ k) → W.ownsRow w.heap.size 5 1 (.slice A5_8 (((putF 4 [((1536 + c) * 1048576) + f]) ++ putF 2 [l]).length) c5_8) (((putF 4 [((1536 + c) * 1048576) + f]) ++ putF 2 [l]).length) (encs (Value.int .u8) ((putF 4 [((1536 + c) * 1048576) + f]) ++ putF 2 [l])) → Kp w W (fun _ => False) → wpAnyH Try.prog .any (regOf Try.f19 5) QQ (fun W => W.heap[g1]? = some (.cells (([Value.int .i64 c, Value.int .i64 f, Value.int .i64 l, Value.int .i64 x, Value.int .i64 h] ++ b16 s ++ b16 d)).toArray 27 (0, 0)) ∧ True) 2 #[true, true, true, true, true, true, true, true, true, true, true, true, true, true, false, false] a W := by
    intro A5_4 A5_8 c5_4 c5_8 g5_1 g5_13 g5_3 g5_7 w96 a hE B_g1 B_g5_3 B_g5_1 B_g5_7 B_g5_13 n_g1_g5_1 n_g1_g5_13 n_g1_g5_3 n_g1_g5_7 n_g5_1_g5_13 n_g5_1_g5_3 n_g5_1_g5_7 n_g5_13_g5_3 n_g5_13_g5_7 n_g5_3_g5_7 z_0_g5_1 z_0_g5_13 z_0_g5_3 z_0_g5_7 Nb_q5_8_g1 Nb_q5_8_g5_3 Nb_q5_8_g5_1 Nb_q5_8_g5_7 Nb_q5_8_g5_13 Z_0_q5_8 O_q5_8 K_0
    refine d_all (rs := [14]) (by kernel_rfl) rfl ?_
    refine all_cons (d_lit (listed' := #[true, true, true, true, true, true, true, true, true, true, true, true, true, true, true, false]) rfl ?_) ?_
    ·
      have hnb_g1 := blk_lt B_g1
      have hnb_g5_3 := blk_lt B_g5_3
      have hnb_g5_1 := blk_lt B_g5_1
      have hnb_g5_7 := blk_lt B_g5_7
      have hnb_g5_13 := blk_lt B_g5_13
      have hnz_0 := K_0.kept.1
      have hno_q5_8 := fun k (h : OB A5_8 k) => (own_ob O_q5_8 h).2
      refine (s_call (xs := [Operand.tmp 27, Operand.const (Value.int IntKind.i64 1), Operand.tmp 32]) (args := [Value.pointer (some ⟨g5_1, 0, none⟩), Value.int .i64 1, Value.slice (some ⟨g5_13, 0, none⟩) 2 2]) p19_5_14 hE wn_none rfl rfl Try.func70 cl70 (chain_put g5_1 A5_8 (some ⟨g5_13, 0, none⟩) c5_8 2 1 ((putF 4 [((1536 + c) * 1048576) + f]) ++ putF 2 [l]) ([x, h]) _ B_g5_1 (fun W hk => own_told (own_keep O_q5_8 hk (fun k h h2 => Nb_q5_8_g5_1 (by rw [show k = g5_1 from h2] at h; exact h)))) (fun W hk => C_blk (k := .i64) (l := [x, h]) (kp_blk B_g5_13 hk (Ne.symm n_g5_1_g5_13)) ⟨rfl, Nat.le_of_ble_eq_true rfl⟩ rfl) (Nat.le_of_ble_eq_true rfl) hfxh (Nat.le_of_ble_eq_true rfl)) ?_)
      rintro e w97 ⟨A5_14, c5_14, rfl, B_g5_1', O_q5_14, hk⟩
      replace B_g1 := kp_blk B_g1 hk n_g1_g5_1
      replace B_g5_3 := kp_blk B_g5_3 hk (Ne.symm n_g5_1_g5_3)
      replace B_g5_7 := kp_blk B_g5_7 hk (Ne.symm n_g5_1_g5_7)
      replace B_g5_13 := kp_blk B_g5_13 hk (Ne.symm n_g5_1_g5_13)
      replace O_q5_8 := own_keep O_q5_8 hk (fun k hk2 h2 => Nb_q5_8_g5_1 (by rw [show k = g5_1 from h2] at hk2; exact hk2))
      replace K_0 := K_0.then_ hk (fun k h => by rw [show k = g5_1 from h]; exact Or.inr z_0_g5_1)
      have Nb_q5_14_g1 : ¬ OB A5_14 g1 := fun h => by have := (own_ob O_q5_14 h).1; have := hnb_g1; omega
      have Nb_q5_14_g5_3 : ¬ OB A5_14 g5_3 := fun h => by have := (own_ob O_q5_14 h).1; have := hnb_g5_3; omega
      have Nb_q5_14_g5_1 : ¬ OB A5_14 g5_1 := fun h => by have := (own_ob O_q5_14 h).1; have := hnb_g5_1; omega
      have Nb_q5_14_g5_7 : ¬ OB A5_14 g5_7 := fun h => by have := (own_ob O_q5_14 h).1; have := hnb_g5_7; omega
      have Nb_q5_14_g5_13 : ¬ OB A5_14 g5_13 := fun h => by have := (own_ob O_q5_14 h).1; have := hnb_g5_13; omega
      have Z_0_q5_14 : ∀ k, OB A5_14 k → (fun _ => False) k ∨ w.heap.size ≤ k := fun k h => .inr (by have := (own_ob O_q5_14 h).1; have := hnz_0; omega)
      have NN_q5_14_q5_8 : ∀ k, OB A5_14 k → ¬ OB A5_8 k := fun k h h2 => by have := (own_ob O_q5_14 h).1; have := hno_q5_8 k h2; omega
      have NN_q5_8_q5_14 : ∀ k, OB A5_8 k → ¬ OB A5_14 k := fun k h h2 => NN_q5_14_q5_8 k h2 h
      replace O_q5_14 := own_lower O_q5_14 hnz_0
      replace B_g5_1 := B_g5_1'
      refine ⟨_, rfl, ?_⟩
      clear hE a; intro a hE
      refine ⟨⟨B_g1, trivial⟩, ?_⟩
      refine d_take (v := Value.pointer (some ⟨g5_1, 0, none⟩)) p19_5_15 ns19_5 (by kernel_rfl) (by kernel_rfl) (fun c a w h => hQ c a _ _ w h) hE wn_none rfl ⟨B_g1, trivial⟩ (fun W hS => (st_assign rfl)) (listed' := #[true, true, true, true, true, true, true, true, true, true, true, true, true, true, true, true]) rfl ?_
      clear hE a; intro a hE
      exact dr5_22 A5_14 A5_4 A5_8 c5_14 c5_4 c5_8 g5_1 g5_13 g5_3 g5_7 _ a (En.sub hE ⟨rfl, rfl, rfl, rfl, rfl, rfl, rfl, rfl, rfl, rfl, rfl, rfl, rfl, rfl, rfl, rfl, rfl, rfl, rfl, rfl, rfl, rfl, rfl, trivial⟩) B_g1 B_g5_3 B_g5_1 B_g5_7 B_g5_13 n_g1_g5_1 n_g1_g5_13 n_g1_g5_3 n_g1_g5_7 n_g5_1_g5_13 n_g5_1_g5_3 n_g5_1_g5_7 n_g5_13_g5_3 n_g5_13_g5_7 n_g5_3_g5_7 z_0_g5_1 z_0_g5_13 z_0_g5_3 z_0_g5_7 Nb_q5_14_g1 Nb_q5_14_g5_3 Nb_q5_14_g5_1 Nb_q5_14_g5_7 Nb_q5_14_g5_13 Z_0_q5_14 O_q5_14 K_0
    exact all_nil
  have dr5_20 : ∀ (A5_4 : Option Addr) (A5_8 : Option Addr) (c5_4 : Nat) (c5_8 : Nat) (g5_1 : Nat) (g5_3 : Nat) (g5_7 : Nat) (W : World) (a : Act), En 48 a [(0, Value.agg (([Value.int .i64 c, Value.int .i64 f, Value.int .i64 l, Value.int .i64 x, Value.int .i64 h] ++ b16 s ++ b16 d)).toArray), (1, Value.pointer (some ⟨g1, 0, none⟩)), (2, Value.slice none 0 0), (3, Value.int .i64 0), (4, Value.int .i64 0), (5, Value.int .i64 (((1536 + c) * 1048576) + f)), (10, Value.bool false), (19, Value.agg #[Value.slice none 0 0, Value.int .i64 0]), (20, Value.pointer (some ⟨g5_1, 0, none⟩)), (21, Value.int .i64 (((1536 + c) * 1048576) + f)), (22, Value.slice (some ⟨g5_3, 0, none⟩) 1 1), (23, Value.pointer (some ⟨g5_1, 0, none⟩)), (24, Value.pointer (some ⟨g1, 2, none⟩)), (25, Value.int .i64 l), (26, Value.slice (some ⟨g5_7, 0, none⟩) 1 1), (27, Value.pointer (some ⟨g5_1, 0, none⟩)), (28, Value.pointer (some ⟨g1, 3, none⟩)), (29, Value.int .i64 x), (30, Value.pointer (some ⟨g1, 4, none⟩)), (31, Value.int .i64 h)] → W.heap[g1]? = some (.cells (([Value.int .i64 c, Value.int .i64 f, Value.int .i64 l, Value.int .i64 x, Value.int .i64 h] ++ b16 s ++ b16 d)).toArray 27 (0, 0)) → W.heap[g5_3]? = some (.cells #[Value.int .i64 (((1536 + c) * 1048576) + f)] 3 (0, 0)) → W.heap[g5_1]? = some (.cells #[Value.slice A5_8 (((putF 4 [((1536 + c) * 1048576) + f]) ++ putF 2 [l]).length) c5_8, Value.int .i64 0] 123 (0, 0)) → W.heap[g5_7]? = some (.cells #[Value.int .i64 l] 3 (0, 0)) → g1 ≠ g5_1 → g1 ≠ g5_3 → g1 ≠ g5_7 → g5_1 ≠ g5_3 → g5_1 ≠ g5_7 → g5_3 ≠ g5_7 → w.heap.size ≤ g5_1 → w.heap.size ≤ g5_3 → w.heap.size ≤ g5_7 → ¬ OB A5_8 g1 → ¬ OB A5_8 g5_3 → ¬ OB A5_8 g5_1 → ¬ OB A5_8 g5_7 → (∀ k, OB A5_8 k → (fun _ => False) k ∨ w.heap.size ≤ k) → W.ownsRow w.heap.size 5 1 (.slice A5_8 (((putF 4 [((1536 + c) * 1048576) + f]) ++ putF 2 [l]).length) c5_8) (((putF 4 [((1536 + c) * 1048576) + f]) ++ putF 2 [l]).length) (encs (Value.int .u8) ((putF 4 [((1536 + c) * 1048576) + f]) ++ putF 2 [l])) → Kp w W (fun _ => False) → wpAnyH Try.prog .any (regOf Try.f19 5) QQ (fun W => W.heap[g1]? = some (.cells (([Value.int .i64 c, Value.int .i64 f, Value.int .i64 l, Value.int .i64 x, Value.int .i64 h] ++ b16 s ++ b16 d)).toArray 27 (0, 0)) ∧ True) 3 #[true, true, true, true, true, true, true, true, true, true, true, true, true, false, false, false] a W := by
    intro A5_4 A5_8 c5_4 c5_8 g5_1 g5_3 g5_7 w98 a hE B_g1 B_g5_3 B_g5_1 B_g5_7 n_g1_g5_1 n_g1_g5_3 n_g1_g5_7 n_g5_1_g5_3 n_g5_1_g5_7 n_g5_3_g5_7 z_0_g5_1 z_0_g5_3 z_0_g5_7 Nb_q5_8_g1 Nb_q5_8_g5_3 Nb_q5_8_g5_1 Nb_q5_8_g5_7 Z_0_q5_8 O_q5_8 K_0
    refine d_all (rs := [13]) (by kernel_rfl) rfl ?_
    refine all_cons (d_lit (listed' := #[true, true, true, true, true, true, true, true, true, true, true, true, true, true, false, false]) rfl ?_) ?_
    ·
      refine (s_row (xs := [(0, Operand.tmp 29), (1, Operand.tmp 31)]) (vs := [(0, Value.int .i64 x), (1, Value.int .i64 h)]) (cs := #[Value.int .i64 x, Value.int .i64 h]) p19_5_13 hE wn_none rfl Try.underlying62 rfl (by kernel_rfl) ?_)
      clear hE a; intro g5_13 w99 z100 B_g5_13 hk a hE
      have n_g1_g5_13 : g1 ≠ g5_13 := ne_new B_g1 z100
      have n_g5_3_g5_13 : g5_3 ≠ g5_13 := ne_new B_g5_3 z100
      have n_g5_1_g5_13 : g5_1 ≠ g5_13 := ne_new B_g5_1 z100
      have n_g5_7_g5_13 : g5_7 ≠ g5_13 := ne_new B_g5_7 z100
      have z_0_g5_13 := Nat.le_trans K_0.kept.1 z100
      have Nb_q5_8_g5_13 : ¬ OB A5_8 g5_13 := fun h => by have := (own_ob O_q5_8 h).2; omega
      replace B_g1 := kp_blk B_g1 hk (fun h => h)
      replace B_g5_3 := kp_blk B_g5_3 hk (fun h => h)
      replace B_g5_1 := kp_blk B_g5_1 hk (fun h => h)
      replace B_g5_7 := kp_blk B_g5_7 hk (fun h => h)
      replace O_q5_8 := own_keep O_q5_8 hk (fun _ _ h => h)
      replace K_0 := K_0.then_ hk (fun _ h => h.elim)
      clear hk
      refine ⟨⟨B_g1, trivial⟩, ?_⟩
      have n_g5_13_g5_3 := Ne.symm n_g5_3_g5_13
      have n_g5_13_g5_7 := Ne.symm n_g5_7_g5_13
      exact dr5_21 A5_4 A5_8 c5_4 c5_8 g5_1 g5_13 g5_3 g5_7 _ a (En.sub hE ⟨rfl, rfl, rfl, rfl, rfl, rfl, rfl, rfl, rfl, rfl, rfl, rfl, rfl, rfl, rfl, rfl, rfl, rfl, rfl, rfl, rfl, trivial⟩) B_g1 B_g5_3 B_g5_1 B_g5_7 B_g5_13 n_g1_g5_1 n_g1_g5_13 n_g1_g5_3 n_g1_g5_7 n_g5_1_g5_13 n_g5_1_g5_3 n_g5_1_g5_7 n_g5_13_g5_3 n_g5_13_g5_7 n_g5_3_g5_7 z_0_g5_1 z_0_g5_13 z_0_g5_3 z_0_g5_7 Nb_q5_8_g1 Nb_q5_8_g5_3 Nb_q5_8_g5_1 Nb_q5_8_g5_7 Nb_q5_8_g5_13 Z_0_q5_8 O_q5_8 K_0
    exact all_nil
  have dr5_19 : ∀ (A5_4 : Option Addr) (c5_4 : Nat) (g5_1 : Nat) (g5_13 : Nat) (g5_3 : Nat) (g5_7 : Nat) (W : World) (a : Act), En 48 a [(0, Value.agg (([Value.int .i64 c, Value.int .i64 f, Value.int .i64 l, Value.int .i64 x, Value.int .i64 h] ++ b16 s ++ b16 d)).toArray), (1, Value.pointer (some ⟨g1, 0, none⟩)), (2, Value.slice none 0 0), (3, Value.int .i64 0), (4, Value.int .i64 0), (5, Value.int .i64 (((1536 + c) * 1048576) + f)), (10, Value.bool false), (19, Value.agg #[Value.slice none 0 0, Value.int .i64 0]), (20, Value.pointer (some ⟨g5_1, 0, none⟩)), (21, Value.int .i64 (((1536 + c) * 1048576) + f)), (22, Value.slice (some ⟨g5_3, 0, none⟩) 1 1), (23, Value.pointer (some ⟨g5_1, 0, none⟩)), (24, Value.pointer (some ⟨g1, 2, none⟩)), (25, Value.int .i64 l), (26, Value.slice (some ⟨g5_7, 0, none⟩) 1 1), (28, Value.pointer (some ⟨g1, 3, none⟩)), (29, Value.int .i64 x), (30, Value.pointer (some ⟨g1, 4, none⟩)), (31, Value.int .i64 h), (32, Value.slice (some ⟨g5_13, 0, none⟩) 2 2)] → W.heap[g1]? = some (.cells (([Value.int .i64 c, Value.int .i64 f, Value.int .i64 l, Value.int .i64 x, Value.int .i64 h] ++ b16 s ++ b16 d)).toArray 27 (0, 0)) → W.heap[g5_3]? = some (.cells #[Value.int .i64 (((1536 + c) * 1048576) + f)] 3 (0, 0)) → W.heap[g5_1]? = some (.cells #[Value.slice A5_4 ((putF 4 [((1536 + c) * 1048576) + f]).length) c5_4, Value.int .i64 0] 123 (0, 0)) → W.heap[g5_7]? = some (.cells #[Value.int .i64 l] 3 (0, 0)) → W.heap[g5_13]? = some (.cells #[Value.int .i64 x, Value.int .i64 h] 3 (0, 0)) → g1 ≠ g5_1 → g1 ≠ g5_13 → g1 ≠ g5_3 → g1 ≠ g5_7 → g5_1 ≠ g5_13 → g5_1 ≠ g5_3 → g5_1 ≠ g5_7 → g5_13 ≠ g5_3 → g5_13 ≠ g5_7 → g5_3 ≠ g5_7 → w.heap.size ≤ g5_1 → w.heap.size ≤ g5_13 → w.heap.size ≤ g5_3 → w.heap.size ≤ g5_7 → ¬ OB A5_4 g1 → ¬ OB A5_4 g5_3 → ¬ OB A5_4 g5_1 → ¬ OB A5_4 g5_7 → ¬ OB A5_4 g5_13 → (∀ k, OB A5_4 k → (fun _ => False) k ∨ w.heap.size ≤ k) → W.ownsRow w.heap.size 5 1 (.slice A5_4 ((putF 4 [((1536 + c) * 1048576) + f]).length) c5_4) ((putF 4 [((1536 + c) * 1048576) + f]).length) (encs (Value.int .u8) (putF 4 [((1536 + c) * 1048576) + f])) → Kp w W (fun _ => False) → wpAnyH Try.prog .any (regOf Try.f19 5) QQ (fun W => W.heap[g1]? = some (.cells (([Value.int .i64 c, Value.int .i64 f, Value.int .i64 l, Value.int .i64 x, Value.int .i64 h] ++ b16 s ++ b16 d)).toArray 27 (0, 0)) ∧ True) 3 #[true, true, true, true, true, true, true, true, false, true, true, true, true, true, false, false] a W := by
    intro A5_4 c5_4 g5_1 g5_13 g5_3 g5_7 w101 a hE B_g1 B_g5_3 B_g5_1 B_g5_7 B_g5_13 n_g1_g5_1 n_g1_g5_13 n_g1_g5_3 n_g1_g5_7 n_g5_1_g5_13 n_g5_1_g5_3 n_g5_1_g5_7 n_g5_13_g5_3 n_g5_13_g5_7 n_g5_3_g5_7 z_0_g5_1 z_0_g5_13 z_0_g5_3 z_0_g5_7 Nb_q5_4_g1 Nb_q5_4_g5_3 Nb_q5_4_g5_1 Nb_q5_4_g5_7 Nb_q5_4_g5_13 Z_0_q5_4 O_q5_4 K_0
    refine d_all (rs := [8]) (by kernel_rfl) rfl ?_
    refine all_cons (d_lit (listed' := #[true, true, true, true, true, true, true, true, true, true, true, true, true, true, false, false]) rfl ?_) ?_
    ·
      have hnb_g1 := blk_lt B_g1
      have hnb_g5_3 := blk_lt B_g5_3
      have hnb_g5_1 := blk_lt B_g5_1
      have hnb_g5_7 := blk_lt B_g5_7
      have hnb_g5_13 := blk_lt B_g5_13
      have hnz_0 := K_0.kept.1
      have hno_q5_4 := fun k (h : OB A5_4 k) => (own_ob O_q5_4 h).2
      refine (s_call (xs := [Operand.tmp 23, Operand.const (Value.int IntKind.i64 2), Operand.tmp 26]) (args := [Value.pointer (some ⟨g5_1, 0, none⟩), Value.int .i64 2, Value.slice (some ⟨g5_7, 0, none⟩) 1 1]) p19_5_8 hE wn_none rfl rfl Try.func70 cl70 (chain_put g5_1 A5_4 (some ⟨g5_7, 0, none⟩) c5_4 1 2 (putF 4 [((1536 + c) * 1048576) + f]) ([l]) _ B_g5_1 (fun W hk => own_told (own_keep O_q5_4 hk (fun k h h2 => Nb_q5_4_g5_1 (by rw [show k = g5_1 from h2] at h; exact h)))) (fun W hk => C_blk (k := .i64) (l := [l]) (kp_blk B_g5_7 hk (Ne.symm n_g5_1_g5_7)) ⟨rfl, Nat.le_of_ble_eq_true rfl⟩ rfl) (Nat.le_of_ble_eq_true rfl) (fits2 l hl) (Nat.le_of_ble_eq_true rfl)) ?_)
      rintro e w102 ⟨A5_8, c5_8, rfl, B_g5_1', O_q5_8, hk⟩
      replace B_g1 := kp_blk B_g1 hk n_g1_g5_1
      replace B_g5_3 := kp_blk B_g5_3 hk (Ne.symm n_g5_1_g5_3)
      replace B_g5_7 := kp_blk B_g5_7 hk (Ne.symm n_g5_1_g5_7)
      replace B_g5_13 := kp_blk B_g5_13 hk (Ne.symm n_g5_1_g5_13)
      replace O_q5_4 := own_keep O_q5_4 hk (fun k hk2 h2 => Nb_q5_4_g5_1 (by rw [show k = g5_1 from h2] at hk2; exact hk2))
      replace K_0 := K_0.then_ hk (fun k h => by rw [show k = g5_1 from h]; exact Or.inr z_0_g5_1)
      have Nb_q5_8_g1 : ¬ OB A5_8 g1 := fun h => by have := (own_ob O_q5_8 h).1; have := hnb_g1; omega
      have Nb_q5_8_g5_3 : ¬ OB A5_8 g5_3 := fun h => by have := (own_ob O_q5_8 h).1; have := hnb_g5_3; omega
      have Nb_q5_8_g5_1 : ¬ OB A5_8 g5_1 := fun h => by have := (own_ob O_q5_8 h).1; have := hnb_g5_1; omega
      have Nb_q5_8_g5_7 : ¬ OB A5_8 g5_7 := fun h => by have := (own_ob O_q5_8 h).1; have := hnb_g5_7; omega
      have Nb_q5_8_g5_13 : ¬ OB A5_8 g5_13 := fun h => by have := (own_ob O_q5_8 h).1; have := hnb_g5_13; omega
      have Z_0_q5_8 : ∀ k, OB A5_8 k → (fun _ => False) k ∨ w.heap.size ≤ k := fun k h => .inr (by have := (own_ob O_q5_8 h).1; have := hnz_0; omega)
      have NN_q5_8_q5_4 : ∀ k, OB A5_8 k → ¬ OB A5_4 k := fun k h h2 => by have := (own_ob O_q5_8 h).1; have := hno_q5_4 k h2; omega
      have NN_q5_4_q5_8 : ∀ k, OB A5_4 k → ¬ OB A5_8 k := fun k h h2 => NN_q5_8_q5_4 k h2 h
      replace O_q5_8 := own_lower O_q5_8 hnz_0
      replace B_g5_1 := B_g5_1'
      refine ⟨_, rfl, ?_⟩
      clear hE a; intro a hE
      refine ⟨⟨B_g1, trivial⟩, ?_⟩
      exact dr5_21 A5_4 A5_8 c5_4 c5_8 g5_1 g5_13 g5_3 g5_7 _ a (En.sub hE ⟨rfl, rfl, rfl, rfl, rfl, rfl, rfl, rfl, rfl, rfl, rfl, rfl, rfl, rfl, rfl, rfl, rfl, rfl, rfl, rfl, rfl, trivial⟩) B_g1 B_g5_3 B_g5_1 B_g5_7 B_g5_13 n_g1_g5_1 n_g1_g5_13 n_g1_g5_3 n_g1_g5_7 n_g5_1_g5_13 n_g5_1_g5_3 n_g5_1_g5_7 n_g5_13_g5_3 n_g5_13_g5_7 n_g5_3_g5_7 z_0_g5_1 z_0_g5_13 z_0_g5_3 z_0_g5_7 Nb_q5_8_g1 Nb_q5_8_g5_3 Nb_q5_8_g5_1 Nb_q5_8_g5_7 Nb_q5_8_g5_13 Z_0_q5_8 O_q5_8 K_0
    exact all_nil
  have dr5_18 : ∀ (g5_1 : Nat) (g5_13 : Nat) (g5_3 : Nat) (g5_7 : Nat) (W : World) (a : Act), En 48 a [(0, Value.agg (([Value.int .i64 c, Value.int .i64 f, Value.int .i64 l, Value.int .i64 x, Value.int .i64 h] ++ b16 s ++ b16 d)).toArray), (1, Value.pointer (some ⟨g1, 0, none⟩)), (2, Value.slice none 0 0), (3, Value.int .i64 0), (4, Value.int .i64 0), (5, Value.int .i64 (((1536 + c) * 1048576) + f)), (10, Value.bool false), (19, Value.agg #[Value.slice none 0 0, Value.int .i64 0]), (20, Value.pointer (some ⟨g5_1, 0, none⟩)), (21, Value.int .i64 (((1536 + c) * 1048576) + f)), (22, Value.slice (some ⟨g5_3, 0, none⟩) 1 1), (24, Value.pointer (some ⟨g1, 2, none⟩)), (25, Value.int .i64 l), (26, Value.slice (some ⟨g5_7, 0, none⟩) 1 1), (28, Value.pointer (some ⟨g1, 3, none⟩)), (29, Value.int .i64 x), (30, Value.pointer (some ⟨g1, 4, none⟩)), (31, Value.int .i64 h), (32, Value.slice (some ⟨g5_13, 0, none⟩) 2 2)] → W.heap[g1]? = some (.cells (([Value.int .i64 c, Value.int .i64 f, Value.int .i64 l, Value.int .i64 x, Value.int .i64 h] ++ b16 s ++ b16 d)).toArray 27 (0, 0)) → W.heap[g5_7]? = some (.cells #[Value.int .i64 l] 3 (0, 0)) → W.heap[g5_13]? = some (.cells #[Value.int .i64 x, Value.int .i64 h] 3 (0, 0)) → W.heap[g5_3]? = some (.cells #[Value.int .i64 (((1536 + c) * 1048576) + f)] 3 (0, 0)) → W.heap[g5_1]? = some (.cells #[Value.slice none 0 0, Value.int .i64 0] 123 (0, 0)) → g1 ≠ g5_1 → g1 ≠ g5_13 → g1 ≠ g5_3 → g1 ≠ g5_7 → g5_1 ≠ g5_13 → g5_1 ≠ g5_3 → g5_1 ≠ g5_7 → g5_13 ≠ g5_3 → g5_13 ≠ g5_7 → g5_3 ≠ g5_7 → w.heap.size ≤ g5_1 → w.heap.size ≤ g5_13 → w.heap.size ≤ g5_3 → w.heap.size ≤ g5_7 → Kp w W (fun _ => False) → wpAnyH Try.prog .any (regOf Try.f19 5) QQ (fun W => W.heap[g1]? = some (.cells (([Value.int .i64 c, Value.int .i64 f, Value.int .i64 l, Value.int .i64 x, Value.int .i64 h] ++ b16 s ++ b16 d)).toArray 27 (0, 0)) ∧ True) 4 #[true, true, true, true, false, true, true, true, false, true, true, true, true, true, false, false] a W := by
    intro g5_1 g5_13 g5_3 g5_7 w103 a hE B_g1 B_g5_7 B_g5_13 B_g5_3 B_g5_1 n_g1_g5_1 n_g1_g5_13 n_g1_g5_3 n_g1_g5_7 n_g5_1_g5_13 n_g5_1_g5_3 n_g5_1_g5_7 n_g5_13_g5_3 n_g5_13_g5_7 n_g5_3_g5_7 z_0_g5_1 z_0_g5_13 z_0_g5_3 z_0_g5_7 K_0
    refine d_all (rs := [4]) (by kernel_rfl) rfl ?_
    refine all_cons (d_lit (listed' := #[true, true, true, true, true, true, true, true, false, true, true, true, true, true, false, false]) rfl ?_) ?_
    ·
      have hnb_g1 := blk_lt B_g1
      have hnb_g5_7 := blk_lt B_g5_7
      have hnb_g5_13 := blk_lt B_g5_13
      have hnb_g5_3 := blk_lt B_g5_3
      have hnb_g5_1 := blk_lt B_g5_1
      have hnz_0 := K_0.kept.1
      refine (s_call (xs := [Operand.tmp 20, Operand.const (Value.int IntKind.i64 4), Operand.tmp 22]) (args := [Value.pointer (some ⟨g5_1, 0, none⟩), Value.int .i64 4, Value.slice (some ⟨g5_3, 0, none⟩) 1 1]) p19_5_4 hE wn_none rfl rfl Try.func70 cl70 (chain_put g5_1 none (some ⟨g5_3, 0, none⟩) 0 1 4 ([]) ([((1536 + c) * 1048576) + f]) _ B_g5_1 (fun W hk => Kd.C_nil _ _) (fun W hk => C_blk (k := .i64) (l := [((1536 + c) * 1048576) + f]) (kp_blk B_g5_3 hk (Ne.symm n_g5_1_g5_3)) ⟨rfl, Nat.le_of_ble_eq_true rfl⟩ rfl) (Nat.le_of_ble_eq_true rfl) (fits4 c f hc hf) (Nat.le_of_ble_eq_true rfl)) ?_)
      rintro e w104 ⟨A5_4, c5_4, rfl, B_g5_1', O_q5_4, hk⟩
      replace B_g1 := kp_blk B_g1 hk n_g1_g5_1
      replace B_g5_7 := kp_blk B_g5_7 hk (Ne.symm n_g5_1_g5_7)
      replace B_g5_13 := kp_blk B_g5_13 hk (Ne.symm n_g5_1_g5_13)
      replace B_g5_3 := kp_blk B_g5_3 hk (Ne.symm n_g5_1_g5_3)
      replace K_0 := K_0.then_ hk (fun k h => by rw [show k = g5_1 from h]; exact Or.inr z_0_g5_1)
      have Nb_q5_4_g1 : ¬ OB A5_4 g1 := fun h => by have := (own_ob O_q5_4 h).1; have := hnb_g1; omega
      have Nb_q5_4_g5_7 : ¬ OB A5_4 g5_7 := fun h => by have := (own_ob O_q5_4 h).1; have := hnb_g5_7; omega
      have Nb_q5_4_g5_13 : ¬ OB A5_4 g5_13 := fun h => by have := (own_ob O_q5_4 h).1; have := hnb_g5_13; omega
      have Nb_q5_4_g5_3 : ¬ OB A5_4 g5_3 := fun h => by have := (own_ob O_q5_4 h).1; have := hnb_g5_3; omega
      have Nb_q5_4_g5_1 : ¬ OB A5_4 g5_1 := fun h => by have := (own_ob O_q5_4 h).1; have := hnb_g5_1; omega
      have Z_0_q5_4 : ∀ k, OB A5_4 k → (fun _ => False) k ∨ w.heap.size ≤ k := fun k h => .inr (by have := (own_ob O_q5_4 h).1; have := hnz_0; omega)
      replace O_q5_4 := own_lower O_q5_4 hnz_0
      replace B_g5_1 := B_g5_1'
      refine ⟨_, rfl, ?_⟩
      clear hE a; intro a hE
      refine ⟨⟨B_g1, trivial⟩, ?_⟩
      exact dr5_19 A5_4 c5_4 g5_1 g5_13 g5_3 g5_7 _ a (En.sub hE ⟨rfl, rfl, rfl, rfl, rfl, rfl, rfl, rfl, rfl, rfl, rfl, rfl, rfl, rfl, rfl, rfl, rfl, rfl, rfl, rfl, trivial⟩) B_g1 B_g5_3 B_g5_1 B_g5_7 B_g5_13 n_g1_g5_1 n_g1_g5_13 n_g1_g5_3 n_g1_g5_7 n_g5_1_g5_13 n_g5_1_g5_3 n_g5_1_g5_7 n_g5_13_g5_3 n_g5_13_g5_7 n_g5_3_g5_7 z_0_g5_1 z_0_g5_13 z_0_g5_3 z_0_g5_7 Nb_q5_4_g1 Nb_q5_4_g5_3 Nb_q5_4_g5_1 Nb_q5_4_g5_7 Nb_q5_4_g5_13 Z_0_q5_4 O_q5_4 K_0
    exact all_nil
  have dr5_17 : ∀ (A5_4 : Option Addr) (c5_4 : Nat) (g5_1 : Nat) (g5_13 : Nat) (g5_3 : Nat) (W : World) (a : Act), En 48 a [(0, Value.agg (([Value.int .i64 c, Value.int .i64 f, Value.int .i64 l, Value.int .i64 x, Value.int .i64 h] ++ b16 s ++ b16 d)).toArray), (1, Value.pointer (some ⟨g1, 0, none⟩)), (2, Value.slice none 0 0), (3, Value.int .i64 0), (4, Value.int .i64 0), (5, Value.int .i64 (((1536 + c) * 1048576) + f)), (10, Value.bool false), (19, Value.agg #[Value.slice none 0 0, Value.int .i64 0]), (20, Value.pointer (some ⟨g5_1, 0, none⟩)), (21, Value.int .i64 (((1536 + c) * 1048576) + f)), (22, Value.slice (some ⟨g5_3, 0, none⟩) 1 1), (23, Value.pointer (some ⟨g5_1, 0, none⟩)), (24, Value.pointer (some ⟨g1, 2, none⟩)), (25, Value.int .i64 l), (28, Value.pointer (some ⟨g1, 3, none⟩)), (29, Value.int .i64 x), (30, Value.pointer (some ⟨g1, 4, none⟩)), (31, Value.int .i64 h), (32, Value.slice (some ⟨g5_13, 0, none⟩) 2 2)] → W.heap[g1]? = some (.cells (([Value.int .i64 c, Value.int .i64 f, Value.int .i64 l, Value.int .i64 x, Value.int .i64 h] ++ b16 s ++ b16 d)).toArray 27 (0, 0)) → W.heap[g5_3]? = some (.cells #[Value.int .i64 (((1536 + c) * 1048576) + f)] 3 (0, 0)) → W.heap[g5_1]? = some (.cells #[Value.slice A5_4 ((putF 4 [((1536 + c) * 1048576) + f]).length) c5_4, Value.int .i64 0] 123 (0, 0)) → W.heap[g5_13]? = some (.cells #[Value.int .i64 x, Value.int .i64 h] 3 (0, 0)) → g1 ≠ g5_1 → g1 ≠ g5_13 → g1 ≠ g5_3 → g5_1 ≠ g5_13 → g5_1 ≠ g5_3 → g5_13 ≠ g5_3 → w.heap.size ≤ g5_1 → w.heap.size ≤ g5_13 → w.heap.size ≤ g5_3 → ¬ OB A5_4 g1 → ¬ OB A5_4 g5_3 → ¬ OB A5_4 g5_1 → ¬ OB A5_4 g5_13 → (∀ k, OB A5_4 k → (fun _ => False) k ∨ w.heap.size ≤ k) → W.ownsRow w.heap.size 5 1 (.slice A5_4 ((putF 4 [((1536 + c) * 1048576) + f]).length) c5_4) ((putF 4 [((1536 + c) * 1048576) + f]).length) (encs (Value.int .u8) (putF 4 [((1536 + c) * 1048576) + f])) → Kp w W (fun _ => False) → wpAnyH Try.prog .any (regOf Try.f19 5) QQ (fun W => W.heap[g1]? = some (.cells (([Value.int .i64 c, Value.int .i64 f, Value.int .i64 l, Value.int .i64 x, Value.int .i64 h] ++ b16 s ++ b16 d)).toArray 27 (0, 0)) ∧ True) 4 #[true, true, true, true, true, true, true, false, false, true, true, true, true, true, false, false] a W := by
    intro A5_4 c5_4 g5_1 g5_13 g5_3 w105 a hE B_g1 B_g5_3 B_g5_1 B_g5_13 n_g1_g5_1 n_g1_g5_13 n_g1_g5_3 n_g5_1_g5_13 n_g5_1_g5_3 n_g5_13_g5_3 z_0_g5_1 z_0_g5_13 z_0_g5_3 Nb_q5_4_g1 Nb_q5_4_g5_3 Nb_q5_4_g5_1 Nb_q5_4_g5_13 Z_0_q5_4 O_q5_4 K_0
    refine d_all (rs := [7]) (by kernel_rfl) rfl ?_
    refine all_cons (d_lit (listed' := #[true, true, true, true, true, true, true, true, false, true, true, true, true, true, false, false]) rfl ?_) ?_
    ·
      refine (s_row (xs := [(0, Operand.tmp 25)]) (vs := [(0, Value.int .i64 l)]) (cs := #[Value.int .i64 l]) p19_5_7 hE wn_none rfl Try.underlying62 rfl (by kernel_rfl) ?_)
      clear hE a; intro g5_7 w106 z107 B_g5_7 hk a hE
      have n_g1_g5_7 : g1 ≠ g5_7 := ne_new B_g1 z107
      have n_g5_3_g5_7 : g5_3 ≠ g5_7 := ne_new B_g5_3 z107
      have n_g5_1_g5_7 : g5_1 ≠ g5_7 := ne_new B_g5_1 z107
      have n_g5_13_g5_7 : g5_13 ≠ g5_7 := ne_new B_g5_13 z107
      have z_0_g5_7 := Nat.le_trans K_0.kept.1 z107
      have Nb_q5_4_g5_7 : ¬ OB A5_4 g5_7 := fun h => by have := (own_ob O_q5_4 h).2; omega
      replace B_g1 := kp_blk B_g1 hk (fun h => h)
      replace B_g5_3 := kp_blk B_g5_3 hk (fun h => h)
      replace B_g5_1 := kp_blk B_g5_1 hk (fun h => h)
      replace B_g5_13 := kp_blk B_g5_13 hk (fun h => h)
      replace O_q5_4 := own_keep O_q5_4 hk (fun _ _ h => h)
      replace K_0 := K_0.then_ hk (fun _ h => h.elim)
      clear hk
      refine ⟨⟨B_g1, trivial⟩, ?_⟩
      exact dr5_19 A5_4 c5_4 g5_1 g5_13 g5_3 g5_7 _ a (En.sub hE ⟨rfl, rfl, rfl, rfl, rfl, rfl, rfl, rfl, rfl, rfl, rfl, rfl, rfl, rfl, rfl, rfl, rfl, rfl, rfl, rfl, trivial⟩) B_g1 B_g5_3 B_g5_1 B_g5_7 B_g5_13 n_g1_g5_1 n_g1_g5_13 n_g1_g5_3 n_g1_g5_7 n_g5_1_g5_13 n_g5_1_g5_3 n_g5_1_g5_7 n_g5_13_g5_3 n_g5_13_g5_7 n_g5_3_g5_7 z_0_g5_1 z_0_g5_13 z_0_g5_3 z_0_g5_7 Nb_q5_4_g1 Nb_q5_4_g5_3 Nb_q5_4_g5_1 Nb_q5_4_g5_7 Nb_q5_4_g5_13 Z_0_q5_4 O_q5_4 K_0
    exact all_nil
  have dr5_16 : ∀ (A5_4 : Option Addr) (c5_4 : Nat) (g5_1 : Nat) (g5_3 : Nat) (g5_7 : Nat) (W : World) (a : Act), En 48 a [(0, Value.agg (([Value.int .i64 c, Value.int .i64 f, Value.int .i64 l, Value.int .i64 x, Value.int .i64 h] ++ b16 s ++ b16 d)).toArray), (1, Value.pointer (some ⟨g1, 0, none⟩)), (2, Value.slice none 0 0), (3, Value.int .i64 0), (4, Value.int .i64 0), (5, Value.int .i64 (((1536 + c) * 1048576) + f)), (10, Value.bool false), (19, Value.agg #[Value.slice none 0 0, Value.int .i64 0]), (20, Value.pointer (some ⟨g5_1, 0, none⟩)), (21, Value.int .i64 (((1536 + c) * 1048576) + f)), (22, Value.slice (some ⟨g5_3, 0, none⟩) 1 1), (23, Value.pointer (some ⟨g5_1, 0, none⟩)), (24, Value.pointer (some ⟨g1, 2, none⟩)), (25, Value.int .i64 l), (26, Value.slice (some ⟨g5_7, 0, none⟩) 1 1), (28, Value.pointer (some ⟨g1, 3, none⟩)), (29, Value.int .i64 x), (30, Value.pointer (some ⟨g1, 4, none⟩)), (31, Value.int .i64 h)] → W.heap[g1]? = some (.cells (([Value.int .i64 c, Value.int .i64 f, Value.int .i64 l, Value.int .i64 x, Value.int .i64 h] ++ b16 s ++ b16 d)).toArray 27 (0, 0)) → W.heap[g5_3]? = some (.cells #[Value.int .i64 (((1536 + c) * 1048576) + f)] 3 (0, 0)) → W.heap[g5_1]? = some (.cells #[Value.slice A5_4 ((putF 4 [((1536 + c) * 1048576) + f]).length) c5_4, Value.int .i64 0] 123 (0, 0)) → W.heap[g5_7]? = some (.cells #[Value.int .i64 l] 3 (0, 0)) → g1 ≠ g5_1 → g1 ≠ g5_3 → g1 ≠ g5_7 → g5_1 ≠ g5_3 → g5_1 ≠ g5_7 → g5_3 ≠ g5_7 → w.heap.size ≤ g5_1 → w.heap.size ≤ g5_3 → w.heap.size ≤ g5_7 → ¬ OB A5_4 g1 → ¬ OB A5_4 g5_3 → ¬ OB A5_4 g5_1 → ¬ OB A5_4 g5_7 → (∀ k, OB A5_4 k → (fun _ => False) k ∨ w.heap.size ≤ k) → W.ownsRow w.heap.size 5 1 (.slice A5_4 ((putF 4 [((1536 + c) * 1048576) + f]).length) c5_4) ((putF 4 [((1536 + c) * 1048576) + f]).length) (encs (Value.int .u8) (putF 4 [((1536 + c) * 1048576) + f])) → Kp w W (fun _ => False) → wpAnyH Try.prog .any (regOf Try.f19 5) QQ (fun W => W.heap[g1]? = some (.cells (([Value.int .i64 c, Value.int .i64 f, Value.int .i64 l, Value.int .i64 x, Value.int .i64 h] ++ b16 s ++ b16 d)).toArray 27 (0, 0)) ∧ True) 4 #[true, true, true, true, true, true, true, true, false, true, true, true, true, false, false, false] a W := by
    intro A5_4 c5_4 g5_1 g5_3 g5_7 w108 a hE B_g1 B_g5_3 B_g5_1 B_g5_7 n_g1_g5_1 n_g1_g5_3 n_g1_g5_7 n_g5_1_g5_3 n_g5_1_g5_7 n_g5_3_g5_7 z_0_g5_1 z_0_g5_3 z_0_g5_7 Nb_q5_4_g1 Nb_q5_4_g5_3 Nb_q5_4_g5_1 Nb_q5_4_g5_7 Z_0_q5_4 O_q5_4 K_0
    refine d_all (rs := [8, 13]) (by kernel_rfl) rfl ?_
    refine all_cons (d_lit (listed' := #[true, true, true, true, true, true, true, true, true, true, true, true, true, false, false, false]) rfl ?_) ?_
    ·
      have hnb_g1 := blk_lt B_g1
      have hnb_g5_3 := blk_lt B_g5_3
      have hnb_g5_1 := blk_lt B_g5_1
      have hnb_g5_7 := blk_lt B_g5_7
      have hnz_0 := K_0.kept.1
      have hno_q5_4 := fun k (h : OB A5_4 k) => (own_ob O_q5_4 h).2
      refine (s_call (xs := [Operand.tmp 23, Operand.const (Value.int IntKind.i64 2), Operand.tmp 26]) (args := [Value.pointer (some ⟨g5_1, 0, none⟩), Value.int .i64 2, Value.slice (some ⟨g5_7, 0, none⟩) 1 1]) p19_5_8 hE wn_none rfl rfl Try.func70 cl70 (chain_put g5_1 A5_4 (some ⟨g5_7, 0, none⟩) c5_4 1 2 (putF 4 [((1536 + c) * 1048576) + f]) ([l]) _ B_g5_1 (fun W hk => own_told (own_keep O_q5_4 hk (fun k h h2 => Nb_q5_4_g5_1 (by rw [show k = g5_1 from h2] at h; exact h)))) (fun W hk => C_blk (k := .i64) (l := [l]) (kp_blk B_g5_7 hk (Ne.symm n_g5_1_g5_7)) ⟨rfl, Nat.le_of_ble_eq_true rfl⟩ rfl) (Nat.le_of_ble_eq_true rfl) (fits2 l hl) (Nat.le_of_ble_eq_true rfl)) ?_)
      rintro e w109 ⟨A5_8, c5_8, rfl, B_g5_1', O_q5_8, hk⟩
      replace B_g1 := kp_blk B_g1 hk n_g1_g5_1
      replace B_g5_3 := kp_blk B_g5_3 hk (Ne.symm n_g5_1_g5_3)
      replace B_g5_7 := kp_blk B_g5_7 hk (Ne.symm n_g5_1_g5_7)
      replace O_q5_4 := own_keep O_q5_4 hk (fun k hk2 h2 => Nb_q5_4_g5_1 (by rw [show k = g5_1 from h2] at hk2; exact hk2))
      replace K_0 := K_0.then_ hk (fun k h => by rw [show k = g5_1 from h]; exact Or.inr z_0_g5_1)
      have Nb_q5_8_g1 : ¬ OB A5_8 g1 := fun h => by have := (own_ob O_q5_8 h).1; have := hnb_g1; omega
      have Nb_q5_8_g5_3 : ¬ OB A5_8 g5_3 := fun h => by have := (own_ob O_q5_8 h).1; have := hnb_g5_3; omega
      have Nb_q5_8_g5_1 : ¬ OB A5_8 g5_1 := fun h => by have := (own_ob O_q5_8 h).1; have := hnb_g5_1; omega
      have Nb_q5_8_g5_7 : ¬ OB A5_8 g5_7 := fun h => by have := (own_ob O_q5_8 h).1; have := hnb_g5_7; omega
      have Z_0_q5_8 : ∀ k, OB A5_8 k → (fun _ => False) k ∨ w.heap.size ≤ k := fun k h => .inr (by have := (own_ob O_q5_8 h).1; have := hnz_0; omega)
      have NN_q5_8_q5_4 : ∀ k, OB A5_8 k → ¬ OB A5_4 k := fun k h h2 => by have := (own_ob O_q5_8 h).1; have := hno_q5_4 k h2; omega
      have NN_q5_4_q5_8 : ∀ k, OB A5_4 k → ¬ OB A5_8 k := fun k h h2 => NN_q5_8_q5_4 k h2 h
      replace O_q5_8 := own_lower O_q5_8 hnz_0
      replace B_g5_1 := B_g5_1'
      refine ⟨_, rfl, ?_⟩
      clear hE a; intro a hE
      refine ⟨⟨B_g1, trivial⟩, ?_⟩
      exact dr5_20 A5_4 A5_8 c5_4 c5_8 g5_1 g5_3 g5_7 _ a (En.sub hE ⟨rfl, rfl, rfl, rfl, rfl, rfl, rfl, rfl, rfl, rfl, rfl, rfl, rfl, rfl, rfl, rfl, rfl, rfl, rfl, rfl, trivial⟩) B_g1 B_g5_3 B_g5_1 B_g5_7 n_g1_g5_1 n_g1_g5_3 n_g1_g5_7 n_g5_1_g5_3 n_g5_1_g5_7 n_g5_3_g5_7 z_0_g5_1 z_0_g5_3 z_0_g5_7 Nb_q5_8_g1 Nb_q5_8_g5_3 Nb_q5_8_g5_1 Nb_q5_8_g5_7 Z_0_q5_8 O_q5_8 K_0
    refine all_cons (d_lit (listed' := #[true, true, true, true, true, true, true, true, false, true, true, true, true, true, false, false]) rfl ?_) ?_
    ·
      refine (s_row (xs := [(0, Operand.tmp 29), (1, Operand.tmp 31)]) (vs := [(0, Value.int .i64 x), (1, Value.int .i64 h)]) (cs := #[Value.int .i64 x, Value.int .i64 h]) p19_5_13 hE wn_none rfl Try.underlying62 rfl (by kernel_rfl) ?_)
      clear hE a; intro g5_13 w110 z111 B_g5_13 hk a hE
      have n_g1_g5_13 : g1 ≠ g5_13 := ne_new B_g1 z111
      have n_g5_3_g5_13 : g5_3 ≠ g5_13 := ne_new B_g5_3 z111
      have n_g5_1_g5_13 : g5_1 ≠ g5_13 := ne_new B_g5_1 z111
      have n_g5_7_g5_13 : g5_7 ≠ g5_13 := ne_new B_g5_7 z111
      have z_0_g5_13 := Nat.le_trans K_0.kept.1 z111
      have Nb_q5_4_g5_13 : ¬ OB A5_4 g5_13 := fun h => by have := (own_ob O_q5_4 h).2; omega
      replace B_g1 := kp_blk B_g1 hk (fun h => h)
      replace B_g5_3 := kp_blk B_g5_3 hk (fun h => h)
      replace B_g5_1 := kp_blk B_g5_1 hk (fun h => h)
      replace B_g5_7 := kp_blk B_g5_7 hk (fun h => h)
      replace O_q5_4 := own_keep O_q5_4 hk (fun _ _ h => h)
      replace K_0 := K_0.then_ hk (fun _ h => h.elim)
      clear hk
      refine ⟨⟨B_g1, trivial⟩, ?_⟩
      have n_g5_13_g5_3 := Ne.symm n_g5_3_g5_13
      have n_g5_13_g5_7 := Ne.symm n_g5_7_g5_13
      exact dr5_19 A5_4 c5_4 g5_1 g5_13 g5_3 g5_7 _ a (En.sub hE ⟨rfl, rfl, rfl, rfl, rfl, rfl, rfl, rfl, rfl, rfl, rfl, rfl, rfl, rfl, rfl, rfl, rfl, rfl, rfl, rfl, trivial⟩) B_g1 B_g5_3 B_g5_1 B_g5_7 B_g5_13 n_g1_g5_1 n_g1_g5_13 n_g1_g5_3 n_g1_g5_7 n_g5_1_g5_13 n_g5_1_g5_3 n_g5_1_g5_7 n_g5_13_g5_3 n_g5_13_g5_7 n_g5_3_g5_7 z_0_g5_1 z_0_g5_13 z_0_g5_3 z_0_g5_7 Nb_q5_4_g1 Nb_q5_4_g5_3 Nb_q5_4_g5_1 Nb_q5_4_g5_7 Nb_q5_4_g5_13 Z_0_q5_4 O_q5_4 K_0
    exact all_nil
  have dr5_15 : ∀ (g5_1 : Nat) (g5_3 : Nat) (g5_7 : Nat) (W : World) (a : Act), En 48 a [(0, Value.agg (([Value.int .i64 c, Value.int .i64 f, Value.int .i64 l, Value.int .i64 x, Value.int .i64 h] ++ b16 s ++ b16 d)).toArray), (1, Value.pointer (some ⟨g1, 0, none⟩)), (2, Value.slice none 0 0), (3, Value.int .i64 0), (4, Value.int .i64 0), (5, Value.int .i64 (((1536 + c) * 1048576) + f)), (10, Value.bool false), (19, Value.agg #[Value.slice none 0 0, Value.int .i64 0]), (20, Value.pointer (some ⟨g5_1, 0, none⟩)), (21, Value.int .i64 (((1536 + c) * 1048576) + f)), (22, Value.slice (some ⟨g5_3, 0, none⟩) 1 1), (24, Value.pointer (some ⟨g1, 2, none⟩)), (25, Value.int .i64 l), (26, Value.slice (some ⟨g5_7, 0, none⟩) 1 1), (28, Value.pointer (some ⟨g1, 3, none⟩)), (29, Value.int .i64 x), (30, Value.pointer (some ⟨g1, 4, none⟩)), (31, Value.int .i64 h)] → W.heap[g1]? = some (.cells (([Value.int .i64 c, Value.int .i64 f, Value.int .i64 l, Value.int .i64 x, Value.int .i64 h] ++ b16 s ++ b16 d)).toArray 27 (0, 0)) → W.heap[g5_7]? = some (.cells #[Value.int .i64 l] 3 (0, 0)) → W.heap[g5_1]? = some (.cells #[Value.slice none 0 0, Value.int .i64 0] 123 (0, 0)) → W.heap[g5_3]? = some (.cells #[Value.int .i64 (((1536 + c) * 1048576) + f)] 3 (0, 0)) → g1 ≠ g5_1 → g1 ≠ g5_3 → g1 ≠ g5_7 → g5_1 ≠ g5_3 → g5_1 ≠ g5_7 → g5_3 ≠ g5_7 → w.heap.size ≤ g5_1 → w.heap.size ≤ g5_3 → w.heap.size ≤ g5_7 → Kp w W (fun _ => False) → wpAnyH Try.prog .any (regOf Try.f19 5) QQ (fun W => W.heap[g1]? = some (.cells (([Value.int .i64 c, Value.int .i64 f, Value.int .i64 l, Value.int .i64 x, Value.int .i64 h] ++ b16 s ++ b16 d)).toArray 27 (0, 0)) ∧ True) 5 #[true, true, true, true, false, true, true, true, false, true, true, true, true, false, false, false] a W := by
    intro g5_1 g5_3 g5_7 w112 a hE B_g1 B_g5_7 B_g5_1 B_g5_3 n_g1_g5_1 n_g1_g5_3 n_g1_g5_7 n_g5_1_g5_3 n_g5_1_g5_7 n_g5_3_g5_7 z_0_g5_1 z_0_g5_3 z_0_g5_7 K_0
    refine d_all (rs := [4, 13]) (by kernel_rfl) rfl ?_
    refine all_cons (d_lit (listed' := #[true, true, true, true, true, true, true, true, false, true, true, true, true, false, false, false]) rfl ?_) ?_
    ·
      have hnb_g1 := blk_lt B_g1
      have hnb_g5_7 := blk_lt B_g5_7
      have hnb_g5_1 := blk_lt B_g5_1
      have hnb_g5_3 := blk_lt B_g5_3
      have hnz_0 := K_0.kept.1
      refine (s_call (xs := [Operand.tmp 20, Operand.const (Value.int IntKind.i64 4), Operand.tmp 22]) (args := [Value.pointer (some ⟨g5_1, 0, none⟩), Value.int .i64 4, Value.slice (some ⟨g5_3, 0, none⟩) 1 1]) p19_5_4 hE wn_none rfl rfl Try.func70 cl70 (chain_put g5_1 none (some ⟨g5_3, 0, none⟩) 0 1 4 ([]) ([((1536 + c) * 1048576) + f]) _ B_g5_1 (fun W hk => Kd.C_nil _ _) (fun W hk => C_blk (k := .i64) (l := [((1536 + c) * 1048576) + f]) (kp_blk B_g5_3 hk (Ne.symm n_g5_1_g5_3)) ⟨rfl, Nat.le_of_ble_eq_true rfl⟩ rfl) (Nat.le_of_ble_eq_true rfl) (fits4 c f hc hf) (Nat.le_of_ble_eq_true rfl)) ?_)
      rintro e w113 ⟨A5_4, c5_4, rfl, B_g5_1', O_q5_4, hk⟩
      replace B_g1 := kp_blk B_g1 hk n_g1_g5_1
      replace B_g5_7 := kp_blk B_g5_7 hk (Ne.symm n_g5_1_g5_7)
      replace B_g5_3 := kp_blk B_g5_3 hk (Ne.symm n_g5_1_g5_3)
      replace K_0 := K_0.then_ hk (fun k h => by rw [show k = g5_1 from h]; exact Or.inr z_0_g5_1)
      have Nb_q5_4_g1 : ¬ OB A5_4 g1 := fun h => by have := (own_ob O_q5_4 h).1; have := hnb_g1; omega
      have Nb_q5_4_g5_7 : ¬ OB A5_4 g5_7 := fun h => by have := (own_ob O_q5_4 h).1; have := hnb_g5_7; omega
      have Nb_q5_4_g5_1 : ¬ OB A5_4 g5_1 := fun h => by have := (own_ob O_q5_4 h).1; have := hnb_g5_1; omega
      have Nb_q5_4_g5_3 : ¬ OB A5_4 g5_3 := fun h => by have := (own_ob O_q5_4 h).1; have := hnb_g5_3; omega
      have Z_0_q5_4 : ∀ k, OB A5_4 k → (fun _ => False) k ∨ w.heap.size ≤ k := fun k h => .inr (by have := (own_ob O_q5_4 h).1; have := hnz_0; omega)
      replace O_q5_4 := own_lower O_q5_4 hnz_0
      replace B_g5_1 := B_g5_1'
      refine ⟨_, rfl, ?_⟩
      clear hE a; intro a hE
      refine ⟨⟨B_g1, trivial⟩, ?_⟩
      exact dr5_16 A5_4 c5_4 g5_1 g5_3 g5_7 _ a (En.sub hE ⟨rfl, rfl, rfl, rfl, rfl, rfl, rfl, rfl, rfl, rfl, rfl, rfl, rfl, rfl, rfl, rfl, rfl, rfl, rfl, trivial⟩) B_g1 B_g5_3 B_g5_1 B_g5_7 n_g1_g5_1 n_g1_g5_3 n_g1_g5_7 n_g5_1_g5_3 n_g5_1_g5_7 n_g5_3_g5_7 z_0_g5_1 z_0_g5_3 z_0_g5_7 Nb_q5_4_g1 Nb_q5_4_g5_3 Nb_q5_4_g5_1 Nb_q5_4_g5_7 Z_0_q5_4 O_q5_4 K_0
    refine all_cons (d_lit (listed' := #[true, true, true, true, false, true, true, true, false, true, true, true, true, true, false, false]) rfl ?_) ?_
    ·
      refine (s_row (xs := [(0, Operand.tmp 29), (1, Operand.tmp 31)]) (vs := [(0, Value.int .i64 x), (1, Value.int .i64 h)]) (cs := #[Value.int .i64 x, Value.int .i64 h]) p19_5_13 hE wn_none rfl Try.underlying62 rfl (by kernel_rfl) ?_)
      clear hE a; intro g5_13 w114 z115 B_g5_13 hk a hE
      have n_g1_g5_13 : g1 ≠ g5_13 := ne_new B_g1 z115
      have n_g5_7_g5_13 : g5_7 ≠ g5_13 := ne_new B_g5_7 z115
      have n_g5_1_g5_13 : g5_1 ≠ g5_13 := ne_new B_g5_1 z115
      have n_g5_3_g5_13 : g5_3 ≠ g5_13 := ne_new B_g5_3 z115
      have z_0_g5_13 := Nat.le_trans K_0.kept.1 z115
      replace B_g1 := kp_blk B_g1 hk (fun h => h)
      replace B_g5_7 := kp_blk B_g5_7 hk (fun h => h)
      replace B_g5_1 := kp_blk B_g5_1 hk (fun h => h)
      replace B_g5_3 := kp_blk B_g5_3 hk (fun h => h)
      replace K_0 := K_0.then_ hk (fun _ h => h.elim)
      clear hk
      refine ⟨⟨B_g1, trivial⟩, ?_⟩
      have n_g5_13_g5_3 := Ne.symm n_g5_3_g5_13
      have n_g5_13_g5_7 := Ne.symm n_g5_7_g5_13
      exact dr5_18 g5_1 g5_13 g5_3 g5_7 _ a (En.sub hE ⟨rfl, rfl, rfl, rfl, rfl, rfl, rfl, rfl, rfl, rfl, rfl, rfl, rfl, rfl, rfl, rfl, rfl, rfl, rfl, trivial⟩) B_g1 B_g5_7 B_g5_13 B_g5_3 B_g5_1 n_g1_g5_1 n_g1_g5_13 n_g1_g5_3 n_g1_g5_7 n_g5_1_g5_13 n_g5_1_g5_3 n_g5_1_g5_7 n_g5_13_g5_3 n_g5_13_g5_7 n_g5_3_g5_7 z_0_g5_1 z_0_g5_13 z_0_g5_3 z_0_g5_7 K_0
    exact all_nil
  have dr5_14 : ∀ (g5_1 : Nat) (g5_13 : Nat) (g5_7 : Nat) (W : World) (a : Act), En 48 a [(0, Value.agg (([Value.int .i64 c, Value.int .i64 f, Value.int .i64 l, Value.int .i64 x, Value.int .i64 h] ++ b16 s ++ b16 d)).toArray), (1, Value.pointer (some ⟨g1, 0, none⟩)), (2, Value.slice none 0 0), (3, Value.int .i64 0), (4, Value.int .i64 0), (5, Value.int .i64 (((1536 + c) * 1048576) + f)), (10, Value.bool false), (19, Value.agg #[Value.slice none 0 0, Value.int .i64 0]), (20, Value.pointer (some ⟨g5_1, 0, none⟩)), (21, Value.int .i64 (((1536 + c) * 1048576) + f)), (24, Value.pointer (some ⟨g1, 2, none⟩)), (25, Value.int .i64 l), (26, Value.slice (some ⟨g5_7, 0, none⟩) 1 1), (28, Value.pointer (some ⟨g1, 3, none⟩)), (29, Value.int .i64 x), (30, Value.pointer (some ⟨g1, 4, none⟩)), (31, Value.int .i64 h), (32, Value.slice (some ⟨g5_13, 0, none⟩) 2 2)] → W.heap[g1]? = some (.cells (([Value.int .i64 c, Value.int .i64 f, Value.int .i64 l, Value.int .i64 x, Value.int .i64 h] ++ b16 s ++ b16 d)).toArray 27 (0, 0)) → W.heap[g5_7]? = some (.cells #[Value.int .i64 l] 3 (0, 0)) → W.heap[g5_1]? = some (.cells #[Value.slice none 0 0, Value.int .i64 0] 123 (0, 0)) → W.heap[g5_13]? = some (.cells #[Value.int .i64 x, Value.int .i64 h] 3 (0, 0)) → g1 ≠ g5_1 → g1 ≠ g5_13 → g1 ≠ g5_7 → g5_1 ≠ g5_13 → g5_1 ≠ g5_7 → g5_13 ≠ g5_7 → w.heap.size ≤ g5_1 → w.heap.size ≤ g5_13 → w.heap.size ≤ g5_7 → Kp w W (fun _ => False) → wpAnyH Try.prog .any (regOf Try.f19 5) QQ (fun W => W.heap[g1]? = some (.cells (([Value.int .i64 c, Value.int .i64 f, Value.int .i64 l, Value.int .i64 x, Value.int .i64 h] ++ b16 s ++ b16 d)).toArray 27 (0, 0)) ∧ True) 5 #[true, true, true, false, false, true, true, true, false, true, true, true, true, true, false, false] a W := by
    intro g5_1 g5_13 g5_7 w116 a hE B_g1 B_g5_7 B_g5_1 B_g5_13 n_g1_g5_1 n_g1_g5_13 n_g1_g5_7 n_g5_1_g5_13 n_g5_1_g5_7 n_g5_13_g5_7 z_0_g5_1 z_0_g5_13 z_0_g5_7 K_0
    refine d_all (rs := [3]) (by kernel_rfl) rfl ?_
    refine all_cons (d_lit (listed' := #[true, true, true, true, false, true, true, true, false, true, true, true, true, true, false, false]) rfl ?_) ?_
    ·
      refine (s_row (xs := [(0, Operand.tmp 21)]) (vs := [(0, Value.int .i64 (((1536 + c) * 1048576) + f))]) (cs := #[Value.int .i64 (((1536 + c) * 1048576) + f)]) p19_5_3 hE wn_none rfl Try.underlying62 rfl (by kernel_rfl) ?_)
      clear hE a; intro g5_3 w117 z118 B_g5_3 hk a hE
      have n_g1_g5_3 : g1 ≠ g5_3 := ne_new B_g1 z118
      have n_g5_7_g5_3 : g5_7 ≠ g5_3 := ne_new B_g5_7 z118
      have n_g5_1_g5_3 : g5_1 ≠ g5_3 := ne_new B_g5_1 z118
      have n_g5_13_g5_3 : g5_13 ≠ g5_3 := ne_new B_g5_13 z118
      have z_0_g5_3 := Nat.le_trans K_0.kept.1 z118
      replace B_g1 := kp_blk B_g1 hk (fun h => h)
      replace B_g5_7 := kp_blk B_g5_7 hk (fun h => h)
      replace B_g5_1 := kp_blk B_g5_1 hk (fun h => h)
      replace B_g5_13 := kp_blk B_g5_13 hk (fun h => h)
      replace K_0 := K_0.then_ hk (fun _ h => h.elim)
      clear hk
      refine ⟨⟨B_g1, trivial⟩, ?_⟩
      have n_g5_3_g5_7 := Ne.symm n_g5_7_g5_3
      exact dr5_18 g5_1 g5_13 g5_3 g5_7 _ a (En.sub hE ⟨rfl, rfl, rfl, rfl, rfl, rfl, rfl, rfl, rfl, rfl, rfl, rfl, rfl, rfl, rfl, rfl, rfl, rfl, rfl, trivial⟩) B_g1 B_g5_7 B_g5_13 B_g5_3 B_g5_1 n_g1_g5_1 n_g1_g5_13 n_g1_g5_3 n_g1_g5_7 n_g5_1_g5_13 n_g5_1_g5_3 n_g5_1_g5_7 n_g5_13_g5_3 n_g5_13_g5_7 n_g5_3_g5_7 z_0_g5_1 z_0_g5_13 z_0_g5_3 z_0_g5_7 K_0
    exact all_nil
  have dr5_13 : ∀ (g5_1 : Nat) (g5_13 : Nat) (g5_3 : Nat) (W : World) (a : Act), En 48 a [(0, Value.agg (([Value.int .i64 c, Value.int .i64 f, Value.int .i64 l, Value.int .i64 x, Value.int .i64 h] ++ b16 s ++ b16 d)).toArray), (1, Value.pointer (some ⟨g1, 0, none⟩)), (2, Value.slice none 0 0), (3, Value.int .i64 0), (4, Value.int .i64 0), (5, Value.int .i64 (((1536 + c) * 1048576) + f)), (10, Value.bool false), (19, Value.agg #[Value.slice none 0 0, Value.int .i64 0]), (20, Value.pointer (some ⟨g5_1, 0, none⟩)), (21, Value.int .i64 (((1536 + c) * 1048576) + f)), (22, Value.slice (some ⟨g5_3, 0, none⟩) 1 1), (24, Value.pointer (some ⟨g1, 2, none⟩)), (25, Value.int .i64 l), (28, Value.pointer (some ⟨g1, 3, none⟩)), (29, Value.int .i64 x), (30, Value.pointer (some ⟨g1, 4, none⟩)), (31, Value.int .i64 h), (32, Value.slice (some ⟨g5_13, 0, none⟩) 2 2)] → W.heap[g1]? = some (.cells (([Value.int .i64 c, Value.int .i64 f, Value.int .i64 l, Value.int .i64 x, Value.int .i64 h] ++ b16 s ++ b16 d)).toArray 27 (0, 0)) → W.heap[g5_1]? = some (.cells #[Value.slice none 0 0, Value.int .i64 0] 123 (0, 0)) → W.heap[g5_13]? = some (.cells #[Value.int .i64 x, Value.int .i64 h] 3 (0, 0)) → W.heap[g5_3]? = some (.cells #[Value.int .i64 (((1536 + c) * 1048576) + f)] 3 (0, 0)) → g1 ≠ g5_1 → g1 ≠ g5_13 → g1 ≠ g5_3 → g5_1 ≠ g5_13 → g5_1 ≠ g5_3 → g5_13 ≠ g5_3 → w.heap.size ≤ g5_1 → w.heap.size ≤ g5_13 → w.heap.size ≤ g5_3 → Kp w W (fun _ => False) → wpAnyH Try.prog .any (regOf Try.f19 5) QQ (fun W => W.heap[g1]? = some (.cells (([Value.int .i64 c, Value.int .i64 f, Value.int .i64 l, Value.int .i64 x, Value.int .i64 h] ++ b16 s ++ b16 d)).toArray 27 (0, 0)) ∧ True) 5 #[true, true, true, true, false, true, true, false, false, true, true, true, true, true, false, false] a W := by
    intro g5_1 g5_13 g5_3 w119 a hE B_g1 B_g5_1 B_g5_13 B_g5_3 n_g1_g5_1 n_g1_g5_13 n_g1_g5_3 n_g5_1_g5_13 n_g5_1_g5_3 n_g5_13_g5_3 z_0_g5_1 z_0_g5_13 z_0_g5_3 K_0
    refine d_all (rs := [4, 7]) (by kernel_rfl) rfl ?_
    refine all_cons (d_lit (listed' := #[true, true, true, true, true, true, true, false, false, true, true, true, true, true, false, false]) rfl ?_) ?_
    ·
      have hnb_g1 := blk_lt B_g1
      have hnb_g5_1 := blk_lt B_g5_1
      have hnb_g5_13 := blk_lt B_g5_13
      have hnb_g5_3 := blk_lt B_g5_3
      have hnz_0 := K_0.kept.1
      refine (s_call (xs := [Operand.tmp 20, Operand.const (Value.int IntKind.i64 4), Operand.tmp 22]) (args := [Value.pointer (some ⟨g5_1, 0, none⟩), Value.int .i64 4, Value.slice (some ⟨g5_3, 0, none⟩) 1 1]) p19_5_4 hE wn_none rfl rfl Try.func70 cl70 (chain_put g5_1 none (some ⟨g5_3, 0, none⟩) 0 1 4 ([]) ([((1536 + c) * 1048576) + f]) _ B_g5_1 (fun W hk => Kd.C_nil _ _) (fun W hk => C_blk (k := .i64) (l := [((1536 + c) * 1048576) + f]) (kp_blk B_g5_3 hk (Ne.symm n_g5_1_g5_3)) ⟨rfl, Nat.le_of_ble_eq_true rfl⟩ rfl) (Nat.le_of_ble_eq_true rfl) (fits4 c f hc hf) (Nat.le_of_ble_eq_true rfl)) ?_)
      rintro e w120 ⟨A5_4, c5_4, rfl, B_g5_1', O_q5_4, hk⟩
      replace B_g1 := kp_blk B_g1 hk n_g1_g5_1
      replace B_g5_13 := kp_blk B_g5_13 hk (Ne.symm n_g5_1_g5_13)
      replace B_g5_3 := kp_blk B_g5_3 hk (Ne.symm n_g5_1_g5_3)
      replace K_0 := K_0.then_ hk (fun k h => by rw [show k = g5_1 from h]; exact Or.inr z_0_g5_1)
      have Nb_q5_4_g1 : ¬ OB A5_4 g1 := fun h => by have := (own_ob O_q5_4 h).1; have := hnb_g1; omega
      have Nb_q5_4_g5_1 : ¬ OB A5_4 g5_1 := fun h => by have := (own_ob O_q5_4 h).1; have := hnb_g5_1; omega
      have Nb_q5_4_g5_13 : ¬ OB A5_4 g5_13 := fun h => by have := (own_ob O_q5_4 h).1; have := hnb_g5_13; omega
      have Nb_q5_4_g5_3 : ¬ OB A5_4 g5_3 := fun h => by have := (own_ob O_q5_4 h).1; have := hnb_g5_3; omega
      have Z_0_q5_4 : ∀ k, OB A5_4 k → (fun _ => False) k ∨ w.heap.size ≤ k := fun k h => .inr (by have := (own_ob O_q5_4 h).1; have := hnz_0; omega)
      replace O_q5_4 := own_lower O_q5_4 hnz_0
      replace B_g5_1 := B_g5_1'
      refine ⟨_, rfl, ?_⟩
      clear hE a; intro a hE
      refine ⟨⟨B_g1, trivial⟩, ?_⟩
      exact dr5_17 A5_4 c5_4 g5_1 g5_13 g5_3 _ a (En.sub hE ⟨rfl, rfl, rfl, rfl, rfl, rfl, rfl, rfl, rfl, rfl, rfl, rfl, rfl, rfl, rfl, rfl, rfl, rfl, rfl, trivial⟩) B_g1 B_g5_3 B_g5_1 B_g5_13 n_g1_g5_1 n_g1_g5_13 n_g1_g5_3 n_g5_1_g5_13 n_g5_1_g5_3 n_g5_13_g5_3 z_0_g5_1 z_0_g5_13 z_0_g5_3 Nb_q5_4_g1 Nb_q5_4_g5_3 Nb_q5_4_g5_1 Nb_q5_4_g5_13 Z_0_q5_4 O_q5_4 K_0
    refine all_cons (d_lit (listed' := #[true, true, true, true, false, true, true, true, false, true, true, true, true, true, false, false]) rfl ?_) ?_
    ·
      refine (s_row (xs := [(0, Operand.tmp 25)]) (vs := [(0, Value.int .i64 l)]) (cs := #[Value.int .i64 l]) p19_5_7 hE wn_none rfl Try.underlying62 rfl (by kernel_rfl) ?_)
      clear hE a; intro g5_7 w121 z122 B_g5_7 hk a hE
      have n_g1_g5_7 : g1 ≠ g5_7 := ne_new B_g1 z122
      have n_g5_1_g5_7 : g5_1 ≠ g5_7 := ne_new B_g5_1 z122
      have n_g5_13_g5_7 : g5_13 ≠ g5_7 := ne_new B_g5_13 z122
      have n_g5_3_g5_7 : g5_3 ≠ g5_7 := ne_new B_g5_3 z122
      have z_0_g5_7 := Nat.le_trans K_0.kept.1 z122
      replace B_g1 := kp_blk B_g1 hk (fun h => h)
      replace B_g5_1 := kp_blk B_g5_1 hk (fun h => h)
      replace B_g5_13 := kp_blk B_g5_13 hk (fun h => h)
      replace B_g5_3 := kp_blk B_g5_3 hk (fun h => h)
      replace K_0 := K_0.then_ hk (fun _ h => h.elim)
      clear hk
      refine ⟨⟨B_g1, trivial⟩, ?_⟩
      exact dr5_18 g5_1 g5_13 g5_3 g5_7 _ a (En.sub hE ⟨rfl, rfl, rfl, rfl, rfl, rfl, rfl, rfl, rfl, rfl, rfl, rfl, rfl, rfl, rfl, rfl, rfl, rfl, rfl, trivial⟩) B_g1 B_g5_7 B_g5_13 B_g5_3 B_g5_1 n_g1_g5_1 n_g1_g5_13 n_g1_g5_3 n_g1_g5_7 n_g5_1_g5_13 n_g5_1_g5_3 n_g5_1_g5_7 n_g5_13_g5_3 n_g5_13_g5_7 n_g5_3_g5_7 z_0_g5_1 z_0_g5_13 z_0_g5_3 z_0_g5_7 K_0
    exact all_nil
  have dr5_12 : ∀ (A5_4 : Option Addr) (c5_4 : Nat) (g5_1 : Nat) (g5_3 : Nat) (W : World) (a : Act), En 48 a [(0, Value.agg (([Value.int .i64 c, Value.int .i64 f, Value.int .i64 l, Value.int .i64 x, Value.int .i64 h] ++ b16 s ++ b16 d)).toArray), (1, Value.pointer (some ⟨g1, 0, none⟩)), (2, Value.slice none 0 0), (3, Value.int .i64 0), (4, Value.int .i64 0), (5, Value.int .i64 (((1536 + c) * 1048576) + f)), (10, Value.bool false), (19, Value.agg #[Value.slice none 0 0, Value.int .i64 0]), (20, Value.pointer (some ⟨g5_1, 0, none⟩)), (21, Value.int .i64 (((1536 + c) * 1048576) + f)), (22, Value.slice (some ⟨g5_3, 0, none⟩) 1 1), (23, Value.pointer (some ⟨g5_1, 0, none⟩)), (24, Value.pointer (some ⟨g1, 2, none⟩)), (25, Value.int .i64 l), (28, Value.pointer (some ⟨g1, 3, none⟩)), (29, Value.int .i64 x), (30, Value.pointer (some ⟨g1, 4, none⟩)), (31, Value.int .i64 h)] → W.heap[g1]? = some (.cells (([Value.int .i64 c, Value.int .i64 f, Value.int .i64 l, Value.int .i64 x, Value.int .i64 h] ++ b16 s ++ b16 d)).toArray 27 (0, 0)) → W.heap[g5_3]? = some (.cells #[Value.int .i64 (((1536 + c) * 1048576) + f)] 3 (0, 0)) → W.heap[g5_1]? = some (.cells #[Value.slice A5_4 ((putF 4 [((1536 + c) * 1048576) + f]).length) c5_4, Value.int .i64 0] 123 (0, 0)) → g1 ≠ g5_1 → g1 ≠ g5_3 → g5_1 ≠ g5_3 → w.heap.size ≤ g5_1 → w.heap.size ≤ g5_3 → ¬ OB A5_4 g1 → ¬ OB A5_4 g5_3 → ¬ OB A5_4 g5_1 → (∀ k, OB A5_4 k → (fun _ => False) k ∨ w.heap.size ≤ k) → W.ownsRow w.heap.size 5 1 (.slice A5_4 ((putF 4 [((1536 + c) * 1048576) + f]).length) c5_4) ((putF 4 [((1536 + c) * 1048576) + f]).length) (encs (Value.int .u8) (putF 4 [((1536 + c) * 1048576) + f])) → Kp w W (fun _ => False) → wpAnyH Try.prog .any (regOf Try.f19 5) QQ (fun W => W.heap[g1]? = some (.cells (([Value.int .i64 c, Value.int .i64 f, Value.int .i64 l, Value.int .i64 x, Value.int .i64 h] ++ b16 s ++ b16 d)).toArray 27 (0, 0)) ∧ True) 5 #[true, true, true, true, true, true, true, false, false, true, true, true, true, false, false, false] a W := by
    intro A5_4 c5_4 g5_1 g5_3 w123 a hE B_g1 B_g5_3 B_g5_1 n_g1_g5_1 n_g1_g5_3 n_g5_1_g5_3 z_0_g5_1 z_0_g5_3 Nb_q5_4_g1 Nb_q5_4_g5_3 Nb_q5_4_g5_1 Z_0_q5_4 O_q5_4 K_0
    refine d_all (rs := [7, 13]) (by kernel_rfl) rfl ?_
    refine all_cons (d_lit (listed' := #[true, true, true, true, true, true, true, true, false, true, true, true, true, false, false, false]) rfl ?_) ?_
    ·
      refine (s_row (xs := [(0, Operand.tmp 25)]) (vs := [(0, Value.int .i64 l)]) (cs := #[Value.int .i64 l]) p19_5_7 hE wn_none rfl Try.underlying62 rfl (by kernel_rfl) ?_)
      clear hE a; intro g5_7 w124 z125 B_g5_7 hk a hE
      have n_g1_g5_7 : g1 ≠ g5_7 := ne_new B_g1 z125
      have n_g5_3_g5_7 : g5_3 ≠ g5_7 := ne_new B_g5_3 z125
      have n_g5_1_g5_7 : g5_1 ≠ g5_7 := ne_new B_g5_1 z125
      have z_0_g5_7 := Nat.le_trans K_0.kept.1 z125
      have Nb_q5_4_g5_7 : ¬ OB A5_4 g5_7 := fun h => by have := (own_ob O_q5_4 h).2; omega
      replace B_g1 := kp_blk B_g1 hk (fun h => h)
      replace B_g5_3 := kp_blk B_g5_3 hk (fun h => h)
      replace B_g5_1 := kp_blk B_g5_1 hk (fun h => h)
      replace O_q5_4 := own_keep O_q5_4 hk (fun _ _ h => h)
      replace K_0 := K_0.then_ hk (fun _ h => h.elim)
      clear hk
      refine ⟨⟨B_g1, trivial⟩, ?_⟩
      exact dr5_16 A5_4 c5_4 g5_1 g5_3 g5_7 _ a (En.sub hE ⟨rfl, rfl, rfl, rfl, rfl, rfl, rfl, rfl, rfl, rfl, rfl, rfl, rfl, rfl, rfl, rfl, rfl, rfl, rfl, trivial⟩) B_g1 B_g5_3 B_g5_1 B_g5_7 n_g1_g5_1 n_g1_g5_3 n_g1_g5_7 n_g5_1_g5_3 n_g5_1_g5_7 n_g5_3_g5_7 z_0_g5_1 z_0_g5_3 z_0_g5_7 Nb_q5_4_g1 Nb_q5_4_g5_3 Nb_q5_4_g5_1 Nb_q5_4_g5_7 Z_0_q5_4 O_q5_4 K_0
    refine all_cons (d_lit (listed' := #[true, true, true, true, true, true, true, false, false, true, true, true, true, true, false, false]) rfl ?_) ?_
    ·
      refine (s_row (xs := [(0, Operand.tmp 29), (1, Operand.tmp 31)]) (vs := [(0, Value.int .i64 x), (1, Value.int .i64 h)]) (cs := #[Value.int .i64 x, Value.int .i64 h]) p19_5_13 hE wn_none rfl Try.underlying62 rfl (by kernel_rfl) ?_)
      clear hE a; intro g5_13 w126 z127 B_g5_13 hk a hE
      have n_g1_g5_13 : g1 ≠ g5_13 := ne_new B_g1 z127
      have n_g5_3_g5_13 : g5_3 ≠ g5_13 := ne_new B_g5_3 z127
      have n_g5_1_g5_13 : g5_1 ≠ g5_13 := ne_new B_g5_1 z127
      have z_0_g5_13 := Nat.le_trans K_0.kept.1 z127
      have Nb_q5_4_g5_13 : ¬ OB A5_4 g5_13 := fun h => by have := (own_ob O_q5_4 h).2; omega
      replace B_g1 := kp_blk B_g1 hk (fun h => h)
      replace B_g5_3 := kp_blk B_g5_3 hk (fun h => h)
      replace B_g5_1 := kp_blk B_g5_1 hk (fun h => h)
      replace O_q5_4 := own_keep O_q5_4 hk (fun _ _ h => h)
      replace K_0 := K_0.then_ hk (fun _ h => h.elim)
      clear hk
      refine ⟨⟨B_g1, trivial⟩, ?_⟩
      have n_g5_13_g5_3 := Ne.symm n_g5_3_g5_13
      exact dr5_17 A5_4 c5_4 g5_1 g5_13 g5_3 _ a (En.sub hE ⟨rfl, rfl, rfl, rfl, rfl, rfl, rfl, rfl, rfl, rfl, rfl, rfl, rfl, rfl, rfl, rfl, rfl, rfl, rfl, trivial⟩) B_g1 B_g5_3 B_g5_1 B_g5_13 n_g1_g5_1 n_g1_g5_13 n_g1_g5_3 n_g5_1_g5_13 n_g5_1_g5_3 n_g5_13_g5_3 z_0_g5_1 z_0_g5_13 z_0_g5_3 Nb_q5_4_g1 Nb_q5_4_g5_3 Nb_q5_4_g5_1 Nb_q5_4_g5_13 Z_0_q5_4 O_q5_4 K_0
    exact all_nil
  have dr5_11 : ∀ (g5_13 : Nat) (g5_3 : Nat) (g5_7 : Nat) (W : World) (a : Act), En 48 a [(0, Value.agg (([Value.int .i64 c, Value.int .i64 f, Value.int .i64 l, Value.int .i64 x, Value.int .i64 h] ++ b16 s ++ b16 d)).toArray), (1, Value.pointer (some ⟨g1, 0, none⟩)), (2, Value.slice none 0 0), (3, Value.int .i64 0), (4, Value.int .i64 0), (5, Value.int .i64 (((1536 + c) * 1048576) + f)), (10, Value.bool false), (19, Value.agg #[Value.slice none 0 0, Value.int .i64 0]), (21, Value.int .i64 (((1536 + c) * 1048576) + f)), (22, Value.slice (some ⟨g5_3, 0, none⟩) 1 1), (24, Value.pointer (some ⟨g1, 2, none⟩)), (25, Value.int .i64 l), (26, Value.slice (some ⟨g5_7, 0, none⟩) 1 1), (28, Value.pointer (some ⟨g1, 3, none⟩)), (29, Value.int .i64 x), (30, Value.pointer (some ⟨g1, 4, none⟩)), (31, Value.int .i64 h), (32, Value.slice (some ⟨g5_13, 0, none⟩) 2 2)] → W.heap[g1]? = some (.cells (([Value.int .i64 c, Value.int .i64 f, Value.int .i64 l, Value.int .i64 x, Value.int .i64 h] ++ b16 s ++ b16 d)).toArray 27 (0, 0)) → W.heap[g5_7]? = some (.cells #[Value.int .i64 l] 3 (0, 0)) → W.heap[g5_13]? = some (.cells #[Value.int .i64 x, Value.int .i64 h] 3 (0, 0)) → W.heap[g5_3]? = some (.cells #[Value.int .i64 (((1536 + c) * 1048576) + f)] 3 (0, 0)) → g1 ≠ g5_13 → g1 ≠ g5_3 → g1 ≠ g5_7 → g5_13 ≠ g5_3 → g5_13 ≠ g5_7 → g5_3 ≠ g5_7 → w.heap.size ≤ g5_13 → w.heap.size ≤ g5_3 → w.heap.size ≤ g5_7 → Kp w W (fun _ => False) → wpAnyH Try.prog .any (regOf Try.f19 5) QQ (fun W => W.heap[g1]? = some (.cells (([Value.int .i64 c, Value.int .i64 f, Value.int .i64 l, Value.int .i64 x, Value.int .i64 h] ++ b16 s ++ b16 d)).toArray 27 (0, 0)) ∧ True) 5 #[true, false, true, true, false, true, true, true, false, true, true, true, true, true, false, false] a W := by
    intro g5_13 g5_3 g5_7 w128 a hE B_g1 B_g5_7 B_g5_13 B_g5_3 n_g1_g5_13 n_g1_g5_3 n_g1_g5_7 n_g5_13_g5_3 n_g5_13_g5_7 n_g5_3_g5_7 z_0_g5_13 z_0_g5_3 z_0_g5_7 K_0
    refine d_all (rs := [1]) (by kernel_rfl) rfl ?_
    refine all_cons (d_lit (listed' := #[true, true, true, true, false, true, true, true, false, true, true, true, true, true, false, false]) rfl ?_) ?_
    ·
      refine (s_box p19_5_1 hE wn_none rfl rfl ?_)
      clear hE a; intro g5_1 w129 z130 B_g5_1 hk a hE
      replace B_g5_1 : w129.heap[g5_1]? = some (.cells #[Value.slice none 0 0, Value.int .i64 0] 123 (0, 0)) := B_g5_1
      have n_g1_g5_1 : g1 ≠ g5_1 := ne_new B_g1 z130
      have n_g5_7_g5_1 : g5_7 ≠ g5_1 := ne_new B_g5_7 z130
      have n_g5_13_g5_1 : g5_13 ≠ g5_1 := ne_new B_g5_13 z130
      have n_g5_3_g5_1 : g5_3 ≠ g5_1 := ne_new B_g5_3 z130
      have z_0_g5_1 := Nat.le_trans K_0.kept.1 z130
      replace B_g1 := kp_blk B_g1 hk (fun h => h)
      replace B_g5_7 := kp_blk B_g5_7 hk (fun h => h)
      replace B_g5_13 := kp_blk B_g5_13 hk (fun h => h)
      replace B_g5_3 := kp_blk B_g5_3 hk (fun h => h)
      replace K_0 := K_0.then_ hk (fun _ h => h.elim)
      clear hk
      refine ⟨⟨B_g1, trivial⟩, ?_⟩
      have n_g5_1_g5_13 := Ne.symm n_g5_13_g5_1
      have n_g5_1_g5_3 := Ne.symm n_g5_3_g5_1
      have n_g5_1_g5_7 := Ne.symm n_g5_7_g5_1
      exact dr5_18 g5_1 g5_13 g5_3 g5_7 _ a (En.sub hE ⟨rfl, rfl, rfl, rfl, rfl, rfl, rfl, rfl, rfl, rfl, rfl, rfl, rfl, rfl, rfl, rfl, rfl, rfl, rfl, trivial⟩) B_g1 B_g5_7 B_g5_13 B_g5_3 B_g5_1 n_g1_g5_1 n_g1_g5_13 n_g1_g5_3 n_g1_g5_7 n_g5_1_g5_13 n_g5_1_g5_3 n_g5_1_g5_7 n_g5_13_g5_3 n_g5_13_g5_7 n_g5_3_g5_7 z_0_g5_1 z_0_g5_13 z_0_g5_3 z_0_g5_7 K_0
    exact all_nil
  have dr5_10 : ∀ (g5_3 : Nat) (g5_7 : Nat) (W : World) (a : Act), En 48 a [(0, Value.agg (([Value.int .i64 c, Value.int .i64 f, Value.int .i64 l, Value.int .i64 x, Value.int .i64 h] ++ b16 s ++ b16 d)).toArray), (1, Value.pointer (some ⟨g1, 0, none⟩)), (2, Value.slice none 0 0), (3, Value.int .i64 0), (4, Value.int .i64 0), (5, Value.int .i64 (((1536 + c) * 1048576) + f)), (10, Value.bool false), (19, Value.agg #[Value.slice none 0 0, Value.int .i64 0]), (21, Value.int .i64 (((1536 + c) * 1048576) + f)), (22, Value.slice (some ⟨g5_3, 0, none⟩) 1 1), (24, Value.pointer (some ⟨g1, 2, none⟩)), (25, Value.int .i64 l), (26, Value.slice (some ⟨g5_7, 0, none⟩) 1 1), (28, Value.pointer (some ⟨g1, 3, none⟩)), (29, Value.int .i64 x), (30, Value.pointer (some ⟨g1, 4, none⟩)), (31, Value.int .i64 h)] → W.heap[g1]? = some (.cells (([Value.int .i64 c, Value.int .i64 f, Value.int .i64 l, Value.int .i64 x, Value.int .i64 h] ++ b16 s ++ b16 d)).toArray 27 (0, 0)) → W.heap[g5_3]? = some (.cells #[Value.int .i64 (((1536 + c) * 1048576) + f)] 3 (0, 0)) → W.heap[g5_7]? = some (.cells #[Value.int .i64 l] 3 (0, 0)) → g1 ≠ g5_3 → g1 ≠ g5_7 → g5_3 ≠ g5_7 → w.heap.size ≤ g5_3 → w.heap.size ≤ g5_7 → Kp w W (fun _ => False) → wpAnyH Try.prog .any (regOf Try.f19 5) QQ (fun W => W.heap[g1]? = some (.cells (([Value.int .i64 c, Value.int .i64 f, Value.int .i64 l, Value.int .i64 x, Value.int .i64 h] ++ b16 s ++ b16 d)).toArray 27 (0, 0)) ∧ True) 6 #[true, false, true, true, false, true, true, true, false, true, true, true, true, false, false, false] a W := by
    intro g5_3 g5_7 w131 a hE B_g1 B_g5_3 B_g5_7 n_g1_g5_3 n_g1_g5_7 n_g5_3_g5_7 z_0_g5_3 z_0_g5_7 K_0
    refine d_all (rs := [1, 13]) (by kernel_rfl) rfl ?_
    refine all_cons (d_lit (listed' := #[true, true, true, true, false, true, true, true, false, true, true, true, true, false, false, false]) rfl ?_) ?_
    ·
      refine (s_box p19_5_1 hE wn_none rfl rfl ?_)
      clear hE a; intro g5_1 w132 z133 B_g5_1 hk a hE
      replace B_g5_1 : w132.heap[g5_1]? = some (.cells #[Value.slice none 0 0, Value.int .i64 0] 123 (0, 0)) := B_g5_1
      have n_g1_g5_1 : g1 ≠ g5_1 := ne_new B_g1 z133
      have n_g5_3_g5_1 : g5_3 ≠ g5_1 := ne_new B_g5_3 z133
      have n_g5_7_g5_1 : g5_7 ≠ g5_1 := ne_new B_g5_7 z133
      have z_0_g5_1 := Nat.le_trans K_0.kept.1 z133
      replace B_g1 := kp_blk B_g1 hk (fun h => h)
      replace B_g5_3 := kp_blk B_g5_3 hk (fun h => h)
      replace B_g5_7 := kp_blk B_g5_7 hk (fun h => h)
      replace K_0 := K_0.then_ hk (fun _ h => h.elim)
      clear hk
      refine ⟨⟨B_g1, trivial⟩, ?_⟩
      have n_g5_1_g5_3 := Ne.symm n_g5_3_g5_1
      have n_g5_1_g5_7 := Ne.symm n_g5_7_g5_1
      exact dr5_15 g5_1 g5_3 g5_7 _ a (En.sub hE ⟨rfl, rfl, rfl, rfl, rfl, rfl, rfl, rfl, rfl, rfl, rfl, rfl, rfl, rfl, rfl, rfl, rfl, rfl, trivial⟩) B_g1 B_g5_7 B_g5_1 B_g5_3 n_g1_g5_1 n_g1_g5_3 n_g1_g5_7 n_g5_1_g5_3 n_g5_1_g5_7 n_g5_3_g5_7 z_0_g5_1 z_0_g5_3 z_0_g5_7 K_0
    refine all_cons (d_lit (listed' := #[true, false, true, true, false, true, true, true, false, true, true, true, true, true, false, false]) rfl ?_) ?_
    ·
      refine (s_row (xs := [(0, Operand.tmp 29), (1, Operand.tmp 31)]) (vs := [(0, Value.int .i64 x), (1, Value.int .i64 h)]) (cs := #[Value.int .i64 x, Value.int .i64 h]) p19_5_13 hE wn_none rfl Try.underlying62 rfl (by kernel_rfl) ?_)
      clear hE a; intro g5_13 w134 z135 B_g5_13 hk a hE
      have n_g1_g5_13 : g1 ≠ g5_13 := ne_new B_g1 z135
      have n_g5_3_g5_13 : g5_3 ≠ g5_13 := ne_new B_g5_3 z135
      have n_g5_7_g5_13 : g5_7 ≠ g5_13 := ne_new B_g5_7 z135
      have z_0_g5_13 := Nat.le_trans K_0.kept.1 z135
      replace B_g1 := kp_blk B_g1 hk (fun h => h)
      replace B_g5_3 := kp_blk B_g5_3 hk (fun h => h)
      replace B_g5_7 := kp_blk B_g5_7 hk (fun h => h)
      replace K_0 := K_0.then_ hk (fun _ h => h.elim)
      clear hk
      refine ⟨⟨B_g1, trivial⟩, ?_⟩
      have n_g5_13_g5_3 := Ne.symm n_g5_3_g5_13
      have n_g5_13_g5_7 := Ne.symm n_g5_7_g5_13
      exact dr5_11 g5_13 g5_3 g5_7 _ a (En.sub hE ⟨rfl, rfl, rfl, rfl, rfl, rfl, rfl, rfl, rfl, rfl, rfl, rfl, rfl, rfl, rfl, rfl, rfl, rfl, trivial⟩) B_g1 B_g5_7 B_g5_13 B_g5_3 n_g1_g5_13 n_g1_g5_3 n_g1_g5_7 n_g5_13_g5_3 n_g5_13_g5_7 n_g5_3_g5_7 z_0_g5_13 z_0_g5_3 z_0_g5_7 K_0
    exact all_nil
  have dr5_9 : ∀ (g5_13 : Nat) (g5_3 : Nat) (W : World) (a : Act), En 48 a [(0, Value.agg (([Value.int .i64 c, Value.int .i64 f, Value.int .i64 l, Value.int .i64 x, Value.int .i64 h] ++ b16 s ++ b16 d)).toArray), (1, Value.pointer (some ⟨g1, 0, none⟩)), (2, Value.slice none 0 0), (3, Value.int .i64 0), (4, Value.int .i64 0), (5, Value.int .i64 (((1536 + c) * 1048576) + f)), (10, Value.bool false), (19, Value.agg #[Value.slice none 0 0, Value.int .i64 0]), (21, Value.int .i64 (((1536 + c) * 1048576) + f)), (22, Value.slice (some ⟨g5_3, 0, none⟩) 1 1), (24, Value.pointer (some ⟨g1, 2, none⟩)), (25, Value.int .i64 l), (28, Value.pointer (some ⟨g1, 3, none⟩)), (29, Value.int .i64 x), (30, Value.pointer (some ⟨g1, 4, none⟩)), (31, Value.int .i64 h), (32, Value.slice (some ⟨g5_13, 0, none⟩) 2 2)] → W.heap[g1]? = some (.cells (([Value.int .i64 c, Value.int .i64 f, Value.int .i64 l, Value.int .i64 x, Value.int .i64 h] ++ b16 s ++ b16 d)).toArray 27 (0, 0)) → W.heap[g5_3]? = some (.cells #[Value.int .i64 (((1536 + c) * 1048576) + f)] 3 (0, 0)) → W.heap[g5_13]? = some (.cells #[Value.int .i64 x, Value.int .i64 h] 3 (0, 0)) → g1 ≠ g5_13 → g1 ≠ g5_3 → g5_13 ≠ g5_3 → w.heap.size ≤ g5_13 → w.heap.size ≤ g5_3 → Kp w W (fun _ => False) → wpAnyH Try.prog .any (regOf Try.f19 5) QQ (fun W => W.heap[g1]? = some (.cells (([Value.int .i64 c, Value.int .i64 f, Value.int .i64 l, Value.int .i64 x, Value.int .i64 h] ++ b16 s ++ b16 d)).toArray 27 (0, 0)) ∧ True) 6 #[true, false, true, true, false, true, true, false, false, true, true, true, true, true, false, false] a W := by
    intro g5_13 g5_3 w136 a hE B_g1 B_g5_3 B_g5_13 n_g1_g5_13 n_g1_g5_3 n_g5_13_g5_3 z_0_g5_13 z_0_g5_3 K_0
    refine d_all (rs := [1, 7]) (by kernel_rfl) rfl ?_
    refine all_cons (d_lit (listed' := #[true, true, true, true, false, true, true, false, false, true, true, true, true, true, false, false]) rfl ?_) ?_
    ·
      refine (s_box p19_5_1 hE wn_none rfl rfl ?_)
      clear hE a; intro g5_1 w137 z138 B_g5_1 hk a hE
      replace B_g5_1 : w137.heap[g5_1]? = some (.cells #[Value.slice none 0 0, Value.int .i64 0] 123 (0, 0)) := B_g5_1
      have n_g1_g5_1 : g1 ≠ g5_1 := ne_new B_g1 z138
      have n_g5_3_g5_1 : g5_3 ≠ g5_1 := ne_new B_g5_3 z138
      have n_g5_13_g5_1 : g5_13 ≠ g5_1 := ne_new B_g5_13 z138
      have z_0_g5_1 := Nat.le_trans K_0.kept.1 z138
      replace B_g1 := kp_blk B_g1 hk (fun h => h)
      replace B_g5_3 := kp_blk B_g5_3 hk (fun h => h)
      replace B_g5_13 := kp_blk B_g5_13 hk (fun h => h)
      replace K_0 := K_0.then_ hk (fun _ h => h.elim)
      clear hk
      refine ⟨⟨B_g1, trivial⟩, ?_⟩
      have n_g5_1_g5_13 := Ne.symm n_g5_13_g5_1
      have n_g5_1_g5_3 := Ne.symm n_g5_3_g5_1
      exact dr5_13 g5_1 g5_13 g5_3 _ a (En.sub hE ⟨rfl, rfl, rfl, rfl, rfl, rfl, rfl, rfl, rfl, rfl, rfl, rfl, rfl, rfl, rfl, rfl, rfl, rfl, trivial⟩) B_g1 B_g5_1 B_g5_13 B_g5_3 n_g1_g5_1 n_g1_g5_13 n_g1_g5_3 n_g5_1_g5_13 n_g5_1_g5_3 n_g5_13_g5_3 z_0_g5_1 z_0_g5_13 z_0_g5_3 K_0
    refine all_cons (d_lit (listed' := #[true, false, true, true, false, true, true, true, false, true, true, true, true, true, false, false]) rfl ?_) ?_
    ·
      refine (s_row (xs := [(0, Operand.tmp 25)]) (vs := [(0, Value.int .i64 l)]) (cs := #[Value.int .i64 l]) p19_5_7 hE wn_none rfl Try.underlying62 rfl (by kernel_rfl) ?_)
      clear hE a; intro g5_7 w139 z140 B_g5_7 hk a hE
      have n_g1_g5_7 : g1 ≠ g5_7 := ne_new B_g1 z140
      have n_g5_3_g5_7 : g5_3 ≠ g5_7 := ne_new B_g5_3 z140
      have n_g5_13_g5_7 : g5_13 ≠ g5_7 := ne_new B_g5_13 z140
      have z_0_g5_7 := Nat.le_trans K_0.kept.1 z140
      replace B_g1 := kp_blk B_g1 hk (fun h => h)
      replace B_g5_3 := kp_blk B_g5_3 hk (fun h => h)
      replace B_g5_13 := kp_blk B_g5_13 hk (fun h => h)
      replace K_0 := K_0.then_ hk (fun _ h => h.elim)
      clear hk
      refine ⟨⟨B_g1, trivial⟩, ?_⟩
      exact dr5_11 g5_13 g5_3 g5_7 _ a (En.sub hE ⟨rfl, rfl, rfl, rfl, rfl, rfl, rfl, rfl, rfl, rfl, rfl, rfl, rfl, rfl, rfl, rfl, rfl, rfl, trivial⟩) B_g1 B_g5_7 B_g5_13 B_g5_3 n_g1_g5_13 n_g1_g5_3 n_g1_g5_7 n_g5_13_g5_3 n_g5_13_g5_7 n_g5_3_g5_7 z_0_g5_13 z_0_g5_3 z_0_g5_7 K_0
    exact all_nil
  have dr5_8 : ∀ (g5_1 : Nat) (g5_3 : Nat) (W : World) (a : Act), En 48 a [(0, Value.agg (([Value.int .i64 c, Value.int .i64 f, Value.int .i64 l, Value.int .i64 x, Value.int .i64 h] ++ b16 s ++ b16 d)).toArray), (1, Value.pointer (some ⟨g1, 0, none⟩)), (2, Value.slice none 0 0), (3, Value.int .i64 0), (4, Value.int .i64 0), (5, Value.int .i64 (((1536 + c) * 1048576) + f)), (10, Value.bool false), (19, Value.agg #[Value.slice none 0 0, Value.int .i64 0]), (20, Value.pointer (some ⟨g5_1, 0, none⟩)), (21, Value.int .i64 (((1536 + c) * 1048576) + f)), (22, Value.slice (some ⟨g5_3, 0, none⟩) 1 1), (24, Value.pointer (some ⟨g1, 2, none⟩)), (25, Value.int .i64 l), (28, Value.pointer (some ⟨g1, 3, none⟩)), (29, Value.int .i64 x), (30, Value.pointer (some ⟨g1, 4, none⟩)), (31, Value.int .i64 h)] → W.heap[g1]? = some (.cells (([Value.int .i64 c, Value.int .i64 f, Value.int .i64 l, Value.int .i64 x, Value.int .i64 h] ++ b16 s ++ b16 d)).toArray 27 (0, 0)) → W.heap[g5_3]? = some (.cells #[Value.int .i64 (((1536 + c) * 1048576) + f)] 3 (0, 0)) → W.heap[g5_1]? = some (.cells #[Value.slice none 0 0, Value.int .i64 0] 123 (0, 0)) → g1 ≠ g5_1 → g1 ≠ g5_3 → g5_1 ≠ g5_3 → w.heap.size ≤ g5_1 → w.heap.size ≤ g5_3 → Kp w W (fun _ => False) → wpAnyH Try.prog .any (regOf Try.f19 5) QQ (fun W => W.heap[g1]? = some (.cells (([Value.int .i64 c, Value.int .i64 f, Value.int .i64 l, Value.int .i64 x, Value.int .i64 h] ++ b16 s ++ b16 d)).toArray 27 (0, 0)) ∧ True) 6 #[true, true, true, true, false, true, true, false, false, true, true, true, true, false, false, false] a W := by
    intro g5_1 g5_3 w141 a hE B_g1 B_g5_3 B_g5_1 n_g1_g5_1 n_g1_g5_3 n_g5_1_g5_3 z_0_g5_1 z_0_g5_3 K_0
    refine d_all (rs := [4, 7, 13]) (by kernel_rfl) rfl ?_
    refine all_cons (d_lit (listed' := #[true, true, true, true, true, true, true, false, false, true, true, true, true, false, false, false]) rfl ?_) ?_
    ·
      have hnb_g1 := blk_lt B_g1
      have hnb_g5_3 := blk_lt B_g5_3
      have hnb_g5_1 := blk_lt B_g5_1
      have hnz_0 := K_0.kept.1
      refine (s_call (xs := [Operand.tmp 20, Operand.const (Value.int IntKind.i64 4), Operand.tmp 22]) (args := [Value.pointer (some ⟨g5_1, 0, none⟩), Value.int .i64 4, Value.slice (some ⟨g5_3, 0, none⟩) 1 1]) p19_5_4 hE wn_none rfl rfl Try.func70 cl70 (chain_put g5_1 none (some ⟨g5_3, 0, none⟩) 0 1 4 ([]) ([((1536 + c) * 1048576) + f]) _ B_g5_1 (fun W hk => Kd.C_nil _ _) (fun W hk => C_blk (k := .i64) (l := [((1536 + c) * 1048576) + f]) (kp_blk B_g5_3 hk (Ne.symm n_g5_1_g5_3)) ⟨rfl, Nat.le_of_ble_eq_true rfl⟩ rfl) (Nat.le_of_ble_eq_true rfl) (fits4 c f hc hf) (Nat.le_of_ble_eq_true rfl)) ?_)
      rintro e w142 ⟨A5_4, c5_4, rfl, B_g5_1', O_q5_4, hk⟩
      replace B_g1 := kp_blk B_g1 hk n_g1_g5_1
      replace B_g5_3 := kp_blk B_g5_3 hk (Ne.symm n_g5_1_g5_3)
      replace K_0 := K_0.then_ hk (fun k h => by rw [show k = g5_1 from h]; exact Or.inr z_0_g5_1)
      have Nb_q5_4_g1 : ¬ OB A5_4 g1 := fun h => by have := (own_ob O_q5_4 h).1; have := hnb_g1; omega
      have Nb_q5_4_g5_3 : ¬ OB A5_4 g5_3 := fun h => by have := (own_ob O_q5_4 h).1; have := hnb_g5_3; omega
      have Nb_q5_4_g5_1 : ¬ OB A5_4 g5_1 := fun h => by have := (own_ob O_q5_4 h).1; have := hnb_g5_1; omega
      have Z_0_q5_4 : ∀ k, OB A5_4 k → (fun _ => False) k ∨ w.heap.size ≤ k := fun k h => .inr (by have := (own_ob O_q5_4 h).1; have := hnz_0; omega)
      replace O_q5_4 := own_lower O_q5_4 hnz_0
      replace B_g5_1 := B_g5_1'
      refine ⟨_, rfl, ?_⟩
      clear hE a; intro a hE
      refine ⟨⟨B_g1, trivial⟩, ?_⟩
      exact dr5_12 A5_4 c5_4 g5_1 g5_3 _ a (En.sub hE ⟨rfl, rfl, rfl, rfl, rfl, rfl, rfl, rfl, rfl, rfl, rfl, rfl, rfl, rfl, rfl, rfl, rfl, rfl, trivial⟩) B_g1 B_g5_3 B_g5_1 n_g1_g5_1 n_g1_g5_3 n_g5_1_g5_3 z_0_g5_1 z_0_g5_3 Nb_q5_4_g1 Nb_q5_4_g5_3 Nb_q5_4_g5_1 Z_0_q5_4 O_q5_4 K_0
    refine all_cons (d_lit (listed' := #[true, true, true, true, false, true, true, true, false, true, true, true, true, false, false, false]) rfl ?_) ?_
    ·
      refine (s_row (xs := [(0, Operand.tmp 25)]) (vs := [(0, Value.int .i64 l)]) (cs := #[Value.int .i64 l]) p19_5_7 hE wn_none rfl Try.underlying62 rfl (by kernel_rfl) ?_)
      clear hE a; intro g5_7 w143 z144 B_g5_7 hk a hE
      have n_g1_g5_7 : g1 ≠ g5_7 := ne_new B_g1 z144
      have n_g5_3_g5_7 : g5_3 ≠ g5_7 := ne_new B_g5_3 z144
      have n_g5_1_g5_7 : g5_1 ≠ g5_7 := ne_new B_g5_1 z144
      have z_0_g5_7 := Nat.le_trans K_0.kept.1 z144
      replace B_g1 := kp_blk B_g1 hk (fun h => h)
      replace B_g5_3 := kp_blk B_g5_3 hk (fun h => h)
      replace B_g5_1 := kp_blk B_g5_1 hk (fun h => h)
      replace K_0 := K_0.then_ hk (fun _ h => h.elim)
      clear hk
      refine ⟨⟨B_g1, trivial⟩, ?_⟩
      exact dr5_15 g5_1 g5_3 g5_7 _ a (En.sub hE ⟨rfl, rfl, rfl, rfl, rfl, rfl, rfl, rfl, rfl, rfl, rfl, rfl, rfl, rfl, rfl, rfl, rfl, rfl, trivial⟩) B_g1 B_g5_7 B_g5_1 B_g5_3 n_g1_g5_1 n_g1_g5_3 n_g1_g5_7 n_g5_1_g5_3 n_g5_1_g5_7 n_g5_3_g5_7 z_0_g5_1 z_0_g5_3 z_0_g5_7 K_0
    refine all_cons (d_lit (listed' := #[true, true, true, true, false, true, true, false, false, true, true, true, true, true, false, false]) rfl ?_) ?_
    ·
      refine (s_row (xs := [(0, Operand.tmp 29), (1, Operand.tmp 31)]) (vs := [(0, Value.int .i64 x), (1, Value.int .i64 h)]) (cs := #[Value.int .i64 x, Value.int .i64 h]) p19_5_13 hE wn_none rfl Try.underlying62 rfl (by kernel_rfl) ?_)
      clear hE a; intro g5_13 w145 z146 B_g5_13 hk a hE
      have n_g1_g5_13 : g1 ≠ g5_13 := ne_new B_g1 z146
      have n_g5_3_g5_13 : g5_3 ≠ g5_13 := ne_new B_g5_3 z146
      have n_g5_1_g5_13 : g5_1 ≠ g5_13 := ne_new B_g5_1 z146
      have z_0_g5_13 := Nat.le_trans K_0.kept.1 z146
      replace B_g1 := kp_blk B_g1 hk (fun h => h)
      replace B_g5_3 := kp_blk B_g5_3 hk (fun h => h)
      replace B_g5_1 := kp_blk B_g5_1 hk (fun h => h)
      replace K_0 := K_0.then_ hk (fun _ h => h.elim)
      clear hk
      refine ⟨⟨B_g1, trivial⟩, ?_⟩
      have n_g5_13_g5_3 := Ne.symm n_g5_3_g5_13
      exact dr5_13 g5_1 g5_13 g5_3 _ a (En.sub hE ⟨rfl, rfl, rfl, rfl, rfl, rfl, rfl, rfl, rfl, rfl, rfl, rfl, rfl, rfl, rfl, rfl, rfl, rfl, trivial⟩) B_g1 B_g5_1 B_g5_13 B_g5_3 n_g1_g5_1 n_g1_g5_13 n_g1_g5_3 n_g5_1_g5_13 n_g5_1_g5_3 n_g5_13_g5_3 z_0_g5_1 z_0_g5_13 z_0_g5_3 K_0
    exact all_nil
  have dr5_7 : ∀ (g5_1 : Nat) (g5_13 : Nat) (W : World) (a : Act), En 48 a [(0, Value.agg (([Value.int .i64 c, Value.int .i64 f, Value.int .i64 l, Value.int .i64 x, Value.int .i64 h] ++ b16 s ++ b16 d)).toArray), (1, Value.pointer (some ⟨g1, 0, none⟩)), (2, Value.slice none 0 0), (3, Value.int .i64 0), (4, Value.int .i64 0), (5, Value.int .i64 (((1536 + c) * 1048576) + f)), (10, Value.bool false), (19, Value.agg #[Value.slice none 0 0, Value.int .i64 0]), (20, Value.pointer (some ⟨g5_1, 0, none⟩)), (21, Value.int .i64 (((1536 + c) * 1048576) + f)), (24, Value.pointer (some ⟨g1, 2, none⟩)), (25, Value.int .i64 l), (28, Value.pointer (some ⟨g1, 3, none⟩)), (29, Value.int .i64 x), (30, Value.pointer (some ⟨g1, 4, none⟩)), (31, Value.int .i64 h), (32, Value.slice (some ⟨g5_13, 0, none⟩) 2 2)] → W.heap[g1]? = some (.cells (([Value.int .i64 c, Value.int .i64 f, Value.int .i64 l, Value.int .i64 x, Value.int .i64 h] ++ b16 s ++ b16 d)).toArray 27 (0, 0)) → W.heap[g5_1]? = some (.cells #[Value.slice none 0 0, Value.int .i64 0] 123 (0, 0)) → W.heap[g5_13]? = some (.cells #[Value.int .i64 x, Value.int .i64 h] 3 (0, 0)) → g1 ≠ g5_1 → g1 ≠ g5_13 → g5_1 ≠ g5_13 → w.heap.size ≤ g5_1 → w.heap.size ≤ g5_13 → Kp w W (fun _ => False) → wpAnyH Try.prog .any (regOf Try.f19 5) QQ (fun W => W.heap[g1]? = some (.cells (([Value.int .i64 c, Value.int .i64 f, Value.int .i64 l, Value.int .i64 x, Value.int .i64 h] ++ b16 s ++ b16 d)).toArray 27 (0, 0)) ∧ True) 6 #[true, true, true, false, false, true, true, false, false, true, true, true, true, true, false, false] a W := by
    intro g5_1 g5_13 w147 a hE B_g1 B_g5_1 B_g5_13 n_g1_g5_1 n_g1_g5_13 n_g5_1_g5_13 z_0_g5_1 z_0_g5_13 K_0
    refine d_all (rs := [3, 7]) (by kernel_rfl) rfl ?_
    refine all_cons (d_lit (listed' := #[true, true, true, true, false, true, true, false, false, true, true, true, true, true, false, false]) rfl ?_) ?_
    ·
      refine (s_row (xs := [(0, Operand.tmp 21)]) (vs := [(0, Value.int .i64 (((1536 + c) * 1048576) + f))]) (cs := #[Value.int .i64 (((1536 + c) * 1048576) + f)]) p19_5_3 hE wn_none rfl Try.underlying62 rfl (by kernel_rfl) ?_)
      clear hE a; intro g5_3 w148 z149 B_g5_3 hk a hE
      have n_g1_g5_3 : g1 ≠ g5_3 := ne_new B_g1 z149
      have n_g5_1_g5_3 : g5_1 ≠ g5_3 := ne_new B_g5_1 z149
      have n_g5_13_g5_3 : g5_13 ≠ g5_3 := ne_new B_g5_13 z149
      have z_0_g5_3 := Nat.le_trans K_0.kept.1 z149
      replace B_g1 := kp_blk B_g1 hk (fun h => h)
      replace B_g5_1 := kp_blk B_g5_1 hk (fun h => h)
      replace B_g5_13 := kp_blk B_g5_13 hk (fun h => h)
      replace K_0 := K_0.then_ hk (fun _ h => h.elim)
      clear hk
      refine ⟨⟨B_g1, trivial⟩, ?_⟩
      exact dr5_13 g5_1 g5_13 g5_3 _ a (En.sub hE ⟨rfl, rfl, rfl, rfl, rfl, rfl, rfl, rfl, rfl, rfl, rfl, rfl, rfl, rfl, rfl, rfl, rfl, rfl, trivial⟩) B_g1 B_g5_1 B_g5_13 B_g5_3 n_g1_g5_1 n_g1_g5_13 n_g1_g5_3 n_g5_1_g5_13 n_g5_1_g5_3 n_g5_13_g5_3 z_0_g5_1 z_0_g5_13 z_0_g5_3 K_0
    refine all_cons (d_lit (listed' := #[true, true, true, false, false, true, true, true, false, true, true, true, true, true, false, false]) rfl ?_) ?_
    ·
      refine (s_row (xs := [(0, Operand.tmp 25)]) (vs := [(0, Value.int .i64 l)]) (cs := #[Value.int .i64 l]) p19_5_7 hE wn_none rfl Try.underlying62 rfl (by kernel_rfl) ?_)
      clear hE a; intro g5_7 w150 z151 B_g5_7 hk a hE
      have n_g1_g5_7 : g1 ≠ g5_7 := ne_new B_g1 z151
      have n_g5_1_g5_7 : g5_1 ≠ g5_7 := ne_new B_g5_1 z151
      have n_g5_13_g5_7 : g5_13 ≠ g5_7 := ne_new B_g5_13 z151
      have z_0_g5_7 := Nat.le_trans K_0.kept.1 z151
      replace B_g1 := kp_blk B_g1 hk (fun h => h)
      replace B_g5_1 := kp_blk B_g5_1 hk (fun h => h)
      replace B_g5_13 := kp_blk B_g5_13 hk (fun h => h)
      replace K_0 := K_0.then_ hk (fun _ h => h.elim)
      clear hk
      refine ⟨⟨B_g1, trivial⟩, ?_⟩
      exact dr5_14 g5_1 g5_13 g5_7 _ a (En.sub hE ⟨rfl, rfl, rfl, rfl, rfl, rfl, rfl, rfl, rfl, rfl, rfl, rfl, rfl, rfl, rfl, rfl, rfl, rfl, trivial⟩) B_g1 B_g5_7 B_g5_1 B_g5_13 n_g1_g5_1 n_g1_g5_13 n_g1_g5_7 n_g5_1_g5_13 n_g5_1_g5_7 n_g5_13_g5_7 z_0_g5_1 z_0_g5_13 z_0_g5_7 K_0
    exact all_nil
  have dr5_6 : ∀ (g5_13 : Nat) (g5_7 : Nat) (W : World) (a : Act), En 48 a [(0, Value.agg (([Value.int .i64 c, Value.int .i64 f, Value.int .i64 l, Value.int .i64 x, Value.int .i64 h] ++ b16 s ++ b16 d)).toArray), (1, Value.pointer (some ⟨g1, 0, none⟩)), (2, Value.slice none 0 0), (3, Value.int .i64 0), (4, Value.int .i64 0), (5, Value.int .i64 (((1536 + c) * 1048576) + f)), (10, Value.bool false), (19, Value.agg #[Value.slice none 0 0, Value.int .i64 0]), (21, Value.int .i64 (((1536 + c) * 1048576) + f)), (24, Value.pointer (some ⟨g1, 2, none⟩)), (25, Value.int .i64 l), (26, Value.slice (some ⟨g5_7, 0, none⟩) 1 1), (28, Value.pointer (some ⟨g1, 3, none⟩)), (29, Value.int .i64 x), (30, Value.pointer (some ⟨g1, 4, none⟩)), (31, Value.int .i64 h), (32, Value.slice (some ⟨g5_13, 0, none⟩) 2 2)] → W.heap[g1]? = some (.cells (([Value.int .i64 c, Value.int .i64 f, Value.int .i64 l, Value.int .i64 x, Value.int .i64 h] ++ b16 s ++ b16 d)).toArray 27 (0, 0)) → W.heap[g5_7]? = some (.cells #[Value.int .i64 l] 3 (0, 0)) → W.heap[g5_13]? = some (.cells #[Value.int .i64 x, Value.int .i64 h] 3 (0, 0)) → g1 ≠ g5_13 → g1 ≠ g5_7 → g5_13 ≠ g5_7 → w.heap.size ≤ g5_13 → w.heap.size ≤ g5_7 → Kp w W (fun _ => False) → wpAnyH Try.prog .any (regOf Try.f19 5) QQ (fun W => W.heap[g1]? = some (.cells (([Value.int .i64 c, Value.int .i64 f, Value.int .i64 l, Value.int .i64 x, Value.int .i64 h] ++ b16 s ++ b16 d)).toArray 27 (0, 0)) ∧ True) 6 #[true, false, true, false, false, true, true, true, false, true, true, true, true, true, false, false] a W := by
    intro g5_13 g5_7 w152 a hE B_g1 B_g5_7 B_g5_13 n_g1_g5_13 n_g1_g5_7 n_g5_13_g5_7 z_0_g5_13 z_0_g5_7 K_0
    refine d_all (rs := [1, 3]) (by kernel_rfl) rfl ?_
    refine all_cons (d_lit (listed' := #[true, true, true, false, false, true, true, true, false, true, true, true, true, true, false, false]) rfl ?_) ?_
    ·
      refine (s_box p19_5_1 hE wn_none rfl rfl ?_)
      clear hE a; intro g5_1 w153 z154 B_g5_1 hk a hE
      replace B_g5_1 : w153.heap[g5_1]? = some (.cells #[Value.slice none 0 0, Value.int .i64 0] 123 (0, 0)) := B_g5_1
      have n_g1_g5_1 : g1 ≠ g5_1 := ne_new B_g1 z154
      have n_g5_7_g5_1 : g5_7 ≠ g5_1 := ne_new B_g5_7 z154
      have n_g5_13_g5_1 : g5_13 ≠ g5_1 := ne_new B_g5_13 z154
      have z_0_g5_1 := Nat.le_trans K_0.kept.1 z154
      replace B_g1 := kp_blk B_g1 hk (fun h => h)
      replace B_g5_7 := kp_blk B_g5_7 hk (fun h => h)
      replace B_g5_13 := kp_blk B_g5_13 hk (fun h => h)
      replace K_0 := K_0.then_ hk (fun _ h => h.elim)
      clear hk
      refine ⟨⟨B_g1, trivial⟩, ?_⟩
      have n_g5_1_g5_13 := Ne.symm n_g5_13_g5_1
      have n_g5_1_g5_7 := Ne.symm n_g5_7_g5_1
      exact dr5_14 g5_1 g5_13 g5_7 _ a (En.sub hE ⟨rfl, rfl, rfl, rfl, rfl, rfl, rfl, rfl, rfl, rfl, rfl, rfl, rfl, rfl, rfl, rfl, rfl, rfl, trivial⟩) B_g1 B_g5_7 B_g5_1 B_g5_13 n_g1_g5_1 n_g1_g5_13 n_g1_g5_7 n_g5_1_g5_13 n_g5_1_g5_7 n_g5_13_g5_7 z_0_g5_1 z_0_g5_13 z_0_g5_7 K_0
    refine all_cons (d_lit (listed' := #[true, false, true, true, false, true, true, true, false, true, true, true, true, true, false, false]) rfl ?_) ?_
    ·
      refine (s_row (xs := [(0, Operand.tmp 21)]) (vs := [(0, Value.int .i64 (((1536 + c) * 1048576) + f))]) (cs := #[Value.int .i64 (((1536 + c) * 1048576) + f)]) p19_5_3 hE wn_none rfl Try.underlying62 rfl (by kernel_rfl) ?_)
      clear hE a; intro g5_3 w155 z156 B_g5_3 hk a hE
      have n_g1_g5_3 : g1 ≠ g5_3 := ne_new B_g1 z156
      have n_g5_7_g5_3 : g5_7 ≠ g5_3 := ne_new B_g5_7 z156
      have n_g5_13_g5_3 : g5_13 ≠ g5_3 := ne_new B_g5_13 z156
      have z_0_g5_3 := Nat.le_trans K_0.kept.1 z156
      replace B_g1 := kp_blk B_g1 hk (fun h => h)
      replace B_g5_7 := kp_blk B_g5_7 hk (fun h => h)
      replace B_g5_13 := kp_blk B_g5_13 hk (fun h => h)
      replace K_0 := K_0.then_ hk (fun _ h => h.elim)
      clear hk
      refine ⟨⟨B_g1, trivial⟩, ?_⟩
      have n_g5_3_g5_7 := Ne.symm n_g5_7_g5_3
      exact dr5_11 g5_13 g5_3 g5_7 _ a (En.sub hE ⟨rfl, rfl, rfl, rfl, rfl, rfl, rfl, rfl, rfl, rfl, rfl, rfl, rfl, rfl, rfl, rfl, rfl, rfl, trivial⟩) B_g1 B_g5_7 B_g5_13 B_g5_3 n_g1_g5_13 n_g1_g5_3 n_g1_g5_7 n_g5_13_g5_3 n_g5_13_g5_7 n_g5_3_g5_7 z_0_g5_13 z_0_g5_3 z_0_g5_7 K_0
    exact all_nil
  have dr5_5 : ∀ (g5_1 : Nat) (g5_7 : Nat) (W : World) (a : Act), En 48 a [(0, Value.agg (([Value.int .i64 c, Value.int .i64 f, Value.int .i64 l, Value.int .i64 x, Value.int .i64 h] ++ b16 s ++ b16 d)).toArray), (1, Value.pointer (some ⟨g1, 0, none⟩)), (2, Value.slice none 0 0), (3, Value.int .i64 0), (4, Value.int .i64 0), (5, Value.int .i64 (((1536 + c) * 1048576) + f)), (10, Value.bool false), (19, Value.agg #[Value.slice none 0 0, Value.int .i64 0]), (20, Value.pointer (some ⟨g5_1, 0, none⟩)), (21, Value.int .i64 (((1536 + c) * 1048576) + f)), (24, Value.pointer (some ⟨g1, 2, none⟩)), (25, Value.int .i64 l), (26, Value.slice (some ⟨g5_7, 0, none⟩) 1 1), (28, Value.pointer (some ⟨g1, 3, none⟩)), (29, Value.int .i64 x), (30, Value.pointer (some ⟨g1, 4, none⟩)), (31, Value.int .i64 h)] → W.heap[g1]? = some (.cells (([Value.int .i64 c, Value.int .i64 f, Value.int .i64 l, Value.int .i64 x, Value.int .i64 h] ++ b16 s ++ b16 d)).toArray 27 (0, 0)) → W.heap[g5_7]? = some (.cells #[Value.int .i64 l] 3 (0, 0)) → W.heap[g5_1]? = some (.cells #[Value.slice none 0 0, Value.int .i64 0] 123 (0, 0)) → g1 ≠ g5_1 → g1 ≠ g5_7 → g5_1 ≠ g5_7 → w.heap.size ≤ g5_1 → w.heap.size ≤ g5_7 → Kp w W (fun _ => False) → wpAnyH Try.prog .any (regOf Try.f19 5) QQ (fun W => W.heap[g1]? = some (.cells (([Value.int .i64 c, Value.int .i64 f, Value.int .i64 l, Value.int .i64 x, Value.int .i64 h] ++ b16 s ++ b16 d)).toArray 27 (0, 0)) ∧ True) 6 #[true, true, true, false, false, true, true, true, false, true, true, true, true, false, false, false] a W := by
    intro g5_1 g5_7 w157 a hE B_g1 B_g5_7 B_g5_1 n_g1_g5_1 n_g1_g5_7 n_g5_1_g5_7 z_0_g5_1 z_0_g5_7 K_0
    refine d_all (rs := [3, 13]) (by kernel_rfl) rfl ?_
    refine all_cons (d_lit (listed' := #[true, true, true, true, false, true, true, true, false, true, true, true, true, false, false, false]) rfl ?_) ?_
    ·
      refine (s_row (xs := [(0, Operand.tmp 21)]) (vs := [(0, Value.int .i64 (((1536 + c) * 1048576) + f))]) (cs := #[Value.int .i64 (((1536 + c) * 1048576) + f)]) p19_5_3 hE wn_none rfl Try.underlying62 rfl (by kernel_rfl) ?_)
      clear hE a; intro g5_3 w158 z159 B_g5_3 hk a hE
      have n_g1_g5_3 : g1 ≠ g5_3 := ne_new B_g1 z159
      have n_g5_7_g5_3 : g5_7 ≠ g5_3 := ne_new B_g5_7 z159
      have n_g5_1_g5_3 : g5_1 ≠ g5_3 := ne_new B_g5_1 z159
      have z_0_g5_3 := Nat.le_trans K_0.kept.1 z159
      replace B_g1 := kp_blk B_g1 hk (fun h => h)
      replace B_g5_7 := kp_blk B_g5_7 hk (fun h => h)
      replace B_g5_1 := kp_blk B_g5_1 hk (fun h => h)
      replace K_0 := K_0.then_ hk (fun _ h => h.elim)
      clear hk
      refine ⟨⟨B_g1, trivial⟩, ?_⟩
      have n_g5_3_g5_7 := Ne.symm n_g5_7_g5_3
      exact dr5_15 g5_1 g5_3 g5_7 _ a (En.sub hE ⟨rfl, rfl, rfl, rfl, rfl, rfl, rfl, rfl, rfl, rfl, rfl, rfl, rfl, rfl, rfl, rfl, rfl, rfl, trivial⟩) B_g1 B_g5_7 B_g5_1 B_g5_3 n_g1_g5_1 n_g1_g5_3 n_g1_g5_7 n_g5_1_g5_3 n_g5_1_g5_7 n_g5_3_g5_7 z_0_g5_1 z_0_g5_3 z_0_g5_7 K_0
    refine all_cons (d_lit (listed' := #[true, true, true, false, false, true, true, true, false, true, true, true, true, true, false, false]) rfl ?_) ?_
    ·
      refine (s_row (xs := [(0, Operand.tmp 29), (1, Operand.tmp 31)]) (vs := [(0, Value.int .i64 x), (1, Value.int .i64 h)]) (cs := #[Value.int .i64 x, Value.int .i64 h]) p19_5_13 hE wn_none rfl Try.underlying62 rfl (by kernel_rfl) ?_)
      clear hE a; intro g5_13 w160 z161 B_g5_13 hk a hE
      have n_g1_g5_13 : g1 ≠ g5_13 := ne_new B_g1 z161
      have n_g5_7_g5_13 : g5_7 ≠ g5_13 := ne_new B_g5_7 z161
      have n_g5_1_g5_13 : g5_1 ≠ g5_13 := ne_new B_g5_1 z161
      have z_0_g5_13 := Nat.le_trans K_0.kept.1 z161
      replace B_g1 := kp_blk B_g1 hk (fun h => h)
      replace B_g5_7 := kp_blk B_g5_7 hk (fun h => h)
      replace B_g5_1 := kp_blk B_g5_1 hk (fun h => h)
      replace K_0 := K_0.then_ hk (fun _ h => h.elim)
      clear hk
      refine ⟨⟨B_g1, trivial⟩, ?_⟩
      have n_g5_13_g5_7 := Ne.symm n_g5_7_g5_13
      exact dr5_14 g5_1 g5_13 g5_7 _ a (En.sub hE ⟨rfl, rfl, rfl, rfl, rfl, rfl, rfl, rfl, rfl, rfl, rfl, rfl, rfl, rfl, rfl, rfl, rfl, rfl, trivial⟩) B_g1 B_g5_7 B_g5_1 B_g5_13 n_g1_g5_1 n_g1_g5_13 n_g1_g5_7 n_g5_1_g5_13 n_g5_1_g5_7 n_g5_13_g5_7 z_0_g5_1 z_0_g5_13 z_0_g5_7 K_0
    exact all_nil
  have dr5_4 : ∀ (g5_13 : Nat) (W : World) (a : Act), En 48 a [(0, Value.agg (([Value.int .i64 c, Value.int .i64 f, Value.int .i64 l, Value.int .i64 x, Value.int .i64 h] ++ b16 s ++ b16 d)).toArray), (1, Value.pointer (some ⟨g1, 0, none⟩)), (2, Value.slice none 0 0), (3, Value.int .i64 0), (4, Value.int .i64 0), (5, Value.int .i64 (((1536 + c) * 1048576) + f)), (10, Value.bool false), (19, Value.agg #[Value.slice none 0 0, Value.int .i64 0]), (21, Value.int .i64 (((1536 + c) * 1048576) + f)), (24, Value.pointer (some ⟨g1, 2, none⟩)), (25, Value.int .i64 l), (28, Value.pointer (some ⟨g1, 3, none⟩)), (29, Value.int .i64 x), (30, Value.pointer (some ⟨g1, 4, none⟩)), (31, Value.int .i64 h), (32, Value.slice (some ⟨g5_13, 0, none⟩) 2 2)] → W.heap[g1]? = some (.cells (([Value.int .i64 c, Value.int .i64 f, Value.int .i64 l, Value.int .i64 x, Value.int .i64 h] ++ b16 s ++ b16 d)).toArray 27 (0, 0)) → W.heap[g5_13]? = some (.cells #[Value.int .i64 x, Value.int .i64 h] 3 (0, 0)) → g1 ≠ g5_13 → w.heap.size ≤ g5_13 → Kp w W (fun _ => False) → wpAnyH Try.prog .any (regOf Try.f19 5) QQ (fun W => W.heap[g1]? = some (.cells (([Value.int .i64 c, Value.int .i64 f, Value.int .i64 l, Value.int .i64 x, Value.int .i64 h] ++ b16 s ++ b16 d)).toArray 27 (0, 0)) ∧ True) 7 #[true, false, true, false, false, true, true, false, false, true, true, true, true, true, false, false] a W := by
    intro g5_13 w162 a hE B_g1 B_g5_13 n_g1_g5_13 z_0_g5_13 K_0
    refine d_all (rs := [1, 3, 7]) (by kernel_rfl) rfl ?_
    refine all_cons (d_lit (listed' := #[true, true, true, false, false, true, true, false, false, true, true, true, true, true, false, false]) rfl ?_) ?_
    ·
      refine (s_box p19_5_1 hE wn_none rfl rfl ?_)
      clear hE a; intro g5_1 w163 z164 B_g5_1 hk a hE
      replace B_g5_1 : w163.heap[g5_1]? = some (.cells #[Value.slice none 0 0, Value.int .i64 0] 123 (0, 0)) := B_g5_1
      have n_g1_g5_1 : g1 ≠ g5_1 := ne_new B_g1 z164
      have n_g5_13_g5_1 : g5_13 ≠ g5_1 := ne_new B_g5_13 z164
      have z_0_g5_1 := Nat.le_trans K_0.kept.1 z164
      replace B_g1 := kp_blk B_g1 hk (fun h => h)
      replace B_g5_13 := kp_blk B_g5_13 hk (fun h => h)
      replace K_0 := K_0.then_ hk (fun _ h => h.elim)
      clear hk
      refine ⟨⟨B_g1, trivial⟩, ?_⟩
      have n_g5_1_g5_13 := Ne.symm n_g5_13_g5_1
      exact dr5_7 g5_1 g5_13 _ a (En.sub hE ⟨rfl, rfl, rfl, rfl, rfl, rfl, rfl, rfl, rfl, rfl, rfl, rfl, rfl, rfl, rfl, rfl, rfl, trivial⟩) B_g1 B_g5_1 B_g5_13 n_g1_g5_1 n_g1_g5_13 n_g5_1_g5_13 z_0_g5_1 z_0_g5_13 K_0
    refine all_cons (d_lit (listed' := #[true, false, true, true, false, true, true, false, false, true, true, true, true, true, false, false]) rfl ?_) ?_
    ·
      refine (s_row (xs := [(0, Operand.tmp 21)]) (vs := [(0, Value.int .i64 (((1536 + c) * 1048576) + f))]) (cs := #[Value.int .i64 (((1536 + c) * 1048576) + f)]) p19_5_3 hE wn_none rfl Try.underlying62 rfl (by kernel_rfl) ?_)
      clear hE a; intro g5_3 w165 z166 B_g5_3 hk a hE
      have n_g1_g5_3 : g1 ≠ g5_3 := ne_new B_g1 z166
      have n_g5_13_g5_3 : g5_13 ≠ g5_3 := ne_new B_g5_13 z166
      have z_0_g5_3 := Nat.le_trans K_0.kept.1 z166
      replace B_g1 := kp_blk B_g1 hk (fun h => h)
      replace B_g5_13 := kp_blk B_g5_13 hk (fun h => h)
      replace K_0 := K_0.then_ hk (fun _ h => h.elim)
      clear hk
      refine ⟨⟨B_g1, trivial⟩, ?_⟩
      exact dr5_9 g5_13 g5_3 _ a (En.sub hE ⟨rfl, rfl, rfl, rfl, rfl, rfl, rfl, rfl, rfl, rfl, rfl, rfl, rfl, rfl, rfl, rfl, rfl, trivial⟩) B_g1 B_g5_3 B_g5_13 n_g1_g5_13 n_g1_g5_3 n_g5_13_g5_3 z_0_g5_13 z_0_g5_3 K_0
    refine all_cons (d_lit (listed' := #[true, false, true, false, false, true, true, true, false, true, true, true, true, true, false, false]) rfl ?_) ?_
    ·
      refine (s_row (xs := [(0, Operand.tmp 25)]) (vs := [(0, Value.int .i64 l)]) (cs := #[Value.int .i64 l]) p19_5_7 hE wn_none rfl Try.underlying62 rfl (by kernel_rfl) ?_)
      clear hE a; intro g5_7 w167 z168 B_g5_7 hk a hE
      have n_g1_g5_7 : g1 ≠ g5_7 := ne_new B_g1 z168
      have n_g5_13_g5_7 : g5_13 ≠ g5_7 := ne_new B_g5_13 z168
      have z_0_g5_7 := Nat.le_trans K_0.kept.1 z168
      replace B_g1 := kp_blk B_g1 hk (fun h => h)
      replace B_g5_13 := kp_blk B_g5_13 hk (fun h => h)
      replace K_0 := K_0.then_ hk (fun _ h => h.elim)
      clear hk
      refine ⟨⟨B_g1, trivial⟩, ?_⟩
      exact dr5_6 g5_13 g5_7 _ a (En.sub hE ⟨rfl, rfl, rfl, rfl, rfl, rfl, rfl, rfl, rfl, rfl, rfl, rfl, rfl, rfl, rfl, rfl, rfl, trivial⟩) B_g1 B_g5_7 B_g5_13 n_g1_g5_13 n_g1_g5_7 n_g5_13_g5_7 z_0_g5_13 z_0_g5_7 K_0
    exact all_nil
  have dr5_3 : ∀ (g5_1 : Nat) (W : World) (a : Act), En 48 a [(0, Value.agg (([Value.int .i64 c, Value.int .i64 f, Value.int .i64 l, Value.int .i64 x, Value.int .i64 h] ++ b16 s ++ b16 d)).toArray), (1, Value.pointer (some ⟨g1, 0, none⟩)), (2, Value.slice none 0 0), (3, Value.int .i64 0), (4, Value.int .i64 0), (5, Value.int .i64 (((1536 + c) * 1048576) + f)), (10, Value.bool false), (19, Value.agg #[Value.slice none 0 0, Value.int .i64 0]), (20, Value.pointer (some ⟨g5_1, 0, none⟩)), (21, Value.int .i64 (((1536 + c) * 1048576) + f)), (24, Value.pointer (some ⟨g1, 2, none⟩)), (25, Value.int .i64 l), (28, Value.pointer (some ⟨g1, 3, none⟩)), (29, Value.int .i64 x), (30, Value.pointer (some ⟨g1, 4, none⟩)), (31, Value.int .i64 h)] → W.heap[g1]? = some (.cells (([Value.int .i64 c, Value.int .i64 f, Value.int .i64 l, Value.int .i64 x, Value.int .i64 h] ++ b16 s ++ b16 d)).toArray 27 (0, 0)) → W.heap[g5_1]? = some (.cells #[Value.slice none 0 0, Value.int .i64 0] 123 (0, 0)) → g1 ≠ g5_1 → w.heap.size ≤ g5_1 → Kp w W (fun _ => False) → wpAnyH Try.prog .any (regOf Try.f19 5) QQ (fun W => W.heap[g1]? = some (.cells (([Value.int .i64 c, Value.int .i64 f, Value.int .i64 l, Value.int .i64 x, Value.int .i64 h] ++ b16 s ++ b16 d)).toArray 27 (0, 0)) ∧ True) 7 #[true, true, true, false, false, true, true, false, false, true, true, true, true, false, false, false] a W := by
    intro g5_1 w169 a hE B_g1 B_g5_1 n_g1_g5_1 z_0_g5_1 K_0
    refine d_all (rs := [3, 7, 13]) (by kernel_rfl) rfl ?_
    refine all_cons (d_lit (listed' := #[true, true, true, true, false, true, true, false, false, true, true, true, true, false, false, false]) rfl ?_) ?_
    ·
      refine (s_row (xs := [(0, Operand.tmp 21)]) (vs := [(0, Value.int .i64 (((1536 + c) * 1048576) + f))]) (cs := #[Value.int .i64 (((1536 + c) * 1048576) + f)]) p19_5_3 hE wn_none rfl Try.underlying62 rfl (by kernel_rfl) ?_)
      clear hE a; intro g5_3 w170 z171 B_g5_3 hk a hE
      have n_g1_g5_3 : g1 ≠ g5_3 := ne_new B_g1 z171
      have n_g5_1_g5_3 : g5_1 ≠ g5_3 := ne_new B_g5_1 z171
      have z_0_g5_3 := Nat.le_trans K_0.kept.1 z171
      replace B_g1 := kp_blk B_g1 hk (fun h => h)
      replace B_g5_1 := kp_blk B_g5_1 hk (fun h => h)
      replace K_0 := K_0.then_ hk (fun _ h => h.elim)
      clear hk
      refine ⟨⟨B_g1, trivial⟩, ?_⟩
      exact dr5_8 g5_1 g5_3 _ a (En.sub hE ⟨rfl, rfl, rfl, rfl, rfl, rfl, rfl, rfl, rfl, rfl, rfl, rfl, rfl, rfl, rfl, rfl, rfl, trivial⟩) B_g1 B_g5_3 B_g5_1 n_g1_g5_1 n_g1_g5_3 n_g5_1_g5_3 z_0_g5_1 z_0_g5_3 K_0
    refine all_cons (d_lit (listed' := #[true, true, true, false, false, true, true, true, false, true, true, true, true, false, false, false]) rfl ?_) ?_
    ·
      refine (s_row (xs := [(0, Operand.tmp 25)]) (vs := [(0, Value.int .i64 l)]) (cs := #[Value.int .i64 l]) p19_5_7 hE wn_none rfl Try.underlying62 rfl (by kernel_rfl) ?_)
      clear hE a; intro g5_7 w172 z173 B_g5_7 hk a hE
      have n_g1_g5_7 : g1 ≠ g5_7 := ne_new B_g1 z173
      have n_g5_1_g5_7 : g5_1 ≠ g5_7 := ne_new B_g5_1 z173
      have z_0_g5_7 := Nat.le_trans K_0.kept.1 z173
      replace B_g1 := kp_blk B_g1 hk (fun h => h)
      replace B_g5_1 := kp_blk B_g5_1 hk (fun h => h)
      replace K_0 := K_0.then_ hk (fun _ h => h.elim)
      clear hk
      refine ⟨⟨B_g1, trivial⟩, ?_⟩
      exact dr5_5 g5_1 g5_7 _ a (En.sub hE ⟨rfl, rfl, rfl, rfl, rfl, rfl, rfl, rfl, rfl, rfl, rfl, rfl, rfl, rfl, rfl, rfl, rfl, trivial⟩) B_g1 B_g5_7 B_g5_1 n_g1_g5_1 n_g1_g5_7 n_g5_1_g5_7 z_0_g5_1 z_0_g5_7 K_0
    refine all_cons (d_lit (listed' := #[true, true, true, false, false, true, true, false, false, true, true, true, true, true, false, false]) rfl ?_) ?_
    ·
      refine (s_row (xs := [(0, Operand.tmp 29), (1, Operand.tmp 31)]) (vs := [(0, Value.int .i64 x), (1, Value.int .i64 h)]) (cs := #[Value.int .i64 x, Value.int .i64 h]) p19_5_13 hE wn_none rfl Try.underlying62 rfl (by kernel_rfl) ?_)
      clear hE a; intro g5_13 w174 z175 B_g5_13 hk a hE
      have n_g1_g5_13 : g1 ≠ g5_13 := ne_new B_g1 z175
      have n_g5_1_g5_13 : g5_1 ≠ g5_13 := ne_new B_g5_1 z175
      have z_0_g5_13 := Nat.le_trans K_0.kept.1 z175
      replace B_g1 := kp_blk B_g1 hk (fun h => h)
      replace B_g5_1 := kp_blk B_g5_1 hk (fun h => h)
      replace K_0 := K_0.then_ hk (fun _ h => h.elim)
      clear hk
      refine ⟨⟨B_g1, trivial⟩, ?_⟩
      exact dr5_7 g5_1 g5_13 _ a (En.sub hE ⟨rfl, rfl, rfl, rfl, rfl, rfl, rfl, rfl, rfl, rfl, rfl, rfl, rfl, rfl, rfl, rfl, rfl, trivial⟩) B_g1 B_g5_1 B_g5_13 n_g1_g5_1 n_g1_g5_13 n_g5_1_g5_13 z_0_g5_1 z_0_g5_13 K_0
    exact all_nil
  have dr5_2 : ∀ (g5_7 : Nat) (W : World) (a : Act), En 48 a [(0, Value.agg (([Value.int .i64 c, Value.int .i64 f, Value.int .i64 l, Value.int .i64 x, Value.int .i64 h] ++ b16 s ++ b16 d)).toArray), (1, Value.pointer (some ⟨g1, 0, none⟩)), (2, Value.slice none 0 0), (3, Value.int .i64 0), (4, Value.int .i64 0), (5, Value.int .i64 (((1536 + c) * 1048576) + f)), (10, Value.bool false), (19, Value.agg #[Value.slice none 0 0, Value.int .i64 0]), (21, Value.int .i64 (((1536 + c) * 1048576) + f)), (24, Value.pointer (some ⟨g1, 2, none⟩)), (25, Value.int .i64 l), (26, Value.slice (some ⟨g5_7, 0, none⟩) 1 1), (28, Value.pointer (some ⟨g1, 3, none⟩)), (29, Value.int .i64 x), (30, Value.pointer (some ⟨g1, 4, none⟩)), (31, Value.int .i64 h)] → W.heap[g1]? = some (.cells (([Value.int .i64 c, Value.int .i64 f, Value.int .i64 l, Value.int .i64 x, Value.int .i64 h] ++ b16 s ++ b16 d)).toArray 27 (0, 0)) → W.heap[g5_7]? = some (.cells #[Value.int .i64 l] 3 (0, 0)) → g1 ≠ g5_7 → w.heap.size ≤ g5_7 → Kp w W (fun _ => False) → wpAnyH Try.prog .any (regOf Try.f19 5) QQ (fun W => W.heap[g1]? = some (.cells (([Value.int .i64 c, Value.int .i64 f, Value.int .i64 l, Value.int .i64 x, Value.int .i64 h] ++ b16 s ++ b16 d)).toArray 27 (0, 0)) ∧ True) 7 #[true, false, true, false, false, true, true, true, false, true, true, true, true, false, false, false] a W := by
    intro g5_7 w176 a hE B_g1 B_g5_7 n_g1_g5_7 z_0_g5_7 K_0
    refine d_all (rs := [1, 3, 13]) (by kernel_rfl) rfl ?_
    refine all_cons (d_lit (listed' := #[true, true, true, false, false, true, true, true, false, true, true, true, true, false, false, false]) rfl ?_) ?_
    ·
      refine (s_box p19_5_1 hE wn_none rfl rfl ?_)
      clear hE a; intro g5_1 w177 z178 B_g5_1 hk a hE
      replace B_g5_1 : w177.heap[g5_1]? = some (.cells #[Value.slice none 0 0, Value.int .i64 0] 123 (0, 0)) := B_g5_1
      have n_g1_g5_1 : g1 ≠ g5_1 := ne_new B_g1 z178
      have n_g5_7_g5_1 : g5_7 ≠ g5_1 := ne_new B_g5_7 z178
      have z_0_g5_1 := Nat.le_trans K_0.kept.1 z178
      replace B_g1 := kp_blk B_g1 hk (fun h => h)
      replace B_g5_7 := kp_blk B_g5_7 hk (fun h => h)
      replace K_0 := K_0.then_ hk (fun _ h => h.elim)
      clear hk
      refine ⟨⟨B_g1, trivial⟩, ?_⟩
      have n_g5_1_g5_7 := Ne.symm n_g5_7_g5_1
      exact dr5_5 g5_1 g5_7 _ a (En.sub hE ⟨rfl, rfl, rfl, rfl, rfl, rfl, rfl, rfl, rfl, rfl, rfl, rfl, rfl, rfl, rfl, rfl, rfl, trivial⟩) B_g1 B_g5_7 B_g5_1 n_g1_g5_1 n_g1_g5_7 n_g5_1_g5_7 z_0_g5_1 z_0_g5_7 K_0
    refine all_cons (d_lit (listed' := #[true, false, true, true, false, true, true, true, false, true, true, true, true, false, false, false]) rfl ?_) ?_
    ·
      refine (s_row (xs := [(0, Operand.tmp 21)]) (vs := [(0, Value.int .i64 (((1536 + c) * 1048576) + f))]) (cs := #[Value.int .i64 (((1536 + c) * 1048576) + f)]) p19_5_3 hE wn_none rfl Try.underlying62 rfl (by kernel_rfl) ?_)
      clear hE a; intro g5_3 w179 z180 B_g5_3 hk a hE
      have n_g1_g5_3 : g1 ≠ g5_3 := ne_new B_g1 z180
      have n_g5_7_g5_3 : g5_7 ≠ g5_3 := ne_new B_g5_7 z180
      have z_0_g5_3 := Nat.le_trans K_0.kept.1 z180
      replace B_g1 := kp_blk B_g1 hk (fun h => h)
      replace B_g5_7 := kp_blk B_g5_7 hk (fun h => h)
      replace K_0 := K_0.then_ hk (fun _ h => h.elim)
      clear hk
      refine ⟨⟨B_g1, trivial⟩, ?_⟩
      have n_g5_3_g5_7 := Ne.symm n_g5_7_g5_3
      exact dr5_10 g5_3 g5_7 _ a (En.sub hE ⟨rfl, rfl, rfl, rfl, rfl, rfl, rfl, rfl, rfl, rfl, rfl, rfl, rfl, rfl, rfl, rfl, rfl, trivial⟩) B_g1 B_g5_3 B_g5_7 n_g1_g5_3 n_g1_g5_7 n_g5_3_g5_7 z_0_g5_3 z_0_g5_7 K_0
    refine all_cons (d_lit (listed' := #[true, false, true, false, false, true, true, true, false, true, true, true, true, true, false, false]) rfl ?_) ?_
    ·
      refine (s_row (xs := [(0, Operand.tmp 29), (1, Operand.tmp 31)]) (vs := [(0, Value.int .i64 x), (1, Value.int .i64 h)]) (cs := #[Value.int .i64 x, Value.int .i64 h]) p19_5_13 hE wn_none rfl Try.underlying62 rfl (by kernel_rfl) ?_)
      clear hE a; intro g5_13 w181 z182 B_g5_13 hk a hE
      have n_g1_g5_13 : g1 ≠ g5_13 := ne_new B_g1 z182
      have n_g5_7_g5_13 : g5_7 ≠ g5_13 := ne_new B_g5_7 z182
      have z_0_g5_13 := Nat.le_trans K_0.kept.1 z182
      replace B_g1 := kp_blk B_g1 hk (fun h => h)
      replace B_g5_7 := kp_blk B_g5_7 hk (fun h => h)
      replace K_0 := K_0.then_ hk (fun _ h => h.elim)
      clear hk
      refine ⟨⟨B_g1, trivial⟩, ?_⟩
      have n_g5_13_g5_7 := Ne.symm n_g5_7_g5_13
      exact dr5_6 g5_13 g5_7 _ a (En.sub hE ⟨rfl, rfl, rfl, rfl, rfl, rfl, rfl, rfl, rfl, rfl, rfl, rfl, rfl, rfl, rfl, rfl, rfl, trivial⟩) B_g1 B_g5_7 B_g5_13 n_g1_g5_13 n_g1_g5_7 n_g5_13_g5_7 z_0_g5_13 z_0_g5_7 K_0
    exact all_nil
  have dr5_1 : ∀ (g5_3 : Nat) (W : World) (a : Act), En 48 a [(0, Value.agg (([Value.int .i64 c, Value.int .i64 f, Value.int .i64 l, Value.int .i64 x, Value.int .i64 h] ++ b16 s ++ b16 d)).toArray), (1, Value.pointer (some ⟨g1, 0, none⟩)), (2, Value.slice none 0 0), (3, Value.int .i64 0), (4, Value.int .i64 0), (5, Value.int .i64 (((1536 + c) * 1048576) + f)), (10, Value.bool false), (19, Value.agg #[Value.slice none 0 0, Value.int .i64 0]), (21, Value.int .i64 (((1536 + c) * 1048576) + f)), (22, Value.slice (some ⟨g5_3, 0, none⟩) 1 1), (24, Value.pointer (some ⟨g1, 2, none⟩)), (25, Value.int .i64 l), (28, Value.pointer (some ⟨g1, 3, none⟩)), (29, Value.int .i64 x), (30, Value.pointer (some ⟨g1, 4, none⟩)), (31, Value.int .i64 h)] → W.heap[g1]? = some (.cells (([Value.int .i64 c, Value.int .i64 f, Value.int .i64 l, Value.int .i64 x, Value.int .i64 h] ++ b16 s ++ b16 d)).toArray 27 (0, 0)) → W.heap[g5_3]? = some (.cells #[Value.int .i64 (((1536 + c) * 1048576) + f)] 3 (0, 0)) → g1 ≠ g5_3 → w.heap.size ≤ g5_3 → Kp w W (fun _ => False) → wpAnyH Try.prog .any (regOf Try.f19 5) QQ (fun W => W.heap[g1]? = some (.cells (([Value.int .i64 c, Value.int .i64 f, Value.int .i64 l, Value.int .i64 x, Value.int .i64 h] ++ b16 s ++ b16 d)).toArray 27 (0, 0)) ∧ True) 7 #[true, false, true, true, false, true, true, false, false, true, true, true, true, false, false, false] a W := by
    intro g5_3 w183 a hE B_g1 B_g5_3 n_g1_g5_3 z_0_g5_3 K_0
    refine d_all (rs := [1, 7, 13]) (by kernel_rfl) rfl ?_
    refine all_cons (d_lit (listed' := #[true, true, true, true, false, true, true, false, false, true, true, true, true, false, false, false]) rfl ?_) ?_
    ·
      refine (s_box p19_5_1 hE wn_none rfl rfl ?_)
      clear hE a; intro g5_1 w184 z185 B_g5_1 hk a hE
      replace B_g5_1 : w184.heap[g5_1]? = some (.cells #[Value.slice none 0 0, Value.int .i64 0] 123 (0, 0)) := B_g5_1
      have n_g1_g5_1 : g1 ≠ g5_1 := ne_new B_g1 z185
      have n_g5_3_g5_1 : g5_3 ≠ g5_1 := ne_new B_g5_3 z185
      have z_0_g5_1 := Nat.le_trans K_0.kept.1 z185
      replace B_g1 := kp_blk B_g1 hk (fun h => h)
      replace B_g5_3 := kp_blk B_g5_3 hk (fun h => h)
      replace K_0 := K_0.then_ hk (fun _ h => h.elim)
      clear hk
      refine ⟨⟨B_g1, trivial⟩, ?_⟩
      have n_g5_1_g5_3 := Ne.symm n_g5_3_g5_1
      exact dr5_8 g5_1 g5_3 _ a (En.sub hE ⟨rfl, rfl, rfl, rfl, rfl, rfl, rfl, rfl, rfl, rfl, rfl, rfl, rfl, rfl, rfl, rfl, rfl, trivial⟩) B_g1 B_g5_3 B_g5_1 n_g1_g5_1 n_g1_g5_3 n_g5_1_g5_3 z_0_g5_1 z_0_g5_3 K_0
    refine all_cons (d_lit (listed' := #[true, false, true, true, false, true, true, true, false, true, true, true, true, false, false, false]) rfl ?_) ?_
    ·
      refine (s_row (xs := [(0, Operand.tmp 25)]) (vs := [(0, Value.int .i64 l)]) (cs := #[Value.int .i64 l]) p19_5_7 hE wn_none rfl Try.underlying62 rfl (by kernel_rfl) ?_)
      clear hE a; intro g5_7 w186 z187 B_g5_7 hk a hE
      have n_g1_g5_7 : g1 ≠ g5_7 := ne_new B_g1 z187
      have n_g5_3_g5_7 : g5_3 ≠ g5_7 := ne_new B_g5_3 z187
      have z_0_g5_7 := Nat.le_trans K_0.kept.1 z187
      replace B_g1 := kp_blk B_g1 hk (fun h => h)
      replace B_g5_3 := kp_blk B_g5_3 hk (fun h => h)
      replace K_0 := K_0.then_ hk (fun _ h => h.elim)
      clear hk
      refine ⟨⟨B_g1, trivial⟩, ?_⟩
      exact dr5_10 g5_3 g5_7 _ a (En.sub hE ⟨rfl, rfl, rfl, rfl, rfl, rfl, rfl, rfl, rfl, rfl, rfl, rfl, rfl, rfl, rfl, rfl, rfl, trivial⟩) B_g1 B_g5_3 B_g5_7 n_g1_g5_3 n_g1_g5_7 n_g5_3_g5_7 z_0_g5_3 z_0_g5_7 K_0
    refine all_cons (d_lit (listed' := #[true, false, true, true, false, true, true, false, false, true, true, true, true, true, false, false]) rfl ?_) ?_
    ·
      refine (s_row (xs := [(0, Operand.tmp 29), (1, Operand.tmp 31)]) (vs := [(0, Value.int .i64 x), (1, Value.int .i64 h)]) (cs := #[Value.int .i64 x, Value.int .i64 h]) p19_5_13 hE wn_none rfl Try.underlying62 rfl (by kernel_rfl) ?_)
      clear hE a; intro g5_13 w188 z189 B_g5_13 hk a hE
      have n_g1_g5_13 : g1 ≠ g5_13 := ne_new B_g1 z189
      have n_g5_3_g5_13 : g5_3 ≠ g5_13 := ne_new B_g5_3 z189
      have z_0_g5_13 := Nat.le_trans K_0.kept.1 z189
      replace B_g1 := kp_blk B_g1 hk (fun h => h)
      replace B_g5_3 := kp_blk B_g5_3 hk (fun h => h)
      replace K_0 := K_0.then_ hk (fun _ h => h.elim)
      clear hk
      refine ⟨⟨B_g1, trivial⟩, ?_⟩
      have n_g5_13_g5_3 := Ne.symm n_g5_3_g5_13
      exact dr5_9 g5_13 g5_3 _ a (En.sub hE ⟨rfl, rfl, rfl, rfl, rfl, rfl, rfl, rfl, rfl, rfl, rfl, rfl, rfl, rfl, rfl, rfl, rfl, trivial⟩) B_g1 B_g5_3 B_g5_13 n_g1_g5_13 n_g1_g5_3 n_g5_13_g5_3 z_0_g5_13 z_0_g5_3 K_0
    exact all_nil
  have dr5_0 : ∀ (W : World) (a : Act), En 48 a [(0, Value.agg (([Value.int .i64 c, Value.int .i64 f, Value.int .i64 l, Value.int .i64 x, Value.int .i64 h] ++ b16 s ++ b16 d)).toArray), (1, Value.pointer (some ⟨g1, 0, none⟩)), (2, Value.slice none 0 0), (3, Value.int .i64 0), (4, Value.int .i64 0), (5, Value.int .i64 (((1536 + c) * 1048576) + f)), (10, Value.bool false), (19, Value.agg #[Value.slice none 0 0, Value.int .i64 0]), (21, Value.int .i64 (((1536 + c) * 1048576) + f)), (24, Value.pointer (some ⟨g1, 2, none⟩)), (25, Value.int .i64 l), (28, Value.pointer (some ⟨g1, 3, none⟩)), (29, Value.int .i64 x), (30, Value.pointer (some ⟨g1, 4, none⟩)), (31, Value.int .i64 h)] → W.heap[g1]? = some (.cells (([Value.int .i64 c, Value.int .i64 f, Value.int .i64 l, Value.int .i64 x, Value.int .i64 h] ++ b16 s ++ b16 d)).toArray 27 (0, 0)) → Kp w W (fun _ => False) → wpAnyH Try.prog .any (regOf Try.f19 5) QQ (fun W => W.heap[g1]? = some (.cells (([Value.int .i64 c, Value.int .i64 f, Value.int .i64 l, Value.int .i64 x, Value.int .i64 h] ++ b16 s ++ b16 d)).toArray 27 (0, 0)) ∧ True) 8 #[true, false, true, false, false, true, true, false, false, true, true, true, true, false, false, false] a W := by
    intro w190 a hE B_g1 K_0
    refine d_all (rs := [1, 3, 7, 13]) (by kernel_rfl) rfl ?_
    refine all_cons (d_lit (listed' := #[true, true, true, false, false, true, true, false, false, true, true, true, true, false, false, false]) rfl ?_) ?_
    ·
      refine (s_box p19_5_1 hE wn_none rfl rfl ?_)
      clear hE a; intro g5_1 w191 z192 B_g5_1 hk a hE
      replace B_g5_1 : w191.heap[g5_1]? = some (.cells #[Value.slice none 0 0, Value.int .i64 0] 123 (0, 0)) := B_g5_1
      have n_g1_g5_1 : g1 ≠ g5_1 := ne_new B_g1 z192
      have z_0_g5_1 := Nat.le_trans K_0.kept.1 z192
      replace B_g1 := kp_blk B_g1 hk (fun h => h)
      replace K_0 := K_0.then_ hk (fun _ h => h.elim)
      clear hk
      refine ⟨⟨B_g1, trivial⟩, ?_⟩
      exact dr5_3 g5_1 _ a (En.sub hE ⟨rfl, rfl, rfl, rfl, rfl, rfl, rfl, rfl, rfl, rfl, rfl, rfl, rfl, rfl, rfl, rfl, trivial⟩) B_g1 B_g5_1 n_g1_g5_1 z_0_g5_1 K_0
    refine all_cons (d_lit (listed' := #[true, false, true, true, false, true, true, false, false, true, true, true, true, false, false, false]) rfl ?_) ?_
    ·
      refine (s_row (xs := [(0, Operand.tmp 21)]) (vs := [(0, Value.int .i64 (((1536 + c) * 1048576) + f))]) (cs := #[Value.int .i64 (((1536 + c) * 1048576) + f)]) p19_5_3 hE wn_none rfl Try.underlying62 rfl (by kernel_rfl) ?_)
      clear hE a; intro g5_3 w193 z194 B_g5_3 hk a hE
      have n_g1_g5_3 : g1 ≠ g5_3 := ne_new B_g1 z194
      have z_0_g5_3 := Nat.le_trans K_0.kept.1 z194
      replace B_g1 := kp_blk B_g1 hk (fun h => h)
      replace K_0 := K_0.then_ hk (fun _ h => h.elim)
      clear hk
      refine ⟨⟨B_g1, trivial⟩, ?_⟩
      exact dr5_1 g5_3 _ a (En.sub hE ⟨rfl, rfl, rfl, rfl, rfl, rfl, rfl, rfl, rfl, rfl, rfl, rfl, rfl, rfl, rfl, rfl, trivial⟩) B_g1 B_g5_3 n_g1_g5_3 z_0_g5_3 K_0
    refine all_cons (d_lit (listed' := #[true, false, true, false, false, true, true, true, false, true, true, true, true, false, false, false]) rfl ?_) ?_
    ·
      refine (s_row (xs := [(0, Operand.tmp 25)]) (vs := [(0, Value.int .i64 l)]) (cs := #[Value.int .i64 l]) p19_5_7 hE wn_none rfl Try.underlying62 rfl (by kernel_rfl) ?_)
      clear hE a; intro g5_7 w195 z196 B_g5_7 hk a hE
      have n_g1_g5_7 : g1 ≠ g5_7 := ne_new B_g1 z196
      have z_0_g5_7 := Nat.le_trans K_0.kept.1 z196
      replace B_g1 := kp_blk B_g1 hk (fun h => h)
      replace K_0 := K_0.then_ hk (fun _ h => h.elim)
      clear hk
      refine ⟨⟨B_g1, trivial⟩, ?_⟩
      exact dr5_2 g5_7 _ a (En.sub hE ⟨rfl, rfl, rfl, rfl, rfl, rfl, rfl, rfl, rfl, rfl, rfl, rfl, rfl, rfl, rfl, rfl, trivial⟩) B_g1 B_g5_7 n_g1_g5_7 z_0_g5_7 K_0
    refine all_cons (d_lit (listed' := #[true, false, true, false, false, true, true, false, false, true, true, true, true, true, false, false]) rfl ?_) ?_
    ·
      refine (s_row (xs := [(0, Operand.tmp 29), (1, Operand.tmp 31)]) (vs := [(0, Value.int .i64 x), (1, Value.int .i64 h)]) (cs := #[Value.int .i64 x, Value.int .i64 h]) p19_5_13 hE wn_none rfl Try.underlying62 rfl (by kernel_rfl) ?_)
      clear hE a; intro g5_13 w197 z198 B_g5_13 hk a hE
      have n_g1_g5_13 : g1 ≠ g5_13 := ne_new B_g1 z198
      have z_0_g5_13 := Nat.le_trans K_0.kept.1 z198
      replace B_g1 := kp_blk B_g1 hk (fun h => h)
      replace K_0 := K_0.then_ hk (fun _ h => h.elim)
      clear hk
      refine ⟨⟨B_g1, trivial⟩, ?_⟩
      exact dr5_4 g5_13 _ a (En.sub hE ⟨rfl, rfl, rfl, rfl, rfl, rfl, rfl, rfl, rfl, rfl, rfl, rfl, rfl, rfl, rfl, rfl, trivial⟩) B_g1 B_g5_13 n_g1_g5_13 z_0_g5_13 K_0
    exact all_nil
  intro w5 hh hk
  replace B_g1 := kp_blk B_g1 hk (fun h => h)
  replace K_0 := K_0.then_ hk (fun _ h => h.elim)
  clear hh hk
  refine d_take (v := Value.agg #[Value.slice none 0 0, Value.int .i64 0]) p19_5_0 ns19_5 (by kernel_rfl) (by kernel_rfl) (fun c a w h => hQ c a _ _ w h) hE wn_none rfl ⟨B_g1, trivial⟩ (fun W hS => (st_build (xs := []) (vs := []) (cs := #[Value.slice none 0 0, Value.int .i64 0]) rfl (by kernel_rfl))) (listed' := #[true, false, false, false, false, false, false, false, false, false, false, false, false, false, false, false]) rfl ?_
  clear hE a; intro a hE
  refine d_take (v := Value.int .i64 (((1536 + c) * 1048576) + f)) p19_5_2 ns19_5 (by kernel_rfl) (by kernel_rfl) (fun c a w h => hQ c a _ _ w h) hE wn_none rfl ⟨B_g1, trivial⟩ (fun W hS => (st_move rfl)) (listed' := #[true, false, true, false, false, false, false, false, false, false, false, false, false, false, false, false]) rfl ?_
  clear hE a; intro a hE
  refine d_take (v := Value.pointer (some ⟨g1, 2, none⟩)) p19_5_5 ns19_5 (by kernel_rfl) (by kernel_rfl) (fun c a w h => hQ c a _ _ w h) hE wn_none rfl ⟨B_g1, trivial⟩ (fun W hS => (st_fieldAddr Try.underlying27 rfl tS3 rfl rfl)) (listed' := #[true, false, true, false, false, true, false, false, false, false, false, false, false, false, false, false]) rfl ?_
  clear hE a; intro a hE
  refine d_take (v := Value.int .i64 l) p19_5_6 ns19_5 (by kernel_rfl) (by kernel_rfl) (fun c a w h => hQ c a _ _ w h) hE wn_none rfl ⟨B_g1, trivial⟩ (fun W hS => (st_load1 tA3 rfl ((blk_cell hS.1 2).trans rfl))) (listed' := #[true, false, true, false, false, true, true, false, false, false, false, false, false, false, false, false]) rfl ?_
  clear hE a; intro a hE
  refine d_take (v := Value.pointer (some ⟨g1, 3, none⟩)) p19_5_9 ns19_5 (by kernel_rfl) (by kernel_rfl) (fun c a w h => hQ c a _ _ w h) hE wn_none rfl ⟨B_g1, trivial⟩ (fun W hS => (st_fieldAddr Try.underlying27 rfl tS3 rfl rfl)) (listed' := #[true, false, true, false, false, true, true, false, false, true, false, false, false, false, false, false]) rfl ?_
  clear hE a; intro a hE
  refine d_take (v := Value.int .i64 x) p19_5_10 ns19_5 (by kernel_rfl) (by kernel_rfl) (fun c a w h => hQ c a _ _ w h) hE wn_none rfl ⟨B_g1, trivial⟩ (fun W hS => (st_load1 tA3 rfl ((blk_cell hS.1 3).trans rfl))) (listed' := #[true, false, true, false, false, true, true, false, false, true, true, false, false, false, false, false]) rfl ?_
  clear hE a; intro a hE
  refine d_take (v := Value.pointer (some ⟨g1, 4, none⟩)) p19_5_11 ns19_5 (by kernel_rfl) (by kernel_rfl) (fun c a w h => hQ c a _ _ w h) hE wn_none rfl ⟨B_g1, trivial⟩ (fun W hS => (st_fieldAddr Try.underlying27 rfl tS3 rfl rfl)) (listed' := #[true, false, true, false, false, true, true, false, false, true, true, true, false, false, false, false]) rfl ?_
  clear hE a; intro a hE
  refine d_take (v := Value.int .i64 h) p19_5_12 ns19_5 (by kernel_rfl) (by kernel_rfl) (fun c a w h => hQ c a _ _ w h) hE wn_none rfl ⟨B_g1, trivial⟩ (fun W hS => (st_load1 tA3 rfl ((blk_cell hS.1 4).trans rfl))) (listed' := #[true, false, true, false, false, true, true, false, false, true, true, true, true, false, false, false]) rfl ?_
  clear hE a; intro a hE
  exact dr5_0 _ a (En.sub hE ⟨rfl, rfl, rfl, rfl, rfl, rfl, rfl, rfl, rfl, rfl, rfl, rfl, rfl, rfl, rfl, trivial⟩) B_g1 K_0
theorem R17_0_l : List.range (regOf Try.f17 0).size = [0] := by kernel_rfl
theorem R17_1_l : List.range (regOf Try.f17 1).size = [0, 1, 2, 3, 4, 5, 6] := by kernel_rfl
theorem R17_2_l : List.range (regOf Try.f17 2).size = [0, 1, 2, 3, 4, 5, 6, 7] := by kernel_rfl
theorem R17_3_l : List.range (regOf Try.f17 3).size = [0, 1, 2, 3, 4, 5, 6, 7, 8, 9, 10, 11, 12, 13, 14, 15, 16, 17] := by kernel_rfl
theorem body17 : Try.f17.body = some (.seq (.region 0 (regOf Try.f17 0) false) (.seq (.region 1 (regOf Try.f17 1) false) (.seq (.region 2 (regOf Try.f17 2) false) (.seq (.region 3 (regOf Try.f17 3) false) (.ret))))) := by kernel_rfl
theorem p17_0_0 : pj (regOf Try.f17 0) 0 = some (some 0, Op.assign (Operand.const (Value.bool false)), 4, none) := by kernel_rfl
theorem p17_1_0 : pj (regOf Try.f17 1) 0 = some (some 6, Op.build 27 #[(0, Operand.const (Value.int IntKind.i64 1)), (1, Operand.const (Value.int IntKind.i64 2))], 27, none) := by kernel_rfl
theorem p17_1_1 : pj (regOf Try.f17 1) 1 = some (some 7, Op.call { callee := Callee.value (Operand.func 19), args := #[Operand.tmp 6], argTypes := #[27] }, 37, none) := by kernel_rfl
theorem cl19 : callable Try.f19 = true := by kernel_rfl
theorem p17_1_2 : pj (regOf Try.f17 1) 2 = some (some 5, Op.move (Operand.tmp 7), 37, none) := by kernel_rfl
theorem p17_1_3 : pj (regOf Try.f17 1) 3 = some (some 8, Op.extract (Operand.tmp 5) 0, 36, none) := by kernel_rfl
theorem p17_1_4 : pj (regOf Try.f17 1) 4 = some (some 9, Op.extract (Operand.tmp 5) 1, 29, none) := by kernel_rfl
theorem p17_1_5 : pj (regOf Try.f17 1) 5 = some (some 1, Op.assign (Operand.tmp 8), 36, none) := by kernel_rfl
theorem p17_1_6 : pj (regOf Try.f17 1) 6 = some (some 2, Op.assign (Operand.tmp 9), 29, none) := by kernel_rfl
theorem p17_2_0 : pj (regOf Try.f17 2) 0 = some (some 11, Op.build 27 #[(4, Operand.const (Value.int IntKind.i64 1))], 27, none) := by kernel_rfl
theorem p17_2_1 : pj (regOf Try.f17 2) 1 = some (some 12, Op.call { callee := Callee.value (Operand.func 18), args := #[Operand.tmp 11], argTypes := #[27] }, 32, none) := by kernel_rfl
theorem cl18 : callable Try.f18 = true := by kernel_rfl
theorem p17_2_2 : pj (regOf Try.f17 2) 2 = some (some 10, Op.move (Operand.tmp 12), 32, none) := by kernel_rfl
theorem p17_2_3 : pj (regOf Try.f17 2) 3 = some (some 13, Op.extract (Operand.tmp 10) 0, 27, none) := by kernel_rfl
theorem p17_2_4 : pj (regOf Try.f17 2) 4 = some (some 14, Op.extract (Operand.tmp 10) 1, 29, none) := by kernel_rfl
theorem p17_2_5 : pj (regOf Try.f17 2) 5 = some (some 3, Op.alloc 27, 0, none) := by kernel_rfl
theorem p17_2_6 : pj (regOf Try.f17 2) 6 = some (none, Op.store 27 (Operand.tmp 3) (Operand.tmp 13), 0, none) := by kernel_rfl
theorem p17_2_7 : pj (regOf Try.f17 2) 7 = some (some 4, Op.assign (Operand.tmp 14), 29, none) := by kernel_rfl
theorem p17_3_0 : pj (regOf Try.f17 3) 0 = some (some 15, Op.move (Operand.tmp 2), 29, none) := by kernel_rfl
theorem p17_3_1 : pj (regOf Try.f17 3) 1 = some (some 16, Op.binOp BinOp.eql 29 (Operand.tmp 15) (Operand.const (Value.int IntKind.i64 0)) 29, 4, none) := by kernel_rfl
theorem p17_3_2 : pj (regOf Try.f17 3) 2 = some (some 17, Op.move (Operand.tmp 16), 4, none) := by kernel_rfl
theorem p17_3_3 : pj (regOf Try.f17 3) 3 = some (some 18, Op.move (Operand.tmp 1), 36, some (2, true)) := by kernel_rfl
theorem g17_3_2 : dstOf (regOf Try.f17 3) 2 = some 17 := by kernel_rfl
theorem p17_3_4 : pj (regOf Try.f17 3) 4 = some (some 19, Op.call { callee := Callee.builtin Builtin.len, args := #[Operand.tmp 18], argTypes := #[36] }, 3, some (2, true)) := by kernel_rfl
theorem p17_3_5 : pj (regOf Try.f17 3) 5 = some (some 20, Op.binOp BinOp.eql 3 (Operand.tmp 19) (Operand.const (Value.int IntKind.i64 40)) 3, 4, some (2, true)) := by kernel_rfl
theorem p17_3_6 : pj (regOf Try.f17 3) 6 = some (some 21, Op.pick (Operand.tmp 17) (Operand.tmp 20) (Operand.const (Value.bool false)), 4, none) := by kernel_rfl
theorem p17_3_7 : pj (regOf Try.f17 3) 7 = some (some 22, Op.move (Operand.tmp 21), 4, none) := by kernel_rfl
theorem p17_3_8 : pj (regOf Try.f17 3) 8 = some (some 23, Op.move (Operand.tmp 1), 36, some (7, true)) := by kernel_rfl
theorem g17_3_7 : dstOf (regOf Try.f17 3) 7 = some 22 := by kernel_rfl
theorem p17_3_9 : pj (regOf Try.f17 3) 9 = some (some 24, Op.slice 36 (Operand.tmp 23) none (some (Operand.const (Value.int IntKind.i64 4))) none, 36, some (7, true)) := by kernel_rfl
theorem p17_3_10 : pj (regOf Try.f17 3) 10 = some (some 25, Op.buildSlice 36 4 #[(0, Operand.const (Value.int IntKind.u8 96)), (1, Operand.const (Value.int IntKind.u8 16)), (2, Operand.const (Value.int IntKind.u8 0)), (3, Operand.const (Value.int IntKind.u8 2))], 36, some (7, true)) := by kernel_rfl
theorem p17_3_11 : pj (regOf Try.f17 3) 11 = some (some 26, Op.call { callee := Callee.value (Operand.func 21), args := #[Operand.tmp 24, Operand.tmp 25], argTypes := #[36, 36] }, 4, some (7, true)) := by kernel_rfl
theorem cl21 : callable Try.f21 = true := by kernel_rfl
theorem p17_3_12 : pj (regOf Try.f17 3) 12 = some (some 27, Op.pick (Operand.tmp 22) (Operand.tmp 26) (Operand.const (Value.bool false)), 4, none) := by kernel_rfl
theorem p17_3_13 : pj (regOf Try.f17 3) 13 = some (some 28, Op.move (Operand.tmp 27), 4, none) := by kernel_rfl
theorem p17_3_14 : pj (regOf Try.f17 3) 14 = some (some 29, Op.move (Operand.tmp 4), 29, some (13, true)) := by kernel_rfl
theorem g17_3_13 : dstOf (regOf Try.f17 3) 13 = some 28 := by kernel_rfl
theorem p17_3_15 : pj (regOf Try.f17 3) 15 = some (some 30, Op.binOp BinOp.eql 29 (Operand.tmp 29) (Operand.const (Value.int IntKind.i64 12)) 29, 4, some (13, true)) := by kernel_rfl
theorem p17_3_16 : pj (regOf Try.f17 3) 16 = some (some 31, Op.pick (Operand.tmp 28) (Operand.tmp 30) (Operand.const (Value.bool false)), 4, none) := by kernel_rfl
theorem p17_3_17 : pj (regOf Try.f17 3) 17 = some (some 0, Op.assign (Operand.tmp 31), 4, none) := by kernel_rfl
set_option maxHeartbeats 4000000 in
theorem known_any (w : World) : Calls Try.prog 17 #[] w fun e w' => e = .returned (.bool true) ∧ Kp w w' (fun _ => False) := by
  have K_0 := Kp.refl w (fun _ => False)
  refine enter (args := []) (n := 32) Try.func17 body17 rfl rfl rfl ?_
  intro a hE
  refine c_reg R17_0_l ?_
  refine p_cons (s_still p17_0_0 hE wn_none rfl (st_assign rfl) ?_)
  clear hE a; intro a hE
  refine p_nil ?_
  refine x_norm ?_
  refine c_reg R17_1_l ?_
  refine p_cons (s_still p17_1_0 hE wn_none rfl (st_build (xs := [(0, Operand.const (Value.int IntKind.i64 1)), (1, Operand.const (Value.int IntKind.i64 2))]) (vs := [(0, Value.int .i64 1), (1, Value.int .i64 2)]) (cs := #[Value.int .i64 1, Value.int .i64 2, Value.int .i64 0, Value.int .i64 0, Value.int .i64 0, Value.int .u8 0, Value.int .u8 0, Value.int .u8 0, Value.int .u8 0, Value.int .u8 0, Value.int .u8 0, Value.int .u8 0, Value.int .u8 0, Value.int .u8 0, Value.int .u8 0, Value.int .u8 0, Value.int .u8 0, Value.int .u8 0, Value.int .u8 0, Value.int .u8 0, Value.int .u8 0, Value.int .u8 0, Value.int .u8 0, Value.int .u8 0, Value.int .u8 0, Value.int .u8 0, Value.int .u8 0, Value.int .u8 0, Value.int .u8 0, Value.int .u8 0, Value.int .u8 0, Value.int .u8 0, Value.int .u8 0, Value.int .u8 0, Value.int .u8 0, Value.int .u8 0, Value.int .u8 0]) rfl (by kernel_rfl)) ?_)
  clear hE a; intro a hE
  have hnz_0 := K_0.kept.1
  refine p_cons (s_call (xs := [Operand.tmp 6]) (args := [Value.agg #[Value.int .i64 1, Value.int .i64 2, Value.int .i64 0, Value.int .i64 0, Value.int .i64 0, Value.int .u8 0, Value.int .u8 0, Value.int .u8 0, Value.int .u8 0, Value.int .u8 0, Value.int .u8 0, Value.int .u8 0, Value.int .u8 0, Value.int .u8 0, Value.int .u8 0, Value.int .u8 0, Value.int .u8 0, Value.int .u8 0, Value.int .u8 0, Value.int .u8 0, Value.int .u8 0, Value.int .u8 0, Value.int .u8 0, Value.int .u8 0, Value.int .u8 0, Value.int .u8 0, Value.int .u8 0, Value.int .u8 0, Value.int .u8 0, Value.int .u8 0, Value.int .u8 0, Value.int .u8 0, Value.int .u8 0, Value.int .u8 0, Value.int .u8 0, Value.int .u8 0, Value.int .u8 0]]) p17_1_1 hE wn_none rfl rfl Try.func19 cl19 (enc_ok 1 2 0 0 0 (fun _ => 0) (fun _ => 0) (by decide) _) ?_)
  rintro e w4 ⟨A2, c3, rfl, O_q1, hk⟩
  replace K_0 := K_0.then_ hk (fun _ h => h.elim)
  have Z_0_q1 : ∀ k, OB A2 k → (fun _ => False) k ∨ w.heap.size ≤ k := fun k h => .inr (by have := (own_ob O_q1 h).1; have := hnz_0; omega)
  replace O_q1 := own_lower O_q1 hnz_0
  refine ⟨_, rfl, ?_⟩
  clear hE a; intro a hE
  refine p_cons (s_still p17_1_2 hE wn_none rfl (st_move rfl) ?_)
  clear hE a; intro a hE
  refine p_cons (s_still p17_1_3 hE wn_none rfl (st_extract rfl rfl) ?_)
  clear hE a; intro a hE
  refine p_cons (s_still p17_1_4 hE wn_none rfl (st_extract rfl rfl) ?_)
  clear hE a; intro a hE
  refine p_cons (s_still p17_1_5 hE wn_none rfl (st_assign rfl) ?_)
  clear hE a; intro a hE
  refine p_cons (s_still p17_1_6 hE wn_none rfl (st_assign rfl) ?_)
  clear hE a; intro a hE
  refine p_nil ?_
  refine x_norm ?_
  refine c_reg R17_2_l ?_
  refine p_cons (s_still p17_2_0 hE wn_none rfl (st_build (xs := [(4, Operand.const (Value.int IntKind.i64 1))]) (vs := [(4, Value.int .i64 1)]) (cs := #[Value.int .i64 0, Value.int .i64 0, Value.int .i64 0, Value.int .i64 0, Value.int .i64 1, Value.int .u8 0, Value.int .u8 0, Value.int .u8 0, Value.int .u8 0, Value.int .u8 0, Value.int .u8 0, Value.int .u8 0, Value.int .u8 0, Value.int .u8 0, Value.int .u8 0, Value.int .u8 0, Value.int .u8 0, Value.int .u8 0, Value.int .u8 0, Value.int .u8 0, Value.int .u8 0, Value.int .u8 0, Value.int .u8 0, Value.int .u8 0, Value.int .u8 0, Value.int .u8 0, Value.int .u8 0, Value.int .u8 0, Value.int .u8 0, Value.int .u8 0, Value.int .u8 0, Value.int .u8 0, Value.int .u8 0, Value.int .u8 0, Value.int .u8 0, Value.int .u8 0, Value.int .u8 0]) rfl (by kernel_rfl)) ?_)
  clear hE a; intro a hE
  refine p_cons (s_call (xs := [Operand.tmp 11]) (args := [Value.agg #[Value.int .i64 0, Value.int .i64 0, Value.int .i64 0, Value.int .i64 0, Value.int .i64 1, Value.int .u8 0, Value.int .u8 0, Value.int .u8 0, Value.int .u8 0, Value.int .u8 0, Value.int .u8 0, Value.int .u8 0, Value.int .u8 0, Value.int .u8 0, Value.int .u8 0, Value.int .u8 0, Value.int .u8 0, Value.int .u8 0, Value.int .u8 0, Value.int .u8 0, Value.int .u8 0, Value.int .u8 0, Value.int .u8 0, Value.int .u8 0, Value.int .u8 0, Value.int .u8 0, Value.int .u8 0, Value.int .u8 0, Value.int .u8 0, Value.int .u8 0, Value.int .u8 0, Value.int .u8 0, Value.int .u8 0, Value.int .u8 0, Value.int .u8 0, Value.int .u8 0, Value.int .u8 0]]) p17_2_1 hE wn_none rfl rfl Try.func18 cl18 (passed_low 0 0 0 0 1 (fun _ => 0) (fun _ => 0) (by decide) (by decide) _) ?_)
  rintro e w5 ⟨rfl, hk⟩
  replace O_q1 := own_keep O_q1 hk (fun _ _ h => h)
  replace K_0 := K_0.then_ hk (fun _ h => h.elim)
  refine ⟨_, rfl, ?_⟩
  clear hE a; intro a hE
  refine p_cons (s_still p17_2_2 hE wn_none rfl (st_move rfl) ?_)
  clear hE a; intro a hE
  refine p_cons (s_still p17_2_3 hE wn_none rfl (st_extract rfl rfl) ?_)
  clear hE a; intro a hE
  refine p_cons (s_still p17_2_4 hE wn_none rfl (st_extract rfl rfl) ?_)
  clear hE a; intro a hE
  refine p_cons (s_alloc p17_2_5 hE wn_none rfl tZ27 ?_)
  clear hE a; intro g6 w7 z8 B_g6 hk a hE
  replace B_g6 : w7.heap[g6]? = some (.cells #[Value.int .i64 0, Value.int .i64 0, Value.int .i64 0, Value.int .i64 0, Value.int .i64 0, Value.int .u8 0, Value.int .u8 0, Value.int .u8 0, Value.int .u8 0, Value.int .u8 0, Value.int .u8 0, Value.int .u8 0, Value.int .u8 0, Value.int .u8 0, Value.int .u8 0, Value.int .u8 0, Value.int .u8 0, Value.int .u8 0, Value.int .u8 0, Value.int .u8 0, Value.int .u8 0, Value.int .u8 0, Value.int .u8 0, Value.int .u8 0, Value.int .u8 0, Value.int .u8 0, Value.int .u8 0, Value.int .u8 0, Value.int .u8 0, Value.int .u8 0, Value.int .u8 0, Value.int .u8 0, Value.int .u8 0, Value.int .u8 0, Value.int .u8 0, Value.int .u8 0, Value.int .u8 0] 27 (0, 0)) := B_g6
  have z_0_g6 := Nat.le_trans K_0.kept.1 z8
  have Nb_q1_g6 : ¬ OB A2 g6 := fun h => by have := (own_ob O_q1 h).2; omega
  replace O_q1 := own_keep O_q1 hk (fun _ _ h => h)
  replace K_0 := K_0.then_ hk (fun _ h => h.elim)
  clear hk
  refine p_cons (s_store (off := 0) (k := 37) (cs' := #[Value.int .i64 0, Value.int .i64 0, Value.int .i64 0, Value.int .i64 0, Value.int .i64 0, Value.int .u8 0, Value.int .u8 0, Value.int .u8 0, Value.int .u8 0, Value.int .u8 0, Value.int .u8 0, Value.int .u8 0, Value.int .u8 0, Value.int .u8 0, Value.int .u8 0, Value.int .u8 0, Value.int .u8 0, Value.int .u8 0, Value.int .u8 0, Value.int .u8 0, Value.int .u8 0, Value.int .u8 0, Value.int .u8 0, Value.int .u8 0, Value.int .u8 0, Value.int .u8 0, Value.int .u8 0, Value.int .u8 0, Value.int .u8 0, Value.int .u8 0, Value.int .u8 0, Value.int .u8 0, Value.int .u8 0, Value.int .u8 0, Value.int .u8 0, Value.int .u8 0, Value.int .u8 0]) p17_2_6 hE wn_none tS27 rfl rfl rfl rfl B_g6 (Nat.le_of_ble_eq_true rfl) rfl ?_)
  intro w9 B_g6' hk
  replace O_q1 := own_keep O_q1 hk (fun k hk2 h2 => Nb_q1_g6 (by rw [show k = g6 from h2] at hk2; exact hk2))
  replace K_0 := K_0.then_ hk (fun k h => by rw [show k = g6 from h]; exact Or.inr z_0_g6)
  replace B_g6 := B_g6'
  clear hk
  refine p_cons (s_still p17_2_7 hE wn_none rfl (st_assign rfl) ?_)
  clear hE a; intro a hE
  refine p_nil ?_
  refine x_norm ?_
  refine c_reg R17_3_l ?_
  refine p_cons (s_still p17_3_0 hE wn_none rfl (st_move rfl) ?_)
  clear hE a; intro a hE
  refine p_cons (s_still p17_3_1 hE wn_none rfl (st_eql (b := true) rfl rfl (by decide)) ?_)
  clear hE a; intro a hE
  refine p_cons (s_still p17_3_2 hE wn_none rfl (st_move rfl) ?_)
  clear hE a; intro a hE
  refine p_cons (s_still p17_3_3 hE (wn_some g17_3_2 rfl rfl) rfl (st_move rfl) ?_)
  clear hE a; intro a hE
  refine p_cons (s_still p17_3_4 hE (wn_some g17_3_2 rfl rfl) rfl (st_len Try.underlying36 rfl) ?_)
  clear hE a; intro a hE
  refine p_cons (s_still p17_3_5 hE (wn_some g17_3_2 rfl rfl) rfl (st_eql (b := true) rfl rfl (by decide)) ?_)
  clear hE a; intro a hE
  refine p_cons (s_still p17_3_6 hE wn_none rfl (st_pick rfl rfl) ?_)
  clear hE a; intro a hE
  refine p_cons (s_still p17_3_7 hE wn_none rfl (st_move rfl) ?_)
  clear hE a; intro a hE
  refine p_cons (s_still p17_3_8 hE (wn_some g17_3_7 rfl rfl) rfl (st_move rfl) ?_)
  clear hE a; intro a hE
  refine p_cons (s_still p17_3_9 hE (wn_some g17_3_7 rfl rfl) rfl (st_sliceH (h := 4) Try.underlying36 tS5 rfl rfl (by have := (own_caps O_q1).1; omega)) ?_)
  clear hE a; intro a hE
  refine p_cons (s_row (xs := [(0, Operand.const (Value.int IntKind.u8 96)), (1, Operand.const (Value.int IntKind.u8 16)), (2, Operand.const (Value.int IntKind.u8 0)), (3, Operand.const (Value.int IntKind.u8 2))]) (vs := [(0, Value.int .u8 96), (1, Value.int .u8 16), (2, Value.int .u8 0), (3, Value.int .u8 2)]) (cs := #[Value.int .u8 96, Value.int .u8 16, Value.int .u8 0, Value.int .u8 2]) p17_3_10 hE (wn_some g17_3_7 rfl rfl) rfl Try.underlying36 rfl (by kernel_rfl) ?_)
  clear hE a; intro g10 w11 z12 B_g10 hk a hE
  have n_g6_g10 : g6 ≠ g10 := ne_new B_g6 z12
  have z_0_g10 := Nat.le_trans K_0.kept.1 z12
  have Nb_q1_g10 : ¬ OB A2 g10 := fun h => by have := (own_ob O_q1 h).2; omega
  replace B_g6 := kp_blk B_g6 hk (fun h => h)
  replace O_q1 := own_keep O_q1 hk (fun _ _ h => h)
  replace K_0 := K_0.then_ hk (fun _ h => h.elim)
  clear hk
  refine p_cons (s_call (xs := [Operand.tmp 24, Operand.tmp 25]) (args := [Value.slice A2 4 c3, Value.slice (some ⟨g10, 0, none⟩) 4 4]) p17_3_11 hE (wn_some g17_3_7 rfl rfl) rfl rfl Try.func21 cl21 (Go.Proofs.Ytndiddfleidnaaa.Pk.same_any A2 (some ⟨g10, 0, none⟩) c3 4 ((encF 1 2 0 0 0 (fun _ => 0) (fun _ => 0)).take 4) ([96, 16, 0, 2]) true (by decide +kernel) _ (Go.Proofs.Ytndiddfleidnaaa.Pk.C_take (own_told O_q1) (Nat.le_of_ble_eq_true rfl)) (by have := (own_caps O_q1).1; exact Nat.le_trans (Nat.le_of_ble_eq_true rfl) this) (C_blk (k := .u8) (l := [96, 16, 0, 2]) B_g10 ⟨rfl, Nat.le_of_ble_eq_true rfl⟩ rfl) (Nat.le_of_ble_eq_true rfl) (Nat.le_of_ble_eq_true rfl)) ?_)
  rintro e w13 ⟨rfl, hn⟩
  have hk := kp_n hn (fun _ => False)
  replace B_g6 := kp_blk B_g6 hk (fun h => h)
  replace B_g10 := kp_blk B_g10 hk (fun h => h)
  replace O_q1 := own_keep O_q1 hk (fun _ _ h => h)
  replace K_0 := K_0.then_ hk (fun _ h => h.elim)
  refine ⟨_, rfl, ?_⟩
  clear hE a; intro a hE
  refine p_cons (s_still p17_3_12 hE wn_none rfl (st_pick rfl rfl) ?_)
  clear hE a; intro a hE
  refine p_cons (s_still p17_3_13 hE wn_none rfl (st_move rfl) ?_)
  clear hE a; intro a hE
  refine p_cons (s_still p17_3_14 hE (wn_some g17_3_13 rfl rfl) rfl (st_move rfl) ?_)
  clear hE a; intro a hE
  refine p_cons (s_still p17_3_15 hE (wn_some g17_3_13 rfl rfl) rfl (st_eql (b := true) rfl rfl (by decide)) ?_)
  clear hE a; intro a hE
  refine p_cons (s_still p17_3_16 hE wn_none rfl (st_pick rfl rfl) ?_)
  clear hE a; intro a hE
  refine p_cons (s_still p17_3_17 hE wn_none rfl (st_assign rfl) ?_)
  clear hE a; intro a hE
  refine p_nil ?_
  refine x_norm ?_
  refine wp_ret ?_
  refine ret_one (v := Value.bool true) rfl hE (.tmp rfl .nil) ?_
  exact ⟨rfl, K_0⟩
end Go.Proofs.Ytndiddfleidnaaa.Hd
