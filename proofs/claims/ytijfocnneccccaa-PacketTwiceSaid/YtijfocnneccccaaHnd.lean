/- Package packet: the steps. -/
import Derived.Test.YtijfocnneccccaaRtx
set_option maxRecDepth 100000
set_option linter.unusedVariables false
set_option linter.unusedSimpArgs false
namespace Go.Proofs.Ytijfocnneccccaa.Hk
open Go.RowKit Go.Proofs.YtijfocnneccccaaW.PrintWords Go.Proofs.Ytijfocnneccccaa.Ds Go.Proofs.Ytijfocnneccccaa.Ad Go.Proofs.Ytijfocnneccccaa.Hd Go.Proofs.Ytijfocnneccccaa.Hw Go.Proofs.Ytijfocnneccccaa.Hp Go.Proofs.Ytijfocnneccccaa.Dg Go.Proofs.Ytijfocnneccccaa.Rx
open Go.Proofs.Ytijfocnneccccaa.Pk (Kp fitsF spanF putF digF fits_any put_ok)
open Go.Proofs.Ytijfocnneccccaa.Mi (st_eqlP MapI)
def RA (kd nx9 : Int) (cl fw ln nx hp : Int) (sa da : Nat → Int) (dt : Bool) (mv : Nat → Value) (dn wr fa : Bool) (ins rk num : Int) (T : Option Addr) (n c : Nat) (wg : Bool) : List Value := ([Value.int .i64 kd, Value.int .i64 nx9, Value.int .i64 cl, Value.int .i64 fw, Value.int .i64 ln, Value.int .i64 nx, Value.int .i64 hp] ++ b16 sa ++ b16 da ++ [Value.bool dt] ++ rN mv ++ [Value.bool dn, Value.bool wr, Value.bool fa, Value.int .i64 ins, Value.int .i64 rk, Value.int .i64 num, Value.slice T n c, Value.bool wg])
def HA (cl fw ln nx hp : Int) (sa da : Nat → Int) (dt : Bool) (mv : Nat → Value) (dn wr fa : Bool) (ins rk num : Int) (T : Option Addr) (n c : Nat) (nd pf : Int) (rt : Bool) (RV : Value) (tg came own least : Int) (wg : Bool) : List Value := ([Value.int .i64 cl, Value.int .i64 fw, Value.int .i64 ln, Value.int .i64 nx, Value.int .i64 hp] ++ b16 sa ++ b16 da ++ [Value.bool dt] ++ rN mv ++ [Value.bool dn, Value.bool wr, Value.bool fa, Value.int .i64 ins, Value.int .i64 rk, Value.int .i64 num, Value.slice T n c, Value.int .i64 nd, Value.int .i64 pf, Value.bool rt, RV, Value.int .i64 tg, Value.int .i64 came, Value.int .i64 own, Value.int .i64 least, Value.int .i64 0, Value.int .i64 0, Value.int .i64 0, Value.int .i64 0, Value.int .i64 0, Value.int .i64 0, Value.int .i64 0] ++ b16 (fun _ => 0) ++ b16 (fun _ => 0) ++ [Value.bool false, Value.int .i64 0, Value.int .i64 0, Value.int .i64 0, Value.int .i64 0, Value.int .i64 0, Value.int .i64 0, Value.int .i64 0, Value.int .i64 0, Value.int .i64 0, Value.bool false, Value.bool false] ++ b16 (fun _ => 0) ++ [Value.slice none 0 0, Value.bool false, Value.bool false, Value.bool false, Value.int .i64 0, Value.int .i64 0, Value.int .i64 0, Value.slice none 0 0, Value.bool wg, Value.bool false])
def HB (cl fw ln nx hp : Int) (sa da : Nat → Int) (dt : Bool) (mv : Nat → Value) (dn wr fa : Bool) (ins rk num : Int) (T : Option Addr) (n c : Nat) (nd pf : Int) (rt : Bool) (RV : Value) (tg came own least kd nx9 : Int) (wg : Bool) : List Value := ([Value.int .i64 cl, Value.int .i64 fw, Value.int .i64 ln, Value.int .i64 nx, Value.int .i64 hp] ++ b16 sa ++ b16 da ++ [Value.bool dt] ++ rN mv ++ [Value.bool dn, Value.bool wr, Value.bool fa, Value.int .i64 ins, Value.int .i64 rk, Value.int .i64 num, Value.slice T n c, Value.int .i64 nd, Value.int .i64 pf, Value.bool rt, RV, Value.int .i64 tg, Value.int .i64 came, Value.int .i64 own, Value.int .i64 least, Value.int .i64 kd, Value.int .i64 nx9, Value.int .i64 cl, Value.int .i64 fw, Value.int .i64 ln, Value.int .i64 nx, Value.int .i64 hp] ++ b16 sa ++ b16 da ++ [Value.bool dt] ++ rN mv ++ [Value.bool dn, Value.bool wr, Value.bool fa, Value.int .i64 ins, Value.int .i64 rk, Value.int .i64 num, Value.slice T n c, Value.bool wg, Value.bool true])
theorem R109_0_l : List.range (regOf Try.f109 0).size = [0] := by kernel_rfl
theorem R109_2_l : List.range (regOf Try.f109 2).size = [0, 1, 2, 3] := by kernel_rfl
theorem R109_3_l : List.range (regOf Try.f109 3).size = [0] := by kernel_rfl
theorem body109 : Try.f109.body = some (.seq (.region 0 (regOf Try.f109 0) false) (.seq (.region 1 (regOf Try.f109 1) true) (.seq (.region 2 (regOf Try.f109 2) false) (.seq (.region 3 (regOf Try.f109 3) false) (.ret))))) := by kernel_rfl
theorem p109_0_0 : pj (regOf Try.f109 0) 0 = some (some 6, .assign (.const (.int .i64 0)), 36, none) := by kernel_rfl
theorem ns109_1 : Region.noSelect (regOf Try.f109 1) = true := by kernel_rfl
theorem p109_1_0 : pj (regOf Try.f109 1) 0 = some (some 7, .move (.tmp 0), 94, none) := by kernel_rfl
theorem p109_1_1 : pj (regOf Try.f109 1) 1 = some (some 8, .move (.tmp 1), 3, none) := by kernel_rfl
theorem p109_1_2 : pj (regOf Try.f109 1) 2 = some (some 9, .move (.tmp 2), 3, none) := by kernel_rfl
theorem p109_1_3 : pj (regOf Try.f109 1) 3 = some (some 10, .move (.tmp 0), 94, none) := by kernel_rfl
theorem p109_1_4 : pj (regOf Try.f109 1) 4 = some (some 11, .nilCheck (.tmp 10), 0, none) := by kernel_rfl
theorem p109_1_5 : pj (regOf Try.f109 1) 5 = some (some 12, .fieldAddr 96 (.tmp 11) 0, 0, none) := by kernel_rfl
theorem tS35 : (Try.prog.info? 35).map (·.size) = some 73 := by kernel_rfl
theorem p109_1_7 : pj (regOf Try.f109 1) 7 = some (some 14, .move (.tmp 0), 94, none) := by kernel_rfl
theorem p109_1_8 : pj (regOf Try.f109 1) 8 = some (some 15, .nilCheck (.tmp 14), 0, none) := by kernel_rfl
theorem p109_1_9 : pj (regOf Try.f109 1) 9 = some (some 16, .fieldAddr 96 (.tmp 15) 6, 0, none) := by kernel_rfl
theorem tS43 : (Try.prog.info? 43).map (·.size) = some 76 := by kernel_rfl
theorem p109_1_10 : pj (regOf Try.f109 1) 10 = some (some 17, .fieldAddr 43 (.tmp 16) 3, 0, none) := by kernel_rfl
theorem tS4 : (Try.prog.info? 4).map (·.size) = some 1 := by kernel_rfl
theorem p109_1_6 : pj (regOf Try.f109 1) 6 = some (some 13, .load 35 (.tmp 12), 35, none) := by kernel_rfl
theorem tA35 : (Try.prog.underlying 35).map aggD = some true := by kernel_rfl
theorem p109_1_11 : pj (regOf Try.f109 1) 11 = some (some 18, .load 4 (.tmp 17), 4, none) := by kernel_rfl
theorem tA4 : (Try.prog.underlying 4).map aggD = some false := by kernel_rfl
theorem p109_1_12 : pj (regOf Try.f109 1) 12 = some (some 19, .build 43 #[(0, .tmp 8), (1, .tmp 9), (2, .tmp 13), (3, .tmp 18)], 43, none) := by kernel_rfl
theorem p109_1_13 : pj (regOf Try.f109 1) 13 = some (some 20, .nilCheck (.tmp 7), 0, none) := by kernel_rfl
theorem p109_1_14 : pj (regOf Try.f109 1) 14 = some (some 21, .fieldAddr 96 (.tmp 20) 6, 0, none) := by kernel_rfl
theorem p109_1_15 : pj (regOf Try.f109 1) 15 = some (none, .store 43 (.tmp 21) (.tmp 19), 0, none) := by kernel_rfl
theorem P109_2 : (List.range (regOf Try.f109 2).size).map (pj (regOf Try.f109 2)) = [zz 22 (.move (.tmp 0)) 94, zz 23 (.nilCheck (.tmp 22)) 0, zz 24 (.fieldAddr 96 (.tmp 23) 7) 0, some (none, .store 4 (.tmp 24) (.const (.bool true)), 0, none)] := by kernel_rfl
theorem p109_3_0 : pj (regOf Try.f109 3) 0 = some (some 6, .assign (.const (.int .i64 0)), 36, none) := by kernel_rfl
set_option maxHeartbeats 4000000 in
theorem end_any (cl fw ln nx hp : Int) (sa da : Nat → Int) (mv : Nat → Value) (dn wr fa : Bool) (ins rk num : Int) (T : Option Addr) (cT : Nat) (l : List Int) (nd pf : Int) (rt : Bool) (RV : Value) (tg came own least : Int) (wg : Bool) (gh : Nat) (kd nx9 : Int) (hmv : ∀ j, (mv j).oneCell' = true) (w : World) (hB : w.heap[gh]? = some (.cells (HA cl fw ln nx hp sa da true mv dn wr fa ins rk num T l.length cT nd pf rt RV tg came own least wg).toArray 96 (0, 0))) : Calls Try.prog 109 #[Value.pointer (some ⟨gh, 0, none⟩), .int .i64 kd, .int .i64 nx9] w fun e w' => e = .returned (.int .i64 0) ∧ w'.heap[gh]? = some (.cells (HB cl fw ln nx hp sa da true mv dn wr fa ins rk num T l.length cT nd pf rt RV tg came own least kd nx9 wg).toArray 96 (0, 0)) ∧ Kp w w' (fun k => k = gh) := by
 have K_0 := Kp.refl w (fun k => k = gh)
 have B_gh := hB
 refine enter (args := [Value.pointer (some ⟨gh, 0, none⟩), Value.int .i64 kd, Value.int .i64 nx9]) (n := 25) Try.func109 body109 rfl rfl rfl ?_
 intro a hE
 refine c_reg R109_0_l ?_
 refine q0 p109_0_0 hE (st_assign rfl) ?_; clear hE a; intro a hE
 refine p_nil (x_norm ?_)
 refine c_drawMS (S := fun W => True) rfl rfl (listed := #[ι, ι, ι, ι, ι, ι, ι, ι, ι, ι, ι, ι, ι, ι, ι, ι]) rfl pan_body (fun QQ hQ hend => ?_)
 have dr1_4 : ∀ (W : World) (a : Act), En 25 a [(0, Value.pointer (some ⟨gh, 0, none⟩)), (1, Value.int .i64 kd), (2, Value.int .i64 nx9), (6, Value.int .i64 0), (7, Value.pointer (some ⟨gh, 0, none⟩)), (8, Value.int .i64 kd), (9, Value.int .i64 nx9), (10, Value.pointer (some ⟨gh, 0, none⟩)), (11, Value.pointer (some ⟨gh, 0, none⟩)), (12, Value.pointer (some ⟨gh, 0, none⟩)), (13, Value.agg (PA cl fw ln nx hp sa da true mv dn wr fa ins rk num T l.length cT).toArray), (14, Value.pointer (some ⟨gh, 0, none⟩)), (15, Value.pointer (some ⟨gh, 0, none⟩)), (16, Value.pointer (some ⟨gh, 81, none⟩)), (17, Value.pointer (some ⟨gh, 156, none⟩)), (18, Value.bool wg), (19, Value.agg (RA kd nx9 cl fw ln nx hp sa da true mv dn wr fa ins rk num T l.length cT wg).toArray), (20, Value.pointer (some ⟨gh, 0, none⟩)), (21, Value.pointer (some ⟨gh, 81, none⟩))] → W.heap[gh]? = some (.cells (([Value.int .i64 cl, Value.int .i64 fw, Value.int .i64 ln, Value.int .i64 nx, Value.int .i64 hp] ++ b16 sa ++ b16 da ++ [Value.bool true] ++ rN mv ++ [Value.bool dn, Value.bool wr, Value.bool fa, Value.int .i64 ins, Value.int .i64 rk, Value.int .i64 num, Value.slice T l.length cT, Value.int .i64 nd, Value.int .i64 pf, Value.bool rt, RV, Value.int .i64 tg, Value.int .i64 came, Value.int .i64 own, Value.int .i64 least, Value.int .i64 kd, Value.int .i64 nx9, Value.int .i64 cl, Value.int .i64 fw, Value.int .i64 ln, Value.int .i64 nx, Value.int .i64 hp] ++ b16 sa ++ b16 da ++ [Value.bool true] ++ rN mv ++ [Value.bool dn, Value.bool wr, Value.bool fa, Value.int .i64 ins, Value.int .i64 rk, Value.int .i64 num, Value.slice T l.length cT, Value.bool wg, Value.bool false])).toArray 96 (0, 0)) → Kp w W (fun k => k = gh) → wpAnyH Try.prog .any (regOf Try.f109 1) QQ (fun W => True) 0 #[κ, κ, κ, κ, κ, κ, κ, κ, κ, κ, κ, κ, κ, κ, κ, κ] a W := by
  intro w3 a hE B_gh K_0
  refine d_end (by kernel_rfl) (hend _ _ ?_)
  refine c_reg R109_2_l ?_
  refine qn hE (rc (pl P109_2 0) (st_move rfl) (rc (pl P109_2 1) (st_nil rfl) (rc (pl P109_2 2) (st_fieldAddr Try.underlying96 rfl tS4 rfl rfl) rn))) ?_; clear hE a; intro a hE
  refine p_cons (s_store (off := 157) (k := 1) (cs' := (HB cl fw ln nx hp sa da true mv dn wr fa ins rk num T l.length cT nd pf rt RV tg came own least kd nx9 wg).toArray) (pl P109_2 3) hE wn_none tS4 rfl rfl rfl rfl B_gh (Nat.le_of_ble_eq_true rfl) rfl ?_)
  intro w4 B_gh' hk
  replace K_0 := K_0.then_ hk (fun k h => by rw [show k = gh from h]; exact Or.inl rfl)
  replace B_gh := B_gh'
  clear hk
  refine p_nil (x_norm (c_reg R109_3_l ?_))
  refine q0 p109_3_0 hE (st_assign rfl) ?_; clear hE a; intro a hE
  refine p_nil (x_norm (wp_ret ?_))
  refine ret_one (v := Value.int .i64 0) rfl hE (.tmp rfl .nil) ?_
  exact ⟨rfl, B_gh, K_0⟩
 have dr1_3 : ∀ (W : World) (a : Act), En 25 a [(0, Value.pointer (some ⟨gh, 0, none⟩)), (1, Value.int .i64 kd), (2, Value.int .i64 nx9), (6, Value.int .i64 0), (7, Value.pointer (some ⟨gh, 0, none⟩)), (8, Value.int .i64 kd), (9, Value.int .i64 nx9), (10, Value.pointer (some ⟨gh, 0, none⟩)), (11, Value.pointer (some ⟨gh, 0, none⟩)), (12, Value.pointer (some ⟨gh, 0, none⟩)), (13, Value.agg (PA cl fw ln nx hp sa da true mv dn wr fa ins rk num T l.length cT).toArray), (14, Value.pointer (some ⟨gh, 0, none⟩)), (15, Value.pointer (some ⟨gh, 0, none⟩)), (16, Value.pointer (some ⟨gh, 81, none⟩)), (17, Value.pointer (some ⟨gh, 156, none⟩)), (18, Value.bool wg), (19, Value.agg (RA kd nx9 cl fw ln nx hp sa da true mv dn wr fa ins rk num T l.length cT wg).toArray), (20, Value.pointer (some ⟨gh, 0, none⟩)), (21, Value.pointer (some ⟨gh, 81, none⟩))] → W.heap[gh]? = some (.cells (HA cl fw ln nx hp sa da true mv dn wr fa ins rk num T l.length cT nd pf rt RV tg came own least wg).toArray 96 (0, 0)) → Kp w W (fun k => k = gh) → wpAnyH Try.prog .any (regOf Try.f109 1) QQ (fun W => True) 1 #[κ, κ, κ, κ, κ, κ, κ, κ, κ, κ, κ, κ, κ, κ, κ, ι] a W := by
  intro w5 a hE B_gh K_0
  refine d_all (rs := [15]) (by kernel_rfl) rfl ?_
  refine all_cons (d_lit (listed' := #[κ, κ, κ, κ, κ, κ, κ, κ, κ, κ, κ, κ, κ, κ, κ, κ]) rfl ?_) ?_
  ·
   refine (s_store (off := 81) (k := 76) (cs' := (([Value.int .i64 cl, Value.int .i64 fw, Value.int .i64 ln, Value.int .i64 nx, Value.int .i64 hp] ++ b16 sa ++ b16 da ++ [Value.bool true] ++ rN mv ++ [Value.bool dn, Value.bool wr, Value.bool fa, Value.int .i64 ins, Value.int .i64 rk, Value.int .i64 num, Value.slice T l.length cT, Value.int .i64 nd, Value.int .i64 pf, Value.bool rt, RV, Value.int .i64 tg, Value.int .i64 came, Value.int .i64 own, Value.int .i64 least, Value.int .i64 kd, Value.int .i64 nx9, Value.int .i64 cl, Value.int .i64 fw, Value.int .i64 ln, Value.int .i64 nx, Value.int .i64 hp] ++ b16 sa ++ b16 da ++ [Value.bool true] ++ rN mv ++ [Value.bool dn, Value.bool wr, Value.bool fa, Value.int .i64 ins, Value.int .i64 rk, Value.int .i64 num, Value.slice T l.length cT, Value.bool wg, Value.bool false])).toArray) p109_1_15 hE wn_none tS43 rfl rfl rfl (by exact ones_mv (a := ([Value.int .i64 kd, Value.int .i64 nx9, Value.int .i64 cl, Value.int .i64 fw, Value.int .i64 ln, Value.int .i64 nx, Value.int .i64 hp] ++ b16 sa ++ b16 da ++ [Value.bool true])) (b := [Value.bool dn, Value.bool wr, Value.bool fa, Value.int .i64 ins, Value.int .i64 rk, Value.int .i64 num, Value.slice T l.length cT, Value.bool wg]) hmv rfl rfl) B_gh (Nat.le_of_ble_eq_true rfl) rfl ?_)
   intro w6 B_gh' hk
   replace K_0 := K_0.then_ hk (fun k h => by rw [show k = gh from h]; exact Or.inl rfl)
   replace B_gh := B_gh'
   clear hk
   refine ⟨trivial, ?_⟩
   exact dr1_4 _ a (En.sub hE ⟨rfl, rfl, rfl, rfl, rfl, rfl, rfl, rfl, rfl, rfl, rfl, rfl, rfl, rfl, rfl, rfl, rfl, rfl, rfl, trivial⟩) B_gh K_0
  exact all_nil
 have dr1_2 : ∀ (W : World) (a : Act), En 25 a [(0, Value.pointer (some ⟨gh, 0, none⟩)), (1, Value.int .i64 kd), (2, Value.int .i64 nx9), (6, Value.int .i64 0), (7, Value.pointer (some ⟨gh, 0, none⟩)), (8, Value.int .i64 kd), (9, Value.int .i64 nx9), (10, Value.pointer (some ⟨gh, 0, none⟩)), (11, Value.pointer (some ⟨gh, 0, none⟩)), (12, Value.pointer (some ⟨gh, 0, none⟩)), (13, Value.agg (PA cl fw ln nx hp sa da true mv dn wr fa ins rk num T l.length cT).toArray), (14, Value.pointer (some ⟨gh, 0, none⟩)), (15, Value.pointer (some ⟨gh, 0, none⟩)), (16, Value.pointer (some ⟨gh, 81, none⟩)), (17, Value.pointer (some ⟨gh, 156, none⟩))] → W.heap[gh]? = some (.cells (HA cl fw ln nx hp sa da true mv dn wr fa ins rk num T l.length cT nd pf rt RV tg came own least wg).toArray 96 (0, 0)) → Kp w W (fun k => k = gh) → wpAnyH Try.prog .any (regOf Try.f109 1) QQ (fun W => True) 5 #[κ, κ, κ, κ, κ, κ, κ, κ, κ, κ, κ, ι, ι, ι, ι, ι] a W := by
  intro w7 a hE B_gh K_0
  refine d_all (rs := [11]) (by kernel_rfl) rfl ?_
  refine all_cons (d_lit (listed' := #[κ, κ, κ, κ, κ, κ, κ, κ, κ, κ, κ, κ, ι, ι, ι, ι]) rfl ?_) ?_
  ·
   refine (s_still p109_1_11 hE wn_none rfl (st_load1 tA4 rfl ((blk_cell B_gh 156).trans rfl)) ?_); clear hE a; intro a hE
   refine ⟨trivial, ?_⟩
   refine Rv.dq (listed' := #[κ, κ, κ, κ, κ, κ, κ, κ, κ, κ, κ, κ, κ, ι, ι, ι]) (v := Value.agg (RA kd nx9 cl fw ln nx hp sa da true mv dn wr fa ins rk num T l.length cT wg).toArray) p109_1_12 ns109_1 hE wn_none trivial (fun W hS => (st_build (xs := [(0, Operand.tmp 8), (1, Operand.tmp 9), (2, Operand.tmp 13), (3, Operand.tmp 18)]) (vs := [(0, Value.int .i64 kd), (1, Value.int .i64 nx9), (2, Value.agg (PA cl fw ln nx hp sa da true mv dn wr fa ins rk num T l.length cT).toArray), (3, Value.bool wg)]) (cs := (RA kd nx9 cl fw ln nx hp sa da true mv dn wr fa ins rk num T l.length cT wg).toArray) rfl (by kernel_rfl))) ?_ (fun c a w h => hQ c a _ _ w h); clear hE a; intro a hE
   refine Rv.dq (listed' := #[κ, κ, κ, κ, κ, κ, κ, κ, κ, κ, κ, κ, κ, κ, ι, ι]) (v := Value.pointer (some ⟨gh, 0, none⟩)) p109_1_13 ns109_1 hE wn_none trivial (fun W hS => (st_nil rfl)) ?_ (fun c a w h => hQ c a _ _ w h); clear hE a; intro a hE
   refine Rv.dq (listed' := #[κ, κ, κ, κ, κ, κ, κ, κ, κ, κ, κ, κ, κ, κ, κ, ι]) (v := Value.pointer (some ⟨gh, 81, none⟩)) p109_1_14 ns109_1 hE wn_none trivial (fun W hS => (st_fieldAddr Try.underlying96 rfl tS43 rfl rfl)) ?_ (fun c a w h => hQ c a _ _ w h); clear hE a; intro a hE
   exact dr1_3 _ a (En.sub hE ⟨rfl, rfl, rfl, rfl, rfl, rfl, rfl, rfl, rfl, rfl, rfl, rfl, rfl, rfl, rfl, rfl, rfl, rfl, rfl, trivial⟩) B_gh K_0
  exact all_nil
 have dr1_1 : ∀ (W : World) (a : Act), En 25 a [(0, Value.pointer (some ⟨gh, 0, none⟩)), (1, Value.int .i64 kd), (2, Value.int .i64 nx9), (6, Value.int .i64 0), (7, Value.pointer (some ⟨gh, 0, none⟩)), (8, Value.int .i64 kd), (9, Value.int .i64 nx9), (10, Value.pointer (some ⟨gh, 0, none⟩)), (11, Value.pointer (some ⟨gh, 0, none⟩)), (12, Value.pointer (some ⟨gh, 0, none⟩)), (14, Value.pointer (some ⟨gh, 0, none⟩)), (15, Value.pointer (some ⟨gh, 0, none⟩)), (16, Value.pointer (some ⟨gh, 81, none⟩)), (17, Value.pointer (some ⟨gh, 156, none⟩)), (18, Value.bool wg)] → W.heap[gh]? = some (.cells (HA cl fw ln nx hp sa da true mv dn wr fa ins rk num T l.length cT nd pf rt RV tg came own least wg).toArray 96 (0, 0)) → Kp w W (fun k => k = gh) → wpAnyH Try.prog .any (regOf Try.f109 1) QQ (fun W => True) 5 #[κ, κ, κ, κ, κ, κ, ι, κ, κ, κ, κ, κ, ι, ι, ι, ι] a W := by
  intro w8 a hE B_gh K_0
  refine d_all (rs := [6]) (by kernel_rfl) rfl ?_
  refine all_cons (d_lit (listed' := #[κ, κ, κ, κ, κ, κ, κ, κ, κ, κ, κ, κ, ι, ι, ι, ι]) rfl ?_) ?_
  ·
   refine (s_still p109_1_6 hE wn_none rfl (st_loadN (off := 0) (k := 73) (vs := (PA cl fw ln nx hp sa da true mv dn wr fa ins rk num T l.length cT)) tA35 tS35 rfl B_gh rfl rfl) ?_); clear hE a; intro a hE
   refine ⟨trivial, ?_⟩
   refine Rv.dq (listed' := #[κ, κ, κ, κ, κ, κ, κ, κ, κ, κ, κ, κ, κ, ι, ι, ι]) (v := Value.agg (RA kd nx9 cl fw ln nx hp sa da true mv dn wr fa ins rk num T l.length cT wg).toArray) p109_1_12 ns109_1 hE wn_none trivial (fun W hS => (st_build (xs := [(0, Operand.tmp 8), (1, Operand.tmp 9), (2, Operand.tmp 13), (3, Operand.tmp 18)]) (vs := [(0, Value.int .i64 kd), (1, Value.int .i64 nx9), (2, Value.agg (PA cl fw ln nx hp sa da true mv dn wr fa ins rk num T l.length cT).toArray), (3, Value.bool wg)]) (cs := (RA kd nx9 cl fw ln nx hp sa da true mv dn wr fa ins rk num T l.length cT wg).toArray) rfl (by kernel_rfl))) ?_ (fun c a w h => hQ c a _ _ w h); clear hE a; intro a hE
   refine Rv.dq (listed' := #[κ, κ, κ, κ, κ, κ, κ, κ, κ, κ, κ, κ, κ, κ, ι, ι]) (v := Value.pointer (some ⟨gh, 0, none⟩)) p109_1_13 ns109_1 hE wn_none trivial (fun W hS => (st_nil rfl)) ?_ (fun c a w h => hQ c a _ _ w h); clear hE a; intro a hE
   refine Rv.dq (listed' := #[κ, κ, κ, κ, κ, κ, κ, κ, κ, κ, κ, κ, κ, κ, κ, ι]) (v := Value.pointer (some ⟨gh, 81, none⟩)) p109_1_14 ns109_1 hE wn_none trivial (fun W hS => (st_fieldAddr Try.underlying96 rfl tS43 rfl rfl)) ?_ (fun c a w h => hQ c a _ _ w h); clear hE a; intro a hE
   exact dr1_3 _ a (En.sub hE ⟨rfl, rfl, rfl, rfl, rfl, rfl, rfl, rfl, rfl, rfl, rfl, rfl, rfl, rfl, rfl, rfl, rfl, rfl, rfl, trivial⟩) B_gh K_0
  exact all_nil
 have dr1_0 : ∀ (W : World) (a : Act), En 25 a [(0, Value.pointer (some ⟨gh, 0, none⟩)), (1, Value.int .i64 kd), (2, Value.int .i64 nx9), (6, Value.int .i64 0), (7, Value.pointer (some ⟨gh, 0, none⟩)), (8, Value.int .i64 kd), (9, Value.int .i64 nx9), (10, Value.pointer (some ⟨gh, 0, none⟩)), (11, Value.pointer (some ⟨gh, 0, none⟩)), (12, Value.pointer (some ⟨gh, 0, none⟩)), (14, Value.pointer (some ⟨gh, 0, none⟩)), (15, Value.pointer (some ⟨gh, 0, none⟩)), (16, Value.pointer (some ⟨gh, 81, none⟩)), (17, Value.pointer (some ⟨gh, 156, none⟩))] → W.heap[gh]? = some (.cells (HA cl fw ln nx hp sa da true mv dn wr fa ins rk num T l.length cT nd pf rt RV tg came own least wg).toArray 96 (0, 0)) → Kp w W (fun k => k = gh) → wpAnyH Try.prog .any (regOf Try.f109 1) QQ (fun W => True) 6 #[κ, κ, κ, κ, κ, κ, ι, κ, κ, κ, κ, ι, ι, ι, ι, ι] a W := by
  intro w9 a hE B_gh K_0
  refine d_all (rs := [6, 11]) (by kernel_rfl) rfl ?_
  refine all_cons (d_lit (listed' := #[κ, κ, κ, κ, κ, κ, κ, κ, κ, κ, κ, ι, ι, ι, ι, ι]) rfl ?_) ?_
  ·
   refine (s_still p109_1_6 hE wn_none rfl (st_loadN (off := 0) (k := 73) (vs := (PA cl fw ln nx hp sa da true mv dn wr fa ins rk num T l.length cT)) tA35 tS35 rfl B_gh rfl rfl) ?_); clear hE a; intro a hE
   refine ⟨trivial, ?_⟩
   exact dr1_2 _ a (En.sub hE ⟨rfl, rfl, rfl, rfl, rfl, rfl, rfl, rfl, rfl, rfl, rfl, rfl, rfl, rfl, rfl, trivial⟩) B_gh K_0
  refine all_cons (d_lit (listed' := #[κ, κ, κ, κ, κ, κ, ι, κ, κ, κ, κ, κ, ι, ι, ι, ι]) rfl ?_) ?_
  ·
   refine (s_still p109_1_11 hE wn_none rfl (st_load1 tA4 rfl ((blk_cell B_gh 156).trans rfl)) ?_); clear hE a; intro a hE
   refine ⟨trivial, ?_⟩
   exact dr1_1 _ a (En.sub hE ⟨rfl, rfl, rfl, rfl, rfl, rfl, rfl, rfl, rfl, rfl, rfl, rfl, rfl, rfl, rfl, trivial⟩) B_gh K_0
  exact all_nil
 intro w1 hh hk
 replace B_gh := kp_blk B_gh hk (fun h => h)
 replace K_0 := K_0.then_ hk (fun _ h => h.elim)
 clear hh hk
 refine Rv.dq (listed' := #[κ, ι, ι, ι, ι, ι, ι, ι, ι, ι, ι, ι, ι, ι, ι, ι]) (v := Value.pointer (some ⟨gh, 0, none⟩)) p109_1_0 ns109_1 hE wn_none trivial (fun W hS => (st_move rfl)) ?_ (fun c a w h => hQ c a _ _ w h); clear hE a; intro a hE
 refine Rv.dq (listed' := #[κ, κ, ι, ι, ι, ι, ι, ι, ι, ι, ι, ι, ι, ι, ι, ι]) (v := Value.int .i64 kd) p109_1_1 ns109_1 hE wn_none trivial (fun W hS => (st_move rfl)) ?_ (fun c a w h => hQ c a _ _ w h); clear hE a; intro a hE
 refine Rv.dq (listed' := #[κ, κ, κ, ι, ι, ι, ι, ι, ι, ι, ι, ι, ι, ι, ι, ι]) (v := Value.int .i64 nx9) p109_1_2 ns109_1 hE wn_none trivial (fun W hS => (st_move rfl)) ?_ (fun c a w h => hQ c a _ _ w h); clear hE a; intro a hE
 refine Rv.dq (listed' := #[κ, κ, κ, κ, ι, ι, ι, ι, ι, ι, ι, ι, ι, ι, ι, ι]) (v := Value.pointer (some ⟨gh, 0, none⟩)) p109_1_3 ns109_1 hE wn_none trivial (fun W hS => (st_move rfl)) ?_ (fun c a w h => hQ c a _ _ w h); clear hE a; intro a hE
 refine Rv.dq (listed' := #[κ, κ, κ, κ, κ, ι, ι, ι, ι, ι, ι, ι, ι, ι, ι, ι]) (v := Value.pointer (some ⟨gh, 0, none⟩)) p109_1_4 ns109_1 hE wn_none trivial (fun W hS => (st_nil rfl)) ?_ (fun c a w h => hQ c a _ _ w h); clear hE a; intro a hE
 refine Rv.dq (listed' := #[κ, κ, κ, κ, κ, κ, ι, ι, ι, ι, ι, ι, ι, ι, ι, ι]) (v := Value.pointer (some ⟨gh, 0, none⟩)) p109_1_5 ns109_1 hE wn_none trivial (fun W hS => (st_fieldAddr Try.underlying96 rfl tS35 rfl rfl)) ?_ (fun c a w h => hQ c a _ _ w h); clear hE a; intro a hE
 refine Rv.dq (listed' := #[κ, κ, κ, κ, κ, κ, ι, κ, ι, ι, ι, ι, ι, ι, ι, ι]) (v := Value.pointer (some ⟨gh, 0, none⟩)) p109_1_7 ns109_1 hE wn_none trivial (fun W hS => (st_move rfl)) ?_ (fun c a w h => hQ c a _ _ w h); clear hE a; intro a hE
 refine Rv.dq (listed' := #[κ, κ, κ, κ, κ, κ, ι, κ, κ, ι, ι, ι, ι, ι, ι, ι]) (v := Value.pointer (some ⟨gh, 0, none⟩)) p109_1_8 ns109_1 hE wn_none trivial (fun W hS => (st_nil rfl)) ?_ (fun c a w h => hQ c a _ _ w h); clear hE a; intro a hE
 refine Rv.dq (listed' := #[κ, κ, κ, κ, κ, κ, ι, κ, κ, κ, ι, ι, ι, ι, ι, ι]) (v := Value.pointer (some ⟨gh, 81, none⟩)) p109_1_9 ns109_1 hE wn_none trivial (fun W hS => (st_fieldAddr Try.underlying96 rfl tS43 rfl rfl)) ?_ (fun c a w h => hQ c a _ _ w h); clear hE a; intro a hE
 refine Rv.dq (listed' := #[κ, κ, κ, κ, κ, κ, ι, κ, κ, κ, κ, ι, ι, ι, ι, ι]) (v := Value.pointer (some ⟨gh, 156, none⟩)) p109_1_10 ns109_1 hE wn_none trivial (fun W hS => (st_fieldAddr Try.underlying43 rfl tS4 rfl rfl)) ?_ (fun c a w h => hQ c a _ _ w h); clear hE a; intro a hE
 exact dr1_0 _ a (En.sub hE ⟨rfl, rfl, rfl, rfl, rfl, rfl, rfl, rfl, rfl, rfl, rfl, rfl, rfl, rfl, trivial⟩) B_gh K_0
/-- Is all of it right? -/
def argB (cl fw hp ins rk num : Int) (n : Nat) (nd pf came own least : Int) : Bool := decide (pktE cl fw hp ins rk num n = 0) && rightV nd pf && validB own least && !decide (least = 0) && (decide (came = -1) || nodeB came)
theorem R71_0_l : List.range (regOf Try.f71 0).size = [0] := by kernel_rfl
theorem R71_1_l : List.range (regOf Try.f71 1).size = [0, 1, 2, 3, 4, 5, 6] := by kernel_rfl
theorem R71_4_l : List.range (regOf Try.f71 4).size = [0] := by kernel_rfl
theorem R71_5_l : List.range (regOf Try.f71 5).size = [0] := by kernel_rfl
theorem R71_6_l : List.range (regOf Try.f71 6).size = [0, 1, 2, 3, 4, 5, 6, 7, 8, 9, 10, 11, 12] := by kernel_rfl
theorem R71_7_l : List.range (regOf Try.f71 7).size = [0, 1] := by kernel_rfl
theorem body71 : Try.f71.body = some (.seq (.region 0 (regOf Try.f71 0) false) (.seq (.block 0 (.seq (.region 1 (regOf Try.f71 1) false) (.cond (Operand.tmp 4) (.seq (.region 2 (regOf Try.f71 2) false) (.ret)) (.seq (.region 3 (regOf Try.f71 3) true) (.cond (Operand.tmp 11) (.seq (.region 4 (regOf Try.f71 4) false) (.ret)) (.skip)))))) (.seq (.region 5 (regOf Try.f71 5) false) (.seq (.region 6 (regOf Try.f71 6) false) (.seq (.region 7 (regOf Try.f71 7) false) (.ret)))))) := by kernel_rfl
theorem p71_0_0 : pj (regOf Try.f71 0) 0 = some (some 2, .assign (.const (.int .i64 0)), 36, none) := by kernel_rfl
theorem P71_1 : (List.range (regOf Try.f71 1).size).map (pj (regOf Try.f71 1)) = [zz 5 (.move (.tmp 0)) 94, zz 6 (.nilCheck (.tmp 5)) 0, zz 7 (.fieldAddr 96 (.tmp 6) 0) 0, zz 8 (.fieldAddr 35 (.tmp 7) 1) 0, zz 9 (.load 4 (.tmp 8)) 4, zz 10 (.unOp .not 4 (.tmp 9)) 4, zz 4 (.assign (.tmp 10)) 4] := by kernel_rfl
theorem ns71_3 : Region.noSelect (regOf Try.f71 3) = true := by kernel_rfl
theorem p71_3_0 : pj (regOf Try.f71 3) 0 = some (some 12, .move (.tmp 0), 94, none) := by kernel_rfl
theorem p71_3_1 : pj (regOf Try.f71 3) 1 = some (some 13, .nilCheck (.tmp 12), 0, none) := by kernel_rfl
theorem p71_3_2 : pj (regOf Try.f71 3) 2 = some (some 14, .fieldAddr 96 (.tmp 13) 0, 0, none) := by kernel_rfl
theorem p71_3_3 : pj (regOf Try.f71 3) 3 = some (some 15, .load 35 (.tmp 14), 35, none) := by kernel_rfl
theorem p71_3_4 : pj (regOf Try.f71 3) 4 = some (some 16, .call { callee := .value (.func 33), args := #[.tmp 15], argTypes := #[35] }, 36, none) := by kernel_rfl
theorem cl33 : callable Try.f33 = true := by kernel_rfl
theorem p71_3_5 : pj (regOf Try.f71 3) 5 = some (some 17, .binOp .neq 36 (.tmp 16) (.const (.int .i64 0)) 36, 4, none) := by kernel_rfl
theorem p71_3_6 : pj (regOf Try.f71 3) 6 = some (some 18, .move (.tmp 17), 4, none) := by kernel_rfl
theorem g71_3_6 : dstOf (regOf Try.f71 3) 6 = some 18 := by kernel_rfl
theorem p71_3_7 : pj (regOf Try.f71 3) 7 = some (some 19, .move (.tmp 0), 94, some (6, false)) := by kernel_rfl
theorem p71_3_8 : pj (regOf Try.f71 3) 8 = some (some 20, .nilCheck (.tmp 19), 0, some (6, false)) := by kernel_rfl
theorem p71_3_9 : pj (regOf Try.f71 3) 9 = some (some 21, .fieldAddr 96 (.tmp 20) 1, 0, some (6, false)) := by kernel_rfl
theorem tS41 : (Try.prog.info? 41).map (·.size) = some 4 := by kernel_rfl
theorem p71_3_10 : pj (regOf Try.f71 3) 10 = some (some 22, .load 41 (.tmp 21), 41, some (6, false)) := by kernel_rfl
theorem tA41 : (Try.prog.underlying 41).map aggD = some true := by kernel_rfl
theorem p71_3_11 : pj (regOf Try.f71 3) 11 = some (some 23, .call { callee := .value (.func 29), args := #[.tmp 22], argTypes := #[41] }, 36, some (6, false)) := by kernel_rfl
theorem cl29 : callable Try.f29 = true := by kernel_rfl
theorem p71_3_12 : pj (regOf Try.f71 3) 12 = some (some 24, .binOp .neq 36 (.tmp 23) (.const (.int .i64 0)) 36, 4, some (6, false)) := by kernel_rfl
theorem p71_3_13 : pj (regOf Try.f71 3) 13 = some (some 25, .pick (.tmp 18) (.const (.bool true)) (.tmp 24), 4, none) := by kernel_rfl
theorem p71_3_14 : pj (regOf Try.f71 3) 14 = some (some 26, .move (.tmp 25), 4, none) := by kernel_rfl
theorem g71_3_14 : dstOf (regOf Try.f71 3) 14 = some 26 := by kernel_rfl
theorem p71_3_15 : pj (regOf Try.f71 3) 15 = some (some 27, .move (.tmp 0), 94, some (14, false)) := by kernel_rfl
theorem p71_3_16 : pj (regOf Try.f71 3) 16 = some (some 28, .nilCheck (.tmp 27), 0, some (14, false)) := by kernel_rfl
theorem p71_3_17 : pj (regOf Try.f71 3) 17 = some (some 29, .fieldAddr 96 (.tmp 28) 4, 0, some (14, false)) := by kernel_rfl
theorem tS3 : (Try.prog.info? 3).map (·.size) = some 1 := by kernel_rfl
theorem p71_3_18 : pj (regOf Try.f71 3) 18 = some (some 30, .load 3 (.tmp 29), 3, some (14, false)) := by kernel_rfl
theorem tA3 : (Try.prog.underlying 3).map aggD = some false := by kernel_rfl
theorem p71_3_19 : pj (regOf Try.f71 3) 19 = some (some 31, .move (.tmp 0), 94, some (14, false)) := by kernel_rfl
theorem p71_3_20 : pj (regOf Try.f71 3) 20 = some (some 32, .nilCheck (.tmp 31), 0, some (14, false)) := by kernel_rfl
theorem p71_3_21 : pj (regOf Try.f71 3) 21 = some (some 33, .fieldAddr 96 (.tmp 32) 5, 0, some (14, false)) := by kernel_rfl
theorem p71_3_22 : pj (regOf Try.f71 3) 22 = some (some 34, .load 3 (.tmp 33), 3, some (14, false)) := by kernel_rfl
theorem p71_3_23 : pj (regOf Try.f71 3) 23 = some (some 35, .buildSlice 22 2 #[(0, .tmp 30), (1, .tmp 34)], 22, some (14, false)) := by kernel_rfl
theorem p71_3_24 : pj (regOf Try.f71 3) 24 = some (some 36, .call { callee := .value (.func 108), args := #[.tmp 35], argTypes := #[22] }, 4, some (14, false)) := by kernel_rfl
theorem cl108 : callable Try.f108 = true := by kernel_rfl
theorem p71_3_25 : pj (regOf Try.f71 3) 25 = some (some 37, .unOp .not 4 (.tmp 36), 4, some (14, false)) := by kernel_rfl
theorem p71_3_26 : pj (regOf Try.f71 3) 26 = some (some 38, .pick (.tmp 26) (.const (.bool true)) (.tmp 37), 4, none) := by kernel_rfl
theorem p71_3_27 : pj (regOf Try.f71 3) 27 = some (some 39, .move (.tmp 38), 4, none) := by kernel_rfl
theorem g71_3_27 : dstOf (regOf Try.f71 3) 27 = some 39 := by kernel_rfl
theorem p71_3_28 : pj (regOf Try.f71 3) 28 = some (some 40, .move (.tmp 0), 94, some (27, false)) := by kernel_rfl
theorem p71_3_29 : pj (regOf Try.f71 3) 29 = some (some 41, .nilCheck (.tmp 40), 0, some (27, false)) := by kernel_rfl
theorem p71_3_30 : pj (regOf Try.f71 3) 30 = some (some 42, .fieldAddr 96 (.tmp 41) 5, 0, some (27, false)) := by kernel_rfl
theorem p71_3_31 : pj (regOf Try.f71 3) 31 = some (some 43, .load 3 (.tmp 42), 3, some (27, false)) := by kernel_rfl
theorem p71_3_32 : pj (regOf Try.f71 3) 32 = some (some 44, .binOp .eql 3 (.tmp 43) (.const (.int .i64 0)) 3, 4, some (27, false)) := by kernel_rfl
theorem p71_3_33 : pj (regOf Try.f71 3) 33 = some (some 45, .pick (.tmp 39) (.const (.bool true)) (.tmp 44), 4, none) := by kernel_rfl
theorem p71_3_34 : pj (regOf Try.f71 3) 34 = some (some 46, .move (.tmp 45), 4, none) := by kernel_rfl
theorem g71_3_34 : dstOf (regOf Try.f71 3) 34 = some 46 := by kernel_rfl
theorem p71_3_35 : pj (regOf Try.f71 3) 35 = some (some 47, .move (.tmp 0), 94, some (34, false)) := by kernel_rfl
theorem p71_3_36 : pj (regOf Try.f71 3) 36 = some (some 48, .nilCheck (.tmp 47), 0, some (34, false)) := by kernel_rfl
theorem p71_3_37 : pj (regOf Try.f71 3) 37 = some (some 49, .fieldAddr 96 (.tmp 48) 3, 0, some (34, false)) := by kernel_rfl
theorem p71_3_38 : pj (regOf Try.f71 3) 38 = some (some 50, .load 3 (.tmp 49), 3, some (34, false)) := by kernel_rfl
theorem p71_3_39 : pj (regOf Try.f71 3) 39 = some (some 51, .binOp .neq 3 (.tmp 50) (.const (.int .i64 (-1))) 3, 4, some (34, false)) := by kernel_rfl
theorem p71_3_40 : pj (regOf Try.f71 3) 40 = some (some 52, .move (.tmp 51), 4, some (34, false)) := by kernel_rfl
theorem g71_3_40 : dstOf (regOf Try.f71 3) 40 = some 52 := by kernel_rfl
theorem p71_3_41 : pj (regOf Try.f71 3) 41 = some (some 53, .move (.tmp 0), 94, some (40, true)) := by kernel_rfl
theorem p71_3_42 : pj (regOf Try.f71 3) 42 = some (some 54, .nilCheck (.tmp 53), 0, some (40, true)) := by kernel_rfl
theorem p71_3_43 : pj (regOf Try.f71 3) 43 = some (some 55, .fieldAddr 96 (.tmp 54) 3, 0, some (40, true)) := by kernel_rfl
theorem p71_3_44 : pj (regOf Try.f71 3) 44 = some (some 56, .load 3 (.tmp 55), 3, some (40, true)) := by kernel_rfl
theorem p71_3_45 : pj (regOf Try.f71 3) 45 = some (some 57, .call { callee := .value (.func 30), args := #[.tmp 56], argTypes := #[3] }, 4, some (40, true)) := by kernel_rfl
theorem p71_3_46 : pj (regOf Try.f71 3) 46 = some (some 58, .unOp .not 4 (.tmp 57), 4, some (40, true)) := by kernel_rfl
theorem p71_3_47 : pj (regOf Try.f71 3) 47 = some (some 59, .pick (.tmp 52) (.tmp 58) (.const (.bool false)), 4, some (34, false)) := by kernel_rfl
theorem p71_3_48 : pj (regOf Try.f71 3) 48 = some (some 60, .pick (.tmp 46) (.const (.bool true)) (.tmp 59), 4, none) := by kernel_rfl
theorem p71_3_49 : pj (regOf Try.f71 3) 49 = some (some 11, .assign (.tmp 60), 4, none) := by kernel_rfl
theorem p71_4_0 : pj (regOf Try.f71 4) 0 = some (some 2, .assign (.const (.int .i64 1)), 36, none) := by kernel_rfl
theorem p71_5_0 : pj (regOf Try.f71 5) 0 = some (some 3, .assign (.const (.int .i64 0)), 36, none) := by kernel_rfl
theorem P71_6 : (List.range (regOf Try.f71 6).size).map (pj (regOf Try.f71 6)) = [zz 62 (.move (.tmp 0)) 94, zz 63 (.move (.tmp 0)) 94, zz 64 (.nilCheck (.tmp 63)) 0, zz 65 (.fieldAddr 96 (.tmp 64) 0) 0, zz 66 (.load 35 (.tmp 65)) 35, zz 67 (.call { callee := .value (.func 9), args := #[.tmp 66], argTypes := #[35] }) 47, zz 61 (.move (.tmp 67)) 47, zz 68 (.extract (.tmp 61) 0) 3, zz 69 (.extract (.tmp 61) 1) 36, zz 70 (.nilCheck (.tmp 62)) 0, zz 71 (.fieldAddr 96 (.tmp 70) 2) 0, some (none, .store 3 (.tmp 71) (.tmp 68), 0, none), zz 3 (.assign (.tmp 69)) 36] := by kernel_rfl
theorem cl9 : callable Try.f9 = true := by kernel_rfl
theorem P71_7 : (List.range (regOf Try.f71 7).size).map (pj (regOf Try.f71 7)) = [zz 72 (.move (.tmp 3)) 36, zz 2 (.assign (.tmp 72)) 36] := by kernel_rfl
theorem cl30 : callable Try.f30 = true := by kernel_rfl
set_option maxHeartbeats 4000000 in
theorem check_k (cl fw ln nx hp : Int) (sa da : Nat → Int) (mv : Nat → Value) (dn wr fa : Bool) (ins rk num : Int) (T : Option Addr) (cT : Nat) (l : List Int) (nd pf : Int) (rt : Bool) (RV : Value) (tg came own least : Int) (wg : Bool) (gh : Nat) (hmv : ∀ j, (mv j).oneCell' = true) (hda : ∀ j, 0 ≤ da j ∧ da j ≤ 255) {R : Ending → World → Prop} (w : World) (hB : w.heap[gh]? = some (.cells (HA cl fw ln nx hp sa da true mv dn wr fa ins rk num T l.length cT nd pf rt RV tg came own least wg).toArray 96 (0, 0))) (F_T : ∀ W', Kp w W' (fun k => k = gh) → Kd.C (Kd.int .u8) W' T l.length l) (hml : l.length ≤ 900000) (h1 : argB cl fw hp ins rk num l.length nd pf came own least = false → ∀ w', w'.heap[gh]? = some (.cells (HA cl fw ln nx hp sa da true mv dn wr fa ins rk num T l.length cT nd pf rt RV tg came own least wg).toArray 96 (0, 0)) → Kp w w' (fun k => k = gh) → R (.returned (.int .i64 1)) w') (h2 : argB cl fw hp ins rk num l.length nd pf came own least = true → ¬ 0 ≤ nodeF da → ∀ w', w'.heap[gh]? = some (.cells (HA cl fw ln nx hp sa da true mv dn wr fa ins rk num T l.length cT nd pf rt RV 0 came own least wg).toArray 96 (0, 0)) → Kp w w' (fun k => k = gh) → R (.returned (.int .i64 8)) w') (h3 : argB cl fw hp ins rk num l.length nd pf came own least = true → 0 ≤ nodeF da → ∀ w', w'.heap[gh]? = some (.cells (HA cl fw ln nx hp sa da true mv dn wr fa ins rk num T l.length cT nd pf rt RV (nodeF da) came own least wg).toArray 96 (0, 0)) → Kp w w' (fun k => k = gh) → R (.returned (.int .i64 0)) w') : Calls Try.prog 71 #[Value.pointer (some ⟨gh, 0, none⟩)] w R := by
 have K_0 := Kp.refl w (fun k => k = gh)
 have B_gh := hB
 refine enter (args := [Value.pointer (some ⟨gh, 0, none⟩)]) (n := 73) Try.func71 body71 rfl rfl rfl ?_
 intro a hE
 refine c_reg R71_0_l ?_
 refine q0 p71_0_0 hE (st_assign rfl) ?_; clear hE a; intro a hE
 refine p_nil (x_norm (wp_seq (wp_block (c_reg R71_1_l ?_))))
 refine qn hE (rc (pl P71_1 0) (st_move rfl) (rc (pl P71_1 1) (st_nil rfl) (rc (pl P71_1 2) (st_fieldAddr Try.underlying96 rfl tS35 rfl rfl) (rc (pl P71_1 3) (st_fieldAddr Try.underlying35 rfl tS4 rfl rfl) (rc (pl P71_1 4) (st_load1 tA4 rfl ((blk_cell B_gh 37).trans rfl)) (rc (pl P71_1 5) (st_not rfl rfl) (rc (pl P71_1 6) (st_assign rfl) rn))))))) ?_; clear hE a; intro a hE
 refine p_nil (x_norm ?_)
 refine c_cond (t := false) hE rfl ?_
 rcases Decidable.em ((pktE cl fw hp ins rk num l.length) = 0) with hCE | hCE
 ·
  rcases Decidable.em (rightV nd pf = true) with hRV | hRV
  ·
   rcases Decidable.em (validB own least = true) with hVB | hVB
   ·
    rcases Decidable.em (least = 0) with hL0 | hL0
    ·
     refine c_drawS (S := fun W => W.heap[gh]? = some (.cells (HA cl fw ln nx hp sa da true mv dn wr fa ins rk num T l.length cT nd pf rt RV tg came own least wg).toArray 96 (0, 0)) ∧ True) rfl rfl (listed := #[ι, ι, ι, ι, ι, ι, ι, ι, ι, ι, ι, ι, ι, ι, ι, ι, ι, ι, ι, ι, ι, ι, ι, ι, ι, ι, ι, ι, ι, ι, ι, ι, ι, ι, ι, ι, ι, ι, ι, ι, ι, ι, ι, ι, ι, ι, ι, ι, ι, ι]) rfl ?_
     intro w1 hh hk
     replace B_gh := kp_blk B_gh hk (fun h => h)
     replace K_0 := K_0.then_ hk (fun _ h => h.elim)
     clear hh hk
     refine Rv.dm ns71_3 hE ⟨B_gh, trivial⟩ (Rv.dc p71_3_0 (fun W hS => (st_move rfl)) rfl (Rv.dc p71_3_1 (fun W hS => (st_nil rfl)) rfl (Rv.dc (v := Value.pointer (some ⟨gh, 0, none⟩)) p71_3_2 (fun W hS => (st_fieldAddr Try.underlying96 rfl tS35 rfl rfl)) rfl (Rv.dc (v := Value.agg (PA cl fw ln nx hp sa da true mv dn wr fa ins rk num T l.length cT).toArray) p71_3_3 (fun W hS => (st_loadN (off := 0) (k := 73) (vs := (PA cl fw ln nx hp sa da true mv dn wr fa ins rk num T l.length cT)) tA35 tS35 rfl hS.1 rfl rfl)) rfl Rv.dn)))) ?_; clear hE a; intro a hE
     refine d_one (by kernel_rfl) rfl (s_call (xs := [Operand.tmp 15]) (args := [Value.agg (PA cl fw ln nx hp sa da true mv dn wr fa ins rk num T l.length cT).toArray]) p71_3_4 hE wn_none rfl rfl Try.func33 cl33 (dchk_any cl fw ln nx hp sa da mv dn wr fa ins rk num T cT l _ (fun W' hk => F_T W' (K_0.then_ hk (fun _ h => h.elim))) hml) ?_)
     rintro e w2 ⟨rfl, hk⟩
     replace B_gh := kp_blk B_gh hk (fun h => h)
     replace K_0 := K_0.then_ hk (fun _ h => h.elim)
     refine ⟨_, rfl, ?_⟩; clear hE a; intro a hE
     refine ⟨⟨B_gh, trivial⟩, ?_⟩
     refine Rv.dm ns71_3 hE ⟨B_gh, trivial⟩ (Rv.dc (v := Value.bool false) p71_3_5 (fun W hS => (st_neq (b := false) rfl rfl (by rw [decide_eq_true hCE]; rfl))) rfl (Rv.dc p71_3_6 (fun W hS => (st_move rfl)) rfl (Rv.dg p71_3_7 (wn_some g71_3_6 rfl rfl) (fun W hS => (st_move rfl)) rfl (Rv.dg p71_3_8 (wn_some g71_3_6 rfl rfl) (fun W hS => (st_nil rfl)) rfl (Rv.dg (v := Value.pointer (some ⟨gh, 73, none⟩)) p71_3_9 (wn_some g71_3_6 rfl rfl) (fun W hS => (st_fieldAddr Try.underlying96 rfl tS41 rfl rfl)) rfl (Rv.dg (v := Value.agg #[Value.int .i64 nd, Value.int .i64 pf, Value.bool rt, RV]) p71_3_10 (wn_some g71_3_6 rfl rfl) (fun W hS => (st_loadN (off := 73) (k := 4) (vs := [Value.int .i64 nd, Value.int .i64 pf, Value.bool rt, RV]) tA41 tS41 rfl hS.1 rfl rfl)) rfl Rv.dn)))))) ?_; clear hE a; intro a hE
     refine d_one (by kernel_rfl) rfl (s_call (xs := [Operand.tmp 22]) (args := [Value.agg #[Value.int .i64 nd, Value.int .i64 pf, Value.bool rt, RV]]) p71_3_11 hE (wn_some g71_3_6 rfl rfl) rfl rfl Try.func29 cl29 (rcheck nd pf rt RV _) ?_)
     rintro e w3 ⟨he, hk⟩
     obtain rfl := he.trans (congrArg (fun b => Ending.returned (Value.int .i64 (bif b then 0 else 1))) hRV)
     replace B_gh := kp_blk B_gh hk (fun h => h)
     replace K_0 := K_0.then_ hk (fun _ h => h.elim)
     refine ⟨_, rfl, ?_⟩; clear hE a; intro a hE
     refine ⟨⟨B_gh, trivial⟩, ?_⟩
     refine Rv.dm ns71_3 hE ⟨B_gh, trivial⟩ (Rv.dg (v := Value.bool false) p71_3_12 (wn_some g71_3_6 rfl rfl) (fun W hS => (st_neq (b := false) rfl rfl (by decide))) rfl (Rv.dc p71_3_13 (fun W hS => (st_pick rfl rfl)) rfl (Rv.dc p71_3_14 (fun W hS => (st_move rfl)) rfl (Rv.dg p71_3_15 (wn_some g71_3_14 rfl rfl) (fun W hS => (st_move rfl)) rfl (Rv.dg p71_3_16 (wn_some g71_3_14 rfl rfl) (fun W hS => (st_nil rfl)) rfl (Rv.dg (v := Value.pointer (some ⟨gh, 79, none⟩)) p71_3_17 (wn_some g71_3_14 rfl rfl) (fun W hS => (st_fieldAddr Try.underlying96 rfl tS3 rfl rfl)) rfl (Rv.dg (v := Value.int .i64 own) p71_3_18 (wn_some g71_3_14 rfl rfl) (fun W hS => (st_load1 tA3 rfl ((blk_cell hS.1 79).trans rfl))) rfl (Rv.dg p71_3_19 (wn_some g71_3_14 rfl rfl) (fun W hS => (st_move rfl)) rfl (Rv.dg p71_3_20 (wn_some g71_3_14 rfl rfl) (fun W hS => (st_nil rfl)) rfl (Rv.dg (v := Value.pointer (some ⟨gh, 80, none⟩)) p71_3_21 (wn_some g71_3_14 rfl rfl) (fun W hS => (st_fieldAddr Try.underlying96 rfl tS3 rfl rfl)) rfl (Rv.dg (v := Value.int .i64 least) p71_3_22 (wn_some g71_3_14 rfl rfl) (fun W hS => (st_load1 tA3 rfl ((blk_cell hS.1 80).trans rfl))) rfl Rv.dn))))))))))) ?_; clear hE a; intro a hE
     refine d_one (by kernel_rfl) rfl (s_row (xs := [(0, Operand.tmp 30), (1, Operand.tmp 34)]) (vs := [(0, Value.int .i64 own), (1, Value.int .i64 least)]) (cs := #[Value.int .i64 own, Value.int .i64 least]) p71_3_23 hE (wn_some g71_3_14 rfl rfl) rfl Try.underlying22 rfl (by kernel_rfl) ?_)
     clear hE a; intro g4 w5 z6 B_g4 hk a hE
     have n_gh_g4 : gh ≠ g4 := ne_new B_gh z6
     have z_0_g4 := Nat.le_trans K_0.kept.1 z6
     replace B_gh := kp_blk B_gh hk (fun h => h)
     replace K_0 := K_0.then_ hk (fun _ h => h.elim)
     clear hk
     refine ⟨⟨B_gh, trivial⟩, ?_⟩
     refine d_one (by kernel_rfl) rfl (s_call (xs := [Operand.tmp 35]) (args := [Value.slice (some ⟨g4, 0, none⟩) 2 2]) p71_3_24 hE (wn_some g71_3_14 rfl rfl) rfl rfl Try.func108 cl108 (valid_2 g4 own least _ B_g4) ?_)
     rintro e w7 ⟨he, hk⟩
     obtain rfl := he.trans (congrArg (fun b => Ending.returned (Value.bool b)) hVB)
     replace B_gh := kp_blk B_gh hk (fun h => h)
     replace B_g4 := kp_blk B_g4 hk (fun h => h)
     replace K_0 := K_0.then_ hk (fun _ h => h.elim)
     refine ⟨_, rfl, ?_⟩; clear hE a; intro a hE
     refine ⟨⟨B_gh, trivial⟩, ?_⟩
     refine Rv.dm ns71_3 hE ⟨B_gh, trivial⟩ (Rv.dg (v := Value.bool false) p71_3_25 (wn_some g71_3_14 rfl rfl) (fun W hS => (st_not rfl rfl)) rfl (Rv.dc p71_3_26 (fun W hS => (st_pick rfl rfl)) rfl (Rv.dc p71_3_27 (fun W hS => (st_move rfl)) rfl (Rv.dg p71_3_28 (wn_some g71_3_27 rfl rfl) (fun W hS => (st_move rfl)) rfl (Rv.dg p71_3_29 (wn_some g71_3_27 rfl rfl) (fun W hS => (st_nil rfl)) rfl (Rv.dg (v := Value.pointer (some ⟨gh, 80, none⟩)) p71_3_30 (wn_some g71_3_27 rfl rfl) (fun W hS => (st_fieldAddr Try.underlying96 rfl tS3 rfl rfl)) rfl (Rv.dg (v := Value.int .i64 least) p71_3_31 (wn_some g71_3_27 rfl rfl) (fun W hS => (st_load1 tA3 rfl ((blk_cell hS.1 80).trans rfl))) rfl (Rv.dg (v := Value.bool true) p71_3_32 (wn_some g71_3_27 rfl rfl) (fun W hS => (st_eql (b := true) rfl rfl (decide_eq_true hL0))) rfl (Rv.dc p71_3_33 (fun W hS => (st_pick rfl rfl)) rfl (Rv.dc p71_3_34 (fun W hS => (st_move rfl)) rfl (Rv.ds p71_3_35 (wn_some g71_3_34 rfl rfl) (Rv.ds p71_3_36 (wn_some g71_3_34 rfl rfl) (Rv.ds p71_3_37 (wn_some g71_3_34 rfl rfl) (Rv.ds p71_3_38 (wn_some g71_3_34 rfl rfl) (Rv.ds p71_3_39 (wn_some g71_3_34 rfl rfl) (Rv.ds p71_3_40 (wn_some g71_3_34 rfl rfl) (Rv.ds p71_3_41 (wn_undef g71_3_40 rfl) (Rv.ds p71_3_42 (wn_undef g71_3_40 rfl) (Rv.ds p71_3_43 (wn_undef g71_3_40 rfl) (Rv.ds p71_3_44 (wn_undef g71_3_40 rfl) (Rv.ds p71_3_45 (wn_undef g71_3_40 rfl) (Rv.ds p71_3_46 (wn_undef g71_3_40 rfl) (Rv.ds p71_3_47 (wn_some g71_3_34 rfl rfl) (Rv.dc p71_3_48 (fun W hS => (st_pick rfl rfl)) rfl (Rv.dc p71_3_49 (fun W hS => (st_assign rfl)) rfl Rv.dn))))))))))))))))))))))))) ?_; clear hE a; intro a hE
     refine d_end (by kernel_rfl) ?_
     refine x_norm ?_
     refine c_cond (t := true) hE rfl ?_
     refine c_reg R71_4_l ?_
     refine q0 p71_4_0 hE (st_assign rfl) ?_; clear hE a; intro a hE
     refine p_nil (x_norm (wp_ret (x_retB (x_ret ?_))))
     refine ret_one (v := Value.int .i64 1) rfl hE (.tmp rfl .nil) ?_
     have e0 : argB cl fw hp ins rk num l.length nd pf came own least = false := by unfold argB; simp only [decide_eq_true hCE, decide_eq_true hL0, hRV, hVB, Bool.and_true, Bool.true_and, Bool.and_false, Bool.false_and, Bool.or_true, Bool.true_or, Bool.or_false, Bool.false_or, Bool.not_true, Bool.not_false, Bool.and_self, Bool.or_self]
     exact h1 e0 _ B_gh K_0
    ·
     rcases Decidable.em (came = -1) with hCM | hCM
     ·
      refine c_drawS (S := fun W => W.heap[gh]? = some (.cells (HA cl fw ln nx hp sa da true mv dn wr fa ins rk num T l.length cT nd pf rt RV tg came own least wg).toArray 96 (0, 0)) ∧ True) rfl rfl (listed := #[ι, ι, ι, ι, ι, ι, ι, ι, ι, ι, ι, ι, ι, ι, ι, ι, ι, ι, ι, ι, ι, ι, ι, ι, ι, ι, ι, ι, ι, ι, ι, ι, ι, ι, ι, ι, ι, ι, ι, ι, ι, ι, ι, ι, ι, ι, ι, ι, ι, ι]) rfl ?_
      intro w8 hh hk
      replace B_gh := kp_blk B_gh hk (fun h => h)
      replace K_0 := K_0.then_ hk (fun _ h => h.elim)
      clear hh hk
      refine Rv.dm ns71_3 hE ⟨B_gh, trivial⟩ (Rv.dc p71_3_0 (fun W hS => (st_move rfl)) rfl (Rv.dc p71_3_1 (fun W hS => (st_nil rfl)) rfl (Rv.dc (v := Value.pointer (some ⟨gh, 0, none⟩)) p71_3_2 (fun W hS => (st_fieldAddr Try.underlying96 rfl tS35 rfl rfl)) rfl (Rv.dc (v := Value.agg (PA cl fw ln nx hp sa da true mv dn wr fa ins rk num T l.length cT).toArray) p71_3_3 (fun W hS => (st_loadN (off := 0) (k := 73) (vs := (PA cl fw ln nx hp sa da true mv dn wr fa ins rk num T l.length cT)) tA35 tS35 rfl hS.1 rfl rfl)) rfl Rv.dn)))) ?_; clear hE a; intro a hE
      refine d_one (by kernel_rfl) rfl (s_call (xs := [Operand.tmp 15]) (args := [Value.agg (PA cl fw ln nx hp sa da true mv dn wr fa ins rk num T l.length cT).toArray]) p71_3_4 hE wn_none rfl rfl Try.func33 cl33 (dchk_any cl fw ln nx hp sa da mv dn wr fa ins rk num T cT l _ (fun W' hk => F_T W' (K_0.then_ hk (fun _ h => h.elim))) hml) ?_)
      rintro e w9 ⟨rfl, hk⟩
      replace B_gh := kp_blk B_gh hk (fun h => h)
      replace K_0 := K_0.then_ hk (fun _ h => h.elim)
      refine ⟨_, rfl, ?_⟩; clear hE a; intro a hE
      refine ⟨⟨B_gh, trivial⟩, ?_⟩
      refine Rv.dm ns71_3 hE ⟨B_gh, trivial⟩ (Rv.dc (v := Value.bool false) p71_3_5 (fun W hS => (st_neq (b := false) rfl rfl (by rw [decide_eq_true hCE]; rfl))) rfl (Rv.dc p71_3_6 (fun W hS => (st_move rfl)) rfl (Rv.dg p71_3_7 (wn_some g71_3_6 rfl rfl) (fun W hS => (st_move rfl)) rfl (Rv.dg p71_3_8 (wn_some g71_3_6 rfl rfl) (fun W hS => (st_nil rfl)) rfl (Rv.dg (v := Value.pointer (some ⟨gh, 73, none⟩)) p71_3_9 (wn_some g71_3_6 rfl rfl) (fun W hS => (st_fieldAddr Try.underlying96 rfl tS41 rfl rfl)) rfl (Rv.dg (v := Value.agg #[Value.int .i64 nd, Value.int .i64 pf, Value.bool rt, RV]) p71_3_10 (wn_some g71_3_6 rfl rfl) (fun W hS => (st_loadN (off := 73) (k := 4) (vs := [Value.int .i64 nd, Value.int .i64 pf, Value.bool rt, RV]) tA41 tS41 rfl hS.1 rfl rfl)) rfl Rv.dn)))))) ?_; clear hE a; intro a hE
      refine d_one (by kernel_rfl) rfl (s_call (xs := [Operand.tmp 22]) (args := [Value.agg #[Value.int .i64 nd, Value.int .i64 pf, Value.bool rt, RV]]) p71_3_11 hE (wn_some g71_3_6 rfl rfl) rfl rfl Try.func29 cl29 (rcheck nd pf rt RV _) ?_)
      rintro e w10 ⟨he, hk⟩
      obtain rfl := he.trans (congrArg (fun b => Ending.returned (Value.int .i64 (bif b then 0 else 1))) hRV)
      replace B_gh := kp_blk B_gh hk (fun h => h)
      replace K_0 := K_0.then_ hk (fun _ h => h.elim)
      refine ⟨_, rfl, ?_⟩; clear hE a; intro a hE
      refine ⟨⟨B_gh, trivial⟩, ?_⟩
      refine Rv.dm ns71_3 hE ⟨B_gh, trivial⟩ (Rv.dg (v := Value.bool false) p71_3_12 (wn_some g71_3_6 rfl rfl) (fun W hS => (st_neq (b := false) rfl rfl (by decide))) rfl (Rv.dc p71_3_13 (fun W hS => (st_pick rfl rfl)) rfl (Rv.dc p71_3_14 (fun W hS => (st_move rfl)) rfl (Rv.dg p71_3_15 (wn_some g71_3_14 rfl rfl) (fun W hS => (st_move rfl)) rfl (Rv.dg p71_3_16 (wn_some g71_3_14 rfl rfl) (fun W hS => (st_nil rfl)) rfl (Rv.dg (v := Value.pointer (some ⟨gh, 79, none⟩)) p71_3_17 (wn_some g71_3_14 rfl rfl) (fun W hS => (st_fieldAddr Try.underlying96 rfl tS3 rfl rfl)) rfl (Rv.dg (v := Value.int .i64 own) p71_3_18 (wn_some g71_3_14 rfl rfl) (fun W hS => (st_load1 tA3 rfl ((blk_cell hS.1 79).trans rfl))) rfl (Rv.dg p71_3_19 (wn_some g71_3_14 rfl rfl) (fun W hS => (st_move rfl)) rfl (Rv.dg p71_3_20 (wn_some g71_3_14 rfl rfl) (fun W hS => (st_nil rfl)) rfl (Rv.dg (v := Value.pointer (some ⟨gh, 80, none⟩)) p71_3_21 (wn_some g71_3_14 rfl rfl) (fun W hS => (st_fieldAddr Try.underlying96 rfl tS3 rfl rfl)) rfl (Rv.dg (v := Value.int .i64 least) p71_3_22 (wn_some g71_3_14 rfl rfl) (fun W hS => (st_load1 tA3 rfl ((blk_cell hS.1 80).trans rfl))) rfl Rv.dn))))))))))) ?_; clear hE a; intro a hE
      refine d_one (by kernel_rfl) rfl (s_row (xs := [(0, Operand.tmp 30), (1, Operand.tmp 34)]) (vs := [(0, Value.int .i64 own), (1, Value.int .i64 least)]) (cs := #[Value.int .i64 own, Value.int .i64 least]) p71_3_23 hE (wn_some g71_3_14 rfl rfl) rfl Try.underlying22 rfl (by kernel_rfl) ?_)
      clear hE a; intro g11 w12 z13 B_g11 hk a hE
      have n_gh_g11 : gh ≠ g11 := ne_new B_gh z13
      have z_0_g11 := Nat.le_trans K_0.kept.1 z13
      replace B_gh := kp_blk B_gh hk (fun h => h)
      replace K_0 := K_0.then_ hk (fun _ h => h.elim)
      clear hk
      refine ⟨⟨B_gh, trivial⟩, ?_⟩
      refine d_one (by kernel_rfl) rfl (s_call (xs := [Operand.tmp 35]) (args := [Value.slice (some ⟨g11, 0, none⟩) 2 2]) p71_3_24 hE (wn_some g71_3_14 rfl rfl) rfl rfl Try.func108 cl108 (valid_2 g11 own least _ B_g11) ?_)
      rintro e w14 ⟨he, hk⟩
      obtain rfl := he.trans (congrArg (fun b => Ending.returned (Value.bool b)) hVB)
      replace B_gh := kp_blk B_gh hk (fun h => h)
      replace B_g11 := kp_blk B_g11 hk (fun h => h)
      replace K_0 := K_0.then_ hk (fun _ h => h.elim)
      refine ⟨_, rfl, ?_⟩; clear hE a; intro a hE
      refine ⟨⟨B_gh, trivial⟩, ?_⟩
      refine Rv.dm ns71_3 hE ⟨B_gh, trivial⟩ (Rv.dg (v := Value.bool false) p71_3_25 (wn_some g71_3_14 rfl rfl) (fun W hS => (st_not rfl rfl)) rfl (Rv.dc p71_3_26 (fun W hS => (st_pick rfl rfl)) rfl (Rv.dc p71_3_27 (fun W hS => (st_move rfl)) rfl (Rv.dg p71_3_28 (wn_some g71_3_27 rfl rfl) (fun W hS => (st_move rfl)) rfl (Rv.dg p71_3_29 (wn_some g71_3_27 rfl rfl) (fun W hS => (st_nil rfl)) rfl (Rv.dg (v := Value.pointer (some ⟨gh, 80, none⟩)) p71_3_30 (wn_some g71_3_27 rfl rfl) (fun W hS => (st_fieldAddr Try.underlying96 rfl tS3 rfl rfl)) rfl (Rv.dg (v := Value.int .i64 least) p71_3_31 (wn_some g71_3_27 rfl rfl) (fun W hS => (st_load1 tA3 rfl ((blk_cell hS.1 80).trans rfl))) rfl (Rv.dg (v := Value.bool false) p71_3_32 (wn_some g71_3_27 rfl rfl) (fun W hS => (st_eql (b := false) rfl rfl (decide_eq_false hL0))) rfl (Rv.dc p71_3_33 (fun W hS => (st_pick rfl rfl)) rfl (Rv.dc p71_3_34 (fun W hS => (st_move rfl)) rfl (Rv.dg p71_3_35 (wn_some g71_3_34 rfl rfl) (fun W hS => (st_move rfl)) rfl (Rv.dg p71_3_36 (wn_some g71_3_34 rfl rfl) (fun W hS => (st_nil rfl)) rfl (Rv.dg (v := Value.pointer (some ⟨gh, 78, none⟩)) p71_3_37 (wn_some g71_3_34 rfl rfl) (fun W hS => (st_fieldAddr Try.underlying96 rfl tS3 rfl rfl)) rfl (Rv.dg (v := Value.int .i64 came) p71_3_38 (wn_some g71_3_34 rfl rfl) (fun W hS => (st_load1 tA3 rfl ((blk_cell hS.1 78).trans rfl))) rfl (Rv.dg (v := Value.bool false) p71_3_39 (wn_some g71_3_34 rfl rfl) (fun W hS => (st_neq (b := false) rfl rfl (by rw [decide_eq_true hCM]; rfl))) rfl (Rv.dg p71_3_40 (wn_some g71_3_34 rfl rfl) (fun W hS => (st_move rfl)) rfl (Rv.ds p71_3_41 (wn_some g71_3_40 rfl rfl) (Rv.ds p71_3_42 (wn_some g71_3_40 rfl rfl) (Rv.ds p71_3_43 (wn_some g71_3_40 rfl rfl) (Rv.ds p71_3_44 (wn_some g71_3_40 rfl rfl) (Rv.ds p71_3_45 (wn_some g71_3_40 rfl rfl) (Rv.ds p71_3_46 (wn_some g71_3_40 rfl rfl) (Rv.dg p71_3_47 (wn_some g71_3_34 rfl rfl) (fun W hS => (st_pick rfl rfl)) rfl (Rv.dc p71_3_48 (fun W hS => (st_pick rfl rfl)) rfl (Rv.dc p71_3_49 (fun W hS => (st_assign rfl)) rfl Rv.dn))))))))))))))))))))))))) ?_; clear hE a; intro a hE
      refine d_end (by kernel_rfl) ?_
      refine x_norm ?_
      refine c_cond (t := false) hE rfl ?_
      refine wp_skip (x_normB (x_norm (c_reg R71_5_l ?_)))
      refine q0 p71_5_0 hE (st_assign rfl) ?_; clear hE a; intro a hE
      refine p_nil (x_norm ?_)
      rcases Decidable.em (0 ≤ nodeF da) with hTG | hTG
      ·
       refine c_reg R71_6_l ?_
       refine qn hE (rc (pl P71_6 0) (st_move rfl) (rc (pl P71_6 1) (st_move rfl) (rc (pl P71_6 2) (st_nil rfl) (rc (pl P71_6 3) (st_fieldAddr Try.underlying96 rfl tS35 rfl rfl) (rc (pl P71_6 4) (st_loadN (off := 0) (k := 73) (vs := (PA cl fw ln nx hp sa da true mv dn wr fa ins rk num T l.length cT)) tA35 tS35 rfl B_gh rfl rfl) rn))))) ?_; clear hE a; intro a hE
       refine p_cons (s_call (xs := [Operand.tmp 66]) (args := [Value.agg (PA cl fw ln nx hp sa da true mv dn wr fa ins rk num T l.length cT).toArray]) (pl P71_6 5) hE wn_none rfl rfl Try.func9 cl9 (targ_y cl fw ln nx hp sa da mv dn wr fa ins rk num T cT l hda hTG _) ?_)
       rintro e w15 ⟨rfl, hk⟩
       replace B_gh := kp_blk B_gh hk (fun h => h)
       replace B_g11 := kp_blk B_g11 hk (fun h => h)
       replace K_0 := K_0.then_ hk (fun _ h => h.elim)
       refine ⟨_, rfl, ?_⟩; clear hE a; intro a hE
       refine qn hE (rc (pl P71_6 6) (st_move rfl) (rc (pl P71_6 7) (st_extract rfl rfl) (rc (pl P71_6 8) (st_extract rfl rfl) (rc (pl P71_6 9) (st_nil rfl) (rc (pl P71_6 10) (st_fieldAddr Try.underlying96 rfl tS3 rfl rfl) rn))))) ?_; clear hE a; intro a hE
       refine p_cons (s_store (off := 77) (k := 1) (cs' := (HA cl fw ln nx hp sa da true mv dn wr fa ins rk num T l.length cT nd pf rt RV (nodeF da) came own least wg).toArray) (pl P71_6 11) hE wn_none tS3 rfl rfl rfl rfl B_gh (Nat.le_of_ble_eq_true rfl) rfl ?_)
       intro w16 B_gh' hk
       replace B_g11 := kp_blk B_g11 hk (Ne.symm n_gh_g11)
       replace K_0 := K_0.then_ hk (fun k h => by rw [show k = gh from h]; exact Or.inl rfl)
       replace B_gh := B_gh'
       clear hk
       refine q0 (pl P71_6 12) hE (st_assign rfl) ?_; clear hE a; intro a hE
       refine p_nil (x_norm (c_reg R71_7_l ?_))
       refine qn hE (rc (pl P71_7 0) (st_move rfl) (rc (pl P71_7 1) (st_assign rfl) rn)) ?_; clear hE a; intro a hE
       refine p_nil (x_norm (wp_ret ?_))
       refine ret_one (v := Value.int .i64 0) rfl hE (.tmp rfl .nil) ?_
       have e0 : argB cl fw hp ins rk num l.length nd pf came own least = true := by unfold argB; simp only [decide_eq_true hCE, decide_eq_false hL0, decide_eq_true hCM, hRV, hVB, Bool.and_true, Bool.true_and, Bool.and_false, Bool.false_and, Bool.or_true, Bool.true_or, Bool.or_false, Bool.false_or, Bool.not_true, Bool.not_false, Bool.and_self, Bool.or_self]
       exact h3 e0 hTG _ B_gh K_0
      ·
       refine c_reg R71_6_l ?_
       refine qn hE (rc (pl P71_6 0) (st_move rfl) (rc (pl P71_6 1) (st_move rfl) (rc (pl P71_6 2) (st_nil rfl) (rc (pl P71_6 3) (st_fieldAddr Try.underlying96 rfl tS35 rfl rfl) (rc (pl P71_6 4) (st_loadN (off := 0) (k := 73) (vs := (PA cl fw ln nx hp sa da true mv dn wr fa ins rk num T l.length cT)) tA35 tS35 rfl B_gh rfl rfl) rn))))) ?_; clear hE a; intro a hE
       refine p_cons (s_call (xs := [Operand.tmp 66]) (args := [Value.agg (PA cl fw ln nx hp sa da true mv dn wr fa ins rk num T l.length cT).toArray]) (pl P71_6 5) hE wn_none rfl rfl Try.func9 cl9 (targ_n cl fw ln nx hp sa da mv dn wr fa ins rk num T cT l hda hTG _) ?_)
       rintro e w17 ⟨rfl, hk⟩
       replace B_gh := kp_blk B_gh hk (fun h => h)
       replace B_g11 := kp_blk B_g11 hk (fun h => h)
       replace K_0 := K_0.then_ hk (fun _ h => h.elim)
       refine ⟨_, rfl, ?_⟩; clear hE a; intro a hE
       refine qn hE (rc (pl P71_6 6) (st_move rfl) (rc (pl P71_6 7) (st_extract rfl rfl) (rc (pl P71_6 8) (st_extract rfl rfl) (rc (pl P71_6 9) (st_nil rfl) (rc (pl P71_6 10) (st_fieldAddr Try.underlying96 rfl tS3 rfl rfl) rn))))) ?_; clear hE a; intro a hE
       refine p_cons (s_store (off := 77) (k := 1) (cs' := (HA cl fw ln nx hp sa da true mv dn wr fa ins rk num T l.length cT nd pf rt RV 0 came own least wg).toArray) (pl P71_6 11) hE wn_none tS3 rfl rfl rfl rfl B_gh (Nat.le_of_ble_eq_true rfl) rfl ?_)
       intro w18 B_gh' hk
       replace B_g11 := kp_blk B_g11 hk (Ne.symm n_gh_g11)
       replace K_0 := K_0.then_ hk (fun k h => by rw [show k = gh from h]; exact Or.inl rfl)
       replace B_gh := B_gh'
       clear hk
       refine q0 (pl P71_6 12) hE (st_assign rfl) ?_; clear hE a; intro a hE
       refine p_nil (x_norm (c_reg R71_7_l ?_))
       refine qn hE (rc (pl P71_7 0) (st_move rfl) (rc (pl P71_7 1) (st_assign rfl) rn)) ?_; clear hE a; intro a hE
       refine p_nil (x_norm (wp_ret ?_))
       refine ret_one (v := Value.int .i64 8) rfl hE (.tmp rfl .nil) ?_
       have e0 : argB cl fw hp ins rk num l.length nd pf came own least = true := by unfold argB; simp only [decide_eq_true hCE, decide_eq_false hL0, decide_eq_true hCM, hRV, hVB, Bool.and_true, Bool.true_and, Bool.and_false, Bool.false_and, Bool.or_true, Bool.true_or, Bool.or_false, Bool.false_or, Bool.not_true, Bool.not_false, Bool.and_self, Bool.or_self]
       exact h2 e0 hTG _ B_gh K_0
     ·
      rcases Decidable.em (nodeB came = true) with hNB | hNB
      ·
       refine c_drawS (S := fun W => W.heap[gh]? = some (.cells (HA cl fw ln nx hp sa da true mv dn wr fa ins rk num T l.length cT nd pf rt RV tg came own least wg).toArray 96 (0, 0)) ∧ True) rfl rfl (listed := #[ι, ι, ι, ι, ι, ι, ι, ι, ι, ι, ι, ι, ι, ι, ι, ι, ι, ι, ι, ι, ι, ι, ι, ι, ι, ι, ι, ι, ι, ι, ι, ι, ι, ι, ι, ι, ι, ι, ι, ι, ι, ι, ι, ι, ι, ι, ι, ι, ι, ι]) rfl ?_
       intro w19 hh hk
       replace B_gh := kp_blk B_gh hk (fun h => h)
       replace K_0 := K_0.then_ hk (fun _ h => h.elim)
       clear hh hk
       refine Rv.dm ns71_3 hE ⟨B_gh, trivial⟩ (Rv.dc p71_3_0 (fun W hS => (st_move rfl)) rfl (Rv.dc p71_3_1 (fun W hS => (st_nil rfl)) rfl (Rv.dc (v := Value.pointer (some ⟨gh, 0, none⟩)) p71_3_2 (fun W hS => (st_fieldAddr Try.underlying96 rfl tS35 rfl rfl)) rfl (Rv.dc (v := Value.agg (PA cl fw ln nx hp sa da true mv dn wr fa ins rk num T l.length cT).toArray) p71_3_3 (fun W hS => (st_loadN (off := 0) (k := 73) (vs := (PA cl fw ln nx hp sa da true mv dn wr fa ins rk num T l.length cT)) tA35 tS35 rfl hS.1 rfl rfl)) rfl Rv.dn)))) ?_; clear hE a; intro a hE
       refine d_one (by kernel_rfl) rfl (s_call (xs := [Operand.tmp 15]) (args := [Value.agg (PA cl fw ln nx hp sa da true mv dn wr fa ins rk num T l.length cT).toArray]) p71_3_4 hE wn_none rfl rfl Try.func33 cl33 (dchk_any cl fw ln nx hp sa da mv dn wr fa ins rk num T cT l _ (fun W' hk => F_T W' (K_0.then_ hk (fun _ h => h.elim))) hml) ?_)
       rintro e w20 ⟨rfl, hk⟩
       replace B_gh := kp_blk B_gh hk (fun h => h)
       replace K_0 := K_0.then_ hk (fun _ h => h.elim)
       refine ⟨_, rfl, ?_⟩; clear hE a; intro a hE
       refine ⟨⟨B_gh, trivial⟩, ?_⟩
       refine Rv.dm ns71_3 hE ⟨B_gh, trivial⟩ (Rv.dc (v := Value.bool false) p71_3_5 (fun W hS => (st_neq (b := false) rfl rfl (by rw [decide_eq_true hCE]; rfl))) rfl (Rv.dc p71_3_6 (fun W hS => (st_move rfl)) rfl (Rv.dg p71_3_7 (wn_some g71_3_6 rfl rfl) (fun W hS => (st_move rfl)) rfl (Rv.dg p71_3_8 (wn_some g71_3_6 rfl rfl) (fun W hS => (st_nil rfl)) rfl (Rv.dg (v := Value.pointer (some ⟨gh, 73, none⟩)) p71_3_9 (wn_some g71_3_6 rfl rfl) (fun W hS => (st_fieldAddr Try.underlying96 rfl tS41 rfl rfl)) rfl (Rv.dg (v := Value.agg #[Value.int .i64 nd, Value.int .i64 pf, Value.bool rt, RV]) p71_3_10 (wn_some g71_3_6 rfl rfl) (fun W hS => (st_loadN (off := 73) (k := 4) (vs := [Value.int .i64 nd, Value.int .i64 pf, Value.bool rt, RV]) tA41 tS41 rfl hS.1 rfl rfl)) rfl Rv.dn)))))) ?_; clear hE a; intro a hE
       refine d_one (by kernel_rfl) rfl (s_call (xs := [Operand.tmp 22]) (args := [Value.agg #[Value.int .i64 nd, Value.int .i64 pf, Value.bool rt, RV]]) p71_3_11 hE (wn_some g71_3_6 rfl rfl) rfl rfl Try.func29 cl29 (rcheck nd pf rt RV _) ?_)
       rintro e w21 ⟨he, hk⟩
       obtain rfl := he.trans (congrArg (fun b => Ending.returned (Value.int .i64 (bif b then 0 else 1))) hRV)
       replace B_gh := kp_blk B_gh hk (fun h => h)
       replace K_0 := K_0.then_ hk (fun _ h => h.elim)
       refine ⟨_, rfl, ?_⟩; clear hE a; intro a hE
       refine ⟨⟨B_gh, trivial⟩, ?_⟩
       refine Rv.dm ns71_3 hE ⟨B_gh, trivial⟩ (Rv.dg (v := Value.bool false) p71_3_12 (wn_some g71_3_6 rfl rfl) (fun W hS => (st_neq (b := false) rfl rfl (by decide))) rfl (Rv.dc p71_3_13 (fun W hS => (st_pick rfl rfl)) rfl (Rv.dc p71_3_14 (fun W hS => (st_move rfl)) rfl (Rv.dg p71_3_15 (wn_some g71_3_14 rfl rfl) (fun W hS => (st_move rfl)) rfl (Rv.dg p71_3_16 (wn_some g71_3_14 rfl rfl) (fun W hS => (st_nil rfl)) rfl (Rv.dg (v := Value.pointer (some ⟨gh, 79, none⟩)) p71_3_17 (wn_some g71_3_14 rfl rfl) (fun W hS => (st_fieldAddr Try.underlying96 rfl tS3 rfl rfl)) rfl (Rv.dg (v := Value.int .i64 own) p71_3_18 (wn_some g71_3_14 rfl rfl) (fun W hS => (st_load1 tA3 rfl ((blk_cell hS.1 79).trans rfl))) rfl (Rv.dg p71_3_19 (wn_some g71_3_14 rfl rfl) (fun W hS => (st_move rfl)) rfl (Rv.dg p71_3_20 (wn_some g71_3_14 rfl rfl) (fun W hS => (st_nil rfl)) rfl (Rv.dg (v := Value.pointer (some ⟨gh, 80, none⟩)) p71_3_21 (wn_some g71_3_14 rfl rfl) (fun W hS => (st_fieldAddr Try.underlying96 rfl tS3 rfl rfl)) rfl (Rv.dg (v := Value.int .i64 least) p71_3_22 (wn_some g71_3_14 rfl rfl) (fun W hS => (st_load1 tA3 rfl ((blk_cell hS.1 80).trans rfl))) rfl Rv.dn))))))))))) ?_; clear hE a; intro a hE
       refine d_one (by kernel_rfl) rfl (s_row (xs := [(0, Operand.tmp 30), (1, Operand.tmp 34)]) (vs := [(0, Value.int .i64 own), (1, Value.int .i64 least)]) (cs := #[Value.int .i64 own, Value.int .i64 least]) p71_3_23 hE (wn_some g71_3_14 rfl rfl) rfl Try.underlying22 rfl (by kernel_rfl) ?_)
       clear hE a; intro g22 w23 z24 B_g22 hk a hE
       have n_gh_g22 : gh ≠ g22 := ne_new B_gh z24
       have z_0_g22 := Nat.le_trans K_0.kept.1 z24
       replace B_gh := kp_blk B_gh hk (fun h => h)
       replace K_0 := K_0.then_ hk (fun _ h => h.elim)
       clear hk
       refine ⟨⟨B_gh, trivial⟩, ?_⟩
       refine d_one (by kernel_rfl) rfl (s_call (xs := [Operand.tmp 35]) (args := [Value.slice (some ⟨g22, 0, none⟩) 2 2]) p71_3_24 hE (wn_some g71_3_14 rfl rfl) rfl rfl Try.func108 cl108 (valid_2 g22 own least _ B_g22) ?_)
       rintro e w25 ⟨he, hk⟩
       obtain rfl := he.trans (congrArg (fun b => Ending.returned (Value.bool b)) hVB)
       replace B_gh := kp_blk B_gh hk (fun h => h)
       replace B_g22 := kp_blk B_g22 hk (fun h => h)
       replace K_0 := K_0.then_ hk (fun _ h => h.elim)
       refine ⟨_, rfl, ?_⟩; clear hE a; intro a hE
       refine ⟨⟨B_gh, trivial⟩, ?_⟩
       refine Rv.dm ns71_3 hE ⟨B_gh, trivial⟩ (Rv.dg (v := Value.bool false) p71_3_25 (wn_some g71_3_14 rfl rfl) (fun W hS => (st_not rfl rfl)) rfl (Rv.dc p71_3_26 (fun W hS => (st_pick rfl rfl)) rfl (Rv.dc p71_3_27 (fun W hS => (st_move rfl)) rfl (Rv.dg p71_3_28 (wn_some g71_3_27 rfl rfl) (fun W hS => (st_move rfl)) rfl (Rv.dg p71_3_29 (wn_some g71_3_27 rfl rfl) (fun W hS => (st_nil rfl)) rfl (Rv.dg (v := Value.pointer (some ⟨gh, 80, none⟩)) p71_3_30 (wn_some g71_3_27 rfl rfl) (fun W hS => (st_fieldAddr Try.underlying96 rfl tS3 rfl rfl)) rfl (Rv.dg (v := Value.int .i64 least) p71_3_31 (wn_some g71_3_27 rfl rfl) (fun W hS => (st_load1 tA3 rfl ((blk_cell hS.1 80).trans rfl))) rfl (Rv.dg (v := Value.bool false) p71_3_32 (wn_some g71_3_27 rfl rfl) (fun W hS => (st_eql (b := false) rfl rfl (decide_eq_false hL0))) rfl (Rv.dc p71_3_33 (fun W hS => (st_pick rfl rfl)) rfl (Rv.dc p71_3_34 (fun W hS => (st_move rfl)) rfl (Rv.dg p71_3_35 (wn_some g71_3_34 rfl rfl) (fun W hS => (st_move rfl)) rfl (Rv.dg p71_3_36 (wn_some g71_3_34 rfl rfl) (fun W hS => (st_nil rfl)) rfl (Rv.dg (v := Value.pointer (some ⟨gh, 78, none⟩)) p71_3_37 (wn_some g71_3_34 rfl rfl) (fun W hS => (st_fieldAddr Try.underlying96 rfl tS3 rfl rfl)) rfl (Rv.dg (v := Value.int .i64 came) p71_3_38 (wn_some g71_3_34 rfl rfl) (fun W hS => (st_load1 tA3 rfl ((blk_cell hS.1 78).trans rfl))) rfl (Rv.dg (v := Value.bool true) p71_3_39 (wn_some g71_3_34 rfl rfl) (fun W hS => (st_neq (b := true) rfl rfl (by rw [decide_eq_false hCM]; rfl))) rfl (Rv.dg p71_3_40 (wn_some g71_3_34 rfl rfl) (fun W hS => (st_move rfl)) rfl (Rv.dg p71_3_41 (wn_some g71_3_40 rfl rfl) (fun W hS => (st_move rfl)) rfl (Rv.dg p71_3_42 (wn_some g71_3_40 rfl rfl) (fun W hS => (st_nil rfl)) rfl (Rv.dg (v := Value.pointer (some ⟨gh, 78, none⟩)) p71_3_43 (wn_some g71_3_40 rfl rfl) (fun W hS => (st_fieldAddr Try.underlying96 rfl tS3 rfl rfl)) rfl (Rv.dg (v := Value.int .i64 came) p71_3_44 (wn_some g71_3_40 rfl rfl) (fun W hS => (st_load1 tA3 rfl ((blk_cell hS.1 78).trans rfl))) rfl Rv.dn)))))))))))))))))))) ?_; clear hE a; intro a hE
       refine d_one (by kernel_rfl) rfl (s_call (xs := [Operand.tmp 56]) (args := [Value.int .i64 came]) p71_3_45 hE (wn_some g71_3_40 rfl rfl) rfl rfl Try.func30 cl30 (knode came _) ?_)
       rintro e w26 ⟨he, hk⟩
       obtain rfl := he.trans (congrArg (fun b => Ending.returned (Value.bool b)) hNB)
       replace B_gh := kp_blk B_gh hk (fun h => h)
       replace B_g22 := kp_blk B_g22 hk (fun h => h)
       replace K_0 := K_0.then_ hk (fun _ h => h.elim)
       refine ⟨_, rfl, ?_⟩; clear hE a; intro a hE
       refine ⟨⟨B_gh, trivial⟩, ?_⟩
       refine Rv.dm ns71_3 hE ⟨B_gh, trivial⟩ (Rv.dg (v := Value.bool false) p71_3_46 (wn_some g71_3_40 rfl rfl) (fun W hS => (st_not rfl rfl)) rfl (Rv.dg p71_3_47 (wn_some g71_3_34 rfl rfl) (fun W hS => (st_pick rfl rfl)) rfl (Rv.dc p71_3_48 (fun W hS => (st_pick rfl rfl)) rfl (Rv.dc p71_3_49 (fun W hS => (st_assign rfl)) rfl Rv.dn)))) ?_; clear hE a; intro a hE
       refine d_end (by kernel_rfl) ?_
       refine x_norm ?_
       refine c_cond (t := false) hE rfl ?_
       refine wp_skip (x_normB (x_norm (c_reg R71_5_l ?_)))
       refine q0 p71_5_0 hE (st_assign rfl) ?_; clear hE a; intro a hE
       refine p_nil (x_norm ?_)
       rcases Decidable.em (0 ≤ nodeF da) with hTG | hTG
       ·
        refine c_reg R71_6_l ?_
        refine qn hE (rc (pl P71_6 0) (st_move rfl) (rc (pl P71_6 1) (st_move rfl) (rc (pl P71_6 2) (st_nil rfl) (rc (pl P71_6 3) (st_fieldAddr Try.underlying96 rfl tS35 rfl rfl) (rc (pl P71_6 4) (st_loadN (off := 0) (k := 73) (vs := (PA cl fw ln nx hp sa da true mv dn wr fa ins rk num T l.length cT)) tA35 tS35 rfl B_gh rfl rfl) rn))))) ?_; clear hE a; intro a hE
        refine p_cons (s_call (xs := [Operand.tmp 66]) (args := [Value.agg (PA cl fw ln nx hp sa da true mv dn wr fa ins rk num T l.length cT).toArray]) (pl P71_6 5) hE wn_none rfl rfl Try.func9 cl9 (targ_y cl fw ln nx hp sa da mv dn wr fa ins rk num T cT l hda hTG _) ?_)
        rintro e w27 ⟨rfl, hk⟩
        replace B_gh := kp_blk B_gh hk (fun h => h)
        replace B_g22 := kp_blk B_g22 hk (fun h => h)
        replace K_0 := K_0.then_ hk (fun _ h => h.elim)
        refine ⟨_, rfl, ?_⟩; clear hE a; intro a hE
        refine qn hE (rc (pl P71_6 6) (st_move rfl) (rc (pl P71_6 7) (st_extract rfl rfl) (rc (pl P71_6 8) (st_extract rfl rfl) (rc (pl P71_6 9) (st_nil rfl) (rc (pl P71_6 10) (st_fieldAddr Try.underlying96 rfl tS3 rfl rfl) rn))))) ?_; clear hE a; intro a hE
        refine p_cons (s_store (off := 77) (k := 1) (cs' := (HA cl fw ln nx hp sa da true mv dn wr fa ins rk num T l.length cT nd pf rt RV (nodeF da) came own least wg).toArray) (pl P71_6 11) hE wn_none tS3 rfl rfl rfl rfl B_gh (Nat.le_of_ble_eq_true rfl) rfl ?_)
        intro w28 B_gh' hk
        replace B_g22 := kp_blk B_g22 hk (Ne.symm n_gh_g22)
        replace K_0 := K_0.then_ hk (fun k h => by rw [show k = gh from h]; exact Or.inl rfl)
        replace B_gh := B_gh'
        clear hk
        refine q0 (pl P71_6 12) hE (st_assign rfl) ?_; clear hE a; intro a hE
        refine p_nil (x_norm (c_reg R71_7_l ?_))
        refine qn hE (rc (pl P71_7 0) (st_move rfl) (rc (pl P71_7 1) (st_assign rfl) rn)) ?_; clear hE a; intro a hE
        refine p_nil (x_norm (wp_ret ?_))
        refine ret_one (v := Value.int .i64 0) rfl hE (.tmp rfl .nil) ?_
        have e0 : argB cl fw hp ins rk num l.length nd pf came own least = true := by unfold argB; simp only [decide_eq_true hCE, decide_eq_false hL0, decide_eq_false hCM, hRV, hVB, hNB, Bool.and_true, Bool.true_and, Bool.and_false, Bool.false_and, Bool.or_true, Bool.true_or, Bool.or_false, Bool.false_or, Bool.not_true, Bool.not_false, Bool.and_self, Bool.or_self]
        exact h3 e0 hTG _ B_gh K_0
       ·
        refine c_reg R71_6_l ?_
        refine qn hE (rc (pl P71_6 0) (st_move rfl) (rc (pl P71_6 1) (st_move rfl) (rc (pl P71_6 2) (st_nil rfl) (rc (pl P71_6 3) (st_fieldAddr Try.underlying96 rfl tS35 rfl rfl) (rc (pl P71_6 4) (st_loadN (off := 0) (k := 73) (vs := (PA cl fw ln nx hp sa da true mv dn wr fa ins rk num T l.length cT)) tA35 tS35 rfl B_gh rfl rfl) rn))))) ?_; clear hE a; intro a hE
        refine p_cons (s_call (xs := [Operand.tmp 66]) (args := [Value.agg (PA cl fw ln nx hp sa da true mv dn wr fa ins rk num T l.length cT).toArray]) (pl P71_6 5) hE wn_none rfl rfl Try.func9 cl9 (targ_n cl fw ln nx hp sa da mv dn wr fa ins rk num T cT l hda hTG _) ?_)
        rintro e w29 ⟨rfl, hk⟩
        replace B_gh := kp_blk B_gh hk (fun h => h)
        replace B_g22 := kp_blk B_g22 hk (fun h => h)
        replace K_0 := K_0.then_ hk (fun _ h => h.elim)
        refine ⟨_, rfl, ?_⟩; clear hE a; intro a hE
        refine qn hE (rc (pl P71_6 6) (st_move rfl) (rc (pl P71_6 7) (st_extract rfl rfl) (rc (pl P71_6 8) (st_extract rfl rfl) (rc (pl P71_6 9) (st_nil rfl) (rc (pl P71_6 10) (st_fieldAddr Try.underlying96 rfl tS3 rfl rfl) rn))))) ?_; clear hE a; intro a hE
        refine p_cons (s_store (off := 77) (k := 1) (cs' := (HA cl fw ln nx hp sa da true mv dn wr fa ins rk num T l.length cT nd pf rt RV 0 came own least wg).toArray) (pl P71_6 11) hE wn_none tS3 rfl rfl rfl rfl B_gh (Nat.le_of_ble_eq_true rfl) rfl ?_)
        intro w30 B_gh' hk
        replace B_g22 := kp_blk B_g22 hk (Ne.symm n_gh_g22)
        replace K_0 := K_0.then_ hk (fun k h => by rw [show k = gh from h]; exact Or.inl rfl)
        replace B_gh := B_gh'
        clear hk
        refine q0 (pl P71_6 12) hE (st_assign rfl) ?_; clear hE a; intro a hE
        refine p_nil (x_norm (c_reg R71_7_l ?_))
        refine qn hE (rc (pl P71_7 0) (st_move rfl) (rc (pl P71_7 1) (st_assign rfl) rn)) ?_; clear hE a; intro a hE
        refine p_nil (x_norm (wp_ret ?_))
        refine ret_one (v := Value.int .i64 8) rfl hE (.tmp rfl .nil) ?_
        have e0 : argB cl fw hp ins rk num l.length nd pf came own least = true := by unfold argB; simp only [decide_eq_true hCE, decide_eq_false hL0, decide_eq_false hCM, hRV, hVB, hNB, Bool.and_true, Bool.true_and, Bool.and_false, Bool.false_and, Bool.or_true, Bool.true_or, Bool.or_false, Bool.false_or, Bool.not_true, Bool.not_false, Bool.and_self, Bool.or_self]
        exact h2 e0 hTG _ B_gh K_0
      ·
       have hNB9 : nodeB came = false := by simpa using hNB
       refine c_drawS (S := fun W => W.heap[gh]? = some (.cells (HA cl fw ln nx hp sa da true mv dn wr fa ins rk num T l.length cT nd pf rt RV tg came own least wg).toArray 96 (0, 0)) ∧ True) rfl rfl (listed := #[ι, ι, ι, ι, ι, ι, ι, ι, ι, ι, ι, ι, ι, ι, ι, ι, ι, ι, ι, ι, ι, ι, ι, ι, ι, ι, ι, ι, ι, ι, ι, ι, ι, ι, ι, ι, ι, ι, ι, ι, ι, ι, ι, ι, ι, ι, ι, ι, ι, ι]) rfl ?_
       intro w31 hh hk
       replace B_gh := kp_blk B_gh hk (fun h => h)
       replace K_0 := K_0.then_ hk (fun _ h => h.elim)
       clear hh hk
       refine Rv.dm ns71_3 hE ⟨B_gh, trivial⟩ (Rv.dc p71_3_0 (fun W hS => (st_move rfl)) rfl (Rv.dc p71_3_1 (fun W hS => (st_nil rfl)) rfl (Rv.dc (v := Value.pointer (some ⟨gh, 0, none⟩)) p71_3_2 (fun W hS => (st_fieldAddr Try.underlying96 rfl tS35 rfl rfl)) rfl (Rv.dc (v := Value.agg (PA cl fw ln nx hp sa da true mv dn wr fa ins rk num T l.length cT).toArray) p71_3_3 (fun W hS => (st_loadN (off := 0) (k := 73) (vs := (PA cl fw ln nx hp sa da true mv dn wr fa ins rk num T l.length cT)) tA35 tS35 rfl hS.1 rfl rfl)) rfl Rv.dn)))) ?_; clear hE a; intro a hE
       refine d_one (by kernel_rfl) rfl (s_call (xs := [Operand.tmp 15]) (args := [Value.agg (PA cl fw ln nx hp sa da true mv dn wr fa ins rk num T l.length cT).toArray]) p71_3_4 hE wn_none rfl rfl Try.func33 cl33 (dchk_any cl fw ln nx hp sa da mv dn wr fa ins rk num T cT l _ (fun W' hk => F_T W' (K_0.then_ hk (fun _ h => h.elim))) hml) ?_)
       rintro e w32 ⟨rfl, hk⟩
       replace B_gh := kp_blk B_gh hk (fun h => h)
       replace K_0 := K_0.then_ hk (fun _ h => h.elim)
       refine ⟨_, rfl, ?_⟩; clear hE a; intro a hE
       refine ⟨⟨B_gh, trivial⟩, ?_⟩
       refine Rv.dm ns71_3 hE ⟨B_gh, trivial⟩ (Rv.dc (v := Value.bool false) p71_3_5 (fun W hS => (st_neq (b := false) rfl rfl (by rw [decide_eq_true hCE]; rfl))) rfl (Rv.dc p71_3_6 (fun W hS => (st_move rfl)) rfl (Rv.dg p71_3_7 (wn_some g71_3_6 rfl rfl) (fun W hS => (st_move rfl)) rfl (Rv.dg p71_3_8 (wn_some g71_3_6 rfl rfl) (fun W hS => (st_nil rfl)) rfl (Rv.dg (v := Value.pointer (some ⟨gh, 73, none⟩)) p71_3_9 (wn_some g71_3_6 rfl rfl) (fun W hS => (st_fieldAddr Try.underlying96 rfl tS41 rfl rfl)) rfl (Rv.dg (v := Value.agg #[Value.int .i64 nd, Value.int .i64 pf, Value.bool rt, RV]) p71_3_10 (wn_some g71_3_6 rfl rfl) (fun W hS => (st_loadN (off := 73) (k := 4) (vs := [Value.int .i64 nd, Value.int .i64 pf, Value.bool rt, RV]) tA41 tS41 rfl hS.1 rfl rfl)) rfl Rv.dn)))))) ?_; clear hE a; intro a hE
       refine d_one (by kernel_rfl) rfl (s_call (xs := [Operand.tmp 22]) (args := [Value.agg #[Value.int .i64 nd, Value.int .i64 pf, Value.bool rt, RV]]) p71_3_11 hE (wn_some g71_3_6 rfl rfl) rfl rfl Try.func29 cl29 (rcheck nd pf rt RV _) ?_)
       rintro e w33 ⟨he, hk⟩
       obtain rfl := he.trans (congrArg (fun b => Ending.returned (Value.int .i64 (bif b then 0 else 1))) hRV)
       replace B_gh := kp_blk B_gh hk (fun h => h)
       replace K_0 := K_0.then_ hk (fun _ h => h.elim)
       refine ⟨_, rfl, ?_⟩; clear hE a; intro a hE
       refine ⟨⟨B_gh, trivial⟩, ?_⟩
       refine Rv.dm ns71_3 hE ⟨B_gh, trivial⟩ (Rv.dg (v := Value.bool false) p71_3_12 (wn_some g71_3_6 rfl rfl) (fun W hS => (st_neq (b := false) rfl rfl (by decide))) rfl (Rv.dc p71_3_13 (fun W hS => (st_pick rfl rfl)) rfl (Rv.dc p71_3_14 (fun W hS => (st_move rfl)) rfl (Rv.dg p71_3_15 (wn_some g71_3_14 rfl rfl) (fun W hS => (st_move rfl)) rfl (Rv.dg p71_3_16 (wn_some g71_3_14 rfl rfl) (fun W hS => (st_nil rfl)) rfl (Rv.dg (v := Value.pointer (some ⟨gh, 79, none⟩)) p71_3_17 (wn_some g71_3_14 rfl rfl) (fun W hS => (st_fieldAddr Try.underlying96 rfl tS3 rfl rfl)) rfl (Rv.dg (v := Value.int .i64 own) p71_3_18 (wn_some g71_3_14 rfl rfl) (fun W hS => (st_load1 tA3 rfl ((blk_cell hS.1 79).trans rfl))) rfl (Rv.dg p71_3_19 (wn_some g71_3_14 rfl rfl) (fun W hS => (st_move rfl)) rfl (Rv.dg p71_3_20 (wn_some g71_3_14 rfl rfl) (fun W hS => (st_nil rfl)) rfl (Rv.dg (v := Value.pointer (some ⟨gh, 80, none⟩)) p71_3_21 (wn_some g71_3_14 rfl rfl) (fun W hS => (st_fieldAddr Try.underlying96 rfl tS3 rfl rfl)) rfl (Rv.dg (v := Value.int .i64 least) p71_3_22 (wn_some g71_3_14 rfl rfl) (fun W hS => (st_load1 tA3 rfl ((blk_cell hS.1 80).trans rfl))) rfl Rv.dn))))))))))) ?_; clear hE a; intro a hE
       refine d_one (by kernel_rfl) rfl (s_row (xs := [(0, Operand.tmp 30), (1, Operand.tmp 34)]) (vs := [(0, Value.int .i64 own), (1, Value.int .i64 least)]) (cs := #[Value.int .i64 own, Value.int .i64 least]) p71_3_23 hE (wn_some g71_3_14 rfl rfl) rfl Try.underlying22 rfl (by kernel_rfl) ?_)
       clear hE a; intro g34 w35 z36 B_g34 hk a hE
       have n_gh_g34 : gh ≠ g34 := ne_new B_gh z36
       have z_0_g34 := Nat.le_trans K_0.kept.1 z36
       replace B_gh := kp_blk B_gh hk (fun h => h)
       replace K_0 := K_0.then_ hk (fun _ h => h.elim)
       clear hk
       refine ⟨⟨B_gh, trivial⟩, ?_⟩
       refine d_one (by kernel_rfl) rfl (s_call (xs := [Operand.tmp 35]) (args := [Value.slice (some ⟨g34, 0, none⟩) 2 2]) p71_3_24 hE (wn_some g71_3_14 rfl rfl) rfl rfl Try.func108 cl108 (valid_2 g34 own least _ B_g34) ?_)
       rintro e w37 ⟨he, hk⟩
       obtain rfl := he.trans (congrArg (fun b => Ending.returned (Value.bool b)) hVB)
       replace B_gh := kp_blk B_gh hk (fun h => h)
       replace B_g34 := kp_blk B_g34 hk (fun h => h)
       replace K_0 := K_0.then_ hk (fun _ h => h.elim)
       refine ⟨_, rfl, ?_⟩; clear hE a; intro a hE
       refine ⟨⟨B_gh, trivial⟩, ?_⟩
       refine Rv.dm ns71_3 hE ⟨B_gh, trivial⟩ (Rv.dg (v := Value.bool false) p71_3_25 (wn_some g71_3_14 rfl rfl) (fun W hS => (st_not rfl rfl)) rfl (Rv.dc p71_3_26 (fun W hS => (st_pick rfl rfl)) rfl (Rv.dc p71_3_27 (fun W hS => (st_move rfl)) rfl (Rv.dg p71_3_28 (wn_some g71_3_27 rfl rfl) (fun W hS => (st_move rfl)) rfl (Rv.dg p71_3_29 (wn_some g71_3_27 rfl rfl) (fun W hS => (st_nil rfl)) rfl (Rv.dg (v := Value.pointer (some ⟨gh, 80, none⟩)) p71_3_30 (wn_some g71_3_27 rfl rfl) (fun W hS => (st_fieldAddr Try.underlying96 rfl tS3 rfl rfl)) rfl (Rv.dg (v := Value.int .i64 least) p71_3_31 (wn_some g71_3_27 rfl rfl) (fun W hS => (st_load1 tA3 rfl ((blk_cell hS.1 80).trans rfl))) rfl (Rv.dg (v := Value.bool false) p71_3_32 (wn_some g71_3_27 rfl rfl) (fun W hS => (st_eql (b := false) rfl rfl (decide_eq_false hL0))) rfl (Rv.dc p71_3_33 (fun W hS => (st_pick rfl rfl)) rfl (Rv.dc p71_3_34 (fun W hS => (st_move rfl)) rfl (Rv.dg p71_3_35 (wn_some g71_3_34 rfl rfl) (fun W hS => (st_move rfl)) rfl (Rv.dg p71_3_36 (wn_some g71_3_34 rfl rfl) (fun W hS => (st_nil rfl)) rfl (Rv.dg (v := Value.pointer (some ⟨gh, 78, none⟩)) p71_3_37 (wn_some g71_3_34 rfl rfl) (fun W hS => (st_fieldAddr Try.underlying96 rfl tS3 rfl rfl)) rfl (Rv.dg (v := Value.int .i64 came) p71_3_38 (wn_some g71_3_34 rfl rfl) (fun W hS => (st_load1 tA3 rfl ((blk_cell hS.1 78).trans rfl))) rfl (Rv.dg (v := Value.bool true) p71_3_39 (wn_some g71_3_34 rfl rfl) (fun W hS => (st_neq (b := true) rfl rfl (by rw [decide_eq_false hCM]; rfl))) rfl (Rv.dg p71_3_40 (wn_some g71_3_34 rfl rfl) (fun W hS => (st_move rfl)) rfl (Rv.dg p71_3_41 (wn_some g71_3_40 rfl rfl) (fun W hS => (st_move rfl)) rfl (Rv.dg p71_3_42 (wn_some g71_3_40 rfl rfl) (fun W hS => (st_nil rfl)) rfl (Rv.dg (v := Value.pointer (some ⟨gh, 78, none⟩)) p71_3_43 (wn_some g71_3_40 rfl rfl) (fun W hS => (st_fieldAddr Try.underlying96 rfl tS3 rfl rfl)) rfl (Rv.dg (v := Value.int .i64 came) p71_3_44 (wn_some g71_3_40 rfl rfl) (fun W hS => (st_load1 tA3 rfl ((blk_cell hS.1 78).trans rfl))) rfl Rv.dn)))))))))))))))))))) ?_; clear hE a; intro a hE
       refine d_one (by kernel_rfl) rfl (s_call (xs := [Operand.tmp 56]) (args := [Value.int .i64 came]) p71_3_45 hE (wn_some g71_3_40 rfl rfl) rfl rfl Try.func30 cl30 (knode came _) ?_)
       rintro e w38 ⟨he, hk⟩
       obtain rfl := he.trans (congrArg (fun b => Ending.returned (Value.bool b)) hNB9)
       replace B_gh := kp_blk B_gh hk (fun h => h)
       replace B_g34 := kp_blk B_g34 hk (fun h => h)
       replace K_0 := K_0.then_ hk (fun _ h => h.elim)
       refine ⟨_, rfl, ?_⟩; clear hE a; intro a hE
       refine ⟨⟨B_gh, trivial⟩, ?_⟩
       refine Rv.dm ns71_3 hE ⟨B_gh, trivial⟩ (Rv.dg (v := Value.bool true) p71_3_46 (wn_some g71_3_40 rfl rfl) (fun W hS => (st_not rfl rfl)) rfl (Rv.dg p71_3_47 (wn_some g71_3_34 rfl rfl) (fun W hS => (st_pick rfl rfl)) rfl (Rv.dc p71_3_48 (fun W hS => (st_pick rfl rfl)) rfl (Rv.dc p71_3_49 (fun W hS => (st_assign rfl)) rfl Rv.dn)))) ?_; clear hE a; intro a hE
       refine d_end (by kernel_rfl) ?_
       refine x_norm ?_
       refine c_cond (t := true) hE rfl ?_
       refine c_reg R71_4_l ?_
       refine q0 p71_4_0 hE (st_assign rfl) ?_; clear hE a; intro a hE
       refine p_nil (x_norm (wp_ret (x_retB (x_ret ?_))))
       refine ret_one (v := Value.int .i64 1) rfl hE (.tmp rfl .nil) ?_
       have e0 : argB cl fw hp ins rk num l.length nd pf came own least = false := by unfold argB; simp only [decide_eq_true hCE, decide_eq_false hL0, decide_eq_false hCM, hRV, hVB, hNB9, Bool.and_true, Bool.true_and, Bool.and_false, Bool.false_and, Bool.or_true, Bool.true_or, Bool.or_false, Bool.false_or, Bool.not_true, Bool.not_false, Bool.and_self, Bool.or_self]
       exact h1 e0 _ B_gh K_0
   ·
    have hVB9 : validB own least = false := by simpa using hVB
    refine c_drawS (S := fun W => W.heap[gh]? = some (.cells (HA cl fw ln nx hp sa da true mv dn wr fa ins rk num T l.length cT nd pf rt RV tg came own least wg).toArray 96 (0, 0)) ∧ True) rfl rfl (listed := #[ι, ι, ι, ι, ι, ι, ι, ι, ι, ι, ι, ι, ι, ι, ι, ι, ι, ι, ι, ι, ι, ι, ι, ι, ι, ι, ι, ι, ι, ι, ι, ι, ι, ι, ι, ι, ι, ι, ι, ι, ι, ι, ι, ι, ι, ι, ι, ι, ι, ι]) rfl ?_
    intro w39 hh hk
    replace B_gh := kp_blk B_gh hk (fun h => h)
    replace K_0 := K_0.then_ hk (fun _ h => h.elim)
    clear hh hk
    refine Rv.dm ns71_3 hE ⟨B_gh, trivial⟩ (Rv.dc p71_3_0 (fun W hS => (st_move rfl)) rfl (Rv.dc p71_3_1 (fun W hS => (st_nil rfl)) rfl (Rv.dc (v := Value.pointer (some ⟨gh, 0, none⟩)) p71_3_2 (fun W hS => (st_fieldAddr Try.underlying96 rfl tS35 rfl rfl)) rfl (Rv.dc (v := Value.agg (PA cl fw ln nx hp sa da true mv dn wr fa ins rk num T l.length cT).toArray) p71_3_3 (fun W hS => (st_loadN (off := 0) (k := 73) (vs := (PA cl fw ln nx hp sa da true mv dn wr fa ins rk num T l.length cT)) tA35 tS35 rfl hS.1 rfl rfl)) rfl Rv.dn)))) ?_; clear hE a; intro a hE
    refine d_one (by kernel_rfl) rfl (s_call (xs := [Operand.tmp 15]) (args := [Value.agg (PA cl fw ln nx hp sa da true mv dn wr fa ins rk num T l.length cT).toArray]) p71_3_4 hE wn_none rfl rfl Try.func33 cl33 (dchk_any cl fw ln nx hp sa da mv dn wr fa ins rk num T cT l _ (fun W' hk => F_T W' (K_0.then_ hk (fun _ h => h.elim))) hml) ?_)
    rintro e w40 ⟨rfl, hk⟩
    replace B_gh := kp_blk B_gh hk (fun h => h)
    replace K_0 := K_0.then_ hk (fun _ h => h.elim)
    refine ⟨_, rfl, ?_⟩; clear hE a; intro a hE
    refine ⟨⟨B_gh, trivial⟩, ?_⟩
    refine Rv.dm ns71_3 hE ⟨B_gh, trivial⟩ (Rv.dc (v := Value.bool false) p71_3_5 (fun W hS => (st_neq (b := false) rfl rfl (by rw [decide_eq_true hCE]; rfl))) rfl (Rv.dc p71_3_6 (fun W hS => (st_move rfl)) rfl (Rv.dg p71_3_7 (wn_some g71_3_6 rfl rfl) (fun W hS => (st_move rfl)) rfl (Rv.dg p71_3_8 (wn_some g71_3_6 rfl rfl) (fun W hS => (st_nil rfl)) rfl (Rv.dg (v := Value.pointer (some ⟨gh, 73, none⟩)) p71_3_9 (wn_some g71_3_6 rfl rfl) (fun W hS => (st_fieldAddr Try.underlying96 rfl tS41 rfl rfl)) rfl (Rv.dg (v := Value.agg #[Value.int .i64 nd, Value.int .i64 pf, Value.bool rt, RV]) p71_3_10 (wn_some g71_3_6 rfl rfl) (fun W hS => (st_loadN (off := 73) (k := 4) (vs := [Value.int .i64 nd, Value.int .i64 pf, Value.bool rt, RV]) tA41 tS41 rfl hS.1 rfl rfl)) rfl Rv.dn)))))) ?_; clear hE a; intro a hE
    refine d_one (by kernel_rfl) rfl (s_call (xs := [Operand.tmp 22]) (args := [Value.agg #[Value.int .i64 nd, Value.int .i64 pf, Value.bool rt, RV]]) p71_3_11 hE (wn_some g71_3_6 rfl rfl) rfl rfl Try.func29 cl29 (rcheck nd pf rt RV _) ?_)
    rintro e w41 ⟨he, hk⟩
    obtain rfl := he.trans (congrArg (fun b => Ending.returned (Value.int .i64 (bif b then 0 else 1))) hRV)
    replace B_gh := kp_blk B_gh hk (fun h => h)
    replace K_0 := K_0.then_ hk (fun _ h => h.elim)
    refine ⟨_, rfl, ?_⟩; clear hE a; intro a hE
    refine ⟨⟨B_gh, trivial⟩, ?_⟩
    refine Rv.dm ns71_3 hE ⟨B_gh, trivial⟩ (Rv.dg (v := Value.bool false) p71_3_12 (wn_some g71_3_6 rfl rfl) (fun W hS => (st_neq (b := false) rfl rfl (by decide))) rfl (Rv.dc p71_3_13 (fun W hS => (st_pick rfl rfl)) rfl (Rv.dc p71_3_14 (fun W hS => (st_move rfl)) rfl (Rv.dg p71_3_15 (wn_some g71_3_14 rfl rfl) (fun W hS => (st_move rfl)) rfl (Rv.dg p71_3_16 (wn_some g71_3_14 rfl rfl) (fun W hS => (st_nil rfl)) rfl (Rv.dg (v := Value.pointer (some ⟨gh, 79, none⟩)) p71_3_17 (wn_some g71_3_14 rfl rfl) (fun W hS => (st_fieldAddr Try.underlying96 rfl tS3 rfl rfl)) rfl (Rv.dg (v := Value.int .i64 own) p71_3_18 (wn_some g71_3_14 rfl rfl) (fun W hS => (st_load1 tA3 rfl ((blk_cell hS.1 79).trans rfl))) rfl (Rv.dg p71_3_19 (wn_some g71_3_14 rfl rfl) (fun W hS => (st_move rfl)) rfl (Rv.dg p71_3_20 (wn_some g71_3_14 rfl rfl) (fun W hS => (st_nil rfl)) rfl (Rv.dg (v := Value.pointer (some ⟨gh, 80, none⟩)) p71_3_21 (wn_some g71_3_14 rfl rfl) (fun W hS => (st_fieldAddr Try.underlying96 rfl tS3 rfl rfl)) rfl (Rv.dg (v := Value.int .i64 least) p71_3_22 (wn_some g71_3_14 rfl rfl) (fun W hS => (st_load1 tA3 rfl ((blk_cell hS.1 80).trans rfl))) rfl Rv.dn))))))))))) ?_; clear hE a; intro a hE
    refine d_one (by kernel_rfl) rfl (s_row (xs := [(0, Operand.tmp 30), (1, Operand.tmp 34)]) (vs := [(0, Value.int .i64 own), (1, Value.int .i64 least)]) (cs := #[Value.int .i64 own, Value.int .i64 least]) p71_3_23 hE (wn_some g71_3_14 rfl rfl) rfl Try.underlying22 rfl (by kernel_rfl) ?_)
    clear hE a; intro g42 w43 z44 B_g42 hk a hE
    have n_gh_g42 : gh ≠ g42 := ne_new B_gh z44
    have z_0_g42 := Nat.le_trans K_0.kept.1 z44
    replace B_gh := kp_blk B_gh hk (fun h => h)
    replace K_0 := K_0.then_ hk (fun _ h => h.elim)
    clear hk
    refine ⟨⟨B_gh, trivial⟩, ?_⟩
    refine d_one (by kernel_rfl) rfl (s_call (xs := [Operand.tmp 35]) (args := [Value.slice (some ⟨g42, 0, none⟩) 2 2]) p71_3_24 hE (wn_some g71_3_14 rfl rfl) rfl rfl Try.func108 cl108 (valid_2 g42 own least _ B_g42) ?_)
    rintro e w45 ⟨he, hk⟩
    obtain rfl := he.trans (congrArg (fun b => Ending.returned (Value.bool b)) hVB9)
    replace B_gh := kp_blk B_gh hk (fun h => h)
    replace B_g42 := kp_blk B_g42 hk (fun h => h)
    replace K_0 := K_0.then_ hk (fun _ h => h.elim)
    refine ⟨_, rfl, ?_⟩; clear hE a; intro a hE
    refine ⟨⟨B_gh, trivial⟩, ?_⟩
    refine Rv.dm ns71_3 hE ⟨B_gh, trivial⟩ (Rv.dg (v := Value.bool true) p71_3_25 (wn_some g71_3_14 rfl rfl) (fun W hS => (st_not rfl rfl)) rfl (Rv.dc p71_3_26 (fun W hS => (st_pick rfl rfl)) rfl (Rv.dc p71_3_27 (fun W hS => (st_move rfl)) rfl (Rv.ds p71_3_28 (wn_some g71_3_27 rfl rfl) (Rv.ds p71_3_29 (wn_some g71_3_27 rfl rfl) (Rv.ds p71_3_30 (wn_some g71_3_27 rfl rfl) (Rv.ds p71_3_31 (wn_some g71_3_27 rfl rfl) (Rv.ds p71_3_32 (wn_some g71_3_27 rfl rfl) (Rv.dc p71_3_33 (fun W hS => (st_pick rfl rfl)) rfl (Rv.dc p71_3_34 (fun W hS => (st_move rfl)) rfl (Rv.ds p71_3_35 (wn_some g71_3_34 rfl rfl) (Rv.ds p71_3_36 (wn_some g71_3_34 rfl rfl) (Rv.ds p71_3_37 (wn_some g71_3_34 rfl rfl) (Rv.ds p71_3_38 (wn_some g71_3_34 rfl rfl) (Rv.ds p71_3_39 (wn_some g71_3_34 rfl rfl) (Rv.ds p71_3_40 (wn_some g71_3_34 rfl rfl) (Rv.ds p71_3_41 (wn_undef g71_3_40 rfl) (Rv.ds p71_3_42 (wn_undef g71_3_40 rfl) (Rv.ds p71_3_43 (wn_undef g71_3_40 rfl) (Rv.ds p71_3_44 (wn_undef g71_3_40 rfl) (Rv.ds p71_3_45 (wn_undef g71_3_40 rfl) (Rv.ds p71_3_46 (wn_undef g71_3_40 rfl) (Rv.ds p71_3_47 (wn_some g71_3_34 rfl rfl) (Rv.dc p71_3_48 (fun W hS => (st_pick rfl rfl)) rfl (Rv.dc p71_3_49 (fun W hS => (st_assign rfl)) rfl Rv.dn))))))))))))))))))))))))) ?_; clear hE a; intro a hE
    refine d_end (by kernel_rfl) ?_
    refine x_norm ?_
    refine c_cond (t := true) hE rfl ?_
    refine c_reg R71_4_l ?_
    refine q0 p71_4_0 hE (st_assign rfl) ?_; clear hE a; intro a hE
    refine p_nil (x_norm (wp_ret (x_retB (x_ret ?_))))
    refine ret_one (v := Value.int .i64 1) rfl hE (.tmp rfl .nil) ?_
    have e0 : argB cl fw hp ins rk num l.length nd pf came own least = false := by unfold argB; simp only [decide_eq_true hCE, hRV, hVB9, Bool.and_true, Bool.true_and, Bool.and_false, Bool.false_and, Bool.or_true, Bool.true_or, Bool.or_false, Bool.false_or, Bool.not_true, Bool.not_false, Bool.and_self, Bool.or_self]
    exact h1 e0 _ B_gh K_0
  ·
   have hRV9 : rightV nd pf = false := by simpa using hRV
   refine c_drawS (S := fun W => W.heap[gh]? = some (.cells (HA cl fw ln nx hp sa da true mv dn wr fa ins rk num T l.length cT nd pf rt RV tg came own least wg).toArray 96 (0, 0)) ∧ True) rfl rfl (listed := #[ι, ι, ι, ι, ι, ι, ι, ι, ι, ι, ι, ι, ι, ι, ι, ι, ι, ι, ι, ι, ι, ι, ι, ι, ι, ι, ι, ι, ι, ι, ι, ι, ι, ι, ι, ι, ι, ι, ι, ι, ι, ι, ι, ι, ι, ι, ι, ι, ι, ι]) rfl ?_
   intro w46 hh hk
   replace B_gh := kp_blk B_gh hk (fun h => h)
   replace K_0 := K_0.then_ hk (fun _ h => h.elim)
   clear hh hk
   refine Rv.dm ns71_3 hE ⟨B_gh, trivial⟩ (Rv.dc p71_3_0 (fun W hS => (st_move rfl)) rfl (Rv.dc p71_3_1 (fun W hS => (st_nil rfl)) rfl (Rv.dc (v := Value.pointer (some ⟨gh, 0, none⟩)) p71_3_2 (fun W hS => (st_fieldAddr Try.underlying96 rfl tS35 rfl rfl)) rfl (Rv.dc (v := Value.agg (PA cl fw ln nx hp sa da true mv dn wr fa ins rk num T l.length cT).toArray) p71_3_3 (fun W hS => (st_loadN (off := 0) (k := 73) (vs := (PA cl fw ln nx hp sa da true mv dn wr fa ins rk num T l.length cT)) tA35 tS35 rfl hS.1 rfl rfl)) rfl Rv.dn)))) ?_; clear hE a; intro a hE
   refine d_one (by kernel_rfl) rfl (s_call (xs := [Operand.tmp 15]) (args := [Value.agg (PA cl fw ln nx hp sa da true mv dn wr fa ins rk num T l.length cT).toArray]) p71_3_4 hE wn_none rfl rfl Try.func33 cl33 (dchk_any cl fw ln nx hp sa da mv dn wr fa ins rk num T cT l _ (fun W' hk => F_T W' (K_0.then_ hk (fun _ h => h.elim))) hml) ?_)
   rintro e w47 ⟨rfl, hk⟩
   replace B_gh := kp_blk B_gh hk (fun h => h)
   replace K_0 := K_0.then_ hk (fun _ h => h.elim)
   refine ⟨_, rfl, ?_⟩; clear hE a; intro a hE
   refine ⟨⟨B_gh, trivial⟩, ?_⟩
   refine Rv.dm ns71_3 hE ⟨B_gh, trivial⟩ (Rv.dc (v := Value.bool false) p71_3_5 (fun W hS => (st_neq (b := false) rfl rfl (by rw [decide_eq_true hCE]; rfl))) rfl (Rv.dc p71_3_6 (fun W hS => (st_move rfl)) rfl (Rv.dg p71_3_7 (wn_some g71_3_6 rfl rfl) (fun W hS => (st_move rfl)) rfl (Rv.dg p71_3_8 (wn_some g71_3_6 rfl rfl) (fun W hS => (st_nil rfl)) rfl (Rv.dg (v := Value.pointer (some ⟨gh, 73, none⟩)) p71_3_9 (wn_some g71_3_6 rfl rfl) (fun W hS => (st_fieldAddr Try.underlying96 rfl tS41 rfl rfl)) rfl (Rv.dg (v := Value.agg #[Value.int .i64 nd, Value.int .i64 pf, Value.bool rt, RV]) p71_3_10 (wn_some g71_3_6 rfl rfl) (fun W hS => (st_loadN (off := 73) (k := 4) (vs := [Value.int .i64 nd, Value.int .i64 pf, Value.bool rt, RV]) tA41 tS41 rfl hS.1 rfl rfl)) rfl Rv.dn)))))) ?_; clear hE a; intro a hE
   refine d_one (by kernel_rfl) rfl (s_call (xs := [Operand.tmp 22]) (args := [Value.agg #[Value.int .i64 nd, Value.int .i64 pf, Value.bool rt, RV]]) p71_3_11 hE (wn_some g71_3_6 rfl rfl) rfl rfl Try.func29 cl29 (rcheck nd pf rt RV _) ?_)
   rintro e w48 ⟨he, hk⟩
   obtain rfl := he.trans (congrArg (fun b => Ending.returned (Value.int .i64 (bif b then 0 else 1))) hRV9)
   replace B_gh := kp_blk B_gh hk (fun h => h)
   replace K_0 := K_0.then_ hk (fun _ h => h.elim)
   refine ⟨_, rfl, ?_⟩; clear hE a; intro a hE
   refine ⟨⟨B_gh, trivial⟩, ?_⟩
   refine Rv.dm ns71_3 hE ⟨B_gh, trivial⟩ (Rv.dg (v := Value.bool true) p71_3_12 (wn_some g71_3_6 rfl rfl) (fun W hS => (st_neq (b := true) rfl rfl (by decide))) rfl (Rv.dc p71_3_13 (fun W hS => (st_pick rfl rfl)) rfl (Rv.dc p71_3_14 (fun W hS => (st_move rfl)) rfl (Rv.ds p71_3_15 (wn_some g71_3_14 rfl rfl) (Rv.ds p71_3_16 (wn_some g71_3_14 rfl rfl) (Rv.ds p71_3_17 (wn_some g71_3_14 rfl rfl) (Rv.ds p71_3_18 (wn_some g71_3_14 rfl rfl) (Rv.ds p71_3_19 (wn_some g71_3_14 rfl rfl) (Rv.ds p71_3_20 (wn_some g71_3_14 rfl rfl) (Rv.ds p71_3_21 (wn_some g71_3_14 rfl rfl) (Rv.ds p71_3_22 (wn_some g71_3_14 rfl rfl) (Rv.ds p71_3_23 (wn_some g71_3_14 rfl rfl) (Rv.ds p71_3_24 (wn_some g71_3_14 rfl rfl) (Rv.ds p71_3_25 (wn_some g71_3_14 rfl rfl) (Rv.dc p71_3_26 (fun W hS => (st_pick rfl rfl)) rfl (Rv.dc p71_3_27 (fun W hS => (st_move rfl)) rfl (Rv.ds p71_3_28 (wn_some g71_3_27 rfl rfl) (Rv.ds p71_3_29 (wn_some g71_3_27 rfl rfl) (Rv.ds p71_3_30 (wn_some g71_3_27 rfl rfl) (Rv.ds p71_3_31 (wn_some g71_3_27 rfl rfl) (Rv.ds p71_3_32 (wn_some g71_3_27 rfl rfl) (Rv.dc p71_3_33 (fun W hS => (st_pick rfl rfl)) rfl (Rv.dc p71_3_34 (fun W hS => (st_move rfl)) rfl (Rv.ds p71_3_35 (wn_some g71_3_34 rfl rfl) (Rv.ds p71_3_36 (wn_some g71_3_34 rfl rfl) (Rv.ds p71_3_37 (wn_some g71_3_34 rfl rfl) (Rv.ds p71_3_38 (wn_some g71_3_34 rfl rfl) (Rv.ds p71_3_39 (wn_some g71_3_34 rfl rfl) (Rv.ds p71_3_40 (wn_some g71_3_34 rfl rfl) (Rv.ds p71_3_41 (wn_undef g71_3_40 rfl) Rv.dn)))))))))))))))))))))))))))))) ?_; clear hE a; intro a hE
   refine Rv.dm ns71_3 hE ⟨B_gh, trivial⟩ (Rv.ds p71_3_42 (wn_undef g71_3_40 rfl) (Rv.ds p71_3_43 (wn_undef g71_3_40 rfl) (Rv.ds p71_3_44 (wn_undef g71_3_40 rfl) (Rv.ds p71_3_45 (wn_undef g71_3_40 rfl) (Rv.ds p71_3_46 (wn_undef g71_3_40 rfl) (Rv.ds p71_3_47 (wn_some g71_3_34 rfl rfl) (Rv.dc p71_3_48 (fun W hS => (st_pick rfl rfl)) rfl (Rv.dc p71_3_49 (fun W hS => (st_assign rfl)) rfl Rv.dn)))))))) ?_; clear hE a; intro a hE
   refine d_end (by kernel_rfl) ?_
   refine x_norm ?_
   refine c_cond (t := true) hE rfl ?_
   refine c_reg R71_4_l ?_
   refine q0 p71_4_0 hE (st_assign rfl) ?_; clear hE a; intro a hE
   refine p_nil (x_norm (wp_ret (x_retB (x_ret ?_))))
   refine ret_one (v := Value.int .i64 1) rfl hE (.tmp rfl .nil) ?_
   have e0 : argB cl fw hp ins rk num l.length nd pf came own least = false := by unfold argB; simp only [decide_eq_true hCE, hRV9, Bool.and_true, Bool.true_and, Bool.and_false, Bool.false_and, Bool.or_true, Bool.true_or, Bool.or_false, Bool.false_or, Bool.not_true, Bool.not_false, Bool.and_self, Bool.or_self]
   exact h1 e0 _ B_gh K_0
 ·
  refine c_drawS (S := fun W => W.heap[gh]? = some (.cells (HA cl fw ln nx hp sa da true mv dn wr fa ins rk num T l.length cT nd pf rt RV tg came own least wg).toArray 96 (0, 0)) ∧ True) rfl rfl (listed := #[ι, ι, ι, ι, ι, ι, ι, ι, ι, ι, ι, ι, ι, ι, ι, ι, ι, ι, ι, ι, ι, ι, ι, ι, ι, ι, ι, ι, ι, ι, ι, ι, ι, ι, ι, ι, ι, ι, ι, ι, ι, ι, ι, ι, ι, ι, ι, ι, ι, ι]) rfl ?_
  intro w49 hh hk
  replace B_gh := kp_blk B_gh hk (fun h => h)
  replace K_0 := K_0.then_ hk (fun _ h => h.elim)
  clear hh hk
  refine Rv.dm ns71_3 hE ⟨B_gh, trivial⟩ (Rv.dc p71_3_0 (fun W hS => (st_move rfl)) rfl (Rv.dc p71_3_1 (fun W hS => (st_nil rfl)) rfl (Rv.dc (v := Value.pointer (some ⟨gh, 0, none⟩)) p71_3_2 (fun W hS => (st_fieldAddr Try.underlying96 rfl tS35 rfl rfl)) rfl (Rv.dc (v := Value.agg (PA cl fw ln nx hp sa da true mv dn wr fa ins rk num T l.length cT).toArray) p71_3_3 (fun W hS => (st_loadN (off := 0) (k := 73) (vs := (PA cl fw ln nx hp sa da true mv dn wr fa ins rk num T l.length cT)) tA35 tS35 rfl hS.1 rfl rfl)) rfl Rv.dn)))) ?_; clear hE a; intro a hE
  refine d_one (by kernel_rfl) rfl (s_call (xs := [Operand.tmp 15]) (args := [Value.agg (PA cl fw ln nx hp sa da true mv dn wr fa ins rk num T l.length cT).toArray]) p71_3_4 hE wn_none rfl rfl Try.func33 cl33 (dchk_any cl fw ln nx hp sa da mv dn wr fa ins rk num T cT l _ (fun W' hk => F_T W' (K_0.then_ hk (fun _ h => h.elim))) hml) ?_)
  rintro e w50 ⟨rfl, hk⟩
  replace B_gh := kp_blk B_gh hk (fun h => h)
  replace K_0 := K_0.then_ hk (fun _ h => h.elim)
  refine ⟨_, rfl, ?_⟩; clear hE a; intro a hE
  refine ⟨⟨B_gh, trivial⟩, ?_⟩
  refine Rv.dm ns71_3 hE ⟨B_gh, trivial⟩ (Rv.dc (v := Value.bool true) p71_3_5 (fun W hS => (st_neq (b := true) rfl rfl (by rw [decide_eq_false hCE]; rfl))) rfl (Rv.dc p71_3_6 (fun W hS => (st_move rfl)) rfl (Rv.ds p71_3_7 (wn_some g71_3_6 rfl rfl) (Rv.ds p71_3_8 (wn_some g71_3_6 rfl rfl) (Rv.ds p71_3_9 (wn_some g71_3_6 rfl rfl) (Rv.ds p71_3_10 (wn_some g71_3_6 rfl rfl) (Rv.ds p71_3_11 (wn_some g71_3_6 rfl rfl) (Rv.ds p71_3_12 (wn_some g71_3_6 rfl rfl) (Rv.dc p71_3_13 (fun W hS => (st_pick rfl rfl)) rfl (Rv.dc p71_3_14 (fun W hS => (st_move rfl)) rfl (Rv.ds p71_3_15 (wn_some g71_3_14 rfl rfl) (Rv.ds p71_3_16 (wn_some g71_3_14 rfl rfl) (Rv.ds p71_3_17 (wn_some g71_3_14 rfl rfl) (Rv.ds p71_3_18 (wn_some g71_3_14 rfl rfl) (Rv.ds p71_3_19 (wn_some g71_3_14 rfl rfl) (Rv.ds p71_3_20 (wn_some g71_3_14 rfl rfl) (Rv.ds p71_3_21 (wn_some g71_3_14 rfl rfl) (Rv.ds p71_3_22 (wn_some g71_3_14 rfl rfl) (Rv.ds p71_3_23 (wn_some g71_3_14 rfl rfl) (Rv.ds p71_3_24 (wn_some g71_3_14 rfl rfl) (Rv.ds p71_3_25 (wn_some g71_3_14 rfl rfl) (Rv.dc p71_3_26 (fun W hS => (st_pick rfl rfl)) rfl (Rv.dc p71_3_27 (fun W hS => (st_move rfl)) rfl (Rv.ds p71_3_28 (wn_some g71_3_27 rfl rfl) (Rv.ds p71_3_29 (wn_some g71_3_27 rfl rfl) (Rv.ds p71_3_30 (wn_some g71_3_27 rfl rfl) (Rv.ds p71_3_31 (wn_some g71_3_27 rfl rfl) (Rv.ds p71_3_32 (wn_some g71_3_27 rfl rfl) (Rv.dc p71_3_33 (fun W hS => (st_pick rfl rfl)) rfl (Rv.dc p71_3_34 (fun W hS => (st_move rfl)) rfl Rv.dn)))))))))))))))))))))))))))))) ?_; clear hE a; intro a hE
  refine Rv.dm ns71_3 hE ⟨B_gh, trivial⟩ (Rv.ds p71_3_35 (wn_some g71_3_34 rfl rfl) (Rv.ds p71_3_36 (wn_some g71_3_34 rfl rfl) (Rv.ds p71_3_37 (wn_some g71_3_34 rfl rfl) (Rv.ds p71_3_38 (wn_some g71_3_34 rfl rfl) (Rv.ds p71_3_39 (wn_some g71_3_34 rfl rfl) (Rv.ds p71_3_40 (wn_some g71_3_34 rfl rfl) (Rv.ds p71_3_41 (wn_undef g71_3_40 rfl) (Rv.ds p71_3_42 (wn_undef g71_3_40 rfl) (Rv.ds p71_3_43 (wn_undef g71_3_40 rfl) (Rv.ds p71_3_44 (wn_undef g71_3_40 rfl) (Rv.ds p71_3_45 (wn_undef g71_3_40 rfl) (Rv.ds p71_3_46 (wn_undef g71_3_40 rfl) (Rv.ds p71_3_47 (wn_some g71_3_34 rfl rfl) (Rv.dc p71_3_48 (fun W hS => (st_pick rfl rfl)) rfl (Rv.dc p71_3_49 (fun W hS => (st_assign rfl)) rfl Rv.dn))))))))))))))) ?_; clear hE a; intro a hE
  refine d_end (by kernel_rfl) ?_
  refine x_norm ?_
  refine c_cond (t := true) hE rfl ?_
  refine c_reg R71_4_l ?_
  refine q0 p71_4_0 hE (st_assign rfl) ?_; clear hE a; intro a hE
  refine p_nil (x_norm (wp_ret (x_retB (x_ret ?_))))
  refine ret_one (v := Value.int .i64 1) rfl hE (.tmp rfl .nil) ?_
  have e0 : argB cl fw hp ins rk num l.length nd pf came own least = false := by unfold argB; simp only [decide_eq_false hCE, Bool.and_true, Bool.true_and, Bool.and_false, Bool.false_and, Bool.or_true, Bool.true_or, Bool.or_false, Bool.false_or, Bool.not_true, Bool.not_false, Bool.and_self, Bool.or_self]
  exact h1 e0 _ B_gh K_0
theorem R72_0_l : List.range (regOf Try.f72 0).size = [0] := by kernel_rfl
theorem R72_2_l : List.range (regOf Try.f72 2).size = [0, 1, 2] := by kernel_rfl
theorem R72_3_l : List.range (regOf Try.f72 3).size = [0] := by kernel_rfl
theorem body72 : Try.f72.body = some (.seq (.region 0 (regOf Try.f72 0) false) (.seq (.seq (.region 1 (regOf Try.f72 1) true) (.cond (Operand.tmp 12) (.seq (.region 2 (regOf Try.f72 2) false) (.ret)) (.skip))) (.seq (.region 3 (regOf Try.f72 3) false) (.ret)))) := by kernel_rfl
theorem p72_0_0 : pj (regOf Try.f72 0) 0 = some (some 2, .assign (.const (.int .i64 0)), 36, none) := by kernel_rfl
theorem ns72_1 : Region.noSelect (regOf Try.f72 1) = true := by kernel_rfl
theorem p72_1_0 : pj (regOf Try.f72 1) 0 = some (some 3, .move (.tmp 0), 94, none) := by kernel_rfl
theorem p72_1_1 : pj (regOf Try.f72 1) 1 = some (some 4, .nilCheck (.tmp 3), 0, none) := by kernel_rfl
theorem p72_1_2 : pj (regOf Try.f72 1) 2 = some (some 5, .fieldAddr 96 (.tmp 4) 2, 0, none) := by kernel_rfl
theorem p72_1_3 : pj (regOf Try.f72 1) 3 = some (some 6, .load 3 (.tmp 5), 3, none) := by kernel_rfl
theorem p72_1_4 : pj (regOf Try.f72 1) 4 = some (some 7, .move (.tmp 0), 94, none) := by kernel_rfl
theorem p72_1_5 : pj (regOf Try.f72 1) 5 = some (some 8, .nilCheck (.tmp 7), 0, none) := by kernel_rfl
theorem p72_1_6 : pj (regOf Try.f72 1) 6 = some (some 9, .fieldAddr 96 (.tmp 8) 1, 0, none) := by kernel_rfl
theorem p72_1_7 : pj (regOf Try.f72 1) 7 = some (some 10, .fieldAddr 41 (.tmp 9) 0, 0, none) := by kernel_rfl
theorem p72_1_8 : pj (regOf Try.f72 1) 8 = some (some 11, .load 3 (.tmp 10), 3, none) := by kernel_rfl
theorem p72_1_9 : pj (regOf Try.f72 1) 9 = some (some 12, .binOp .eql 3 (.tmp 6) (.tmp 11) 3, 4, none) := by kernel_rfl
theorem P72_2 : (List.range (regOf Try.f72 2).size).map (pj (regOf Try.f72 2)) = [zz 13 (.move (.tmp 0)) 94, zz 14 (.call { callee := .value (.func 109), args := #[.tmp 13, .const (.int .i64 0), .const (.int .i64 (-1))], argTypes := #[94, 3, 3] }) 36, zz 2 (.assign (.tmp 14)) 36] := by kernel_rfl
theorem cl109 : callable Try.f109 = true := by kernel_rfl
set_option maxHeartbeats 4000000 in
theorem here_y (cl fw ln nx hp : Int) (sa da : Nat → Int) (mv : Nat → Value) (dn wr fa : Bool) (ins rk num : Int) (T : Option Addr) (cT : Nat) (l : List Int) (nd pf : Int) (rt : Bool) (RV : Value) (tg came own least : Int) (wg : Bool) (gh : Nat) (hmv : ∀ j, (mv j).oneCell' = true) (h0 : tg = nd) (w : World) (hB : w.heap[gh]? = some (.cells (HA cl fw ln nx hp sa da true mv dn wr fa ins rk num T l.length cT nd pf rt RV tg came own least wg).toArray 96 (0, 0))) (F_T : ∀ W', Kp w W' (fun k => k = gh) → Kd.C (Kd.int .u8) W' T l.length l) (hml : l.length ≤ 900000) : Calls Try.prog 72 #[Value.pointer (some ⟨gh, 0, none⟩)] w fun e w' => e = .returned (.int .i64 0) ∧ w'.heap[gh]? = some (.cells (HB cl fw ln nx hp sa da true mv dn wr fa ins rk num T l.length cT nd pf rt RV tg came own least 0 (-1) wg).toArray 96 (0, 0)) ∧ Kp w w' (fun k => k = gh) := by
 have K_0 := Kp.refl w (fun k => k = gh)
 have B_gh := hB
 refine enter (args := [Value.pointer (some ⟨gh, 0, none⟩)]) (n := 15) Try.func72 body72 rfl rfl rfl ?_
 intro a hE
 refine c_reg R72_0_l ?_
 refine q0 p72_0_0 hE (st_assign rfl) ?_; clear hE a; intro a hE
 refine p_nil (x_norm (wp_seq ?_))
 refine c_drawS (S := fun W => W.heap[gh]? = some (.cells (HA cl fw ln nx hp sa da true mv dn wr fa ins rk num T l.length cT nd pf rt RV tg came own least wg).toArray 96 (0, 0)) ∧ True) rfl rfl (listed := #[ι, ι, ι, ι, ι, ι, ι, ι, ι, ι]) rfl ?_
 intro w1 hh hk
 replace B_gh := kp_blk B_gh hk (fun h => h)
 replace K_0 := K_0.then_ hk (fun _ h => h.elim)
 clear hh hk
 refine Rv.dm ns72_1 hE ⟨B_gh, trivial⟩ (Rv.dc p72_1_0 (fun W hS => (st_move rfl)) rfl (Rv.dc p72_1_1 (fun W hS => (st_nil rfl)) rfl (Rv.dc (v := Value.pointer (some ⟨gh, 77, none⟩)) p72_1_2 (fun W hS => (st_fieldAddr Try.underlying96 rfl tS3 rfl rfl)) rfl (Rv.dc (v := Value.int .i64 tg) p72_1_3 (fun W hS => (st_load1 tA3 rfl ((blk_cell hS.1 77).trans rfl))) rfl (Rv.dc p72_1_4 (fun W hS => (st_move rfl)) rfl (Rv.dc p72_1_5 (fun W hS => (st_nil rfl)) rfl (Rv.dc (v := Value.pointer (some ⟨gh, 73, none⟩)) p72_1_6 (fun W hS => (st_fieldAddr Try.underlying96 rfl tS41 rfl rfl)) rfl (Rv.dc (v := Value.pointer (some ⟨gh, 73, none⟩)) p72_1_7 (fun W hS => (st_fieldAddr Try.underlying41 rfl tS3 rfl rfl)) rfl (Rv.dc (v := Value.int .i64 nd) p72_1_8 (fun W hS => (st_load1 tA3 rfl ((blk_cell hS.1 73).trans rfl))) rfl (Rv.dc (v := Value.bool true) p72_1_9 (fun W hS => (st_eql (b := true) rfl rfl (decide_eq_true h0))) rfl Rv.dn)))))))))) ?_; clear hE a; intro a hE
 refine d_end (by kernel_rfl) ?_
 refine x_norm ?_
 refine c_cond (t := true) hE rfl ?_
 refine c_reg R72_2_l ?_
 refine q0 (pl P72_2 0) hE (st_move rfl) ?_; clear hE a; intro a hE
 refine p_cons (s_call (xs := [Operand.tmp 13, Operand.const (Value.int IntKind.i64 0), Operand.const (Value.int IntKind.i64 (-1))]) (args := [Value.pointer (some ⟨gh, 0, none⟩), Value.int .i64 0, Value.int .i64 (-1)]) (pl P72_2 1) hE wn_none rfl rfl Try.func109 cl109 (end_any cl fw ln nx hp sa da mv dn wr fa ins rk num T cT l nd pf rt RV tg came own least wg gh 0 (-1) hmv _ B_gh) ?_)
 rintro e w2 ⟨rfl, B_gh', hk⟩
 replace K_0 := K_0.then_ hk (fun k h => by rw [show k = gh from h]; exact Or.inl rfl)
 replace B_gh := B_gh'
 refine ⟨_, rfl, ?_⟩; clear hE a; intro a hE
 refine q0 (pl P72_2 2) hE (st_assign rfl) ?_; clear hE a; intro a hE
 refine p_nil (x_norm (wp_ret (x_ret ?_)))
 refine ret_one (v := Value.int .i64 0) rfl hE (.tmp rfl .nil) ?_
 exact ⟨rfl, B_gh, K_0⟩
theorem p72_3_0 : pj (regOf Try.f72 3) 0 = some (some 2, .assign (.const (.int .i64 0)), 36, none) := by kernel_rfl
set_option maxHeartbeats 4000000 in
theorem here_n (cl fw ln nx hp : Int) (sa da : Nat → Int) (mv : Nat → Value) (dn wr fa : Bool) (ins rk num : Int) (T : Option Addr) (cT : Nat) (l : List Int) (nd pf : Int) (rt : Bool) (RV : Value) (tg came own least : Int) (wg : Bool) (gh : Nat) (hmv : ∀ j, (mv j).oneCell' = true) (h0 : ¬ tg = nd) (w : World) (hB : w.heap[gh]? = some (.cells (HA cl fw ln nx hp sa da true mv dn wr fa ins rk num T l.length cT nd pf rt RV tg came own least wg).toArray 96 (0, 0))) (F_T : ∀ W', Kp w W' (fun k => k = gh) → Kd.C (Kd.int .u8) W' T l.length l) (hml : l.length ≤ 900000) : Calls Try.prog 72 #[Value.pointer (some ⟨gh, 0, none⟩)] w fun e w' => e = .returned (.int .i64 0) ∧ w'.heap[gh]? = some (.cells (HA cl fw ln nx hp sa da true mv dn wr fa ins rk num T l.length cT nd pf rt RV tg came own least wg).toArray 96 (0, 0)) ∧ Kp w w' (fun k => k = gh) := by
 have K_0 := Kp.refl w (fun k => k = gh)
 have B_gh := hB
 refine enter (args := [Value.pointer (some ⟨gh, 0, none⟩)]) (n := 15) Try.func72 body72 rfl rfl rfl ?_
 intro a hE
 refine c_reg R72_0_l ?_
 refine q0 p72_0_0 hE (st_assign rfl) ?_; clear hE a; intro a hE
 refine p_nil (x_norm (wp_seq ?_))
 refine c_drawS (S := fun W => W.heap[gh]? = some (.cells (HA cl fw ln nx hp sa da true mv dn wr fa ins rk num T l.length cT nd pf rt RV tg came own least wg).toArray 96 (0, 0)) ∧ True) rfl rfl (listed := #[ι, ι, ι, ι, ι, ι, ι, ι, ι, ι]) rfl ?_
 intro w1 hh hk
 replace B_gh := kp_blk B_gh hk (fun h => h)
 replace K_0 := K_0.then_ hk (fun _ h => h.elim)
 clear hh hk
 refine Rv.dm ns72_1 hE ⟨B_gh, trivial⟩ (Rv.dc p72_1_0 (fun W hS => (st_move rfl)) rfl (Rv.dc p72_1_1 (fun W hS => (st_nil rfl)) rfl (Rv.dc (v := Value.pointer (some ⟨gh, 77, none⟩)) p72_1_2 (fun W hS => (st_fieldAddr Try.underlying96 rfl tS3 rfl rfl)) rfl (Rv.dc (v := Value.int .i64 tg) p72_1_3 (fun W hS => (st_load1 tA3 rfl ((blk_cell hS.1 77).trans rfl))) rfl (Rv.dc p72_1_4 (fun W hS => (st_move rfl)) rfl (Rv.dc p72_1_5 (fun W hS => (st_nil rfl)) rfl (Rv.dc (v := Value.pointer (some ⟨gh, 73, none⟩)) p72_1_6 (fun W hS => (st_fieldAddr Try.underlying96 rfl tS41 rfl rfl)) rfl (Rv.dc (v := Value.pointer (some ⟨gh, 73, none⟩)) p72_1_7 (fun W hS => (st_fieldAddr Try.underlying41 rfl tS3 rfl rfl)) rfl (Rv.dc (v := Value.int .i64 nd) p72_1_8 (fun W hS => (st_load1 tA3 rfl ((blk_cell hS.1 73).trans rfl))) rfl (Rv.dc (v := Value.bool false) p72_1_9 (fun W hS => (st_eql (b := false) rfl rfl (decide_eq_false h0))) rfl Rv.dn)))))))))) ?_; clear hE a; intro a hE
 refine d_end (by kernel_rfl) ?_
 refine x_norm ?_
 refine c_cond (t := false) hE rfl ?_
 refine wp_skip (x_norm (c_reg R72_3_l ?_))
 refine q0 p72_3_0 hE (st_assign rfl) ?_; clear hE a; intro a hE
 refine p_nil (x_norm (wp_ret ?_))
 refine ret_one (v := Value.int .i64 0) rfl hE (.tmp rfl .nil) ?_
 exact ⟨rfl, B_gh, K_0⟩
theorem R73_0_l : List.range (regOf Try.f73 0).size = [0] := by kernel_rfl
theorem R73_1_l : List.range (regOf Try.f73 1).size = [0, 1, 2, 3, 4] := by kernel_rfl
theorem R73_2_l : List.range (regOf Try.f73 2).size = [0] := by kernel_rfl
theorem R73_3_l : List.range (regOf Try.f73 3).size = [0, 1, 2, 3, 4, 5, 6] := by kernel_rfl
theorem R73_4_l : List.range (regOf Try.f73 4).size = [0, 1, 2, 3] := by kernel_rfl
theorem R73_5_l : List.range (regOf Try.f73 5).size = [0, 1, 2, 3, 4, 5, 6] := by kernel_rfl
theorem R73_6_l : List.range (regOf Try.f73 6).size = [0, 1, 2, 3, 4, 5, 6, 7] := by kernel_rfl
theorem R73_7_l : List.range (regOf Try.f73 7).size = [0, 1] := by kernel_rfl
theorem body73 : Try.f73.body = some (.seq (.region 0 (regOf Try.f73 0) false) (.seq (.seq (.region 1 (regOf Try.f73 1) false) (.cond (Operand.tmp 9) (.seq (.region 2 (regOf Try.f73 2) false) (.ret)) (.skip))) (.seq (.region 3 (regOf Try.f73 3) false) (.seq (.region 4 (regOf Try.f73 4) false) (.seq (.region 5 (regOf Try.f73 5) false) (.seq (.region 6 (regOf Try.f73 6) false) (.seq (.region 7 (regOf Try.f73 7) false) (.ret)))))))) := by kernel_rfl
theorem p73_0_0 : pj (regOf Try.f73 0) 0 = some (some 2, .assign (.const (.int .i64 0)), 36, none) := by kernel_rfl
theorem P73_1 : (List.range (regOf Try.f73 1).size).map (pj (regOf Try.f73 1)) = [zz 5 (.move (.tmp 0)) 94, zz 6 (.nilCheck (.tmp 5)) 0, zz 7 (.fieldAddr 96 (.tmp 6) 3) 0, zz 8 (.load 3 (.tmp 7)) 3, zz 9 (.binOp .eql 3 (.tmp 8) (.const (.int .i64 (-1))) 3) 4] := by kernel_rfl
theorem p73_2_0 : pj (regOf Try.f73 2) 0 = some (some 2, .assign (.const (.int .i64 0)), 36, none) := by kernel_rfl
set_option maxHeartbeats 4000000 in
theorem pass_0 (cl fw ln nx hp : Int) (sa da : Nat → Int) (mv : Nat → Value) (dn wr fa : Bool) (ins rk num : Int) (T : Option Addr) (cT : Nat) (l : List Int) (nd pf : Int) (rt : Bool) (RV : Value) (tg came own least : Int) (wg : Bool) (gh : Nat) (hmv : ∀ j, (mv j).oneCell' = true) (h0 : came = -1) (w : World) (hB : w.heap[gh]? = some (.cells (HA cl fw ln nx hp sa da true mv dn wr fa ins rk num T l.length cT nd pf rt RV tg came own least wg).toArray 96 (0, 0))) (F_T : ∀ W', Kp w W' (fun k => k = gh) → Kd.C (Kd.int .u8) W' T l.length l) (hml : l.length ≤ 900000) : Calls Try.prog 73 #[Value.pointer (some ⟨gh, 0, none⟩)] w fun e w' => e = .returned (.int .i64 0) ∧ w'.heap[gh]? = some (.cells (HA cl fw ln nx hp sa da true mv dn wr fa ins rk num T l.length cT nd pf rt RV tg came own least wg).toArray 96 (0, 0)) ∧ Kp w w' (fun k => k = gh) := by
 have K_0 := Kp.refl w (fun k => k = gh)
 have B_gh := hB
 refine enter (args := [Value.pointer (some ⟨gh, 0, none⟩)]) (n := 30) Try.func73 body73 rfl rfl rfl ?_
 intro a hE
 refine c_reg R73_0_l ?_
 refine q0 p73_0_0 hE (st_assign rfl) ?_; clear hE a; intro a hE
 refine p_nil (x_norm (wp_seq (c_reg R73_1_l ?_)))
 refine qn hE (rc (pl P73_1 0) (st_move rfl) (rc (pl P73_1 1) (st_nil rfl) (rc (pl P73_1 2) (st_fieldAddr Try.underlying96 rfl tS3 rfl rfl) (rc (pl P73_1 3) (st_load1 tA3 rfl ((blk_cell B_gh 78).trans rfl)) (rc (pl P73_1 4) (st_eql (b := true) rfl rfl (decide_eq_true h0)) rn))))) ?_; clear hE a; intro a hE
 refine p_nil (x_norm ?_)
 refine c_cond (t := true) hE rfl ?_
 refine c_reg R73_2_l ?_
 refine q0 p73_2_0 hE (st_assign rfl) ?_; clear hE a; intro a hE
 refine p_nil (x_norm (wp_ret (x_ret ?_)))
 refine ret_one (v := Value.int .i64 0) rfl hE (.tmp rfl .nil) ?_
 exact ⟨rfl, B_gh, K_0⟩
theorem P73_3 : (List.range (regOf Try.f73 3).size).map (pj (regOf Try.f73 3)) = [zz 10 (.move (.tmp 0)) 94, zz 11 (.nilCheck (.tmp 10)) 0, zz 12 (.fieldAddr 96 (.tmp 11) 0) 0, zz 13 (.fieldAddr 35 (.tmp 12) 0) 0, zz 14 (.load 27 (.tmp 13)) 27, zz 3 (.alloc 27) 0, some (none, .store 27 (.tmp 3) (.tmp 14), 0, none)] := by kernel_rfl
theorem tS27 : (Try.prog.info? 27).map (·.size) = some 37 := by kernel_rfl
theorem tA27 : (Try.prog.underlying 27).map aggD = some true := by kernel_rfl
theorem tZ27 : (Try.prog.info? 27).bind (·.zero) = some (Value.agg (([Value.int .i64 0, Value.int .i64 0, Value.int .i64 0, Value.int .i64 0, Value.int .i64 0] ++ b16 (fun _ => 0) ++ b16 (fun _ => 0))).toArray) := by kernel_rfl
theorem P73_4 : (List.range (regOf Try.f73 4).size).map (pj (regOf Try.f73 4)) = [zz 15 (.fieldAddr 27 (.tmp 3) 2) 0, some (none, .store 3 (.tmp 15) (.const (.int .i64 0)), 0, none), zz 16 (.fieldAddr 27 (.tmp 3) 3) 0, some (none, .store 3 (.tmp 16) (.const (.int .i64 0)), 0, none)] := by kernel_rfl
theorem P73_5 : (List.range (regOf Try.f73 5).size).map (pj (regOf Try.f73 5)) = [zz 18 (.load 27 (.tmp 3)) 27, zz 19 (.call { callee := .value (.func 110), args := #[.tmp 18], argTypes := #[27] }) 182, zz 17 (.move (.tmp 19)) 182, zz 20 (.extract (.tmp 17) 0) 27, zz 21 (.extract (.tmp 17) 1) 36, some (none, .store 27 (.tmp 3) (.tmp 20), 0, none), zz 4 (.assign (.tmp 21)) 36] := by kernel_rfl
theorem cl110 : callable Try.f110 = true := by kernel_rfl
theorem P73_6 : (List.range (regOf Try.f73 6).size).map (pj (regOf Try.f73 6)) = [zz 22 (.move (.tmp 0)) 94, zz 23 (.fieldAddr 27 (.tmp 3) 4) 0, zz 24 (.load 3 (.tmp 23)) 3, zz 25 (.nilCheck (.tmp 22)) 0, zz 26 (.fieldAddr 96 (.tmp 25) 0) 0, zz 27 (.fieldAddr 35 (.tmp 26) 0) 0, zz 28 (.fieldAddr 27 (.tmp 27) 4) 0, some (none, .store 3 (.tmp 28) (.tmp 24), 0, none)] := by kernel_rfl
theorem P73_7 : (List.range (regOf Try.f73 7).size).map (pj (regOf Try.f73 7)) = [zz 29 (.move (.tmp 4)) 36, zz 2 (.assign (.tmp 29)) 36] := by kernel_rfl
set_option maxHeartbeats 4000000 in
theorem pass_y (cl fw ln nx hp : Int) (sa da : Nat → Int) (mv : Nat → Value) (dn wr fa : Bool) (ins rk num : Int) (T : Option Addr) (cT : Nat) (l : List Int) (nd pf : Int) (rt : Bool) (RV : Value) (tg came own least : Int) (wg : Bool) (gh : Nat) (hmv : ∀ j, (mv j).oneCell' = true) (h0 : ¬ came = -1) (hok : okF cl fw 0 0 hp = true) (w : World) (hB : w.heap[gh]? = some (.cells (HA cl fw ln nx hp sa da true mv dn wr fa ins rk num T l.length cT nd pf rt RV tg came own least wg).toArray 96 (0, 0))) (F_T : ∀ W', Kp w W' (fun k => k = gh) → Kd.C (Kd.int .u8) W' T l.length l) (hml : l.length ≤ 900000) : Calls Try.prog 73 #[Value.pointer (some ⟨gh, 0, none⟩)] w fun e w' => (hp < 2 ∧ e = .returned (.int .i64 12) ∧ w'.heap[gh]? = some (.cells (HA cl fw ln nx 0 sa da true mv dn wr fa ins rk num T l.length cT nd pf rt RV tg came own least wg).toArray 96 (0, 0)) ∧ Kp w w' (fun k => k = gh)) ∨ (¬ hp < 2 ∧ e = .returned (.int .i64 0) ∧ w'.heap[gh]? = some (.cells (HA cl fw ln nx (hp - 1) sa da true mv dn wr fa ins rk num T l.length cT nd pf rt RV tg came own least wg).toArray 96 (0, 0)) ∧ Kp w w' (fun k => k = gh)) := by
 have K_0 := Kp.refl w (fun k => k = gh)
 have B_gh := hB
 refine enter (args := [Value.pointer (some ⟨gh, 0, none⟩)]) (n := 30) Try.func73 body73 rfl rfl rfl ?_
 intro a hE
 refine c_reg R73_0_l ?_
 refine q0 p73_0_0 hE (st_assign rfl) ?_; clear hE a; intro a hE
 refine p_nil (x_norm (wp_seq (c_reg R73_1_l ?_)))
 refine qn hE (rc (pl P73_1 0) (st_move rfl) (rc (pl P73_1 1) (st_nil rfl) (rc (pl P73_1 2) (st_fieldAddr Try.underlying96 rfl tS3 rfl rfl) (rc (pl P73_1 3) (st_load1 tA3 rfl ((blk_cell B_gh 78).trans rfl)) (rc (pl P73_1 4) (st_eql (b := false) rfl rfl (decide_eq_false h0)) rn))))) ?_; clear hE a; intro a hE
 refine p_nil (x_norm ?_)
 refine c_cond (t := false) hE rfl ?_
 refine wp_skip (x_norm (c_reg R73_3_l ?_))
 refine qn hE (rc (pl P73_3 0) (st_move rfl) (rc (pl P73_3 1) (st_nil rfl) (rc (pl P73_3 2) (st_fieldAddr Try.underlying96 rfl tS35 rfl rfl) (rc (pl P73_3 3) (st_fieldAddr Try.underlying35 rfl tS27 rfl rfl) (rc (pl P73_3 4) (st_loadN (off := 0) (k := 37) (vs := ([Value.int .i64 cl, Value.int .i64 fw, Value.int .i64 ln, Value.int .i64 nx, Value.int .i64 hp] ++ b16 sa ++ b16 da)) tA27 tS27 rfl B_gh rfl rfl) rn))))) ?_; clear hE a; intro a hE
 refine p_cons (s_alloc (pl P73_3 5) hE wn_none rfl tZ27 ?_)
 clear hE a; intro g1 w2 z3 B_g1 hk a hE
 replace B_g1 : w2.heap[g1]? = some (.cells (([Value.int .i64 0, Value.int .i64 0, Value.int .i64 0, Value.int .i64 0, Value.int .i64 0] ++ b16 (fun _ => 0) ++ b16 (fun _ => 0))).toArray 27 (0, 0)) := B_g1
 have n_gh_g1 : gh ≠ g1 := ne_new B_gh z3
 have z_0_g1 := Nat.le_trans K_0.kept.1 z3
 replace B_gh := kp_blk B_gh hk (fun h => h)
 replace K_0 := K_0.then_ hk (fun _ h => h.elim)
 clear hk
 refine p_cons (s_store (off := 0) (k := 37) (cs' := (([Value.int .i64 cl, Value.int .i64 fw, Value.int .i64 ln, Value.int .i64 nx, Value.int .i64 hp] ++ b16 sa ++ b16 da)).toArray) (pl P73_3 6) hE wn_none tS27 rfl rfl rfl rfl B_g1 (Nat.le_of_ble_eq_true rfl) rfl ?_)
 intro w4 B_g1' hk
 replace B_gh := kp_blk B_gh hk n_gh_g1
 replace K_0 := K_0.then_ hk (fun k h => by rw [show k = g1 from h]; exact Or.inr z_0_g1)
 replace B_g1 := B_g1'
 clear hk
 refine p_nil (x_norm (c_reg R73_4_l ?_))
 refine q0 (pl P73_4 0) hE (st_fieldAddr Try.underlying27 rfl tS3 rfl rfl) ?_; clear hE a; intro a hE
 refine p_cons (s_store (off := 2) (k := 1) (cs' := (([Value.int .i64 cl, Value.int .i64 fw, Value.int .i64 0, Value.int .i64 nx, Value.int .i64 hp] ++ b16 sa ++ b16 da)).toArray) (pl P73_4 1) hE wn_none tS3 rfl rfl rfl rfl B_g1 (Nat.le_of_ble_eq_true rfl) rfl ?_)
 intro w5 B_g1' hk
 replace B_gh := kp_blk B_gh hk n_gh_g1
 replace K_0 := K_0.then_ hk (fun k h => by rw [show k = g1 from h]; exact Or.inr z_0_g1)
 replace B_g1 := B_g1'
 clear hk
 refine q0 (pl P73_4 2) hE (st_fieldAddr Try.underlying27 rfl tS3 rfl rfl) ?_; clear hE a; intro a hE
 refine p_cons (s_store (off := 3) (k := 1) (cs' := (([Value.int .i64 cl, Value.int .i64 fw, Value.int .i64 0, Value.int .i64 0, Value.int .i64 hp] ++ b16 sa ++ b16 da)).toArray) (pl P73_4 3) hE wn_none tS3 rfl rfl rfl rfl B_g1 (Nat.le_of_ble_eq_true rfl) rfl ?_)
 intro w6 B_g1' hk
 replace B_gh := kp_blk B_gh hk n_gh_g1
 replace K_0 := K_0.then_ hk (fun k h => by rw [show k = g1 from h]; exact Or.inr z_0_g1)
 replace B_g1 := B_g1'
 clear hk
 refine p_nil (x_norm ?_)
 rcases Decidable.em (hp < 2) with hLOW | hLOW
 ·
  refine c_reg R73_5_l ?_
  refine q0 (pl P73_5 0) hE (st_loadN (off := 0) (k := 37) (vs := ([Value.int .i64 cl, Value.int .i64 fw, Value.int .i64 0, Value.int .i64 0, Value.int .i64 hp] ++ b16 sa ++ b16 da)) tA27 tS27 rfl B_g1 rfl rfl) ?_; clear hE a; intro a hE
  refine p_cons (s_call (xs := [Operand.tmp 18]) (args := [Value.agg (([Value.int .i64 cl, Value.int .i64 fw, Value.int .i64 0, Value.int .i64 0, Value.int .i64 hp] ++ b16 sa ++ b16 da)).toArray]) (pl P73_5 1) hE wn_none rfl rfl Try.func110 cl110 (passed_low cl fw 0 0 hp sa da hok hLOW _) ?_)
  rintro e w7 ⟨rfl, hk⟩
  replace B_gh := kp_blk B_gh hk (fun h => h)
  replace B_g1 := kp_blk B_g1 hk (fun h => h)
  replace K_0 := K_0.then_ hk (fun _ h => h.elim)
  refine ⟨_, rfl, ?_⟩; clear hE a; intro a hE
  refine qn hE (rc (pl P73_5 2) (st_move rfl) (rc (pl P73_5 3) (st_extract rfl rfl) (rc (pl P73_5 4) (st_extract rfl rfl) rn))) ?_; clear hE a; intro a hE
  refine p_cons (s_store (off := 0) (k := 37) (cs' := (([Value.int .i64 0, Value.int .i64 0, Value.int .i64 0, Value.int .i64 0, Value.int .i64 0] ++ b16 (fun _ => 0) ++ b16 (fun _ => 0))).toArray) (pl P73_5 5) hE wn_none tS27 rfl rfl rfl rfl B_g1 (Nat.le_of_ble_eq_true rfl) rfl ?_)
  intro w8 B_g1' hk
  replace B_gh := kp_blk B_gh hk n_gh_g1
  replace K_0 := K_0.then_ hk (fun k h => by rw [show k = g1 from h]; exact Or.inr z_0_g1)
  replace B_g1 := B_g1'
  clear hk
  refine q0 (pl P73_5 6) hE (st_assign rfl) ?_; clear hE a; intro a hE
  refine p_nil (x_norm (c_reg R73_6_l ?_))
  refine qn hE (rc (pl P73_6 0) (st_move rfl) (rc (pl P73_6 1) (st_fieldAddr Try.underlying27 rfl tS3 rfl rfl) (rc (pl P73_6 2) (st_load1 tA3 rfl ((blk_cell B_g1 4).trans rfl)) (rc (pl P73_6 3) (st_nil rfl) (rc (pl P73_6 4) (st_fieldAddr Try.underlying96 rfl tS35 rfl rfl) (rc (pl P73_6 5) (st_fieldAddr Try.underlying35 rfl tS27 rfl rfl) (rc (pl P73_6 6) (st_fieldAddr Try.underlying27 rfl tS3 rfl rfl) rn))))))) ?_; clear hE a; intro a hE
  refine p_cons (s_store (off := 4) (k := 1) (cs' := (HA cl fw ln nx 0 sa da true mv dn wr fa ins rk num T l.length cT nd pf rt RV tg came own least wg).toArray) (pl P73_6 7) hE wn_none tS3 rfl rfl rfl rfl B_gh (Nat.le_of_ble_eq_true rfl) rfl ?_)
  intro w9 B_gh' hk
  replace B_g1 := kp_blk B_g1 hk (Ne.symm n_gh_g1)
  replace K_0 := K_0.then_ hk (fun k h => by rw [show k = gh from h]; exact Or.inl rfl)
  replace B_gh := B_gh'
  clear hk
  refine p_nil (x_norm (c_reg R73_7_l ?_))
  refine qn hE (rc (pl P73_7 0) (st_move rfl) (rc (pl P73_7 1) (st_assign rfl) rn)) ?_; clear hE a; intro a hE
  refine p_nil (x_norm (wp_ret ?_))
  refine ret_one (v := Value.int .i64 12) rfl hE (.tmp rfl .nil) ?_
  exact .inl ⟨hLOW, rfl, B_gh, K_0⟩
 ·
  refine c_reg R73_5_l ?_
  refine q0 (pl P73_5 0) hE (st_loadN (off := 0) (k := 37) (vs := ([Value.int .i64 cl, Value.int .i64 fw, Value.int .i64 0, Value.int .i64 0, Value.int .i64 hp] ++ b16 sa ++ b16 da)) tA27 tS27 rfl B_g1 rfl rfl) ?_; clear hE a; intro a hE
  refine p_cons (s_call (xs := [Operand.tmp 18]) (args := [Value.agg (([Value.int .i64 cl, Value.int .i64 fw, Value.int .i64 0, Value.int .i64 0, Value.int .i64 hp] ++ b16 sa ++ b16 da)).toArray]) (pl P73_5 1) hE wn_none rfl rfl Try.func110 cl110 (passed_ok cl fw 0 0 hp sa da hok hLOW _) ?_)
  rintro e w10 ⟨rfl, hk⟩
  replace B_gh := kp_blk B_gh hk (fun h => h)
  replace B_g1 := kp_blk B_g1 hk (fun h => h)
  replace K_0 := K_0.then_ hk (fun _ h => h.elim)
  refine ⟨_, rfl, ?_⟩; clear hE a; intro a hE
  refine qn hE (rc (pl P73_5 2) (st_move rfl) (rc (pl P73_5 3) (st_extract rfl rfl) (rc (pl P73_5 4) (st_extract rfl rfl) rn))) ?_; clear hE a; intro a hE
  refine p_cons (s_store (off := 0) (k := 37) (cs' := (([Value.int .i64 cl, Value.int .i64 fw, Value.int .i64 0, Value.int .i64 0, Value.int .i64 (hp - 1)] ++ b16 sa ++ b16 da)).toArray) (pl P73_5 5) hE wn_none tS27 rfl rfl rfl rfl B_g1 (Nat.le_of_ble_eq_true rfl) rfl ?_)
  intro w11 B_g1' hk
  replace B_gh := kp_blk B_gh hk n_gh_g1
  replace K_0 := K_0.then_ hk (fun k h => by rw [show k = g1 from h]; exact Or.inr z_0_g1)
  replace B_g1 := B_g1'
  clear hk
  refine q0 (pl P73_5 6) hE (st_assign rfl) ?_; clear hE a; intro a hE
  refine p_nil (x_norm (c_reg R73_6_l ?_))
  refine qn hE (rc (pl P73_6 0) (st_move rfl) (rc (pl P73_6 1) (st_fieldAddr Try.underlying27 rfl tS3 rfl rfl) (rc (pl P73_6 2) (st_load1 tA3 rfl ((blk_cell B_g1 4).trans rfl)) (rc (pl P73_6 3) (st_nil rfl) (rc (pl P73_6 4) (st_fieldAddr Try.underlying96 rfl tS35 rfl rfl) (rc (pl P73_6 5) (st_fieldAddr Try.underlying35 rfl tS27 rfl rfl) (rc (pl P73_6 6) (st_fieldAddr Try.underlying27 rfl tS3 rfl rfl) rn))))))) ?_; clear hE a; intro a hE
  refine p_cons (s_store (off := 4) (k := 1) (cs' := (HA cl fw ln nx (hp - 1) sa da true mv dn wr fa ins rk num T l.length cT nd pf rt RV tg came own least wg).toArray) (pl P73_6 7) hE wn_none tS3 rfl rfl rfl rfl B_gh (Nat.le_of_ble_eq_true rfl) rfl ?_)
  intro w12 B_gh' hk
  replace B_g1 := kp_blk B_g1 hk (Ne.symm n_gh_g1)
  replace K_0 := K_0.then_ hk (fun k h => by rw [show k = gh from h]; exact Or.inl rfl)
  replace B_gh := B_gh'
  clear hk
  refine p_nil (x_norm (c_reg R73_7_l ?_))
  refine qn hE (rc (pl P73_7 0) (st_move rfl) (rc (pl P73_7 1) (st_assign rfl) rn)) ?_; clear hE a; intro a hE
  refine p_nil (x_norm (wp_ret ?_))
  refine ret_one (v := Value.int .i64 0) rfl hE (.tmp rfl .nil) ?_
  exact .inr ⟨hLOW, rfl, B_gh, K_0⟩
end Go.Proofs.Ytijfocnneccccaa.Hk
