/- The document's options: a body is read. -/
import Derived.Test.YtgpclehnomkbmaaOpd
import Derived.Test.YtgpclehnomkbmaaOptRck
import Derived.Test.YtgpclehnomkbmaaDcu
set_option maxRecDepth 100000
set_option linter.unusedVariables false
set_option linter.unusedSimpArgs false
namespace Go.Proofs.Ytgpclehnomkbmaa.Db
open Go.RowKit Go.Proofs.YtgpclehnomkbmaaW.PrintWords Go.Proofs.Ytgpclehnomkbmaa.Ds Go.Proofs.Ytgpclehnomkbmaa.Op Go.Proofs.Ytgpclehnomkbmaa.Oc Go.Proofs.Ytgpclehnomkbmaa.Or Go.Proofs.Ytgpclehnomkbmaa.Ow Go.Proofs.Ytgpclehnomkbmaa.Ob Go.Proofs.Ytgpclehnomkbmaa.Oe Go.Proofs.Ytgpclehnomkbmaa.Opd Go.Proofs.Ytgpclehnomkbmaa.Orf Go.Proofs.Ytgpclehnomkbmaa.Ork
open Go.Proofs.Ytgpclehnomkbmaa.Pk (Kp fitsF spanF putF digF fits_any put_ok C_take)
open Go.Proofs.Ytgpclehnomkbmaa.Cu (joinF isB C_cut C_take9)
open Go.Proofs.Ytgpclehnomkbmaa.Dc
section
variable {P : Program} {T T1 T2 : TypeId} {m : List (Nat × Value)} {w : World} {X Y : Operand} {k : IntKind}
theorem st_indexV {s : ByteArray} {i : Nat} {x : Int} (hT : P.underlying T1 = some .string) (h1 : ev m X = some (.string s)) (h2 : ev m Y = some (.int k (i : Int))) (hi : i < s.size) (hx : bt s (i : Int) = x) : Still P (.index T1 X Y) T m w (.int .u8 x) := by
 subst hx; exact st_indexS hT h1 h2 hi
end
/-- Where a kind's part i begins. -/
def posP (k : Nat) : Nat → Nat
 | 0 => 0
 | i + 1 => posP k i + (if bt (partsF k) (i : Int) = 97 then 16 else (szF (bt (partsF k) (i : Int))).toNat)
def adrP (k : Nat) (d : List Int) (i : Nat) : Nat → Int := fun j => if hasF (partsF k) 97 i = true then addrO k d j else 0
def erP (k i n : Nat) : Int := if posP k i ≤ n then 0 else 4
def factP (k i : Nat) : Prop := bt (partsF k) (i : Int) ≠ 116 ∧ bt (partsF k) (i : Int) ≠ 120 ∧ (bt (partsF k) (i : Int) = 97 → posP k i = aposF k ∧ addrF k = true ∧ szF (bt (partsF k) (i : Int)) = 0) ∧ (bt (partsF k) (i : Int) ≠ 97 → (szF (bt (partsF k) (i : Int)) = 1 ∨ szF (bt (partsF k) (i : Int)) = 2 ∨ szF (bt (partsF k) (i : Int)) = 4) ∧ rd (sizesF k) (cntF (partsF k) i : Int) = szF (bt (partsF k) (i : Int)) ∧ posP k i = offO k (cntF (partsF k) i))
instance (k i : Nat) : Decidable (factP k i) := inferInstanceAs (Decidable (_ ∧ _))
theorem fact_all : ∀ k ∈ [3, 4, 5, 6, 7, 8, 9], (∀ i ∈ List.range (partsF k).size, factP k i) ∧ posP k (partsF k).size = plainF k := by decide +kernel
theorem fact_k {k : Nat} (h3 : 3 ≤ k) (h9 : k ≤ 9) : (∀ i, i < (partsF k).size → factP k i) ∧ posP k (partsF k).size = plainF k := by
 have hk : k ∈ [3, 4, 5, 6, 7, 8, 9] := by
  have : k = 3 ∨ k = 4 ∨ k = 5 ∨ k = 6 ∨ k = 7 ∨ k = 8 ∨ k = 9 := by omega
  rcases this with rfl | rfl | rfl | rfl | rfl | rfl | rfl <;> decide
 exact ⟨fun i hi => (fact_all k hk).1 i (List.mem_range.2 hi), (fact_all k hk).2⟩
theorem pos_a {k i : Nat} (h : bt (partsF k) (i : Int) = 97) : posP k (i + 1) = posP k i + 16 := by show posP k i + _ = _; rw [if_pos h]
theorem pos_d {k i : Nat} (h : ¬ bt (partsF k) (i : Int) = 97) : posP k (i + 1) = posP k i + (szF (bt (partsF k) (i : Int))).toNat := by show posP k i + _ = _; rw [if_neg h]
theorem er_ok {k i n : Nat} (h : posP k i ≤ n) : erP k i n = 0 := if_pos h
theorem er_no {k i n : Nat} (h : ¬ posP k i ≤ n) : erP k i n = 4 := if_neg h
theorem er_next {k i n : Nat} (h : ¬ posP k (i + 1) ≤ n) : (if erP k i n = 0 then (4 : Int) else erP k i n) = erP k (i + 1) n := by
 rw [er_no h]; unfold erP; split <;> simp
theorem C_rest {w : World} {A : Option Addr} {n c k : Nat} {l : List Int} (h : Kd.C (Kd.int .u8) w A n l) (hc : n ≤ c) (hk : k ≤ n) : Kd.C (Kd.int .u8) w (if c = k then A else A.map (·.add (k * 1))) (n - k) (l.drop k) := by
 have := C_cut (lo := k) (k := n - k) (A' := if c = k then A else A.map (·.add (k * 1))) (0 : Int) h hc (by omega) rfl
 rwa [List.take_of_length_le (by rw [List.length_drop, h.1]; omega)] at this
def mixF (f : Nat → Int) (l : List Int) (j : Nat) : Nat → Int := fun x => if x < j then rd l (x : Int) else f x
theorem mix_zero (f : Nat → Int) (l : List Int) : b16 (mixF f l 0) = b16 f := by
 have : mixF f l 0 = f := by funext x; unfold mixF; rw [if_neg (by omega)]
 rw [this]
theorem mix_new (f : Nat → Int) (l : List Int) (j : Nat) : mixF f l (j + 1) j = rd l (j : Int) := by unfold mixF; rw [if_pos (by omega)]
theorem mix_old (f : Nat → Int) (l : List Int) (j x : Nat) (h : x ≠ j) : mixF f l (j + 1) x = mixF f l j x := by
 unfold mixF
 by_cases h2 : x < j
 · rw [if_pos (by omega), if_pos h2]
 · rw [if_neg (by omega), if_neg h2]
theorem mix_all (f : Nat → Int) {k : Nat} (d : List Int) (ha : addrF k = true) : l16 (mixF f ((d.drop (aposF k)).take 16) 16) = l16 (addrO k d) := by
 refine l16_ext fun i hi => ?_
 unfold mixF addrO
 rw [if_pos hi, if_pos ha]
 simp [rd, rdOf, List.getD_eq_getElem?_getD, List.getElem?_take, hi]
theorem to16 {k : Nat} (h : k < 16) : k = 0 ∨ k = 1 ∨ k = 2 ∨ k = 3 ∨ k = 4 ∨ k = 5 ∨ k = 6 ∨ k = 7 ∨ k = 8 ∨ k = 9 ∨ k = 10 ∨ k = 11 ∨ k = 12 ∨ k = 13 ∨ k = 14 ∨ k = 15 := by omega
theorem set_o {c f x : Value} {F G : Nat → Int} {k : Nat} (hk : k < 16) (hG : ∀ i, i ≠ k → G i = F i) {v : Int} (hv : G k = v) : (([c, f] ++ b16 F ++ [x]).toArray.toList.take (2 + k)) ++ [Value.int .u8 v] ++ (([c, f] ++ b16 F ++ [x]).toArray.toList.drop (2 + k + 1)) = ([c, f] ++ b16 G ++ [x]).toArray.toList := by
 subst hv
 rcases to16 hk with rfl | rfl | rfl | rfl | rfl | rfl | rfl | rfl | rfl | rfl | rfl | rfl | rfl | rfl | rfl | rfl <;> simp [b16, hG]
theorem has_next (k i : Nat) : hasF (partsF k) 97 (i + 1) = (hasF (partsF k) 97 i || decide (bt (partsF k) (i : Int) = 97)) := has_succ _ _ _
theorem adr_a {k i : Nat} (d : List Int) (h : bt (partsF k) (i : Int) = 97) : l16 (adrP k d (i + 1)) = l16 (addrO k d) := by
 refine l16_ext fun j _ => ?_
 unfold adrP
 rw [has_next, decide_eq_true h, Bool.or_true, if_pos rfl]
theorem adr_d {k i : Nat} (d : List Int) (h : ¬ bt (partsF k) (i : Int) = 97) : adrP k d (i + 1) = adrP k d i := by
 funext j
 unfold adrP
 rw [has_next, decide_eq_false h, Bool.or_false]
theorem adr_end {k : Nat} (hk : k ≤ 9) (d : List Int) : l16 (adrP k d (partsF k).size) = l16 (addrO k d) := by
 refine l16_ext fun j _ => ?_
 unfold adrP
 rw [(parts_facts k hk).2.1]
 unfold addrO
 by_cases h : addrF k = true
 · rw [if_pos h]
 · rw [if_neg h, if_neg h]
theorem rcl_zero (n : Nat) : rclF n 0 = if n = 0 then 0 else 3 := by
 unfold rclF
 rw [if_pos rfl]
 by_cases h : n = 0
 · rw [if_neg (by omega), if_pos h]
 · rw [if_pos (by omega), if_neg h]
theorem rt_no9 (g : Nat) (A : Option Addr) (n c : Nat) (p : Nat) (r : Int) (k : Nat) (kk : Int) (hk9 : kk = (k : Int)) (w : World) (hok : ¬ (r = 0 ∧ k ≤ n)) (hs : kk = 1 ∨ kk = 2 ∨ kk = 4) (hp : p ≤ 1000000000) (hc : n ≤ c) (B_g : w.heap[g]? = some (.cells #[.slice A n c, .int .i64 (p : Int), .int .i64 r] 138 (0, 0))) : Calls Try.prog 70 #[.pointer (some ⟨g, 0, none⟩), .int .i64 kk] w fun e w' => e = .returned (.int .i64 0) ∧ w'.heap[g]? = some (.cells #[.slice A n c, .int .i64 (p : Int), .int .i64 (if r = 0 then 4 else r)] 138 (0, 0)) ∧ Kp w w' (fun k => k = g) := by
 subst hk9; exact rt_no g A n c p r k w hok hs hp hc B_g
theorem rt_ok9 (g : Nat) (A : Option Addr) (n c : Nat) (p : Nat) (r : Int) (k : Nat) (kk : Int) (hk9 : kk = (k : Int)) (v : Int) (l : List Int) (hv : joinF (l.take k) = v) (w : World) (hok : r = 0 ∧ k ≤ n) (hs : kk = 1 ∨ kk = 2 ∨ kk = 4) (hp : p ≤ 1000000000) (hc : n ≤ c) (hln : l.length = n) (hb : isB l) (F_A : ∀ W', Kp w W' (fun k => k = g) → Kd.C (Kd.int .u8) W' A n l) (B_g : w.heap[g]? = some (.cells #[.slice A n c, .int .i64 (p : Int), .int .i64 r] 138 (0, 0))) : Calls Try.prog 70 #[.pointer (some ⟨g, 0, none⟩), .int .i64 kk] w fun e w' => e = .returned (.int .i64 v) ∧ w'.heap[g]? = some (.cells #[.slice (if c = k then A else A.map (·.add (k * 1))) (n - k) (c - k), .int .i64 ((p + k : Nat) : Int), .int .i64 0] 138 (0, 0)) ∧ Kp w w' (fun k => k = g) := by
 subst hk9; subst hv; exact rt_ok g A n c p r k w hok hs hp hc l hln hb F_A B_g
theorem all_rd9 {d : List Int} (h : ∀ j, j < d.length → rd d (j : Int) = 0) : d.all (fun x => decide (x = 0)) = true := by
 rw [List.all_eq_true]
 intro x hx
 obtain ⟨j, hj, rfl⟩ := List.getElem_of_mem hx
 have := h j hj
 simpa [rd, rdOf, List.getD_eq_getElem?_getD, hj] using this
theorem all_no9 {d : List Int} {j : Nat} (hj : j < d.length) (h : ¬ rd d (j : Int) = 0) : d.all (fun x => decide (x = 0)) = false := by
 rw [List.all_eq_false]
 refine ⟨d[j], List.getElem_mem hj, ?_⟩
 simpa [rd, rdOf, List.getD_eq_getElem?_getD, hj] using h
theorem R54_0_l : List.range (regOf Try.f54 0).size = [0, 1] := by kernel_rfl
theorem R54_1_l : List.range (regOf Try.f54 1).size = [0, 1, 2, 3] := by kernel_rfl
theorem R54_2_l : List.range (regOf Try.f54 2).size = [0, 1, 2] := by kernel_rfl
theorem R54_3_l : List.range (regOf Try.f54 3).size = [0, 1, 2, 3] := by kernel_rfl
theorem R54_4_l : List.range (regOf Try.f54 4).size = [0] := by kernel_rfl
theorem R54_5_l : List.range (regOf Try.f54 5).size = [0, 1, 2, 3] := by kernel_rfl
theorem R54_7_l : List.range (regOf Try.f54 7).size = [0, 1, 2] := by kernel_rfl
theorem R54_9_l : List.range (regOf Try.f54 9).size = [0, 1] := by kernel_rfl
theorem R54_10_l : List.range (regOf Try.f54 10).size = [0, 1, 2] := by kernel_rfl
theorem R54_11_l : List.range (regOf Try.f54 11).size = [0] := by kernel_rfl
theorem R54_12_l : List.range (regOf Try.f54 12).size = [0, 1, 2, 3] := by kernel_rfl
theorem R54_14_l : List.range (regOf Try.f54 14).size = [0, 1, 2, 3, 4, 5, 6, 7] := by kernel_rfl
theorem R54_13_l : List.range (regOf Try.f54 13).size = [0, 1, 2] := by kernel_rfl
theorem R54_15_l : List.range (regOf Try.f54 15).size = [0, 1] := by kernel_rfl
theorem R54_16_l : List.range (regOf Try.f54 16).size = [0, 1, 2, 3, 4, 5, 6, 7, 8] := by kernel_rfl
theorem R54_17_l : List.range (regOf Try.f54 17).size = [0, 1] := by kernel_rfl
theorem R54_18_l : List.range (regOf Try.f54 18).size = [0] := by kernel_rfl
theorem R54_19_l : List.range (regOf Try.f54 19).size = [0, 1, 2, 3] := by kernel_rfl
theorem R54_21_l : List.range (regOf Try.f54 21).size = [0, 1, 2, 3, 4] := by kernel_rfl
theorem R54_22_l : List.range (regOf Try.f54 22).size = [0, 1, 2] := by kernel_rfl
theorem R54_20_l : List.range (regOf Try.f54 20).size = [0, 1, 2] := by kernel_rfl
theorem R54_23_l : List.range (regOf Try.f54 23).size = [0, 1, 2, 3, 4, 5, 6, 7] := by kernel_rfl
theorem R54_24_l : List.range (regOf Try.f54 24).size = [0, 1, 2, 3] := by kernel_rfl
theorem R54_6_l : List.range (regOf Try.f54 6).size = [0, 1, 2] := by kernel_rfl
theorem body54 : Try.f54.body = some (.seq (.region 0 (regOf Try.f54 0) false) (.seq (.region 1 (regOf Try.f54 1) false) (.seq (.region 2 (regOf Try.f54 2) false) (.seq (.region 3 (regOf Try.f54 3) false) (.seq (.seq (.region 4 (regOf Try.f54 4) false) (.block 0 (.loop (.seq (.seq (.region 5 (regOf Try.f54 5) false) (.cond (Operand.tmp 23) (.skip) (.exit 0))) (.seq (.block 1 (.seq (.region 7 (regOf Try.f54 7) false) (.block 2 (.seq (.region 9 (regOf Try.f54 9) false) (.cond (Operand.tmp 40) (.seq (.region 10 (regOf Try.f54 10) false) (.seq (.region 11 (regOf Try.f54 11) false) (.block 3 (.loop (.seq (.seq (.region 12 (regOf Try.f54 12) false) (.cond (Operand.tmp 47) (.skip) (.exit 3))) (.seq (.block 4 (.region 14 (regOf Try.f54 14) false)) (.region 13 (regOf Try.f54 13) false))))))) (.seq (.region 15 (regOf Try.f54 15) false) (.cond (Operand.tmp 57) (.region 16 (regOf Try.f54 16) false) (.seq (.region 17 (regOf Try.f54 17) false) (.cond (Operand.tmp 67) (.seq (.seq (.region 18 (regOf Try.f54 18) false) (.block 5 (.loop (.seq (.seq (.region 19 (regOf Try.f54 19) false) (.cond (Operand.tmp 72) (.skip) (.exit 5))) (.seq (.block 6 (.seq (.region 21 (regOf Try.f54 21) false) (.cond (Operand.tmp 79) (.seq (.region 22 (regOf Try.f54 22) false) (.ret)) (.skip)))) (.region 20 (regOf Try.f54 20) false)))))) (.seq (.region 23 (regOf Try.f54 23) false) (.region 24 (regOf Try.f54 24) false))) (.region 8 (regOf Try.f54 8) true)))))))))) (.region 6 (regOf Try.f54 6) false)))))) (.seq (.region 25 (regOf Try.f54 25) true) (.ret))))))) := by kernel_rfl
theorem p54_0_0 : pj (regOf Try.f54 0) 0 = some (some 4, .alloc 45, 0, none) := by kernel_rfl
theorem tZ45 : (Try.prog.info? 45).bind (·.zero) = some (Value.agg (([Value.int .i64 0, Value.slice none 0 0] ++ b16 (fun _ => 0) ++ [Value.slice none 0 0])).toArray) := by kernel_rfl
theorem p54_0_1 : pj (regOf Try.f54 0) 1 = some (some 5, .assign (.const (.bool false)), 4, none) := by kernel_rfl
theorem p54_1_0 : pj (regOf Try.f54 1) 0 = some (some 13, .move (.tmp 0), 3, none) := by kernel_rfl
theorem p54_1_1 : pj (regOf Try.f54 1) 1 = some (some 14, .build 45 #[(0, .tmp 13)], 45, none) := by kernel_rfl
theorem p54_1_2 : pj (regOf Try.f54 1) 2 = some (some 6, .alloc 45, 0, none) := by kernel_rfl
theorem p54_1_3 : pj (regOf Try.f54 1) 3 = some (none, .store 45 (.tmp 6) (.tmp 14), 0, none) := by kernel_rfl
theorem tS45 : (Try.prog.info? 45).map (·.size) = some 19 := by kernel_rfl
theorem p54_2_0 : pj (regOf Try.f54 2) 0 = some (some 15, .move (.tmp 0), 3, none) := by kernel_rfl
theorem p54_2_1 : pj (regOf Try.f54 2) 1 = some (some 16, .call { callee := .value (.func 53), args := #[.tmp 15], argTypes := #[3] }, 9, none) := by kernel_rfl
theorem cl53 : callable Try.f53 = true := by kernel_rfl
theorem p54_2_2 : pj (regOf Try.f54 2) 2 = some (some 7, .assign (.tmp 16), 9, none) := by kernel_rfl
theorem p54_3_0 : pj (regOf Try.f54 3) 0 = some (some 17, .move (.tmp 1), 22, none) := by kernel_rfl
theorem p54_3_1 : pj (regOf Try.f54 3) 1 = some (some 18, .build 138 #[(0, .tmp 17)], 138, none) := by kernel_rfl
theorem p54_3_2 : pj (regOf Try.f54 3) 2 = some (some 19, .box 138 (.tmp 18), 136, none) := by kernel_rfl
theorem p54_3_3 : pj (regOf Try.f54 3) 3 = some (some 8, .assign (.tmp 19), 136, none) := by kernel_rfl
theorem p54_4_0 : pj (regOf Try.f54 4) 0 = some (some 9, .assign (.const (.int .i64 0)), 3, none) := by kernel_rfl
theorem p54_5_0 : pj (regOf Try.f54 5) 0 = some (some 20, .move (.tmp 9), 3, none) := by kernel_rfl
theorem p54_5_1 : pj (regOf Try.f54 5) 1 = some (some 21, .move (.tmp 7), 9, none) := by kernel_rfl
theorem p54_5_2 : pj (regOf Try.f54 5) 2 = some (some 22, .call { callee := .builtin .len, args := #[.tmp 21], argTypes := #[9] }, 3, none) := by kernel_rfl
theorem p54_5_3 : pj (regOf Try.f54 5) 3 = some (some 23, .binOp .lss 3 (.tmp 20) (.tmp 22) 3, 4, none) := by kernel_rfl
theorem p54_7_0 : pj (regOf Try.f54 7) 0 = some (some 26, .move (.tmp 7), 9, none) := by kernel_rfl
theorem p54_7_1 : pj (regOf Try.f54 7) 1 = some (some 27, .move (.tmp 9), 3, none) := by kernel_rfl
theorem p54_7_2 : pj (regOf Try.f54 7) 2 = some (some 28, .index 9 (.tmp 26) (.tmp 27), 5, none) := by kernel_rfl
theorem p54_9_0 : pj (regOf Try.f54 9) 0 = some (some 41, .binOp .eql 5 (.tmp 28) (.const (.int .u8 97)) 5, 4, none) := by kernel_rfl
theorem p54_9_1 : pj (regOf Try.f54 9) 1 = some (some 40, .assign (.tmp 41), 4, none) := by kernel_rfl
theorem p54_15_0 : pj (regOf Try.f54 15) 0 = some (some 58, .binOp .eql 5 (.tmp 28) (.const (.int .u8 116)) 5, 4, none) := by kernel_rfl
theorem p54_15_1 : pj (regOf Try.f54 15) 1 = some (some 57, .assign (.tmp 58), 4, none) := by kernel_rfl
theorem p54_17_0 : pj (regOf Try.f54 17) 0 = some (some 68, .binOp .eql 5 (.tmp 28) (.const (.int .u8 120)) 5, 4, none) := by kernel_rfl
theorem p54_17_1 : pj (regOf Try.f54 17) 1 = some (some 67, .assign (.tmp 68), 4, none) := by kernel_rfl
theorem p54_18_0 : pj (regOf Try.f54 18) 0 = some (some 12, .assign (.const (.int .i64 0)), 3, none) := by kernel_rfl
theorem p54_19_0 : pj (regOf Try.f54 19) 0 = some (some 69, .move (.tmp 12), 3, none) := by kernel_rfl
theorem p54_19_1 : pj (regOf Try.f54 19) 1 = some (some 70, .move (.tmp 1), 22, none) := by kernel_rfl
theorem p54_19_2 : pj (regOf Try.f54 19) 2 = some (some 71, .call { callee := .builtin .len, args := #[.tmp 70], argTypes := #[22] }, 3, none) := by kernel_rfl
theorem p54_19_3 : pj (regOf Try.f54 19) 3 = some (some 72, .binOp .lss 3 (.tmp 69) (.tmp 71) 3, 4, none) := by kernel_rfl
theorem p54_21_0 : pj (regOf Try.f54 21) 0 = some (some 75, .move (.tmp 1), 22, none) := by kernel_rfl
theorem p54_21_1 : pj (regOf Try.f54 21) 1 = some (some 76, .move (.tmp 12), 3, none) := by kernel_rfl
theorem p54_21_2 : pj (regOf Try.f54 21) 2 = some (some 77, .indexAddr 22 (.tmp 75) (.tmp 76), 0, none) := by kernel_rfl
theorem tS5 : (Try.prog.info? 5).map (·.size) = some 1 := by kernel_rfl
theorem p54_21_3 : pj (regOf Try.f54 21) 3 = some (some 78, .load 5 (.tmp 77), 5, none) := by kernel_rfl
theorem tA5 : (Try.prog.underlying 5).map aggD = some false := by kernel_rfl
theorem p54_21_4 : pj (regOf Try.f54 21) 4 = some (some 79, .binOp .neq 5 (.tmp 78) (.const (.int .u8 0)) 5, 4, none) := by kernel_rfl
theorem p54_20_0 : pj (regOf Try.f54 20) 0 = some (some 73, .move (.tmp 12), 3, none) := by kernel_rfl
theorem p54_20_1 : pj (regOf Try.f54 20) 1 = some (some 74, .binOp .add 3 (.tmp 73) (.const (.int .i64 1)) 3, 3, none) := by kernel_rfl
theorem p54_20_2 : pj (regOf Try.f54 20) 2 = some (some 12, .assign (.tmp 74), 3, none) := by kernel_rfl
theorem p54_22_0 : pj (regOf Try.f54 22) 0 = some (some 80, .load 45 (.tmp 6), 45, none) := by kernel_rfl
theorem tA45 : (Try.prog.underlying 45).map aggD = some true := by kernel_rfl
theorem p54_22_1 : pj (regOf Try.f54 22) 1 = some (none, .store 45 (.tmp 4) (.tmp 80), 0, none) := by kernel_rfl
theorem p54_22_2 : pj (regOf Try.f54 22) 2 = some (some 5, .assign (.const (.bool false)), 4, none) := by kernel_rfl
theorem p54_23_0 : pj (regOf Try.f54 23) 0 = some (some 81, .fieldAddr 45 (.tmp 6) 1, 0, none) := by kernel_rfl
theorem tS42 : (Try.prog.info? 42).map (·.size) = some 1 := by kernel_rfl
theorem p54_23_1 : pj (regOf Try.f54 23) 1 = some (some 82, .load 42 (.tmp 81), 42, none) := by kernel_rfl
theorem tA42 : (Try.prog.underlying 42).map aggD = some false := by kernel_rfl
theorem p54_23_2 : pj (regOf Try.f54 23) 2 = some (some 83, .move (.tmp 1), 22, none) := by kernel_rfl
theorem p54_23_3 : pj (regOf Try.f54 23) 3 = some (some 84, .call { callee := .builtin .len, args := #[.tmp 83], argTypes := #[22] }, 3, none) := by kernel_rfl
theorem p54_23_4 : pj (regOf Try.f54 23) 4 = some (some 85, .buildSlice 42 1 #[(0, .tmp 84)], 42, none) := by kernel_rfl
theorem p54_23_5 : pj (regOf Try.f54 23) 5 = some (some 86, .call { callee := .builtin .append, args := #[.tmp 82, .tmp 85], argTypes := #[42, 42] }, 42, none) := by kernel_rfl
theorem eD3 : elemD Try.prog 3 = some (1, 1, 8) := by kernel_rfl
theorem p54_23_6 : pj (regOf Try.f54 23) 6 = some (some 87, .fieldAddr 45 (.tmp 6) 1, 0, none) := by kernel_rfl
theorem p54_23_7 : pj (regOf Try.f54 23) 7 = some (none, .store 42 (.tmp 87) (.tmp 86), 0, none) := by kernel_rfl
theorem p54_24_0 : pj (regOf Try.f54 24) 0 = some (some 88, .move (.tmp 8), 136, none) := by kernel_rfl
theorem p54_24_1 : pj (regOf Try.f54 24) 1 = some (some 89, .move (.tmp 1), 22, none) := by kernel_rfl
theorem p54_24_2 : pj (regOf Try.f54 24) 2 = some (some 90, .call { callee := .builtin .len, args := #[.tmp 89], argTypes := #[22] }, 3, none) := by kernel_rfl
theorem p54_24_3 : pj (regOf Try.f54 24) 3 = some (some 91, .call { callee := .value (.func 71), args := #[.tmp 88, .tmp 90], argTypes := #[136, 3] }, 22, none) := by kernel_rfl
theorem cl71 : callable Try.f71 = true := by kernel_rfl
theorem p54_6_0 : pj (regOf Try.f54 6) 0 = some (some 24, .move (.tmp 9), 3, none) := by kernel_rfl
theorem p54_6_1 : pj (regOf Try.f54 6) 1 = some (some 25, .binOp .add 3 (.tmp 24) (.const (.int .i64 1)) 3, 3, none) := by kernel_rfl
theorem p54_6_2 : pj (regOf Try.f54 6) 2 = some (some 9, .assign (.tmp 25), 3, none) := by kernel_rfl
theorem ns54_25 : Region.noSelect (regOf Try.f54 25) = true := by kernel_rfl
theorem p54_25_0 : pj (regOf Try.f54 25) 0 = some (some 92, .load 45 (.tmp 6), 45, none) := by kernel_rfl
theorem p54_25_1 : pj (regOf Try.f54 25) 1 = some (some 93, .move (.tmp 8), 136, none) := by kernel_rfl
theorem p54_25_2 : pj (regOf Try.f54 25) 2 = some (some 94, .call { callee := .value (.func 113), args := #[.tmp 93], argTypes := #[136] }, 3, none) := by kernel_rfl
theorem cl113 : callable Try.f113 = true := by kernel_rfl
theorem p54_25_3 : pj (regOf Try.f54 25) 3 = some (some 95, .binOp .eql 3 (.tmp 94) (.const (.int .i64 0)) 3, 4, none) := by kernel_rfl
theorem p54_25_4 : pj (regOf Try.f54 25) 4 = some (none, .store 45 (.tmp 4) (.tmp 92), 0, none) := by kernel_rfl
theorem p54_25_5 : pj (regOf Try.f54 25) 5 = some (some 5, .assign (.tmp 95), 4, none) := by kernel_rfl
theorem p54_16_0 : pj (regOf Try.f54 16) 0 = some (some 59, .move (.tmp 8), 136, none) := by kernel_rfl
theorem p54_16_1 : pj (regOf Try.f54 16) 1 = some (some 60, .move (.tmp 8), 136, none) := by kernel_rfl
theorem p54_16_2 : pj (regOf Try.f54 16) 2 = some (some 61, .nilCheck (.tmp 60), 0, none) := by kernel_rfl
theorem p54_16_3 : pj (regOf Try.f54 16) 3 = some (some 62, .fieldAddr 138 (.tmp 61) 0, 0, none) := by kernel_rfl
theorem tS22 : (Try.prog.info? 22).map (·.size) = some 1 := by kernel_rfl
theorem p54_16_4 : pj (regOf Try.f54 16) 4 = some (some 63, .load 22 (.tmp 62), 22, none) := by kernel_rfl
theorem tA22 : (Try.prog.underlying 22).map aggD = some false := by kernel_rfl
theorem p54_16_5 : pj (regOf Try.f54 16) 5 = some (some 64, .call { callee := .builtin .len, args := #[.tmp 63], argTypes := #[22] }, 3, none) := by kernel_rfl
theorem p54_16_6 : pj (regOf Try.f54 16) 6 = some (some 65, .call { callee := .value (.func 71), args := #[.tmp 59, .tmp 64], argTypes := #[136, 3] }, 22, none) := by kernel_rfl
theorem p54_16_7 : pj (regOf Try.f54 16) 7 = some (some 66, .fieldAddr 45 (.tmp 6) 3, 0, none) := by kernel_rfl
theorem p54_16_8 : pj (regOf Try.f54 16) 8 = some (none, .store 22 (.tmp 66) (.tmp 65), 0, none) := by kernel_rfl
theorem p54_10_0 : pj (regOf Try.f54 10) 0 = some (some 42, .move (.tmp 8), 136, none) := by kernel_rfl
theorem p54_10_1 : pj (regOf Try.f54 10) 1 = some (some 43, .call { callee := .value (.func 71), args := #[.tmp 42, .const (.int .i64 16)], argTypes := #[136, 3] }, 22, none) := by kernel_rfl
theorem p54_10_2 : pj (regOf Try.f54 10) 2 = some (some 10, .assign (.tmp 43), 22, none) := by kernel_rfl
theorem p54_11_0 : pj (regOf Try.f54 11) 0 = some (some 11, .assign (.const (.int .i64 0)), 3, none) := by kernel_rfl
theorem p54_12_0 : pj (regOf Try.f54 12) 0 = some (some 44, .move (.tmp 11), 3, none) := by kernel_rfl
theorem p54_12_1 : pj (regOf Try.f54 12) 1 = some (some 45, .move (.tmp 10), 22, none) := by kernel_rfl
theorem p54_12_2 : pj (regOf Try.f54 12) 2 = some (some 46, .call { callee := .builtin .len, args := #[.tmp 45], argTypes := #[22] }, 3, none) := by kernel_rfl
theorem p54_12_3 : pj (regOf Try.f54 12) 3 = some (some 47, .binOp .lss 3 (.tmp 44) (.tmp 46) 3, 4, none) := by kernel_rfl
theorem p54_14_0 : pj (regOf Try.f54 14) 0 = some (some 50, .move (.tmp 11), 3, none) := by kernel_rfl
theorem p54_14_1 : pj (regOf Try.f54 14) 1 = some (some 51, .move (.tmp 10), 22, none) := by kernel_rfl
theorem p54_14_2 : pj (regOf Try.f54 14) 2 = some (some 52, .move (.tmp 11), 3, none) := by kernel_rfl
theorem p54_14_3 : pj (regOf Try.f54 14) 3 = some (some 53, .indexAddr 22 (.tmp 51) (.tmp 52), 0, none) := by kernel_rfl
theorem p54_14_4 : pj (regOf Try.f54 14) 4 = some (some 54, .load 5 (.tmp 53), 5, none) := by kernel_rfl
theorem p54_14_5 : pj (regOf Try.f54 14) 5 = some (some 55, .fieldAddr 45 (.tmp 6) 2, 0, none) := by kernel_rfl
theorem tS43 : (Try.prog.info? 43).map (·.size) = some 16 := by kernel_rfl
theorem p54_14_6 : pj (regOf Try.f54 14) 6 = some (some 56, .indexAddr 43 (.tmp 55) (.tmp 50), 0, none) := by kernel_rfl
theorem p54_14_7 : pj (regOf Try.f54 14) 7 = some (none, .store 5 (.tmp 56) (.tmp 54), 0, none) := by kernel_rfl
theorem p54_13_0 : pj (regOf Try.f54 13) 0 = some (some 48, .move (.tmp 11), 3, none) := by kernel_rfl
theorem p54_13_1 : pj (regOf Try.f54 13) 1 = some (some 49, .binOp .add 3 (.tmp 48) (.const (.int .i64 1)) 3, 3, none) := by kernel_rfl
theorem p54_13_2 : pj (regOf Try.f54 13) 2 = some (some 11, .assign (.tmp 49), 3, none) := by kernel_rfl
theorem ns54_8 : Region.noSelect (regOf Try.f54 8) = true := by kernel_rfl
theorem p54_8_0 : pj (regOf Try.f54 8) 0 = some (some 29, .fieldAddr 45 (.tmp 6) 1, 0, none) := by kernel_rfl
theorem p54_8_2 : pj (regOf Try.f54 8) 2 = some (some 31, .move (.tmp 8), 136, none) := by kernel_rfl
theorem p54_8_3 : pj (regOf Try.f54 8) 3 = some (some 32, .move (.tmp 7), 9, none) := by kernel_rfl
theorem p54_8_4 : pj (regOf Try.f54 8) 4 = some (some 33, .move (.tmp 9), 3, none) := by kernel_rfl
theorem p54_8_5 : pj (regOf Try.f54 8) 5 = some (some 34, .index 9 (.tmp 32) (.tmp 33), 5, none) := by kernel_rfl
theorem p54_8_1 : pj (regOf Try.f54 8) 1 = some (some 30, .load 42 (.tmp 29), 42, none) := by kernel_rfl
theorem p54_8_6 : pj (regOf Try.f54 8) 6 = some (some 35, .call { callee := .value (.func 58), args := #[.tmp 34], argTypes := #[5] }, 3, none) := by kernel_rfl
theorem cl58 : callable Try.f58 = true := by kernel_rfl
theorem p54_8_7 : pj (regOf Try.f54 8) 7 = some (some 36, .call { callee := .value (.func 70), args := #[.tmp 31, .tmp 35], argTypes := #[136, 3] }, 3, none) := by kernel_rfl
theorem cl70 : callable Try.f70 = true := by kernel_rfl
theorem p54_8_8 : pj (regOf Try.f54 8) 8 = some (some 37, .buildSlice 42 1 #[(0, .tmp 36)], 42, none) := by kernel_rfl
theorem p54_8_9 : pj (regOf Try.f54 8) 9 = some (some 38, .call { callee := .builtin .append, args := #[.tmp 30, .tmp 37], argTypes := #[42, 42] }, 42, none) := by kernel_rfl
theorem p54_8_10 : pj (regOf Try.f54 8) 10 = some (some 39, .fieldAddr 45 (.tmp 6) 1, 0, none) := by kernel_rfl
theorem p54_8_11 : pj (regOf Try.f54 8) 11 = some (none, .store 42 (.tmp 39) (.tmp 38), 0, none) := by kernel_rfl
set_option maxHeartbeats 4000000 in
theorem rbody_c (A : Option Addr) (c : Nat) (d : List Int) (k : Nat) (hk9 : k ≤ 9) (hk1 : 1 ≤ k) (w : World) (hl : d.length ≤ 1000) (hc : d.length ≤ c) (hc2 : c ≤ 9223372036854775807) (hb : isB d) (F_A : ∀ W', Kp w W' (fun _ => False) → Kd.C (Kd.int .u8) W' A d.length d) : Calls Try.prog 54 #[.int .i64 (k : Int), .slice A d.length c] w fun e w' => ∃ B q T ct, ∃ x : OV, e = .returned (.tuple #[Value.agg (([Value.int .i64 x.1, Value.slice B x.2.1.length q] ++ b16 (adr x) ++ [Value.slice T x.2.2.2.length ct])).toArray, .bool (okD k d)]) ∧ x.2.1.length ≤ q ∧ x.2.2.2.length ≤ ct ∧ (∀ W', Kp w' W' (fun k => k < w.heap.size) → Kd.C (Kd.int .i64) W' B x.2.1.length x.2.1) ∧ (∀ W', Kd.C (Kd.int .u8) W' A d.length d → Kd.C (Kd.int .u8) W' T x.2.2.2.length x.2.2.2) ∧ (okD k d = true → x = mkO k d) ∧ Kp w w' (fun _ => False) := by
 have K_0 := Kp.refl w (fun _ => False)
 refine enter (args := [Value.int .i64 (k : Int), Value.slice A d.length c]) (n := 96) Try.func54 body54 rfl rfl rfl ?_
 intro a hE
 refine c_reg R54_0_l ?_
 refine p_cons (s_alloc p54_0_0 hE wn_none rfl tZ45 ?_)
 clear hE a; intro g1 w2 z3 B_g1 hk a hE
 replace B_g1 : w2.heap[g1]? = some (.cells (([Value.int .i64 0, Value.slice none 0 0] ++ b16 (fun _ => 0) ++ [Value.slice none 0 0])).toArray 45 (0, 0)) := B_g1
 have z_0_g1 := Nat.le_trans K_0.kept.1 z3
 replace K_0 := K_0.then_ hk (fun _ h => h.elim)
 clear hk
 refine q0 p54_0_1 hE (st_assign rfl) ?_; clear hE a; intro a hE
 refine p_nil (x_norm ?_)
 rcases Decidable.em (k = 1) with hK1 | hK1
 ·
  subst hK1
  refine c_reg R54_1_l ?_
  refine q0 p54_1_0 hE (st_move rfl) ?_; clear hE a; intro a hE
  refine q0 p54_1_1 hE (st_build (xs := [(0, Operand.tmp 13)]) (vs := [(0, Value.int .i64 (1 : Int))]) (cs := (([Value.int .i64 (1 : Int), Value.slice none 0 0] ++ b16 (fun _ => 0) ++ [Value.slice none 0 0])).toArray) rfl (by kernel_rfl)) ?_; clear hE a; intro a hE
  refine p_cons (s_alloc p54_1_2 hE wn_none rfl tZ45 ?_)
  clear hE a; intro g4 w5 z6 B_g4 hk a hE
  replace B_g4 : w5.heap[g4]? = some (.cells (([Value.int .i64 0, Value.slice none 0 0] ++ b16 (fun _ => 0) ++ [Value.slice none 0 0])).toArray 45 (0, 0)) := B_g4
  have n_g1_g4 : g1 ≠ g4 := ne_new B_g1 z6
  have z_0_g4 := Nat.le_trans K_0.kept.1 z6
  replace B_g1 := kp_blk B_g1 hk (fun h => h)
  replace K_0 := K_0.then_ hk (fun _ h => h.elim)
  clear hk
  refine p_cons (s_store (off := 0) (k := 19) (cs' := (([Value.int .i64 (1 : Int), Value.slice none 0 0] ++ b16 (fun _ => 0) ++ [Value.slice none 0 0])).toArray) p54_1_3 hE wn_none tS45 rfl rfl rfl rfl B_g4 (Nat.le_of_ble_eq_true rfl) rfl ?_)
  intro w7 B_g4' hk
  replace B_g1 := kp_blk B_g1 hk n_g1_g4
  replace K_0 := K_0.then_ hk (fun k h => by rw [show k = g4 from h]; exact Or.inr z_0_g4)
  replace B_g4 := B_g4'
  clear hk
  refine p_nil (x_norm (c_reg R54_2_l ?_))
  refine q0 p54_2_0 hE (st_move rfl) ?_; clear hE a; intro a hE
  refine p_cons (s_call (xs := [Operand.tmp 15]) (args := [Value.int .i64 (1 : Int)]) p54_2_1 hE wn_none rfl rfl Try.func53 cl53 (parts_ok 1 (by decide) _) ?_)
  rintro e w8 ⟨rfl, hk⟩
  replace B_g1 := kp_blk B_g1 hk (fun h => h)
  replace B_g4 := kp_blk B_g4 hk (fun h => h)
  replace K_0 := K_0.then_ hk (fun _ h => h.elim)
  refine ⟨_, rfl, ?_⟩; clear hE a; intro a hE
  refine q0 p54_2_2 hE (st_assign rfl) ?_; clear hE a; intro a hE
  refine p_nil (x_norm (c_reg R54_3_l ?_))
  refine q0 p54_3_0 hE (st_move rfl) ?_; clear hE a; intro a hE
  refine q0 p54_3_1 hE (st_build (xs := [(0, Operand.tmp 17)]) (vs := [(0, Value.slice A d.length c)]) (cs := #[Value.slice A d.length c, Value.int .i64 0, Value.int .i64 0]) rfl (by kernel_rfl)) ?_; clear hE a; intro a hE
  refine p_cons (s_box p54_3_2 hE wn_none rfl rfl ?_)
  clear hE a; intro g9 w10 z11 B_g9 hk a hE
  replace B_g9 : w10.heap[g9]? = some (.cells #[Value.slice A d.length c, Value.int .i64 0, Value.int .i64 0] 138 (0, 0)) := B_g9
  have n_g1_g9 : g1 ≠ g9 := ne_new B_g1 z11
  have n_g4_g9 : g4 ≠ g9 := ne_new B_g4 z11
  have z_0_g9 := Nat.le_trans K_0.kept.1 z11
  replace B_g1 := kp_blk B_g1 hk (fun h => h)
  replace B_g4 := kp_blk B_g4 hk (fun h => h)
  replace K_0 := K_0.then_ hk (fun _ h => h.elim)
  clear hk
  refine q0 p54_3_3 hE (st_assign rfl) ?_; clear hE a; intro a hE
  refine p_nil (x_norm (wp_seq (c_reg R54_4_l ?_)))
  refine q0 p54_4_0 hE (st_assign rfl) ?_; clear hE a; intro a hE
  refine p_nil (x_norm (wp_block ?_))
  refine wp_loop_rounds 2 ?_
  refine (Eq.mpr (rounds_succ (n := 1)) ?_)
  refine wp_seq (c_reg R54_5_l ?_)
  refine q0 p54_5_0 hE (st_move rfl) ?_; clear hE a; intro a hE
  refine q0 p54_5_1 hE (st_move rfl) ?_; clear hE a; intro a hE
  refine q0 p54_5_2 hE (st_lenS Try.underlying9 rfl) ?_; clear hE a; intro a hE
  refine q0 p54_5_3 hE (st_lss (b := true) rfl rfl (by decide +kernel)) ?_; clear hE a; intro a hE
  refine p_nil (x_norm ?_)
  refine c_cond (t := true) hE rfl ?_
  refine wp_skip (x_norm (wp_seq (wp_block (c_reg R54_7_l ?_))))
  refine q0 p54_7_0 hE (st_move rfl) ?_; clear hE a; intro a hE
  refine q0 p54_7_1 hE (st_move rfl) ?_; clear hE a; intro a hE
  refine q0 p54_7_2 hE (st_indexV (i := 0) (x := 120) Try.underlying9 rfl rfl (by decide +kernel) (by decide +kernel)) ?_; clear hE a; intro a hE
  refine p_nil (x_norm (wp_block (c_reg R54_9_l ?_)))
  refine q0 p54_9_0 hE (st_eql (b := false) rfl rfl (by decide)) ?_; clear hE a; intro a hE
  refine q0 p54_9_1 hE (st_assign rfl) ?_; clear hE a; intro a hE
  refine p_nil (x_norm ?_)
  refine c_cond (t := false) hE rfl ?_
  refine c_reg R54_15_l ?_
  refine q0 p54_15_0 hE (st_eql (b := false) rfl rfl (by decide)) ?_; clear hE a; intro a hE
  refine q0 p54_15_1 hE (st_assign rfl) ?_; clear hE a; intro a hE
  refine p_nil (x_norm ?_)
  refine c_cond (t := false) hE rfl ?_
  refine c_reg R54_17_l ?_
  refine q0 p54_17_0 hE (st_eql (b := true) rfl rfl (by decide)) ?_; clear hE a; intro a hE
  refine q0 p54_17_1 hE (st_assign rfl) ?_; clear hE a; intro a hE
  refine p_nil (x_norm ?_)
  refine c_cond (t := true) hE rfl ?_
  refine wp_seq (c_reg R54_18_l ?_)
  refine q0 p54_18_0 hE (st_assign rfl) ?_; clear hE a; intro a hE
  refine p_nil (x_norm (wp_block ?_))
  refine c_loop (α := Nat) (fun j a W => En 96 a [(0, Value.int .i64 (1 : Int)), (1, Value.slice A d.length c), (4, Value.pointer (some ⟨g1, 0, none⟩)), (6, Value.pointer (some ⟨g4, 0, none⟩)), (7, Value.string (partsF 1)), (8, Value.pointer (some ⟨g9, 0, none⟩)), (9, Value.int .i64 0), (23, Value.bool true), (28, Value.int .u8 120), (40, Value.bool false), (57, Value.bool false), (67, Value.bool true), (12, Value.int .i64 (j : Int))] ∧ j ≤ d.length ∧ (∀ q, q < j → rd d (q : Int) = 0) ∧ W.heap[g1]? = some (.cells (([Value.int .i64 0, Value.slice none 0 0] ++ b16 (fun _ => 0) ++ [Value.slice none 0 0])).toArray 45 (0, 0)) ∧ W.heap[g4]? = some (.cells (([Value.int .i64 (1 : Int), Value.slice none 0 0] ++ b16 (fun _ => 0) ++ [Value.slice none 0 0])).toArray 45 (0, 0)) ∧ W.heap[g9]? = some (.cells #[Value.slice A d.length c, Value.int .i64 0, Value.int .i64 0] 138 (0, 0)) ∧ Kp w W (fun _ => False)) (fun j => d.length - j) (0) ?_ ?_
  ·
   exact ⟨En.sub hE ⟨rfl, rfl, rfl, rfl, rfl, rfl, rfl, rfl, rfl, rfl, rfl, rfl, rfl, trivial⟩, Nat.zero_le _, fun q hq => absurd hq (Nat.not_lt_zero q), B_g1, B_g4, B_g9, K_0⟩
  ·
   clear hE a
   rintro j a w12 ⟨hE, hj9, hall, B_g1, B_g4, B_g9, K_0⟩
   refine wp_seq (c_reg R54_19_l ?_)
   refine q0 p54_19_0 hE (st_move rfl) ?_; clear hE a; intro a hE
   refine q0 p54_19_1 hE (st_move rfl) ?_; clear hE a; intro a hE
   refine q0 p54_19_2 hE (st_len Try.underlying22 rfl) ?_; clear hE a; intro a hE
   rcases Decidable.em ((j : Int) < (d.length : Int)) with hc13 | hc13
   ·
    refine p_cons (s_still (v := Value.bool true) p54_19_3 hE wn_none rfl (st_lss rfl rfl (decide_eq_true hc13)) ?_); clear hE a; intro a hE
    refine p_nil (x_norm ?_)
    refine c_cond (t := true) hE rfl ?_
    refine wp_skip (x_norm (wp_seq (wp_block (c_reg R54_21_l ?_))))
    refine q0 p54_21_0 hE (st_move rfl) ?_; clear hE a; intro a hE
    refine q0 p54_21_1 hE (st_move rfl) ?_; clear hE a; intro a hE
    refine q0 p54_21_2 hE (st_indexAddrC (i := j) Try.underlying22 tS5 (F_A _ K_0) rfl rfl (by omega)) ?_; clear hE a; intro a hE
    refine q0 (v := Value.int .u8 (rd d (j : Int))) p54_21_3 hE (st_loadC (i := j) tA5 (F_A _ K_0) (by omega) rfl) ?_; clear hE a; intro a hE
    rcases Decidable.em ((rd d (j : Int)) = 0) with hc14 | hc14
    ·
     refine p_cons (s_still (v := Value.bool false) p54_21_4 hE wn_none rfl (st_neq rfl rfl (by rw [decide_eq_true hc14]; rfl)) ?_); clear hE a; intro a hE
     refine p_nil (x_norm ?_)
     refine c_cond (t := false) hE rfl ?_
     refine wp_skip (x_normB (x_norm (c_regL R54_20_l ?_)))
     refine q0 p54_20_0 hE (st_move rfl) ?_; clear hE a; intro a hE
     refine q0 p54_20_1 hE (st_add (z := (j : Int) + 1) rfl rfl (wr_i64 _ (by omega) (by omega))) ?_; clear hE a; intro a hE
     refine q0 p54_20_2 hE (st_assign rfl) ?_; clear hE a; intro a hE
     refine p_nil (x_norm ?_)
     have hz9 : rd d (j : Int) = 0 := hc14
     exact ⟨j + 1, by omega, En.sub hE ⟨rfl, rfl, rfl, rfl, rfl, rfl, rfl, rfl, rfl, rfl, rfl, rfl, rfl, trivial⟩, by omega, fun q hq => by rcases Nat.lt_succ_iff_lt_or_eq.1 hq with h | h; exact hall q h; rw [h]; exact hz9, B_g1, B_g4, B_g9, K_0⟩
    ·
     refine p_cons (s_still (v := Value.bool true) p54_21_4 hE wn_none rfl (st_neq rfl rfl (by rw [decide_eq_false hc14]; rfl)) ?_); clear hE a; intro a hE
     refine p_nil (x_norm ?_)
     refine c_cond (t := true) hE rfl ?_
     refine c_reg R54_22_l ?_
     refine q0 p54_22_0 hE (st_loadN (off := 0) (k := 19) (vs := ([Value.int .i64 (1 : Int), Value.slice none 0 0] ++ b16 (fun _ => 0) ++ [Value.slice none 0 0])) tA45 tS45 rfl B_g4 rfl rfl) ?_; clear hE a; intro a hE
     refine p_cons (s_store (off := 0) (k := 19) (cs' := (([Value.int .i64 (1 : Int), Value.slice none 0 0] ++ b16 (fun _ => 0) ++ [Value.slice none 0 0])).toArray) p54_22_1 hE wn_none tS45 rfl rfl rfl rfl B_g1 (Nat.le_of_ble_eq_true rfl) rfl ?_)
     intro w15 B_g1' hk
     replace B_g4 := kp_blk B_g4 hk (Ne.symm n_g1_g4)
     replace B_g9 := kp_blk B_g9 hk (Ne.symm n_g1_g9)
     replace K_0 := K_0.then_ hk (fun k h => by rw [show k = g1 from h]; exact Or.inr z_0_g1)
     replace B_g1 := B_g1'
     clear hk
     refine q0 p54_22_2 hE (st_assign rfl) ?_; clear hE a; intro a hE
     refine p_nil (x_norm (wp_ret (x_retB (x_ret (x_ret (x_retB (x_ret (x_retB (x_retB (x_ret (x_ret (x_retB (x_ret ?_)))))))))))))
     refine ret_list (rs := [.cell 4 45, .tmp 5]) (vs := [Value.agg (([Value.int .i64 (1 : Int), Value.slice none 0 0] ++ b16 (fun _ => 0) ++ [Value.slice none 0 0])).toArray, Value.bool false]) rfl hE (.cellN (us := ([Value.int .i64 (1 : Int), Value.slice none 0 0] ++ b16 (fun _ => 0) ++ [Value.slice none 0 0])) tA45 tS45 rfl B_g1 rfl (.tmp rfl .nil)) rfl ?_
     have e9 : okD 1 d = false := by unfold okD; rw [if_pos rfl]; exact all_no9 (j := j) (by omega) hc14
     exact ⟨none, 0, none, 0, (1, [], l16 (fun _ => 0), []), by rw [e9]; rfl, Nat.le_refl _, Nat.le_refl _, fun W' hk => Kd.C_nil _ _, fun W' h => Kd.C_nil _ _, fun h => absurd h (by rw [e9]; decide), K_0⟩
   ·
    refine p_cons (s_still (v := Value.bool false) p54_19_3 hE wn_none rfl (st_lss rfl rfl (decide_eq_false hc13)) ?_); clear hE a; intro a hE
    refine p_nil (x_norm ?_)
    refine c_cond (t := false) hE rfl ?_
    refine wp_exit (x_exit (x_exit (x_in (x_norm (c_reg R54_23_l ?_)))))
    refine q0 p54_23_0 hE (st_fieldAddr Try.underlying45 rfl tS42 rfl rfl) ?_; clear hE a; intro a hE
    refine q0 p54_23_1 hE (st_load1 tA42 rfl ((blk_cell B_g4 1).trans rfl)) ?_; clear hE a; intro a hE
    refine q0 p54_23_2 hE (st_move rfl) ?_; clear hE a; intro a hE
    refine q0 p54_23_3 hE (st_len Try.underlying22 rfl) ?_; clear hE a; intro a hE
    refine p_cons (s_row (xs := [(0, Operand.tmp 84)]) (vs := [(0, Value.int .i64 (d.length : Int))]) (cs := #[Value.int .i64 (d.length : Int)]) p54_23_4 hE wn_none rfl Try.underlying42 rfl (by kernel_rfl) ?_)
    clear hE a; intro g16 w17 z18 B_g16 hk a hE
    have n_g1_g16 : g1 ≠ g16 := ne_new B_g1 z18
    have n_g4_g16 : g4 ≠ g16 := ne_new B_g4 z18
    have n_g9_g16 : g9 ≠ g16 := ne_new B_g9 z18
    have z_0_g16 := Nat.le_trans K_0.kept.1 z18
    replace B_g1 := kp_blk B_g1 hk (fun h => h)
    replace B_g4 := kp_blk B_g4 hk (fun h => h)
    replace B_g9 := kp_blk B_g9 hk (fun h => h)
    replace K_0 := K_0.then_ hk (fun _ h => h.elim)
    clear hk
    have O_o := own_none w17 w.heap.size 3 1
    have Nb_o_g1 : ¬ OB none g1 := ob_nil
    have Nb_o_g4 : ¬ OB none g4 := ob_nil
    have Nb_o_g9 : ¬ OB none g9 := ob_nil
    have Nb_o_g16 : ¬ OB none g16 := ob_nil
    have Z_0_o : ∀ k, OB none k → (fun _ => False) k ∨ w.heap.size ≤ k := fun k h => absurd h ob_nil
    refine p_cons (s_appendC (xs := []) (ys := [(d.length : Int)]) p54_23_5 hE wn_none rfl Try.underlying42 eD3 rfl O_o rfl (C_blk (k := .i64) (l := [(d.length : Int)]) (off := 0) B_g16 ⟨rfl, Nat.le_of_ble_eq_true rfl⟩ rfl) (by omega) (by omega) K_0.kept.1 ?_)
    clear hE a; intro Ao19 co20 w21 O_o' hk hat a hE
    have Nb_o_g1' := grow_n Nb_o_g1 (blk_lt B_g1) hat
    have Nb_o_g4' := grow_n Nb_o_g4 (blk_lt B_g4) hat
    have Nb_o_g9' := grow_n Nb_o_g9 (blk_lt B_g9) hat
    have Nb_o_g16' := grow_n Nb_o_g16 (blk_lt B_g16) hat
    have Z_0_o' := grow_z Z_0_o K_0.kept.1 hat
    replace B_g1 := kp_blk B_g1 hk Nb_o_g1
    replace B_g4 := kp_blk B_g4 hk Nb_o_g4
    replace B_g9 := kp_blk B_g9 hk Nb_o_g9
    replace B_g16 := kp_blk B_g16 hk Nb_o_g16
    replace K_0 := K_0.then_ hk Z_0_o
    replace Nb_o_g1 := Nb_o_g1'
    replace Nb_o_g4 := Nb_o_g4'
    replace Nb_o_g9 := Nb_o_g9'
    replace Nb_o_g16 := Nb_o_g16'
    replace Z_0_o := Z_0_o'
    replace O_o : w21.ownsRow _ 3 1 (.slice Ao19 1 co20) 1 (encs (Value.int .i64) [(d.length : Int)]) := O_o'
    clear O_o' hk hat
    refine q0 p54_23_6 hE (st_fieldAddr Try.underlying45 rfl tS42 rfl rfl) ?_; clear hE a; intro a hE
    refine p_cons (s_store (off := 1) (k := 1) (cs' := (([Value.int .i64 (1 : Int), Value.slice Ao19 1 co20] ++ b16 (fun _ => 0) ++ [Value.slice none 0 0])).toArray) p54_23_7 hE wn_none tS42 rfl rfl rfl rfl B_g4 (Nat.le_of_ble_eq_true rfl) rfl ?_)
    intro w22 B_g4' hk
    replace B_g1 := kp_blk B_g1 hk n_g1_g4
    replace B_g9 := kp_blk B_g9 hk (Ne.symm n_g4_g9)
    replace B_g16 := kp_blk B_g16 hk (Ne.symm n_g4_g16)
    replace O_o := own_keep O_o hk (fun k hk2 h2 => Nb_o_g4 (by rw [show k = g4 from h2] at hk2; exact hk2))
    replace K_0 := K_0.then_ hk (fun k h => by rw [show k = g4 from h]; exact Or.inr z_0_g4)
    replace B_g4 := B_g4'
    clear hk
    refine p_nil (x_norm (c_regL R54_24_l ?_))
    refine q0 p54_24_0 hE (st_move rfl) ?_; clear hE a; intro a hE
    refine q0 p54_24_1 hE (st_move rfl) ?_; clear hE a; intro a hE
    refine q0 p54_24_2 hE (st_len Try.underlying22 rfl) ?_; clear hE a; intro a hE
    refine p_cons (s_call (xs := [Operand.tmp 88, Operand.tmp 90]) (args := [Value.pointer (some ⟨g9, 0, none⟩), Value.int .i64 (d.length : Int)]) p54_24_3 hE wn_none rfl rfl Try.func71 cl71 (rb_ok g9 A d.length c 0 0 d.length _ (⟨rfl, Nat.le_refl _⟩) (by omega) (by omega) (by omega) B_g9) ?_)
    rintro e w23 ⟨rfl, B_g9', hk⟩
    replace B_g1 := kp_blk B_g1 hk n_g1_g9
    replace B_g4 := kp_blk B_g4 hk n_g4_g9
    replace B_g16 := kp_blk B_g16 hk (Ne.symm n_g9_g16)
    replace O_o := own_keep O_o hk (fun k hk2 h2 => Nb_o_g9 (by rw [show k = g9 from h2] at hk2; exact hk2))
    replace K_0 := K_0.then_ hk (fun k h => by rw [show k = g9 from h]; exact Or.inr z_0_g9)
    replace B_g9 := B_g9'
    refine ⟨_, rfl, ?_⟩; clear hE a; intro a hE
    refine p_nil (x_normB (x_normB (x_norm (c_regL R54_6_l ?_))))
    refine q0 p54_6_0 hE (st_move rfl) ?_; clear hE a; intro a hE
    refine q0 p54_6_1 hE (st_add (z := 1) rfl rfl (by decide)) ?_; clear hE a; intro a hE
    refine q0 p54_6_2 hE (st_assign rfl) ?_; clear hE a; intro a hE
    refine p_nil (x_norm ?_)
    refine (Eq.mpr (rounds_succ (n := 0)) ?_)
    refine wp_seq (c_reg R54_5_l ?_)
    refine q0 p54_5_0 hE (st_move rfl) ?_; clear hE a; intro a hE
    refine q0 p54_5_1 hE (st_move rfl) ?_; clear hE a; intro a hE
    refine q0 p54_5_2 hE (st_lenS Try.underlying9 rfl) ?_; clear hE a; intro a hE
    refine q0 p54_5_3 hE (st_lss (b := false) rfl rfl (by decide +kernel)) ?_; clear hE a; intro a hE
    refine p_nil (x_norm ?_)
    refine c_cond (t := false) hE rfl ?_
    refine wp_exit (x_exit (x_exit (x_in (x_norm ?_))))
    refine c_drawS (S := fun W => W.heap[g4]? = some (.cells (([Value.int .i64 (1 : Int), Value.slice Ao19 1 co20] ++ b16 (fun _ => 0) ++ [Value.slice none 0 0])).toArray 45 (0, 0)) ∧ W.heap[g9]? = some (.cells #[Value.slice (if c = d.length then A else Option.map (fun x => Addr.add x (d.length * 1)) A) (d.length - d.length) (c - d.length), Value.int .i64 ((0 + d.length : Nat) : Int), Value.int .i64 0] 138 (0, 0)) ∧ W.heap[g16]? = some (.cells #[Value.int .i64 (d.length : Int)] 3 (0, 0)) ∧ True) rfl rfl (listed := #[false, false, false, false, false, false]) rfl ?_
    intro w24 hh hk
    replace B_g1 := kp_blk B_g1 hk (fun h => h)
    replace B_g4 := kp_blk B_g4 hk (fun h => h)
    replace B_g9 := kp_blk B_g9 hk (fun h => h)
    replace B_g16 := kp_blk B_g16 hk (fun h => h)
    replace O_o := own_keep O_o hk (fun _ _ h => h)
    replace K_0 := K_0.then_ hk (fun _ h => h.elim)
    clear hh hk
    refine Rv.dq (v := Value.agg (([Value.int .i64 (1 : Int), Value.slice Ao19 1 co20] ++ b16 (fun _ => 0) ++ [Value.slice none 0 0])).toArray) p54_25_0 ns54_25 hE wn_none ⟨B_g4, B_g9, B_g16, trivial⟩ (fun W hS => (st_loadN (off := 0) (k := 19) (vs := ([Value.int .i64 (1 : Int), Value.slice Ao19 1 co20] ++ b16 (fun _ => 0) ++ [Value.slice none 0 0])) tA45 tS45 rfl hS.1 rfl rfl)) ?_; clear hE a; intro a hE
    refine Rv.dq (v := Value.pointer (some ⟨g9, 0, none⟩)) p54_25_1 ns54_25 hE wn_none ⟨B_g4, B_g9, B_g16, trivial⟩ (fun W hS => (st_move rfl)) ?_; clear hE a; intro a hE
    refine d_one (by kernel_rfl) rfl (s_call (xs := [Operand.tmp 93]) (args := [Value.pointer (some ⟨g9, 0, none⟩)]) p54_25_2 hE wn_none rfl rfl Try.func113 cl113 (rcl_c g9 (if c = d.length then A else Option.map (fun x => Addr.add x (d.length * 1)) A) (d.length - d.length) (c - d.length) (0 + d.length) 0 _ B_g9) ?_)
    rintro e w25 ⟨rfl, hk⟩
    replace B_g1 := kp_blk B_g1 hk (fun h => h)
    replace B_g4 := kp_blk B_g4 hk (fun h => h)
    replace B_g9 := kp_blk B_g9 hk (fun h => h)
    replace B_g16 := kp_blk B_g16 hk (fun h => h)
    replace O_o := own_keep O_o hk (fun _ _ h => h)
    replace K_0 := K_0.then_ hk (fun _ h => h.elim)
    refine ⟨_, rfl, ?_⟩; clear hE a; intro a hE
    refine ⟨⟨B_g4, B_g9, B_g16, trivial⟩, ?_⟩
    refine Rv.dq (v := Value.bool (decide ((rclF (d.length - d.length) 0) = 0))) p54_25_3 ns54_25 hE wn_none ⟨B_g4, B_g9, B_g16, trivial⟩ (fun W hS => (st_eql (b := (decide ((rclF (d.length - d.length) 0) = 0))) rfl rfl rfl)) ?_; clear hE a; intro a hE
    refine d_one (by kernel_rfl) rfl (s_store (off := 0) (k := 19) (cs' := (([Value.int .i64 (1 : Int), Value.slice Ao19 1 co20] ++ b16 (fun _ => 0) ++ [Value.slice none 0 0])).toArray) p54_25_4 hE wn_none tS45 rfl rfl rfl rfl B_g1 (Nat.le_of_ble_eq_true rfl) rfl ?_)
    intro w26 B_g1' hk
    replace B_g4 := kp_blk B_g4 hk (Ne.symm n_g1_g4)
    replace B_g9 := kp_blk B_g9 hk (Ne.symm n_g1_g9)
    replace B_g16 := kp_blk B_g16 hk (Ne.symm n_g1_g16)
    replace O_o := own_keep O_o hk (fun k hk2 h2 => Nb_o_g1 (by rw [show k = g1 from h2] at hk2; exact hk2))
    replace K_0 := K_0.then_ hk (fun k h => by rw [show k = g1 from h]; exact Or.inr z_0_g1)
    replace B_g1 := B_g1'
    clear hk
    refine ⟨⟨B_g4, B_g9, B_g16, trivial⟩, ?_⟩
    refine Rv.dq (v := Value.bool (decide ((rclF (d.length - d.length) 0) = 0))) p54_25_5 ns54_25 hE wn_none ⟨B_g4, B_g9, B_g16, trivial⟩ (fun W hS => (st_assign rfl)) ?_; clear hE a; intro a hE
    refine d_end (by kernel_rfl) ?_
    refine x_norm (wp_ret ?_)
    refine ret_list (rs := [.cell 4 45, .tmp 5]) (vs := [Value.agg (([Value.int .i64 (1 : Int), Value.slice Ao19 1 co20] ++ b16 (fun _ => 0) ++ [Value.slice none 0 0])).toArray, Value.bool (decide ((rclF (d.length - d.length) 0) = 0))]) rfl hE (.cellN (us := ([Value.int .i64 (1 : Int), Value.slice Ao19 1 co20] ++ b16 (fun _ => 0) ++ [Value.slice none 0 0])) tA45 tS45 rfl B_g1 rfl (.tmp rfl .nil)) rfl ?_
    have e9 : okD 1 d = true := by unfold okD; rw [if_pos rfl]; exact all_rd9 (fun q hq => hall q (by omega))
    have ec : (decide ((rclF (d.length - d.length) 0) = 0)) = true := decide_eq_true (by rw [rcl_zero, if_pos (by omega)])
    exact ⟨_, _, none, 0, (1, [(d.length : Int)], l16 (fun _ => 0), []), by rw [e9, ec]; rfl, (own_caps O_o).1, Nat.le_refl _, fun W' hk => own_told (own_keep O_o hk (fun k h h2 => by have := (own_ob O_o h).1; omega)), fun W' h => Kd.C_nil _ _, fun _ => rfl, K_0⟩
 ·
  rcases Decidable.em (k = 2) with hK2 | hK2
  ·
   subst hK2
   refine c_reg R54_1_l ?_
   refine q0 p54_1_0 hE (st_move rfl) ?_; clear hE a; intro a hE
   refine q0 p54_1_1 hE (st_build (xs := [(0, Operand.tmp 13)]) (vs := [(0, Value.int .i64 (2 : Int))]) (cs := (([Value.int .i64 (2 : Int), Value.slice none 0 0] ++ b16 (fun _ => 0) ++ [Value.slice none 0 0])).toArray) rfl (by kernel_rfl)) ?_; clear hE a; intro a hE
   refine p_cons (s_alloc p54_1_2 hE wn_none rfl tZ45 ?_)
   clear hE a; intro g27 w28 z29 B_g27 hk a hE
   replace B_g27 : w28.heap[g27]? = some (.cells (([Value.int .i64 0, Value.slice none 0 0] ++ b16 (fun _ => 0) ++ [Value.slice none 0 0])).toArray 45 (0, 0)) := B_g27
   have n_g1_g27 : g1 ≠ g27 := ne_new B_g1 z29
   have z_0_g27 := Nat.le_trans K_0.kept.1 z29
   replace B_g1 := kp_blk B_g1 hk (fun h => h)
   replace K_0 := K_0.then_ hk (fun _ h => h.elim)
   clear hk
   refine p_cons (s_store (off := 0) (k := 19) (cs' := (([Value.int .i64 (2 : Int), Value.slice none 0 0] ++ b16 (fun _ => 0) ++ [Value.slice none 0 0])).toArray) p54_1_3 hE wn_none tS45 rfl rfl rfl rfl B_g27 (Nat.le_of_ble_eq_true rfl) rfl ?_)
   intro w30 B_g27' hk
   replace B_g1 := kp_blk B_g1 hk n_g1_g27
   replace K_0 := K_0.then_ hk (fun k h => by rw [show k = g27 from h]; exact Or.inr z_0_g27)
   replace B_g27 := B_g27'
   clear hk
   refine p_nil (x_norm (c_reg R54_2_l ?_))
   refine q0 p54_2_0 hE (st_move rfl) ?_; clear hE a; intro a hE
   refine p_cons (s_call (xs := [Operand.tmp 15]) (args := [Value.int .i64 (2 : Int)]) p54_2_1 hE wn_none rfl rfl Try.func53 cl53 (parts_ok 2 (by decide) _) ?_)
   rintro e w31 ⟨rfl, hk⟩
   replace B_g1 := kp_blk B_g1 hk (fun h => h)
   replace B_g27 := kp_blk B_g27 hk (fun h => h)
   replace K_0 := K_0.then_ hk (fun _ h => h.elim)
   refine ⟨_, rfl, ?_⟩; clear hE a; intro a hE
   refine q0 p54_2_2 hE (st_assign rfl) ?_; clear hE a; intro a hE
   refine p_nil (x_norm (c_reg R54_3_l ?_))
   refine q0 p54_3_0 hE (st_move rfl) ?_; clear hE a; intro a hE
   refine q0 p54_3_1 hE (st_build (xs := [(0, Operand.tmp 17)]) (vs := [(0, Value.slice A d.length c)]) (cs := #[Value.slice A d.length c, Value.int .i64 0, Value.int .i64 0]) rfl (by kernel_rfl)) ?_; clear hE a; intro a hE
   refine p_cons (s_box p54_3_2 hE wn_none rfl rfl ?_)
   clear hE a; intro g32 w33 z34 B_g32 hk a hE
   replace B_g32 : w33.heap[g32]? = some (.cells #[Value.slice A d.length c, Value.int .i64 0, Value.int .i64 0] 138 (0, 0)) := B_g32
   have n_g1_g32 : g1 ≠ g32 := ne_new B_g1 z34
   have n_g27_g32 : g27 ≠ g32 := ne_new B_g27 z34
   have z_0_g32 := Nat.le_trans K_0.kept.1 z34
   replace B_g1 := kp_blk B_g1 hk (fun h => h)
   replace B_g27 := kp_blk B_g27 hk (fun h => h)
   replace K_0 := K_0.then_ hk (fun _ h => h.elim)
   clear hk
   refine q0 p54_3_3 hE (st_assign rfl) ?_; clear hE a; intro a hE
   refine p_nil (x_norm (wp_seq (c_reg R54_4_l ?_)))
   refine q0 p54_4_0 hE (st_assign rfl) ?_; clear hE a; intro a hE
   refine p_nil (x_norm (wp_block ?_))
   refine wp_loop_rounds 2 ?_
   refine (Eq.mpr (rounds_succ (n := 1)) ?_)
   refine wp_seq (c_reg R54_5_l ?_)
   refine q0 p54_5_0 hE (st_move rfl) ?_; clear hE a; intro a hE
   refine q0 p54_5_1 hE (st_move rfl) ?_; clear hE a; intro a hE
   refine q0 p54_5_2 hE (st_lenS Try.underlying9 rfl) ?_; clear hE a; intro a hE
   refine q0 p54_5_3 hE (st_lss (b := true) rfl rfl (by decide +kernel)) ?_; clear hE a; intro a hE
   refine p_nil (x_norm ?_)
   refine c_cond (t := true) hE rfl ?_
   refine wp_skip (x_norm (wp_seq (wp_block (c_reg R54_7_l ?_))))
   refine q0 p54_7_0 hE (st_move rfl) ?_; clear hE a; intro a hE
   refine q0 p54_7_1 hE (st_move rfl) ?_; clear hE a; intro a hE
   refine q0 p54_7_2 hE (st_indexV (i := 0) (x := 116) Try.underlying9 rfl rfl (by decide +kernel) (by decide +kernel)) ?_; clear hE a; intro a hE
   refine p_nil (x_norm (wp_block (c_reg R54_9_l ?_)))
   refine q0 p54_9_0 hE (st_eql (b := false) rfl rfl (by decide)) ?_; clear hE a; intro a hE
   refine q0 p54_9_1 hE (st_assign rfl) ?_; clear hE a; intro a hE
   refine p_nil (x_norm ?_)
   refine c_cond (t := false) hE rfl ?_
   refine c_reg R54_15_l ?_
   refine q0 p54_15_0 hE (st_eql (b := true) rfl rfl (by decide)) ?_; clear hE a; intro a hE
   refine q0 p54_15_1 hE (st_assign rfl) ?_; clear hE a; intro a hE
   refine p_nil (x_norm ?_)
   refine c_cond (t := true) hE rfl ?_
   refine c_regL R54_16_l ?_
   refine q0 p54_16_0 hE (st_move rfl) ?_; clear hE a; intro a hE
   refine q0 p54_16_1 hE (st_move rfl) ?_; clear hE a; intro a hE
   refine q0 p54_16_2 hE (st_nil rfl) ?_; clear hE a; intro a hE
   refine q0 p54_16_3 hE (st_fieldAddr Try.underlying138 rfl tS22 rfl rfl) ?_; clear hE a; intro a hE
   refine q0 p54_16_4 hE (st_load1 tA22 rfl ((blk_cell B_g32 0).trans rfl)) ?_; clear hE a; intro a hE
   refine q0 p54_16_5 hE (st_len Try.underlying22 rfl) ?_; clear hE a; intro a hE
   refine p_cons (s_call (xs := [Operand.tmp 59, Operand.tmp 64]) (args := [Value.pointer (some ⟨g32, 0, none⟩), Value.int .i64 (d.length : Int)]) p54_16_6 hE wn_none rfl rfl Try.func71 cl71 (rb_ok g32 A d.length c 0 0 d.length _ (⟨rfl, Nat.le_refl _⟩) (by omega) (by omega) (by omega) B_g32) ?_)
   rintro e w35 ⟨rfl, B_g32', hk⟩
   replace B_g1 := kp_blk B_g1 hk n_g1_g32
   replace B_g27 := kp_blk B_g27 hk n_g27_g32
   replace K_0 := K_0.then_ hk (fun k h => by rw [show k = g32 from h]; exact Or.inr z_0_g32)
   replace B_g32 := B_g32'
   refine ⟨_, rfl, ?_⟩; clear hE a; intro a hE
   refine q0 p54_16_7 hE (st_fieldAddr Try.underlying45 rfl tS22 rfl rfl) ?_; clear hE a; intro a hE
   refine p_cons (s_store (off := 18) (k := 1) (cs' := (([Value.int .i64 (2 : Int), Value.slice none 0 0] ++ b16 (fun _ => 0) ++ [Value.slice A d.length c])).toArray) p54_16_8 hE wn_none tS22 rfl rfl rfl rfl B_g27 (Nat.le_of_ble_eq_true rfl) rfl ?_)
   intro w36 B_g27' hk
   replace B_g1 := kp_blk B_g1 hk n_g1_g27
   replace B_g32 := kp_blk B_g32 hk (Ne.symm n_g27_g32)
   replace K_0 := K_0.then_ hk (fun k h => by rw [show k = g27 from h]; exact Or.inr z_0_g27)
   replace B_g27 := B_g27'
   clear hk
   refine p_nil (x_normB (x_normB (x_norm (c_regL R54_6_l ?_))))
   refine q0 p54_6_0 hE (st_move rfl) ?_; clear hE a; intro a hE
   refine q0 p54_6_1 hE (st_add (z := 1) rfl rfl (by decide)) ?_; clear hE a; intro a hE
   refine q0 p54_6_2 hE (st_assign rfl) ?_; clear hE a; intro a hE
   refine p_nil (x_norm ?_)
   refine (Eq.mpr (rounds_succ (n := 0)) ?_)
   refine wp_seq (c_reg R54_5_l ?_)
   refine q0 p54_5_0 hE (st_move rfl) ?_; clear hE a; intro a hE
   refine q0 p54_5_1 hE (st_move rfl) ?_; clear hE a; intro a hE
   refine q0 p54_5_2 hE (st_lenS Try.underlying9 rfl) ?_; clear hE a; intro a hE
   refine q0 p54_5_3 hE (st_lss (b := false) rfl rfl (by decide +kernel)) ?_; clear hE a; intro a hE
   refine p_nil (x_norm ?_)
   refine c_cond (t := false) hE rfl ?_
   refine wp_exit (x_exit (x_exit (x_in (x_norm ?_))))
   refine c_drawS (S := fun W => W.heap[g27]? = some (.cells (([Value.int .i64 (2 : Int), Value.slice none 0 0] ++ b16 (fun _ => 0) ++ [Value.slice A d.length c])).toArray 45 (0, 0)) ∧ W.heap[g32]? = some (.cells #[Value.slice (if c = d.length then A else Option.map (fun x => Addr.add x (d.length * 1)) A) (d.length - d.length) (c - d.length), Value.int .i64 ((0 + d.length : Nat) : Int), Value.int .i64 0] 138 (0, 0)) ∧ True) rfl rfl (listed := #[false, false, false, false, false, false]) rfl ?_
   intro w37 hh hk
   replace B_g1 := kp_blk B_g1 hk (fun h => h)
   replace B_g27 := kp_blk B_g27 hk (fun h => h)
   replace B_g32 := kp_blk B_g32 hk (fun h => h)
   replace K_0 := K_0.then_ hk (fun _ h => h.elim)
   clear hh hk
   refine Rv.dq (v := Value.agg (([Value.int .i64 (2 : Int), Value.slice none 0 0] ++ b16 (fun _ => 0) ++ [Value.slice A d.length c])).toArray) p54_25_0 ns54_25 hE wn_none ⟨B_g27, B_g32, trivial⟩ (fun W hS => (st_loadN (off := 0) (k := 19) (vs := ([Value.int .i64 (2 : Int), Value.slice none 0 0] ++ b16 (fun _ => 0) ++ [Value.slice A d.length c])) tA45 tS45 rfl hS.1 rfl rfl)) ?_; clear hE a; intro a hE
   refine Rv.dq (v := Value.pointer (some ⟨g32, 0, none⟩)) p54_25_1 ns54_25 hE wn_none ⟨B_g27, B_g32, trivial⟩ (fun W hS => (st_move rfl)) ?_; clear hE a; intro a hE
   refine d_one (by kernel_rfl) rfl (s_call (xs := [Operand.tmp 93]) (args := [Value.pointer (some ⟨g32, 0, none⟩)]) p54_25_2 hE wn_none rfl rfl Try.func113 cl113 (rcl_c g32 (if c = d.length then A else Option.map (fun x => Addr.add x (d.length * 1)) A) (d.length - d.length) (c - d.length) (0 + d.length) 0 _ B_g32) ?_)
   rintro e w38 ⟨rfl, hk⟩
   replace B_g1 := kp_blk B_g1 hk (fun h => h)
   replace B_g27 := kp_blk B_g27 hk (fun h => h)
   replace B_g32 := kp_blk B_g32 hk (fun h => h)
   replace K_0 := K_0.then_ hk (fun _ h => h.elim)
   refine ⟨_, rfl, ?_⟩; clear hE a; intro a hE
   refine ⟨⟨B_g27, B_g32, trivial⟩, ?_⟩
   refine Rv.dq (v := Value.bool (decide ((rclF (d.length - d.length) 0) = 0))) p54_25_3 ns54_25 hE wn_none ⟨B_g27, B_g32, trivial⟩ (fun W hS => (st_eql (b := (decide ((rclF (d.length - d.length) 0) = 0))) rfl rfl rfl)) ?_; clear hE a; intro a hE
   refine d_one (by kernel_rfl) rfl (s_store (off := 0) (k := 19) (cs' := (([Value.int .i64 (2 : Int), Value.slice none 0 0] ++ b16 (fun _ => 0) ++ [Value.slice A d.length c])).toArray) p54_25_4 hE wn_none tS45 rfl rfl rfl rfl B_g1 (Nat.le_of_ble_eq_true rfl) rfl ?_)
   intro w39 B_g1' hk
   replace B_g27 := kp_blk B_g27 hk (Ne.symm n_g1_g27)
   replace B_g32 := kp_blk B_g32 hk (Ne.symm n_g1_g32)
   replace K_0 := K_0.then_ hk (fun k h => by rw [show k = g1 from h]; exact Or.inr z_0_g1)
   replace B_g1 := B_g1'
   clear hk
   refine ⟨⟨B_g27, B_g32, trivial⟩, ?_⟩
   refine Rv.dq (v := Value.bool (decide ((rclF (d.length - d.length) 0) = 0))) p54_25_5 ns54_25 hE wn_none ⟨B_g27, B_g32, trivial⟩ (fun W hS => (st_assign rfl)) ?_; clear hE a; intro a hE
   refine d_end (by kernel_rfl) ?_
   refine x_norm (wp_ret ?_)
   refine ret_list (rs := [.cell 4 45, .tmp 5]) (vs := [Value.agg (([Value.int .i64 (2 : Int), Value.slice none 0 0] ++ b16 (fun _ => 0) ++ [Value.slice A d.length c])).toArray, Value.bool (decide ((rclF (d.length - d.length) 0) = 0))]) rfl hE (.cellN (us := ([Value.int .i64 (2 : Int), Value.slice none 0 0] ++ b16 (fun _ => 0) ++ [Value.slice A d.length c])) tA45 tS45 rfl B_g1 rfl (.tmp rfl .nil)) rfl ?_
   have ec : (decide ((rclF (d.length - d.length) 0) = 0)) = true := decide_eq_true (by rw [rcl_zero, if_pos (by omega)])
   exact ⟨none, 0, _, _, (2, [], l16 (fun _ => 0), d), by rw [ec]; rfl, Nat.le_refl _, hc, fun W' hk => Kd.C_nil _ _, fun W' h => h, fun _ => rfl, K_0⟩
  ·
   obtain ⟨hfp, hpe⟩ := fact_k (show 3 ≤ k by omega) hk9
   have hps := (parts_facts k hk9).2.2.2.1
   refine c_reg R54_1_l ?_
   refine q0 p54_1_0 hE (st_move rfl) ?_; clear hE a; intro a hE
   refine q0 p54_1_1 hE (st_build (xs := [(0, Operand.tmp 13)]) (vs := [(0, Value.int .i64 (k : Int))]) (cs := (([Value.int .i64 (k : Int), Value.slice none 0 0] ++ b16 (fun _ => 0) ++ [Value.slice none 0 0])).toArray) rfl (by kernel_rfl)) ?_; clear hE a; intro a hE
   refine p_cons (s_alloc p54_1_2 hE wn_none rfl tZ45 ?_)
   clear hE a; intro g40 w41 z42 B_g40 hk a hE
   replace B_g40 : w41.heap[g40]? = some (.cells (([Value.int .i64 0, Value.slice none 0 0] ++ b16 (fun _ => 0) ++ [Value.slice none 0 0])).toArray 45 (0, 0)) := B_g40
   have n_g1_g40 : g1 ≠ g40 := ne_new B_g1 z42
   have z_0_g40 := Nat.le_trans K_0.kept.1 z42
   replace B_g1 := kp_blk B_g1 hk (fun h => h)
   replace K_0 := K_0.then_ hk (fun _ h => h.elim)
   clear hk
   refine p_cons (s_store (off := 0) (k := 19) (cs' := (([Value.int .i64 (k : Int), Value.slice none 0 0] ++ b16 (fun _ => 0) ++ [Value.slice none 0 0])).toArray) p54_1_3 hE wn_none tS45 rfl rfl rfl rfl B_g40 (Nat.le_of_ble_eq_true rfl) rfl ?_)
   intro w43 B_g40' hk
   replace B_g1 := kp_blk B_g1 hk n_g1_g40
   replace K_0 := K_0.then_ hk (fun k h => by rw [show k = g40 from h]; exact Or.inr z_0_g40)
   replace B_g40 := B_g40'
   clear hk
   refine p_nil (x_norm (c_reg R54_2_l ?_))
   refine q0 p54_2_0 hE (st_move rfl) ?_; clear hE a; intro a hE
   refine p_cons (s_call (xs := [Operand.tmp 15]) (args := [Value.int .i64 (k : Int)]) p54_2_1 hE wn_none rfl rfl Try.func53 cl53 (parts_ok k hk9 _) ?_)
   rintro e w44 ⟨rfl, hk⟩
   replace B_g1 := kp_blk B_g1 hk (fun h => h)
   replace B_g40 := kp_blk B_g40 hk (fun h => h)
   replace K_0 := K_0.then_ hk (fun _ h => h.elim)
   refine ⟨_, rfl, ?_⟩; clear hE a; intro a hE
   refine q0 p54_2_2 hE (st_assign rfl) ?_; clear hE a; intro a hE
   refine p_nil (x_norm (c_reg R54_3_l ?_))
   refine q0 p54_3_0 hE (st_move rfl) ?_; clear hE a; intro a hE
   refine q0 p54_3_1 hE (st_build (xs := [(0, Operand.tmp 17)]) (vs := [(0, Value.slice A d.length c)]) (cs := #[Value.slice A d.length c, Value.int .i64 0, Value.int .i64 0]) rfl (by kernel_rfl)) ?_; clear hE a; intro a hE
   refine p_cons (s_box p54_3_2 hE wn_none rfl rfl ?_)
   clear hE a; intro g45 w46 z47 B_g45 hk a hE
   replace B_g45 : w46.heap[g45]? = some (.cells #[Value.slice A d.length c, Value.int .i64 0, Value.int .i64 0] 138 (0, 0)) := B_g45
   have n_g1_g45 : g1 ≠ g45 := ne_new B_g1 z47
   have n_g40_g45 : g40 ≠ g45 := ne_new B_g40 z47
   have z_0_g45 := Nat.le_trans K_0.kept.1 z47
   replace B_g1 := kp_blk B_g1 hk (fun h => h)
   replace B_g40 := kp_blk B_g40 hk (fun h => h)
   replace K_0 := K_0.then_ hk (fun _ h => h.elim)
   clear hk
   refine q0 p54_3_3 hE (st_assign rfl) ?_; clear hE a; intro a hE
   refine p_nil (x_norm (wp_seq (c_reg R54_4_l ?_)))
   refine q0 p54_4_0 hE (st_assign rfl) ?_; clear hE a; intro a hE
   refine p_nil (x_norm (wp_block ?_))
   have O_o := own_none w46 w.heap.size 3 1
   have Nb_o_g1 : ¬ OB none g1 := ob_nil
   have Nb_o_g40 : ¬ OB none g40 := ob_nil
   have Nb_o_g45 : ¬ OB none g45 := ob_nil
   have Z_0_o : ∀ k, OB none k → (fun _ => False) k ∨ w.heap.size ≤ k := fun k h => absurd h ob_nil
   have her0 : erP k 0 d.length = 0 := er_ok (Nat.zero_le _)
   replace B_g45 : w46.heap[g45]? = some (.cells #[.slice A d.length c, .int .i64 0, .int .i64 (erP k 0 d.length)] 138 (0, 0)) := by rw [her0]; exact B_g45
   refine c_loop (α := Nat) (fun i a W => ∃ (A_o : Option Addr) (c_o : Nat) (n_o : Nat), ∃ (N : List Int), ∃ (f : Nat → Int), ∃ (Ac : Option Addr), ∃ (nc : Nat), ∃ (cc : Nat), ∃ (at' : Nat), En 96 a [(0, Value.int .i64 (k : Int)), (1, Value.slice A d.length c), (4, Value.pointer (some ⟨g1, 0, none⟩)), (6, Value.pointer (some ⟨g40, 0, none⟩)), (7, Value.string (partsF k)), (8, Value.pointer (some ⟨g45, 0, none⟩)), (9, Value.int .i64 (i : Int))] ∧ i ≤ (partsF k).size ∧ N.length ≤ i ∧ at' ≤ 16 * i ∧ nc ≤ cc ∧ (posP k i ≤ d.length → nc = d.length - posP k i ∧ (∀ W', Kd.C (Kd.int .u8) W' A d.length d → Kd.C (Kd.int .u8) W' Ac nc (d.drop (posP k i)))) ∧ (posP k i ≤ d.length → N = numsO k d (cntF (partsF k) i)) ∧ (posP k i ≤ d.length → l16 f = l16 (adrP k d i)) ∧ W.heap[g1]? = some (.cells (([Value.int .i64 0, Value.slice none 0 0] ++ b16 (fun _ => 0) ++ [Value.slice none 0 0])).toArray 45 (0, 0)) ∧ W.heap[g40]? = some (.cells (([Value.int .i64 (k : Int), Value.slice A_o n_o c_o] ++ b16 f ++ [Value.slice none 0 0])).toArray 45 (0, 0)) ∧ W.heap[g45]? = some (.cells #[Value.slice Ac nc cc, Value.int .i64 (at' : Int), Value.int .i64 (erP k i d.length)] 138 (0, 0)) ∧ n_o = N.length ∧ W.ownsRow w.heap.size 3 1 (.slice A_o n_o c_o) n_o (encs (Value.int .i64) N) ∧ ¬ OB A_o g1 ∧ ¬ OB A_o g40 ∧ ¬ OB A_o g45 ∧ (∀ k, OB A_o k → (fun _ => False) k ∨ w.heap.size ≤ k) ∧ Kp w W (fun _ => False)) (fun i => (partsF k).size - i) (0) ?_ ?_
   ·
    exact ⟨none, 0, 0, [], (fun _ => 0), A, d.length, c, 0, En.sub hE ⟨rfl, rfl, rfl, rfl, rfl, rfl, rfl, trivial⟩, Nat.zero_le _, Nat.le_refl _, Nat.le_refl _, hc, (fun _ => ⟨rfl, fun W' h => h⟩), (fun _ => rfl), (fun _ => rfl), B_g1, B_g40, B_g45, rfl, O_o, Nb_o_g1, Nb_o_g40, Nb_o_g45, Z_0_o, K_0⟩
   ·
    clear hE a
    rintro i a w48 ⟨A_o, c_o, n_o, N, f, Ac, nc, cc, at', hE, hi9, hNl, hat, hncc, hcu, hN, hf, B_g1, B_g40, B_g45, hn_o, O_o, Nb_o_g1, Nb_o_g40, Nb_o_g45, Z_0_o, K_0⟩
    refine wp_seq (c_reg R54_5_l ?_)
    refine q0 p54_5_0 hE (st_move rfl) ?_; clear hE a; intro a hE
    refine q0 p54_5_1 hE (st_move rfl) ?_; clear hE a; intro a hE
    refine q0 p54_5_2 hE (st_lenS Try.underlying9 rfl) ?_; clear hE a; intro a hE
    rcases Decidable.em ((i : Int) < ((partsF k).size : Int)) with hc49 | hc49
    ·
     refine p_cons (s_still (v := Value.bool true) p54_5_3 hE wn_none rfl (st_lss rfl rfl (decide_eq_true hc49)) ?_); clear hE a; intro a hE
     refine p_nil (x_norm ?_)
     refine c_cond (t := true) hE rfl ?_
     refine wp_skip (x_norm (wp_seq (wp_block (c_reg R54_7_l ?_))))
     have hil : i < (partsF k).size := by omega
     have hfi := hfp i hil
     refine q0 p54_7_0 hE (st_move rfl) ?_; clear hE a; intro a hE
     refine q0 p54_7_1 hE (st_move rfl) ?_; clear hE a; intro a hE
     refine q0 p54_7_2 hE (st_indexV (i := i) Try.underlying9 rfl rfl (by omega) rfl) ?_; clear hE a; intro a hE
     refine p_nil (x_norm (wp_block (c_reg R54_9_l ?_)))
     rcases Decidable.em ((bt (partsF k) (i : Int)) = 97) with hc50 | hc50
     ·
      refine p_cons (s_still (v := Value.bool true) p54_9_0 hE wn_none rfl (st_eql rfl rfl (decide_eq_true hc50)) ?_); clear hE a; intro a hE
      refine q0 p54_9_1 hE (st_assign rfl) ?_; clear hE a; intro a hE
      refine p_nil (x_norm ?_)
      refine c_cond (t := true) hE rfl ?_
      rcases Decidable.em (posP k (i + 1) ≤ d.length) with hOK | hOK
      ·
       have hpn9 := pos_a hc50
       have hcn9 : cntF (partsF k) (i + 1) = cntF (partsF k) i := cnt_not (by rw [(hfi.2.2.1 hc50).2.2]; omega)
       have hpi9 : posP k i ≤ d.length := by omega
       obtain ⟨hnc9, hrow9⟩ := hcu hpi9
       refine c_reg R54_10_l ?_
       refine q0 p54_10_0 hE (st_move rfl) ?_; clear hE a; intro a hE
       refine p_cons (s_call (xs := [Operand.tmp 42, Operand.const (Value.int IntKind.i64 16)]) (args := [Value.pointer (some ⟨g45, 0, none⟩), Value.int .i64 16]) p54_10_1 hE wn_none rfl rfl Try.func71 cl71 (rb_ok g45 Ac nc cc at' (erP k i d.length) 16 _ ⟨er_ok hpi9, by omega⟩ (by omega) (by omega) (by omega) B_g45) ?_)
       rintro e w51 ⟨rfl, B_g45', hk⟩
       replace B_g1 := kp_blk B_g1 hk n_g1_g45
       replace B_g40 := kp_blk B_g40 hk n_g40_g45
       replace O_o := own_keep O_o hk (fun k hk2 h2 => Nb_o_g45 (by rw [show k = g45 from h2] at hk2; exact hk2))
       replace K_0 := K_0.then_ hk (fun k h => by rw [show k = g45 from h]; exact Or.inr z_0_g45)
       replace B_g45 := B_g45'
       refine ⟨_, rfl, ?_⟩; clear hE a; intro a hE
       refine q0 p54_10_2 hE (st_assign rfl) ?_; clear hE a; intro a hE
       refine p_nil (x_norm (c_reg R54_11_l ?_))
       refine q0 p54_11_0 hE (st_assign rfl) ?_; clear hE a; intro a hE
       refine p_nil (x_norm (wp_block ?_))
       replace B_g40 : w51.heap[g40]? = some (.cells (([Value.int .i64 (k : Int), Value.slice A_o n_o c_o] ++ b16 (mixF f ((d.drop (posP k i)).take 16) 0) ++ [Value.slice none 0 0])).toArray 45 (0, 0)) := by rw [mix_zero]; exact B_g40
       refine c_loop (α := Nat) (fun j a W => En 96 a [(0, Value.int .i64 (k : Int)), (1, Value.slice A d.length c), (4, Value.pointer (some ⟨g1, 0, none⟩)), (6, Value.pointer (some ⟨g40, 0, none⟩)), (7, Value.string (partsF k)), (8, Value.pointer (some ⟨g45, 0, none⟩)), (9, Value.int .i64 (i : Int)), (23, Value.bool true), (28, Value.int .u8 (bt (partsF k) (i : Int))), (40, Value.bool true), (10, Value.slice Ac 16 cc), (11, Value.int .i64 (j : Int))] ∧ j ≤ 16 ∧ W.heap[g1]? = some (.cells (([Value.int .i64 0, Value.slice none 0 0] ++ b16 (fun _ => 0) ++ [Value.slice none 0 0])).toArray 45 (0, 0)) ∧ W.heap[g40]? = some (.cells (([Value.int .i64 (k : Int), Value.slice A_o n_o c_o] ++ b16 (mixF f ((d.drop (posP k i)).take 16) j) ++ [Value.slice none 0 0])).toArray 45 (0, 0)) ∧ W.heap[g45]? = some (.cells #[Value.slice (if cc = 16 then Ac else Option.map (fun x => Addr.add x (16 * 1)) Ac) (nc - 16) (cc - 16), Value.int .i64 ((at' + 16 : Nat) : Int), Value.int .i64 0] 138 (0, 0)) ∧ W.ownsRow w.heap.size 3 1 (.slice A_o n_o c_o) n_o (encs (Value.int .i64) N) ∧ ¬ OB A_o g1 ∧ ¬ OB A_o g40 ∧ ¬ OB A_o g45 ∧ (∀ k, OB A_o k → (fun _ => False) k ∨ w.heap.size ≤ k) ∧ Kp w W (fun _ => False)) (fun j => 16 - j) (0) ?_ ?_
       ·
        exact ⟨En.sub hE ⟨rfl, rfl, rfl, rfl, rfl, rfl, rfl, rfl, rfl, rfl, rfl, rfl, trivial⟩, Nat.zero_le _, B_g1, B_g40, B_g45, O_o, Nb_o_g1, Nb_o_g40, Nb_o_g45, Z_0_o, K_0⟩
       ·
        clear hE a
        rintro j a w52 ⟨hE, hj9, B_g1, B_g40, B_g45, O_o, Nb_o_g1, Nb_o_g40, Nb_o_g45, Z_0_o, K_0⟩
        refine wp_seq (c_reg R54_12_l ?_)
        refine q0 p54_12_0 hE (st_move rfl) ?_; clear hE a; intro a hE
        refine q0 p54_12_1 hE (st_move rfl) ?_; clear hE a; intro a hE
        refine q0 p54_12_2 hE (st_len Try.underlying22 rfl) ?_; clear hE a; intro a hE
        rcases Decidable.em ((j : Int) < 16) with hc53 | hc53
        ·
         refine p_cons (s_still (v := Value.bool true) p54_12_3 hE wn_none rfl (st_lss rfl rfl (decide_eq_true hc53)) ?_); clear hE a; intro a hE
         refine p_nil (x_norm ?_)
         refine c_cond (t := true) hE rfl ?_
         refine wp_skip (x_norm (wp_seq (wp_block (c_regL R54_14_l ?_))))
         refine q0 p54_14_0 hE (st_move rfl) ?_; clear hE a; intro a hE
         refine q0 p54_14_1 hE (st_move rfl) ?_; clear hE a; intro a hE
         refine q0 p54_14_2 hE (st_move rfl) ?_; clear hE a; intro a hE
         refine q0 p54_14_3 hE (st_indexAddrC (i := j) Try.underlying22 tS5 (C_take9 (hrow9 _ (F_A _ K_0)) (by omega)) rfl rfl (by omega)) ?_; clear hE a; intro a hE
         refine q0 (v := Value.int .u8 (rd ((d.drop (posP k i)).take 16) (j : Int))) p54_14_4 hE (st_loadC (i := j) tA5 (C_take9 (hrow9 _ (F_A _ K_0)) (by omega)) (by omega) rfl) ?_; clear hE a; intro a hE
         refine q0 p54_14_5 hE (st_fieldAddr Try.underlying45 rfl tS43 rfl rfl) ?_; clear hE a; intro a hE
         refine q0 p54_14_6 hE (st_indexAddrA (l := 16) (i := j) (off := 2) (o' := 2 + j) Try.underlying43 tS5 rfl rfl (by omega) (by omega)) ?_; clear hE a; intro a hE
         refine p_cons (s_store (off := (2 + j)) (k := 1) (cs' := (([Value.int .i64 (k : Int), Value.slice A_o n_o c_o] ++ b16 (mixF f ((d.drop (posP k i)).take 16) (j + 1)) ++ [Value.slice none 0 0])).toArray) p54_14_7 hE wn_none tS5 rfl rfl rfl rfl B_g40 (by show 2 + j + 1 ≤ 19; omega) (set_o (by omega) (fun x9 hi => mix_old f ((d.drop (posP k i)).take 16) j x9 hi) (mix_new f ((d.drop (posP k i)).take 16) j)) ?_)
         intro w54 B_g40' hk
         replace B_g1 := kp_blk B_g1 hk n_g1_g40
         replace B_g45 := kp_blk B_g45 hk (Ne.symm n_g40_g45)
         replace O_o := own_keep O_o hk (fun k hk2 h2 => Nb_o_g40 (by rw [show k = g40 from h2] at hk2; exact hk2))
         replace K_0 := K_0.then_ hk (fun k h => by rw [show k = g40 from h]; exact Or.inr z_0_g40)
         replace B_g40 := B_g40'
         clear hk
         refine p_nil (x_normB (x_norm (c_regL R54_13_l ?_)))
         refine q0 p54_13_0 hE (st_move rfl) ?_; clear hE a; intro a hE
         refine q0 p54_13_1 hE (st_add (z := (j : Int) + 1) rfl rfl (wr_i64 _ (by omega) (by omega))) ?_; clear hE a; intro a hE
         refine q0 p54_13_2 hE (st_assign rfl) ?_; clear hE a; intro a hE
         refine p_nil (x_norm ?_)
         exact ⟨j + 1, by omega, En.sub hE ⟨rfl, rfl, rfl, rfl, rfl, rfl, rfl, rfl, rfl, rfl, rfl, rfl, trivial⟩, by omega, B_g1, B_g40, B_g45, O_o, Nb_o_g1, Nb_o_g40, Nb_o_g45, Z_0_o, K_0⟩
        ·
         refine p_cons (s_still (v := Value.bool false) p54_12_3 hE wn_none rfl (st_lss rfl rfl (decide_eq_false hc53)) ?_); clear hE a; intro a hE
         refine p_nil (x_norm ?_)
         refine c_cond (t := false) hE rfl ?_
         refine wp_exit (x_exit (x_exit ?_))
         obtain rfl : j = 16 := by omega
         refine x_in (x_normB (x_normB (x_norm (c_regL R54_6_l ?_))))
         refine q0 p54_6_0 hE (st_move rfl) ?_; clear hE a; intro a hE
         refine q0 p54_6_1 hE (st_add (z := (i : Int) + 1) rfl rfl (wr_i64 _ (by omega) (by omega))) ?_; clear hE a; intro a hE
         refine q0 p54_6_2 hE (st_assign rfl) ?_; clear hE a; intro a hE
         refine p_nil (x_norm ?_)
         have hcu9 : posP k (i + 1) ≤ d.length → (nc - 16) = d.length - posP k (i + 1) ∧ (∀ W', Kd.C (Kd.int .u8) W' A d.length d → Kd.C (Kd.int .u8) W' (if cc = 16 then Ac else Option.map (fun x => Addr.add x (16 * 1)) Ac) (nc - 16) (d.drop (posP k (i + 1)))) := fun _ => ⟨by omega, fun W' h => by have := C_rest (k := 16) (c := cc) (hrow9 W' h) (by omega) (by omega); rw [List.drop_drop, ← hpn9] at this; exact this⟩
         have her9 : (0 : Int) = erP k (i + 1) d.length := (er_ok hOK).symm
         rw [her9] at B_g45
         have hN9 : posP k (i + 1) ≤ d.length → N = numsO k d (cntF (partsF k) (i + 1)) := fun _ => by rw [hcn9]; exact hN hpi9
         have hf9 : posP k (i + 1) ≤ d.length → l16 (mixF f ((d.drop (posP k i)).take 16) 16) = l16 (adrP k d (i + 1)) := fun _ => by rw [adr_a d hc50, (hfi.2.2.1 hc50).1]; exact mix_all f d (hfi.2.2.1 hc50).2.1
         exact ⟨i + 1, by omega, A_o, c_o, n_o, N, (mixF f ((d.drop (posP k i)).take 16) 16), (if cc = 16 then Ac else Option.map (fun x => Addr.add x (16 * 1)) Ac), (nc - 16), (cc - 16), (at' + 16), En.sub hE ⟨rfl, rfl, rfl, rfl, rfl, rfl, rfl, trivial⟩, (by omega), (by (try simp only [List.length_append, List.length_cons, List.length_nil]); omega), (by omega), (by omega), hcu9, hN9, hf9, B_g1, B_g40, B_g45, (by (try simp only [List.length_append, List.length_cons, List.length_nil]); omega), O_o, Nb_o_g1, Nb_o_g40, Nb_o_g45, Z_0_o, K_0⟩
      ·
       have hpn9 := pos_a hc50
       have hcn9 : cntF (partsF k) (i + 1) = cntF (partsF k) i := cnt_not (by rw [(hfi.2.2.1 hc50).2.2]; omega)
       have hno9 : ¬ (erP k i d.length = 0 ∧ 16 ≤ nc) := fun h => by
        have hpi9 : posP k i ≤ d.length := Decidable.byContradiction fun h2 => by rw [er_no h2] at h; exact absurd h.1 (by decide)
        have hnc9 := (hcu hpi9).1
        have := h.2
        omega
       refine c_reg R54_10_l ?_
       refine q0 p54_10_0 hE (st_move rfl) ?_; clear hE a; intro a hE
       refine p_cons (s_call (xs := [Operand.tmp 42, Operand.const (Value.int IntKind.i64 16)]) (args := [Value.pointer (some ⟨g45, 0, none⟩), Value.int .i64 16]) p54_10_1 hE wn_none rfl rfl Try.func71 cl71 (rb_no g45 Ac nc cc at' (erP k i d.length) 16 _ hno9 (by omega) (by omega) (by omega) B_g45) ?_)
       rintro e w55 ⟨rfl, B_g45', hk⟩
       replace B_g1 := kp_blk B_g1 hk n_g1_g45
       replace B_g40 := kp_blk B_g40 hk n_g40_g45
       replace O_o := own_keep O_o hk (fun k hk2 h2 => Nb_o_g45 (by rw [show k = g45 from h2] at hk2; exact hk2))
       replace K_0 := K_0.then_ hk (fun k h => by rw [show k = g45 from h]; exact Or.inr z_0_g45)
       replace B_g45 := B_g45'
       refine ⟨_, rfl, ?_⟩; clear hE a; intro a hE
       refine q0 p54_10_2 hE (st_assign rfl) ?_; clear hE a; intro a hE
       refine p_nil (x_norm (c_reg R54_11_l ?_))
       refine q0 p54_11_0 hE (st_assign rfl) ?_; clear hE a; intro a hE
       refine p_nil (x_norm (wp_block ?_))
       refine wp_loop_rounds 1 ?_
       refine (Eq.mpr (rounds_succ (n := 0)) ?_)
       refine wp_seq (c_reg R54_12_l ?_)
       refine q0 p54_12_0 hE (st_move rfl) ?_; clear hE a; intro a hE
       refine q0 p54_12_1 hE (st_move rfl) ?_; clear hE a; intro a hE
       refine q0 p54_12_2 hE (st_len Try.underlying22 rfl) ?_; clear hE a; intro a hE
       refine q0 p54_12_3 hE (st_lss (b := false) rfl rfl (by decide)) ?_; clear hE a; intro a hE
       refine p_nil (x_norm ?_)
       refine c_cond (t := false) hE rfl ?_
       refine wp_exit (x_exit (x_exit (x_in (x_normB (x_normB (x_norm (c_regL R54_6_l ?_)))))))
       refine q0 p54_6_0 hE (st_move rfl) ?_; clear hE a; intro a hE
       refine q0 p54_6_1 hE (st_add (z := (i : Int) + 1) rfl rfl (wr_i64 _ (by omega) (by omega))) ?_; clear hE a; intro a hE
       refine q0 p54_6_2 hE (st_assign rfl) ?_; clear hE a; intro a hE
       refine p_nil (x_norm ?_)
       have hcu9 : posP k (i + 1) ≤ d.length → nc = d.length - posP k (i + 1) ∧ (∀ W', Kd.C (Kd.int .u8) W' A d.length d → Kd.C (Kd.int .u8) W' Ac nc (d.drop (posP k (i + 1)))) := fun h => absurd h hOK
       rw [er_next hOK] at B_g45
       have hN9 : posP k (i + 1) ≤ d.length → N = numsO k d (cntF (partsF k) (i + 1)) := fun h => absurd h hOK
       have hf9 : posP k (i + 1) ≤ d.length → l16 f = l16 (adrP k d (i + 1)) := fun h => absurd h hOK
       exact ⟨i + 1, by omega, A_o, c_o, n_o, N, f, Ac, nc, cc, at', En.sub hE ⟨rfl, rfl, rfl, rfl, rfl, rfl, rfl, trivial⟩, (by omega), (by (try simp only [List.length_append, List.length_cons, List.length_nil]); omega), (by omega), (by omega), hcu9, hN9, hf9, B_g1, B_g40, B_g45, (by (try simp only [List.length_append, List.length_cons, List.length_nil]); omega), O_o, Nb_o_g1, Nb_o_g40, Nb_o_g45, Z_0_o, K_0⟩
     ·
      refine p_cons (s_still (v := Value.bool false) p54_9_0 hE wn_none rfl (st_eql rfl rfl (decide_eq_false hc50)) ?_); clear hE a; intro a hE
      refine q0 p54_9_1 hE (st_assign rfl) ?_; clear hE a; intro a hE
      refine p_nil (x_norm ?_)
      refine c_cond (t := false) hE rfl ?_
      refine c_reg R54_15_l ?_
      refine q0 p54_15_0 hE (st_eql (b := false) rfl rfl (decide_eq_false hfi.1)) ?_; clear hE a; intro a hE
      refine q0 p54_15_1 hE (st_assign rfl) ?_; clear hE a; intro a hE
      refine p_nil (x_norm ?_)
      refine c_cond (t := false) hE rfl ?_
      refine c_reg R54_17_l ?_
      refine q0 p54_17_0 hE (st_eql (b := false) rfl rfl (decide_eq_false hfi.2.1)) ?_; clear hE a; intro a hE
      refine q0 p54_17_1 hE (st_assign rfl) ?_; clear hE a; intro a hE
      refine p_nil (x_norm ?_)
      refine c_cond (t := false) hE rfl ?_
      rcases Decidable.em (posP k (i + 1) ≤ d.length) with hOK | hOK
      ·
       have hpn9 := pos_d hc50
       have hcn9 : cntF (partsF k) (i + 1) = cntF (partsF k) i + 1 := cnt_yes (by have := (hfi.2.2.2 hc50).1; omega)
       obtain ⟨hs8, hsz8, hpo8⟩ := hfi.2.2.2 hc50
       have hs9 : szF (bt (partsF k) (i : Int)) = ((szF (bt (partsF k) (i : Int))).toNat : Int) := by omega
       have hpi9 : posP k i ≤ d.length := by omega
       obtain ⟨hnc9, hrow9⟩ := hcu hpi9
       have hnum9 : joinF ((d.drop (posP k i)).take (szF (bt (partsF k) (i : Int))).toNat) = numAt k d (cntF (partsF k) i) := by unfold numAt; rw [hsz8, hpo8]
       refine c_drawM (S := fun W => W.heap[g1]? = some (.cells (([Value.int .i64 0, Value.slice none 0 0] ++ b16 (fun _ => 0) ++ [Value.slice none 0 0])).toArray 45 (0, 0)) ∧ True) rfl rfl (listed := #[false, false, false, false, false, false, false, false, false, false, false, false]) rfl (by repeat' first | exact pan_body | refine pan_then ?_ | refine pan_block ?_) (fun QQ hQ hend => ?_)
       have dr8_9 : ∀ (A8_9 : Option Addr) (c8_9 : Nat) (g8_8 : Nat) (W : World) (a : Act), En 96 a [(0, Value.int .i64 (k : Int)), (1, Value.slice A d.length c), (4, Value.pointer (some ⟨g1, 0, none⟩)), (6, Value.pointer (some ⟨g40, 0, none⟩)), (7, Value.string (partsF k)), (8, Value.pointer (some ⟨g45, 0, none⟩)), (9, Value.int .i64 (i : Int)), (23, Value.bool true), (28, Value.int .u8 (bt (partsF k) (i : Int))), (29, Value.pointer (some ⟨g40, 1, none⟩)), (30, Value.slice A_o n_o c_o), (31, Value.pointer (some ⟨g45, 0, none⟩)), (32, Value.string (partsF k)), (33, Value.int .i64 (i : Int)), (34, Value.int .u8 (bt (partsF k) (i : Int))), (35, Value.int .i64 (szF (bt (partsF k) (i : Int)))), (36, Value.int .i64 (numAt k d (cntF (partsF k) i))), (37, Value.slice (some ⟨g8_8, 0, none⟩) 1 1), (38, Value.slice A8_9 (n_o + 1) c8_9), (39, Value.pointer (some ⟨g40, 1, none⟩)), (40, Value.bool false), (57, Value.bool false), (67, Value.bool false)] → W.heap[g1]? = some (.cells (([Value.int .i64 0, Value.slice none 0 0] ++ b16 (fun _ => 0) ++ [Value.slice none 0 0])).toArray 45 (0, 0)) → W.heap[g40]? = some (.cells (([Value.int .i64 (k : Int), Value.slice A8_9 (n_o + 1) c8_9] ++ b16 f ++ [Value.slice none 0 0])).toArray 45 (0, 0)) → W.heap[g45]? = some (.cells #[Value.slice (if cc = (szF (bt (partsF k) (i : Int))).toNat then Ac else Option.map (fun x => Addr.add x ((szF (bt (partsF k) (i : Int))).toNat * 1)) Ac) (nc - (szF (bt (partsF k) (i : Int))).toNat) (cc - (szF (bt (partsF k) (i : Int))).toNat), Value.int .i64 ((at' + (szF (bt (partsF k) (i : Int))).toNat : Nat) : Int), Value.int .i64 0] 138 (0, 0)) → W.heap[g8_8]? = some (.cells #[Value.int .i64 (numAt k d (cntF (partsF k) i))] 3 (0, 0)) → g1 ≠ g8_8 → g40 ≠ g8_8 → g45 ≠ g8_8 → w.heap.size ≤ g8_8 → ¬ OB A8_9 g1 → ¬ OB A8_9 g40 → ¬ OB A8_9 g45 → ¬ OB A8_9 g8_8 → (∀ k, OB A8_9 k → (fun _ => False) k ∨ w.heap.size ≤ k) → W.ownsRow w.heap.size 3 1 (.slice A8_9 (n_o + 1) c8_9) (n_o + 1) (encs (Value.int .i64) (N ++ [(numAt k d (cntF (partsF k) i))])) → Kp w W (fun _ => False) → wpAnyH Try.prog .any (regOf Try.f54 8) QQ (fun W => W.heap[g1]? = some (.cells (([Value.int .i64 0, Value.slice none 0 0] ++ b16 (fun _ => 0) ++ [Value.slice none 0 0])).toArray 45 (0, 0)) ∧ True) 0 #[true, true, true, true, true, true, true, true, true, true, true, true] a W := by
        intro A8_9 c8_9 g8_8 w67 a hE B_g1 B_g40 B_g45 B_g8_8 n_g1_g8_8 n_g40_g8_8 n_g45_g8_8 z_0_g8_8 Nb_o_g1 Nb_o_g40 Nb_o_g45 Nb_o_g8_8 Z_0_o O_o K_0
        refine d_end (by kernel_rfl) (hend _ _ ?_)
        refine x_normB (x_normB (x_norm (c_regL R54_6_l ?_)))
        refine q0 p54_6_0 hE (st_move rfl) ?_; clear hE a; intro a hE
        refine q0 p54_6_1 hE (st_add (z := (i : Int) + 1) rfl rfl (wr_i64 _ (by omega) (by omega))) ?_; clear hE a; intro a hE
        refine q0 p54_6_2 hE (st_assign rfl) ?_; clear hE a; intro a hE
        refine p_nil (x_norm ?_)
        have hcu9 : posP k (i + 1) ≤ d.length → (nc - (szF (bt (partsF k) (i : Int))).toNat) = d.length - posP k (i + 1) ∧ (∀ W', Kd.C (Kd.int .u8) W' A d.length d → Kd.C (Kd.int .u8) W' (if cc = (szF (bt (partsF k) (i : Int))).toNat then Ac else Option.map (fun x => Addr.add x ((szF (bt (partsF k) (i : Int))).toNat * 1)) Ac) (nc - (szF (bt (partsF k) (i : Int))).toNat) (d.drop (posP k (i + 1)))) := fun _ => ⟨by omega, fun W' h => by have := C_rest (k := (szF (bt (partsF k) (i : Int))).toNat) (c := cc) (hrow9 W' h) (by omega) (by omega); rw [List.drop_drop, ← hpn9] at this; exact this⟩
        have her9 : (0 : Int) = erP k (i + 1) d.length := (er_ok hOK).symm
        rw [her9] at B_g45
        have hN9 : posP k (i + 1) ≤ d.length → (N ++ [(numAt k d (cntF (partsF k) i))]) = numsO k d (cntF (partsF k) (i + 1)) := fun _ => by rw [hcn9, nums_succ, hN hpi9]
        have hf9 : posP k (i + 1) ≤ d.length → l16 f = l16 (adrP k d (i + 1)) := fun _ => by rw [adr_d d hc50]; exact hf hpi9
        exact ⟨i + 1, by omega, A8_9, c8_9, (n_o + 1), (N ++ [(numAt k d (cntF (partsF k) i))]), f, (if cc = (szF (bt (partsF k) (i : Int))).toNat then Ac else Option.map (fun x => Addr.add x ((szF (bt (partsF k) (i : Int))).toNat * 1)) Ac), (nc - (szF (bt (partsF k) (i : Int))).toNat), (cc - (szF (bt (partsF k) (i : Int))).toNat), (at' + (szF (bt (partsF k) (i : Int))).toNat), En.sub hE ⟨rfl, rfl, rfl, rfl, rfl, rfl, rfl, trivial⟩, (by omega), (by (try simp only [List.length_append, List.length_cons, List.length_nil]); omega), (by omega), (by omega), hcu9, hN9, hf9, B_g1, B_g40, B_g45, (by (try simp only [List.length_append, List.length_cons, List.length_nil]); omega), O_o, Nb_o_g1, Nb_o_g40, Nb_o_g45, Z_0_o, K_0⟩
       have dr8_8 : ∀ (A8_9 : Option Addr) (c8_9 : Nat) (g8_8 : Nat) (W : World) (a : Act), En 96 a [(0, Value.int .i64 (k : Int)), (1, Value.slice A d.length c), (4, Value.pointer (some ⟨g1, 0, none⟩)), (6, Value.pointer (some ⟨g40, 0, none⟩)), (7, Value.string (partsF k)), (8, Value.pointer (some ⟨g45, 0, none⟩)), (9, Value.int .i64 (i : Int)), (23, Value.bool true), (28, Value.int .u8 (bt (partsF k) (i : Int))), (29, Value.pointer (some ⟨g40, 1, none⟩)), (30, Value.slice A_o n_o c_o), (31, Value.pointer (some ⟨g45, 0, none⟩)), (32, Value.string (partsF k)), (33, Value.int .i64 (i : Int)), (34, Value.int .u8 (bt (partsF k) (i : Int))), (35, Value.int .i64 (szF (bt (partsF k) (i : Int)))), (36, Value.int .i64 (numAt k d (cntF (partsF k) i))), (37, Value.slice (some ⟨g8_8, 0, none⟩) 1 1), (38, Value.slice A8_9 (n_o + 1) c8_9), (39, Value.pointer (some ⟨g40, 1, none⟩)), (40, Value.bool false), (57, Value.bool false), (67, Value.bool false)] → W.heap[g1]? = some (.cells (([Value.int .i64 0, Value.slice none 0 0] ++ b16 (fun _ => 0) ++ [Value.slice none 0 0])).toArray 45 (0, 0)) → W.heap[g40]? = some (.cells (([Value.int .i64 (k : Int), Value.slice A_o n_o c_o] ++ b16 f ++ [Value.slice none 0 0])).toArray 45 (0, 0)) → W.heap[g45]? = some (.cells #[Value.slice (if cc = (szF (bt (partsF k) (i : Int))).toNat then Ac else Option.map (fun x => Addr.add x ((szF (bt (partsF k) (i : Int))).toNat * 1)) Ac) (nc - (szF (bt (partsF k) (i : Int))).toNat) (cc - (szF (bt (partsF k) (i : Int))).toNat), Value.int .i64 ((at' + (szF (bt (partsF k) (i : Int))).toNat : Nat) : Int), Value.int .i64 0] 138 (0, 0)) → W.heap[g8_8]? = some (.cells #[Value.int .i64 (numAt k d (cntF (partsF k) i))] 3 (0, 0)) → g1 ≠ g8_8 → g40 ≠ g8_8 → g45 ≠ g8_8 → w.heap.size ≤ g8_8 → ¬ OB A8_9 g1 → ¬ OB A8_9 g40 → ¬ OB A8_9 g45 → ¬ OB A8_9 g8_8 → (∀ k, OB A8_9 k → (fun _ => False) k ∨ w.heap.size ≤ k) → W.ownsRow w.heap.size 3 1 (.slice A8_9 (n_o + 1) c8_9) (n_o + 1) (encs (Value.int .i64) (N ++ [(numAt k d (cntF (partsF k) i))])) → Kp w W (fun _ => False) → wpAnyH Try.prog .any (regOf Try.f54 8) QQ (fun W => W.heap[g1]? = some (.cells (([Value.int .i64 0, Value.slice none 0 0] ++ b16 (fun _ => 0) ++ [Value.slice none 0 0])).toArray 45 (0, 0)) ∧ True) 1 #[true, true, true, true, true, true, true, true, true, true, true, false] a W := by
        intro A8_9 c8_9 g8_8 w68 a hE B_g1 B_g40 B_g45 B_g8_8 n_g1_g8_8 n_g40_g8_8 n_g45_g8_8 z_0_g8_8 Nb_o_g1 Nb_o_g40 Nb_o_g45 Nb_o_g8_8 Z_0_o O_o K_0
        refine d_all (rs := [11]) (by kernel_rfl) rfl ?_
        refine all_cons (d_lit (listed' := #[true, true, true, true, true, true, true, true, true, true, true, true]) rfl ?_) ?_
        ·
         refine (s_store (off := 1) (k := 1) (cs' := (([Value.int .i64 (k : Int), Value.slice A8_9 (n_o + 1) c8_9] ++ b16 f ++ [Value.slice none 0 0])).toArray) p54_8_11 hE wn_none tS42 rfl rfl rfl rfl B_g40 (Nat.le_of_ble_eq_true rfl) rfl ?_)
         intro w69 B_g40' hk
         replace B_g1 := kp_blk B_g1 hk n_g1_g40
         replace B_g45 := kp_blk B_g45 hk (Ne.symm n_g40_g45)
         replace B_g8_8 := kp_blk B_g8_8 hk (Ne.symm n_g40_g8_8)
         replace O_o := own_keep O_o hk (fun k hk2 h2 => Nb_o_g40 (by rw [show k = g40 from h2] at hk2; exact hk2))
         replace K_0 := K_0.then_ hk (fun k h => by rw [show k = g40 from h]; exact Or.inr z_0_g40)
         replace B_g40 := B_g40'
         clear hk
         refine ⟨⟨B_g1, trivial⟩, ?_⟩
         exact dr8_9 A8_9 c8_9 g8_8 _ a (En.sub hE ⟨rfl, rfl, rfl, rfl, rfl, rfl, rfl, rfl, rfl, rfl, rfl, rfl, rfl, rfl, rfl, rfl, rfl, rfl, rfl, rfl, rfl, rfl, rfl, trivial⟩) B_g1 B_g40 B_g45 B_g8_8 n_g1_g8_8 n_g40_g8_8 n_g45_g8_8 z_0_g8_8 Nb_o_g1 Nb_o_g40 Nb_o_g45 Nb_o_g8_8 Z_0_o O_o K_0
        exact all_nil
       have dr8_7 : ∀ (g8_8 : Nat) (W : World) (a : Act), En 96 a [(0, Value.int .i64 (k : Int)), (1, Value.slice A d.length c), (4, Value.pointer (some ⟨g1, 0, none⟩)), (6, Value.pointer (some ⟨g40, 0, none⟩)), (7, Value.string (partsF k)), (8, Value.pointer (some ⟨g45, 0, none⟩)), (9, Value.int .i64 (i : Int)), (23, Value.bool true), (28, Value.int .u8 (bt (partsF k) (i : Int))), (29, Value.pointer (some ⟨g40, 1, none⟩)), (30, Value.slice A_o n_o c_o), (31, Value.pointer (some ⟨g45, 0, none⟩)), (32, Value.string (partsF k)), (33, Value.int .i64 (i : Int)), (34, Value.int .u8 (bt (partsF k) (i : Int))), (35, Value.int .i64 (szF (bt (partsF k) (i : Int)))), (36, Value.int .i64 (numAt k d (cntF (partsF k) i))), (37, Value.slice (some ⟨g8_8, 0, none⟩) 1 1), (40, Value.bool false), (57, Value.bool false), (67, Value.bool false)] → W.heap[g1]? = some (.cells (([Value.int .i64 0, Value.slice none 0 0] ++ b16 (fun _ => 0) ++ [Value.slice none 0 0])).toArray 45 (0, 0)) → W.heap[g40]? = some (.cells (([Value.int .i64 (k : Int), Value.slice A_o n_o c_o] ++ b16 f ++ [Value.slice none 0 0])).toArray 45 (0, 0)) → W.heap[g45]? = some (.cells #[Value.slice (if cc = (szF (bt (partsF k) (i : Int))).toNat then Ac else Option.map (fun x => Addr.add x ((szF (bt (partsF k) (i : Int))).toNat * 1)) Ac) (nc - (szF (bt (partsF k) (i : Int))).toNat) (cc - (szF (bt (partsF k) (i : Int))).toNat), Value.int .i64 ((at' + (szF (bt (partsF k) (i : Int))).toNat : Nat) : Int), Value.int .i64 0] 138 (0, 0)) → W.heap[g8_8]? = some (.cells #[Value.int .i64 (numAt k d (cntF (partsF k) i))] 3 (0, 0)) → g1 ≠ g8_8 → g40 ≠ g8_8 → g45 ≠ g8_8 → w.heap.size ≤ g8_8 → ¬ OB A_o g8_8 → W.ownsRow w.heap.size 3 1 (.slice A_o n_o c_o) n_o (encs (Value.int .i64) N) → Kp w W (fun _ => False) → wpAnyH Try.prog .any (regOf Try.f54 8) QQ (fun W => W.heap[g1]? = some (.cells (([Value.int .i64 0, Value.slice none 0 0] ++ b16 (fun _ => 0) ++ [Value.slice none 0 0])).toArray 45 (0, 0)) ∧ True) 3 #[true, true, true, true, true, true, true, true, true, false, false, false] a W := by
        intro g8_8 w70 a hE B_g1 B_g40 B_g45 B_g8_8 n_g1_g8_8 n_g40_g8_8 n_g45_g8_8 z_0_g8_8 Nb_o_g8_8 O_o K_0
        refine d_all (rs := [9]) (by kernel_rfl) rfl ?_
        refine all_cons (d_lit (listed' := #[true, true, true, true, true, true, true, true, true, true, false, false]) rfl ?_) ?_
        ·
         refine (s_appendC (xs := N) (ys := [(numAt k d (cntF (partsF k) i))]) p54_8_9 hE wn_none rfl Try.underlying42 eD3 rfl O_o rfl (C_blk (k := .i64) (l := [(numAt k d (cntF (partsF k) i))]) (off := 0) B_g8_8 ⟨rfl, Nat.le_of_ble_eq_true rfl⟩ rfl) (by omega) (by omega) K_0.kept.1 ?_)
         clear hE a; intro A8_9 c8_9 w71 O_o' hk hat a hE
         have Nb_o_g1' := grow_n Nb_o_g1 (blk_lt B_g1) hat
         have Nb_o_g40' := grow_n Nb_o_g40 (blk_lt B_g40) hat
         have Nb_o_g45' := grow_n Nb_o_g45 (blk_lt B_g45) hat
         have Nb_o_g8_8' := grow_n Nb_o_g8_8 (blk_lt B_g8_8) hat
         have Z_0_o' := grow_z Z_0_o K_0.kept.1 hat
         replace B_g1 := kp_blk B_g1 hk Nb_o_g1
         replace B_g40 := kp_blk B_g40 hk Nb_o_g40
         replace B_g45 := kp_blk B_g45 hk Nb_o_g45
         replace B_g8_8 := kp_blk B_g8_8 hk Nb_o_g8_8
         replace K_0 := K_0.then_ hk Z_0_o
         replace Nb_o_g1 := Nb_o_g1'
         replace Nb_o_g40 := Nb_o_g40'
         replace Nb_o_g45 := Nb_o_g45'
         replace Nb_o_g8_8 := Nb_o_g8_8'
         replace Z_0_o := Z_0_o'
         replace O_o : w71.ownsRow _ 3 1 (.slice A8_9 (n_o + 1) c8_9) (n_o + 1) (encs (Value.int .i64) (N ++ [(numAt k d (cntF (partsF k) i))])) := O_o'
         clear O_o' hk hat
         refine ⟨⟨B_g1, trivial⟩, ?_⟩
         refine Rv.dq (listed' := #[true, true, true, true, true, true, true, true, true, true, true, false]) (v := Value.pointer (some ⟨g40, 1, none⟩)) p54_8_10 ns54_8 hE wn_none ⟨B_g1, trivial⟩ (fun W hS => (st_fieldAddr Try.underlying45 rfl tS42 rfl rfl)) ?_ (fun c a w h => hQ c a _ _ w h); clear hE a; intro a hE
         exact dr8_8 A8_9 c8_9 g8_8 _ a (En.sub hE ⟨rfl, rfl, rfl, rfl, rfl, rfl, rfl, rfl, rfl, rfl, rfl, rfl, rfl, rfl, rfl, rfl, rfl, rfl, rfl, rfl, rfl, rfl, rfl, trivial⟩) B_g1 B_g40 B_g45 B_g8_8 n_g1_g8_8 n_g40_g8_8 n_g45_g8_8 z_0_g8_8 Nb_o_g1 Nb_o_g40 Nb_o_g45 Nb_o_g8_8 Z_0_o O_o K_0
        exact all_nil
       have dr8_6 : ∀ (g8_8 : Nat) (W : World) (a : Act), En 96 a [(0, Value.int .i64 (k : Int)), (1, Value.slice A d.length c), (4, Value.pointer (some ⟨g1, 0, none⟩)), (6, Value.pointer (some ⟨g40, 0, none⟩)), (7, Value.string (partsF k)), (8, Value.pointer (some ⟨g45, 0, none⟩)), (9, Value.int .i64 (i : Int)), (23, Value.bool true), (28, Value.int .u8 (bt (partsF k) (i : Int))), (29, Value.pointer (some ⟨g40, 1, none⟩)), (31, Value.pointer (some ⟨g45, 0, none⟩)), (32, Value.string (partsF k)), (33, Value.int .i64 (i : Int)), (34, Value.int .u8 (bt (partsF k) (i : Int))), (35, Value.int .i64 (szF (bt (partsF k) (i : Int)))), (36, Value.int .i64 (numAt k d (cntF (partsF k) i))), (37, Value.slice (some ⟨g8_8, 0, none⟩) 1 1), (40, Value.bool false), (57, Value.bool false), (67, Value.bool false)] → W.heap[g1]? = some (.cells (([Value.int .i64 0, Value.slice none 0 0] ++ b16 (fun _ => 0) ++ [Value.slice none 0 0])).toArray 45 (0, 0)) → W.heap[g40]? = some (.cells (([Value.int .i64 (k : Int), Value.slice A_o n_o c_o] ++ b16 f ++ [Value.slice none 0 0])).toArray 45 (0, 0)) → W.heap[g45]? = some (.cells #[Value.slice (if cc = (szF (bt (partsF k) (i : Int))).toNat then Ac else Option.map (fun x => Addr.add x ((szF (bt (partsF k) (i : Int))).toNat * 1)) Ac) (nc - (szF (bt (partsF k) (i : Int))).toNat) (cc - (szF (bt (partsF k) (i : Int))).toNat), Value.int .i64 ((at' + (szF (bt (partsF k) (i : Int))).toNat : Nat) : Int), Value.int .i64 0] 138 (0, 0)) → W.heap[g8_8]? = some (.cells #[Value.int .i64 (numAt k d (cntF (partsF k) i))] 3 (0, 0)) → g1 ≠ g8_8 → g40 ≠ g8_8 → g45 ≠ g8_8 → w.heap.size ≤ g8_8 → ¬ OB A_o g8_8 → W.ownsRow w.heap.size 3 1 (.slice A_o n_o c_o) n_o (encs (Value.int .i64) N) → Kp w W (fun _ => False) → wpAnyH Try.prog .any (regOf Try.f54 8) QQ (fun W => W.heap[g1]? = some (.cells (([Value.int .i64 0, Value.slice none 0 0] ++ b16 (fun _ => 0) ++ [Value.slice none 0 0])).toArray 45 (0, 0)) ∧ True) 4 #[true, false, true, true, true, true, true, true, true, false, false, false] a W := by
        intro g8_8 w72 a hE B_g1 B_g40 B_g45 B_g8_8 n_g1_g8_8 n_g40_g8_8 n_g45_g8_8 z_0_g8_8 Nb_o_g8_8 O_o K_0
        refine d_all (rs := [1]) (by kernel_rfl) rfl ?_
        refine all_cons (d_lit (listed' := #[true, true, true, true, true, true, true, true, true, false, false, false]) rfl ?_) ?_
        ·
         refine (s_still p54_8_1 hE wn_none rfl (st_load1 tA42 rfl ((blk_cell B_g40 1).trans rfl)) ?_); clear hE a; intro a hE
         refine ⟨⟨B_g1, trivial⟩, ?_⟩
         exact dr8_7 g8_8 _ a (En.sub hE ⟨rfl, rfl, rfl, rfl, rfl, rfl, rfl, rfl, rfl, rfl, rfl, rfl, rfl, rfl, rfl, rfl, rfl, rfl, rfl, rfl, rfl, trivial⟩) B_g1 B_g40 B_g45 B_g8_8 n_g1_g8_8 n_g40_g8_8 n_g45_g8_8 z_0_g8_8 Nb_o_g8_8 O_o K_0
        exact all_nil
       have dr8_5 : ∀ (W : World) (a : Act), En 96 a [(0, Value.int .i64 (k : Int)), (1, Value.slice A d.length c), (4, Value.pointer (some ⟨g1, 0, none⟩)), (6, Value.pointer (some ⟨g40, 0, none⟩)), (7, Value.string (partsF k)), (8, Value.pointer (some ⟨g45, 0, none⟩)), (9, Value.int .i64 (i : Int)), (23, Value.bool true), (28, Value.int .u8 (bt (partsF k) (i : Int))), (29, Value.pointer (some ⟨g40, 1, none⟩)), (30, Value.slice A_o n_o c_o), (31, Value.pointer (some ⟨g45, 0, none⟩)), (32, Value.string (partsF k)), (33, Value.int .i64 (i : Int)), (34, Value.int .u8 (bt (partsF k) (i : Int))), (35, Value.int .i64 (szF (bt (partsF k) (i : Int)))), (36, Value.int .i64 (numAt k d (cntF (partsF k) i))), (40, Value.bool false), (57, Value.bool false), (67, Value.bool false)] → W.heap[g1]? = some (.cells (([Value.int .i64 0, Value.slice none 0 0] ++ b16 (fun _ => 0) ++ [Value.slice none 0 0])).toArray 45 (0, 0)) → W.heap[g40]? = some (.cells (([Value.int .i64 (k : Int), Value.slice A_o n_o c_o] ++ b16 f ++ [Value.slice none 0 0])).toArray 45 (0, 0)) → W.heap[g45]? = some (.cells #[Value.slice (if cc = (szF (bt (partsF k) (i : Int))).toNat then Ac else Option.map (fun x => Addr.add x ((szF (bt (partsF k) (i : Int))).toNat * 1)) Ac) (nc - (szF (bt (partsF k) (i : Int))).toNat) (cc - (szF (bt (partsF k) (i : Int))).toNat), Value.int .i64 ((at' + (szF (bt (partsF k) (i : Int))).toNat : Nat) : Int), Value.int .i64 0] 138 (0, 0)) → W.ownsRow w.heap.size 3 1 (.slice A_o n_o c_o) n_o (encs (Value.int .i64) N) → Kp w W (fun _ => False) → wpAnyH Try.prog .any (regOf Try.f54 8) QQ (fun W => W.heap[g1]? = some (.cells (([Value.int .i64 0, Value.slice none 0 0] ++ b16 (fun _ => 0) ++ [Value.slice none 0 0])).toArray 45 (0, 0)) ∧ True) 4 #[true, true, true, true, true, true, true, true, false, false, false, false] a W := by
        intro w73 a hE B_g1 B_g40 B_g45 O_o K_0
        refine d_all (rs := [8]) (by kernel_rfl) rfl ?_
        refine all_cons (d_lit (listed' := #[true, true, true, true, true, true, true, true, true, false, false, false]) rfl ?_) ?_
        ·
         refine (s_row (xs := [(0, Operand.tmp 36)]) (vs := [(0, Value.int .i64 (numAt k d (cntF (partsF k) i)))]) (cs := #[Value.int .i64 (numAt k d (cntF (partsF k) i))]) p54_8_8 hE wn_none rfl Try.underlying42 rfl (by kernel_rfl) ?_)
         clear hE a; intro g8_8 w74 z75 B_g8_8 hk a hE
         have n_g1_g8_8 : g1 ≠ g8_8 := ne_new B_g1 z75
         have n_g40_g8_8 : g40 ≠ g8_8 := ne_new B_g40 z75
         have n_g45_g8_8 : g45 ≠ g8_8 := ne_new B_g45 z75
         have z_0_g8_8 := Nat.le_trans K_0.kept.1 z75
         have Nb_o_g8_8 : ¬ OB A_o g8_8 := fun h => by have := (own_ob O_o h).2; omega
         replace B_g1 := kp_blk B_g1 hk (fun h => h)
         replace B_g40 := kp_blk B_g40 hk (fun h => h)
         replace B_g45 := kp_blk B_g45 hk (fun h => h)
         replace O_o := own_keep O_o hk (fun _ _ h => h)
         replace K_0 := K_0.then_ hk (fun _ h => h.elim)
         clear hk
         refine ⟨⟨B_g1, trivial⟩, ?_⟩
         exact dr8_7 g8_8 _ a (En.sub hE ⟨rfl, rfl, rfl, rfl, rfl, rfl, rfl, rfl, rfl, rfl, rfl, rfl, rfl, rfl, rfl, rfl, rfl, rfl, rfl, rfl, rfl, trivial⟩) B_g1 B_g40 B_g45 B_g8_8 n_g1_g8_8 n_g40_g8_8 n_g45_g8_8 z_0_g8_8 Nb_o_g8_8 O_o K_0
        exact all_nil
       have dr8_4 : ∀ (W : World) (a : Act), En 96 a [(0, Value.int .i64 (k : Int)), (1, Value.slice A d.length c), (4, Value.pointer (some ⟨g1, 0, none⟩)), (6, Value.pointer (some ⟨g40, 0, none⟩)), (7, Value.string (partsF k)), (8, Value.pointer (some ⟨g45, 0, none⟩)), (9, Value.int .i64 (i : Int)), (23, Value.bool true), (28, Value.int .u8 (bt (partsF k) (i : Int))), (29, Value.pointer (some ⟨g40, 1, none⟩)), (30, Value.slice A_o n_o c_o), (31, Value.pointer (some ⟨g45, 0, none⟩)), (32, Value.string (partsF k)), (33, Value.int .i64 (i : Int)), (34, Value.int .u8 (bt (partsF k) (i : Int))), (35, Value.int .i64 (szF (bt (partsF k) (i : Int)))), (40, Value.bool false), (57, Value.bool false), (67, Value.bool false)] → W.heap[g1]? = some (.cells (([Value.int .i64 0, Value.slice none 0 0] ++ b16 (fun _ => 0) ++ [Value.slice none 0 0])).toArray 45 (0, 0)) → W.heap[g40]? = some (.cells (([Value.int .i64 (k : Int), Value.slice A_o n_o c_o] ++ b16 f ++ [Value.slice none 0 0])).toArray 45 (0, 0)) → W.heap[g45]? = some (.cells #[Value.slice Ac nc cc, Value.int .i64 (at' : Int), Value.int .i64 (erP k i d.length)] 138 (0, 0)) → W.ownsRow w.heap.size 3 1 (.slice A_o n_o c_o) n_o (encs (Value.int .i64) N) → Kp w W (fun _ => False) → wpAnyH Try.prog .any (regOf Try.f54 8) QQ (fun W => W.heap[g1]? = some (.cells (([Value.int .i64 0, Value.slice none 0 0] ++ b16 (fun _ => 0) ++ [Value.slice none 0 0])).toArray 45 (0, 0)) ∧ True) 5 #[true, true, true, true, true, true, true, false, false, false, false, false] a W := by
        intro w76 a hE B_g1 B_g40 B_g45 O_o K_0
        refine d_all (rs := [7]) (by kernel_rfl) rfl ?_
        refine all_cons (d_lit (listed' := #[true, true, true, true, true, true, true, true, false, false, false, false]) rfl ?_) ?_
        ·
         refine (s_call (xs := [Operand.tmp 31, Operand.tmp 35]) (args := [Value.pointer (some ⟨g45, 0, none⟩), Value.int .i64 (szF (bt (partsF k) (i : Int)))]) p54_8_7 hE wn_none rfl rfl Try.func70 cl70 (rt_ok9 g45 Ac nc cc at' (erP k i d.length) (szF (bt (partsF k) (i : Int))).toNat (szF (bt (partsF k) (i : Int))) hs9 (numAt k d (cntF (partsF k) i)) (d.drop (posP k i)) hnum9 _ ⟨er_ok hpi9, by omega⟩ (by omega) (by omega) (by omega) (by rw [List.length_drop]; omega) (isB_drop hb _) (fun W' hk => hrow9 W' (F_A W' (K_0.then_ hk (fun k h => by rw [show k = g45 from h]; exact Or.inr z_0_g45)))) B_g45) ?_)
         rintro e w77 ⟨rfl, B_g45', hk⟩
         replace B_g1 := kp_blk B_g1 hk n_g1_g45
         replace B_g40 := kp_blk B_g40 hk n_g40_g45
         replace O_o := own_keep O_o hk (fun k hk2 h2 => Nb_o_g45 (by rw [show k = g45 from h2] at hk2; exact hk2))
         replace K_0 := K_0.then_ hk (fun k h => by rw [show k = g45 from h]; exact Or.inr z_0_g45)
         replace B_g45 := B_g45'
         refine ⟨_, rfl, ?_⟩; clear hE a; intro a hE
         refine ⟨⟨B_g1, trivial⟩, ?_⟩
         exact dr8_5 _ a (En.sub hE ⟨rfl, rfl, rfl, rfl, rfl, rfl, rfl, rfl, rfl, rfl, rfl, rfl, rfl, rfl, rfl, rfl, rfl, rfl, rfl, rfl, trivial⟩) B_g1 B_g40 B_g45 O_o K_0
        exact all_nil
       have dr8_3 : ∀ (W : World) (a : Act), En 96 a [(0, Value.int .i64 (k : Int)), (1, Value.slice A d.length c), (4, Value.pointer (some ⟨g1, 0, none⟩)), (6, Value.pointer (some ⟨g40, 0, none⟩)), (7, Value.string (partsF k)), (8, Value.pointer (some ⟨g45, 0, none⟩)), (9, Value.int .i64 (i : Int)), (23, Value.bool true), (28, Value.int .u8 (bt (partsF k) (i : Int))), (29, Value.pointer (some ⟨g40, 1, none⟩)), (31, Value.pointer (some ⟨g45, 0, none⟩)), (32, Value.string (partsF k)), (33, Value.int .i64 (i : Int)), (34, Value.int .u8 (bt (partsF k) (i : Int))), (35, Value.int .i64 (szF (bt (partsF k) (i : Int)))), (36, Value.int .i64 (numAt k d (cntF (partsF k) i))), (40, Value.bool false), (57, Value.bool false), (67, Value.bool false)] → W.heap[g1]? = some (.cells (([Value.int .i64 0, Value.slice none 0 0] ++ b16 (fun _ => 0) ++ [Value.slice none 0 0])).toArray 45 (0, 0)) → W.heap[g40]? = some (.cells (([Value.int .i64 (k : Int), Value.slice A_o n_o c_o] ++ b16 f ++ [Value.slice none 0 0])).toArray 45 (0, 0)) → W.heap[g45]? = some (.cells #[Value.slice (if cc = (szF (bt (partsF k) (i : Int))).toNat then Ac else Option.map (fun x => Addr.add x ((szF (bt (partsF k) (i : Int))).toNat * 1)) Ac) (nc - (szF (bt (partsF k) (i : Int))).toNat) (cc - (szF (bt (partsF k) (i : Int))).toNat), Value.int .i64 ((at' + (szF (bt (partsF k) (i : Int))).toNat : Nat) : Int), Value.int .i64 0] 138 (0, 0)) → W.ownsRow w.heap.size 3 1 (.slice A_o n_o c_o) n_o (encs (Value.int .i64) N) → Kp w W (fun _ => False) → wpAnyH Try.prog .any (regOf Try.f54 8) QQ (fun W => W.heap[g1]? = some (.cells (([Value.int .i64 0, Value.slice none 0 0] ++ b16 (fun _ => 0) ++ [Value.slice none 0 0])).toArray 45 (0, 0)) ∧ True) 5 #[true, false, true, true, true, true, true, true, false, false, false, false] a W := by
        intro w78 a hE B_g1 B_g40 B_g45 O_o K_0
        refine d_all (rs := [1, 8]) (by kernel_rfl) rfl ?_
        refine all_cons (d_lit (listed' := #[true, true, true, true, true, true, true, true, false, false, false, false]) rfl ?_) ?_
        ·
         refine (s_still p54_8_1 hE wn_none rfl (st_load1 tA42 rfl ((blk_cell B_g40 1).trans rfl)) ?_); clear hE a; intro a hE
         refine ⟨⟨B_g1, trivial⟩, ?_⟩
         exact dr8_5 _ a (En.sub hE ⟨rfl, rfl, rfl, rfl, rfl, rfl, rfl, rfl, rfl, rfl, rfl, rfl, rfl, rfl, rfl, rfl, rfl, rfl, rfl, rfl, trivial⟩) B_g1 B_g40 B_g45 O_o K_0
        refine all_cons (d_lit (listed' := #[true, false, true, true, true, true, true, true, true, false, false, false]) rfl ?_) ?_
        ·
         refine (s_row (xs := [(0, Operand.tmp 36)]) (vs := [(0, Value.int .i64 (numAt k d (cntF (partsF k) i)))]) (cs := #[Value.int .i64 (numAt k d (cntF (partsF k) i))]) p54_8_8 hE wn_none rfl Try.underlying42 rfl (by kernel_rfl) ?_)
         clear hE a; intro g8_8 w79 z80 B_g8_8 hk a hE
         have n_g1_g8_8 : g1 ≠ g8_8 := ne_new B_g1 z80
         have n_g40_g8_8 : g40 ≠ g8_8 := ne_new B_g40 z80
         have n_g45_g8_8 : g45 ≠ g8_8 := ne_new B_g45 z80
         have z_0_g8_8 := Nat.le_trans K_0.kept.1 z80
         have Nb_o_g8_8 : ¬ OB A_o g8_8 := fun h => by have := (own_ob O_o h).2; omega
         replace B_g1 := kp_blk B_g1 hk (fun h => h)
         replace B_g40 := kp_blk B_g40 hk (fun h => h)
         replace B_g45 := kp_blk B_g45 hk (fun h => h)
         replace O_o := own_keep O_o hk (fun _ _ h => h)
         replace K_0 := K_0.then_ hk (fun _ h => h.elim)
         clear hk
         refine ⟨⟨B_g1, trivial⟩, ?_⟩
         exact dr8_6 g8_8 _ a (En.sub hE ⟨rfl, rfl, rfl, rfl, rfl, rfl, rfl, rfl, rfl, rfl, rfl, rfl, rfl, rfl, rfl, rfl, rfl, rfl, rfl, rfl, trivial⟩) B_g1 B_g40 B_g45 B_g8_8 n_g1_g8_8 n_g40_g8_8 n_g45_g8_8 z_0_g8_8 Nb_o_g8_8 O_o K_0
        exact all_nil
       have dr8_2 : ∀ (W : World) (a : Act), En 96 a [(0, Value.int .i64 (k : Int)), (1, Value.slice A d.length c), (4, Value.pointer (some ⟨g1, 0, none⟩)), (6, Value.pointer (some ⟨g40, 0, none⟩)), (7, Value.string (partsF k)), (8, Value.pointer (some ⟨g45, 0, none⟩)), (9, Value.int .i64 (i : Int)), (23, Value.bool true), (28, Value.int .u8 (bt (partsF k) (i : Int))), (29, Value.pointer (some ⟨g40, 1, none⟩)), (31, Value.pointer (some ⟨g45, 0, none⟩)), (32, Value.string (partsF k)), (33, Value.int .i64 (i : Int)), (34, Value.int .u8 (bt (partsF k) (i : Int))), (35, Value.int .i64 (szF (bt (partsF k) (i : Int)))), (40, Value.bool false), (57, Value.bool false), (67, Value.bool false)] → W.heap[g1]? = some (.cells (([Value.int .i64 0, Value.slice none 0 0] ++ b16 (fun _ => 0) ++ [Value.slice none 0 0])).toArray 45 (0, 0)) → W.heap[g40]? = some (.cells (([Value.int .i64 (k : Int), Value.slice A_o n_o c_o] ++ b16 f ++ [Value.slice none 0 0])).toArray 45 (0, 0)) → W.heap[g45]? = some (.cells #[Value.slice Ac nc cc, Value.int .i64 (at' : Int), Value.int .i64 (erP k i d.length)] 138 (0, 0)) → W.ownsRow w.heap.size 3 1 (.slice A_o n_o c_o) n_o (encs (Value.int .i64) N) → Kp w W (fun _ => False) → wpAnyH Try.prog .any (regOf Try.f54 8) QQ (fun W => W.heap[g1]? = some (.cells (([Value.int .i64 0, Value.slice none 0 0] ++ b16 (fun _ => 0) ++ [Value.slice none 0 0])).toArray 45 (0, 0)) ∧ True) 6 #[true, false, true, true, true, true, true, false, false, false, false, false] a W := by
        intro w81 a hE B_g1 B_g40 B_g45 O_o K_0
        refine d_all (rs := [1, 7]) (by kernel_rfl) rfl ?_
        refine all_cons (d_lit (listed' := #[true, true, true, true, true, true, true, false, false, false, false, false]) rfl ?_) ?_
        ·
         refine (s_still p54_8_1 hE wn_none rfl (st_load1 tA42 rfl ((blk_cell B_g40 1).trans rfl)) ?_); clear hE a; intro a hE
         refine ⟨⟨B_g1, trivial⟩, ?_⟩
         exact dr8_4 _ a (En.sub hE ⟨rfl, rfl, rfl, rfl, rfl, rfl, rfl, rfl, rfl, rfl, rfl, rfl, rfl, rfl, rfl, rfl, rfl, rfl, rfl, trivial⟩) B_g1 B_g40 B_g45 O_o K_0
        refine all_cons (d_lit (listed' := #[true, false, true, true, true, true, true, true, false, false, false, false]) rfl ?_) ?_
        ·
         refine (s_call (xs := [Operand.tmp 31, Operand.tmp 35]) (args := [Value.pointer (some ⟨g45, 0, none⟩), Value.int .i64 (szF (bt (partsF k) (i : Int)))]) p54_8_7 hE wn_none rfl rfl Try.func70 cl70 (rt_ok9 g45 Ac nc cc at' (erP k i d.length) (szF (bt (partsF k) (i : Int))).toNat (szF (bt (partsF k) (i : Int))) hs9 (numAt k d (cntF (partsF k) i)) (d.drop (posP k i)) hnum9 _ ⟨er_ok hpi9, by omega⟩ (by omega) (by omega) (by omega) (by rw [List.length_drop]; omega) (isB_drop hb _) (fun W' hk => hrow9 W' (F_A W' (K_0.then_ hk (fun k h => by rw [show k = g45 from h]; exact Or.inr z_0_g45)))) B_g45) ?_)
         rintro e w82 ⟨rfl, B_g45', hk⟩
         replace B_g1 := kp_blk B_g1 hk n_g1_g45
         replace B_g40 := kp_blk B_g40 hk n_g40_g45
         replace O_o := own_keep O_o hk (fun k hk2 h2 => Nb_o_g45 (by rw [show k = g45 from h2] at hk2; exact hk2))
         replace K_0 := K_0.then_ hk (fun k h => by rw [show k = g45 from h]; exact Or.inr z_0_g45)
         replace B_g45 := B_g45'
         refine ⟨_, rfl, ?_⟩; clear hE a; intro a hE
         refine ⟨⟨B_g1, trivial⟩, ?_⟩
         exact dr8_3 _ a (En.sub hE ⟨rfl, rfl, rfl, rfl, rfl, rfl, rfl, rfl, rfl, rfl, rfl, rfl, rfl, rfl, rfl, rfl, rfl, rfl, rfl, trivial⟩) B_g1 B_g40 B_g45 O_o K_0
        exact all_nil
       have dr8_1 : ∀ (W : World) (a : Act), En 96 a [(0, Value.int .i64 (k : Int)), (1, Value.slice A d.length c), (4, Value.pointer (some ⟨g1, 0, none⟩)), (6, Value.pointer (some ⟨g40, 0, none⟩)), (7, Value.string (partsF k)), (8, Value.pointer (some ⟨g45, 0, none⟩)), (9, Value.int .i64 (i : Int)), (23, Value.bool true), (28, Value.int .u8 (bt (partsF k) (i : Int))), (29, Value.pointer (some ⟨g40, 1, none⟩)), (30, Value.slice A_o n_o c_o), (31, Value.pointer (some ⟨g45, 0, none⟩)), (32, Value.string (partsF k)), (33, Value.int .i64 (i : Int)), (34, Value.int .u8 (bt (partsF k) (i : Int))), (40, Value.bool false), (57, Value.bool false), (67, Value.bool false)] → W.heap[g1]? = some (.cells (([Value.int .i64 0, Value.slice none 0 0] ++ b16 (fun _ => 0) ++ [Value.slice none 0 0])).toArray 45 (0, 0)) → W.heap[g40]? = some (.cells (([Value.int .i64 (k : Int), Value.slice A_o n_o c_o] ++ b16 f ++ [Value.slice none 0 0])).toArray 45 (0, 0)) → W.heap[g45]? = some (.cells #[Value.slice Ac nc cc, Value.int .i64 (at' : Int), Value.int .i64 (erP k i d.length)] 138 (0, 0)) → W.ownsRow w.heap.size 3 1 (.slice A_o n_o c_o) n_o (encs (Value.int .i64) N) → Kp w W (fun _ => False) → wpAnyH Try.prog .any (regOf Try.f54 8) QQ (fun W => W.heap[g1]? = some (.cells (([Value.int .i64 0, Value.slice none 0 0] ++ b16 (fun _ => 0) ++ [Value.slice none 0 0])).toArray 45 (0, 0)) ∧ True) 6 #[true, true, true, true, true, true, false, false, false, false, false, false] a W := by
        intro w83 a hE B_g1 B_g40 B_g45 O_o K_0
        refine d_all (rs := [6]) (by kernel_rfl) rfl ?_
        refine all_cons (d_lit (listed' := #[true, true, true, true, true, true, true, false, false, false, false, false]) rfl ?_) ?_
        ·
         refine (s_call (xs := [Operand.tmp 34]) (args := [Value.int .u8 (bt (partsF k) (i : Int))]) p54_8_6 hE wn_none rfl rfl Try.func58 cl58 (size_any (bt (partsF k) (i : Int)) _) ?_)
         rintro e w84 ⟨rfl, hk⟩
         replace B_g1 := kp_blk B_g1 hk (fun h => h)
         replace B_g40 := kp_blk B_g40 hk (fun h => h)
         replace B_g45 := kp_blk B_g45 hk (fun h => h)
         replace O_o := own_keep O_o hk (fun _ _ h => h)
         replace K_0 := K_0.then_ hk (fun _ h => h.elim)
         refine ⟨_, rfl, ?_⟩; clear hE a; intro a hE
         refine ⟨⟨B_g1, trivial⟩, ?_⟩
         exact dr8_4 _ a (En.sub hE ⟨rfl, rfl, rfl, rfl, rfl, rfl, rfl, rfl, rfl, rfl, rfl, rfl, rfl, rfl, rfl, rfl, rfl, rfl, rfl, trivial⟩) B_g1 B_g40 B_g45 O_o K_0
        exact all_nil
       have dr8_0 : ∀ (W : World) (a : Act), En 96 a [(0, Value.int .i64 (k : Int)), (1, Value.slice A d.length c), (4, Value.pointer (some ⟨g1, 0, none⟩)), (6, Value.pointer (some ⟨g40, 0, none⟩)), (7, Value.string (partsF k)), (8, Value.pointer (some ⟨g45, 0, none⟩)), (9, Value.int .i64 (i : Int)), (23, Value.bool true), (28, Value.int .u8 (bt (partsF k) (i : Int))), (29, Value.pointer (some ⟨g40, 1, none⟩)), (31, Value.pointer (some ⟨g45, 0, none⟩)), (32, Value.string (partsF k)), (33, Value.int .i64 (i : Int)), (34, Value.int .u8 (bt (partsF k) (i : Int))), (40, Value.bool false), (57, Value.bool false), (67, Value.bool false)] → W.heap[g1]? = some (.cells (([Value.int .i64 0, Value.slice none 0 0] ++ b16 (fun _ => 0) ++ [Value.slice none 0 0])).toArray 45 (0, 0)) → W.heap[g40]? = some (.cells (([Value.int .i64 (k : Int), Value.slice A_o n_o c_o] ++ b16 f ++ [Value.slice none 0 0])).toArray 45 (0, 0)) → W.heap[g45]? = some (.cells #[Value.slice Ac nc cc, Value.int .i64 (at' : Int), Value.int .i64 (erP k i d.length)] 138 (0, 0)) → W.ownsRow w.heap.size 3 1 (.slice A_o n_o c_o) n_o (encs (Value.int .i64) N) → Kp w W (fun _ => False) → wpAnyH Try.prog .any (regOf Try.f54 8) QQ (fun W => W.heap[g1]? = some (.cells (([Value.int .i64 0, Value.slice none 0 0] ++ b16 (fun _ => 0) ++ [Value.slice none 0 0])).toArray 45 (0, 0)) ∧ True) 7 #[true, false, true, true, true, true, false, false, false, false, false, false] a W := by
        intro w85 a hE B_g1 B_g40 B_g45 O_o K_0
        refine d_all (rs := [1, 6]) (by kernel_rfl) rfl ?_
        refine all_cons (d_lit (listed' := #[true, true, true, true, true, true, false, false, false, false, false, false]) rfl ?_) ?_
        ·
         refine (s_still p54_8_1 hE wn_none rfl (st_load1 tA42 rfl ((blk_cell B_g40 1).trans rfl)) ?_); clear hE a; intro a hE
         refine ⟨⟨B_g1, trivial⟩, ?_⟩
         exact dr8_1 _ a (En.sub hE ⟨rfl, rfl, rfl, rfl, rfl, rfl, rfl, rfl, rfl, rfl, rfl, rfl, rfl, rfl, rfl, rfl, rfl, rfl, trivial⟩) B_g1 B_g40 B_g45 O_o K_0
        refine all_cons (d_lit (listed' := #[true, false, true, true, true, true, true, false, false, false, false, false]) rfl ?_) ?_
        ·
         refine (s_call (xs := [Operand.tmp 34]) (args := [Value.int .u8 (bt (partsF k) (i : Int))]) p54_8_6 hE wn_none rfl rfl Try.func58 cl58 (size_any (bt (partsF k) (i : Int)) _) ?_)
         rintro e w86 ⟨rfl, hk⟩
         replace B_g1 := kp_blk B_g1 hk (fun h => h)
         replace B_g40 := kp_blk B_g40 hk (fun h => h)
         replace B_g45 := kp_blk B_g45 hk (fun h => h)
         replace O_o := own_keep O_o hk (fun _ _ h => h)
         replace K_0 := K_0.then_ hk (fun _ h => h.elim)
         refine ⟨_, rfl, ?_⟩; clear hE a; intro a hE
         refine ⟨⟨B_g1, trivial⟩, ?_⟩
         exact dr8_2 _ a (En.sub hE ⟨rfl, rfl, rfl, rfl, rfl, rfl, rfl, rfl, rfl, rfl, rfl, rfl, rfl, rfl, rfl, rfl, rfl, rfl, trivial⟩) B_g1 B_g40 B_g45 O_o K_0
        exact all_nil
       intro w56 hh hk
       replace B_g1 := kp_blk B_g1 hk (fun h => h)
       replace B_g40 := kp_blk B_g40 hk (fun h => h)
       replace B_g45 := kp_blk B_g45 hk (fun h => h)
       replace O_o := own_keep O_o hk (fun _ _ h => h)
       replace K_0 := K_0.then_ hk (fun _ h => h.elim)
       clear hh hk
       refine Rv.dq (listed' := #[true, false, false, false, false, false, false, false, false, false, false, false]) (v := Value.pointer (some ⟨g40, 1, none⟩)) p54_8_0 ns54_8 hE wn_none ⟨B_g1, trivial⟩ (fun W hS => (st_fieldAddr Try.underlying45 rfl tS42 rfl rfl)) ?_ (fun c a w h => hQ c a _ _ w h); clear hE a; intro a hE
       refine Rv.dq (listed' := #[true, false, true, false, false, false, false, false, false, false, false, false]) (v := Value.pointer (some ⟨g45, 0, none⟩)) p54_8_2 ns54_8 hE wn_none ⟨B_g1, trivial⟩ (fun W hS => (st_move rfl)) ?_ (fun c a w h => hQ c a _ _ w h); clear hE a; intro a hE
       refine Rv.dq (listed' := #[true, false, true, true, false, false, false, false, false, false, false, false]) (v := Value.string (partsF k)) p54_8_3 ns54_8 hE wn_none ⟨B_g1, trivial⟩ (fun W hS => (st_move rfl)) ?_ (fun c a w h => hQ c a _ _ w h); clear hE a; intro a hE
       refine Rv.dq (listed' := #[true, false, true, true, true, false, false, false, false, false, false, false]) (v := Value.int .i64 (i : Int)) p54_8_4 ns54_8 hE wn_none ⟨B_g1, trivial⟩ (fun W hS => (st_move rfl)) ?_ (fun c a w h => hQ c a _ _ w h); clear hE a; intro a hE
       refine Rv.dq (listed' := #[true, false, true, true, true, true, false, false, false, false, false, false]) (v := Value.int .u8 (bt (partsF k) (i : Int))) p54_8_5 ns54_8 hE wn_none ⟨B_g1, trivial⟩ (fun W hS => (st_indexV (i := i) Try.underlying9 rfl rfl (by omega) rfl)) ?_ (fun c a w h => hQ c a _ _ w h); clear hE a; intro a hE
       exact dr8_0 _ a (En.sub hE ⟨rfl, rfl, rfl, rfl, rfl, rfl, rfl, rfl, rfl, rfl, rfl, rfl, rfl, rfl, rfl, rfl, rfl, trivial⟩) B_g1 B_g40 B_g45 O_o K_0
      ·
       have hpn9 := pos_d hc50
       have hcn9 : cntF (partsF k) (i + 1) = cntF (partsF k) i + 1 := cnt_yes (by have := (hfi.2.2.2 hc50).1; omega)
       obtain ⟨hs8, hsz8, hpo8⟩ := hfi.2.2.2 hc50
       have hs9 : szF (bt (partsF k) (i : Int)) = ((szF (bt (partsF k) (i : Int))).toNat : Int) := by omega
       have hno9 : ¬ (erP k i d.length = 0 ∧ (szF (bt (partsF k) (i : Int))).toNat ≤ nc) := fun h => by
        have hpi9 : posP k i ≤ d.length := Decidable.byContradiction fun h2 => by rw [er_no h2] at h; exact absurd h.1 (by decide)
        have hnc9 := (hcu hpi9).1
        have := h.2
        omega
       refine c_drawM (S := fun W => W.heap[g1]? = some (.cells (([Value.int .i64 0, Value.slice none 0 0] ++ b16 (fun _ => 0) ++ [Value.slice none 0 0])).toArray 45 (0, 0)) ∧ True) rfl rfl (listed := #[false, false, false, false, false, false, false, false, false, false, false, false]) rfl (by repeat' first | exact pan_body | refine pan_then ?_ | refine pan_block ?_) (fun QQ hQ hend => ?_)
       have dr8_9 : ∀ (A8_9 : Option Addr) (c8_9 : Nat) (g8_8 : Nat) (W : World) (a : Act), En 96 a [(0, Value.int .i64 (k : Int)), (1, Value.slice A d.length c), (4, Value.pointer (some ⟨g1, 0, none⟩)), (6, Value.pointer (some ⟨g40, 0, none⟩)), (7, Value.string (partsF k)), (8, Value.pointer (some ⟨g45, 0, none⟩)), (9, Value.int .i64 (i : Int)), (23, Value.bool true), (28, Value.int .u8 (bt (partsF k) (i : Int))), (29, Value.pointer (some ⟨g40, 1, none⟩)), (30, Value.slice A_o n_o c_o), (31, Value.pointer (some ⟨g45, 0, none⟩)), (32, Value.string (partsF k)), (33, Value.int .i64 (i : Int)), (34, Value.int .u8 (bt (partsF k) (i : Int))), (35, Value.int .i64 (szF (bt (partsF k) (i : Int)))), (36, Value.int .i64 0), (37, Value.slice (some ⟨g8_8, 0, none⟩) 1 1), (38, Value.slice A8_9 (n_o + 1) c8_9), (39, Value.pointer (some ⟨g40, 1, none⟩)), (40, Value.bool false), (57, Value.bool false), (67, Value.bool false)] → W.heap[g1]? = some (.cells (([Value.int .i64 0, Value.slice none 0 0] ++ b16 (fun _ => 0) ++ [Value.slice none 0 0])).toArray 45 (0, 0)) → W.heap[g40]? = some (.cells (([Value.int .i64 (k : Int), Value.slice A8_9 (n_o + 1) c8_9] ++ b16 f ++ [Value.slice none 0 0])).toArray 45 (0, 0)) → W.heap[g45]? = some (.cells #[Value.slice Ac nc cc, Value.int .i64 (at' : Int), Value.int .i64 (if (erP k i d.length) = 0 then 4 else (erP k i d.length))] 138 (0, 0)) → W.heap[g8_8]? = some (.cells #[Value.int .i64 0] 3 (0, 0)) → g1 ≠ g8_8 → g40 ≠ g8_8 → g45 ≠ g8_8 → w.heap.size ≤ g8_8 → ¬ OB A8_9 g1 → ¬ OB A8_9 g40 → ¬ OB A8_9 g45 → ¬ OB A8_9 g8_8 → (∀ k, OB A8_9 k → (fun _ => False) k ∨ w.heap.size ≤ k) → W.ownsRow w.heap.size 3 1 (.slice A8_9 (n_o + 1) c8_9) (n_o + 1) (encs (Value.int .i64) (N ++ [0])) → Kp w W (fun _ => False) → wpAnyH Try.prog .any (regOf Try.f54 8) QQ (fun W => W.heap[g1]? = some (.cells (([Value.int .i64 0, Value.slice none 0 0] ++ b16 (fun _ => 0) ++ [Value.slice none 0 0])).toArray 45 (0, 0)) ∧ True) 0 #[true, true, true, true, true, true, true, true, true, true, true, true] a W := by
        intro A8_9 c8_9 g8_8 w98 a hE B_g1 B_g40 B_g45 B_g8_8 n_g1_g8_8 n_g40_g8_8 n_g45_g8_8 z_0_g8_8 Nb_o_g1 Nb_o_g40 Nb_o_g45 Nb_o_g8_8 Z_0_o O_o K_0
        refine d_end (by kernel_rfl) (hend _ _ ?_)
        refine x_normB (x_normB (x_norm (c_regL R54_6_l ?_)))
        refine q0 p54_6_0 hE (st_move rfl) ?_; clear hE a; intro a hE
        refine q0 p54_6_1 hE (st_add (z := (i : Int) + 1) rfl rfl (wr_i64 _ (by omega) (by omega))) ?_; clear hE a; intro a hE
        refine q0 p54_6_2 hE (st_assign rfl) ?_; clear hE a; intro a hE
        refine p_nil (x_norm ?_)
        have hcu9 : posP k (i + 1) ≤ d.length → nc = d.length - posP k (i + 1) ∧ (∀ W', Kd.C (Kd.int .u8) W' A d.length d → Kd.C (Kd.int .u8) W' Ac nc (d.drop (posP k (i + 1)))) := fun h => absurd h hOK
        rw [er_next hOK] at B_g45
        have hN9 : posP k (i + 1) ≤ d.length → (N ++ [0]) = numsO k d (cntF (partsF k) (i + 1)) := fun h => absurd h hOK
        have hf9 : posP k (i + 1) ≤ d.length → l16 f = l16 (adrP k d (i + 1)) := fun h => absurd h hOK
        exact ⟨i + 1, by omega, A8_9, c8_9, (n_o + 1), (N ++ [0]), f, Ac, nc, cc, at', En.sub hE ⟨rfl, rfl, rfl, rfl, rfl, rfl, rfl, trivial⟩, (by omega), (by (try simp only [List.length_append, List.length_cons, List.length_nil]); omega), (by omega), (by omega), hcu9, hN9, hf9, B_g1, B_g40, B_g45, (by (try simp only [List.length_append, List.length_cons, List.length_nil]); omega), O_o, Nb_o_g1, Nb_o_g40, Nb_o_g45, Z_0_o, K_0⟩
       have dr8_8 : ∀ (A8_9 : Option Addr) (c8_9 : Nat) (g8_8 : Nat) (W : World) (a : Act), En 96 a [(0, Value.int .i64 (k : Int)), (1, Value.slice A d.length c), (4, Value.pointer (some ⟨g1, 0, none⟩)), (6, Value.pointer (some ⟨g40, 0, none⟩)), (7, Value.string (partsF k)), (8, Value.pointer (some ⟨g45, 0, none⟩)), (9, Value.int .i64 (i : Int)), (23, Value.bool true), (28, Value.int .u8 (bt (partsF k) (i : Int))), (29, Value.pointer (some ⟨g40, 1, none⟩)), (30, Value.slice A_o n_o c_o), (31, Value.pointer (some ⟨g45, 0, none⟩)), (32, Value.string (partsF k)), (33, Value.int .i64 (i : Int)), (34, Value.int .u8 (bt (partsF k) (i : Int))), (35, Value.int .i64 (szF (bt (partsF k) (i : Int)))), (36, Value.int .i64 0), (37, Value.slice (some ⟨g8_8, 0, none⟩) 1 1), (38, Value.slice A8_9 (n_o + 1) c8_9), (39, Value.pointer (some ⟨g40, 1, none⟩)), (40, Value.bool false), (57, Value.bool false), (67, Value.bool false)] → W.heap[g1]? = some (.cells (([Value.int .i64 0, Value.slice none 0 0] ++ b16 (fun _ => 0) ++ [Value.slice none 0 0])).toArray 45 (0, 0)) → W.heap[g40]? = some (.cells (([Value.int .i64 (k : Int), Value.slice A_o n_o c_o] ++ b16 f ++ [Value.slice none 0 0])).toArray 45 (0, 0)) → W.heap[g45]? = some (.cells #[Value.slice Ac nc cc, Value.int .i64 (at' : Int), Value.int .i64 (if (erP k i d.length) = 0 then 4 else (erP k i d.length))] 138 (0, 0)) → W.heap[g8_8]? = some (.cells #[Value.int .i64 0] 3 (0, 0)) → g1 ≠ g8_8 → g40 ≠ g8_8 → g45 ≠ g8_8 → w.heap.size ≤ g8_8 → ¬ OB A8_9 g1 → ¬ OB A8_9 g40 → ¬ OB A8_9 g45 → ¬ OB A8_9 g8_8 → (∀ k, OB A8_9 k → (fun _ => False) k ∨ w.heap.size ≤ k) → W.ownsRow w.heap.size 3 1 (.slice A8_9 (n_o + 1) c8_9) (n_o + 1) (encs (Value.int .i64) (N ++ [0])) → Kp w W (fun _ => False) → wpAnyH Try.prog .any (regOf Try.f54 8) QQ (fun W => W.heap[g1]? = some (.cells (([Value.int .i64 0, Value.slice none 0 0] ++ b16 (fun _ => 0) ++ [Value.slice none 0 0])).toArray 45 (0, 0)) ∧ True) 1 #[true, true, true, true, true, true, true, true, true, true, true, false] a W := by
        intro A8_9 c8_9 g8_8 w99 a hE B_g1 B_g40 B_g45 B_g8_8 n_g1_g8_8 n_g40_g8_8 n_g45_g8_8 z_0_g8_8 Nb_o_g1 Nb_o_g40 Nb_o_g45 Nb_o_g8_8 Z_0_o O_o K_0
        refine d_all (rs := [11]) (by kernel_rfl) rfl ?_
        refine all_cons (d_lit (listed' := #[true, true, true, true, true, true, true, true, true, true, true, true]) rfl ?_) ?_
        ·
         refine (s_store (off := 1) (k := 1) (cs' := (([Value.int .i64 (k : Int), Value.slice A8_9 (n_o + 1) c8_9] ++ b16 f ++ [Value.slice none 0 0])).toArray) p54_8_11 hE wn_none tS42 rfl rfl rfl rfl B_g40 (Nat.le_of_ble_eq_true rfl) rfl ?_)
         intro w100 B_g40' hk
         replace B_g1 := kp_blk B_g1 hk n_g1_g40
         replace B_g45 := kp_blk B_g45 hk (Ne.symm n_g40_g45)
         replace B_g8_8 := kp_blk B_g8_8 hk (Ne.symm n_g40_g8_8)
         replace O_o := own_keep O_o hk (fun k hk2 h2 => Nb_o_g40 (by rw [show k = g40 from h2] at hk2; exact hk2))
         replace K_0 := K_0.then_ hk (fun k h => by rw [show k = g40 from h]; exact Or.inr z_0_g40)
         replace B_g40 := B_g40'
         clear hk
         refine ⟨⟨B_g1, trivial⟩, ?_⟩
         exact dr8_9 A8_9 c8_9 g8_8 _ a (En.sub hE ⟨rfl, rfl, rfl, rfl, rfl, rfl, rfl, rfl, rfl, rfl, rfl, rfl, rfl, rfl, rfl, rfl, rfl, rfl, rfl, rfl, rfl, rfl, rfl, trivial⟩) B_g1 B_g40 B_g45 B_g8_8 n_g1_g8_8 n_g40_g8_8 n_g45_g8_8 z_0_g8_8 Nb_o_g1 Nb_o_g40 Nb_o_g45 Nb_o_g8_8 Z_0_o O_o K_0
        exact all_nil
       have dr8_7 : ∀ (g8_8 : Nat) (W : World) (a : Act), En 96 a [(0, Value.int .i64 (k : Int)), (1, Value.slice A d.length c), (4, Value.pointer (some ⟨g1, 0, none⟩)), (6, Value.pointer (some ⟨g40, 0, none⟩)), (7, Value.string (partsF k)), (8, Value.pointer (some ⟨g45, 0, none⟩)), (9, Value.int .i64 (i : Int)), (23, Value.bool true), (28, Value.int .u8 (bt (partsF k) (i : Int))), (29, Value.pointer (some ⟨g40, 1, none⟩)), (30, Value.slice A_o n_o c_o), (31, Value.pointer (some ⟨g45, 0, none⟩)), (32, Value.string (partsF k)), (33, Value.int .i64 (i : Int)), (34, Value.int .u8 (bt (partsF k) (i : Int))), (35, Value.int .i64 (szF (bt (partsF k) (i : Int)))), (36, Value.int .i64 0), (37, Value.slice (some ⟨g8_8, 0, none⟩) 1 1), (40, Value.bool false), (57, Value.bool false), (67, Value.bool false)] → W.heap[g1]? = some (.cells (([Value.int .i64 0, Value.slice none 0 0] ++ b16 (fun _ => 0) ++ [Value.slice none 0 0])).toArray 45 (0, 0)) → W.heap[g40]? = some (.cells (([Value.int .i64 (k : Int), Value.slice A_o n_o c_o] ++ b16 f ++ [Value.slice none 0 0])).toArray 45 (0, 0)) → W.heap[g45]? = some (.cells #[Value.slice Ac nc cc, Value.int .i64 (at' : Int), Value.int .i64 (if (erP k i d.length) = 0 then 4 else (erP k i d.length))] 138 (0, 0)) → W.heap[g8_8]? = some (.cells #[Value.int .i64 0] 3 (0, 0)) → g1 ≠ g8_8 → g40 ≠ g8_8 → g45 ≠ g8_8 → w.heap.size ≤ g8_8 → ¬ OB A_o g8_8 → W.ownsRow w.heap.size 3 1 (.slice A_o n_o c_o) n_o (encs (Value.int .i64) N) → Kp w W (fun _ => False) → wpAnyH Try.prog .any (regOf Try.f54 8) QQ (fun W => W.heap[g1]? = some (.cells (([Value.int .i64 0, Value.slice none 0 0] ++ b16 (fun _ => 0) ++ [Value.slice none 0 0])).toArray 45 (0, 0)) ∧ True) 3 #[true, true, true, true, true, true, true, true, true, false, false, false] a W := by
        intro g8_8 w101 a hE B_g1 B_g40 B_g45 B_g8_8 n_g1_g8_8 n_g40_g8_8 n_g45_g8_8 z_0_g8_8 Nb_o_g8_8 O_o K_0
        refine d_all (rs := [9]) (by kernel_rfl) rfl ?_
        refine all_cons (d_lit (listed' := #[true, true, true, true, true, true, true, true, true, true, false, false]) rfl ?_) ?_
        ·
         refine (s_appendC (xs := N) (ys := [0]) p54_8_9 hE wn_none rfl Try.underlying42 eD3 rfl O_o rfl (C_blk (k := .i64) (l := [0]) (off := 0) B_g8_8 ⟨rfl, Nat.le_of_ble_eq_true rfl⟩ rfl) (by omega) (by omega) K_0.kept.1 ?_)
         clear hE a; intro A8_9 c8_9 w102 O_o' hk hat a hE
         have Nb_o_g1' := grow_n Nb_o_g1 (blk_lt B_g1) hat
         have Nb_o_g40' := grow_n Nb_o_g40 (blk_lt B_g40) hat
         have Nb_o_g45' := grow_n Nb_o_g45 (blk_lt B_g45) hat
         have Nb_o_g8_8' := grow_n Nb_o_g8_8 (blk_lt B_g8_8) hat
         have Z_0_o' := grow_z Z_0_o K_0.kept.1 hat
         replace B_g1 := kp_blk B_g1 hk Nb_o_g1
         replace B_g40 := kp_blk B_g40 hk Nb_o_g40
         replace B_g45 := kp_blk B_g45 hk Nb_o_g45
         replace B_g8_8 := kp_blk B_g8_8 hk Nb_o_g8_8
         replace K_0 := K_0.then_ hk Z_0_o
         replace Nb_o_g1 := Nb_o_g1'
         replace Nb_o_g40 := Nb_o_g40'
         replace Nb_o_g45 := Nb_o_g45'
         replace Nb_o_g8_8 := Nb_o_g8_8'
         replace Z_0_o := Z_0_o'
         replace O_o : w102.ownsRow _ 3 1 (.slice A8_9 (n_o + 1) c8_9) (n_o + 1) (encs (Value.int .i64) (N ++ [0])) := O_o'
         clear O_o' hk hat
         refine ⟨⟨B_g1, trivial⟩, ?_⟩
         refine Rv.dq (listed' := #[true, true, true, true, true, true, true, true, true, true, true, false]) (v := Value.pointer (some ⟨g40, 1, none⟩)) p54_8_10 ns54_8 hE wn_none ⟨B_g1, trivial⟩ (fun W hS => (st_fieldAddr Try.underlying45 rfl tS42 rfl rfl)) ?_ (fun c a w h => hQ c a _ _ w h); clear hE a; intro a hE
         exact dr8_8 A8_9 c8_9 g8_8 _ a (En.sub hE ⟨rfl, rfl, rfl, rfl, rfl, rfl, rfl, rfl, rfl, rfl, rfl, rfl, rfl, rfl, rfl, rfl, rfl, rfl, rfl, rfl, rfl, rfl, rfl, trivial⟩) B_g1 B_g40 B_g45 B_g8_8 n_g1_g8_8 n_g40_g8_8 n_g45_g8_8 z_0_g8_8 Nb_o_g1 Nb_o_g40 Nb_o_g45 Nb_o_g8_8 Z_0_o O_o K_0
        exact all_nil
       have dr8_6 : ∀ (g8_8 : Nat) (W : World) (a : Act), En 96 a [(0, Value.int .i64 (k : Int)), (1, Value.slice A d.length c), (4, Value.pointer (some ⟨g1, 0, none⟩)), (6, Value.pointer (some ⟨g40, 0, none⟩)), (7, Value.string (partsF k)), (8, Value.pointer (some ⟨g45, 0, none⟩)), (9, Value.int .i64 (i : Int)), (23, Value.bool true), (28, Value.int .u8 (bt (partsF k) (i : Int))), (29, Value.pointer (some ⟨g40, 1, none⟩)), (31, Value.pointer (some ⟨g45, 0, none⟩)), (32, Value.string (partsF k)), (33, Value.int .i64 (i : Int)), (34, Value.int .u8 (bt (partsF k) (i : Int))), (35, Value.int .i64 (szF (bt (partsF k) (i : Int)))), (36, Value.int .i64 0), (37, Value.slice (some ⟨g8_8, 0, none⟩) 1 1), (40, Value.bool false), (57, Value.bool false), (67, Value.bool false)] → W.heap[g1]? = some (.cells (([Value.int .i64 0, Value.slice none 0 0] ++ b16 (fun _ => 0) ++ [Value.slice none 0 0])).toArray 45 (0, 0)) → W.heap[g40]? = some (.cells (([Value.int .i64 (k : Int), Value.slice A_o n_o c_o] ++ b16 f ++ [Value.slice none 0 0])).toArray 45 (0, 0)) → W.heap[g45]? = some (.cells #[Value.slice Ac nc cc, Value.int .i64 (at' : Int), Value.int .i64 (if (erP k i d.length) = 0 then 4 else (erP k i d.length))] 138 (0, 0)) → W.heap[g8_8]? = some (.cells #[Value.int .i64 0] 3 (0, 0)) → g1 ≠ g8_8 → g40 ≠ g8_8 → g45 ≠ g8_8 → w.heap.size ≤ g8_8 → ¬ OB A_o g8_8 → W.ownsRow w.heap.size 3 1 (.slice A_o n_o c_o) n_o (encs (Value.int .i64) N) → Kp w W (fun _ => False) → wpAnyH Try.prog .any (regOf Try.f54 8) QQ (fun W => W.heap[g1]? = some (.cells (([Value.int .i64 0, Value.slice none 0 0] ++ b16 (fun _ => 0) ++ [Value.slice none 0 0])).toArray 45 (0, 0)) ∧ True) 4 #[true, false, true, true, true, true, true, true, true, false, false, false] a W := by
        intro g8_8 w103 a hE B_g1 B_g40 B_g45 B_g8_8 n_g1_g8_8 n_g40_g8_8 n_g45_g8_8 z_0_g8_8 Nb_o_g8_8 O_o K_0
        refine d_all (rs := [1]) (by kernel_rfl) rfl ?_
        refine all_cons (d_lit (listed' := #[true, true, true, true, true, true, true, true, true, false, false, false]) rfl ?_) ?_
        ·
         refine (s_still p54_8_1 hE wn_none rfl (st_load1 tA42 rfl ((blk_cell B_g40 1).trans rfl)) ?_); clear hE a; intro a hE
         refine ⟨⟨B_g1, trivial⟩, ?_⟩
         exact dr8_7 g8_8 _ a (En.sub hE ⟨rfl, rfl, rfl, rfl, rfl, rfl, rfl, rfl, rfl, rfl, rfl, rfl, rfl, rfl, rfl, rfl, rfl, rfl, rfl, rfl, rfl, trivial⟩) B_g1 B_g40 B_g45 B_g8_8 n_g1_g8_8 n_g40_g8_8 n_g45_g8_8 z_0_g8_8 Nb_o_g8_8 O_o K_0
        exact all_nil
       have dr8_5 : ∀ (W : World) (a : Act), En 96 a [(0, Value.int .i64 (k : Int)), (1, Value.slice A d.length c), (4, Value.pointer (some ⟨g1, 0, none⟩)), (6, Value.pointer (some ⟨g40, 0, none⟩)), (7, Value.string (partsF k)), (8, Value.pointer (some ⟨g45, 0, none⟩)), (9, Value.int .i64 (i : Int)), (23, Value.bool true), (28, Value.int .u8 (bt (partsF k) (i : Int))), (29, Value.pointer (some ⟨g40, 1, none⟩)), (30, Value.slice A_o n_o c_o), (31, Value.pointer (some ⟨g45, 0, none⟩)), (32, Value.string (partsF k)), (33, Value.int .i64 (i : Int)), (34, Value.int .u8 (bt (partsF k) (i : Int))), (35, Value.int .i64 (szF (bt (partsF k) (i : Int)))), (36, Value.int .i64 0), (40, Value.bool false), (57, Value.bool false), (67, Value.bool false)] → W.heap[g1]? = some (.cells (([Value.int .i64 0, Value.slice none 0 0] ++ b16 (fun _ => 0) ++ [Value.slice none 0 0])).toArray 45 (0, 0)) → W.heap[g40]? = some (.cells (([Value.int .i64 (k : Int), Value.slice A_o n_o c_o] ++ b16 f ++ [Value.slice none 0 0])).toArray 45 (0, 0)) → W.heap[g45]? = some (.cells #[Value.slice Ac nc cc, Value.int .i64 (at' : Int), Value.int .i64 (if (erP k i d.length) = 0 then 4 else (erP k i d.length))] 138 (0, 0)) → W.ownsRow w.heap.size 3 1 (.slice A_o n_o c_o) n_o (encs (Value.int .i64) N) → Kp w W (fun _ => False) → wpAnyH Try.prog .any (regOf Try.f54 8) QQ (fun W => W.heap[g1]? = some (.cells (([Value.int .i64 0, Value.slice none 0 0] ++ b16 (fun _ => 0) ++ [Value.slice none 0 0])).toArray 45 (0, 0)) ∧ True) 4 #[true, true, true, true, true, true, true, true, false, false, false, false] a W := by
        intro w104 a hE B_g1 B_g40 B_g45 O_o K_0
        refine d_all (rs := [8]) (by kernel_rfl) rfl ?_
        refine all_cons (d_lit (listed' := #[true, true, true, true, true, true, true, true, true, false, false, false]) rfl ?_) ?_
        ·
         refine (s_row (xs := [(0, Operand.tmp 36)]) (vs := [(0, Value.int .i64 0)]) (cs := #[Value.int .i64 0]) p54_8_8 hE wn_none rfl Try.underlying42 rfl (by kernel_rfl) ?_)
         clear hE a; intro g8_8 w105 z106 B_g8_8 hk a hE
         have n_g1_g8_8 : g1 ≠ g8_8 := ne_new B_g1 z106
         have n_g40_g8_8 : g40 ≠ g8_8 := ne_new B_g40 z106
         have n_g45_g8_8 : g45 ≠ g8_8 := ne_new B_g45 z106
         have z_0_g8_8 := Nat.le_trans K_0.kept.1 z106
         have Nb_o_g8_8 : ¬ OB A_o g8_8 := fun h => by have := (own_ob O_o h).2; omega
         replace B_g1 := kp_blk B_g1 hk (fun h => h)
         replace B_g40 := kp_blk B_g40 hk (fun h => h)
         replace B_g45 := kp_blk B_g45 hk (fun h => h)
         replace O_o := own_keep O_o hk (fun _ _ h => h)
         replace K_0 := K_0.then_ hk (fun _ h => h.elim)
         clear hk
         refine ⟨⟨B_g1, trivial⟩, ?_⟩
         exact dr8_7 g8_8 _ a (En.sub hE ⟨rfl, rfl, rfl, rfl, rfl, rfl, rfl, rfl, rfl, rfl, rfl, rfl, rfl, rfl, rfl, rfl, rfl, rfl, rfl, rfl, rfl, trivial⟩) B_g1 B_g40 B_g45 B_g8_8 n_g1_g8_8 n_g40_g8_8 n_g45_g8_8 z_0_g8_8 Nb_o_g8_8 O_o K_0
        exact all_nil
       have dr8_4 : ∀ (W : World) (a : Act), En 96 a [(0, Value.int .i64 (k : Int)), (1, Value.slice A d.length c), (4, Value.pointer (some ⟨g1, 0, none⟩)), (6, Value.pointer (some ⟨g40, 0, none⟩)), (7, Value.string (partsF k)), (8, Value.pointer (some ⟨g45, 0, none⟩)), (9, Value.int .i64 (i : Int)), (23, Value.bool true), (28, Value.int .u8 (bt (partsF k) (i : Int))), (29, Value.pointer (some ⟨g40, 1, none⟩)), (30, Value.slice A_o n_o c_o), (31, Value.pointer (some ⟨g45, 0, none⟩)), (32, Value.string (partsF k)), (33, Value.int .i64 (i : Int)), (34, Value.int .u8 (bt (partsF k) (i : Int))), (35, Value.int .i64 (szF (bt (partsF k) (i : Int)))), (40, Value.bool false), (57, Value.bool false), (67, Value.bool false)] → W.heap[g1]? = some (.cells (([Value.int .i64 0, Value.slice none 0 0] ++ b16 (fun _ => 0) ++ [Value.slice none 0 0])).toArray 45 (0, 0)) → W.heap[g40]? = some (.cells (([Value.int .i64 (k : Int), Value.slice A_o n_o c_o] ++ b16 f ++ [Value.slice none 0 0])).toArray 45 (0, 0)) → W.heap[g45]? = some (.cells #[Value.slice Ac nc cc, Value.int .i64 (at' : Int), Value.int .i64 (erP k i d.length)] 138 (0, 0)) → W.ownsRow w.heap.size 3 1 (.slice A_o n_o c_o) n_o (encs (Value.int .i64) N) → Kp w W (fun _ => False) → wpAnyH Try.prog .any (regOf Try.f54 8) QQ (fun W => W.heap[g1]? = some (.cells (([Value.int .i64 0, Value.slice none 0 0] ++ b16 (fun _ => 0) ++ [Value.slice none 0 0])).toArray 45 (0, 0)) ∧ True) 5 #[true, true, true, true, true, true, true, false, false, false, false, false] a W := by
        intro w107 a hE B_g1 B_g40 B_g45 O_o K_0
        refine d_all (rs := [7]) (by kernel_rfl) rfl ?_
        refine all_cons (d_lit (listed' := #[true, true, true, true, true, true, true, true, false, false, false, false]) rfl ?_) ?_
        ·
         refine (s_call (xs := [Operand.tmp 31, Operand.tmp 35]) (args := [Value.pointer (some ⟨g45, 0, none⟩), Value.int .i64 (szF (bt (partsF k) (i : Int)))]) p54_8_7 hE wn_none rfl rfl Try.func70 cl70 (rt_no9 g45 Ac nc cc at' (erP k i d.length) (szF (bt (partsF k) (i : Int))).toNat (szF (bt (partsF k) (i : Int))) hs9 _ hno9 (by omega) (by omega) (by omega) B_g45) ?_)
         rintro e w108 ⟨rfl, B_g45', hk⟩
         replace B_g1 := kp_blk B_g1 hk n_g1_g45
         replace B_g40 := kp_blk B_g40 hk n_g40_g45
         replace O_o := own_keep O_o hk (fun k hk2 h2 => Nb_o_g45 (by rw [show k = g45 from h2] at hk2; exact hk2))
         replace K_0 := K_0.then_ hk (fun k h => by rw [show k = g45 from h]; exact Or.inr z_0_g45)
         replace B_g45 := B_g45'
         refine ⟨_, rfl, ?_⟩; clear hE a; intro a hE
         refine ⟨⟨B_g1, trivial⟩, ?_⟩
         exact dr8_5 _ a (En.sub hE ⟨rfl, rfl, rfl, rfl, rfl, rfl, rfl, rfl, rfl, rfl, rfl, rfl, rfl, rfl, rfl, rfl, rfl, rfl, rfl, rfl, trivial⟩) B_g1 B_g40 B_g45 O_o K_0
        exact all_nil
       have dr8_3 : ∀ (W : World) (a : Act), En 96 a [(0, Value.int .i64 (k : Int)), (1, Value.slice A d.length c), (4, Value.pointer (some ⟨g1, 0, none⟩)), (6, Value.pointer (some ⟨g40, 0, none⟩)), (7, Value.string (partsF k)), (8, Value.pointer (some ⟨g45, 0, none⟩)), (9, Value.int .i64 (i : Int)), (23, Value.bool true), (28, Value.int .u8 (bt (partsF k) (i : Int))), (29, Value.pointer (some ⟨g40, 1, none⟩)), (31, Value.pointer (some ⟨g45, 0, none⟩)), (32, Value.string (partsF k)), (33, Value.int .i64 (i : Int)), (34, Value.int .u8 (bt (partsF k) (i : Int))), (35, Value.int .i64 (szF (bt (partsF k) (i : Int)))), (36, Value.int .i64 0), (40, Value.bool false), (57, Value.bool false), (67, Value.bool false)] → W.heap[g1]? = some (.cells (([Value.int .i64 0, Value.slice none 0 0] ++ b16 (fun _ => 0) ++ [Value.slice none 0 0])).toArray 45 (0, 0)) → W.heap[g40]? = some (.cells (([Value.int .i64 (k : Int), Value.slice A_o n_o c_o] ++ b16 f ++ [Value.slice none 0 0])).toArray 45 (0, 0)) → W.heap[g45]? = some (.cells #[Value.slice Ac nc cc, Value.int .i64 (at' : Int), Value.int .i64 (if (erP k i d.length) = 0 then 4 else (erP k i d.length))] 138 (0, 0)) → W.ownsRow w.heap.size 3 1 (.slice A_o n_o c_o) n_o (encs (Value.int .i64) N) → Kp w W (fun _ => False) → wpAnyH Try.prog .any (regOf Try.f54 8) QQ (fun W => W.heap[g1]? = some (.cells (([Value.int .i64 0, Value.slice none 0 0] ++ b16 (fun _ => 0) ++ [Value.slice none 0 0])).toArray 45 (0, 0)) ∧ True) 5 #[true, false, true, true, true, true, true, true, false, false, false, false] a W := by
        intro w109 a hE B_g1 B_g40 B_g45 O_o K_0
        refine d_all (rs := [1, 8]) (by kernel_rfl) rfl ?_
        refine all_cons (d_lit (listed' := #[true, true, true, true, true, true, true, true, false, false, false, false]) rfl ?_) ?_
        ·
         refine (s_still p54_8_1 hE wn_none rfl (st_load1 tA42 rfl ((blk_cell B_g40 1).trans rfl)) ?_); clear hE a; intro a hE
         refine ⟨⟨B_g1, trivial⟩, ?_⟩
         exact dr8_5 _ a (En.sub hE ⟨rfl, rfl, rfl, rfl, rfl, rfl, rfl, rfl, rfl, rfl, rfl, rfl, rfl, rfl, rfl, rfl, rfl, rfl, rfl, rfl, trivial⟩) B_g1 B_g40 B_g45 O_o K_0
        refine all_cons (d_lit (listed' := #[true, false, true, true, true, true, true, true, true, false, false, false]) rfl ?_) ?_
        ·
         refine (s_row (xs := [(0, Operand.tmp 36)]) (vs := [(0, Value.int .i64 0)]) (cs := #[Value.int .i64 0]) p54_8_8 hE wn_none rfl Try.underlying42 rfl (by kernel_rfl) ?_)
         clear hE a; intro g8_8 w110 z111 B_g8_8 hk a hE
         have n_g1_g8_8 : g1 ≠ g8_8 := ne_new B_g1 z111
         have n_g40_g8_8 : g40 ≠ g8_8 := ne_new B_g40 z111
         have n_g45_g8_8 : g45 ≠ g8_8 := ne_new B_g45 z111
         have z_0_g8_8 := Nat.le_trans K_0.kept.1 z111
         have Nb_o_g8_8 : ¬ OB A_o g8_8 := fun h => by have := (own_ob O_o h).2; omega
         replace B_g1 := kp_blk B_g1 hk (fun h => h)
         replace B_g40 := kp_blk B_g40 hk (fun h => h)
         replace B_g45 := kp_blk B_g45 hk (fun h => h)
         replace O_o := own_keep O_o hk (fun _ _ h => h)
         replace K_0 := K_0.then_ hk (fun _ h => h.elim)
         clear hk
         refine ⟨⟨B_g1, trivial⟩, ?_⟩
         exact dr8_6 g8_8 _ a (En.sub hE ⟨rfl, rfl, rfl, rfl, rfl, rfl, rfl, rfl, rfl, rfl, rfl, rfl, rfl, rfl, rfl, rfl, rfl, rfl, rfl, rfl, trivial⟩) B_g1 B_g40 B_g45 B_g8_8 n_g1_g8_8 n_g40_g8_8 n_g45_g8_8 z_0_g8_8 Nb_o_g8_8 O_o K_0
        exact all_nil
       have dr8_2 : ∀ (W : World) (a : Act), En 96 a [(0, Value.int .i64 (k : Int)), (1, Value.slice A d.length c), (4, Value.pointer (some ⟨g1, 0, none⟩)), (6, Value.pointer (some ⟨g40, 0, none⟩)), (7, Value.string (partsF k)), (8, Value.pointer (some ⟨g45, 0, none⟩)), (9, Value.int .i64 (i : Int)), (23, Value.bool true), (28, Value.int .u8 (bt (partsF k) (i : Int))), (29, Value.pointer (some ⟨g40, 1, none⟩)), (31, Value.pointer (some ⟨g45, 0, none⟩)), (32, Value.string (partsF k)), (33, Value.int .i64 (i : Int)), (34, Value.int .u8 (bt (partsF k) (i : Int))), (35, Value.int .i64 (szF (bt (partsF k) (i : Int)))), (40, Value.bool false), (57, Value.bool false), (67, Value.bool false)] → W.heap[g1]? = some (.cells (([Value.int .i64 0, Value.slice none 0 0] ++ b16 (fun _ => 0) ++ [Value.slice none 0 0])).toArray 45 (0, 0)) → W.heap[g40]? = some (.cells (([Value.int .i64 (k : Int), Value.slice A_o n_o c_o] ++ b16 f ++ [Value.slice none 0 0])).toArray 45 (0, 0)) → W.heap[g45]? = some (.cells #[Value.slice Ac nc cc, Value.int .i64 (at' : Int), Value.int .i64 (erP k i d.length)] 138 (0, 0)) → W.ownsRow w.heap.size 3 1 (.slice A_o n_o c_o) n_o (encs (Value.int .i64) N) → Kp w W (fun _ => False) → wpAnyH Try.prog .any (regOf Try.f54 8) QQ (fun W => W.heap[g1]? = some (.cells (([Value.int .i64 0, Value.slice none 0 0] ++ b16 (fun _ => 0) ++ [Value.slice none 0 0])).toArray 45 (0, 0)) ∧ True) 6 #[true, false, true, true, true, true, true, false, false, false, false, false] a W := by
        intro w112 a hE B_g1 B_g40 B_g45 O_o K_0
        refine d_all (rs := [1, 7]) (by kernel_rfl) rfl ?_
        refine all_cons (d_lit (listed' := #[true, true, true, true, true, true, true, false, false, false, false, false]) rfl ?_) ?_
        ·
         refine (s_still p54_8_1 hE wn_none rfl (st_load1 tA42 rfl ((blk_cell B_g40 1).trans rfl)) ?_); clear hE a; intro a hE
         refine ⟨⟨B_g1, trivial⟩, ?_⟩
         exact dr8_4 _ a (En.sub hE ⟨rfl, rfl, rfl, rfl, rfl, rfl, rfl, rfl, rfl, rfl, rfl, rfl, rfl, rfl, rfl, rfl, rfl, rfl, rfl, trivial⟩) B_g1 B_g40 B_g45 O_o K_0
        refine all_cons (d_lit (listed' := #[true, false, true, true, true, true, true, true, false, false, false, false]) rfl ?_) ?_
        ·
         refine (s_call (xs := [Operand.tmp 31, Operand.tmp 35]) (args := [Value.pointer (some ⟨g45, 0, none⟩), Value.int .i64 (szF (bt (partsF k) (i : Int)))]) p54_8_7 hE wn_none rfl rfl Try.func70 cl70 (rt_no9 g45 Ac nc cc at' (erP k i d.length) (szF (bt (partsF k) (i : Int))).toNat (szF (bt (partsF k) (i : Int))) hs9 _ hno9 (by omega) (by omega) (by omega) B_g45) ?_)
         rintro e w113 ⟨rfl, B_g45', hk⟩
         replace B_g1 := kp_blk B_g1 hk n_g1_g45
         replace B_g40 := kp_blk B_g40 hk n_g40_g45
         replace O_o := own_keep O_o hk (fun k hk2 h2 => Nb_o_g45 (by rw [show k = g45 from h2] at hk2; exact hk2))
         replace K_0 := K_0.then_ hk (fun k h => by rw [show k = g45 from h]; exact Or.inr z_0_g45)
         replace B_g45 := B_g45'
         refine ⟨_, rfl, ?_⟩; clear hE a; intro a hE
         refine ⟨⟨B_g1, trivial⟩, ?_⟩
         exact dr8_3 _ a (En.sub hE ⟨rfl, rfl, rfl, rfl, rfl, rfl, rfl, rfl, rfl, rfl, rfl, rfl, rfl, rfl, rfl, rfl, rfl, rfl, rfl, trivial⟩) B_g1 B_g40 B_g45 O_o K_0
        exact all_nil
       have dr8_1 : ∀ (W : World) (a : Act), En 96 a [(0, Value.int .i64 (k : Int)), (1, Value.slice A d.length c), (4, Value.pointer (some ⟨g1, 0, none⟩)), (6, Value.pointer (some ⟨g40, 0, none⟩)), (7, Value.string (partsF k)), (8, Value.pointer (some ⟨g45, 0, none⟩)), (9, Value.int .i64 (i : Int)), (23, Value.bool true), (28, Value.int .u8 (bt (partsF k) (i : Int))), (29, Value.pointer (some ⟨g40, 1, none⟩)), (30, Value.slice A_o n_o c_o), (31, Value.pointer (some ⟨g45, 0, none⟩)), (32, Value.string (partsF k)), (33, Value.int .i64 (i : Int)), (34, Value.int .u8 (bt (partsF k) (i : Int))), (40, Value.bool false), (57, Value.bool false), (67, Value.bool false)] → W.heap[g1]? = some (.cells (([Value.int .i64 0, Value.slice none 0 0] ++ b16 (fun _ => 0) ++ [Value.slice none 0 0])).toArray 45 (0, 0)) → W.heap[g40]? = some (.cells (([Value.int .i64 (k : Int), Value.slice A_o n_o c_o] ++ b16 f ++ [Value.slice none 0 0])).toArray 45 (0, 0)) → W.heap[g45]? = some (.cells #[Value.slice Ac nc cc, Value.int .i64 (at' : Int), Value.int .i64 (erP k i d.length)] 138 (0, 0)) → W.ownsRow w.heap.size 3 1 (.slice A_o n_o c_o) n_o (encs (Value.int .i64) N) → Kp w W (fun _ => False) → wpAnyH Try.prog .any (regOf Try.f54 8) QQ (fun W => W.heap[g1]? = some (.cells (([Value.int .i64 0, Value.slice none 0 0] ++ b16 (fun _ => 0) ++ [Value.slice none 0 0])).toArray 45 (0, 0)) ∧ True) 6 #[true, true, true, true, true, true, false, false, false, false, false, false] a W := by
        intro w114 a hE B_g1 B_g40 B_g45 O_o K_0
        refine d_all (rs := [6]) (by kernel_rfl) rfl ?_
        refine all_cons (d_lit (listed' := #[true, true, true, true, true, true, true, false, false, false, false, false]) rfl ?_) ?_
        ·
         refine (s_call (xs := [Operand.tmp 34]) (args := [Value.int .u8 (bt (partsF k) (i : Int))]) p54_8_6 hE wn_none rfl rfl Try.func58 cl58 (size_any (bt (partsF k) (i : Int)) _) ?_)
         rintro e w115 ⟨rfl, hk⟩
         replace B_g1 := kp_blk B_g1 hk (fun h => h)
         replace B_g40 := kp_blk B_g40 hk (fun h => h)
         replace B_g45 := kp_blk B_g45 hk (fun h => h)
         replace O_o := own_keep O_o hk (fun _ _ h => h)
         replace K_0 := K_0.then_ hk (fun _ h => h.elim)
         refine ⟨_, rfl, ?_⟩; clear hE a; intro a hE
         refine ⟨⟨B_g1, trivial⟩, ?_⟩
         exact dr8_4 _ a (En.sub hE ⟨rfl, rfl, rfl, rfl, rfl, rfl, rfl, rfl, rfl, rfl, rfl, rfl, rfl, rfl, rfl, rfl, rfl, rfl, rfl, trivial⟩) B_g1 B_g40 B_g45 O_o K_0
        exact all_nil
       have dr8_0 : ∀ (W : World) (a : Act), En 96 a [(0, Value.int .i64 (k : Int)), (1, Value.slice A d.length c), (4, Value.pointer (some ⟨g1, 0, none⟩)), (6, Value.pointer (some ⟨g40, 0, none⟩)), (7, Value.string (partsF k)), (8, Value.pointer (some ⟨g45, 0, none⟩)), (9, Value.int .i64 (i : Int)), (23, Value.bool true), (28, Value.int .u8 (bt (partsF k) (i : Int))), (29, Value.pointer (some ⟨g40, 1, none⟩)), (31, Value.pointer (some ⟨g45, 0, none⟩)), (32, Value.string (partsF k)), (33, Value.int .i64 (i : Int)), (34, Value.int .u8 (bt (partsF k) (i : Int))), (40, Value.bool false), (57, Value.bool false), (67, Value.bool false)] → W.heap[g1]? = some (.cells (([Value.int .i64 0, Value.slice none 0 0] ++ b16 (fun _ => 0) ++ [Value.slice none 0 0])).toArray 45 (0, 0)) → W.heap[g40]? = some (.cells (([Value.int .i64 (k : Int), Value.slice A_o n_o c_o] ++ b16 f ++ [Value.slice none 0 0])).toArray 45 (0, 0)) → W.heap[g45]? = some (.cells #[Value.slice Ac nc cc, Value.int .i64 (at' : Int), Value.int .i64 (erP k i d.length)] 138 (0, 0)) → W.ownsRow w.heap.size 3 1 (.slice A_o n_o c_o) n_o (encs (Value.int .i64) N) → Kp w W (fun _ => False) → wpAnyH Try.prog .any (regOf Try.f54 8) QQ (fun W => W.heap[g1]? = some (.cells (([Value.int .i64 0, Value.slice none 0 0] ++ b16 (fun _ => 0) ++ [Value.slice none 0 0])).toArray 45 (0, 0)) ∧ True) 7 #[true, false, true, true, true, true, false, false, false, false, false, false] a W := by
        intro w116 a hE B_g1 B_g40 B_g45 O_o K_0
        refine d_all (rs := [1, 6]) (by kernel_rfl) rfl ?_
        refine all_cons (d_lit (listed' := #[true, true, true, true, true, true, false, false, false, false, false, false]) rfl ?_) ?_
        ·
         refine (s_still p54_8_1 hE wn_none rfl (st_load1 tA42 rfl ((blk_cell B_g40 1).trans rfl)) ?_); clear hE a; intro a hE
         refine ⟨⟨B_g1, trivial⟩, ?_⟩
         exact dr8_1 _ a (En.sub hE ⟨rfl, rfl, rfl, rfl, rfl, rfl, rfl, rfl, rfl, rfl, rfl, rfl, rfl, rfl, rfl, rfl, rfl, rfl, trivial⟩) B_g1 B_g40 B_g45 O_o K_0
        refine all_cons (d_lit (listed' := #[true, false, true, true, true, true, true, false, false, false, false, false]) rfl ?_) ?_
        ·
         refine (s_call (xs := [Operand.tmp 34]) (args := [Value.int .u8 (bt (partsF k) (i : Int))]) p54_8_6 hE wn_none rfl rfl Try.func58 cl58 (size_any (bt (partsF k) (i : Int)) _) ?_)
         rintro e w117 ⟨rfl, hk⟩
         replace B_g1 := kp_blk B_g1 hk (fun h => h)
         replace B_g40 := kp_blk B_g40 hk (fun h => h)
         replace B_g45 := kp_blk B_g45 hk (fun h => h)
         replace O_o := own_keep O_o hk (fun _ _ h => h)
         replace K_0 := K_0.then_ hk (fun _ h => h.elim)
         refine ⟨_, rfl, ?_⟩; clear hE a; intro a hE
         refine ⟨⟨B_g1, trivial⟩, ?_⟩
         exact dr8_2 _ a (En.sub hE ⟨rfl, rfl, rfl, rfl, rfl, rfl, rfl, rfl, rfl, rfl, rfl, rfl, rfl, rfl, rfl, rfl, rfl, rfl, trivial⟩) B_g1 B_g40 B_g45 O_o K_0
        exact all_nil
       intro w87 hh hk
       replace B_g1 := kp_blk B_g1 hk (fun h => h)
       replace B_g40 := kp_blk B_g40 hk (fun h => h)
       replace B_g45 := kp_blk B_g45 hk (fun h => h)
       replace O_o := own_keep O_o hk (fun _ _ h => h)
       replace K_0 := K_0.then_ hk (fun _ h => h.elim)
       clear hh hk
       refine Rv.dq (listed' := #[true, false, false, false, false, false, false, false, false, false, false, false]) (v := Value.pointer (some ⟨g40, 1, none⟩)) p54_8_0 ns54_8 hE wn_none ⟨B_g1, trivial⟩ (fun W hS => (st_fieldAddr Try.underlying45 rfl tS42 rfl rfl)) ?_ (fun c a w h => hQ c a _ _ w h); clear hE a; intro a hE
       refine Rv.dq (listed' := #[true, false, true, false, false, false, false, false, false, false, false, false]) (v := Value.pointer (some ⟨g45, 0, none⟩)) p54_8_2 ns54_8 hE wn_none ⟨B_g1, trivial⟩ (fun W hS => (st_move rfl)) ?_ (fun c a w h => hQ c a _ _ w h); clear hE a; intro a hE
       refine Rv.dq (listed' := #[true, false, true, true, false, false, false, false, false, false, false, false]) (v := Value.string (partsF k)) p54_8_3 ns54_8 hE wn_none ⟨B_g1, trivial⟩ (fun W hS => (st_move rfl)) ?_ (fun c a w h => hQ c a _ _ w h); clear hE a; intro a hE
       refine Rv.dq (listed' := #[true, false, true, true, true, false, false, false, false, false, false, false]) (v := Value.int .i64 (i : Int)) p54_8_4 ns54_8 hE wn_none ⟨B_g1, trivial⟩ (fun W hS => (st_move rfl)) ?_ (fun c a w h => hQ c a _ _ w h); clear hE a; intro a hE
       refine Rv.dq (listed' := #[true, false, true, true, true, true, false, false, false, false, false, false]) (v := Value.int .u8 (bt (partsF k) (i : Int))) p54_8_5 ns54_8 hE wn_none ⟨B_g1, trivial⟩ (fun W hS => (st_indexV (i := i) Try.underlying9 rfl rfl (by omega) rfl)) ?_ (fun c a w h => hQ c a _ _ w h); clear hE a; intro a hE
       exact dr8_0 _ a (En.sub hE ⟨rfl, rfl, rfl, rfl, rfl, rfl, rfl, rfl, rfl, rfl, rfl, rfl, rfl, rfl, rfl, rfl, rfl, trivial⟩) B_g1 B_g40 B_g45 O_o K_0
    ·
     refine p_cons (s_still (v := Value.bool false) p54_5_3 hE wn_none rfl (st_lss rfl rfl (decide_eq_false hc49)) ?_); clear hE a; intro a hE
     refine p_nil (x_norm ?_)
     refine c_cond (t := false) hE rfl ?_
     refine wp_exit (x_exit (x_exit ?_))
     obtain rfl : i = (partsF k).size := by omega
     refine x_in (x_norm ?_)
     refine c_drawS (S := fun W => W.heap[g40]? = some (.cells (([Value.int .i64 (k : Int), Value.slice A_o n_o c_o] ++ b16 f ++ [Value.slice none 0 0])).toArray 45 (0, 0)) ∧ W.heap[g45]? = some (.cells #[Value.slice Ac nc cc, Value.int .i64 (at' : Int), Value.int .i64 (erP k ((partsF k).size) d.length)] 138 (0, 0)) ∧ True) rfl rfl (listed := #[false, false, false, false, false, false]) rfl ?_
     intro w118 hh hk
     replace B_g1 := kp_blk B_g1 hk (fun h => h)
     replace B_g40 := kp_blk B_g40 hk (fun h => h)
     replace B_g45 := kp_blk B_g45 hk (fun h => h)
     replace O_o := own_keep O_o hk (fun _ _ h => h)
     replace K_0 := K_0.then_ hk (fun _ h => h.elim)
     clear hh hk
     refine Rv.dq (v := Value.agg (([Value.int .i64 (k : Int), Value.slice A_o n_o c_o] ++ b16 f ++ [Value.slice none 0 0])).toArray) p54_25_0 ns54_25 hE wn_none ⟨B_g40, B_g45, trivial⟩ (fun W hS => (st_loadN (off := 0) (k := 19) (vs := ([Value.int .i64 (k : Int), Value.slice A_o n_o c_o] ++ b16 f ++ [Value.slice none 0 0])) tA45 tS45 rfl hS.1 rfl rfl)) ?_; clear hE a; intro a hE
     refine Rv.dq (v := Value.pointer (some ⟨g45, 0, none⟩)) p54_25_1 ns54_25 hE wn_none ⟨B_g40, B_g45, trivial⟩ (fun W hS => (st_move rfl)) ?_; clear hE a; intro a hE
     refine d_one (by kernel_rfl) rfl (s_call (xs := [Operand.tmp 93]) (args := [Value.pointer (some ⟨g45, 0, none⟩)]) p54_25_2 hE wn_none rfl rfl Try.func113 cl113 (rcl_c g45 Ac nc cc at' (erP k ((partsF k).size) d.length) _ B_g45) ?_)
     rintro e w119 ⟨rfl, hk⟩
     replace B_g1 := kp_blk B_g1 hk (fun h => h)
     replace B_g40 := kp_blk B_g40 hk (fun h => h)
     replace B_g45 := kp_blk B_g45 hk (fun h => h)
     replace O_o := own_keep O_o hk (fun _ _ h => h)
     replace K_0 := K_0.then_ hk (fun _ h => h.elim)
     refine ⟨_, rfl, ?_⟩; clear hE a; intro a hE
     refine ⟨⟨B_g40, B_g45, trivial⟩, ?_⟩
     refine Rv.dq (v := Value.bool (decide ((rclF nc (erP k ((partsF k).size) d.length)) = 0))) p54_25_3 ns54_25 hE wn_none ⟨B_g40, B_g45, trivial⟩ (fun W hS => (st_eql (b := (decide ((rclF nc (erP k ((partsF k).size) d.length)) = 0))) rfl rfl rfl)) ?_; clear hE a; intro a hE
     refine d_one (by kernel_rfl) rfl (s_store (off := 0) (k := 19) (cs' := (([Value.int .i64 (k : Int), Value.slice A_o n_o c_o] ++ b16 f ++ [Value.slice none 0 0])).toArray) p54_25_4 hE wn_none tS45 rfl rfl rfl rfl B_g1 (Nat.le_of_ble_eq_true rfl) rfl ?_)
     intro w120 B_g1' hk
     replace B_g40 := kp_blk B_g40 hk (Ne.symm n_g1_g40)
     replace B_g45 := kp_blk B_g45 hk (Ne.symm n_g1_g45)
     replace O_o := own_keep O_o hk (fun k hk2 h2 => Nb_o_g1 (by rw [show k = g1 from h2] at hk2; exact hk2))
     replace K_0 := K_0.then_ hk (fun k h => by rw [show k = g1 from h]; exact Or.inr z_0_g1)
     replace B_g1 := B_g1'
     clear hk
     refine ⟨⟨B_g40, B_g45, trivial⟩, ?_⟩
     refine Rv.dq (v := Value.bool (decide ((rclF nc (erP k ((partsF k).size) d.length)) = 0))) p54_25_5 ns54_25 hE wn_none ⟨B_g40, B_g45, trivial⟩ (fun W hS => (st_assign rfl)) ?_; clear hE a; intro a hE
     refine d_end (by kernel_rfl) ?_
     refine x_norm (wp_ret ?_)
     refine ret_list (rs := [.cell 4 45, .tmp 5]) (vs := [Value.agg (([Value.int .i64 (k : Int), Value.slice A_o n_o c_o] ++ b16 f ++ [Value.slice none 0 0])).toArray, Value.bool (decide ((rclF nc (erP k ((partsF k).size) d.length)) = 0))]) rfl hE (.cellN (us := ([Value.int .i64 (k : Int), Value.slice A_o n_o c_o] ++ b16 f ++ [Value.slice none 0 0])) tA45 tS45 rfl B_g1 rfl (.tmp rfl .nil)) rfl ?_
     subst hn_o
     rw [hpe] at hcu hN hf
     rw [(parts_facts k hk9).1] at hN
     have hep : erP k (partsF k).size d.length = if plainF k ≤ d.length then 0 else 4 := by unfold erP; rw [hpe]
     have ec : (decide ((rclF nc (erP k ((partsF k).size) d.length)) = 0)) = okD k d := by
      unfold okD
      rw [if_neg hK1, if_neg hK2, hep]
      refine decide_eq_decide.2 ?_
      by_cases h : plainF k ≤ d.length
      ·
       rw [if_pos h, rcl_zero]
       have := (hcu h).1
       by_cases h2 : nc = 0
       · rw [if_pos h2]; exact ⟨fun _ => by omega, fun _ => rfl⟩
       · rw [if_neg h2]; exact ⟨fun h3 => absurd h3 (by decide), fun h3 => by omega⟩
      · rw [if_neg h]; exact ⟨fun h3 => absurd h3 (by unfold rclF; rw [if_neg (by decide)]; decide), fun h3 => by omega⟩
     exact ⟨_, _, none, 0, ((k : Int), N, l16 f, []), by rw [ec]; rfl, (own_caps O_o).1, Nat.le_refl _, fun W' hk => own_told (own_keep O_o hk (fun k h h2 => by have := (own_ob O_o h).1; omega)), fun W' h => Kd.C_nil _ _, fun h => by
       have hle : plainF k ≤ d.length := by unfold okD at h; rw [if_neg hK1, if_neg hK2] at h; have := of_decide_eq_true h; omega
       unfold mkO; rw [if_neg hK1, if_neg hK2, hN hle, hf hle, adr_end hk9 d], K_0⟩
end Go.Proofs.Ytgpclehnomkbmaa.Db
