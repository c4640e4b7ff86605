/- HeaderBytes: the law's walk, in parts. -/
import Derived.Test.YtndiddfleidnaaaHdec2
import Derived.Test.YtndiddfleidnaaaHwith
import Derived.Test.YtndiddfleidnaaaRchk
set_option maxRecDepth 100000
set_option linter.unusedVariables false
set_option linter.unusedSimpArgs false
namespace Go.Proofs.Ytndiddfleidnaaa.Hbt
open Go.RowKit Go.Proofs.YtndiddfleidnaaaW.PrintWords Go.Proofs.Ytndiddfleidnaaa.Ds Go.Proofs.Ytndiddfleidnaaa.Cc Go.Proofs.Ytndiddfleidnaaa.Hd Go.Proofs.Ytndiddfleidnaaa.Hdec2 Go.Proofs.Ytndiddfleidnaaa.Hw Go.Proofs.Ytndiddfleidnaaa.Rc
open Go.Proofs.Ytndiddfleidnaaa.Pk (Kp fitsF spanF putF digF joinF join_bd same_any put_bd)
theorem wn_undef {R : Array Oper} {m : List (Nat × Value)} {j : Nat} {want : Bool} {t : Nat} (hj : dstOf R j = some t) (hl : Go.Proofs.Ytndiddfleidnaaa.Ds.look m t = some undef) : Wn R m (some (j, want)) false := fun n a hE o ho => by
  unfold Region.wanted
  rw [ho]
  simp only
  have h1 : yielded R a.tmps j = none := by
    unfold yielded
    unfold dstOf at hj
    rw [hj]
    simp [hE.get t _ hl, undef]
  rw [h1]
  rfl
section
variable {P : Program} {t e : TypeId} {d n s o : Nat} {k : IntKind} {l ks : List (Option IntKind)}
theorem flat_int (hu : P.underlying t = some (.int k)) : flat P (d + 1) t = some [some k] := by unfold flat; rw [hu]
theorem flat_bool (hu : P.underlying t = some .bool) : flat P (d + 1) t = some [none] := by unfold flat; rw [hu]
theorem flat_arr (hu : P.underlying t = some (.array n e)) (he : flat P d e = some l) (hi : (P.info? e).map (·.size) = some s) (hs : s = l.length) (hA : flat.isAggT P e = true ∨ l.length = 1) : flat P (d + 1) t = some (List.replicate n l).flatten := by
  obtain ⟨i, h9, h8⟩ := Option.map_eq_some_iff.1 hi; subst h8
  unfold flat; rw [hu]; show (match flat P d e, P.info? e with | some l, some i => if i.size = l.length ∧ (flat.isAggT P e = true ∨ l.length = 1) then some (List.replicate n l).flatten else none | _, _ => none) = _; rw [he, h9]; exact if_pos ⟨hs, hA⟩
theorem flat_struct {fs : Array Field} (hu : P.underlying t = some (.struct fs)) (hst : P.stoodInHeld t = false) (hf : flat.flatF P d fs.toList 0 = some ks) : flat P (d + 1) t = some ks := by
  unfold flat; rw [hu]; simp only [hst]; exact hf
theorem flatF_nil : flat.flatF P d [] o = some [] := by unfold flat.flatF; rfl
theorem flatF_cons {f : Field} {fs : List Field} (he : flat P d f.type = some l) (hi : (P.info? f.type).map (·.size) = some s) (hs : s = l.length) (hA : flat.isAggT P f.type = true ∨ l.length = 1) (hn : f.name ≠ "_") (ho : f.offset = o) (hr : flat.flatF P d fs (o + l.length) = some ks) : flat.flatF P d (f :: fs) o = some (l ++ ks) := by
  obtain ⟨i, h9, h8⟩ := Option.map_eq_some_iff.1 hi; subst h8
  unfold flat.flatF; rw [he, h9]; exact (if_pos ⟨hn, ho, hs, hA⟩).trans (by rw [hr]; rfl)
end
theorem eqA24_refl_8_22 : flat Try.prog 8 22 = some ([some .u8, some .u8, some .u8, some .u8, some .u8, some .u8, some .u8, some .u8, some .u8, some .u8, some .u8, some .u8, some .u8, some .u8, some .u8, some .u8]) := Eq.trans (flat_arr Try.underlying22 (flat_int Try.underlying5) (by kernel_rfl) rfl (Or.inr rfl)) rfl
theorem eqA24_refl_ks : flat Try.prog 9 24 = some ([some .i64, some .i64, some .i64, some .i64, some .i64, some .u8, some .u8, some .u8, some .u8, some .u8, some .u8, some .u8, some .u8, some .u8, some .u8, some .u8, some .u8, some .u8, some .u8, some .u8, some .u8, some .u8, some .u8, some .u8, some .u8, some .u8, some .u8, some .u8, some .u8, some .u8, some .u8, some .u8, some .u8, some .u8, some .u8, some .u8, some .u8]) := Eq.trans (flat_struct Try.underlying24 (by kernel_rfl) (flatF_cons (flat_int Try.underlying3) (by kernel_rfl) rfl (Or.inr rfl) (by decide) rfl (flatF_cons (flat_int Try.underlying3) (by kernel_rfl) rfl (Or.inr rfl) (by decide) rfl (flatF_cons (flat_int Try.underlying3) (by kernel_rfl) rfl (Or.inr rfl) (by decide) rfl (flatF_cons (flat_int Try.underlying3) (by kernel_rfl) rfl (Or.inr rfl) (by decide) rfl (flatF_cons (flat_int Try.underlying3) (by kernel_rfl) rfl (Or.inr rfl) (by decide) rfl (flatF_cons eqA24_refl_8_22 (by kernel_rfl) rfl (Or.inl (by kernel_rfl)) (by decide) rfl (flatF_cons eqA24_refl_8_22 (by kernel_rfl) rfl (Or.inl (by kernel_rfl)) (by decide) rfl flatF_nil)))))))) rfl
theorem eqA24_refl (c f l x h : Int) (s d : Nat → Int) : ∀ w, (Op.equalIn 10000 24 (.agg ([Value.int .i64 c, Value.int .i64 f, Value.int .i64 l, Value.int .i64 x, Value.int .i64 h] ++ b16 s ++ b16 d).toArray) (.agg ([Value.int .i64 c, Value.int .i64 f, Value.int .i64 l, Value.int .i64 x, Value.int .i64 h] ++ b16 s ++ b16 d).toArray)).run Try.prog w = .ok true w :=
  eqA_flat eqA24_refl_ks (by kernel_rfl) rfl rfl (eqL_refl _ _ (show fits ([some .i64, some .i64, some .i64, some .i64, some .i64, some .u8, some .u8, some .u8, some .u8, some .u8, some .u8, some .u8, some .u8, some .u8, some .u8, some .u8, some .u8, some .u8, some .u8, some .u8, some .u8, some .u8, some .u8, some .u8, some .u8, some .u8, some .u8, some .u8, some .u8, some .u8, some .u8, some .u8, some .u8, some .u8, some .u8, some .u8, some .u8]) _ = true from rfl))
theorem some_of {l : List Int} {A : Option Addr} {w : World} (h : Kd.C (Kd.int .u8) w A l.length l) (hl : 0 < l.length) : ∃ ad, A = some ad := ⟨_, (C_at h hl).1⟩
def tl (ls : List (List Int)) (i : Nat) : List Int := (ls.getD i []).take 700
def TS (ls : List (List Int)) (k : Nat) : List (List Int) := (List.range k).map (tl ls)
def TX (R : Nat → Option Addr × Nat) (ls : List (List Int)) (k : Nat) : List Value := (List.range k).map fun i => .slice (R i).1 (tl ls i).length (R i).2
theorem TS_succ (ls : List (List Int)) (k : Nat) : (TS ls (k + 1)).flatten = (TS ls k).flatten ++ tl ls k := by unfold TS; rw [List.range_succ]; simp
theorem TX_succ (R : Nat → Option Addr × Nat) (ls : List (List Int)) (k : Nat) : TX R ls (k + 1) = TX R ls k ++ [.slice (R k).1 (tl ls k).length (R k).2] := by unfold TX; rw [List.range_succ]; simp
theorem TS_len (ls : List (List Int)) (k : Nat) : (TS ls k).length = k := by simp [TS]
theorem TX_len (R : Nat → Option Addr × Nat) (ls : List (List Int)) (k : Nat) : (TX R ls k).length = k := by simp [TX]
theorem tl_le (ls : List (List Int)) (i : Nat) : (tl ls i).length ≤ 700 ∧ (tl ls i).length ≤ (ls.getD i []).length := by unfold tl; simp; omega
theorem TS_le (ls : List (List Int)) : ∀ k, (TS ls k).flatten.length ≤ 700 * k
  | 0 => by simp [TS]
  | k + 1 => by rw [TS_succ, List.length_append]; have := TS_le ls k; have := (tl_le ls k).1; omega
theorem tl_min (ls : List (List Int)) (i : Nat) : (if (700 : Int) < ((ls.getD i []).length : Int) then (700 : Int) else ((ls.getD i []).length : Int)) = ((tl ls i).length : Int) := by unfold tl; rw [List.length_take]; split <;> omega
/-- What is told of the rows that came in. -/
structure Rows2 (w : World) (A : Option Addr) (R : Nat → Option Addr × Nat) (ls : List (List Int)) : Prop where
  cell : ∀ i, i < ls.length → A = some (A.getD default) ∧ w.cell? (ea A i) = some (.slice (R i).1 (ls.getD i []).length (R i).2)
  fit : ∀ i, i < ls.length → (ls.getD i []).length ≤ (R i).2
  row : ∀ i, i < ls.length → Kd.C (Kd.int .u8) w (R i).1 (tl ls i).length (tl ls i)
theorem rows2 {w : World} {A : Option Addr} {ls : List (List Int)} (h : Kd.C (Kd.slice 5 (Kd.int .u8)) w A ls.length ls) : ∃ R, ∀ W', Kp w W' (fun _ => False) → Rows2 W' A R ls := by
  have h1 : ∀ i, ∃ p : Option Addr × Nat, i < ls.length → A = some (A.getD default) ∧ w.cell? (ea A i) = some (.slice p.1 (ls.getD i []).length p.2) ∧ (ls.getD i []).length ≤ p.2 ∧ Kd.C (Kd.int .u8) w p.1 (ls.getD i []).length (ls.getD i []) := fun i => by
    by_cases hi : i < ls.length
    · obtain ⟨e, A', c', a, b, d⟩ := C_row h hi
      exact ⟨(A', c'), fun _ => ⟨e, a, b, d⟩⟩
    · exact ⟨(none, 0), fun h => absurd h hi⟩
  obtain ⟨R, hR⟩ := Classical.axiomOfChoice h1
  refine ⟨R, fun W' hk => ⟨fun i hi => ?_, fun i hi => (hR i hi).2.2.1, fun i hi => ?_⟩⟩
  · obtain ⟨e, a, b, d⟩ := hR i hi
    refine ⟨e, ?_⟩
    have hb : Below w.heap.size w W' := hk.to (Nat.le_refl _) (fun _ h => h.elim)
    exact (hb.cell (Nat.lt_of_not_le (fun hge => by simp [World.cell?, Array.getElem?_eq_none hge] at a))).trans a
  · have hd := (hR i hi).2.2.2
    have := Kd.C_below hd (hk.to (Nat.le_refl _) (fun _ h => h.elim))
    unfold tl
    have hm : min 700 (ls.getD i []).length ≤ (ls.getD i []).length := Nat.min_le_right _ _
    have h5 := Go.Proofs.Ytndiddfleidnaaa.Pk.C_take this hm
    rw [show (ls.getD i []).take (min 700 (ls.getD i []).length) = (ls.getD i []).take 700 by rw [← List.take_take, List.take_length]] at h5
    rwa [show ((ls.getD i []).take 700).length = min 700 (ls.getD i []).length by simp]
theorem C_rowsO {w : World} {base e n c : Nat} {A : Option Addr} (rows : List (Option Addr × Nat × List Int)) (ho : w.ownsRow base e 1 (.slice A n c) n (rows.map fun r => .slice r.1 r.2.2.length r.2.1)) (h : ∀ r ∈ rows, r.2.2.length ≤ r.2.1 ∧ Kd.C (Kd.int .u8) w r.1 r.2.2.length r.2.2) : Kd.C (Kd.slice 5 (Kd.int .u8)) w A n (rows.map (·.2.2)) := by
  have hr := own_reads_of' (enc := fun r : Option Addr × Nat × List Int => Value.slice r.1 r.2.2.length r.2.1) (d := (none, 0, [])) (xs := rows) ho
  refine ⟨by simpa using hr.1, hr.2.1, fun h0 => ?_⟩
  obtain ⟨ad, rfl, hc⟩ := hr.2.2 h0
  refine ⟨ad, rfl, fun j p hj => ?_⟩
  rw [List.getElem?_map, Option.map_eq_some_iff] at hj
  obtain ⟨r, hr2, rfl⟩ := hj
  obtain ⟨h1, h2⟩ := h r (List.mem_of_getElem? hr2)
  refine ⟨[.slice r.1 r.2.2.length r.2.1], rfl, ⟨r.1, r.2.1, rfl, h1, h2⟩, fun i u hu => ?_⟩
  have hi : i = 0 := by
    rcases i with _ | i
    · rfl
    · simp at hu
  subst hi
  have hlt := (List.getElem?_eq_some_iff.1 hr2).1
  have := hc j (by have := hr.1; omega)
  rw [List.getD_eq_getElem?_getD, hr2] at this
  simp only [Kd.slice, Nat.mul_one, Nat.add_zero]
  rw [this]
  exact hu
theorem TX_C {w w2 : World} {A A2 : Option Addr} {R : Nat → Option Addr × Nat} {ls : List (List Int)} {k n c : Nat} (hk : k ≤ ls.length) (hr : Rows2 w A R ls) (hn : n = k) (ho : w.ownsRow w2.heap.size 36 1 (.slice A2 n c) n (TX R ls k)) : Kd.C (Kd.slice 5 (Kd.int .u8)) w A2 (TS ls k).length (TS ls k) := by
  subst hn
  have := C_rowsO (A := A2) (c := c) (n := n) (base := w2.heap.size) (e := 36) (w := w) ((List.range n).map fun i => ((R i).1, (R i).2, tl ls i)) (by rw [List.map_map]; exact ho) (by
    intro r hm
    obtain ⟨i, hi, rfl⟩ := List.mem_map.1 hm
    have hi' : i < ls.length := by have := List.mem_range.1 hi; omega
    exact ⟨Nat.le_trans (tl_le ls i).2 (hr.fit i hi'), hr.row i hi'⟩)
  rw [List.map_map] at this
  rw [TS_len]
  exact this
theorem news1 {w : World} {b : Nat} {v : Value} {T : TypeId} {fr : Nat × Nat} (h : w.heap[b]? = some (.cells #[v] T fr)) : ∀ j u, [v][j]? = some u → w.cell? ((⟨b, 0, none⟩ : Addr).add j) = some u := by
  intro j u hj
  have hj0 : j = 0 := by
    rcases j with _ | j
    · rfl
    · simp at hj
  subst hj0
  rw [add_mk, cell_of_row w b _ _ T fr h]
  exact hj
theorem bd_enc (c f l x h : Int) (s d : Nat → Int) (hs : ∀ i, i < 16 → 0 ≤ s i ∧ s i ≤ 255) (hd : ∀ i, i < 16 → 0 ≤ d i ∧ d i ≤ 255) : ∀ y ∈ encF c f l x h s d, 0 ≤ y ∧ y ≤ 255 := by
  have b16' : ∀ g : Nat → Int, (∀ i, i < 16 → 0 ≤ g i ∧ g i ≤ 255) → ∀ y ∈ l16 g, 0 ≤ y ∧ y ≤ 255 := by
    intro g hg y hy
    have e : l16 g = (List.range 16).map g := rfl
    rw [e] at hy
    obtain ⟨i, hi, rfl⟩ := List.mem_map.1 hy
    exact hg i (List.mem_range.1 hi)
  intro y hy
  unfold encF at hy
  simp only [List.mem_append] at hy
  rcases hy with (((hy | hy) | hy) | hy) | hy
  · exact put_bd _ _ y hy
  · exact put_bd _ _ y hy
  · exact put_bd _ _ y hy
  · exact b16' s hs y hy
  · exact b16' d hd y hy
/-- What With has made is decoded as it was. -/
theorem dec_back (c f x h : Int) (s d : Nat → Int) (al : List Int) (hok : okF c f 0 x h = true) (hl : ¬ 1240 < al.length) (hs : ∀ i, i < 16 → 0 ≤ s i ∧ s i ≤ 255) (hd : ∀ i, i < 16 → 0 ≤ d i ∧ d i ≤ 255) (hal : ∀ y ∈ al, 0 ≤ y ∧ y ≤ 255) (A : Option Addr) (cap : Nat) (w : World) (hC : Kd.C (Kd.int .u8) w A (encF c f (al.length : Int) x h s d ++ al).length (encF c f (al.length : Int) x h s d ++ al)) (hlc : (encF c f (al.length : Int) x h s d ++ al).length ≤ cap) (hcm : cap ≤ 9223372036854775807) :
    Calls Try.prog 25 #[.slice A (encF c f (al.length : Int) x h s d ++ al).length cap] w fun e w' => ∃ A' c', e = .returned (.tuple #[Value.agg (([Value.int .i64 c, Value.int .i64 f, Value.int .i64 (al.length : Int), Value.int .i64 x, Value.int .i64 h] ++ b16 s ++ b16 d)).toArray, .slice A' al.length c', .int .i64 0]) ∧ w'.ownsRow w.heap.size 5 1 (.slice A' al.length c') al.length (encs (Value.int .u8) al) ∧ Kp w w' (fun _ => False) := by
  obtain ⟨hc, hf, _, hx, hh⟩ := okF_of hok
  have hlen : (encF c f (al.length : Int) x h s d ++ al).length = 40 + al.length := by rw [List.length_append, encF_len]
  obtain ⟨ad, rfl⟩ := some_of hC (by omega)
  have el := renc_eq c f (al.length : Int) x h s d hc hf (by omega) hx hh
  have h4 : joinF (((encF c f (al.length : Int) x h s d ++ al).drop 0).take 4) = (1536 + c) * 1048576 + f := by
    rw [el]; simp [joinF]; omega
  have h2 : joinF (((encF c f (al.length : Int) x h s d ++ al).drop 4).take 2) = (al.length : Int) := by
    rw [el]; simp [joinF]; omega
  have ha : joinF (((encF c f (al.length : Int) x h s d ++ al).drop 6).take 1) = x := by rw [el]; simp [joinF]
  have hb : joinF (((encF c f (al.length : Int) x h s d ++ al).drop 7).take 1) = h := by rw [el]; simp [joinF]
  have h8 : ((encF c f (al.length : Int) x h s d ++ al).drop 8).take 16 = l16 s := by rw [el]; rfl
  have h24 : ((encF c f (al.length : Int) x h s d ++ al).drop 24).take 16 = l16 d := by rw [el]; rfl
  have h40 : (encF c f (al.length : Int) x h s d ++ al).drop 40 = al := by rw [el]; rfl
  have := dec_ok ad cap _ ((1536 + c) * 1048576 + f) x h (al.length : Int) s d h4 (by omega) h2 ha hb h8 h24 (by
    intro y hy
    rcases List.mem_append.1 hy with hy | hy
    · exact bd_enc c f _ x h s d hs hd y hy
    · exact hal y hy) hlc hcm (by omega) (by omega) w hC (by omega) (by omega) (by omega)
  rw [h40, show ((1536 + c) * 1048576 + f) / 1048576 % 256 = c by omega, show ((1536 + c) * 1048576 + f) % 1048576 = f by omega, show (encF c f (al.length : Int) x h s d ++ al).length - 40 = al.length by omega] at this
  exact this
theorem withN {R : Ending → World → Prop} {c f l x h : Int} {s d : Nat → Int} {A : Option Addr} {cap n : Nat} {ts : List (List Int)} {w : World} (hn : n = ts.length) (H : Calls Try.prog 24 #[Value.agg (([Value.int .i64 c, Value.int .i64 f, Value.int .i64 l, Value.int .i64 x, Value.int .i64 h] ++ b16 s ++ b16 d)).toArray, .slice A ts.length cap] w R) : Calls Try.prog 24 #[Value.agg (([Value.int .i64 c, Value.int .i64 f, Value.int .i64 l, Value.int .i64 x, Value.int .i64 h] ++ b16 s ++ b16 d)).toArray, .slice A n cap] w R := by subst hn; exact H
theorem R4_22_l : List.range (regOf Try.f4 22).size = [0, 1, 2, 3, 4, 5, 6, 7] := by kernel_rfl
theorem R4_23_l : List.range (regOf Try.f4 23).size = [0, 1, 2] := by kernel_rfl
theorem R4_24_l : List.range (regOf Try.f4 24).size = [0, 1] := by kernel_rfl
theorem R4_25_l : List.range (regOf Try.f4 25).size = [0, 1, 2, 3] := by kernel_rfl
theorem R4_26_l : List.range (regOf Try.f4 26).size = [0, 1, 2, 3, 4, 5, 6, 7, 8, 9, 10] := by kernel_rfl
theorem R4_27_l : List.range (regOf Try.f4 27).size = [0, 1, 2, 3] := by kernel_rfl
theorem R4_28_l : List.range (regOf Try.f4 28).size = [0, 1, 2, 3, 4, 5, 6, 7, 8, 9, 10] := by kernel_rfl
theorem R4_29_l : List.range (regOf Try.f4 29).size = [0, 1, 2, 3, 4, 5, 6, 7, 8, 9] := by kernel_rfl
theorem R4_30_l : List.range (regOf Try.f4 30).size = [0, 1, 2, 3] := by kernel_rfl
theorem R4_31_l : List.range (regOf Try.f4 31).size = [0, 1, 2, 3, 4, 5, 6, 7, 8, 9, 10, 11, 12, 13, 14, 15, 16, 17, 18, 19, 20] := by kernel_rfl
theorem p4_22_0 : pj (regOf Try.f4 22) 0 = some (some 126, Op.load 27 (Operand.tmp 5), 27, none) := by kernel_rfl
theorem tA27 : (Try.prog.underlying 27).map aggD = some true := by kernel_rfl
theorem tS27 : (Try.prog.info? 27).map (·.size) = some 37 := by kernel_rfl
theorem p4_22_1 : pj (regOf Try.f4 22) 1 = some (some 127, Op.move (Operand.tmp 12), 35, none) := by kernel_rfl
theorem p4_22_2 : pj (regOf Try.f4 22) 2 = some (some 128, Op.call { callee := Callee.value (Operand.func 24), args := #[Operand.tmp 126, Operand.tmp 127], argTypes := #[27, 35] }, 37, none) := by kernel_rfl
theorem cl24 : callable Try.f24 = true := by kernel_rfl
theorem p4_22_3 : pj (regOf Try.f4 22) 3 = some (some 125, Op.move (Operand.tmp 128), 37, none) := by kernel_rfl
theorem p4_22_4 : pj (regOf Try.f4 22) 4 = some (some 129, Op.extract (Operand.tmp 125) 0, 36, none) := by kernel_rfl
theorem p4_22_5 : pj (regOf Try.f4 22) 5 = some (some 130, Op.extract (Operand.tmp 125) 1, 29, none) := by kernel_rfl
theorem p4_22_6 : pj (regOf Try.f4 22) 6 = some (some 16, Op.assign (Operand.tmp 129), 36, none) := by kernel_rfl
theorem p4_22_7 : pj (regOf Try.f4 22) 7 = some (some 17, Op.assign (Operand.tmp 130), 29, none) := by kernel_rfl
theorem p4_23_0 : pj (regOf Try.f4 23) 0 = some (some 131, Op.load 24 (Operand.tmp 2), 24, none) := by kernel_rfl
theorem tA24 : (Try.prog.underlying 24).map aggD = some true := by kernel_rfl
theorem tS24 : (Try.prog.info? 24).map (·.size) = some 37 := by kernel_rfl
theorem p4_23_1 : pj (regOf Try.f4 23) 1 = some (some 18, Op.alloc 24, 0, none) := by kernel_rfl
theorem tZ24 : (Try.prog.info? 24).bind (·.zero) = some (Value.agg #[Value.int .i64 0, Value.int .i64 0, Value.int .i64 0, Value.int .i64 0, Value.int .i64 0, Value.int .u8 0, Value.int .u8 0, Value.int .u8 0, Value.int .u8 0, Value.int .u8 0, Value.int .u8 0, Value.int .u8 0, Value.int .u8 0, Value.int .u8 0, Value.int .u8 0, Value.int .u8 0, Value.int .u8 0, Value.int .u8 0, Value.int .u8 0, Value.int .u8 0, Value.int .u8 0, Value.int .u8 0, Value.int .u8 0, Value.int .u8 0, Value.int .u8 0, Value.int .u8 0, Value.int .u8 0, Value.int .u8 0, Value.int .u8 0, Value.int .u8 0, Value.int .u8 0, Value.int .u8 0, Value.int .u8 0, Value.int .u8 0, Value.int .u8 0, Value.int .u8 0, Value.int .u8 0]) := by kernel_rfl
theorem p4_23_2 : pj (regOf Try.f4 23) 2 = some (none, Op.store 24 (Operand.tmp 18) (Operand.tmp 131), 0, none) := by kernel_rfl
theorem p4_24_0 : pj (regOf Try.f4 24) 0 = some (some 132, Op.fieldAddr 24 (Operand.tmp 18) 2, 0, none) := by kernel_rfl
theorem tS3 : (Try.prog.info? 3).map (·.size) = some 1 := by kernel_rfl
theorem p4_24_1 : pj (regOf Try.f4 24) 1 = some (none, Op.store 3 (Operand.tmp 132) (Operand.const (Value.int IntKind.i64 0)), 0, none) := by kernel_rfl
theorem p4_25_0 : pj (regOf Try.f4 25) 0 = some (some 134, Op.load 24 (Operand.tmp 18), 24, none) := by kernel_rfl
theorem p4_25_1 : pj (regOf Try.f4 25) 1 = some (some 135, Op.call { callee := Callee.value (Operand.func 20), args := #[Operand.tmp 134], argTypes := #[24] }, 3, none) := by kernel_rfl
theorem cl20 : callable Try.f20 = true := by kernel_rfl
theorem p4_25_2 : pj (regOf Try.f4 25) 2 = some (some 136, Op.binOp BinOp.neq 3 (Operand.tmp 135) (Operand.const (Value.int IntKind.i64 0)) 3, 4, none) := by kernel_rfl
theorem p4_25_3 : pj (regOf Try.f4 25) 3 = some (some 133, Op.assign (Operand.tmp 136), 4, none) := by kernel_rfl
theorem p4_27_0 : pj (regOf Try.f4 27) 0 = some (some 148, Op.move (Operand.tmp 13), 36, none) := by kernel_rfl
theorem p4_27_1 : pj (regOf Try.f4 27) 1 = some (some 149, Op.call { callee := Callee.builtin Builtin.len, args := #[Operand.tmp 148], argTypes := #[36] }, 3, none) := by kernel_rfl
theorem p4_27_2 : pj (regOf Try.f4 27) 2 = some (some 150, Op.binOp BinOp.gtr 3 (Operand.tmp 149) (Operand.const (Value.int IntKind.i64 1240)) 3, 4, none) := by kernel_rfl
theorem p4_27_3 : pj (regOf Try.f4 27) 3 = some (some 147, Op.assign (Operand.tmp 150), 4, none) := by kernel_rfl
theorem p4_28_0 : pj (regOf Try.f4 28) 0 = some (some 151, Op.call { callee := Callee.value (Operand.func 17), args := #[], argTypes := #[] }, 4, none) := by kernel_rfl
theorem cl17 : callable Try.f17 = true := by kernel_rfl
theorem p4_28_1 : pj (regOf Try.f4 28) 1 = some (some 152, Op.move (Operand.tmp 151), 4, none) := by kernel_rfl
theorem p4_28_2 : pj (regOf Try.f4 28) 2 = some (some 153, Op.move (Operand.tmp 17), 29, some (1, true)) := by kernel_rfl
theorem g4_28_1 : dstOf (regOf Try.f4 28) 1 = some 152 := by kernel_rfl
theorem p4_28_3 : pj (regOf Try.f4 28) 3 = some (some 154, Op.binOp BinOp.eql 29 (Operand.tmp 153) (Operand.const (Value.int IntKind.i64 2)) 29, 4, some (1, true)) := by kernel_rfl
theorem p4_28_4 : pj (regOf Try.f4 28) 4 = some (some 155, Op.pick (Operand.tmp 152) (Operand.tmp 154) (Operand.const (Value.bool false)), 4, none) := by kernel_rfl
theorem p4_28_5 : pj (regOf Try.f4 28) 5 = some (some 156, Op.move (Operand.tmp 155), 4, none) := by kernel_rfl
theorem p4_28_6 : pj (regOf Try.f4 28) 6 = some (some 157, Op.move (Operand.tmp 16), 36, some (5, true)) := by kernel_rfl
theorem g4_28_5 : dstOf (regOf Try.f4 28) 5 = some 156 := by kernel_rfl
theorem p4_28_7 : pj (regOf Try.f4 28) 7 = some (some 158, Op.call { callee := Callee.builtin Builtin.len, args := #[Operand.tmp 157], argTypes := #[36] }, 3, some (5, true)) := by kernel_rfl
theorem p4_28_8 : pj (regOf Try.f4 28) 8 = some (some 159, Op.binOp BinOp.eql 3 (Operand.tmp 158) (Operand.const (Value.int IntKind.i64 0)) 3, 4, some (5, true)) := by kernel_rfl
theorem p4_28_9 : pj (regOf Try.f4 28) 9 = some (some 160, Op.pick (Operand.tmp 156) (Operand.tmp 159) (Operand.const (Value.bool false)), 4, none) := by kernel_rfl
theorem p4_28_10 : pj (regOf Try.f4 28) 10 = some (some 4, Op.assign (Operand.tmp 160), 4, none) := by kernel_rfl
theorem p4_29_0 : pj (regOf Try.f4 29) 0 = some (some 162, Op.move (Operand.tmp 16), 36, none) := by kernel_rfl
theorem p4_29_1 : pj (regOf Try.f4 29) 1 = some (some 163, Op.call { callee := Callee.value (Operand.func 25), args := #[Operand.tmp 162], argTypes := #[36] }, 44, none) := by kernel_rfl
theorem cl25 : callable Try.f25 = true := by kernel_rfl
theorem p4_29_2 : pj (regOf Try.f4 29) 2 = some (some 161, Op.move (Operand.tmp 163), 44, none) := by kernel_rfl
theorem p4_29_3 : pj (regOf Try.f4 29) 3 = some (some 164, Op.extract (Operand.tmp 161) 0, 27, none) := by kernel_rfl
theorem p4_29_4 : pj (regOf Try.f4 29) 4 = some (some 165, Op.extract (Operand.tmp 161) 1, 36, none) := by kernel_rfl
theorem p4_29_5 : pj (regOf Try.f4 29) 5 = some (some 166, Op.extract (Operand.tmp 161) 2, 29, none) := by kernel_rfl
theorem p4_29_6 : pj (regOf Try.f4 29) 6 = some (some 19, Op.alloc 27, 0, none) := by kernel_rfl
theorem tZ27 : (Try.prog.info? 27).bind (·.zero) = some (Value.agg #[Value.int .i64 0, Value.int .i64 0, Value.int .i64 0, Value.int .i64 0, Value.int .i64 0, Value.int .u8 0, Value.int .u8 0, Value.int .u8 0, Value.int .u8 0, Value.int .u8 0, Value.int .u8 0, Value.int .u8 0, Value.int .u8 0, Value.int .u8 0, Value.int .u8 0, Value.int .u8 0, Value.int .u8 0, Value.int .u8 0, Value.int .u8 0, Value.int .u8 0, Value.int .u8 0, Value.int .u8 0, Value.int .u8 0, Value.int .u8 0, Value.int .u8 0, Value.int .u8 0, Value.int .u8 0, Value.int .u8 0, Value.int .u8 0, Value.int .u8 0, Value.int .u8 0, Value.int .u8 0, Value.int .u8 0, Value.int .u8 0, Value.int .u8 0, Value.int .u8 0, Value.int .u8 0]) := by kernel_rfl
theorem p4_29_7 : pj (regOf Try.f4 29) 7 = some (none, Op.store 27 (Operand.tmp 19) (Operand.tmp 164), 0, none) := by kernel_rfl
theorem p4_29_8 : pj (regOf Try.f4 29) 8 = some (some 20, Op.assign (Operand.tmp 165), 36, none) := by kernel_rfl
theorem p4_29_9 : pj (regOf Try.f4 29) 9 = some (some 21, Op.assign (Operand.tmp 166), 29, none) := by kernel_rfl
theorem p4_30_0 : pj (regOf Try.f4 30) 0 = some (some 167, Op.move (Operand.tmp 13), 36, none) := by kernel_rfl
theorem p4_30_1 : pj (regOf Try.f4 30) 1 = some (some 168, Op.call { callee := Callee.builtin Builtin.len, args := #[Operand.tmp 167], argTypes := #[36] }, 3, none) := by kernel_rfl
theorem p4_30_2 : pj (regOf Try.f4 30) 2 = some (some 169, Op.fieldAddr 24 (Operand.tmp 18) 2, 0, none) := by kernel_rfl
theorem p4_30_3 : pj (regOf Try.f4 30) 3 = some (none, Op.store 3 (Operand.tmp 169) (Operand.tmp 168), 0, none) := by kernel_rfl
theorem ns4_31 : Region.noSelect (regOf Try.f4 31) = true := by kernel_rfl
theorem p4_31_0 : pj (regOf Try.f4 31) 0 = some (some 170, Op.call { callee := Callee.value (Operand.func 17), args := #[], argTypes := #[] }, 4, none) := by kernel_rfl
theorem p4_31_1 : pj (regOf Try.f4 31) 1 = some (some 171, Op.move (Operand.tmp 170), 4, none) := by kernel_rfl
theorem g4_31_1 : dstOf (regOf Try.f4 31) 1 = some 171 := by kernel_rfl
theorem p4_31_2 : pj (regOf Try.f4 31) 2 = some (some 172, Op.move (Operand.tmp 17), 29, some (1, true)) := by kernel_rfl
theorem p4_31_3 : pj (regOf Try.f4 31) 3 = some (some 173, Op.binOp BinOp.eql 29 (Operand.tmp 172) (Operand.const (Value.int IntKind.i64 0)) 29, 4, some (1, true)) := by kernel_rfl
theorem p4_31_4 : pj (regOf Try.f4 31) 4 = some (some 174, Op.pick (Operand.tmp 171) (Operand.tmp 173) (Operand.const (Value.bool false)), 4, none) := by kernel_rfl
theorem p4_31_5 : pj (regOf Try.f4 31) 5 = some (some 175, Op.move (Operand.tmp 174), 4, none) := by kernel_rfl
theorem g4_31_5 : dstOf (regOf Try.f4 31) 5 = some 175 := by kernel_rfl
theorem p4_31_6 : pj (regOf Try.f4 31) 6 = some (some 176, Op.move (Operand.tmp 21), 29, some (5, true)) := by kernel_rfl
theorem p4_31_7 : pj (regOf Try.f4 31) 7 = some (some 177, Op.binOp BinOp.eql 29 (Operand.tmp 176) (Operand.const (Value.int IntKind.i64 0)) 29, 4, some (5, true)) := by kernel_rfl
theorem p4_31_8 : pj (regOf Try.f4 31) 8 = some (some 178, Op.pick (Operand.tmp 175) (Operand.tmp 177) (Operand.const (Value.bool false)), 4, none) := by kernel_rfl
theorem p4_31_9 : pj (regOf Try.f4 31) 9 = some (some 179, Op.move (Operand.tmp 178), 4, none) := by kernel_rfl
theorem g4_31_9 : dstOf (regOf Try.f4 31) 9 = some 179 := by kernel_rfl
theorem p4_31_10 : pj (regOf Try.f4 31) 10 = some (some 180, Op.load 27 (Operand.tmp 19), 27, some (9, true)) := by kernel_rfl
theorem p4_31_12 : pj (regOf Try.f4 31) 12 = some (some 182, Op.load 24 (Operand.tmp 18), 24, some (9, true)) := by kernel_rfl
theorem p4_31_11 : pj (regOf Try.f4 31) 11 = some (some 181, Op.call { callee := Callee.value (Operand.func 23), args := #[Operand.tmp 180], argTypes := #[27] }, 24, some (9, true)) := by kernel_rfl
theorem cl23 : callable Try.f23 = true := by kernel_rfl
theorem p4_31_13 : pj (regOf Try.f4 31) 13 = some (some 183, Op.binOp BinOp.eql 24 (Operand.tmp 181) (Operand.tmp 182) 24, 4, some (9, true)) := by kernel_rfl
theorem eg24 : Try.prog.eqGuardType Try.prog.depth 24 = false := by kernel_rfl
theorem p4_31_14 : pj (regOf Try.f4 31) 14 = some (some 184, Op.pick (Operand.tmp 179) (Operand.tmp 183) (Operand.const (Value.bool false)), 4, none) := by kernel_rfl
theorem p4_31_15 : pj (regOf Try.f4 31) 15 = some (some 185, Op.move (Operand.tmp 184), 4, none) := by kernel_rfl
theorem g4_31_15 : dstOf (regOf Try.f4 31) 15 = some 185 := by kernel_rfl
theorem p4_31_16 : pj (regOf Try.f4 31) 16 = some (some 186, Op.move (Operand.tmp 20), 36, some (15, true)) := by kernel_rfl
theorem p4_31_17 : pj (regOf Try.f4 31) 17 = some (some 187, Op.move (Operand.tmp 13), 36, some (15, true)) := by kernel_rfl
theorem p4_31_18 : pj (regOf Try.f4 31) 18 = some (some 188, Op.call { callee := Callee.value (Operand.func 21), args := #[Operand.tmp 186, Operand.tmp 187], argTypes := #[36, 36] }, 4, some (15, true)) := by kernel_rfl
theorem cl21 : callable Try.f21 = true := by kernel_rfl
theorem p4_31_19 : pj (regOf Try.f4 31) 19 = some (some 189, Op.pick (Operand.tmp 185) (Operand.tmp 188) (Operand.const (Value.bool false)), 4, none) := by kernel_rfl
theorem p4_31_20 : pj (regOf Try.f4 31) 20 = some (some 4, Op.assign (Operand.tmp 189), 4, none) := by kernel_rfl
theorem p4_26_0 : pj (regOf Try.f4 26) 0 = some (some 137, Op.call { callee := Callee.value (Operand.func 17), args := #[], argTypes := #[] }, 4, none) := by kernel_rfl
theorem p4_26_1 : pj (regOf Try.f4 26) 1 = some (some 138, Op.move (Operand.tmp 137), 4, none) := by kernel_rfl
theorem p4_26_2 : pj (regOf Try.f4 26) 2 = some (some 139, Op.move (Operand.tmp 17), 29, some (1, true)) := by kernel_rfl
theorem g4_26_1 : dstOf (regOf Try.f4 26) 1 = some 138 := by kernel_rfl
theorem p4_26_3 : pj (regOf Try.f4 26) 3 = some (some 140, Op.binOp BinOp.eql 29 (Operand.tmp 139) (Operand.const (Value.int IntKind.i64 1)) 29, 4, some (1, true)) := by kernel_rfl
theorem p4_26_4 : pj (regOf Try.f4 26) 4 = some (some 141, Op.pick (Operand.tmp 138) (Operand.tmp 140) (Operand.const (Value.bool false)), 4, none) := by kernel_rfl
theorem p4_26_5 : pj (regOf Try.f4 26) 5 = some (some 142, Op.move (Operand.tmp 141), 4, none) := by kernel_rfl
theorem p4_26_6 : pj (regOf Try.f4 26) 6 = some (some 143, Op.move (Operand.tmp 16), 36, some (5, true)) := by kernel_rfl
theorem g4_26_5 : dstOf (regOf Try.f4 26) 5 = some 142 := by kernel_rfl
theorem p4_26_7 : pj (regOf Try.f4 26) 7 = some (some 144, Op.call { callee := Callee.builtin Builtin.len, args := #[Operand.tmp 143], argTypes := #[36] }, 3, some (5, true)) := by kernel_rfl
theorem p4_26_8 : pj (regOf Try.f4 26) 8 = some (some 145, Op.binOp BinOp.eql 3 (Operand.tmp 144) (Operand.const (Value.int IntKind.i64 0)) 3, 4, some (5, true)) := by kernel_rfl
theorem p4_26_9 : pj (regOf Try.f4 26) 9 = some (some 146, Op.pick (Operand.tmp 142) (Operand.tmp 145) (Operand.const (Value.bool false)), 4, none) := by kernel_rfl
theorem p4_26_10 : pj (regOf Try.f4 26) 10 = some (some 4, Op.assign (Operand.tmp 146), 4, none) := by kernel_rfl
set_option maxHeartbeats 4000000 in
theorem tail2 {R : Ending → World → Prop} (c f l x h : Int) (s d : Nat → Int) (ts : List (List Int)) (A_tx A_al : Option Addr) (c_tx c_al n_tx : Nat) (w W : World) (gH gX : Nat) (B_gH : W.heap[gH]? = some (.cells (([Value.int .i64 c, Value.int .i64 f, Value.int .i64 l, Value.int .i64 x, Value.int .i64 h] ++ b16 s ++ b16 d)).toArray 24 (0, 0))) (B_gX : W.heap[gX]? = some (.cells (([Value.int .i64 c, Value.int .i64 f, Value.int .i64 l, Value.int .i64 x, Value.int .i64 h] ++ b16 s ++ b16 d)).toArray 27 (0, 0))) (n_gH_gX : gH ≠ gX) (z_0_gH : w.heap.size ≤ gH) (z_0_gX : w.heap.size ≤ gX) (K_0 : Kp w W (fun _ => False)) (hs : ∀ i, i < 16 → 0 ≤ s i ∧ s i ≤ 255) (hd : ∀ i, i < 16 → 0 ≤ d i ∧ d i ≤ 255) (hby : ∀ y ∈ ts.flatten, 0 ≤ y ∧ y ≤ 255) (hn_tx : n_tx = ts.length) (hts : ts.length ≤ 3) (htf : ts.flatten.length ≤ 2100) (hc_tx : ts.length ≤ c_tx) (hc_al : ts.flatten.length ≤ c_al) (F_tx : ∀ W', Kp W W' (fun _ => False) → Kd.C (Kd.slice 5 (Kd.int .u8)) W' A_tx ts.length ts) (F_al : ∀ W', Kp W W' (fun _ => False) → Kd.C (Kd.int .u8) W' A_al ts.flatten.length ts.flatten) (hR_ : ∀ w', Kp w w' (fun _ => False) → R (.returned (.bool true)) w') (a : Act) (hE : En 190 a [(2, Value.pointer (some ⟨gH, 0, none⟩)), (5, Value.pointer (some ⟨gX, 0, none⟩)), (12, Value.slice A_tx n_tx c_tx), (13, Value.slice A_al ts.flatten.length c_al)]) : Code.wp Try.prog (.seq (.region 22 (regOf Try.f4 22) false) (.seq (.region 23 (regOf Try.f4 23) false) (.seq (.region 24 (regOf Try.f4 24) false) (.seq (.block 2 (.seq (.region 25 (regOf Try.f4 25) false) (.cond (Operand.tmp 133) (.seq (.region 26 (regOf Try.f4 26) false) (.ret)) (.seq (.region 27 (regOf Try.f4 27) false) (.cond (Operand.tmp 147) (.seq (.region 28 (regOf Try.f4 28) false) (.ret)) (.skip)))))) (.seq (.region 29 (regOf Try.f4 29) false) (.seq (.region 30 (regOf Try.f4 30) false) (.seq (.region 31 (regOf Try.f4 31) true) (.ret)))))))) (bodyPost Try.prog Try.f4 R) a W := by
  have K_1 := Kp.refl W (fun _ => False)
  rcases Decidable.em (okF c f 0 x h = true) with hE0 | hE0
  ·
    rcases Decidable.em (1240 < ts.flatten.length) with hLG | hLG
    ·
      refine c_reg R4_22_l ?_
      refine p_cons (s_still p4_22_0 hE wn_none rfl (st_loadN (off := 0) (k := 37) (vs := ([Value.int .i64 c, Value.int .i64 f, Value.int .i64 l, Value.int .i64 x, Value.int .i64 h] ++ b16 s ++ b16 d)) tA27 tS27 rfl B_gX rfl rfl) ?_)
      clear hE a; intro a hE
      refine p_cons (s_still p4_22_1 hE wn_none rfl (st_move rfl) ?_)
      clear hE a; intro a hE
      refine p_cons (s_call (xs := [Operand.tmp 126, Operand.tmp 127]) (args := [Value.agg (([Value.int .i64 c, Value.int .i64 f, Value.int .i64 l, Value.int .i64 x, Value.int .i64 h] ++ b16 s ++ b16 d)).toArray, Value.slice A_tx n_tx c_tx]) p4_22_2 hE wn_none rfl rfl Try.func24 cl24 (withN hn_tx (with_long c f l x h s d A_tx c_tx ts hE0 hLG _ (F_tx _ K_1) hc_tx (by omega) (by omega))) ?_)
      rintro e w1 ⟨rfl, hk⟩
      replace B_gH := kp_blk B_gH hk (fun h => h)
      replace B_gX := kp_blk B_gX hk (fun h => h)
      replace K_0 := K_0.then_ hk (fun _ h => h.elim)
      replace K_1 := K_1.then_ hk (fun _ h => h.elim)
      refine ⟨_, rfl, ?_⟩
      clear hE a; intro a hE
      refine p_cons (s_still p4_22_3 hE wn_none rfl (st_move rfl) ?_)
      clear hE a; intro a hE
      refine p_cons (s_still p4_22_4 hE wn_none rfl (st_extract rfl rfl) ?_)
      clear hE a; intro a hE
      refine p_cons (s_still p4_22_5 hE wn_none rfl (st_extract rfl rfl) ?_)
      clear hE a; intro a hE
      refine p_cons (s_still p4_22_6 hE wn_none rfl (st_assign rfl) ?_)
      clear hE a; intro a hE
      refine p_cons (s_still p4_22_7 hE wn_none rfl (st_assign rfl) ?_)
      clear hE a; intro a hE
      refine p_nil ?_
      refine x_norm ?_
      refine c_reg R4_23_l ?_
      refine p_cons (s_still p4_23_0 hE wn_none rfl (st_loadN (off := 0) (k := 37) (vs := ([Value.int .i64 c, Value.int .i64 f, Value.int .i64 l, Value.int .i64 x, Value.int .i64 h] ++ b16 s ++ b16 d)) tA24 tS24 rfl B_gH rfl rfl) ?_)
      clear hE a; intro a hE
      refine p_cons (s_alloc p4_23_1 hE wn_none rfl tZ24 ?_)
      clear hE a; intro g2 w3 z4 B_g2 hk a hE
      replace B_g2 : w3.heap[g2]? = some (.cells #[Value.int .i64 0, Value.int .i64 0, Value.int .i64 0, Value.int .i64 0, Value.int .i64 0, Value.int .u8 0, Value.int .u8 0, Value.int .u8 0, Value.int .u8 0, Value.int .u8 0, Value.int .u8 0, Value.int .u8 0, Value.int .u8 0, Value.int .u8 0, Value.int .u8 0, Value.int .u8 0, Value.int .u8 0, Value.int .u8 0, Value.int .u8 0, Value.int .u8 0, Value.int .u8 0, Value.int .u8 0, Value.int .u8 0, Value.int .u8 0, Value.int .u8 0, Value.int .u8 0, Value.int .u8 0, Value.int .u8 0, Value.int .u8 0, Value.int .u8 0, Value.int .u8 0, Value.int .u8 0, Value.int .u8 0, Value.int .u8 0, Value.int .u8 0, Value.int .u8 0, Value.int .u8 0] 24 (0, 0)) := B_g2
      have n_gH_g2 : gH ≠ g2 := ne_new B_gH z4
      have n_gX_g2 : gX ≠ g2 := ne_new B_gX z4
      have z_0_g2 := Nat.le_trans K_0.kept.1 z4
      have z_1_g2 := Nat.le_trans K_1.kept.1 z4
      replace B_gH := kp_blk B_gH hk (fun h => h)
      replace B_gX := kp_blk B_gX hk (fun h => h)
      replace K_0 := K_0.then_ hk (fun _ h => h.elim)
      replace K_1 := K_1.then_ hk (fun _ h => h.elim)
      clear hk
      refine p_cons (s_store (off := 0) (k := 37) (cs' := (([Value.int .i64 c, Value.int .i64 f, Value.int .i64 l, Value.int .i64 x, Value.int .i64 h] ++ b16 s ++ b16 d)).toArray) p4_23_2 hE wn_none tS24 rfl rfl rfl rfl B_g2 (Nat.le_of_ble_eq_true rfl) rfl ?_)
      intro w5 B_g2' hk
      replace B_gH := kp_blk B_gH hk n_gH_g2
      replace B_gX := kp_blk B_gX hk n_gX_g2
      replace K_0 := K_0.then_ hk (fun k h => by rw [show k = g2 from h]; exact Or.inr z_0_g2)
      replace K_1 := K_1.then_ hk (fun k h => by rw [show k = g2 from h]; exact Or.inr z_1_g2)
      replace B_g2 := B_g2'
      clear hk
      refine p_nil ?_
      refine x_norm ?_
      refine c_reg R4_24_l ?_
      refine p_cons (s_still p4_24_0 hE wn_none rfl (st_fieldAddr Try.underlying24 rfl tS3 rfl rfl) ?_)
      clear hE a; intro a hE
      refine p_cons (s_store (off := 2) (k := 1) (cs' := (([Value.int .i64 c, Value.int .i64 f, Value.int .i64 0, Value.int .i64 x, Value.int .i64 h] ++ b16 s ++ b16 d)).toArray) p4_24_1 hE wn_none tS3 rfl rfl rfl rfl B_g2 (Nat.le_of_ble_eq_true rfl) rfl ?_)
      intro w6 B_g2' hk
      replace B_gH := kp_blk B_gH hk n_gH_g2
      replace B_gX := kp_blk B_gX hk n_gX_g2
      replace K_0 := K_0.then_ hk (fun k h => by rw [show k = g2 from h]; exact Or.inr z_0_g2)
      replace K_1 := K_1.then_ hk (fun k h => by rw [show k = g2 from h]; exact Or.inr z_1_g2)
      replace B_g2 := B_g2'
      clear hk
      refine p_nil ?_
      refine x_norm ?_
      refine wp_seq ?_
      refine wp_block ?_
      refine c_reg R4_25_l ?_
      refine p_cons (s_still p4_25_0 hE wn_none rfl (st_loadN (off := 0) (k := 37) (vs := ([Value.int .i64 c, Value.int .i64 f, Value.int .i64 0, Value.int .i64 x, Value.int .i64 h] ++ b16 s ++ b16 d)) tA24 tS24 rfl B_g2 rfl rfl) ?_)
      clear hE a; intro a hE
      refine p_cons (s_call (xs := [Operand.tmp 134]) (args := [Value.agg (([Value.int .i64 c, Value.int .i64 f, Value.int .i64 0, Value.int .i64 x, Value.int .i64 h] ++ b16 s ++ b16 d)).toArray]) p4_25_1 hE wn_none rfl rfl Try.func20 cl20 (rchk_any c f 0 x h s d 0 (by rw [hE0]; rfl) _) ?_)
      rintro e w7 ⟨rfl, hk⟩
      replace B_gH := kp_blk B_gH hk (fun h => h)
      replace B_gX := kp_blk B_gX hk (fun h => h)
      replace B_g2 := kp_blk B_g2 hk (fun h => h)
      replace K_0 := K_0.then_ hk (fun _ h => h.elim)
      replace K_1 := K_1.then_ hk (fun _ h => h.elim)
      refine ⟨_, rfl, ?_⟩
      clear hE a; intro a hE
      refine p_cons (s_still p4_25_2 hE wn_none rfl (st_neq (b := false) rfl rfl (by decide)) ?_)
      clear hE a; intro a hE
      refine p_cons (s_still p4_25_3 hE wn_none rfl (st_assign rfl) ?_)
      clear hE a; intro a hE
      refine p_nil ?_
      refine x_norm ?_
      refine c_cond (t := false) hE rfl ?_
      refine c_reg R4_27_l ?_
      refine p_cons (s_still p4_27_0 hE wn_none rfl (st_move rfl) ?_)
      clear hE a; intro a hE
      refine p_cons (s_still p4_27_1 hE wn_none rfl (st_len Try.underlying36 rfl) ?_)
      clear hE a; intro a hE
      refine p_cons (s_still p4_27_2 hE wn_none rfl (st_gtr (b := true) rfl rfl (decide_eq_true (by omega))) ?_)
      clear hE a; intro a hE
      refine p_cons (s_still p4_27_3 hE wn_none rfl (st_assign rfl) ?_)
      clear hE a; intro a hE
      refine p_nil ?_
      refine x_norm ?_
      refine c_cond (t := true) hE rfl ?_
      refine c_reg R4_28_l ?_
      refine p_cons (s_call (xs := []) (args := []) p4_28_0 hE wn_none rfl rfl Try.func17 cl17 (known_any _) ?_)
      rintro e w8 ⟨rfl, hk⟩
      replace B_gH := kp_blk B_gH hk (fun h => h)
      replace B_gX := kp_blk B_gX hk (fun h => h)
      replace B_g2 := kp_blk B_g2 hk (fun h => h)
      replace K_0 := K_0.then_ hk (fun _ h => h.elim)
      replace K_1 := K_1.then_ hk (fun _ h => h.elim)
      refine ⟨_, rfl, ?_⟩
      clear hE a; intro a hE
      refine p_cons (s_still p4_28_1 hE wn_none rfl (st_move rfl) ?_)
      clear hE a; intro a hE
      refine p_cons (s_still p4_28_2 hE (wn_some g4_28_1 rfl rfl) rfl (st_move rfl) ?_)
      clear hE a; intro a hE
      refine p_cons (s_still p4_28_3 hE (wn_some g4_28_1 rfl rfl) rfl (st_eql (b := true) rfl rfl (by decide)) ?_)
      clear hE a; intro a hE
      refine p_cons (s_still p4_28_4 hE wn_none rfl (st_pick rfl rfl) ?_)
      clear hE a; intro a hE
      refine p_cons (s_still p4_28_5 hE wn_none rfl (st_move rfl) ?_)
      clear hE a; intro a hE
      refine p_cons (s_still p4_28_6 hE (wn_some g4_28_5 rfl rfl) rfl (st_move rfl) ?_)
      clear hE a; intro a hE
      refine p_cons (s_still p4_28_7 hE (wn_some g4_28_5 rfl rfl) rfl (st_len Try.underlying36 rfl) ?_)
      clear hE a; intro a hE
      refine p_cons (s_still p4_28_8 hE (wn_some g4_28_5 rfl rfl) rfl (st_eql (b := true) rfl rfl (by decide)) ?_)
      clear hE a; intro a hE
      refine p_cons (s_still p4_28_9 hE wn_none rfl (st_pick rfl rfl) ?_)
      clear hE a; intro a hE
      refine p_cons (s_still p4_28_10 hE wn_none rfl (st_assign rfl) ?_)
      clear hE a; intro a hE
      refine p_nil ?_
      refine x_norm ?_
      refine wp_ret ?_
      refine x_retB ?_
      refine x_ret ?_
      refine ret_one (v := Value.bool true) rfl hE (.tmp rfl .nil) ?_
      exact hR_ _ K_0
    ·
      have hLG' := hLG
      refine c_reg R4_22_l ?_
      refine p_cons (s_still p4_22_0 hE wn_none rfl (st_loadN (off := 0) (k := 37) (vs := ([Value.int .i64 c, Value.int .i64 f, Value.int .i64 l, Value.int .i64 x, Value.int .i64 h] ++ b16 s ++ b16 d)) tA27 tS27 rfl B_gX rfl rfl) ?_)
      clear hE a; intro a hE
      refine p_cons (s_still p4_22_1 hE wn_none rfl (st_move rfl) ?_)
      clear hE a; intro a hE
      have hnb_gH := blk_lt B_gH
      have hnb_gX := blk_lt B_gX
      have hnz_0 := K_0.kept.1
      have hnz_1 := K_1.kept.1
      refine p_cons (s_call (xs := [Operand.tmp 126, Operand.tmp 127]) (args := [Value.agg (([Value.int .i64 c, Value.int .i64 f, Value.int .i64 l, Value.int .i64 x, Value.int .i64 h] ++ b16 s ++ b16 d)).toArray, Value.slice A_tx n_tx c_tx]) p4_22_2 hE wn_none rfl rfl Try.func24 cl24 (withN hn_tx (with_ok c f l x h s d A_tx c_tx ts hE0 hLG' _ (F_tx _ K_1) hc_tx (by omega) (by omega))) ?_)
      rintro e w12 ⟨A10, c11, rfl, O_q9, hk⟩
      replace B_gH := kp_blk B_gH hk (fun h => h)
      replace B_gX := kp_blk B_gX hk (fun h => h)
      replace K_0 := K_0.then_ hk (fun _ h => h.elim)
      replace K_1 := K_1.then_ hk (fun _ h => h.elim)
      have Nb_q9_gH : ¬ OB A10 gH := fun h => by have := (own_ob O_q9 h).1; have := hnb_gH; omega
      have Nb_q9_gX : ¬ OB A10 gX := fun h => by have := (own_ob O_q9 h).1; have := hnb_gX; omega
      have Z_0_q9 : ∀ k, OB A10 k → (fun _ => False) k ∨ w.heap.size ≤ k := fun k h => .inr (by have := (own_ob O_q9 h).1; have := hnz_0; omega)
      have Z_1_q9 : ∀ k, OB A10 k → (fun _ => False) k ∨ W.heap.size ≤ k := fun k h => .inr (by have := (own_ob O_q9 h).1; have := hnz_1; omega)
      replace O_q9 := own_lower O_q9 hnz_0
      refine ⟨_, rfl, ?_⟩
      clear hE a; intro a hE
      refine p_cons (s_still p4_22_3 hE wn_none rfl (st_move rfl) ?_)
      clear hE a; intro a hE
      refine p_cons (s_still p4_22_4 hE wn_none rfl (st_extract rfl rfl) ?_)
      clear hE a; intro a hE
      refine p_cons (s_still p4_22_5 hE wn_none rfl (st_extract rfl rfl) ?_)
      clear hE a; intro a hE
      refine p_cons (s_still p4_22_6 hE wn_none rfl (st_assign rfl) ?_)
      clear hE a; intro a hE
      refine p_cons (s_still p4_22_7 hE wn_none rfl (st_assign rfl) ?_)
      clear hE a; intro a hE
      refine p_nil ?_
      refine x_norm ?_
      refine c_reg R4_23_l ?_
      refine p_cons (s_still p4_23_0 hE wn_none rfl (st_loadN (off := 0) (k := 37) (vs := ([Value.int .i64 c, Value.int .i64 f, Value.int .i64 l, Value.int .i64 x, Value.int .i64 h] ++ b16 s ++ b16 d)) tA24 tS24 rfl B_gH rfl rfl) ?_)
      clear hE a; intro a hE
      refine p_cons (s_alloc p4_23_1 hE wn_none rfl tZ24 ?_)
      clear hE a; intro g13 w14 z15 B_g13 hk a hE
      replace B_g13 : w14.heap[g13]? = some (.cells #[Value.int .i64 0, Value.int .i64 0, Value.int .i64 0, Value.int .i64 0, Value.int .i64 0, Value.int .u8 0, Value.int .u8 0, Value.int .u8 0, Value.int .u8 0, Value.int .u8 0, Value.int .u8 0, Value.int .u8 0, Value.int .u8 0, Value.int .u8 0, Value.int .u8 0, Value.int .u8 0, Value.int .u8 0, Value.int .u8 0, Value.int .u8 0, Value.int .u8 0, Value.int .u8 0, Value.int .u8 0, Value.int .u8 0, Value.int .u8 0, Value.int .u8 0, Value.int .u8 0, Value.int .u8 0, Value.int .u8 0, Value.int .u8 0, Value.int .u8 0, Value.int .u8 0, Value.int .u8 0, Value.int .u8 0, Value.int .u8 0, Value.int .u8 0, Value.int .u8 0, Value.int .u8 0] 24 (0, 0)) := B_g13
      have n_gH_g13 : gH ≠ g13 := ne_new B_gH z15
      have n_gX_g13 : gX ≠ g13 := ne_new B_gX z15
      have z_0_g13 := Nat.le_trans K_0.kept.1 z15
      have z_1_g13 := Nat.le_trans K_1.kept.1 z15
      have Nb_q9_g13 : ¬ OB A10 g13 := fun h => by have := (own_ob O_q9 h).2; omega
      replace B_gH := kp_blk B_gH hk (fun h => h)
      replace B_gX := kp_blk B_gX hk (fun h => h)
      replace O_q9 := own_keep O_q9 hk (fun _ _ h => h)
      replace K_0 := K_0.then_ hk (fun _ h => h.elim)
      replace K_1 := K_1.then_ hk (fun _ h => h.elim)
      clear hk
      refine p_cons (s_store (off := 0) (k := 37) (cs' := (([Value.int .i64 c, Value.int .i64 f, Value.int .i64 l, Value.int .i64 x, Value.int .i64 h] ++ b16 s ++ b16 d)).toArray) p4_23_2 hE wn_none tS24 rfl rfl rfl rfl B_g13 (Nat.le_of_ble_eq_true rfl) rfl ?_)
      intro w16 B_g13' hk
      replace B_gH := kp_blk B_gH hk n_gH_g13
      replace B_gX := kp_blk B_gX hk n_gX_g13
      replace O_q9 := own_keep O_q9 hk (fun k hk2 h2 => Nb_q9_g13 (by rw [show k = g13 from h2] at hk2; exact hk2))
      replace K_0 := K_0.then_ hk (fun k h => by rw [show k = g13 from h]; exact Or.inr z_0_g13)
      replace K_1 := K_1.then_ hk (fun k h => by rw [show k = g13 from h]; exact Or.inr z_1_g13)
      replace B_g13 := B_g13'
      clear hk
      refine p_nil ?_
      refine x_norm ?_
      refine c_reg R4_24_l ?_
      refine p_cons (s_still p4_24_0 hE wn_none rfl (st_fieldAddr Try.underlying24 rfl tS3 rfl rfl) ?_)
      clear hE a; intro a hE
      refine p_cons (s_store (off := 2) (k := 1) (cs' := (([Value.int .i64 c, Value.int .i64 f, Value.int .i64 0, Value.int .i64 x, Value.int .i64 h] ++ b16 s ++ b16 d)).toArray) p4_24_1 hE wn_none tS3 rfl rfl rfl rfl B_g13 (Nat.le_of_ble_eq_true rfl) rfl ?_)
      intro w17 B_g13' hk
      replace B_gH := kp_blk B_gH hk n_gH_g13
      replace B_gX := kp_blk B_gX hk n_gX_g13
      replace O_q9 := own_keep O_q9 hk (fun k hk2 h2 => Nb_q9_g13 (by rw [show k = g13 from h2] at hk2; exact hk2))
      replace K_0 := K_0.then_ hk (fun k h => by rw [show k = g13 from h]; exact Or.inr z_0_g13)
      replace K_1 := K_1.then_ hk (fun k h => by rw [show k = g13 from h]; exact Or.inr z_1_g13)
      replace B_g13 := B_g13'
      clear hk
      refine p_nil ?_
      refine x_norm ?_
      refine wp_seq ?_
      refine wp_block ?_
      refine c_reg R4_25_l ?_
      refine p_cons (s_still p4_25_0 hE wn_none rfl (st_loadN (off := 0) (k := 37) (vs := ([Value.int .i64 c, Value.int .i64 f, Value.int .i64 0, Value.int .i64 x, Value.int .i64 h] ++ b16 s ++ b16 d)) tA24 tS24 rfl B_g13 rfl rfl) ?_)
      clear hE a; intro a hE
      refine p_cons (s_call (xs := [Operand.tmp 134]) (args := [Value.agg (([Value.int .i64 c, Value.int .i64 f, Value.int .i64 0, Value.int .i64 x, Value.int .i64 h] ++ b16 s ++ b16 d)).toArray]) p4_25_1 hE wn_none rfl rfl Try.func20 cl20 (rchk_any c f 0 x h s d 0 (by rw [hE0]; rfl) _) ?_)
      rintro e w18 ⟨rfl, hk⟩
      replace B_gH := kp_blk B_gH hk (fun h => h)
      replace B_gX := kp_blk B_gX hk (fun h => h)
      replace B_g13 := kp_blk B_g13 hk (fun h => h)
      replace O_q9 := own_keep O_q9 hk (fun _ _ h => h)
      replace K_0 := K_0.then_ hk (fun _ h => h.elim)
      replace K_1 := K_1.then_ hk (fun _ h => h.elim)
      refine ⟨_, rfl, ?_⟩
      clear hE a; intro a hE
      refine p_cons (s_still p4_25_2 hE wn_none rfl (st_neq (b := false) rfl rfl (by decide)) ?_)
      clear hE a; intro a hE
      refine p_cons (s_still p4_25_3 hE wn_none rfl (st_assign rfl) ?_)
      clear hE a; intro a hE
      refine p_nil ?_
      refine x_norm ?_
      refine c_cond (t := false) hE rfl ?_
      refine c_reg R4_27_l ?_
      refine p_cons (s_still p4_27_0 hE wn_none rfl (st_move rfl) ?_)
      clear hE a; intro a hE
      refine p_cons (s_still p4_27_1 hE wn_none rfl (st_len Try.underlying36 rfl) ?_)
      clear hE a; intro a hE
      refine p_cons (s_still p4_27_2 hE wn_none rfl (st_gtr (b := false) rfl rfl (decide_eq_false (by omega))) ?_)
      clear hE a; intro a hE
      refine p_cons (s_still p4_27_3 hE wn_none rfl (st_assign rfl) ?_)
      clear hE a; intro a hE
      refine p_nil ?_
      refine x_norm ?_
      refine c_cond (t := false) hE rfl ?_
      refine wp_skip ?_
      refine x_normB ?_
      refine x_norm ?_
      refine c_reg R4_29_l ?_
      refine p_cons (s_still p4_29_0 hE wn_none rfl (st_move rfl) ?_)
      clear hE a; intro a hE
      have hnb_gH := blk_lt B_gH
      have hnb_gX := blk_lt B_gX
      have hnb_g13 := blk_lt B_g13
      have hnz_0 := K_0.kept.1
      have hnz_1 := K_1.kept.1
      have hno_q9 := fun k (h : OB A10 k) => (own_ob O_q9 h).2
      refine p_cons (s_call (xs := [Operand.tmp 162]) (args := [Value.slice A10 ((encF c f (ts.flatten.length : Int) x h s d ++ ts.flatten).length) c11]) p4_29_1 hE wn_none rfl rfl Try.func25 cl25 (dec_back c f x h s d ts.flatten hE0 hLG' hs hd hby A10 c11 _ (own_told O_q9) (own_caps O_q9).1 (own_caps O_q9).2) ?_)
      rintro e w22 ⟨A20, c21, rfl, O_q19, hk⟩
      replace B_gH := kp_blk B_gH hk (fun h => h)
      replace B_gX := kp_blk B_gX hk (fun h => h)
      replace B_g13 := kp_blk B_g13 hk (fun h => h)
      replace O_q9 := own_keep O_q9 hk (fun _ _ h => h)
      replace K_0 := K_0.then_ hk (fun _ h => h.elim)
      replace K_1 := K_1.then_ hk (fun _ h => h.elim)
      have Nb_q19_gH : ¬ OB A20 gH := fun h => by have := (own_ob O_q19 h).1; have := hnb_gH; omega
      have Nb_q19_gX : ¬ OB A20 gX := fun h => by have := (own_ob O_q19 h).1; have := hnb_gX; omega
      have Nb_q19_g13 : ¬ OB A20 g13 := fun h => by have := (own_ob O_q19 h).1; have := hnb_g13; omega
      have Z_0_q19 : ∀ k, OB A20 k → (fun _ => False) k ∨ w.heap.size ≤ k := fun k h => .inr (by have := (own_ob O_q19 h).1; have := hnz_0; omega)
      have Z_1_q19 : ∀ k, OB A20 k → (fun _ => False) k ∨ W.heap.size ≤ k := fun k h => .inr (by have := (own_ob O_q19 h).1; have := hnz_1; omega)
      have NN_q19_q9 : ∀ k, OB A20 k → ¬ OB A10 k := fun k h h2 => by have := (own_ob O_q19 h).1; have := hno_q9 k h2; omega
      have NN_q9_q19 : ∀ k, OB A10 k → ¬ OB A20 k := fun k h h2 => NN_q19_q9 k h2 h
      replace O_q19 := own_lower O_q19 hnz_0
      refine ⟨_, rfl, ?_⟩
      clear hE a; intro a hE
      refine p_cons (s_still p4_29_2 hE wn_none rfl (st_move rfl) ?_)
      clear hE a; intro a hE
      refine p_cons (s_still p4_29_3 hE wn_none rfl (st_extract rfl rfl) ?_)
      clear hE a; intro a hE
      refine p_cons (s_still p4_29_4 hE wn_none rfl (st_extract rfl rfl) ?_)
      clear hE a; intro a hE
      refine p_cons (s_still p4_29_5 hE wn_none rfl (st_extract rfl rfl) ?_)
      clear hE a; intro a hE
      refine p_cons (s_alloc p4_29_6 hE wn_none rfl tZ27 ?_)
      clear hE a; intro g23 w24 z25 B_g23 hk a hE
      replace B_g23 : w24.heap[g23]? = some (.cells #[Value.int .i64 0, Value.int .i64 0, Value.int .i64 0, Value.int .i64 0, Value.int .i64 0, Value.int .u8 0, Value.int .u8 0, Value.int .u8 0, Value.int .u8 0, Value.int .u8 0, Value.int .u8 0, Value.int .u8 0, Value.int .u8 0, Value.int .u8 0, Value.int .u8 0, Value.int .u8 0, Value.int .u8 0, Value.int .u8 0, Value.int .u8 0, Value.int .u8 0, Value.int .u8 0, Value.int .u8 0, Value.int .u8 0, Value.int .u8 0, Value.int .u8 0, Value.int .u8 0, Value.int .u8 0, Value.int .u8 0, Value.int .u8 0, Value.int .u8 0, Value.int .u8 0, Value.int .u8 0, Value.int .u8 0, Value.int .u8 0, Value.int .u8 0, Value.int .u8 0, Value.int .u8 0] 27 (0, 0)) := B_g23
      have n_gH_g23 : gH ≠ g23 := ne_new B_gH z25
      have n_gX_g23 : gX ≠ g23 := ne_new B_gX z25
      have n_g13_g23 : g13 ≠ g23 := ne_new B_g13 z25
      have z_0_g23 := Nat.le_trans K_0.kept.1 z25
      have z_1_g23 := Nat.le_trans K_1.kept.1 z25
      have Nb_q9_g23 : ¬ OB A10 g23 := fun h => by have := (own_ob O_q9 h).2; omega
      have Nb_q19_g23 : ¬ OB A20 g23 := fun h => by have := (own_ob O_q19 h).2; omega
      replace B_gH := kp_blk B_gH hk (fun h => h)
      replace B_gX := kp_blk B_gX hk (fun h => h)
      replace B_g13 := kp_blk B_g13 hk (fun h => h)
      replace O_q9 := own_keep O_q9 hk (fun _ _ h => h)
      replace O_q19 := own_keep O_q19 hk (fun _ _ h => h)
      replace K_0 := K_0.then_ hk (fun _ h => h.elim)
      replace K_1 := K_1.then_ hk (fun _ h => h.elim)
      clear hk
      refine p_cons (s_store (off := 0) (k := 37) (cs' := (([Value.int .i64 c, Value.int .i64 f, Value.int .i64 (ts.flatten.length : Int), Value.int .i64 x, Value.int .i64 h] ++ b16 s ++ b16 d)).toArray) p4_29_7 hE wn_none tS27 rfl rfl rfl rfl B_g23 (Nat.le_of_ble_eq_true rfl) rfl ?_)
      intro w26 B_g23' hk
      replace B_gH := kp_blk B_gH hk n_gH_g23
      replace B_gX := kp_blk B_gX hk n_gX_g23
      replace B_g13 := kp_blk B_g13 hk n_g13_g23
      replace O_q9 := own_keep O_q9 hk (fun k hk2 h2 => Nb_q9_g23 (by rw [show k = g23 from h2] at hk2; exact hk2))
      replace O_q19 := own_keep O_q19 hk (fun k hk2 h2 => Nb_q19_g23 (by rw [show k = g23 from h2] at hk2; exact hk2))
      replace K_0 := K_0.then_ hk (fun k h => by rw [show k = g23 from h]; exact Or.inr z_0_g23)
      replace K_1 := K_1.then_ hk (fun k h => by rw [show k = g23 from h]; exact Or.inr z_1_g23)
      replace B_g23 := B_g23'
      clear hk
      refine p_cons (s_still p4_29_8 hE wn_none rfl (st_assign rfl) ?_)
      clear hE a; intro a hE
      refine p_cons (s_still p4_29_9 hE wn_none rfl (st_assign rfl) ?_)
      clear hE a; intro a hE
      refine p_nil ?_
      refine x_norm ?_
      refine c_reg R4_30_l ?_
      refine p_cons (s_still p4_30_0 hE wn_none rfl (st_move rfl) ?_)
      clear hE a; intro a hE
      refine p_cons (s_still p4_30_1 hE wn_none rfl (st_len Try.underlying36 rfl) ?_)
      clear hE a; intro a hE
      refine p_cons (s_still p4_30_2 hE wn_none rfl (st_fieldAddr Try.underlying24 rfl tS3 rfl rfl) ?_)
      clear hE a; intro a hE
      refine p_cons (s_store (off := 2) (k := 1) (cs' := (([Value.int .i64 c, Value.int .i64 f, Value.int .i64 (ts.flatten.length : Int), Value.int .i64 x, Value.int .i64 h] ++ b16 s ++ b16 d)).toArray) p4_30_3 hE wn_none tS3 rfl rfl rfl rfl B_g13 (Nat.le_of_ble_eq_true rfl) rfl ?_)
      intro w27 B_g13' hk
      replace B_gH := kp_blk B_gH hk n_gH_g13
      replace B_gX := kp_blk B_gX hk n_gX_g13
      replace B_g23 := kp_blk B_g23 hk (Ne.symm n_g13_g23)
      replace O_q9 := own_keep O_q9 hk (fun k hk2 h2 => Nb_q9_g13 (by rw [show k = g13 from h2] at hk2; exact hk2))
      replace O_q19 := own_keep O_q19 hk (fun k hk2 h2 => Nb_q19_g13 (by rw [show k = g13 from h2] at hk2; exact hk2))
      replace K_0 := K_0.then_ hk (fun k h => by rw [show k = g13 from h]; exact Or.inr z_0_g13)
      replace K_1 := K_1.then_ hk (fun k h => by rw [show k = g13 from h]; exact Or.inr z_1_g13)
      replace B_g13 := B_g13'
      clear hk
      refine p_nil ?_
      refine x_norm ?_
      refine c_drawS (S := fun W => W.heap[gH]? = some (.cells (([Value.int .i64 c, Value.int .i64 f, Value.int .i64 l, Value.int .i64 x, Value.int .i64 h] ++ b16 s ++ b16 d)).toArray 24 (0, 0)) ∧ W.heap[gX]? = some (.cells (([Value.int .i64 c, Value.int .i64 f, Value.int .i64 l, Value.int .i64 x, Value.int .i64 h] ++ b16 s ++ b16 d)).toArray 27 (0, 0)) ∧ W.heap[g13]? = some (.cells (([Value.int .i64 c, Value.int .i64 f, Value.int .i64 (ts.flatten.length : Int), Value.int .i64 x, Value.int .i64 h] ++ b16 s ++ b16 d)).toArray 24 (0, 0)) ∧ W.heap[g23]? = some (.cells (([Value.int .i64 c, Value.int .i64 f, Value.int .i64 (ts.flatten.length : Int), Value.int .i64 x, Value.int .i64 h] ++ b16 s ++ b16 d)).toArray 27 (0, 0)) ∧ True) rfl rfl (listed := #[false, false, false, false, false, false, false, false, false, false, false, false, false, false, false, false, false, false, false, false, false]) rfl ?_
      intro w28 hh hk
      replace B_gH := kp_blk B_gH hk (fun h => h)
      replace B_gX := kp_blk B_gX hk (fun h => h)
      replace B_g13 := kp_blk B_g13 hk (fun h => h)
      replace B_g23 := kp_blk B_g23 hk (fun h => h)
      replace O_q9 := own_keep O_q9 hk (fun _ _ h => h)
      replace O_q19 := own_keep O_q19 hk (fun _ _ h => h)
      replace K_0 := K_0.then_ hk (fun _ h => h.elim)
      replace K_1 := K_1.then_ hk (fun _ h => h.elim)
      clear hh hk
      refine d_one (by kernel_rfl) rfl (s_call (xs := []) (args := []) p4_31_0 hE wn_none rfl rfl Try.func17 cl17 (known_any _) ?_)
      rintro e w29 ⟨rfl, hk⟩
      replace B_gH := kp_blk B_gH hk (fun h => h)
      replace B_gX := kp_blk B_gX hk (fun h => h)
      replace B_g13 := kp_blk B_g13 hk (fun h => h)
      replace B_g23 := kp_blk B_g23 hk (fun h => h)
      replace O_q9 := own_keep O_q9 hk (fun _ _ h => h)
      replace O_q19 := own_keep O_q19 hk (fun _ _ h => h)
      replace K_0 := K_0.then_ hk (fun _ h => h.elim)
      replace K_1 := K_1.then_ hk (fun _ h => h.elim)
      refine ⟨_, rfl, ?_⟩
      clear hE a; intro a hE
      refine ⟨⟨B_gH, B_gX, B_g13, B_g23, trivial⟩, ?_⟩
      refine d_take (v := Value.bool true) p4_31_1 ns4_31 (by kernel_rfl) (by kernel_rfl) (fun _ _ _ h => h) hE wn_none rfl ⟨B_gH, B_gX, B_g13, B_g23, trivial⟩ (fun W hS => (st_move rfl)) rfl ?_
      clear hE a; intro a hE
      refine d_take (v := Value.int .i64 0) p4_31_2 ns4_31 (by kernel_rfl) (by kernel_rfl) (fun _ _ _ h => h) hE (wn_some g4_31_1 rfl rfl) rfl ⟨B_gH, B_gX, B_g13, B_g23, trivial⟩ (fun W hS => (st_move rfl)) rfl ?_
      clear hE a; intro a hE
      refine d_take (v := Value.bool true) p4_31_3 ns4_31 (by kernel_rfl) (by kernel_rfl) (fun _ _ _ h => h) hE (wn_some g4_31_1 rfl rfl) rfl ⟨B_gH, B_gX, B_g13, B_g23, trivial⟩ (fun W hS => (st_eql (b := true) rfl rfl (by decide))) rfl ?_
      clear hE a; intro a hE
      refine d_take (v := Value.bool true) p4_31_4 ns4_31 (by kernel_rfl) (by kernel_rfl) (fun _ _ _ h => h) hE wn_none rfl ⟨B_gH, B_gX, B_g13, B_g23, trivial⟩ (fun W hS => (st_pick rfl rfl)) rfl ?_
      clear hE a; intro a hE
      refine d_take (v := Value.bool true) p4_31_5 ns4_31 (by kernel_rfl) (by kernel_rfl) (fun _ _ _ h => h) hE wn_none rfl ⟨B_gH, B_gX, B_g13, B_g23, trivial⟩ (fun W hS => (st_move rfl)) rfl ?_
      clear hE a; intro a hE
      refine d_take (v := Value.int .i64 0) p4_31_6 ns4_31 (by kernel_rfl) (by kernel_rfl) (fun _ _ _ h => h) hE (wn_some g4_31_5 rfl rfl) rfl ⟨B_gH, B_gX, B_g13, B_g23, trivial⟩ (fun W hS => (st_move rfl)) rfl ?_
      clear hE a; intro a hE
      refine d_take (v := Value.bool true) p4_31_7 ns4_31 (by kernel_rfl) (by kernel_rfl) (fun _ _ _ h => h) hE (wn_some g4_31_5 rfl rfl) rfl ⟨B_gH, B_gX, B_g13, B_g23, trivial⟩ (fun W hS => (st_eql (b := true) rfl rfl (by decide))) rfl ?_
      clear hE a; intro a hE
      refine d_take (v := Value.bool true) p4_31_8 ns4_31 (by kernel_rfl) (by kernel_rfl) (fun _ _ _ h => h) hE wn_none rfl ⟨B_gH, B_gX, B_g13, B_g23, trivial⟩ (fun W hS => (st_pick rfl rfl)) rfl ?_
      clear hE a; intro a hE
      refine d_take (v := Value.bool true) p4_31_9 ns4_31 (by kernel_rfl) (by kernel_rfl) (fun _ _ _ h => h) hE wn_none rfl ⟨B_gH, B_gX, B_g13, B_g23, trivial⟩ (fun W hS => (st_move rfl)) rfl ?_
      clear hE a; intro a hE
      refine d_take (v := Value.agg (([Value.int .i64 c, Value.int .i64 f, Value.int .i64 (ts.flatten.length : Int), Value.int .i64 x, Value.int .i64 h] ++ b16 s ++ b16 d)).toArray) p4_31_10 ns4_31 (by kernel_rfl) (by kernel_rfl) (fun _ _ _ h => h) hE (wn_some g4_31_9 rfl rfl) rfl ⟨B_gH, B_gX, B_g13, B_g23, trivial⟩ (fun W hS => (st_loadN (off := 0) (k := 37) (vs := ([Value.int .i64 c, Value.int .i64 f, Value.int .i64 (ts.flatten.length : Int), Value.int .i64 x, Value.int .i64 h] ++ b16 s ++ b16 d)) tA27 tS27 rfl hS.2.2.2.1 rfl rfl)) rfl ?_
      clear hE a; intro a hE
      refine d_take (v := Value.agg (([Value.int .i64 c, Value.int .i64 f, Value.int .i64 (ts.flatten.length : Int), Value.int .i64 x, Value.int .i64 h] ++ b16 s ++ b16 d)).toArray) p4_31_12 ns4_31 (by kernel_rfl) (by kernel_rfl) (fun _ _ _ h => h) hE (wn_some g4_31_9 rfl rfl) rfl ⟨B_gH, B_gX, B_g13, B_g23, trivial⟩ (fun W hS => (st_loadN (off := 0) (k := 37) (vs := ([Value.int .i64 c, Value.int .i64 f, Value.int .i64 (ts.flatten.length : Int), Value.int .i64 x, Value.int .i64 h] ++ b16 s ++ b16 d)) tA24 tS24 rfl hS.2.2.1 rfl rfl)) rfl ?_
      clear hE a; intro a hE
      refine d_one (by kernel_rfl) rfl (s_call (xs := [Operand.tmp 180]) (args := [Value.agg (([Value.int .i64 c, Value.int .i64 f, Value.int .i64 (ts.flatten.length : Int), Value.int .i64 x, Value.int .i64 h] ++ b16 s ++ b16 d)).toArray]) p4_31_11 hE (wn_some g4_31_9 rfl rfl) rfl rfl Try.func23 cl23 (of_any c f (ts.flatten.length : Int) x h s d _) ?_)
      rintro e w30 ⟨rfl, hk⟩
      replace B_gH := kp_blk B_gH hk (fun h => h)
      replace B_gX := kp_blk B_gX hk (fun h => h)
      replace B_g13 := kp_blk B_g13 hk (fun h => h)
      replace B_g23 := kp_blk B_g23 hk (fun h => h)
      replace O_q9 := own_keep O_q9 hk (fun _ _ h => h)
      replace O_q19 := own_keep O_q19 hk (fun _ _ h => h)
      replace K_0 := K_0.then_ hk (fun _ h => h.elim)
      replace K_1 := K_1.then_ hk (fun _ h => h.elim)
      refine ⟨_, rfl, ?_⟩
      clear hE a; intro a hE
      refine ⟨⟨B_gH, B_gX, B_g13, B_g23, trivial⟩, ?_⟩
      refine d_take (v := Value.bool true) p4_31_13 ns4_31 (by kernel_rfl) (by kernel_rfl) (fun _ _ _ h => h) hE (wn_some g4_31_9 rfl rfl) rfl ⟨B_gH, B_gX, B_g13, B_g23, trivial⟩ (fun W hS => (st_eqlA (b := true) eg24 rfl rfl (eqA24_refl _ _ _ _ _ _ _))) rfl ?_
      clear hE a; intro a hE
      refine d_take (v := Value.bool true) p4_31_14 ns4_31 (by kernel_rfl) (by kernel_rfl) (fun _ _ _ h => h) hE wn_none rfl ⟨B_gH, B_gX, B_g13, B_g23, trivial⟩ (fun W hS => (st_pick rfl rfl)) rfl ?_
      clear hE a; intro a hE
      refine d_take (v := Value.bool true) p4_31_15 ns4_31 (by kernel_rfl) (by kernel_rfl) (fun _ _ _ h => h) hE wn_none rfl ⟨B_gH, B_gX, B_g13, B_g23, trivial⟩ (fun W hS => (st_move rfl)) rfl ?_
      clear hE a; intro a hE
      refine d_take (v := Value.slice A20 ts.flatten.length c21) p4_31_16 ns4_31 (by kernel_rfl) (by kernel_rfl) (fun _ _ _ h => h) hE (wn_some g4_31_15 rfl rfl) rfl ⟨B_gH, B_gX, B_g13, B_g23, trivial⟩ (fun W hS => (st_move rfl)) rfl ?_
      clear hE a; intro a hE
      refine d_take (v := Value.slice A_al ts.flatten.length c_al) p4_31_17 ns4_31 (by kernel_rfl) (by kernel_rfl) (fun _ _ _ h => h) hE (wn_some g4_31_15 rfl rfl) rfl ⟨B_gH, B_gX, B_g13, B_g23, trivial⟩ (fun W hS => (st_move rfl)) rfl ?_
      clear hE a; intro a hE
      refine d_one (by kernel_rfl) rfl (s_call (xs := [Operand.tmp 186, Operand.tmp 187]) (args := [Value.slice A20 ts.flatten.length c21, Value.slice A_al ts.flatten.length c_al]) p4_31_18 hE (wn_some g4_31_15 rfl rfl) rfl rfl Try.func21 cl21 (same_any A20 A_al c21 c_al ts.flatten ts.flatten true (by simp) _ (own_told O_q19) (own_caps O_q19).1 (F_al _ K_1) hc_al (by omega)) ?_)
      rintro e w31 ⟨rfl, hn⟩
      have hk := kp_n hn (fun _ => False)
      replace B_gH := kp_blk B_gH hk (fun h => h)
      replace B_gX := kp_blk B_gX hk (fun h => h)
      replace B_g13 := kp_blk B_g13 hk (fun h => h)
      replace B_g23 := kp_blk B_g23 hk (fun h => h)
      replace O_q9 := own_keep O_q9 hk (fun _ _ h => h)
      replace O_q19 := own_keep O_q19 hk (fun _ _ h => h)
      replace K_0 := K_0.then_ hk (fun _ h => h.elim)
      replace K_1 := K_1.then_ hk (fun _ h => h.elim)
      refine ⟨_, rfl, ?_⟩
      clear hE a; intro a hE
      refine ⟨⟨B_gH, B_gX, B_g13, B_g23, trivial⟩, ?_⟩
      refine d_take (v := Value.bool true) p4_31_19 ns4_31 (by kernel_rfl) (by kernel_rfl) (fun _ _ _ h => h) hE wn_none rfl ⟨B_gH, B_gX, B_g13, B_g23, trivial⟩ (fun W hS => (st_pick rfl rfl)) rfl ?_
      clear hE a; intro a hE
      refine d_take (v := Value.bool true) p4_31_20 ns4_31 (by kernel_rfl) (by kernel_rfl) (fun _ _ _ h => h) hE wn_none rfl ⟨B_gH, B_gX, B_g13, B_g23, trivial⟩ (fun W hS => (st_assign rfl)) rfl ?_
      clear hE a; intro a hE
      refine d_end (by kernel_rfl) ?_
      refine x_norm ?_
      refine wp_ret ?_
      refine ret_one (v := Value.bool true) rfl hE (.tmp rfl .nil) ?_
      exact hR_ _ K_0
  ·
    have hE0' : okF c f 0 x h = false := by simpa using hE0
    refine c_reg R4_22_l ?_
    refine p_cons (s_still p4_22_0 hE wn_none rfl (st_loadN (off := 0) (k := 37) (vs := ([Value.int .i64 c, Value.int .i64 f, Value.int .i64 l, Value.int .i64 x, Value.int .i64 h] ++ b16 s ++ b16 d)) tA27 tS27 rfl B_gX rfl rfl) ?_)
    clear hE a; intro a hE
    refine p_cons (s_still p4_22_1 hE wn_none rfl (st_move rfl) ?_)
    clear hE a; intro a hE
    refine p_cons (s_call (xs := [Operand.tmp 126, Operand.tmp 127]) (args := [Value.agg (([Value.int .i64 c, Value.int .i64 f, Value.int .i64 l, Value.int .i64 x, Value.int .i64 h] ++ b16 s ++ b16 d)).toArray, Value.slice A_tx n_tx c_tx]) p4_22_2 hE wn_none rfl rfl Try.func24 cl24 (withN hn_tx (with_bad c f l x h s d A_tx c_tx ts hE0' _ (F_tx _ K_1) hc_tx (by omega) (by omega))) ?_)
    rintro e w32 ⟨rfl, hk⟩
    replace B_gH := kp_blk B_gH hk (fun h => h)
    replace B_gX := kp_blk B_gX hk (fun h => h)
    replace K_0 := K_0.then_ hk (fun _ h => h.elim)
    replace K_1 := K_1.then_ hk (fun _ h => h.elim)
    refine ⟨_, rfl, ?_⟩
    clear hE a; intro a hE
    refine p_cons (s_still p4_22_3 hE wn_none rfl (st_move rfl) ?_)
    clear hE a; intro a hE
    refine p_cons (s_still p4_22_4 hE wn_none rfl (st_extract rfl rfl) ?_)
    clear hE a; intro a hE
    refine p_cons (s_still p4_22_5 hE wn_none rfl (st_extract rfl rfl) ?_)
    clear hE a; intro a hE
    refine p_cons (s_still p4_22_6 hE wn_none rfl (st_assign rfl) ?_)
    clear hE a; intro a hE
    refine p_cons (s_still p4_22_7 hE wn_none rfl (st_assign rfl) ?_)
    clear hE a; intro a hE
    refine p_nil ?_
    refine x_norm ?_
    refine c_reg R4_23_l ?_
    refine p_cons (s_still p4_23_0 hE wn_none rfl (st_loadN (off := 0) (k := 37) (vs := ([Value.int .i64 c, Value.int .i64 f, Value.int .i64 l, Value.int .i64 x, Value.int .i64 h] ++ b16 s ++ b16 d)) tA24 tS24 rfl B_gH rfl rfl) ?_)
    clear hE a; intro a hE
    refine p_cons (s_alloc p4_23_1 hE wn_none rfl tZ24 ?_)
    clear hE a; intro g33 w34 z35 B_g33 hk a hE
    replace B_g33 : w34.heap[g33]? = some (.cells #[Value.int .i64 0, Value.int .i64 0, Value.int .i64 0, Value.int .i64 0, Value.int .i64 0, Value.int .u8 0, Value.int .u8 0, Value.int .u8 0, Value.int .u8 0, Value.int .u8 0, Value.int .u8 0, Value.int .u8 0, Value.int .u8 0, Value.int .u8 0, Value.int .u8 0, Value.int .u8 0, Value.int .u8 0, Value.int .u8 0, Value.int .u8 0, Value.int .u8 0, Value.int .u8 0, Value.int .u8 0, Value.int .u8 0, Value.int .u8 0, Value.int .u8 0, Value.int .u8 0, Value.int .u8 0, Value.int .u8 0, Value.int .u8 0, Value.int .u8 0, Value.int .u8 0, Value.int .u8 0, Value.int .u8 0, Value.int .u8 0, Value.int .u8 0, Value.int .u8 0, Value.int .u8 0] 24 (0, 0)) := B_g33
    have n_gH_g33 : gH ≠ g33 := ne_new B_gH z35
    have n_gX_g33 : gX ≠ g33 := ne_new B_gX z35
    have z_0_g33 := Nat.le_trans K_0.kept.1 z35
    have z_1_g33 := Nat.le_trans K_1.kept.1 z35
    replace B_gH := kp_blk B_gH hk (fun h => h)
    replace B_gX := kp_blk B_gX hk (fun h => h)
    replace K_0 := K_0.then_ hk (fun _ h => h.elim)
    replace K_1 := K_1.then_ hk (fun _ h => h.elim)
    clear hk
    refine p_cons (s_store (off := 0) (k := 37) (cs' := (([Value.int .i64 c, Value.int .i64 f, Value.int .i64 l, Value.int .i64 x, Value.int .i64 h] ++ b16 s ++ b16 d)).toArray) p4_23_2 hE wn_none tS24 rfl rfl rfl rfl B_g33 (Nat.le_of_ble_eq_true rfl) rfl ?_)
    intro w36 B_g33' hk
    replace B_gH := kp_blk B_gH hk n_gH_g33
    replace B_gX := kp_blk B_gX hk n_gX_g33
    replace K_0 := K_0.then_ hk (fun k h => by rw [show k = g33 from h]; exact Or.inr z_0_g33)
    replace K_1 := K_1.then_ hk (fun k h => by rw [show k = g33 from h]; exact Or.inr z_1_g33)
    replace B_g33 := B_g33'
    clear hk
    refine p_nil ?_
    refine x_norm ?_
    refine c_reg R4_24_l ?_
    refine p_cons (s_still p4_24_0 hE wn_none rfl (st_fieldAddr Try.underlying24 rfl tS3 rfl rfl) ?_)
    clear hE a; intro a hE
    refine p_cons (s_store (off := 2) (k := 1) (cs' := (([Value.int .i64 c, Value.int .i64 f, Value.int .i64 0, Value.int .i64 x, Value.int .i64 h] ++ b16 s ++ b16 d)).toArray) p4_24_1 hE wn_none tS3 rfl rfl rfl rfl B_g33 (Nat.le_of_ble_eq_true rfl) rfl ?_)
    intro w37 B_g33' hk
    replace B_gH := kp_blk B_gH hk n_gH_g33
    replace B_gX := kp_blk B_gX hk n_gX_g33
    replace K_0 := K_0.then_ hk (fun k h => by rw [show k = g33 from h]; exact Or.inr z_0_g33)
    replace K_1 := K_1.then_ hk (fun k h => by rw [show k = g33 from h]; exact Or.inr z_1_g33)
    replace B_g33 := B_g33'
    clear hk
    refine p_nil ?_
    refine x_norm ?_
    refine wp_seq ?_
    refine wp_block ?_
    refine c_reg R4_25_l ?_
    refine p_cons (s_still p4_25_0 hE wn_none rfl (st_loadN (off := 0) (k := 37) (vs := ([Value.int .i64 c, Value.int .i64 f, Value.int .i64 0, Value.int .i64 x, Value.int .i64 h] ++ b16 s ++ b16 d)) tA24 tS24 rfl B_g33 rfl rfl) ?_)
    clear hE a; intro a hE
    refine p_cons (s_call (xs := [Operand.tmp 134]) (args := [Value.agg (([Value.int .i64 c, Value.int .i64 f, Value.int .i64 0, Value.int .i64 x, Value.int .i64 h] ++ b16 s ++ b16 d)).toArray]) p4_25_1 hE wn_none rfl rfl Try.func20 cl20 (rchk_any c f 0 x h s d 1 (by rw [hE0']; rfl) _) ?_)
    rintro e w38 ⟨rfl, hk⟩
    replace B_gH := kp_blk B_gH hk (fun h => h)
    replace B_gX := kp_blk B_gX hk (fun h => h)
    replace B_g33 := kp_blk B_g33 hk (fun h => h)
    replace K_0 := K_0.then_ hk (fun _ h => h.elim)
    replace K_1 := K_1.then_ hk (fun _ h => h.elim)
    refine ⟨_, rfl, ?_⟩
    clear hE a; intro a hE
    refine p_cons (s_still p4_25_2 hE wn_none rfl (st_neq (b := true) rfl rfl (by decide)) ?_)
    clear hE a; intro a hE
    refine p_cons (s_still p4_25_3 hE wn_none rfl (st_assign rfl) ?_)
    clear hE a; intro a hE
    refine p_nil ?_
    refine x_norm ?_
    refine c_cond (t := true) hE rfl ?_
    refine c_reg R4_26_l ?_
    refine p_cons (s_call (xs := []) (args := []) p4_26_0 hE wn_none rfl rfl Try.func17 cl17 (known_any _) ?_)
    rintro e w39 ⟨rfl, hk⟩
    replace B_gH := kp_blk B_gH hk (fun h => h)
    replace B_gX := kp_blk B_gX hk (fun h => h)
    replace B_g33 := kp_blk B_g33 hk (fun h => h)
    replace K_0 := K_0.then_ hk (fun _ h => h.elim)
    replace K_1 := K_1.then_ hk (fun _ h => h.elim)
    refine ⟨_, rfl, ?_⟩
    clear hE a; intro a hE
    refine p_cons (s_still p4_26_1 hE wn_none rfl (st_move rfl) ?_)
    clear hE a; intro a hE
    refine p_cons (s_still p4_26_2 hE (wn_some g4_26_1 rfl rfl) rfl (st_move rfl) ?_)
    clear hE a; intro a hE
    refine p_cons (s_still p4_26_3 hE (wn_some g4_26_1 rfl rfl) rfl (st_eql (b := true) rfl rfl (by decide)) ?_)
    clear hE a; intro a hE
    refine p_cons (s_still p4_26_4 hE wn_none rfl (st_pick rfl rfl) ?_)
    clear hE a; intro a hE
    refine p_cons (s_still p4_26_5 hE wn_none rfl (st_move rfl) ?_)
    clear hE a; intro a hE
    refine p_cons (s_still p4_26_6 hE (wn_some g4_26_5 rfl rfl) rfl (st_move rfl) ?_)
    clear hE a; intro a hE
    refine p_cons (s_still p4_26_7 hE (wn_some g4_26_5 rfl rfl) rfl (st_len Try.underlying36 rfl) ?_)
    clear hE a; intro a hE
    refine p_cons (s_still p4_26_8 hE (wn_some g4_26_5 rfl rfl) rfl (st_eql (b := true) rfl rfl (by decide)) ?_)
    clear hE a; intro a hE
    refine p_cons (s_still p4_26_9 hE wn_none rfl (st_pick rfl rfl) ?_)
    clear hE a; intro a hE
    refine p_cons (s_still p4_26_10 hE wn_none rfl (st_assign rfl) ?_)
    clear hE a; intro a hE
    refine p_nil ?_
    refine x_norm ?_
    refine wp_ret ?_
    refine x_retB ?_
    refine x_ret ?_
    refine ret_one (v := Value.bool true) rfl hE (.tmp rfl .nil) ?_
    exact hR_ _ K_0
theorem R4_14_l : List.range (regOf Try.f4 14).size = [0] := by kernel_rfl
theorem R4_15_l : List.range (regOf Try.f4 15).size = [0] := by kernel_rfl
theorem R4_16_l : List.range (regOf Try.f4 16).size = [0] := by kernel_rfl
theorem R4_17_l : List.range (regOf Try.f4 17).size = [0, 1, 2, 3, 4, 5, 6, 7] := by kernel_rfl
theorem R4_19_l : List.range (regOf Try.f4 19).size = [0, 1, 2, 3, 4, 5, 6, 7, 8, 9, 10, 11] := by kernel_rfl
theorem R4_20_l : List.range (regOf Try.f4 20).size = [0, 1, 2, 3, 4] := by kernel_rfl
theorem R4_21_l : List.range (regOf Try.f4 21).size = [0, 1, 2, 3] := by kernel_rfl
theorem R4_18_l : List.range (regOf Try.f4 18).size = [0, 1, 2] := by kernel_rfl
theorem p4_14_0 : pj (regOf Try.f4 14) 0 = some (some 12, Op.assign (Operand.const (Value.slice none 0 0)), 35, none) := by kernel_rfl
theorem p4_15_0 : pj (regOf Try.f4 15) 0 = some (some 13, Op.assign (Operand.const (Value.slice none 0 0)), 36, none) := by kernel_rfl
theorem p4_16_0 : pj (regOf Try.f4 16) 0 = some (some 14, Op.assign (Operand.const (Value.int IntKind.i64 0)), 3, none) := by kernel_rfl
theorem p4_17_0 : pj (regOf Try.f4 17) 0 = some (some 97, Op.move (Operand.tmp 14), 3, none) := by kernel_rfl
theorem p4_17_1 : pj (regOf Try.f4 17) 1 = some (some 98, Op.move (Operand.tmp 1), 35, none) := by kernel_rfl
theorem p4_17_2 : pj (regOf Try.f4 17) 2 = some (some 99, Op.call { callee := Callee.builtin Builtin.len, args := #[Operand.tmp 98], argTypes := #[35] }, 3, none) := by kernel_rfl
theorem p4_17_3 : pj (regOf Try.f4 17) 3 = some (some 100, Op.binOp BinOp.lss 3 (Operand.tmp 97) (Operand.tmp 99) 3, 4, none) := by kernel_rfl
theorem p4_17_4 : pj (regOf Try.f4 17) 4 = some (some 101, Op.move (Operand.tmp 100), 4, none) := by kernel_rfl
theorem p4_17_5 : pj (regOf Try.f4 17) 5 = some (some 102, Op.move (Operand.tmp 14), 3, some (4, true)) := by kernel_rfl
theorem g4_17_4 : dstOf (regOf Try.f4 17) 4 = some 101 := by kernel_rfl
theorem p4_17_6 : pj (regOf Try.f4 17) 6 = some (some 103, Op.binOp BinOp.lss 3 (Operand.tmp 102) (Operand.const (Value.int IntKind.i64 3)) 3, 4, some (4, true)) := by kernel_rfl
theorem p4_17_7 : pj (regOf Try.f4 17) 7 = some (some 104, Op.pick (Operand.tmp 101) (Operand.tmp 103) (Operand.const (Value.bool false)), 4, none) := by kernel_rfl
theorem ns4_19 : Region.noSelect (regOf Try.f4 19) = true := by kernel_rfl
theorem p4_19_0 : pj (regOf Try.f4 19) 0 = some (some 107, Op.move (Operand.tmp 1), 35, none) := by kernel_rfl
theorem p4_19_1 : pj (regOf Try.f4 19) 1 = some (some 108, Op.move (Operand.tmp 14), 3, none) := by kernel_rfl
theorem p4_19_2 : pj (regOf Try.f4 19) 2 = some (some 109, Op.indexAddr 35 (Operand.tmp 107) (Operand.tmp 108), 0, none) := by kernel_rfl
theorem tS36 : (Try.prog.info? 36).map (·.size) = some 1 := by kernel_rfl
theorem p4_19_3 : pj (regOf Try.f4 19) 3 = some (some 110, Op.load 36 (Operand.tmp 109), 36, none) := by kernel_rfl
theorem tA36 : (Try.prog.underlying 36).map aggD = some false := by kernel_rfl
theorem p4_19_4 : pj (regOf Try.f4 19) 4 = some (some 111, Op.move (Operand.tmp 1), 35, none) := by kernel_rfl
theorem p4_19_5 : pj (regOf Try.f4 19) 5 = some (some 112, Op.move (Operand.tmp 14), 3, none) := by kernel_rfl
theorem p4_19_6 : pj (regOf Try.f4 19) 6 = some (some 113, Op.indexAddr 35 (Operand.tmp 111) (Operand.tmp 112), 0, none) := by kernel_rfl
theorem p4_19_7 : pj (regOf Try.f4 19) 7 = some (some 114, Op.load 36 (Operand.tmp 113), 36, none) := by kernel_rfl
theorem p4_19_8 : pj (regOf Try.f4 19) 8 = some (some 115, Op.call { callee := Callee.builtin Builtin.len, args := #[Operand.tmp 114], argTypes := #[36] }, 3, none) := by kernel_rfl
theorem p4_19_9 : pj (regOf Try.f4 19) 9 = some (some 116, Op.call { callee := Callee.builtin Builtin.min, args := #[Operand.tmp 115, Operand.const (Value.int IntKind.i64 700)], argTypes := #[3, 3] }, 3, none) := by kernel_rfl
theorem p4_19_10 : pj (regOf Try.f4 19) 10 = some (some 117, Op.slice 36 (Operand.tmp 110) none (some (Operand.tmp 116)) none, 36, none) := by kernel_rfl
theorem tS5 : (Try.prog.info? 5).map (·.size) = some 1 := by kernel_rfl
theorem p4_19_11 : pj (regOf Try.f4 19) 11 = some (some 15, Op.assign (Operand.tmp 117), 36, none) := by kernel_rfl
theorem p4_20_0 : pj (regOf Try.f4 20) 0 = some (some 118, Op.move (Operand.tmp 12), 35, none) := by kernel_rfl
theorem p4_20_1 : pj (regOf Try.f4 20) 1 = some (some 119, Op.move (Operand.tmp 15), 36, none) := by kernel_rfl
theorem p4_20_2 : pj (regOf Try.f4 20) 2 = some (some 120, Op.buildSlice 35 1 #[(0, Operand.tmp 119)], 35, none) := by kernel_rfl
theorem p4_20_3 : pj (regOf Try.f4 20) 3 = some (some 121, Op.call { callee := Callee.builtin Builtin.append, args := #[Operand.tmp 118, Operand.tmp 120], argTypes := #[35, 35] }, 35, none) := by kernel_rfl
theorem eD36 : elemD Try.prog 36 = some (1, 1, 24) := by kernel_rfl
theorem p4_20_4 : pj (regOf Try.f4 20) 4 = some (some 12, Op.assign (Operand.tmp 121), 35, none) := by kernel_rfl
theorem p4_21_0 : pj (regOf Try.f4 21) 0 = some (some 122, Op.move (Operand.tmp 13), 36, none) := by kernel_rfl
theorem p4_21_1 : pj (regOf Try.f4 21) 1 = some (some 123, Op.move (Operand.tmp 15), 36, none) := by kernel_rfl
theorem p4_21_2 : pj (regOf Try.f4 21) 2 = some (some 124, Op.call { callee := Callee.builtin Builtin.append, args := #[Operand.tmp 122, Operand.tmp 123], argTypes := #[36, 36] }, 36, none) := by kernel_rfl
theorem eD5 : elemD Try.prog 5 = some (1, 1, 1) := by kernel_rfl
theorem p4_21_3 : pj (regOf Try.f4 21) 3 = some (some 13, Op.assign (Operand.tmp 124), 36, none) := by kernel_rfl
theorem p4_18_0 : pj (regOf Try.f4 18) 0 = some (some 105, Op.move (Operand.tmp 14), 3, none) := by kernel_rfl
theorem p4_18_1 : pj (regOf Try.f4 18) 1 = some (some 106, Op.binOp BinOp.add 3 (Operand.tmp 105) (Operand.const (Value.int IntKind.i64 1)) 3, 3, none) := by kernel_rfl
theorem p4_18_2 : pj (regOf Try.f4 18) 2 = some (some 14, Op.assign (Operand.tmp 106), 3, none) := by kernel_rfl
set_option maxHeartbeats 4000000 in
theorem tail1 {R : Ending → World → Prop} (c f l x h : Int) (s d : Nat → Int) (A : Option Addr) (cap : Nat) (ls : List (List Int)) (RW : Nat → Option Addr × Nat) (w W : World) (gH gX : Nat) (B_gH : W.heap[gH]? = some (.cells (([Value.int .i64 c, Value.int .i64 f, Value.int .i64 l, Value.int .i64 x, Value.int .i64 h] ++ b16 s ++ b16 d)).toArray 24 (0, 0))) (B_gX : W.heap[gX]? = some (.cells (([Value.int .i64 c, Value.int .i64 f, Value.int .i64 l, Value.int .i64 x, Value.int .i64 h] ++ b16 s ++ b16 d)).toArray 27 (0, 0))) (n_gH_gX : gH ≠ gX) (z_0_gH : w.heap.size ≤ gH) (z_0_gX : w.heap.size ≤ gX) (K_0 : Kp w W (fun _ => False)) (hs : ∀ i, i < 16 → 0 ≤ s i ∧ s i ≤ 255) (hd : ∀ i, i < 16 → 0 ≤ d i ∧ d i ≤ 255) (F_rows : ∀ W', Kp w W' (fun _ => False) → Rows2 W' A RW ls) (hbyk : ∀ k, ∀ y ∈ (TS ls k).flatten, 0 ≤ y ∧ y ≤ 255) (hll : ls.length ≤ 9223372036854775807) (hR_ : ∀ w', Kp w w' (fun _ => False) → R (.returned (.bool true)) w') (a : Act) (hE : En 190 a [(1, Value.slice A ls.length cap), (2, Value.pointer (some ⟨gH, 0, none⟩)), (5, Value.pointer (some ⟨gX, 0, none⟩))]) : Code.wp Try.prog (.seq (.region 14 (regOf Try.f4 14) false) (.seq (.region 15 (regOf Try.f4 15) false) (.seq (.seq (.region 16 (regOf Try.f4 16) false) (.block 0 (.loop (.seq (.seq (.region 17 (regOf Try.f4 17) false) (.cond (Operand.tmp 104) (.skip) (.exit 0))) (.seq (.block 1 (.seq (.region 19 (regOf Try.f4 19) true) (.seq (.region 20 (regOf Try.f4 20) false) (.region 21 (regOf Try.f4 21) false)))) (.region 18 (regOf Try.f4 18) false)))))) (.seq (.region 22 (regOf Try.f4 22) false) (.seq (.region 23 (regOf Try.f4 23) false) (.seq (.region 24 (regOf Try.f4 24) false) (.seq (.block 2 (.seq (.region 25 (regOf Try.f4 25) false) (.cond (Operand.tmp 133) (.seq (.region 26 (regOf Try.f4 26) false) (.ret)) (.seq (.region 27 (regOf Try.f4 27) false) (.cond (Operand.tmp 147) (.seq (.region 28 (regOf Try.f4 28) false) (.ret)) (.skip)))))) (.seq (.region 29 (regOf Try.f4 29) false) (.seq (.region 30 (regOf Try.f4 30) false) (.seq (.region 31 (regOf Try.f4 31) true) (.ret))))))))))) (bodyPost Try.prog Try.f4 R) a W := by
  refine c_reg R4_14_l ?_
  refine p_cons (s_still p4_14_0 hE wn_none rfl (st_assign rfl) ?_)
  clear hE a; intro a hE
  refine p_nil ?_
  refine x_norm ?_
  refine c_reg R4_15_l ?_
  refine p_cons (s_still p4_15_0 hE wn_none rfl (st_assign rfl) ?_)
  clear hE a; intro a hE
  refine p_nil ?_
  refine x_norm ?_
  refine wp_seq ?_
  refine c_reg R4_16_l ?_
  refine p_cons (s_still p4_16_0 hE wn_none rfl (st_assign rfl) ?_)
  clear hE a; intro a hE
  refine p_nil ?_
  refine x_norm ?_
  refine wp_block ?_
  have O_tx := own_none W w.heap.size 36 1
  have Nb_tx_gH : ¬ OB none gH := ob_nil
  have Nb_tx_gX : ¬ OB none gX := ob_nil
  have Z_0_tx : ∀ k, OB none k → (fun _ => False) k ∨ w.heap.size ≤ k := fun k h => absurd h ob_nil
  have O_al := own_none W w.heap.size 5 1
  have Nb_al_gH : ¬ OB none gH := ob_nil
  have Nb_al_gX : ¬ OB none gX := ob_nil
  have Z_0_al : ∀ k, OB none k → (fun _ => False) k ∨ w.heap.size ≤ k := fun k h => absurd h ob_nil
  have NN_al_tx : ∀ k, OB none k → ¬ OB none k := fun k h => absurd h ob_nil
  have NN_tx_al : ∀ k, OB none k → ¬ OB none k := fun k h h2 => NN_al_tx k h2 h
  refine c_loop (α := Nat) (fun k a W => ∃ (A_tx : Option Addr) (c_tx : Nat) (n_tx : Nat), ∃ (A_al : Option Addr) (c_al : Nat) (n_al : Nat), En 190 a [(1, Value.slice A ls.length cap), (2, Value.pointer (some ⟨gH, 0, none⟩)), (5, Value.pointer (some ⟨gX, 0, none⟩)), (14, Value.int .i64 (k : Int)), (12, Value.slice A_tx n_tx c_tx), (13, Value.slice A_al n_al c_al)] ∧ k ≤ ls.length ∧ k ≤ 3 ∧ W.heap[gH]? = some (.cells (([Value.int .i64 c, Value.int .i64 f, Value.int .i64 l, Value.int .i64 x, Value.int .i64 h] ++ b16 s ++ b16 d)).toArray 24 (0, 0)) ∧ W.heap[gX]? = some (.cells (([Value.int .i64 c, Value.int .i64 f, Value.int .i64 l, Value.int .i64 x, Value.int .i64 h] ++ b16 s ++ b16 d)).toArray 27 (0, 0)) ∧ n_tx = (TX RW ls k).length ∧ W.ownsRow w.heap.size 36 1 (.slice A_tx n_tx c_tx) n_tx (TX RW ls k) ∧ ¬ OB A_tx gH ∧ ¬ OB A_tx gX ∧ (∀ k, OB A_tx k → (fun _ => False) k ∨ w.heap.size ≤ k) ∧ (∀ k, OB A_tx k → ¬ OB A_al k) ∧ n_al = ((TS ls k).flatten).length ∧ W.ownsRow w.heap.size 5 1 (.slice A_al n_al c_al) n_al (encs (Value.int .u8) ((TS ls k).flatten)) ∧ ¬ OB A_al gH ∧ ¬ OB A_al gX ∧ (∀ k, OB A_al k → (fun _ => False) k ∨ w.heap.size ≤ k) ∧ (∀ k, OB A_al k → ¬ OB A_tx k) ∧ Kp w W (fun _ => False)) (fun k => 3 - k) (0) ?_ ?_
  ·
    exact ⟨none, 0, 0, none, 0, 0, En.sub hE ⟨rfl, rfl, rfl, rfl, rfl, rfl, trivial⟩, Nat.zero_le _, Nat.zero_le _, B_gH, B_gX, rfl, O_tx, Nb_tx_gH, Nb_tx_gX, Z_0_tx, NN_tx_al, rfl, O_al, Nb_al_gH, Nb_al_gX, Z_0_al, NN_al_tx, K_0⟩
  ·
    clear hE a
    rintro k a w1 ⟨A_tx, c_tx, n_tx, A_al, c_al, n_al, hE, hk9, hk3, B_gH, B_gX, hn_tx, O_tx, Nb_tx_gH, Nb_tx_gX, Z_0_tx, NN_tx_al, hn_al, O_al, Nb_al_gH, Nb_al_gX, Z_0_al, NN_al_tx, K_0⟩
    have hTX := TX_len RW ls k
    have hTS := TS_le ls k
    have htl := tl_le ls k
    refine wp_seq ?_
    refine c_reg R4_17_l ?_
    refine p_cons (s_still p4_17_0 hE wn_none rfl (st_move rfl) ?_)
    clear hE a; intro a hE
    refine p_cons (s_still p4_17_1 hE wn_none rfl (st_move rfl) ?_)
    clear hE a; intro a hE
    refine p_cons (s_still p4_17_2 hE wn_none rfl (st_len Try.underlying35 rfl) ?_)
    clear hE a; intro a hE
    rcases Decidable.em ((k : Int) < (ls.length : Int)) with hc2 | hc2
    ·
      refine p_cons (s_still (v := Value.bool true) p4_17_3 hE wn_none rfl (st_lss rfl rfl (decide_eq_true hc2)) ?_)
      clear hE a; intro a hE
      refine p_cons (s_still p4_17_4 hE wn_none rfl (st_move rfl) ?_)
      clear hE a; intro a hE
      refine p_cons (s_still p4_17_5 hE (wn_some g4_17_4 rfl rfl) rfl (st_move rfl) ?_)
      clear hE a; intro a hE
      rcases Decidable.em ((k : Int) < 3) with hc3 | hc3
      ·
        refine p_cons (s_still (v := Value.bool true) p4_17_6 hE (wn_some g4_17_4 rfl rfl) rfl (st_lss rfl rfl (decide_eq_true hc3)) ?_)
        clear hE a; intro a hE
        refine p_cons (s_still p4_17_7 hE wn_none rfl (st_pick rfl rfl) ?_)
        clear hE a; intro a hE
        refine p_nil ?_
        refine x_norm ?_
        refine c_cond (t := true) hE rfl ?_
        refine wp_skip ?_
        refine x_norm ?_
        refine wp_seq ?_
        refine wp_block ?_
        refine c_drawS (S := fun W => W.heap[gH]? = some (.cells (([Value.int .i64 c, Value.int .i64 f, Value.int .i64 l, Value.int .i64 x, Value.int .i64 h] ++ b16 s ++ b16 d)).toArray 24 (0, 0)) ∧ W.heap[gX]? = some (.cells (([Value.int .i64 c, Value.int .i64 f, Value.int .i64 l, Value.int .i64 x, Value.int .i64 h] ++ b16 s ++ b16 d)).toArray 27 (0, 0)) ∧ W.cell? (ea A k) = some (.slice (RW k).1 (ls.getD k []).length (RW k).2) ∧ True) rfl rfl (listed := #[false, false, false, false, false, false, false, false, false, false, false, false]) rfl ?_
        intro w4 hh hk
        replace B_gH := kp_blk B_gH hk (fun h => h)
        replace B_gX := kp_blk B_gX hk (fun h => h)
        replace O_tx := own_keep O_tx hk (fun _ _ h => h)
        replace O_al := own_keep O_al hk (fun _ _ h => h)
        replace K_0 := K_0.then_ hk (fun _ h => h.elim)
        clear hh hk
        refine d_take (v := Value.slice A ls.length cap) p4_19_0 ns4_19 (by kernel_rfl) (by kernel_rfl) (fun _ _ _ h => h) hE wn_none rfl ⟨B_gH, B_gX, ((F_rows _ K_0).cell k (by omega)).2, trivial⟩ (fun W hS => (st_move rfl)) rfl ?_
        clear hE a; intro a hE
        refine d_take (v := Value.int .i64 (k : Int)) p4_19_1 ns4_19 (by kernel_rfl) (by kernel_rfl) (fun _ _ _ h => h) hE wn_none rfl ⟨B_gH, B_gX, ((F_rows _ K_0).cell k (by omega)).2, trivial⟩ (fun W hS => (st_move rfl)) rfl ?_
        clear hE a; intro a hE
        refine d_take (v := Value.pointer (some (ea A k))) p4_19_2 ns4_19 (by kernel_rfl) (by kernel_rfl) (fun _ _ _ h => h) hE wn_none rfl ⟨B_gH, B_gX, ((F_rows _ K_0).cell k (by omega)).2, trivial⟩ (fun W hS => (st_indexAddrS (i := k) Try.underlying35 tS36 ((F_rows _ K_0).cell k (by omega)).1 rfl rfl (by omega))) rfl ?_
        clear hE a; intro a hE
        refine d_take (v := Value.slice ((RW k).1) ((ls.getD k []).length) ((RW k).2)) p4_19_3 ns4_19 (by kernel_rfl) (by kernel_rfl) (fun _ _ _ h => h) hE wn_none rfl ⟨B_gH, B_gX, ((F_rows _ K_0).cell k (by omega)).2, trivial⟩ (fun W hS => (st_load1 tA36 rfl hS.2.2.1)) rfl ?_
        clear hE a; intro a hE
        refine d_take (v := Value.slice A ls.length cap) p4_19_4 ns4_19 (by kernel_rfl) (by kernel_rfl) (fun _ _ _ h => h) hE wn_none rfl ⟨B_gH, B_gX, ((F_rows _ K_0).cell k (by omega)).2, trivial⟩ (fun W hS => (st_move rfl)) rfl ?_
        clear hE a; intro a hE
        refine d_take (v := Value.int .i64 (k : Int)) p4_19_5 ns4_19 (by kernel_rfl) (by kernel_rfl) (fun _ _ _ h => h) hE wn_none rfl ⟨B_gH, B_gX, ((F_rows _ K_0).cell k (by omega)).2, trivial⟩ (fun W hS => (st_move rfl)) rfl ?_
        clear hE a; intro a hE
        refine d_take (v := Value.pointer (some (ea A k))) p4_19_6 ns4_19 (by kernel_rfl) (by kernel_rfl) (fun _ _ _ h => h) hE wn_none rfl ⟨B_gH, B_gX, ((F_rows _ K_0).cell k (by omega)).2, trivial⟩ (fun W hS => (st_indexAddrS (i := k) Try.underlying35 tS36 ((F_rows _ K_0).cell k (by omega)).1 rfl rfl (by omega))) rfl ?_
        clear hE a; intro a hE
        refine d_take (v := Value.slice ((RW k).1) ((ls.getD k []).length) ((RW k).2)) p4_19_7 ns4_19 (by kernel_rfl) (by kernel_rfl) (fun _ _ _ h => h) hE wn_none rfl ⟨B_gH, B_gX, ((F_rows _ K_0).cell k (by omega)).2, trivial⟩ (fun W hS => (st_load1 tA36 rfl hS.2.2.1)) rfl ?_
        clear hE a; intro a hE
        refine d_take (v := Value.int .i64 ((ls.getD k []).length : Int)) p4_19_8 ns4_19 (by kernel_rfl) (by kernel_rfl) (fun _ _ _ h => h) hE wn_none rfl ⟨B_gH, B_gX, ((F_rows _ K_0).cell k (by omega)).2, trivial⟩ (fun W hS => (st_len Try.underlying36 rfl)) rfl ?_
        clear hE a; intro a hE
        refine d_take (v := Value.int .i64 ((tl ls k).length : Int)) p4_19_9 ns4_19 (by kernel_rfl) (by kernel_rfl) (fun _ _ _ h => h) hE wn_none rfl ⟨B_gH, B_gX, ((F_rows _ K_0).cell k (by omega)).2, trivial⟩ (fun W hS => (st_min (z := ((tl ls k).length : Int)) rfl rfl (tl_min ls k))) rfl ?_
        clear hE a; intro a hE
        refine d_take (v := Value.slice ((RW k).1) ((tl ls k).length) ((RW k).2)) p4_19_10 ns4_19 (by kernel_rfl) (by kernel_rfl) (fun _ _ _ h => h) hE wn_none rfl ⟨B_gH, B_gX, ((F_rows _ K_0).cell k (by omega)).2, trivial⟩ (fun W hS => (st_sliceH (h := (tl ls k).length) Try.underlying36 tS5 rfl rfl (Nat.le_trans (tl_le ls k).2 ((F_rows _ K_0).fit k (by omega))))) rfl ?_
        clear hE a; intro a hE
        refine d_take (v := Value.slice ((RW k).1) ((tl ls k).length) ((RW k).2)) p4_19_11 ns4_19 (by kernel_rfl) (by kernel_rfl) (fun _ _ _ h => h) hE wn_none rfl ⟨B_gH, B_gX, ((F_rows _ K_0).cell k (by omega)).2, trivial⟩ (fun W hS => (st_assign rfl)) rfl ?_
        clear hE a; intro a hE
        refine d_end (by kernel_rfl) ?_
        refine x_norm ?_
        refine c_reg R4_20_l ?_
        refine p_cons (s_still p4_20_0 hE wn_none rfl (st_move rfl) ?_)
        clear hE a; intro a hE
        refine p_cons (s_still p4_20_1 hE wn_none rfl (st_move rfl) ?_)
        clear hE a; intro a hE
        refine p_cons (s_row (xs := [(0, Operand.tmp 119)]) (vs := [(0, Value.slice ((RW k).1) ((tl ls k).length) ((RW k).2))]) (cs := #[Value.slice ((RW k).1) ((tl ls k).length) ((RW k).2)]) p4_20_2 hE wn_none rfl Try.underlying35 rfl (by kernel_rfl) ?_)
        clear hE a; intro g5 w6 z7 B_g5 hk a hE
        have n_gH_g5 : gH ≠ g5 := ne_new B_gH z7
        have n_gX_g5 : gX ≠ g5 := ne_new B_gX z7
        have z_0_g5 := Nat.le_trans K_0.kept.1 z7
        have Nb_tx_g5 : ¬ OB A_tx g5 := fun h => by have := (own_ob O_tx h).2; omega
        have Nb_al_g5 : ¬ OB A_al g5 := fun h => by have := (own_ob O_al h).2; omega
        replace B_gH := kp_blk B_gH hk (fun h => h)
        replace B_gX := kp_blk B_gX hk (fun h => h)
        replace O_tx := own_keep O_tx hk (fun _ _ h => h)
        replace O_al := own_keep O_al hk (fun _ _ h => h)
        replace K_0 := K_0.then_ hk (fun _ h => h.elim)
        clear hk
        refine p_cons (s_append (xs := (TX RW ls k)) (news := [Value.slice ((RW k).1) ((tl ls k).length) ((RW k).2)]) p4_20_3 hE wn_none rfl Try.underlying35 eD36 (by decide) rfl O_tx rfl rfl (news1 B_g5) (by intro u hu; rw [List.mem_singleton.1 hu]; rfl) (by omega) (by omega) K_0.kept.1 ?_)
        clear hE a; intro Atx8 ctx9 w10 O_tx' hk hat a hE
        have Nb_tx_gH' := grow_n Nb_tx_gH (blk_lt B_gH) hat
        have Nb_tx_gX' := grow_n Nb_tx_gX (blk_lt B_gX) hat
        have Nb_tx_g5' := grow_n Nb_tx_g5 (blk_lt B_g5) hat
        have NN_al_tx' : ∀ k, OB A_al k → ¬ OB Atx8 k := fun k h h2 => (hat k h2).elim (NN_al_tx k h) (fun h3 => by have := (own_ob O_al h).2; omega)
        have Z_0_tx' := grow_z Z_0_tx K_0.kept.1 hat
        replace B_gH := kp_blk B_gH hk Nb_tx_gH
        replace B_gX := kp_blk B_gX hk Nb_tx_gX
        replace B_g5 := kp_blk B_g5 hk Nb_tx_g5
        replace O_al := own_keep O_al hk NN_al_tx
        replace K_0 := K_0.then_ hk Z_0_tx
        replace Nb_tx_gH := Nb_tx_gH'
        replace Nb_tx_gX := Nb_tx_gX'
        replace Nb_tx_g5 := Nb_tx_g5'
        replace NN_al_tx := NN_al_tx'
        replace NN_tx_al : ∀ k, OB Atx8 k → ¬ OB A_al k := fun k h h2 => NN_al_tx k h2 h
        replace Z_0_tx := Z_0_tx'
        replace O_tx := O_tx'
        try clear O_tx'
        clear hk hat
        refine p_cons (s_still p4_20_4 hE wn_none rfl (st_assign rfl) ?_)
        clear hE a; intro a hE
        refine p_nil ?_
        refine x_norm ?_
        refine c_regL R4_21_l ?_
        refine p_cons (s_still p4_21_0 hE wn_none rfl (st_move rfl) ?_)
        clear hE a; intro a hE
        refine p_cons (s_still p4_21_1 hE wn_none rfl (st_move rfl) ?_)
        clear hE a; intro a hE
        refine p_cons (s_appendC (xs := (TS ls k).flatten) (ys := (tl ls k)) p4_21_2 hE wn_none rfl Try.underlying36 eD5 rfl O_al rfl ((F_rows _ K_0).row k (by omega)) (by omega) (by omega) K_0.kept.1 ?_)
        clear hE a; intro Aal11 cal12 w13 O_al' hk hat a hE
        have Nb_al_gH' := grow_n Nb_al_gH (blk_lt B_gH) hat
        have Nb_al_gX' := grow_n Nb_al_gX (blk_lt B_gX) hat
        have Nb_al_g5' := grow_n Nb_al_g5 (blk_lt B_g5) hat
        have NN_tx_al' : ∀ k, OB Atx8 k → ¬ OB Aal11 k := fun k h h2 => (hat k h2).elim (NN_tx_al k h) (fun h3 => by have := (own_ob O_tx h).2; omega)
        have Z_0_al' := grow_z Z_0_al K_0.kept.1 hat
        replace B_gH := kp_blk B_gH hk Nb_al_gH
        replace B_gX := kp_blk B_gX hk Nb_al_gX
        replace B_g5 := kp_blk B_g5 hk Nb_al_g5
        replace O_tx := own_keep O_tx hk NN_tx_al
        replace K_0 := K_0.then_ hk Z_0_al
        replace Nb_al_gH := Nb_al_gH'
        replace Nb_al_gX := Nb_al_gX'
        replace Nb_al_g5 := Nb_al_g5'
        replace NN_tx_al := NN_tx_al'
        replace NN_al_tx : ∀ k, OB Aal11 k → ¬ OB Atx8 k := fun k h h2 => NN_tx_al k h2 h
        replace Z_0_al := Z_0_al'
        replace O_al : w13.ownsRow _ 5 1 (.slice Aal11 (n_al + (tl ls k).length) cal12) (n_al + (tl ls k).length) (encs (Value.int .u8) ((TS ls k).flatten ++ (tl ls k))) := O_al'
        clear O_al' hk hat
        refine p_cons (s_still p4_21_3 hE wn_none rfl (st_assign rfl) ?_)
        clear hE a; intro a hE
        refine p_nil ?_
        refine x_normB ?_
        refine x_norm ?_
        refine c_regL R4_18_l ?_
        refine p_cons (s_still p4_18_0 hE wn_none rfl (st_move rfl) ?_)
        clear hE a; intro a hE
        refine p_cons (s_still p4_18_1 hE wn_none rfl (st_add (z := (k : Int) + 1) rfl rfl (wr_i64 _ (by omega) (by omega))) ?_)
        clear hE a; intro a hE
        refine p_cons (s_still p4_18_2 hE wn_none rfl (st_assign rfl) ?_)
        clear hE a; intro a hE
        refine p_nil ?_
        refine x_norm ?_
        rw [← TX_succ] at O_tx
        rw [← TS_succ] at O_al
        exact ⟨k + 1, by omega, Atx8, ctx9, (n_tx + 1), Aal11, cal12, (n_al + (tl ls k).length), En.sub hE ⟨rfl, rfl, rfl, rfl, rfl, rfl, trivial⟩, by omega, by omega, B_gH, B_gX, by first | (rw [TX_len]; have := TX_len RW ls k; omega) | (rw [TS_succ, List.length_append]; omega), O_tx, Nb_tx_gH, Nb_tx_gX, Z_0_tx, NN_tx_al, by first | (rw [TX_len]; have := TX_len RW ls k; omega) | (rw [TS_succ, List.length_append]; omega), O_al, Nb_al_gH, Nb_al_gX, Z_0_al, NN_al_tx, K_0⟩
      ·
        refine p_cons (s_still (v := Value.bool false) p4_17_6 hE (wn_some g4_17_4 rfl rfl) rfl (st_lss rfl rfl (decide_eq_false hc3)) ?_)
        clear hE a; intro a hE
        refine p_cons (s_still p4_17_7 hE wn_none rfl (st_pick rfl rfl) ?_)
        clear hE a; intro a hE
        refine p_nil ?_
        refine x_norm ?_
        refine c_cond (t := false) hE rfl ?_
        refine wp_exit ?_
        refine x_exit ?_
        refine x_exit ?_
        refine x_in ?_
        refine x_norm ?_
        subst hn_al
        exact tail2 c f l x h s d (TS ls k) A_tx A_al c_tx c_al n_tx w w1 gH gX B_gH B_gX n_gH_gX z_0_gH z_0_gX K_0 hs hd (hbyk k) (by rw [TS_len]; omega) (by rw [TS_len]; omega) (by omega) (by have := (own_caps O_tx).1; rw [TS_len]; omega) (own_caps O_al).1 (fun W' hk => TX_C (by omega) (F_rows W' (K_0.then_ hk (fun _ h => h.elim))) (by omega) (own_keep O_tx hk (fun _ _ h => h))) (fun W' hk => own_told (own_keep O_al hk (fun _ _ h => h))) hR_ a (En.sub hE ⟨rfl, rfl, rfl, rfl, trivial⟩)
    ·
      refine p_cons (s_still (v := Value.bool false) p4_17_3 hE wn_none rfl (st_lss rfl rfl (decide_eq_false hc2)) ?_)
      clear hE a; intro a hE
      refine p_cons (s_still p4_17_4 hE wn_none rfl (st_move rfl) ?_)
      clear hE a; intro a hE
      refine p_cons (s_skip p4_17_5 hE (wn_some g4_17_4 rfl rfl) rfl ?_)
      clear hE a; intro a hE
      refine p_cons (s_skip p4_17_6 hE (wn_some g4_17_4 rfl rfl) rfl ?_)
      clear hE a; intro a hE
      refine p_cons (s_still p4_17_7 hE wn_none rfl (st_pick rfl rfl) ?_)
      clear hE a; intro a hE
      refine p_nil ?_
      refine x_norm ?_
      refine c_cond (t := false) hE rfl ?_
      refine wp_exit ?_
      refine x_exit ?_
      refine x_exit ?_
      refine x_in ?_
      refine x_norm ?_
      subst hn_al
      exact tail2 c f l x h s d (TS ls k) A_tx A_al c_tx c_al n_tx w w1 gH gX B_gH B_gX n_gH_gX z_0_gH z_0_gX K_0 hs hd (hbyk k) (by rw [TS_len]; omega) (by rw [TS_len]; omega) (by omega) (by have := (own_caps O_tx).1; rw [TS_len]; omega) (own_caps O_al).1 (fun W' hk => TX_C (by omega) (F_rows W' (K_0.then_ hk (fun _ h => h.elim))) (by omega) (own_keep O_tx hk (fun _ _ h => h))) (fun W' hk => own_told (own_keep O_al hk (fun _ _ h => h))) hR_ a (En.sub hE ⟨rfl, rfl, rfl, rfl, trivial⟩)
theorem R4_0_l : List.range (regOf Try.f4 0).size = [0, 1] := by kernel_rfl
theorem R4_1_l : List.range (regOf Try.f4 1).size = [0, 1, 2, 3] := by kernel_rfl
theorem R4_2_l : List.range (regOf Try.f4 2).size = [0, 1, 2, 3, 4, 5, 6] := by kernel_rfl
theorem R4_3_l : List.range (regOf Try.f4 3).size = [0, 1, 2, 3, 4, 5, 6, 7] := by kernel_rfl
theorem R4_4_l : List.range (regOf Try.f4 4).size = [0, 1, 2] := by kernel_rfl
theorem R4_5_l : List.range (regOf Try.f4 5).size = [0, 1, 2, 3, 4, 5, 6, 7, 8] := by kernel_rfl
theorem R4_6_l : List.range (regOf Try.f4 6).size = [0] := by kernel_rfl
theorem R4_7_l : List.range (regOf Try.f4 7).size = [0, 1, 2, 3, 4, 5, 6, 7, 8, 9, 10, 11, 12, 13, 14, 15, 16, 17, 18, 19, 20, 21, 22] := by kernel_rfl
theorem R4_8_l : List.range (regOf Try.f4 8).size = [0] := by kernel_rfl
theorem R4_9_l : List.range (regOf Try.f4 9).size = [0, 1] := by kernel_rfl
theorem R4_10_l : List.range (regOf Try.f4 10).size = [0, 1, 2] := by kernel_rfl
theorem R4_11_l : List.range (regOf Try.f4 11).size = [0, 1, 2, 3, 4] := by kernel_rfl
theorem R4_12_l : List.range (regOf Try.f4 12).size = [0, 1, 2, 3, 4, 5, 6, 7, 8, 9, 10, 11, 12, 13, 14, 15, 16, 17, 18, 19, 20, 21] := by kernel_rfl
theorem R4_13_l : List.range (regOf Try.f4 13).size = [0] := by kernel_rfl
theorem body4 : Try.f4.body = some (.seq (.region 0 (regOf Try.f4 0) false) (.seq (.region 1 (regOf Try.f4 1) false) (.seq (.region 2 (regOf Try.f4 2) false) (.seq (.region 3 (regOf Try.f4 3) false) (.seq (.region 4 (regOf Try.f4 4) false) (.seq (.seq (.region 5 (regOf Try.f4 5) false) (.cond (Operand.tmp 44) (.seq (.region 6 (regOf Try.f4 6) false) (.ret)) (.skip))) (.seq (.seq (.region 7 (regOf Try.f4 7) false) (.cond (Operand.tmp 67) (.seq (.region 8 (regOf Try.f4 8) false) (.ret)) (.skip))) (.seq (.seq (.region 9 (regOf Try.f4 9) false) (.cond (Operand.tmp 69) (.seq (.region 10 (regOf Try.f4 10) false) (.seq (.region 11 (regOf Try.f4 11) false) (.seq (.region 12 (regOf Try.f4 12) true) (.cond (Operand.tmp 96) (.seq (.region 13 (regOf Try.f4 13) false) (.ret)) (.skip))))) (.skip))) (.seq (.region 14 (regOf Try.f4 14) false) (.seq (.region 15 (regOf Try.f4 15) false) (.seq (.seq (.region 16 (regOf Try.f4 16) false) (.block 0 (.loop (.seq (.seq (.region 17 (regOf Try.f4 17) false) (.cond (Operand.tmp 104) (.skip) (.exit 0))) (.seq (.block 1 (.seq (.region 19 (regOf Try.f4 19) true) (.seq (.region 20 (regOf Try.f4 20) false) (.region 21 (regOf Try.f4 21) false)))) (.region 18 (regOf Try.f4 18) false)))))) (.seq (.region 22 (regOf Try.f4 22) false) (.seq (.region 23 (regOf Try.f4 23) false) (.seq (.region 24 (regOf Try.f4 24) false) (.seq (.block 2 (.seq (.region 25 (regOf Try.f4 25) false) (.cond (Operand.tmp 133) (.seq (.region 26 (regOf Try.f4 26) false) (.ret)) (.seq (.region 27 (regOf Try.f4 27) false) (.cond (Operand.tmp 147) (.seq (.region 28 (regOf Try.f4 28) false) (.ret)) (.skip)))))) (.seq (.region 29 (regOf Try.f4 29) false) (.seq (.region 30 (regOf Try.f4 30) false) (.seq (.region 31 (regOf Try.f4 31) true) (.ret))))))))))))))))))) := by kernel_rfl
theorem p4_0_0 : pj (regOf Try.f4 0) 0 = some (some 2, Op.box 24 (Operand.tmp 0), 0, none) := by kernel_rfl
theorem p4_0_1 : pj (regOf Try.f4 0) 1 = some (some 4, Op.assign (Operand.const (Value.bool false)), 4, none) := by kernel_rfl
theorem p4_1_0 : pj (regOf Try.f4 1) 0 = some (some 22, Op.load 24 (Operand.tmp 2), 24, none) := by kernel_rfl
theorem p4_1_1 : pj (regOf Try.f4 1) 1 = some (some 23, Op.call { callee := Callee.value (Operand.func 15), args := #[Operand.tmp 22], argTypes := #[24] }, 27, none) := by kernel_rfl
theorem cl15 : callable Try.f15 = true := by kernel_rfl
theorem p4_1_2 : pj (regOf Try.f4 1) 2 = some (some 5, Op.alloc 27, 0, none) := by kernel_rfl
theorem p4_1_3 : pj (regOf Try.f4 1) 3 = some (none, Op.store 27 (Operand.tmp 5) (Operand.tmp 23), 0, none) := by kernel_rfl
theorem p4_2_0 : pj (regOf Try.f4 2) 0 = some (some 25, Op.load 27 (Operand.tmp 5), 27, none) := by kernel_rfl
theorem p4_2_1 : pj (regOf Try.f4 2) 1 = some (some 26, Op.call { callee := Callee.value (Operand.func 19), args := #[Operand.tmp 25], argTypes := #[27] }, 37, none) := by kernel_rfl
theorem cl19 : callable Try.f19 = true := by kernel_rfl
theorem p4_2_2 : pj (regOf Try.f4 2) 2 = some (some 24, Op.move (Operand.tmp 26), 37, none) := by kernel_rfl
theorem p4_2_3 : pj (regOf Try.f4 2) 3 = some (some 27, Op.extract (Operand.tmp 24) 0, 36, none) := by kernel_rfl
theorem p4_2_4 : pj (regOf Try.f4 2) 4 = some (some 28, Op.extract (Operand.tmp 24) 1, 29, none) := by kernel_rfl
theorem p4_2_5 : pj (regOf Try.f4 2) 5 = some (some 6, Op.assign (Operand.tmp 27), 36, none) := by kernel_rfl
theorem p4_2_6 : pj (regOf Try.f4 2) 6 = some (some 7, Op.assign (Operand.tmp 28), 29, none) := by kernel_rfl
theorem p4_3_0 : pj (regOf Try.f4 3) 0 = some (some 30, Op.load 27 (Operand.tmp 5), 27, none) := by kernel_rfl
theorem p4_3_1 : pj (regOf Try.f4 3) 1 = some (some 31, Op.call { callee := Callee.value (Operand.func 18), args := #[Operand.tmp 30], argTypes := #[27] }, 32, none) := by kernel_rfl
theorem cl18 : callable Try.f18 = true := by kernel_rfl
theorem p4_3_2 : pj (regOf Try.f4 3) 2 = some (some 29, Op.move (Operand.tmp 31), 32, none) := by kernel_rfl
theorem p4_3_3 : pj (regOf Try.f4 3) 3 = some (some 32, Op.extract (Operand.tmp 29) 0, 27, none) := by kernel_rfl
theorem p4_3_4 : pj (regOf Try.f4 3) 4 = some (some 33, Op.extract (Operand.tmp 29) 1, 29, none) := by kernel_rfl
theorem p4_3_5 : pj (regOf Try.f4 3) 5 = some (some 8, Op.alloc 27, 0, none) := by kernel_rfl
theorem p4_3_6 : pj (regOf Try.f4 3) 6 = some (none, Op.store 27 (Operand.tmp 8) (Operand.tmp 32), 0, none) := by kernel_rfl
theorem p4_3_7 : pj (regOf Try.f4 3) 7 = some (some 9, Op.assign (Operand.tmp 33), 29, none) := by kernel_rfl
theorem p4_4_0 : pj (regOf Try.f4 4) 0 = some (some 34, Op.load 24 (Operand.tmp 2), 24, none) := by kernel_rfl
theorem p4_4_1 : pj (regOf Try.f4 4) 1 = some (some 35, Op.call { callee := Callee.value (Operand.func 20), args := #[Operand.tmp 34], argTypes := #[24] }, 3, none) := by kernel_rfl
theorem p4_4_2 : pj (regOf Try.f4 4) 2 = some (some 10, Op.assign (Operand.tmp 35), 3, none) := by kernel_rfl
theorem p4_5_0 : pj (regOf Try.f4 5) 0 = some (some 36, Op.move (Operand.tmp 7), 29, none) := by kernel_rfl
theorem p4_5_1 : pj (regOf Try.f4 5) 1 = some (some 37, Op.move (Operand.tmp 10), 3, none) := by kernel_rfl
theorem p4_5_2 : pj (regOf Try.f4 5) 2 = some (some 38, Op.binOp BinOp.neq 3 (Operand.tmp 36) (Operand.tmp 37) 3, 4, none) := by kernel_rfl
theorem p4_5_3 : pj (regOf Try.f4 5) 3 = some (some 39, Op.move (Operand.tmp 38), 4, none) := by kernel_rfl
theorem p4_5_4 : pj (regOf Try.f4 5) 4 = some (some 40, Op.load 27 (Operand.tmp 5), 27, some (3, false)) := by kernel_rfl
theorem g4_5_3 : dstOf (regOf Try.f4 5) 3 = some 39 := by kernel_rfl
theorem p4_5_5 : pj (regOf Try.f4 5) 5 = some (some 41, Op.call { callee := Callee.value (Operand.func 16), args := #[Operand.tmp 40], argTypes := #[27] }, 29, some (3, false)) := by kernel_rfl
theorem cl16 : callable Try.f16 = true := by kernel_rfl
theorem p4_5_6 : pj (regOf Try.f4 5) 6 = some (some 42, Op.move (Operand.tmp 10), 3, some (3, false)) := by kernel_rfl
theorem p4_5_7 : pj (regOf Try.f4 5) 7 = some (some 43, Op.binOp BinOp.neq 3 (Operand.tmp 41) (Operand.tmp 42) 3, 4, some (3, false)) := by kernel_rfl
theorem p4_5_8 : pj (regOf Try.f4 5) 8 = some (some 44, Op.pick (Operand.tmp 39) (Operand.const (Value.bool true)) (Operand.tmp 43), 4, none) := by kernel_rfl
theorem p4_7_0 : pj (regOf Try.f4 7) 0 = some (some 45, Op.move (Operand.tmp 10), 3, none) := by kernel_rfl
theorem p4_7_1 : pj (regOf Try.f4 7) 1 = some (some 46, Op.binOp BinOp.neq 3 (Operand.tmp 45) (Operand.const (Value.int IntKind.i64 0)) 3, 4, none) := by kernel_rfl
theorem p4_7_2 : pj (regOf Try.f4 7) 2 = some (some 47, Op.move (Operand.tmp 46), 4, none) := by kernel_rfl
theorem p4_7_3 : pj (regOf Try.f4 7) 3 = some (some 48, Op.move (Operand.tmp 6), 36, some (2, true)) := by kernel_rfl
theorem g4_7_2 : dstOf (regOf Try.f4 7) 2 = some 47 := by kernel_rfl
theorem p4_7_4 : pj (regOf Try.f4 7) 4 = some (some 49, Op.call { callee := Callee.builtin Builtin.len, args := #[Operand.tmp 48], argTypes := #[36] }, 3, some (2, true)) := by kernel_rfl
theorem p4_7_5 : pj (regOf Try.f4 7) 5 = some (some 50, Op.binOp BinOp.neq 3 (Operand.tmp 49) (Operand.const (Value.int IntKind.i64 0)) 3, 4, some (2, true)) := by kernel_rfl
theorem p4_7_6 : pj (regOf Try.f4 7) 6 = some (some 51, Op.move (Operand.tmp 50), 4, some (2, true)) := by kernel_rfl
theorem p4_7_7 : pj (regOf Try.f4 7) 7 = some (some 52, Op.move (Operand.tmp 9), 29, some (6, false)) := by kernel_rfl
theorem g4_7_6 : dstOf (regOf Try.f4 7) 6 = some 51 := by kernel_rfl
theorem p4_7_8 : pj (regOf Try.f4 7) 8 = some (some 53, Op.move (Operand.tmp 10), 3, some (6, false)) := by kernel_rfl
theorem p4_7_9 : pj (regOf Try.f4 7) 9 = some (some 54, Op.binOp BinOp.neq 3 (Operand.tmp 52) (Operand.tmp 53) 3, 4, some (6, false)) := by kernel_rfl
theorem p4_7_10 : pj (regOf Try.f4 7) 10 = some (some 55, Op.pick (Operand.tmp 51) (Operand.const (Value.bool true)) (Operand.tmp 54), 4, some (2, true)) := by kernel_rfl
theorem p4_7_11 : pj (regOf Try.f4 7) 11 = some (some 56, Op.pick (Operand.tmp 47) (Operand.tmp 55) (Operand.const (Value.bool false)), 4, none) := by kernel_rfl
theorem p4_7_12 : pj (regOf Try.f4 7) 12 = some (some 57, Op.move (Operand.tmp 56), 4, none) := by kernel_rfl
theorem p4_7_13 : pj (regOf Try.f4 7) 13 = some (some 58, Op.move (Operand.tmp 10), 3, some (12, false)) := by kernel_rfl
theorem g4_7_12 : dstOf (regOf Try.f4 7) 12 = some 57 := by kernel_rfl
theorem p4_7_14 : pj (regOf Try.f4 7) 14 = some (some 59, Op.binOp BinOp.eql 3 (Operand.tmp 58) (Operand.const (Value.int IntKind.i64 0)) 3, 4, some (12, false)) := by kernel_rfl
theorem p4_7_15 : pj (regOf Try.f4 7) 15 = some (some 60, Op.move (Operand.tmp 59), 4, some (12, false)) := by kernel_rfl
theorem p4_7_16 : pj (regOf Try.f4 7) 16 = some (some 61, Op.move (Operand.tmp 6), 36, some (15, true)) := by kernel_rfl
theorem g4_7_15 : dstOf (regOf Try.f4 7) 15 = some 60 := by kernel_rfl
theorem p4_7_17 : pj (regOf Try.f4 7) 17 = some (some 62, Op.load 24 (Operand.tmp 2), 24, some (15, true)) := by kernel_rfl
theorem p4_7_18 : pj (regOf Try.f4 7) 18 = some (some 63, Op.call { callee := Callee.value (Operand.func 22), args := #[Operand.tmp 62], argTypes := #[24] }, 36, some (15, true)) := by kernel_rfl
theorem cl22 : callable Try.f22 = true := by kernel_rfl
theorem p4_7_19 : pj (regOf Try.f4 7) 19 = some (some 64, Op.call { callee := Callee.value (Operand.func 21), args := #[Operand.tmp 61, Operand.tmp 63], argTypes := #[36, 36] }, 4, some (15, true)) := by kernel_rfl
theorem p4_7_20 : pj (regOf Try.f4 7) 20 = some (some 65, Op.unOp UnOp.not 4 (Operand.tmp 64), 4, some (15, true)) := by kernel_rfl
theorem p4_7_21 : pj (regOf Try.f4 7) 21 = some (some 66, Op.pick (Operand.tmp 60) (Operand.tmp 65) (Operand.const (Value.bool false)), 4, some (12, false)) := by kernel_rfl
theorem p4_7_22 : pj (regOf Try.f4 7) 22 = some (some 67, Op.pick (Operand.tmp 57) (Operand.const (Value.bool true)) (Operand.tmp 66), 4, none) := by kernel_rfl
theorem p4_9_0 : pj (regOf Try.f4 9) 0 = some (some 68, Op.move (Operand.tmp 10), 3, none) := by kernel_rfl
theorem p4_9_1 : pj (regOf Try.f4 9) 1 = some (some 69, Op.binOp BinOp.eql 3 (Operand.tmp 68) (Operand.const (Value.int IntKind.i64 0)) 3, 4, none) := by kernel_rfl
theorem p4_10_0 : pj (regOf Try.f4 10) 0 = some (some 70, Op.load 24 (Operand.tmp 2), 24, none) := by kernel_rfl
theorem p4_10_1 : pj (regOf Try.f4 10) 1 = some (some 11, Op.alloc 24, 0, none) := by kernel_rfl
theorem p4_10_2 : pj (regOf Try.f4 10) 2 = some (none, Op.store 24 (Operand.tmp 11) (Operand.tmp 70), 0, none) := by kernel_rfl
theorem p4_11_0 : pj (regOf Try.f4 11) 0 = some (some 71, Op.fieldAddr 24 (Operand.tmp 11) 4, 0, none) := by kernel_rfl
theorem p4_11_1 : pj (regOf Try.f4 11) 1 = some (some 72, Op.load 3 (Operand.tmp 71), 3, none) := by kernel_rfl
theorem tA3 : (Try.prog.underlying 3).map aggD = some false := by kernel_rfl
theorem p4_11_2 : pj (regOf Try.f4 11) 2 = some (some 73, Op.binOp BinOp.sub 3 (Operand.tmp 72) (Operand.const (Value.int IntKind.i64 1)) 3, 3, none) := by kernel_rfl
theorem p4_11_3 : pj (regOf Try.f4 11) 3 = some (some 74, Op.fieldAddr 24 (Operand.tmp 11) 4, 0, none) := by kernel_rfl
theorem p4_11_4 : pj (regOf Try.f4 11) 4 = some (none, Op.store 3 (Operand.tmp 74) (Operand.tmp 73), 0, none) := by kernel_rfl
theorem ns4_12 : Region.noSelect (regOf Try.f4 12) = true := by kernel_rfl
theorem p4_12_0 : pj (regOf Try.f4 12) 0 = some (some 75, Op.fieldAddr 24 (Operand.tmp 2) 4, 0, none) := by kernel_rfl
theorem p4_12_1 : pj (regOf Try.f4 12) 1 = some (some 76, Op.load 3 (Operand.tmp 75), 3, none) := by kernel_rfl
theorem p4_12_2 : pj (regOf Try.f4 12) 2 = some (some 77, Op.binOp BinOp.lss 3 (Operand.tmp 76) (Operand.const (Value.int IntKind.i64 2)) 3, 4, none) := by kernel_rfl
theorem p4_12_3 : pj (regOf Try.f4 12) 3 = some (some 78, Op.move (Operand.tmp 77), 4, none) := by kernel_rfl
theorem g4_12_3 : dstOf (regOf Try.f4 12) 3 = some 78 := by kernel_rfl
theorem p4_12_4 : pj (regOf Try.f4 12) 4 = some (some 79, Op.move (Operand.tmp 9), 29, some (3, true)) := by kernel_rfl
theorem p4_12_5 : pj (regOf Try.f4 12) 5 = some (some 80, Op.binOp BinOp.neq 29 (Operand.tmp 79) (Operand.const (Value.int IntKind.i64 12)) 29, 4, some (3, true)) := by kernel_rfl
theorem p4_12_6 : pj (regOf Try.f4 12) 6 = some (some 81, Op.pick (Operand.tmp 78) (Operand.tmp 80) (Operand.const (Value.bool false)), 4, none) := by kernel_rfl
theorem p4_12_7 : pj (regOf Try.f4 12) 7 = some (some 82, Op.move (Operand.tmp 81), 4, none) := by kernel_rfl
theorem g4_12_7 : dstOf (regOf Try.f4 12) 7 = some 82 := by kernel_rfl
theorem p4_12_8 : pj (regOf Try.f4 12) 8 = some (some 83, Op.fieldAddr 24 (Operand.tmp 2) 4, 0, some (7, false)) := by kernel_rfl
theorem p4_12_9 : pj (regOf Try.f4 12) 9 = some (some 84, Op.load 3 (Operand.tmp 83), 3, some (7, false)) := by kernel_rfl
theorem p4_12_10 : pj (regOf Try.f4 12) 10 = some (some 85, Op.binOp BinOp.geq 3 (Operand.tmp 84) (Operand.const (Value.int IntKind.i64 2)) 3, 4, some (7, false)) := by kernel_rfl
theorem p4_12_11 : pj (regOf Try.f4 12) 11 = some (some 86, Op.move (Operand.tmp 85), 4, some (7, false)) := by kernel_rfl
theorem g4_12_11 : dstOf (regOf Try.f4 12) 11 = some 86 := by kernel_rfl
theorem p4_12_12 : pj (regOf Try.f4 12) 12 = some (some 87, Op.move (Operand.tmp 9), 29, some (11, true)) := by kernel_rfl
theorem p4_12_13 : pj (regOf Try.f4 12) 13 = some (some 88, Op.binOp BinOp.neq 29 (Operand.tmp 87) (Operand.const (Value.int IntKind.i64 0)) 29, 4, some (11, true)) := by kernel_rfl
theorem p4_12_14 : pj (regOf Try.f4 12) 14 = some (some 89, Op.move (Operand.tmp 88), 4, some (11, true)) := by kernel_rfl
theorem g4_12_14 : dstOf (regOf Try.f4 12) 14 = some 89 := by kernel_rfl
theorem p4_12_15 : pj (regOf Try.f4 12) 15 = some (some 90, Op.load 27 (Operand.tmp 8), 27, some (14, false)) := by kernel_rfl
theorem p4_12_16 : pj (regOf Try.f4 12) 16 = some (some 91, Op.call { callee := Callee.value (Operand.func 23), args := #[Operand.tmp 90], argTypes := #[27] }, 24, some (14, false)) := by kernel_rfl
theorem p4_12_17 : pj (regOf Try.f4 12) 17 = some (some 92, Op.load 24 (Operand.tmp 11), 24, some (14, false)) := by kernel_rfl
theorem p4_12_18 : pj (regOf Try.f4 12) 18 = some (some 93, Op.binOp BinOp.neq 24 (Operand.tmp 91) (Operand.tmp 92) 24, 4, some (14, false)) := by kernel_rfl
theorem p4_12_19 : pj (regOf Try.f4 12) 19 = some (some 94, Op.pick (Operand.tmp 89) (Operand.const (Value.bool true)) (Operand.tmp 93), 4, some (11, true)) := by kernel_rfl
theorem p4_12_20 : pj (regOf Try.f4 12) 20 = some (some 95, Op.pick (Operand.tmp 86) (Operand.tmp 94) (Operand.const (Value.bool false)), 4, some (7, false)) := by kernel_rfl
theorem p4_12_21 : pj (regOf Try.f4 12) 21 = some (some 96, Op.pick (Operand.tmp 82) (Operand.const (Value.bool true)) (Operand.tmp 95), 4, none) := by kernel_rfl
set_option maxHeartbeats 4000000 in
theorem law_R {R : Ending → World → Prop} (c f l x h : Int) (s d : Nat → Int) (A : Option Addr) (cap : Nat) (ls : List (List Int)) (RW : Nat → Option Addr × Nat) (w : World) (hs : ∀ i, i < 16 → 0 ≤ s i ∧ s i ≤ 255) (hd : ∀ i, i < 16 → 0 ≤ d i ∧ d i ≤ 255) (F_rows : ∀ W', Kp w W' (fun _ => False) → Rows2 W' A RW ls) (hbyk : ∀ k, ∀ y ∈ (TS ls k).flatten, 0 ≤ y ∧ y ≤ 255) (hll : ls.length ≤ 9223372036854775807) (hR_ : ∀ w', Kp w w' (fun _ => False) → R (.returned (.bool true)) w') : Calls Try.prog 4 #[Value.agg (([Value.int .i64 c, Value.int .i64 f, Value.int .i64 l, Value.int .i64 x, Value.int .i64 h] ++ b16 s ++ b16 d)).toArray, .slice A ls.length cap] w R := by
  have K_0 := Kp.refl w (fun _ => False)
  refine enter (args := [Value.agg (([Value.int .i64 c, Value.int .i64 f, Value.int .i64 l, Value.int .i64 x, Value.int .i64 h] ++ b16 s ++ b16 d)).toArray, Value.slice A ls.length cap]) (n := 190) Try.func4 body4 rfl rfl rfl ?_
  intro a hE
  refine c_reg R4_0_l ?_
  refine p_cons (s_box p4_0_0 hE wn_none rfl rfl ?_)
  clear hE a; intro g1 w2 z3 B_g1 hk a hE
  replace B_g1 : w2.heap[g1]? = some (.cells (([Value.int .i64 c, Value.int .i64 f, Value.int .i64 l, Value.int .i64 x, Value.int .i64 h] ++ b16 s ++ b16 d)).toArray 24 (0, 0)) := B_g1
  have z_0_g1 := Nat.le_trans K_0.kept.1 z3
  replace K_0 := K_0.then_ hk (fun _ h => h.elim)
  clear hk
  refine p_cons (s_still p4_0_1 hE wn_none rfl (st_assign rfl) ?_)
  clear hE a; intro a hE
  refine p_nil ?_
  refine x_norm ?_
  refine c_reg R4_1_l ?_
  refine p_cons (s_still p4_1_0 hE wn_none rfl (st_loadN (off := 0) (k := 37) (vs := ([Value.int .i64 c, Value.int .i64 f, Value.int .i64 l, Value.int .i64 x, Value.int .i64 h] ++ b16 s ++ b16 d)) tA24 tS24 rfl B_g1 rfl rfl) ?_)
  clear hE a; intro a hE
  refine p_cons (s_call (xs := [Operand.tmp 22]) (args := [Value.agg (([Value.int .i64 c, Value.int .i64 f, Value.int .i64 l, Value.int .i64 x, Value.int .i64 h] ++ b16 s ++ b16 d)).toArray]) p4_1_1 hE wn_none rfl rfl Try.func15 cl15 (to_any c f l x h s d _) ?_)
  rintro e w4 ⟨rfl, hk⟩
  replace B_g1 := kp_blk B_g1 hk (fun h => h)
  replace K_0 := K_0.then_ hk (fun _ h => h.elim)
  refine ⟨_, rfl, ?_⟩
  clear hE a; intro a hE
  refine p_cons (s_alloc p4_1_2 hE wn_none rfl tZ27 ?_)
  clear hE a; intro g5 w6 z7 B_g5 hk a hE
  replace B_g5 : w6.heap[g5]? = some (.cells #[Value.int .i64 0, Value.int .i64 0, Value.int .i64 0, Value.int .i64 0, Value.int .i64 0, Value.int .u8 0, Value.int .u8 0, Value.int .u8 0, Value.int .u8 0, Value.int .u8 0, Value.int .u8 0, Value.int .u8 0, Value.int .u8 0, Value.int .u8 0, Value.int .u8 0, Value.int .u8 0, Value.int .u8 0, Value.int .u8 0, Value.int .u8 0, Value.int .u8 0, Value.int .u8 0, Value.int .u8 0, Value.int .u8 0, Value.int .u8 0, Value.int .u8 0, Value.int .u8 0, Value.int .u8 0, Value.int .u8 0, Value.int .u8 0, Value.int .u8 0, Value.int .u8 0, Value.int .u8 0, Value.int .u8 0, Value.int .u8 0, Value.int .u8 0, Value.int .u8 0, Value.int .u8 0] 27 (0, 0)) := B_g5
  have n_g1_g5 : g1 ≠ g5 := ne_new B_g1 z7
  have z_0_g5 := Nat.le_trans K_0.kept.1 z7
  replace B_g1 := kp_blk B_g1 hk (fun h => h)
  replace K_0 := K_0.then_ hk (fun _ h => h.elim)
  clear hk
  refine p_cons (s_store (off := 0) (k := 37) (cs' := (([Value.int .i64 c, Value.int .i64 f, Value.int .i64 l, Value.int .i64 x, Value.int .i64 h] ++ b16 s ++ b16 d)).toArray) p4_1_3 hE wn_none tS27 rfl rfl rfl rfl B_g5 (Nat.le_of_ble_eq_true rfl) rfl ?_)
  intro w8 B_g5' hk
  replace B_g1 := kp_blk B_g1 hk n_g1_g5
  replace K_0 := K_0.then_ hk (fun k h => by rw [show k = g5 from h]; exact Or.inr z_0_g5)
  replace B_g5 := B_g5'
  clear hk
  refine p_nil ?_
  refine x_norm ?_
  rcases Decidable.em (okF c f l x h = true) with hOk | hOk
  ·
    rcases Decidable.em (h < 2) with hP | hP
    ·
      obtain ⟨_, _, _, _, hh1, hh2⟩ := okF_of hOk
      refine c_reg R4_2_l ?_
      refine p_cons (s_still p4_2_0 hE wn_none rfl (st_loadN (off := 0) (k := 37) (vs := ([Value.int .i64 c, Value.int .i64 f, Value.int .i64 l, Value.int .i64 x, Value.int .i64 h] ++ b16 s ++ b16 d)) tA27 tS27 rfl B_g5 rfl rfl) ?_)
      clear hE a; intro a hE
      have hnb_g1 := blk_lt B_g1
      have hnb_g5 := blk_lt B_g5
      have hnz_0 := K_0.kept.1
      refine p_cons (s_call (xs := [Operand.tmp 25]) (args := [Value.agg (([Value.int .i64 c, Value.int .i64 f, Value.int .i64 l, Value.int .i64 x, Value.int .i64 h] ++ b16 s ++ b16 d)).toArray]) p4_2_1 hE wn_none rfl rfl Try.func19 cl19 (enc_ok c f l x h s d hOk _) ?_)
      rintro e w12 ⟨A10, c11, rfl, O_q9, hk⟩
      replace B_g1 := kp_blk B_g1 hk (fun h => h)
      replace B_g5 := kp_blk B_g5 hk (fun h => h)
      replace K_0 := K_0.then_ hk (fun _ h => h.elim)
      have Nb_q9_g1 : ¬ OB A10 g1 := fun h => by have := (own_ob O_q9 h).1; have := hnb_g1; omega
      have Nb_q9_g5 : ¬ OB A10 g5 := fun h => by have := (own_ob O_q9 h).1; have := hnb_g5; omega
      have Z_0_q9 : ∀ k, OB A10 k → (fun _ => False) k ∨ w.heap.size ≤ k := fun k h => .inr (by have := (own_ob O_q9 h).1; have := hnz_0; omega)
      replace O_q9 := own_lower O_q9 hnz_0
      refine ⟨_, rfl, ?_⟩
      clear hE a; intro a hE
      refine p_cons (s_still p4_2_2 hE wn_none rfl (st_move rfl) ?_)
      clear hE a; intro a hE
      refine p_cons (s_still p4_2_3 hE wn_none rfl (st_extract rfl rfl) ?_)
      clear hE a; intro a hE
      refine p_cons (s_still p4_2_4 hE wn_none rfl (st_extract rfl rfl) ?_)
      clear hE a; intro a hE
      refine p_cons (s_still p4_2_5 hE wn_none rfl (st_assign rfl) ?_)
      clear hE a; intro a hE
      refine p_cons (s_still p4_2_6 hE wn_none rfl (st_assign rfl) ?_)
      clear hE a; intro a hE
      refine p_nil ?_
      refine x_norm ?_
      refine c_reg R4_3_l ?_
      refine p_cons (s_still p4_3_0 hE wn_none rfl (st_loadN (off := 0) (k := 37) (vs := ([Value.int .i64 c, Value.int .i64 f, Value.int .i64 l, Value.int .i64 x, Value.int .i64 h] ++ b16 s ++ b16 d)) tA27 tS27 rfl B_g5 rfl rfl) ?_)
      clear hE a; intro a hE
      refine p_cons (s_call (xs := [Operand.tmp 30]) (args := [Value.agg (([Value.int .i64 c, Value.int .i64 f, Value.int .i64 l, Value.int .i64 x, Value.int .i64 h] ++ b16 s ++ b16 d)).toArray]) p4_3_1 hE wn_none rfl rfl Try.func18 cl18 (passed_low c f l x h s d hOk hP _) ?_)
      rintro e w13 ⟨rfl, hk⟩
      replace B_g1 := kp_blk B_g1 hk (fun h => h)
      replace B_g5 := kp_blk B_g5 hk (fun h => h)
      replace O_q9 := own_keep O_q9 hk (fun _ _ h => h)
      replace K_0 := K_0.then_ hk (fun _ h => h.elim)
      refine ⟨_, rfl, ?_⟩
      clear hE a; intro a hE
      refine p_cons (s_still p4_3_2 hE wn_none rfl (st_move rfl) ?_)
      clear hE a; intro a hE
      refine p_cons (s_still p4_3_3 hE wn_none rfl (st_extract rfl rfl) ?_)
      clear hE a; intro a hE
      refine p_cons (s_still p4_3_4 hE wn_none rfl (st_extract rfl rfl) ?_)
      clear hE a; intro a hE
      refine p_cons (s_alloc p4_3_5 hE wn_none rfl tZ27 ?_)
      clear hE a; intro g14 w15 z16 B_g14 hk a hE
      replace B_g14 : w15.heap[g14]? = some (.cells #[Value.int .i64 0, Value.int .i64 0, Value.int .i64 0, Value.int .i64 0, Value.int .i64 0, Value.int .u8 0, Value.int .u8 0, Value.int .u8 0, Value.int .u8 0, Value.int .u8 0, Value.int .u8 0, Value.int .u8 0, Value.int .u8 0, Value.int .u8 0, Value.int .u8 0, Value.int .u8 0, Value.int .u8 0, Value.int .u8 0, Value.int .u8 0, Value.int .u8 0, Value.int .u8 0, Value.int .u8 0, Value.int .u8 0, Value.int .u8 0, Value.int .u8 0, Value.int .u8 0, Value.int .u8 0, Value.int .u8 0, Value.int .u8 0, Value.int .u8 0, Value.int .u8 0, Value.int .u8 0, Value.int .u8 0, Value.int .u8 0, Value.int .u8 0, Value.int .u8 0, Value.int .u8 0] 27 (0, 0)) := B_g14
      have n_g1_g14 : g1 ≠ g14 := ne_new B_g1 z16
      have n_g5_g14 : g5 ≠ g14 := ne_new B_g5 z16
      have z_0_g14 := Nat.le_trans K_0.kept.1 z16
      have Nb_q9_g14 : ¬ OB A10 g14 := fun h => by have := (own_ob O_q9 h).2; omega
      replace B_g1 := kp_blk B_g1 hk (fun h => h)
      replace B_g5 := kp_blk B_g5 hk (fun h => h)
      replace O_q9 := own_keep O_q9 hk (fun _ _ h => h)
      replace K_0 := K_0.then_ hk (fun _ h => h.elim)
      clear hk
      refine p_cons (s_store (off := 0) (k := 37) (cs' := #[Value.int .i64 0, Value.int .i64 0, Value.int .i64 0, Value.int .i64 0, Value.int .i64 0, Value.int .u8 0, Value.int .u8 0, Value.int .u8 0, Value.int .u8 0, Value.int .u8 0, Value.int .u8 0, Value.int .u8 0, Value.int .u8 0, Value.int .u8 0, Value.int .u8 0, Value.int .u8 0, Value.int .u8 0, Value.int .u8 0, Value.int .u8 0, Value.int .u8 0, Value.int .u8 0, Value.int .u8 0, Value.int .u8 0, Value.int .u8 0, Value.int .u8 0, Value.int .u8 0, Value.int .u8 0, Value.int .u8 0, Value.int .u8 0, Value.int .u8 0, Value.int .u8 0, Value.int .u8 0, Value.int .u8 0, Value.int .u8 0, Value.int .u8 0, Value.int .u8 0, Value.int .u8 0]) p4_3_6 hE wn_none tS27 rfl rfl rfl rfl B_g14 (Nat.le_of_ble_eq_true rfl) rfl ?_)
      intro w17 B_g14' hk
      replace B_g1 := kp_blk B_g1 hk n_g1_g14
      replace B_g5 := kp_blk B_g5 hk n_g5_g14
      replace O_q9 := own_keep O_q9 hk (fun k hk2 h2 => Nb_q9_g14 (by rw [show k = g14 from h2] at hk2; exact hk2))
      replace K_0 := K_0.then_ hk (fun k h => by rw [show k = g14 from h]; exact Or.inr z_0_g14)
      replace B_g14 := B_g14'
      clear hk
      refine p_cons (s_still p4_3_7 hE wn_none rfl (st_assign rfl) ?_)
      clear hE a; intro a hE
      refine p_nil ?_
      refine x_norm ?_
      refine c_reg R4_4_l ?_
      refine p_cons (s_still p4_4_0 hE wn_none rfl (st_loadN (off := 0) (k := 37) (vs := ([Value.int .i64 c, Value.int .i64 f, Value.int .i64 l, Value.int .i64 x, Value.int .i64 h] ++ b16 s ++ b16 d)) tA24 tS24 rfl B_g1 rfl rfl) ?_)
      clear hE a; intro a hE
      refine p_cons (s_call (xs := [Operand.tmp 34]) (args := [Value.agg (([Value.int .i64 c, Value.int .i64 f, Value.int .i64 l, Value.int .i64 x, Value.int .i64 h] ++ b16 s ++ b16 d)).toArray]) p4_4_1 hE wn_none rfl rfl Try.func20 cl20 (rchk_any c f l x h s d 0 (by rw [hOk]; rfl) _) ?_)
      rintro e w18 ⟨rfl, hk⟩
      replace B_g1 := kp_blk B_g1 hk (fun h => h)
      replace B_g5 := kp_blk B_g5 hk (fun h => h)
      replace B_g14 := kp_blk B_g14 hk (fun h => h)
      replace O_q9 := own_keep O_q9 hk (fun _ _ h => h)
      replace K_0 := K_0.then_ hk (fun _ h => h.elim)
      refine ⟨_, rfl, ?_⟩
      clear hE a; intro a hE
      refine p_cons (s_still p4_4_2 hE wn_none rfl (st_assign rfl) ?_)
      clear hE a; intro a hE
      refine p_nil ?_
      refine x_norm ?_
      refine wp_seq ?_
      refine c_reg R4_5_l ?_
      refine p_cons (s_still p4_5_0 hE wn_none rfl (st_move rfl) ?_)
      clear hE a; intro a hE
      refine p_cons (s_still p4_5_1 hE wn_none rfl (st_move rfl) ?_)
      clear hE a; intro a hE
      refine p_cons (s_still p4_5_2 hE wn_none rfl (st_neq (b := false) rfl rfl (by decide)) ?_)
      clear hE a; intro a hE
      refine p_cons (s_still p4_5_3 hE wn_none rfl (st_move rfl) ?_)
      clear hE a; intro a hE
      refine p_cons (s_still p4_5_4 hE (wn_some g4_5_3 rfl rfl) rfl (st_loadN (off := 0) (k := 37) (vs := ([Value.int .i64 c, Value.int .i64 f, Value.int .i64 l, Value.int .i64 x, Value.int .i64 h] ++ b16 s ++ b16 d)) tA27 tS27 rfl B_g5 rfl rfl) ?_)
      clear hE a; intro a hE
      refine p_cons (s_call (xs := [Operand.tmp 40]) (args := [Value.agg (([Value.int .i64 c, Value.int .i64 f, Value.int .i64 l, Value.int .i64 x, Value.int .i64 h] ++ b16 s ++ b16 d)).toArray]) p4_5_5 hE (wn_some g4_5_3 rfl rfl) rfl rfl Try.func16 cl16 (check_any c f l x h s d 0 (by rw [hOk]; rfl) _) ?_)
      rintro e w19 ⟨rfl, hk⟩
      replace B_g1 := kp_blk B_g1 hk (fun h => h)
      replace B_g5 := kp_blk B_g5 hk (fun h => h)
      replace B_g14 := kp_blk B_g14 hk (fun h => h)
      replace O_q9 := own_keep O_q9 hk (fun _ _ h => h)
      replace K_0 := K_0.then_ hk (fun _ h => h.elim)
      refine ⟨_, rfl, ?_⟩
      clear hE a; intro a hE
      refine p_cons (s_still p4_5_6 hE (wn_some g4_5_3 rfl rfl) rfl (st_move rfl) ?_)
      clear hE a; intro a hE
      refine p_cons (s_still p4_5_7 hE (wn_some g4_5_3 rfl rfl) rfl (st_neq (b := false) rfl rfl (by decide)) ?_)
      clear hE a; intro a hE
      refine p_cons (s_still p4_5_8 hE wn_none rfl (st_pick rfl rfl) ?_)
      clear hE a; intro a hE
      refine p_nil ?_
      refine x_norm ?_
      refine c_cond (t := false) hE rfl ?_
      refine wp_skip ?_
      refine x_norm ?_
      refine wp_seq ?_
      refine c_reg R4_7_l ?_
      refine p_cons (s_still p4_7_0 hE wn_none rfl (st_move rfl) ?_)
      clear hE a; intro a hE
      refine p_cons (s_still p4_7_1 hE wn_none rfl (st_neq (b := false) rfl rfl (by decide)) ?_)
      clear hE a; intro a hE
      refine p_cons (s_still p4_7_2 hE wn_none rfl (st_move rfl) ?_)
      clear hE a; intro a hE
      refine p_cons (s_skip p4_7_3 hE (wn_some g4_7_2 rfl rfl) rfl ?_)
      clear hE a; intro a hE
      refine p_cons (s_skip p4_7_4 hE (wn_some g4_7_2 rfl rfl) rfl ?_)
      clear hE a; intro a hE
      refine p_cons (s_skip p4_7_5 hE (wn_some g4_7_2 rfl rfl) rfl ?_)
      clear hE a; intro a hE
      refine p_cons (s_skip p4_7_6 hE (wn_some g4_7_2 rfl rfl) rfl ?_)
      clear hE a; intro a hE
      refine p_cons (s_skip p4_7_7 hE (wn_undef g4_7_6 rfl) rfl ?_)
      clear hE a; intro a hE
      refine p_cons (s_skip p4_7_8 hE (wn_undef g4_7_6 rfl) rfl ?_)
      clear hE a; intro a hE
      refine p_cons (s_skip p4_7_9 hE (wn_undef g4_7_6 rfl) rfl ?_)
      clear hE a; intro a hE
      refine p_cons (s_skip p4_7_10 hE (wn_some g4_7_2 rfl rfl) rfl ?_)
      clear hE a; intro a hE
      refine p_cons (s_still p4_7_11 hE wn_none rfl (st_pick rfl rfl) ?_)
      clear hE a; intro a hE
      refine p_cons (s_still p4_7_12 hE wn_none rfl (st_move rfl) ?_)
      clear hE a; intro a hE
      refine p_cons (s_still p4_7_13 hE (wn_some g4_7_12 rfl rfl) rfl (st_move rfl) ?_)
      clear hE a; intro a hE
      refine p_cons (s_still p4_7_14 hE (wn_some g4_7_12 rfl rfl) rfl (st_eql (b := true) rfl rfl (by decide)) ?_)
      clear hE a; intro a hE
      refine p_cons (s_still p4_7_15 hE (wn_some g4_7_12 rfl rfl) rfl (st_move rfl) ?_)
      clear hE a; intro a hE
      refine p_cons (s_still p4_7_16 hE (wn_some g4_7_15 rfl rfl) rfl (st_move rfl) ?_)
      clear hE a; intro a hE
      refine p_cons (s_still p4_7_17 hE (wn_some g4_7_15 rfl rfl) rfl (st_loadN (off := 0) (k := 37) (vs := ([Value.int .i64 c, Value.int .i64 f, Value.int .i64 l, Value.int .i64 x, Value.int .i64 h] ++ b16 s ++ b16 d)) tA24 tS24 rfl B_g1 rfl rfl) ?_)
      clear hE a; intro a hE
      have hnb_g1 := blk_lt B_g1
      have hnb_g5 := blk_lt B_g5
      have hnb_g14 := blk_lt B_g14
      have hnz_0 := K_0.kept.1
      have hno_q9 := fun k (h : OB A10 k) => (own_ob O_q9 h).2
      refine p_cons (s_call (xs := [Operand.tmp 62]) (args := [Value.agg (([Value.int .i64 c, Value.int .i64 f, Value.int .i64 l, Value.int .i64 x, Value.int .i64 h] ++ b16 s ++ b16 d)).toArray]) p4_7_18 hE (wn_some g4_7_15 rfl rfl) rfl rfl Try.func22 cl22 (renc_ok c f l x h s d hOk _) ?_)
      rintro e w23 ⟨A21, c22, rfl, O_q20, hk⟩
      replace B_g1 := kp_blk B_g1 hk (fun h => h)
      replace B_g5 := kp_blk B_g5 hk (fun h => h)
      replace B_g14 := kp_blk B_g14 hk (fun h => h)
      replace O_q9 := own_keep O_q9 hk (fun _ _ h => h)
      replace K_0 := K_0.then_ hk (fun _ h => h.elim)
      have Nb_q20_g1 : ¬ OB A21 g1 := fun h => by have := (own_ob O_q20 h).1; have := hnb_g1; omega
      have Nb_q20_g5 : ¬ OB A21 g5 := fun h => by have := (own_ob O_q20 h).1; have := hnb_g5; omega
      have Nb_q20_g14 : ¬ OB A21 g14 := fun h => by have := (own_ob O_q20 h).1; have := hnb_g14; omega
      have Z_0_q20 : ∀ k, OB A21 k → (fun _ => False) k ∨ w.heap.size ≤ k := fun k h => .inr (by have := (own_ob O_q20 h).1; have := hnz_0; omega)
      have NN_q20_q9 : ∀ k, OB A21 k → ¬ OB A10 k := fun k h h2 => by have := (own_ob O_q20 h).1; have := hno_q9 k h2; omega
      have NN_q9_q20 : ∀ k, OB A10 k → ¬ OB A21 k := fun k h h2 => NN_q20_q9 k h2 h
      replace O_q20 := own_lower O_q20 hnz_0
      refine ⟨_, rfl, ?_⟩
      clear hE a; intro a hE
      refine p_cons (s_call (xs := [Operand.tmp 61, Operand.tmp 63]) (args := [Value.slice A10 40 c11, Value.slice A21 40 c22]) p4_7_19 hE (wn_some g4_7_15 rfl rfl) rfl rfl Try.func21 cl21 (same_any A10 A21 c11 c22 (encF c f l x h s d) (encF c f l x h s d) true (by simp) _ (own_told O_q9) (own_caps O_q9).1 (own_told O_q20) (own_caps O_q20).1 (Nat.le_of_ble_eq_true rfl)) ?_)
      rintro e w24 ⟨rfl, hn⟩
      have hk := kp_n hn (fun _ => False)
      replace B_g1 := kp_blk B_g1 hk (fun h => h)
      replace B_g5 := kp_blk B_g5 hk (fun h => h)
      replace B_g14 := kp_blk B_g14 hk (fun h => h)
      replace O_q9 := own_keep O_q9 hk (fun _ _ h => h)
      replace O_q20 := own_keep O_q20 hk (fun _ _ h => h)
      replace K_0 := K_0.then_ hk (fun _ h => h.elim)
      refine ⟨_, rfl, ?_⟩
      clear hE a; intro a hE
      refine p_cons (s_still p4_7_20 hE (wn_some g4_7_15 rfl rfl) rfl (st_not rfl rfl) ?_)
      clear hE a; intro a hE
      refine p_cons (s_still p4_7_21 hE (wn_some g4_7_12 rfl rfl) rfl (st_pick rfl rfl) ?_)
      clear hE a; intro a hE
      refine p_cons (s_still p4_7_22 hE wn_none rfl (st_pick rfl rfl) ?_)
      clear hE a; intro a hE
      refine p_nil ?_
      refine x_norm ?_
      refine c_cond (t := false) hE rfl ?_
      refine wp_skip ?_
      refine x_norm ?_
      refine wp_seq ?_
      refine c_reg R4_9_l ?_
      refine p_cons (s_still p4_9_0 hE wn_none rfl (st_move rfl) ?_)
      clear hE a; intro a hE
      refine p_cons (s_still p4_9_1 hE wn_none rfl (st_eql (b := true) rfl rfl (by decide)) ?_)
      clear hE a; intro a hE
      refine p_nil ?_
      refine x_norm ?_
      refine c_cond (t := true) hE rfl ?_
      refine c_reg R4_10_l ?_
      refine p_cons (s_still p4_10_0 hE wn_none rfl (st_loadN (off := 0) (k := 37) (vs := ([Value.int .i64 c, Value.int .i64 f, Value.int .i64 l, Value.int .i64 x, Value.int .i64 h] ++ b16 s ++ b16 d)) tA24 tS24 rfl B_g1 rfl rfl) ?_)
      clear hE a; intro a hE
      refine p_cons (s_alloc p4_10_1 hE wn_none rfl tZ24 ?_)
      clear hE a; intro g25 w26 z27 B_g25 hk a hE
      replace B_g25 : w26.heap[g25]? = some (.cells #[Value.int .i64 0, Value.int .i64 0, Value.int .i64 0, Value.int .i64 0, Value.int .i64 0, Value.int .u8 0, Value.int .u8 0, Value.int .u8 0, Value.int .u8 0, Value.int .u8 0, Value.int .u8 0, Value.int .u8 0, Value.int .u8 0, Value.int .u8 0, Value.int .u8 0, Value.int .u8 0, Value.int .u8 0, Value.int .u8 0, Value.int .u8 0, Value.int .u8 0, Value.int .u8 0, Value.int .u8 0, Value.int .u8 0, Value.int .u8 0, Value.int .u8 0, Value.int .u8 0, Value.int .u8 0, Value.int .u8 0, Value.int .u8 0, Value.int .u8 0, Value.int .u8 0, Value.int .u8 0, Value.int .u8 0, Value.int .u8 0, Value.int .u8 0, Value.int .u8 0, Value.int .u8 0] 24 (0, 0)) := B_g25
      have n_g1_g25 : g1 ≠ g25 := ne_new B_g1 z27
      have n_g5_g25 : g5 ≠ g25 := ne_new B_g5 z27
      have n_g14_g25 : g14 ≠ g25 := ne_new B_g14 z27
      have z_0_g25 := Nat.le_trans K_0.kept.1 z27
      have Nb_q9_g25 : ¬ OB A10 g25 := fun h => by have := (own_ob O_q9 h).2; omega
      have Nb_q20_g25 : ¬ OB A21 g25 := fun h => by have := (own_ob O_q20 h).2; omega
      replace B_g1 := kp_blk B_g1 hk (fun h => h)
      replace B_g5 := kp_blk B_g5 hk (fun h => h)
      replace B_g14 := kp_blk B_g14 hk (fun h => h)
      replace O_q9 := own_keep O_q9 hk (fun _ _ h => h)
      replace O_q20 := own_keep O_q20 hk (fun _ _ h => h)
      replace K_0 := K_0.then_ hk (fun _ h => h.elim)
      clear hk
      refine p_cons (s_store (off := 0) (k := 37) (cs' := (([Value.int .i64 c, Value.int .i64 f, Value.int .i64 l, Value.int .i64 x, Value.int .i64 h] ++ b16 s ++ b16 d)).toArray) p4_10_2 hE wn_none tS24 rfl rfl rfl rfl B_g25 (Nat.le_of_ble_eq_true rfl) rfl ?_)
      intro w28 B_g25' hk
      replace B_g1 := kp_blk B_g1 hk n_g1_g25
      replace B_g5 := kp_blk B_g5 hk n_g5_g25
      replace B_g14 := kp_blk B_g14 hk n_g14_g25
      replace O_q9 := own_keep O_q9 hk (fun k hk2 h2 => Nb_q9_g25 (by rw [show k = g25 from h2] at hk2; exact hk2))
      replace O_q20 := own_keep O_q20 hk (fun k hk2 h2 => Nb_q20_g25 (by rw [show k = g25 from h2] at hk2; exact hk2))
      replace K_0 := K_0.then_ hk (fun k h => by rw [show k = g25 from h]; exact Or.inr z_0_g25)
      replace B_g25 := B_g25'
      clear hk
      refine p_nil ?_
      refine x_norm ?_
      refine c_reg R4_11_l ?_
      refine p_cons (s_still p4_11_0 hE wn_none rfl (st_fieldAddr Try.underlying24 rfl tS3 rfl rfl) ?_)
      clear hE a; intro a hE
      refine p_cons (s_still p4_11_1 hE wn_none rfl (st_load1 tA3 rfl ((blk_cell B_g25 4).trans rfl)) ?_)
      clear hE a; intro a hE
      refine p_cons (s_still p4_11_2 hE wn_none rfl (st_sub (z := h - 1) rfl rfl (wr_i64 _ (by omega) (by omega))) ?_)
      clear hE a; intro a hE
      refine p_cons (s_still p4_11_3 hE wn_none rfl (st_fieldAddr Try.underlying24 rfl tS3 rfl rfl) ?_)
      clear hE a; intro a hE
      refine p_cons (s_store (off := 4) (k := 1) (cs' := (([Value.int .i64 c, Value.int .i64 f, Value.int .i64 l, Value.int .i64 x, Value.int .i64 (h - 1)] ++ b16 s ++ b16 d)).toArray) p4_11_4 hE wn_none tS3 rfl rfl rfl rfl B_g25 (Nat.le_of_ble_eq_true rfl) rfl ?_)
      intro w29 B_g25' hk
      replace B_g1 := kp_blk B_g1 hk n_g1_g25
      replace B_g5 := kp_blk B_g5 hk n_g5_g25
      replace B_g14 := kp_blk B_g14 hk n_g14_g25
      replace O_q9 := own_keep O_q9 hk (fun k hk2 h2 => Nb_q9_g25 (by rw [show k = g25 from h2] at hk2; exact hk2))
      replace O_q20 := own_keep O_q20 hk (fun k hk2 h2 => Nb_q20_g25 (by rw [show k = g25 from h2] at hk2; exact hk2))
      replace K_0 := K_0.then_ hk (fun k h => by rw [show k = g25 from h]; exact Or.inr z_0_g25)
      replace B_g25 := B_g25'
      clear hk
      refine p_nil ?_
      refine x_norm ?_
      refine c_drawS (S := fun W => W.heap[g1]? = some (.cells (([Value.int .i64 c, Value.int .i64 f, Value.int .i64 l, Value.int .i64 x, Value.int .i64 h] ++ b16 s ++ b16 d)).toArray 24 (0, 0)) ∧ W.heap[g5]? = some (.cells (([Value.int .i64 c, Value.int .i64 f, Value.int .i64 l, Value.int .i64 x, Value.int .i64 h] ++ b16 s ++ b16 d)).toArray 27 (0, 0)) ∧ W.heap[g14]? = some (.cells #[Value.int .i64 0, Value.int .i64 0, Value.int .i64 0, Value.int .i64 0, Value.int .i64 0, Value.int .u8 0, Value.int .u8 0, Value.int .u8 0, Value.int .u8 0, Value.int .u8 0, Value.int .u8 0, Value.int .u8 0, Value.int .u8 0, Value.int .u8 0, Value.int .u8 0, Value.int .u8 0, Value.int .u8 0, Value.int .u8 0, Value.int .u8 0, Value.int .u8 0, Value.int .u8 0, Value.int .u8 0, Value.int .u8 0, Value.int .u8 0, Value.int .u8 0, Value.int .u8 0, Value.int .u8 0, Value.int .u8 0, Value.int .u8 0, Value.int .u8 0, Value.int .u8 0, Value.int .u8 0, Value.int .u8 0, Value.int .u8 0, Value.int .u8 0, Value.int .u8 0, Value.int .u8 0] 27 (0, 0)) ∧ W.heap[g25]? = some (.cells (([Value.int .i64 c, Value.int .i64 f, Value.int .i64 l, Value.int .i64 x, Value.int .i64 (h - 1)] ++ b16 s ++ b16 d)).toArray 24 (0, 0)) ∧ True) rfl rfl (listed := #[false, false, false, false, false, false, false, false, false, false, false, false, false, false, false, false, false, false, false, false, false, false]) rfl ?_
      intro w30 hh hk
      replace B_g1 := kp_blk B_g1 hk (fun h => h)
      replace B_g5 := kp_blk B_g5 hk (fun h => h)
      replace B_g14 := kp_blk B_g14 hk (fun h => h)
      replace B_g25 := kp_blk B_g25 hk (fun h => h)
      replace O_q9 := own_keep O_q9 hk (fun _ _ h => h)
      replace O_q20 := own_keep O_q20 hk (fun _ _ h => h)
      replace K_0 := K_0.then_ hk (fun _ h => h.elim)
      clear hh hk
      refine d_take (v := Value.pointer (some ⟨g1, 4, none⟩)) p4_12_0 ns4_12 (by kernel_rfl) (by kernel_rfl) (fun _ _ _ h => h) hE wn_none rfl ⟨B_g1, B_g5, B_g14, B_g25, trivial⟩ (fun W hS => (st_fieldAddr Try.underlying24 rfl tS3 rfl rfl)) rfl ?_
      clear hE a; intro a hE
      refine d_take (v := Value.int .i64 h) p4_12_1 ns4_12 (by kernel_rfl) (by kernel_rfl) (fun _ _ _ h => h) hE wn_none rfl ⟨B_g1, B_g5, B_g14, B_g25, trivial⟩ (fun W hS => (st_load1 tA3 rfl ((blk_cell hS.1 4).trans rfl))) rfl ?_
      clear hE a; intro a hE
      refine d_take (v := Value.bool true) p4_12_2 ns4_12 (by kernel_rfl) (by kernel_rfl) (fun _ _ _ h => h) hE wn_none rfl ⟨B_g1, B_g5, B_g14, B_g25, trivial⟩ (fun W hS => (st_lss (b := true) rfl rfl (decide_eq_true hP))) rfl ?_
      clear hE a; intro a hE
      refine d_take (v := Value.bool true) p4_12_3 ns4_12 (by kernel_rfl) (by kernel_rfl) (fun _ _ _ h => h) hE wn_none rfl ⟨B_g1, B_g5, B_g14, B_g25, trivial⟩ (fun W hS => (st_move rfl)) rfl ?_
      clear hE a; intro a hE
      refine d_take (v := Value.int .i64 12) p4_12_4 ns4_12 (by kernel_rfl) (by kernel_rfl) (fun _ _ _ h => h) hE (wn_some g4_12_3 rfl rfl) rfl ⟨B_g1, B_g5, B_g14, B_g25, trivial⟩ (fun W hS => (st_move rfl)) rfl ?_
      clear hE a; intro a hE
      refine d_take (v := Value.bool false) p4_12_5 ns4_12 (by kernel_rfl) (by kernel_rfl) (fun _ _ _ h => h) hE (wn_some g4_12_3 rfl rfl) rfl ⟨B_g1, B_g5, B_g14, B_g25, trivial⟩ (fun W hS => (st_neq (b := false) rfl rfl (by decide))) rfl ?_
      clear hE a; intro a hE
      refine d_take (v := Value.bool false) p4_12_6 ns4_12 (by kernel_rfl) (by kernel_rfl) (fun _ _ _ h => h) hE wn_none rfl ⟨B_g1, B_g5, B_g14, B_g25, trivial⟩ (fun W hS => (st_pick rfl rfl)) rfl ?_
      clear hE a; intro a hE
      refine d_take (v := Value.bool false) p4_12_7 ns4_12 (by kernel_rfl) (by kernel_rfl) (fun _ _ _ h => h) hE wn_none rfl ⟨B_g1, B_g5, B_g14, B_g25, trivial⟩ (fun W hS => (st_move rfl)) rfl ?_
      clear hE a; intro a hE
      refine d_take (v := Value.pointer (some ⟨g1, 4, none⟩)) p4_12_8 ns4_12 (by kernel_rfl) (by kernel_rfl) (fun _ _ _ h => h) hE (wn_some g4_12_7 rfl rfl) rfl ⟨B_g1, B_g5, B_g14, B_g25, trivial⟩ (fun W hS => (st_fieldAddr Try.underlying24 rfl tS3 rfl rfl)) rfl ?_
      clear hE a; intro a hE
      refine d_take (v := Value.int .i64 h) p4_12_9 ns4_12 (by kernel_rfl) (by kernel_rfl) (fun _ _ _ h => h) hE (wn_some g4_12_7 rfl rfl) rfl ⟨B_g1, B_g5, B_g14, B_g25, trivial⟩ (fun W hS => (st_load1 tA3 rfl ((blk_cell hS.1 4).trans rfl))) rfl ?_
      clear hE a; intro a hE
      refine d_take (v := Value.bool false) p4_12_10 ns4_12 (by kernel_rfl) (by kernel_rfl) (fun _ _ _ h => h) hE (wn_some g4_12_7 rfl rfl) rfl ⟨B_g1, B_g5, B_g14, B_g25, trivial⟩ (fun W hS => (st_geq (b := false) rfl rfl (decide_eq_false (by omega)))) rfl ?_
      clear hE a; intro a hE
      refine d_take (v := Value.bool false) p4_12_11 ns4_12 (by kernel_rfl) (by kernel_rfl) (fun _ _ _ h => h) hE (wn_some g4_12_7 rfl rfl) rfl ⟨B_g1, B_g5, B_g14, B_g25, trivial⟩ (fun W hS => (st_move rfl)) rfl ?_
      clear hE a; intro a hE
      refine d_skip p4_12_12 ns4_12 (by kernel_rfl) (by kernel_rfl) (fun _ _ _ h => h) hE (wn_some g4_12_11 rfl rfl) rfl ⟨B_g1, B_g5, B_g14, B_g25, trivial⟩ rfl ?_
      clear hE a; intro a hE
      refine d_skip p4_12_13 ns4_12 (by kernel_rfl) (by kernel_rfl) (fun _ _ _ h => h) hE (wn_some g4_12_11 rfl rfl) rfl ⟨B_g1, B_g5, B_g14, B_g25, trivial⟩ rfl ?_
      clear hE a; intro a hE
      refine d_skip p4_12_14 ns4_12 (by kernel_rfl) (by kernel_rfl) (fun _ _ _ h => h) hE (wn_some g4_12_11 rfl rfl) rfl ⟨B_g1, B_g5, B_g14, B_g25, trivial⟩ rfl ?_
      clear hE a; intro a hE
      refine d_skip p4_12_15 ns4_12 (by kernel_rfl) (by kernel_rfl) (fun _ _ _ h => h) hE (wn_undef g4_12_14 rfl) rfl ⟨B_g1, B_g5, B_g14, B_g25, trivial⟩ rfl ?_
      clear hE a; intro a hE
      refine d_skip p4_12_16 ns4_12 (by kernel_rfl) (by kernel_rfl) (fun _ _ _ h => h) hE (wn_undef g4_12_14 rfl) rfl ⟨B_g1, B_g5, B_g14, B_g25, trivial⟩ rfl ?_
      clear hE a; intro a hE
      refine d_skip p4_12_17 ns4_12 (by kernel_rfl) (by kernel_rfl) (fun _ _ _ h => h) hE (wn_undef g4_12_14 rfl) rfl ⟨B_g1, B_g5, B_g14, B_g25, trivial⟩ rfl ?_
      clear hE a; intro a hE
      refine d_skip p4_12_18 ns4_12 (by kernel_rfl) (by kernel_rfl) (fun _ _ _ h => h) hE (wn_undef g4_12_14 rfl) rfl ⟨B_g1, B_g5, B_g14, B_g25, trivial⟩ rfl ?_
      clear hE a; intro a hE
      refine d_skip p4_12_19 ns4_12 (by kernel_rfl) (by kernel_rfl) (fun _ _ _ h => h) hE (wn_some g4_12_11 rfl rfl) rfl ⟨B_g1, B_g5, B_g14, B_g25, trivial⟩ rfl ?_
      clear hE a; intro a hE
      refine d_take (v := Value.bool false) p4_12_20 ns4_12 (by kernel_rfl) (by kernel_rfl) (fun _ _ _ h => h) hE (wn_some g4_12_7 rfl rfl) rfl ⟨B_g1, B_g5, B_g14, B_g25, trivial⟩ (fun W hS => (st_pick rfl rfl)) rfl ?_
      clear hE a; intro a hE
      refine d_take (v := Value.bool false) p4_12_21 ns4_12 (by kernel_rfl) (by kernel_rfl) (fun _ _ _ h => h) hE wn_none rfl ⟨B_g1, B_g5, B_g14, B_g25, trivial⟩ (fun W hS => (st_pick rfl rfl)) rfl ?_
      clear hE a; intro a hE
      refine d_end (by kernel_rfl) ?_
      refine x_norm ?_
      refine c_cond (t := false) hE rfl ?_
      refine wp_skip ?_
      refine x_norm ?_
      exact tail1 c f l x h s d A cap ls RW w w30 g1 g5 B_g1 B_g5 n_g1_g5 z_0_g1 z_0_g5 K_0 hs hd F_rows hbyk hll hR_ a (En.sub hE ⟨rfl, rfl, rfl, trivial⟩)
    ·
      obtain ⟨_, _, _, _, hh1, hh2⟩ := okF_of hOk
      refine c_reg R4_2_l ?_
      refine p_cons (s_still p4_2_0 hE wn_none rfl (st_loadN (off := 0) (k := 37) (vs := ([Value.int .i64 c, Value.int .i64 f, Value.int .i64 l, Value.int .i64 x, Value.int .i64 h] ++ b16 s ++ b16 d)) tA27 tS27 rfl B_g5 rfl rfl) ?_)
      clear hE a; intro a hE
      have hnb_g1 := blk_lt B_g1
      have hnb_g5 := blk_lt B_g5
      have hnz_0 := K_0.kept.1
      refine p_cons (s_call (xs := [Operand.tmp 25]) (args := [Value.agg (([Value.int .i64 c, Value.int .i64 f, Value.int .i64 l, Value.int .i64 x, Value.int .i64 h] ++ b16 s ++ b16 d)).toArray]) p4_2_1 hE wn_none rfl rfl Try.func19 cl19 (enc_ok c f l x h s d hOk _) ?_)
      rintro e w34 ⟨A32, c33, rfl, O_q31, hk⟩
      replace B_g1 := kp_blk B_g1 hk (fun h => h)
      replace B_g5 := kp_blk B_g5 hk (fun h => h)
      replace K_0 := K_0.then_ hk (fun _ h => h.elim)
      have Nb_q31_g1 : ¬ OB A32 g1 := fun h => by have := (own_ob O_q31 h).1; have := hnb_g1; omega
      have Nb_q31_g5 : ¬ OB A32 g5 := fun h => by have := (own_ob O_q31 h).1; have := hnb_g5; omega
      have Z_0_q31 : ∀ k, OB A32 k → (fun _ => False) k ∨ w.heap.size ≤ k := fun k h => .inr (by have := (own_ob O_q31 h).1; have := hnz_0; omega)
      replace O_q31 := own_lower O_q31 hnz_0
      refine ⟨_, rfl, ?_⟩
      clear hE a; intro a hE
      refine p_cons (s_still p4_2_2 hE wn_none rfl (st_move rfl) ?_)
      clear hE a; intro a hE
      refine p_cons (s_still p4_2_3 hE wn_none rfl (st_extract rfl rfl) ?_)
      clear hE a; intro a hE
      refine p_cons (s_still p4_2_4 hE wn_none rfl (st_extract rfl rfl) ?_)
      clear hE a; intro a hE
      refine p_cons (s_still p4_2_5 hE wn_none rfl (st_assign rfl) ?_)
      clear hE a; intro a hE
      refine p_cons (s_still p4_2_6 hE wn_none rfl (st_assign rfl) ?_)
      clear hE a; intro a hE
      refine p_nil ?_
      refine x_norm ?_
      refine c_reg R4_3_l ?_
      refine p_cons (s_still p4_3_0 hE wn_none rfl (st_loadN (off := 0) (k := 37) (vs := ([Value.int .i64 c, Value.int .i64 f, Value.int .i64 l, Value.int .i64 x, Value.int .i64 h] ++ b16 s ++ b16 d)) tA27 tS27 rfl B_g5 rfl rfl) ?_)
      clear hE a; intro a hE
      refine p_cons (s_call (xs := [Operand.tmp 30]) (args := [Value.agg (([Value.int .i64 c, Value.int .i64 f, Value.int .i64 l, Value.int .i64 x, Value.int .i64 h] ++ b16 s ++ b16 d)).toArray]) p4_3_1 hE wn_none rfl rfl Try.func18 cl18 (passed_ok c f l x h s d hOk hP _) ?_)
      rintro e w35 ⟨rfl, hk⟩
      replace B_g1 := kp_blk B_g1 hk (fun h => h)
      replace B_g5 := kp_blk B_g5 hk (fun h => h)
      replace O_q31 := own_keep O_q31 hk (fun _ _ h => h)
      replace K_0 := K_0.then_ hk (fun _ h => h.elim)
      refine ⟨_, rfl, ?_⟩
      clear hE a; intro a hE
      refine p_cons (s_still p4_3_2 hE wn_none rfl (st_move rfl) ?_)
      clear hE a; intro a hE
      refine p_cons (s_still p4_3_3 hE wn_none rfl (st_extract rfl rfl) ?_)
      clear hE a; intro a hE
      refine p_cons (s_still p4_3_4 hE wn_none rfl (st_extract rfl rfl) ?_)
      clear hE a; intro a hE
      refine p_cons (s_alloc p4_3_5 hE wn_none rfl tZ27 ?_)
      clear hE a; intro g36 w37 z38 B_g36 hk a hE
      replace B_g36 : w37.heap[g36]? = some (.cells #[Value.int .i64 0, Value.int .i64 0, Value.int .i64 0, Value.int .i64 0, Value.int .i64 0, Value.int .u8 0, Value.int .u8 0, Value.int .u8 0, Value.int .u8 0, Value.int .u8 0, Value.int .u8 0, Value.int .u8 0, Value.int .u8 0, Value.int .u8 0, Value.int .u8 0, Value.int .u8 0, Value.int .u8 0, Value.int .u8 0, Value.int .u8 0, Value.int .u8 0, Value.int .u8 0, Value.int .u8 0, Value.int .u8 0, Value.int .u8 0, Value.int .u8 0, Value.int .u8 0, Value.int .u8 0, Value.int .u8 0, Value.int .u8 0, Value.int .u8 0, Value.int .u8 0, Value.int .u8 0, Value.int .u8 0, Value.int .u8 0, Value.int .u8 0, Value.int .u8 0, Value.int .u8 0] 27 (0, 0)) := B_g36
      have n_g1_g36 : g1 ≠ g36 := ne_new B_g1 z38
      have n_g5_g36 : g5 ≠ g36 := ne_new B_g5 z38
      have z_0_g36 := Nat.le_trans K_0.kept.1 z38
      have Nb_q31_g36 : ¬ OB A32 g36 := fun h => by have := (own_ob O_q31 h).2; omega
      replace B_g1 := kp_blk B_g1 hk (fun h => h)
      replace B_g5 := kp_blk B_g5 hk (fun h => h)
      replace O_q31 := own_keep O_q31 hk (fun _ _ h => h)
      replace K_0 := K_0.then_ hk (fun _ h => h.elim)
      clear hk
      refine p_cons (s_store (off := 0) (k := 37) (cs' := (([Value.int .i64 c, Value.int .i64 f, Value.int .i64 l, Value.int .i64 x, Value.int .i64 (h - 1)] ++ b16 s ++ b16 d)).toArray) p4_3_6 hE wn_none tS27 rfl rfl rfl rfl B_g36 (Nat.le_of_ble_eq_true rfl) rfl ?_)
      intro w39 B_g36' hk
      replace B_g1 := kp_blk B_g1 hk n_g1_g36
      replace B_g5 := kp_blk B_g5 hk n_g5_g36
      replace O_q31 := own_keep O_q31 hk (fun k hk2 h2 => Nb_q31_g36 (by rw [show k = g36 from h2] at hk2; exact hk2))
      replace K_0 := K_0.then_ hk (fun k h => by rw [show k = g36 from h]; exact Or.inr z_0_g36)
      replace B_g36 := B_g36'
      clear hk
      refine p_cons (s_still p4_3_7 hE wn_none rfl (st_assign rfl) ?_)
      clear hE a; intro a hE
      refine p_nil ?_
      refine x_norm ?_
      refine c_reg R4_4_l ?_
      refine p_cons (s_still p4_4_0 hE wn_none rfl (st_loadN (off := 0) (k := 37) (vs := ([Value.int .i64 c, Value.int .i64 f, Value.int .i64 l, Value.int .i64 x, Value.int .i64 h] ++ b16 s ++ b16 d)) tA24 tS24 rfl B_g1 rfl rfl) ?_)
      clear hE a; intro a hE
      refine p_cons (s_call (xs := [Operand.tmp 34]) (args := [Value.agg (([Value.int .i64 c, Value.int .i64 f, Value.int .i64 l, Value.int .i64 x, Value.int .i64 h] ++ b16 s ++ b16 d)).toArray]) p4_4_1 hE wn_none rfl rfl Try.func20 cl20 (rchk_any c f l x h s d 0 (by rw [hOk]; rfl) _) ?_)
      rintro e w40 ⟨rfl, hk⟩
      replace B_g1 := kp_blk B_g1 hk (fun h => h)
      replace B_g5 := kp_blk B_g5 hk (fun h => h)
      replace B_g36 := kp_blk B_g36 hk (fun h => h)
      replace O_q31 := own_keep O_q31 hk (fun _ _ h => h)
      replace K_0 := K_0.then_ hk (fun _ h => h.elim)
      refine ⟨_, rfl, ?_⟩
      clear hE a; intro a hE
      refine p_cons (s_still p4_4_2 hE wn_none rfl (st_assign rfl) ?_)
      clear hE a; intro a hE
      refine p_nil ?_
      refine x_norm ?_
      refine wp_seq ?_
      refine c_reg R4_5_l ?_
      refine p_cons (s_still p4_5_0 hE wn_none rfl (st_move rfl) ?_)
      clear hE a; intro a hE
      refine p_cons (s_still p4_5_1 hE wn_none rfl (st_move rfl) ?_)
      clear hE a; intro a hE
      refine p_cons (s_still p4_5_2 hE wn_none rfl (st_neq (b := false) rfl rfl (by decide)) ?_)
      clear hE a; intro a hE
      refine p_cons (s_still p4_5_3 hE wn_none rfl (st_move rfl) ?_)
      clear hE a; intro a hE
      refine p_cons (s_still p4_5_4 hE (wn_some g4_5_3 rfl rfl) rfl (st_loadN (off := 0) (k := 37) (vs := ([Value.int .i64 c, Value.int .i64 f, Value.int .i64 l, Value.int .i64 x, Value.int .i64 h] ++ b16 s ++ b16 d)) tA27 tS27 rfl B_g5 rfl rfl) ?_)
      clear hE a; intro a hE
      refine p_cons (s_call (xs := [Operand.tmp 40]) (args := [Value.agg (([Value.int .i64 c, Value.int .i64 f, Value.int .i64 l, Value.int .i64 x, Value.int .i64 h] ++ b16 s ++ b16 d)).toArray]) p4_5_5 hE (wn_some g4_5_3 rfl rfl) rfl rfl Try.func16 cl16 (check_any c f l x h s d 0 (by rw [hOk]; rfl) _) ?_)
      rintro e w41 ⟨rfl, hk⟩
      replace B_g1 := kp_blk B_g1 hk (fun h => h)
      replace B_g5 := kp_blk B_g5 hk (fun h => h)
      replace B_g36 := kp_blk B_g36 hk (fun h => h)
      replace O_q31 := own_keep O_q31 hk (fun _ _ h => h)
      replace K_0 := K_0.then_ hk (fun _ h => h.elim)
      refine ⟨_, rfl, ?_⟩
      clear hE a; intro a hE
      refine p_cons (s_still p4_5_6 hE (wn_some g4_5_3 rfl rfl) rfl (st_move rfl) ?_)
      clear hE a; intro a hE
      refine p_cons (s_still p4_5_7 hE (wn_some g4_5_3 rfl rfl) rfl (st_neq (b := false) rfl rfl (by decide)) ?_)
      clear hE a; intro a hE
      refine p_cons (s_still p4_5_8 hE wn_none rfl (st_pick rfl rfl) ?_)
      clear hE a; intro a hE
      refine p_nil ?_
      refine x_norm ?_
      refine c_cond (t := false) hE rfl ?_
      refine wp_skip ?_
      refine x_norm ?_
      refine wp_seq ?_
      refine c_reg R4_7_l ?_
      refine p_cons (s_still p4_7_0 hE wn_none rfl (st_move rfl) ?_)
      clear hE a; intro a hE
      refine p_cons (s_still p4_7_1 hE wn_none rfl (st_neq (b := false) rfl rfl (by decide)) ?_)
      clear hE a; intro a hE
      refine p_cons (s_still p4_7_2 hE wn_none rfl (st_move rfl) ?_)
      clear hE a; intro a hE
      refine p_cons (s_skip p4_7_3 hE (wn_some g4_7_2 rfl rfl) rfl ?_)
      clear hE a; intro a hE
      refine p_cons (s_skip p4_7_4 hE (wn_some g4_7_2 rfl rfl) rfl ?_)
      clear hE a; intro a hE
      refine p_cons (s_skip p4_7_5 hE (wn_some g4_7_2 rfl rfl) rfl ?_)
      clear hE a; intro a hE
      refine p_cons (s_skip p4_7_6 hE (wn_some g4_7_2 rfl rfl) rfl ?_)
      clear hE a; intro a hE
      refine p_cons (s_skip p4_7_7 hE (wn_undef g4_7_6 rfl) rfl ?_)
      clear hE a; intro a hE
      refine p_cons (s_skip p4_7_8 hE (wn_undef g4_7_6 rfl) rfl ?_)
      clear hE a; intro a hE
      refine p_cons (s_skip p4_7_9 hE (wn_undef g4_7_6 rfl) rfl ?_)
      clear hE a; intro a hE
      refine p_cons (s_skip p4_7_10 hE (wn_some g4_7_2 rfl rfl) rfl ?_)
      clear hE a; intro a hE
      refine p_cons (s_still p4_7_11 hE wn_none rfl (st_pick rfl rfl) ?_)
      clear hE a; intro a hE
      refine p_cons (s_still p4_7_12 hE wn_none rfl (st_move rfl) ?_)
      clear hE a; intro a hE
      refine p_cons (s_still p4_7_13 hE (wn_some g4_7_12 rfl rfl) rfl (st_move rfl) ?_)
      clear hE a; intro a hE
      refine p_cons (s_still p4_7_14 hE (wn_some g4_7_12 rfl rfl) rfl (st_eql (b := true) rfl rfl (by decide)) ?_)
      clear hE a; intro a hE
      refine p_cons (s_still p4_7_15 hE (wn_some g4_7_12 rfl rfl) rfl (st_move rfl) ?_)
      clear hE a; intro a hE
      refine p_cons (s_still p4_7_16 hE (wn_some g4_7_15 rfl rfl) rfl (st_move rfl) ?_)
      clear hE a; intro a hE
      refine p_cons (s_still p4_7_17 hE (wn_some g4_7_15 rfl rfl) rfl (st_loadN (off := 0) (k := 37) (vs := ([Value.int .i64 c, Value.int .i64 f, Value.int .i64 l, Value.int .i64 x, Value.int .i64 h] ++ b16 s ++ b16 d)) tA24 tS24 rfl B_g1 rfl rfl) ?_)
      clear hE a; intro a hE
      have hnb_g1 := blk_lt B_g1
      have hnb_g5 := blk_lt B_g5
      have hnb_g36 := blk_lt B_g36
      have hnz_0 := K_0.kept.1
      have hno_q31 := fun k (h : OB A32 k) => (own_ob O_q31 h).2
      refine p_cons (s_call (xs := [Operand.tmp 62]) (args := [Value.agg (([Value.int .i64 c, Value.int .i64 f, Value.int .i64 l, Value.int .i64 x, Value.int .i64 h] ++ b16 s ++ b16 d)).toArray]) p4_7_18 hE (wn_some g4_7_15 rfl rfl) rfl rfl Try.func22 cl22 (renc_ok c f l x h s d hOk _) ?_)
      rintro e w45 ⟨A43, c44, rfl, O_q42, hk⟩
      replace B_g1 := kp_blk B_g1 hk (fun h => h)
      replace B_g5 := kp_blk B_g5 hk (fun h => h)
      replace B_g36 := kp_blk B_g36 hk (fun h => h)
      replace O_q31 := own_keep O_q31 hk (fun _ _ h => h)
      replace K_0 := K_0.then_ hk (fun _ h => h.elim)
      have Nb_q42_g1 : ¬ OB A43 g1 := fun h => by have := (own_ob O_q42 h).1; have := hnb_g1; omega
      have Nb_q42_g5 : ¬ OB A43 g5 := fun h => by have := (own_ob O_q42 h).1; have := hnb_g5; omega
      have Nb_q42_g36 : ¬ OB A43 g36 := fun h => by have := (own_ob O_q42 h).1; have := hnb_g36; omega
      have Z_0_q42 : ∀ k, OB A43 k → (fun _ => False) k ∨ w.heap.size ≤ k := fun k h => .inr (by have := (own_ob O_q42 h).1; have := hnz_0; omega)
      have NN_q42_q31 : ∀ k, OB A43 k → ¬ OB A32 k := fun k h h2 => by have := (own_ob O_q42 h).1; have := hno_q31 k h2; omega
      have NN_q31_q42 : ∀ k, OB A32 k → ¬ OB A43 k := fun k h h2 => NN_q42_q31 k h2 h
      replace O_q42 := own_lower O_q42 hnz_0
      refine ⟨_, rfl, ?_⟩
      clear hE a; intro a hE
      refine p_cons (s_call (xs := [Operand.tmp 61, Operand.tmp 63]) (args := [Value.slice A32 40 c33, Value.slice A43 40 c44]) p4_7_19 hE (wn_some g4_7_15 rfl rfl) rfl rfl Try.func21 cl21 (same_any A32 A43 c33 c44 (encF c f l x h s d) (encF c f l x h s d) true (by simp) _ (own_told O_q31) (own_caps O_q31).1 (own_told O_q42) (own_caps O_q42).1 (Nat.le_of_ble_eq_true rfl)) ?_)
      rintro e w46 ⟨rfl, hn⟩
      have hk := kp_n hn (fun _ => False)
      replace B_g1 := kp_blk B_g1 hk (fun h => h)
      replace B_g5 := kp_blk B_g5 hk (fun h => h)
      replace B_g36 := kp_blk B_g36 hk (fun h => h)
      replace O_q31 := own_keep O_q31 hk (fun _ _ h => h)
      replace O_q42 := own_keep O_q42 hk (fun _ _ h => h)
      replace K_0 := K_0.then_ hk (fun _ h => h.elim)
      refine ⟨_, rfl, ?_⟩
      clear hE a; intro a hE
      refine p_cons (s_still p4_7_20 hE (wn_some g4_7_15 rfl rfl) rfl (st_not rfl rfl) ?_)
      clear hE a; intro a hE
      refine p_cons (s_still p4_7_21 hE (wn_some g4_7_12 rfl rfl) rfl (st_pick rfl rfl) ?_)
      clear hE a; intro a hE
      refine p_cons (s_still p4_7_22 hE wn_none rfl (st_pick rfl rfl) ?_)
      clear hE a; intro a hE
      refine p_nil ?_
      refine x_norm ?_
      refine c_cond (t := false) hE rfl ?_
      refine wp_skip ?_
      refine x_norm ?_
      refine wp_seq ?_
      refine c_reg R4_9_l ?_
      refine p_cons (s_still p4_9_0 hE wn_none rfl (st_move rfl) ?_)
      clear hE a; intro a hE
      refine p_cons (s_still p4_9_1 hE wn_none rfl (st_eql (b := true) rfl rfl (by decide)) ?_)
      clear hE a; intro a hE
      refine p_nil ?_
      refine x_norm ?_
      refine c_cond (t := true) hE rfl ?_
      refine c_reg R4_10_l ?_
      refine p_cons (s_still p4_10_0 hE wn_none rfl (st_loadN (off := 0) (k := 37) (vs := ([Value.int .i64 c, Value.int .i64 f, Value.int .i64 l, Value.int .i64 x, Value.int .i64 h] ++ b16 s ++ b16 d)) tA24 tS24 rfl B_g1 rfl rfl) ?_)
      clear hE a; intro a hE
      refine p_cons (s_alloc p4_10_1 hE wn_none rfl tZ24 ?_)
      clear hE a; intro g47 w48 z49 B_g47 hk a hE
      replace B_g47 : w48.heap[g47]? = some (.cells #[Value.int .i64 0, Value.int .i64 0, Value.int .i64 0, Value.int .i64 0, Value.int .i64 0, Value.int .u8 0, Value.int .u8 0, Value.int .u8 0, Value.int .u8 0, Value.int .u8 0, Value.int .u8 0, Value.int .u8 0, Value.int .u8 0, Value.int .u8 0, Value.int .u8 0, Value.int .u8 0, Value.int .u8 0, Value.int .u8 0, Value.int .u8 0, Value.int .u8 0, Value.int .u8 0, Value.int .u8 0, Value.int .u8 0, Value.int .u8 0, Value.int .u8 0, Value.int .u8 0, Value.int .u8 0, Value.int .u8 0, Value.int .u8 0, Value.int .u8 0, Value.int .u8 0, Value.int .u8 0, Value.int .u8 0, Value.int .u8 0, Value.int .u8 0, Value.int .u8 0, Value.int .u8 0] 24 (0, 0)) := B_g47
      have n_g1_g47 : g1 ≠ g47 := ne_new B_g1 z49
      have n_g5_g47 : g5 ≠ g47 := ne_new B_g5 z49
      have n_g36_g47 : g36 ≠ g47 := ne_new B_g36 z49
      have z_0_g47 := Nat.le_trans K_0.kept.1 z49
      have Nb_q31_g47 : ¬ OB A32 g47 := fun h => by have := (own_ob O_q31 h).2; omega
      have Nb_q42_g47 : ¬ OB A43 g47 := fun h => by have := (own_ob O_q42 h).2; omega
      replace B_g1 := kp_blk B_g1 hk (fun h => h)
      replace B_g5 := kp_blk B_g5 hk (fun h => h)
      replace B_g36 := kp_blk B_g36 hk (fun h => h)
      replace O_q31 := own_keep O_q31 hk (fun _ _ h => h)
      replace O_q42 := own_keep O_q42 hk (fun _ _ h => h)
      replace K_0 := K_0.then_ hk (fun _ h => h.elim)
      clear hk
      refine p_cons (s_store (off := 0) (k := 37) (cs' := (([Value.int .i64 c, Value.int .i64 f, Value.int .i64 l, Value.int .i64 x, Value.int .i64 h] ++ b16 s ++ b16 d)).toArray) p4_10_2 hE wn_none tS24 rfl rfl rfl rfl B_g47 (Nat.le_of_ble_eq_true rfl) rfl ?_)
      intro w50 B_g47' hk
      replace B_g1 := kp_blk B_g1 hk n_g1_g47
      replace B_g5 := kp_blk B_g5 hk n_g5_g47
      replace B_g36 := kp_blk B_g36 hk n_g36_g47
      replace O_q31 := own_keep O_q31 hk (fun k hk2 h2 => Nb_q31_g47 (by rw [show k = g47 from h2] at hk2; exact hk2))
      replace O_q42 := own_keep O_q42 hk (fun k hk2 h2 => Nb_q42_g47 (by rw [show k = g47 from h2] at hk2; exact hk2))
      replace K_0 := K_0.then_ hk (fun k h => by rw [show k = g47 from h]; exact Or.inr z_0_g47)
      replace B_g47 := B_g47'
      clear hk
      refine p_nil ?_
      refine x_norm ?_
      refine c_reg R4_11_l ?_
      refine p_cons (s_still p4_11_0 hE wn_none rfl (st_fieldAddr Try.underlying24 rfl tS3 rfl rfl) ?_)
      clear hE a; intro a hE
      refine p_cons (s_still p4_11_1 hE wn_none rfl (st_load1 tA3 rfl ((blk_cell B_g47 4).trans rfl)) ?_)
      clear hE a; intro a hE
      refine p_cons (s_still p4_11_2 hE wn_none rfl (st_sub (z := h - 1) rfl rfl (wr_i64 _ (by omega) (by omega))) ?_)
      clear hE a; intro a hE
      refine p_cons (s_still p4_11_3 hE wn_none rfl (st_fieldAddr Try.underlying24 rfl tS3 rfl rfl) ?_)
      clear hE a; intro a hE
      refine p_cons (s_store (off := 4) (k := 1) (cs' := (([Value.int .i64 c, Value.int .i64 f, Value.int .i64 l, Value.int .i64 x, Value.int .i64 (h - 1)] ++ b16 s ++ b16 d)).toArray) p4_11_4 hE wn_none tS3 rfl rfl rfl rfl B_g47 (Nat.le_of_ble_eq_true rfl) rfl ?_)
      intro w51 B_g47' hk
      replace B_g1 := kp_blk B_g1 hk n_g1_g47
      replace B_g5 := kp_blk B_g5 hk n_g5_g47
      replace B_g36 := kp_blk B_g36 hk n_g36_g47
      replace O_q31 := own_keep O_q31 hk (fun k hk2 h2 => Nb_q31_g47 (by rw [show k = g47 from h2] at hk2; exact hk2))
      replace O_q42 := own_keep O_q42 hk (fun k hk2 h2 => Nb_q42_g47 (by rw [show k = g47 from h2] at hk2; exact hk2))
      replace K_0 := K_0.then_ hk (fun k h => by rw [show k = g47 from h]; exact Or.inr z_0_g47)
      replace B_g47 := B_g47'
      clear hk
      refine p_nil ?_
      refine x_norm ?_
      refine c_drawS (S := fun W => W.heap[g1]? = some (.cells (([Value.int .i64 c, Value.int .i64 f, Value.int .i64 l, Value.int .i64 x, Value.int .i64 h] ++ b16 s ++ b16 d)).toArray 24 (0, 0)) ∧ W.heap[g5]? = some (.cells (([Value.int .i64 c, Value.int .i64 f, Value.int .i64 l, Value.int .i64 x, Value.int .i64 h] ++ b16 s ++ b16 d)).toArray 27 (0, 0)) ∧ W.heap[g36]? = some (.cells (([Value.int .i64 c, Value.int .i64 f, Value.int .i64 l, Value.int .i64 x, Value.int .i64 (h - 1)] ++ b16 s ++ b16 d)).toArray 27 (0, 0)) ∧ W.heap[g47]? = some (.cells (([Value.int .i64 c, Value.int .i64 f, Value.int .i64 l, Value.int .i64 x, Value.int .i64 (h - 1)] ++ b16 s ++ b16 d)).toArray 24 (0, 0)) ∧ True) rfl rfl (listed := #[false, false, false, false, false, false, false, false, false, false, false, false, false, false, false, false, false, false, false, false, false, false]) rfl ?_
      intro w52 hh hk
      replace B_g1 := kp_blk B_g1 hk (fun h => h)
      replace B_g5 := kp_blk B_g5 hk (fun h => h)
      replace B_g36 := kp_blk B_g36 hk (fun h => h)
      replace B_g47 := kp_blk B_g47 hk (fun h => h)
      replace O_q31 := own_keep O_q31 hk (fun _ _ h => h)
      replace O_q42 := own_keep O_q42 hk (fun _ _ h => h)
      replace K_0 := K_0.then_ hk (fun _ h => h.elim)
      clear hh hk
      refine d_take (v := Value.pointer (some ⟨g1, 4, none⟩)) p4_12_0 ns4_12 (by kernel_rfl) (by kernel_rfl) (fun _ _ _ h => h) hE wn_none rfl ⟨B_g1, B_g5, B_g36, B_g47, trivial⟩ (fun W hS => (st_fieldAddr Try.underlying24 rfl tS3 rfl rfl)) rfl ?_
      clear hE a; intro a hE
      refine d_take (v := Value.int .i64 h) p4_12_1 ns4_12 (by kernel_rfl) (by kernel_rfl) (fun _ _ _ h => h) hE wn_none rfl ⟨B_g1, B_g5, B_g36, B_g47, trivial⟩ (fun W hS => (st_load1 tA3 rfl ((blk_cell hS.1 4).trans rfl))) rfl ?_
      clear hE a; intro a hE
      refine d_take (v := Value.bool false) p4_12_2 ns4_12 (by kernel_rfl) (by kernel_rfl) (fun _ _ _ h => h) hE wn_none rfl ⟨B_g1, B_g5, B_g36, B_g47, trivial⟩ (fun W hS => (st_lss (b := false) rfl rfl (decide_eq_false hP))) rfl ?_
      clear hE a; intro a hE
      refine d_take (v := Value.bool false) p4_12_3 ns4_12 (by kernel_rfl) (by kernel_rfl) (fun _ _ _ h => h) hE wn_none rfl ⟨B_g1, B_g5, B_g36, B_g47, trivial⟩ (fun W hS => (st_move rfl)) rfl ?_
      clear hE a; intro a hE
      refine d_skip p4_12_4 ns4_12 (by kernel_rfl) (by kernel_rfl) (fun _ _ _ h => h) hE (wn_some g4_12_3 rfl rfl) rfl ⟨B_g1, B_g5, B_g36, B_g47, trivial⟩ rfl ?_
      clear hE a; intro a hE
      refine d_skip p4_12_5 ns4_12 (by kernel_rfl) (by kernel_rfl) (fun _ _ _ h => h) hE (wn_some g4_12_3 rfl rfl) rfl ⟨B_g1, B_g5, B_g36, B_g47, trivial⟩ rfl ?_
      clear hE a; intro a hE
      refine d_take (v := Value.bool false) p4_12_6 ns4_12 (by kernel_rfl) (by kernel_rfl) (fun _ _ _ h => h) hE wn_none rfl ⟨B_g1, B_g5, B_g36, B_g47, trivial⟩ (fun W hS => (st_pick rfl rfl)) rfl ?_
      clear hE a; intro a hE
      refine d_take (v := Value.bool false) p4_12_7 ns4_12 (by kernel_rfl) (by kernel_rfl) (fun _ _ _ h => h) hE wn_none rfl ⟨B_g1, B_g5, B_g36, B_g47, trivial⟩ (fun W hS => (st_move rfl)) rfl ?_
      clear hE a; intro a hE
      refine d_take (v := Value.pointer (some ⟨g1, 4, none⟩)) p4_12_8 ns4_12 (by kernel_rfl) (by kernel_rfl) (fun _ _ _ h => h) hE (wn_some g4_12_7 rfl rfl) rfl ⟨B_g1, B_g5, B_g36, B_g47, trivial⟩ (fun W hS => (st_fieldAddr Try.underlying24 rfl tS3 rfl rfl)) rfl ?_
      clear hE a; intro a hE
      refine d_take (v := Value.int .i64 h) p4_12_9 ns4_12 (by kernel_rfl) (by kernel_rfl) (fun _ _ _ h => h) hE (wn_some g4_12_7 rfl rfl) rfl ⟨B_g1, B_g5, B_g36, B_g47, trivial⟩ (fun W hS => (st_load1 tA3 rfl ((blk_cell hS.1 4).trans rfl))) rfl ?_
      clear hE a; intro a hE
      refine d_take (v := Value.bool true) p4_12_10 ns4_12 (by kernel_rfl) (by kernel_rfl) (fun _ _ _ h => h) hE (wn_some g4_12_7 rfl rfl) rfl ⟨B_g1, B_g5, B_g36, B_g47, trivial⟩ (fun W hS => (st_geq (b := true) rfl rfl (decide_eq_true (by omega)))) rfl ?_
      clear hE a; intro a hE
      refine d_take (v := Value.bool true) p4_12_11 ns4_12 (by kernel_rfl) (by kernel_rfl) (fun _ _ _ h => h) hE (wn_some g4_12_7 rfl rfl) rfl ⟨B_g1, B_g5, B_g36, B_g47, trivial⟩ (fun W hS => (st_move rfl)) rfl ?_
      clear hE a; intro a hE
      refine d_take (v := Value.int .i64 0) p4_12_12 ns4_12 (by kernel_rfl) (by kernel_rfl) (fun _ _ _ h => h) hE (wn_some g4_12_11 rfl rfl) rfl ⟨B_g1, B_g5, B_g36, B_g47, trivial⟩ (fun W hS => (st_move rfl)) rfl ?_
      clear hE a; intro a hE
      refine d_take (v := Value.bool false) p4_12_13 ns4_12 (by kernel_rfl) (by kernel_rfl) (fun _ _ _ h => h) hE (wn_some g4_12_11 rfl rfl) rfl ⟨B_g1, B_g5, B_g36, B_g47, trivial⟩ (fun W hS => (st_neq (b := false) rfl rfl (by decide))) rfl ?_
      clear hE a; intro a hE
      refine d_take (v := Value.bool false) p4_12_14 ns4_12 (by kernel_rfl) (by kernel_rfl) (fun _ _ _ h => h) hE (wn_some g4_12_11 rfl rfl) rfl ⟨B_g1, B_g5, B_g36, B_g47, trivial⟩ (fun W hS => (st_move rfl)) rfl ?_
      clear hE a; intro a hE
      refine d_take (v := Value.agg (([Value.int .i64 c, Value.int .i64 f, Value.int .i64 l, Value.int .i64 x, Value.int .i64 (h - 1)] ++ b16 s ++ b16 d)).toArray) p4_12_15 ns4_12 (by kernel_rfl) (by kernel_rfl) (fun _ _ _ h => h) hE (wn_some g4_12_14 rfl rfl) rfl ⟨B_g1, B_g5, B_g36, B_g47, trivial⟩ (fun W hS => (st_loadN (off := 0) (k := 37) (vs := ([Value.int .i64 c, Value.int .i64 f, Value.int .i64 l, Value.int .i64 x, Value.int .i64 (h - 1)] ++ b16 s ++ b16 d)) tA27 tS27 rfl hS.2.2.1 rfl rfl)) rfl ?_
      clear hE a; intro a hE
      refine d_take (v := Value.agg (([Value.int .i64 c, Value.int .i64 f, Value.int .i64 l, Value.int .i64 x, Value.int .i64 (h - 1)] ++ b16 s ++ b16 d)).toArray) p4_12_17 ns4_12 (by kernel_rfl) (by kernel_rfl) (fun _ _ _ h => h) hE (wn_some g4_12_14 rfl rfl) rfl ⟨B_g1, B_g5, B_g36, B_g47, trivial⟩ (fun W hS => (st_loadN (off := 0) (k := 37) (vs := ([Value.int .i64 c, Value.int .i64 f, Value.int .i64 l, Value.int .i64 x, Value.int .i64 (h - 1)] ++ b16 s ++ b16 d)) tA24 tS24 rfl hS.2.2.2.1 rfl rfl)) rfl ?_
      clear hE a; intro a hE
      refine d_one (by kernel_rfl) rfl (s_call (xs := [Operand.tmp 90]) (args := [Value.agg (([Value.int .i64 c, Value.int .i64 f, Value.int .i64 l, Value.int .i64 x, Value.int .i64 (h - 1)] ++ b16 s ++ b16 d)).toArray]) p4_12_16 hE (wn_some g4_12_14 rfl rfl) rfl rfl Try.func23 cl23 (of_any c f l x (h - 1) s d _) ?_)
      rintro e w53 ⟨rfl, hk⟩
      replace B_g1 := kp_blk B_g1 hk (fun h => h)
      replace B_g5 := kp_blk B_g5 hk (fun h => h)
      replace B_g36 := kp_blk B_g36 hk (fun h => h)
      replace B_g47 := kp_blk B_g47 hk (fun h => h)
      replace O_q31 := own_keep O_q31 hk (fun _ _ h => h)
      replace O_q42 := own_keep O_q42 hk (fun _ _ h => h)
      replace K_0 := K_0.then_ hk (fun _ h => h.elim)
      refine ⟨_, rfl, ?_⟩
      clear hE a; intro a hE
      refine ⟨⟨B_g1, B_g5, B_g36, B_g47, trivial⟩, ?_⟩
      refine d_take (v := Value.bool false) p4_12_18 ns4_12 (by kernel_rfl) (by kernel_rfl) (fun _ _ _ h => h) hE (wn_some g4_12_14 rfl rfl) rfl ⟨B_g1, B_g5, B_g36, B_g47, trivial⟩ (fun W hS => (st_neqA (b := true) eg24 rfl rfl (eqA24_refl _ _ _ _ _ _ _))) rfl ?_
      clear hE a; intro a hE
      refine d_take (v := Value.bool false) p4_12_19 ns4_12 (by kernel_rfl) (by kernel_rfl) (fun _ _ _ h => h) hE (wn_some g4_12_11 rfl rfl) rfl ⟨B_g1, B_g5, B_g36, B_g47, trivial⟩ (fun W hS => (st_pick rfl rfl)) rfl ?_
      clear hE a; intro a hE
      refine d_take (v := Value.bool false) p4_12_20 ns4_12 (by kernel_rfl) (by kernel_rfl) (fun _ _ _ h => h) hE (wn_some g4_12_7 rfl rfl) rfl ⟨B_g1, B_g5, B_g36, B_g47, trivial⟩ (fun W hS => (st_pick rfl rfl)) rfl ?_
      clear hE a; intro a hE
      refine d_take (v := Value.bool false) p4_12_21 ns4_12 (by kernel_rfl) (by kernel_rfl) (fun _ _ _ h => h) hE wn_none rfl ⟨B_g1, B_g5, B_g36, B_g47, trivial⟩ (fun W hS => (st_pick rfl rfl)) rfl ?_
      clear hE a; intro a hE
      refine d_end (by kernel_rfl) ?_
      refine x_norm ?_
      refine c_cond (t := false) hE rfl ?_
      refine wp_skip ?_
      refine x_norm ?_
      exact tail1 c f l x h s d A cap ls RW w w53 g1 g5 B_g1 B_g5 n_g1_g5 z_0_g1 z_0_g5 K_0 hs hd F_rows hbyk hll hR_ a (En.sub hE ⟨rfl, rfl, rfl, trivial⟩)
  ·
    have hOk' : okF c f l x h = false := by simpa using hOk
    refine c_reg R4_2_l ?_
    refine p_cons (s_still p4_2_0 hE wn_none rfl (st_loadN (off := 0) (k := 37) (vs := ([Value.int .i64 c, Value.int .i64 f, Value.int .i64 l, Value.int .i64 x, Value.int .i64 h] ++ b16 s ++ b16 d)) tA27 tS27 rfl B_g5 rfl rfl) ?_)
    clear hE a; intro a hE
    refine p_cons (s_call (xs := [Operand.tmp 25]) (args := [Value.agg (([Value.int .i64 c, Value.int .i64 f, Value.int .i64 l, Value.int .i64 x, Value.int .i64 h] ++ b16 s ++ b16 d)).toArray]) p4_2_1 hE wn_none rfl rfl Try.func19 cl19 (enc_bad c f l x h s d hOk' _) ?_)
    rintro e w54 ⟨rfl, hk⟩
    replace B_g1 := kp_blk B_g1 hk (fun h => h)
    replace B_g5 := kp_blk B_g5 hk (fun h => h)
    replace K_0 := K_0.then_ hk (fun _ h => h.elim)
    refine ⟨_, rfl, ?_⟩
    clear hE a; intro a hE
    refine p_cons (s_still p4_2_2 hE wn_none rfl (st_move rfl) ?_)
    clear hE a; intro a hE
    refine p_cons (s_still p4_2_3 hE wn_none rfl (st_extract rfl rfl) ?_)
    clear hE a; intro a hE
    refine p_cons (s_still p4_2_4 hE wn_none rfl (st_extract rfl rfl) ?_)
    clear hE a; intro a hE
    refine p_cons (s_still p4_2_5 hE wn_none rfl (st_assign rfl) ?_)
    clear hE a; intro a hE
    refine p_cons (s_still p4_2_6 hE wn_none rfl (st_assign rfl) ?_)
    clear hE a; intro a hE
    refine p_nil ?_
    refine x_norm ?_
    refine c_reg R4_3_l ?_
    refine p_cons (s_still p4_3_0 hE wn_none rfl (st_loadN (off := 0) (k := 37) (vs := ([Value.int .i64 c, Value.int .i64 f, Value.int .i64 l, Value.int .i64 x, Value.int .i64 h] ++ b16 s ++ b16 d)) tA27 tS27 rfl B_g5 rfl rfl) ?_)
    clear hE a; intro a hE
    refine p_cons (s_call (xs := [Operand.tmp 30]) (args := [Value.agg (([Value.int .i64 c, Value.int .i64 f, Value.int .i64 l, Value.int .i64 x, Value.int .i64 h] ++ b16 s ++ b16 d)).toArray]) p4_3_1 hE wn_none rfl rfl Try.func18 cl18 (passed_bad c f l x h s d hOk' _) ?_)
    rintro e w55 ⟨rfl, hk⟩
    replace B_g1 := kp_blk B_g1 hk (fun h => h)
    replace B_g5 := kp_blk B_g5 hk (fun h => h)
    replace K_0 := K_0.then_ hk (fun _ h => h.elim)
    refine ⟨_, rfl, ?_⟩
    clear hE a; intro a hE
    refine p_cons (s_still p4_3_2 hE wn_none rfl (st_move rfl) ?_)
    clear hE a; intro a hE
    refine p_cons (s_still p4_3_3 hE wn_none rfl (st_extract rfl rfl) ?_)
    clear hE a; intro a hE
    refine p_cons (s_still p4_3_4 hE wn_none rfl (st_extract rfl rfl) ?_)
    clear hE a; intro a hE
    refine p_cons (s_alloc p4_3_5 hE wn_none rfl tZ27 ?_)
    clear hE a; intro g56 w57 z58 B_g56 hk a hE
    replace B_g56 : w57.heap[g56]? = some (.cells #[Value.int .i64 0, Value.int .i64 0, Value.int .i64 0, Value.int .i64 0, Value.int .i64 0, Value.int .u8 0, Value.int .u8 0, Value.int .u8 0, Value.int .u8 0, Value.int .u8 0, Value.int .u8 0, Value.int .u8 0, Value.int .u8 0, Value.int .u8 0, Value.int .u8 0, Value.int .u8 0, Value.int .u8 0, Value.int .u8 0, Value.int .u8 0, Value.int .u8 0, Value.int .u8 0, Value.int .u8 0, Value.int .u8 0, Value.int .u8 0, Value.int .u8 0, Value.int .u8 0, Value.int .u8 0, Value.int .u8 0, Value.int .u8 0, Value.int .u8 0, Value.int .u8 0, Value.int .u8 0, Value.int .u8 0, Value.int .u8 0, Value.int .u8 0, Value.int .u8 0, Value.int .u8 0] 27 (0, 0)) := B_g56
    have n_g1_g56 : g1 ≠ g56 := ne_new B_g1 z58
    have n_g5_g56 : g5 ≠ g56 := ne_new B_g5 z58
    have z_0_g56 := Nat.le_trans K_0.kept.1 z58
    replace B_g1 := kp_blk B_g1 hk (fun h => h)
    replace B_g5 := kp_blk B_g5 hk (fun h => h)
    replace K_0 := K_0.then_ hk (fun _ h => h.elim)
    clear hk
    refine p_cons (s_store (off := 0) (k := 37) (cs' := #[Value.int .i64 0, Value.int .i64 0, Value.int .i64 0, Value.int .i64 0, Value.int .i64 0, Value.int .u8 0, Value.int .u8 0, Value.int .u8 0, Value.int .u8 0, Value.int .u8 0, Value.int .u8 0, Value.int .u8 0, Value.int .u8 0, Value.int .u8 0, Value.int .u8 0, Value.int .u8 0, Value.int .u8 0, Value.int .u8 0, Value.int .u8 0, Value.int .u8 0, Value.int .u8 0, Value.int .u8 0, Value.int .u8 0, Value.int .u8 0, Value.int .u8 0, Value.int .u8 0, Value.int .u8 0, Value.int .u8 0, Value.int .u8 0, Value.int .u8 0, Value.int .u8 0, Value.int .u8 0, Value.int .u8 0, Value.int .u8 0, Value.int .u8 0, Value.int .u8 0, Value.int .u8 0]) p4_3_6 hE wn_none tS27 rfl rfl rfl rfl B_g56 (Nat.le_of_ble_eq_true rfl) rfl ?_)
    intro w59 B_g56' hk
    replace B_g1 := kp_blk B_g1 hk n_g1_g56
    replace B_g5 := kp_blk B_g5 hk n_g5_g56
    replace K_0 := K_0.then_ hk (fun k h => by rw [show k = g56 from h]; exact Or.inr z_0_g56)
    replace B_g56 := B_g56'
    clear hk
    refine p_cons (s_still p4_3_7 hE wn_none rfl (st_assign rfl) ?_)
    clear hE a; intro a hE
    refine p_nil ?_
    refine x_norm ?_
    refine c_reg R4_4_l ?_
    refine p_cons (s_still p4_4_0 hE wn_none rfl (st_loadN (off := 0) (k := 37) (vs := ([Value.int .i64 c, Value.int .i64 f, Value.int .i64 l, Value.int .i64 x, Value.int .i64 h] ++ b16 s ++ b16 d)) tA24 tS24 rfl B_g1 rfl rfl) ?_)
    clear hE a; intro a hE
    refine p_cons (s_call (xs := [Operand.tmp 34]) (args := [Value.agg (([Value.int .i64 c, Value.int .i64 f, Value.int .i64 l, Value.int .i64 x, Value.int .i64 h] ++ b16 s ++ b16 d)).toArray]) p4_4_1 hE wn_none rfl rfl Try.func20 cl20 (rchk_any c f l x h s d 1 (by rw [hOk']; rfl) _) ?_)
    rintro e w60 ⟨rfl, hk⟩
    replace B_g1 := kp_blk B_g1 hk (fun h => h)
    replace B_g5 := kp_blk B_g5 hk (fun h => h)
    replace B_g56 := kp_blk B_g56 hk (fun h => h)
    replace K_0 := K_0.then_ hk (fun _ h => h.elim)
    refine ⟨_, rfl, ?_⟩
    clear hE a; intro a hE
    refine p_cons (s_still p4_4_2 hE wn_none rfl (st_assign rfl) ?_)
    clear hE a; intro a hE
    refine p_nil ?_
    refine x_norm ?_
    refine wp_seq ?_
    refine c_reg R4_5_l ?_
    refine p_cons (s_still p4_5_0 hE wn_none rfl (st_move rfl) ?_)
    clear hE a; intro a hE
    refine p_cons (s_still p4_5_1 hE wn_none rfl (st_move rfl) ?_)
    clear hE a; intro a hE
    refine p_cons (s_still p4_5_2 hE wn_none rfl (st_neq (b := false) rfl rfl (by decide)) ?_)
    clear hE a; intro a hE
    refine p_cons (s_still p4_5_3 hE wn_none rfl (st_move rfl) ?_)
    clear hE a; intro a hE
    refine p_cons (s_still p4_5_4 hE (wn_some g4_5_3 rfl rfl) rfl (st_loadN (off := 0) (k := 37) (vs := ([Value.int .i64 c, Value.int .i64 f, Value.int .i64 l, Value.int .i64 x, Value.int .i64 h] ++ b16 s ++ b16 d)) tA27 tS27 rfl B_g5 rfl rfl) ?_)
    clear hE a; intro a hE
    refine p_cons (s_call (xs := [Operand.tmp 40]) (args := [Value.agg (([Value.int .i64 c, Value.int .i64 f, Value.int .i64 l, Value.int .i64 x, Value.int .i64 h] ++ b16 s ++ b16 d)).toArray]) p4_5_5 hE (wn_some g4_5_3 rfl rfl) rfl rfl Try.func16 cl16 (check_any c f l x h s d 1 (by rw [hOk']; rfl) _) ?_)
    rintro e w61 ⟨rfl, hk⟩
    replace B_g1 := kp_blk B_g1 hk (fun h => h)
    replace B_g5 := kp_blk B_g5 hk (fun h => h)
    replace B_g56 := kp_blk B_g56 hk (fun h => h)
    replace K_0 := K_0.then_ hk (fun _ h => h.elim)
    refine ⟨_, rfl, ?_⟩
    clear hE a; intro a hE
    refine p_cons (s_still p4_5_6 hE (wn_some g4_5_3 rfl rfl) rfl (st_move rfl) ?_)
    clear hE a; intro a hE
    refine p_cons (s_still p4_5_7 hE (wn_some g4_5_3 rfl rfl) rfl (st_neq (b := false) rfl rfl (by decide)) ?_)
    clear hE a; intro a hE
    refine p_cons (s_still p4_5_8 hE wn_none rfl (st_pick rfl rfl) ?_)
    clear hE a; intro a hE
    refine p_nil ?_
    refine x_norm ?_
    refine c_cond (t := false) hE rfl ?_
    refine wp_skip ?_
    refine x_norm ?_
    refine wp_seq ?_
    refine c_reg R4_7_l ?_
    refine p_cons (s_still p4_7_0 hE wn_none rfl (st_move rfl) ?_)
    clear hE a; intro a hE
    refine p_cons (s_still p4_7_1 hE wn_none rfl (st_neq (b := true) rfl rfl (by decide)) ?_)
    clear hE a; intro a hE
    refine p_cons (s_still p4_7_2 hE wn_none rfl (st_move rfl) ?_)
    clear hE a; intro a hE
    refine p_cons (s_still p4_7_3 hE (wn_some g4_7_2 rfl rfl) rfl (st_move rfl) ?_)
    clear hE a; intro a hE
    refine p_cons (s_still p4_7_4 hE (wn_some g4_7_2 rfl rfl) rfl (st_len Try.underlying36 rfl) ?_)
    clear hE a; intro a hE
    refine p_cons (s_still p4_7_5 hE (wn_some g4_7_2 rfl rfl) rfl (st_neq (b := false) rfl rfl (by decide)) ?_)
    clear hE a; intro a hE
    refine p_cons (s_still p4_7_6 hE (wn_some g4_7_2 rfl rfl) rfl (st_move rfl) ?_)
    clear hE a; intro a hE
    refine p_cons (s_still p4_7_7 hE (wn_some g4_7_6 rfl rfl) rfl (st_move rfl) ?_)
    clear hE a; intro a hE
    refine p_cons (s_still p4_7_8 hE (wn_some g4_7_6 rfl rfl) rfl (st_move rfl) ?_)
    clear hE a; intro a hE
    refine p_cons (s_still p4_7_9 hE (wn_some g4_7_6 rfl rfl) rfl (st_neq (b := false) rfl rfl (by decide)) ?_)
    clear hE a; intro a hE
    refine p_cons (s_still p4_7_10 hE (wn_some g4_7_2 rfl rfl) rfl (st_pick rfl rfl) ?_)
    clear hE a; intro a hE
    refine p_cons (s_still p4_7_11 hE wn_none rfl (st_pick rfl rfl) ?_)
    clear hE a; intro a hE
    refine p_cons (s_still p4_7_12 hE wn_none rfl (st_move rfl) ?_)
    clear hE a; intro a hE
    refine p_cons (s_still p4_7_13 hE (wn_some g4_7_12 rfl rfl) rfl (st_move rfl) ?_)
    clear hE a; intro a hE
    refine p_cons (s_still p4_7_14 hE (wn_some g4_7_12 rfl rfl) rfl (st_eql (b := false) rfl rfl (by decide)) ?_)
    clear hE a; intro a hE
    refine p_cons (s_still p4_7_15 hE (wn_some g4_7_12 rfl rfl) rfl (st_move rfl) ?_)
    clear hE a; intro a hE
    refine p_cons (s_skip p4_7_16 hE (wn_some g4_7_15 rfl rfl) rfl ?_)
    clear hE a; intro a hE
    refine p_cons (s_skip p4_7_17 hE (wn_some g4_7_15 rfl rfl) rfl ?_)
    clear hE a; intro a hE
    refine p_cons (s_skip p4_7_18 hE (wn_some g4_7_15 rfl rfl) rfl ?_)
    clear hE a; intro a hE
    refine p_cons (s_skip p4_7_19 hE (wn_some g4_7_15 rfl rfl) rfl ?_)
    clear hE a; intro a hE
    refine p_cons (s_skip p4_7_20 hE (wn_some g4_7_15 rfl rfl) rfl ?_)
    clear hE a; intro a hE
    refine p_cons (s_still p4_7_21 hE (wn_some g4_7_12 rfl rfl) rfl (st_pick rfl rfl) ?_)
    clear hE a; intro a hE
    refine p_cons (s_still p4_7_22 hE wn_none rfl (st_pick rfl rfl) ?_)
    clear hE a; intro a hE
    refine p_nil ?_
    refine x_norm ?_
    refine c_cond (t := false) hE rfl ?_
    refine wp_skip ?_
    refine x_norm ?_
    refine wp_seq ?_
    refine c_reg R4_9_l ?_
    refine p_cons (s_still p4_9_0 hE wn_none rfl (st_move rfl) ?_)
    clear hE a; intro a hE
    refine p_cons (s_still p4_9_1 hE wn_none rfl (st_eql (b := false) rfl rfl (by decide)) ?_)
    clear hE a; intro a hE
    refine p_nil ?_
    refine x_norm ?_
    refine c_cond (t := false) hE rfl ?_
    refine wp_skip ?_
    refine x_norm ?_
    exact tail1 c f l x h s d A cap ls RW w w61 g1 g5 B_g1 B_g5 n_g1_g5 z_0_g1 z_0_g5 K_0 hs hd F_rows hbyk hll hR_ a (En.sub hE ⟨rfl, rfl, rfl, trivial⟩)
theorem reps_one {α : Type} {f : α → Value} {R : α → List Value → Prop} (hR : ∀ p c, R p c → c = [f p]) {z : List α} {cs : List Value} (h : Reps R 1 z cs) : cs = z.map f := by
  apply List.ext_getElem?
  intro i
  by_cases hi : i < z.length
  · have h2 := hR _ _ (h.2 i _ (List.getElem?_eq_getElem hi))
    have h3 := congrArg (fun l => l[0]?) h2
    simp only [Nat.mul_one, List.getElem?_take, List.getElem?_drop] at h3
    simp only [List.getElem?_map, List.getElem?_eq_getElem hi]
    simpa using h3
  · have h1 := h.1
    rw [List.getElem?_eq_none (by omega), List.getElem?_eq_none (by simp; omega)]
theorem arr16 {w : World} {z : List Int} {cs : List Value} {hs : 0 < (Kd.int .u8).sz} (h : (Kd.arr 16 (Kd.int .u8) hs).K w z cs) : cs = b16 (fun i => z.getD i 0) := by
  obtain ⟨hl, hr⟩ := h
  have e := reps_one (f := Value.int .u8) (fun p c hc => by exact hc) hr
  match z, hl with
  | [a0, a1, a2, a3, a4, a5, a6, a7, a8, a9, a10, a11, a12, a13, a14, a15], _ => rw [e]; rfl
theorem walk (l0 : List Value) (z0 : Int × Int × Int × Int × Int × (List (Int)) × (List (Int))) (a1 : Option Addr) (cap1 : Nat) (z1 : List (List (Int))) (w : World) (w0 : Kd.K (Kd.pair (Kd.int .i64) (Kd.pair (Kd.int .i64) (Kd.pair (Kd.int .i64) (Kd.pair (Kd.int .i64) (Kd.pair (Kd.int .i64) (Kd.pair (Kd.arr 16 (Kd.int .u8) (by decide)) (Kd.arr 16 (Kd.int .u8) (by decide)))))))) w z0 l0) (o0 : ((Lit.int .i64 z0.1).wf = true ∧ ((Lit.int .i64 z0.2.1).wf = true ∧ ((Lit.int .i64 z0.2.2.1).wf = true ∧ ((Lit.int .i64 z0.2.2.2.1).wf = true ∧ ((Lit.int .i64 z0.2.2.2.2.1).wf = true ∧ ((z0.2.2.2.2.2.1.length = 16 ∧ ∀ x0 ∈ z0.2.2.2.2.2.1, (Lit.int .u8 x0).wf = true) ∧ ((z0.2.2.2.2.2.2.length = 16 ∧ ∀ x0 ∈ z0.2.2.2.2.2.2, (Lit.int .u8 x0).wf = true))))))))) (w1 : Kd.C (Kd.slice 5 (Kd.int .u8)) w a1 z1.length z1) (m1 : z1.length ≤ cap1) (o1 : (z1.length ≤ maxLen ∧ ∀ x0 ∈ z1, (x0.length ≤ maxLen ∧ ∀ x1 ∈ x0, (Lit.int .u8 x1).wf = true))) (y1 : z1.length * Try.prog.bytesOf 36 ≤ 140737488351232) (c1 : cap1 ≤ maxLen ∧ (a1 = none → cap1 = 0)) :
    Calls Try.prog 4 #[.agg ⟨l0⟩, .slice a1 z1.length cap1] w fun e w' => e = .returned (.bool true) ∧ Below w.heap.size w w' := by
  obtain ⟨c, f, l, x, h, s, d⟩ := z0
  obtain ⟨_, _, rfl, rfl, _, _, rfl, rfl, _, _, rfl, rfl, _, _, rfl, rfl, _, _, rfl, rfl, _, _, rfl, hs, hd⟩ := w0
  have es := arr16 hs
  have ed := arr16 hd
  subst es ed
  have wf8 : ∀ y : Int, (Lit.int .u8 y).wf = true → 0 ≤ y ∧ y ≤ 255 := fun y hy => by simp [Lit.wf, IntKind.min, IntKind.max, IntKind.signed, IntKind.bits] at hy; omega
  have bd : ∀ (q : List Int), (∀ y ∈ q, (Lit.int .u8 y).wf = true) → ∀ i : Nat, 0 ≤ q.getD i 0 ∧ q.getD i 0 ≤ 255 := fun q hq i => by
    rw [List.getD_eq_getElem?_getD]
    by_cases hi : i < q.length
    · rw [List.getElem?_eq_getElem hi]; exact wf8 _ (hq _ (List.getElem_mem hi))
    · rw [List.getElem?_eq_none (by omega)]; simp
  obtain ⟨RW, hRW⟩ := rows2 w1
  exact law_R c f l x h (fun i => s.getD i 0) (fun i => d.getD i 0) a1 cap1 z1 RW w (fun i _ => bd s o0.2.2.2.2.2.1.2 i) (fun i _ => bd d o0.2.2.2.2.2.2.2 i) hRW (by
    intro k y hy
    obtain ⟨r, hr, hy2⟩ := List.mem_flatten.1 hy
    obtain ⟨i, hi, rfl⟩ := List.mem_map.1 hr
    unfold tl at hy2
    have hy3 := List.mem_of_mem_take hy2
    rw [List.getD_eq_getElem?_getD] at hy3
    by_cases hi2 : i < z1.length
    · rw [List.getElem?_eq_getElem hi2] at hy3
      exact wf8 _ ((o1.2 _ (List.getElem_mem hi2)).2 _ hy3)
    · rw [List.getElem?_eq_none (by omega)] at hy3; simp at hy3) (by have := o1.1; unfold maxLen at this; omega) (fun w' hk => ⟨rfl, hk.to (Nat.le_refl _) (fun _ h => h.elim)⟩)
end Go.Proofs.Ytndiddfleidnaaa.Hbt
