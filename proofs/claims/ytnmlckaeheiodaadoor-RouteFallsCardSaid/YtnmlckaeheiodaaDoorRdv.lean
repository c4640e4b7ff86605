/- Rows of structs that are read alone: parts of them, appended behind a row of the call's own. -/
import Derived.Test.YtnmlckaeheiodaaDoorRs
set_option maxRecDepth 100000
set_option linter.unusedVariables false
set_option linter.unusedSimpArgs false
namespace Go.Proofs.YtnmlckaeheiodaaDoor.Rv
open Go.RowKit Go.Proofs.YtnmlckaeheiodaaDoorW.PrintWords Go.Proofs.YtnmlckaeheiodaaDoor.Ds
open Go.Proofs.YtnmlckaeheiodaaDoor.Pk (Kp)
/-- n elements of s cells lie at A. -/
structure RdV (w : World) (A : Option Addr) (n s : Nat) (ys : List Value) : Prop where
 len : ys.length = n * s
 ones : ∀ u ∈ ys, u.oneCell' = true
 there : 0 < n → A = some (A.getD default)
 low : ∀ k, OB A k → k < w.heap.size
 at_ : ∀ j u, ys[j]? = some u → w.cell? (ea A j) = some u
theorem rdv_nil (w : World) (s : Nat) : RdV w none 0 s [] := ⟨by simp, by simp, by simp, fun k h => absurd h ob_nil, by simp⟩
theorem rdv_ob {w : World} {A : Option Addr} {n s : Nat} {ys : List Value} (h : RdV w A n s ys) {k : Nat} (hk : OB A k) : 0 ≤ k ∧ k < w.heap.size := ⟨Nat.zero_le _, h.low k hk⟩
theorem ea_block {A : Option Addr} {j : Nat} {x : Addr} (h : A = some x) : (ea A j).block = x.block := by
 subst h
 show (Addr.add x j).block = x.block
 unfold Addr.add
 split <;> rfl
theorem rdv_keep {w w' : World} {A : Option Addr} {n s : Nat} {ys : List Value} {S : Nat → Prop} (h : RdV w A n s ys) (hk : Kp w w' S) (hn : ∀ k, OB A k → ¬ S k) : RdV w' A n s ys := by
 refine ⟨h.len, h.ones, h.there, fun k q => Nat.lt_of_lt_of_le (h.low k q) hk.kept.1, fun j u hu => ?_⟩
 have hj := (List.getElem?_eq_some_iff.1 hu).1
 have hn0 : 0 < n := by
  rcases Nat.eq_zero_or_pos n with q | q
  · rw [h.len, q, Nat.zero_mul] at hj; omega
  · exact q
 have hA := h.there hn0
 exact cell_kept (h.at_ j u hu) hk.kept (by rw [ea_block hA]; exact hn _ ⟨_, hA, rfl⟩)
theorem own_rdv {w : World} {base e s n c : Nat} {A : Option Addr} {xs : List Value} (h : w.ownsRow base e s (.slice A n c) n xs) (h1 : ∀ u ∈ xs, u.oneCell' = true) : RdV w A n s xs := by
 refine ⟨h.1, h1, fun h0 => ?_, fun k q => (own_ob h q).2, fun j u hu => ?_⟩
 ·
  rcases h.2 with ⟨h2, h3⟩ | ⟨g, cap, cur, h2, _⟩
  · omega
  · injection h2 with h3; rw [h3]; rfl
 ·
  rcases h.2 with ⟨h2, h3⟩ | ⟨g, cap, cur, h2, _, h4, _, _, _, h7⟩
  ·
   have := (List.getElem?_eq_some_iff.1 hu).1
   rw [h.1, h3, Nat.zero_mul] at this
   omega
  ·
   injection h2 with h3
   subst h3
   show w.cell? (Addr.add ⟨g, 0, none⟩ j) = some u
   rw [add_mk, Nat.zero_add, cell_of_row w g j cur _ _ h4, ← Array.getElem?_toList]
   have hj := (List.getElem?_eq_some_iff.1 hu).1
   rw [← h7, List.getElem?_take] at hu
   split at hu
   · exact hu
   · cases hu
theorem rdv_take {w : World} {A : Option Addr} {n s i : Nat} {ys : List Value} (h : RdV w A n s ys) (hi : i ≤ n) : RdV w A i s (ys.take (i * s)) := by
 refine ⟨?_, fun u hu => h.ones u (List.mem_of_mem_take hu), fun h0 => h.there (by omega), h.low, fun j u hu => ?_⟩
 · rw [List.length_take, h.len]; have := Nat.mul_le_mul_right s hi; omega
 ·
  rw [List.getElem?_take] at hu
  split at hu
  · exact h.at_ j u hu
  · cases hu
theorem rdv_drop {w : World} {A A' : Option Addr} {n s i r c : Nat} {ys : List Value} (h : RdV w A n s ys) (hi : i ≤ n) (hc : n ≤ c) (hr : n - i = r) (hA : (if c = i then A else A.map (·.add (i * s))) = A') : RdV w A' r s (ys.drop (i * s)) := by
 have hlen : (ys.drop (i * s)).length = r * s := by rw [List.length_drop, h.len, ← Nat.sub_mul, hr]
 refine ⟨hlen, fun u hu => h.ones u (List.mem_of_mem_drop hu), fun h0 => ?_, fun k q => ?_, fun j u hu => ?_⟩
 ·
  rw [if_neg (by omega)] at hA
  rw [← hA, h.there (by omega)]; rfl
 ·
  split at hA
  · rw [← hA] at q; exact h.low k q
  ·
   rw [← hA] at q
   obtain ⟨x, hx, rfl⟩ := q
   cases hA2 : A with
   | none => rw [hA2] at hx; cases hx
   | some y =>
    rw [hA2] at hx
    injection hx with hx
    refine h.low _ ⟨y, hA2, ?_⟩
    rw [← hx]
    show y.block = (Addr.add y (i * s)).block
    unfold Addr.add; split <;> rfl
 ·
  have hj := (List.getElem?_eq_some_iff.1 hu).1
  have h0 : 0 < r := by
   rcases Nat.eq_zero_or_pos r with q | q
   · rw [hlen, q, Nat.zero_mul] at hj; omega
   · exact q
  rw [if_neg (by omega)] at hA
  have hA0 := h.there (by omega)
  rw [List.getElem?_drop] at hu
  have := h.at_ _ u hu
  rw [← hA, hA0]
  show w.cell? (Addr.add (Addr.add (A.getD default) (i * s)) j) = some u
  rw [addr_add2]
  exact this
/-- One of the elements. -/
theorem rdv_elem {α : Type} {fl : α → List Value} {w : World} {A : Option Addr} {n s i : Nat} {l : List α} {x : α} (h : RdV w A n s (l.flatMap fl)) (hs0 : 0 < s) (hs : ∀ x, (fl x).length = s) (hx : l[i]? = some x) : A = some (A.getD default) ∧ ∀ j u, (fl x)[j]? = some u → w.cell? (ea A (i * s + j)) = some u := by
 have key : ∀ (l : List α) (i : Nat), l[i]? = some x → ∀ j u, (fl x)[j]? = some u → (l.flatMap fl)[i * s + j]? = some u := by
  intro l
  induction l with
  | nil => intro i h; cases h
  | cons a l ih =>
   intro i hi j u hu
   rw [List.flatMap_cons]
   cases i with
   | zero =>
    injection hi with hi
    subst hi
    rw [Nat.zero_mul, Nat.zero_add, List.getElem?_append_left (List.getElem?_eq_some_iff.1 hu).1]
    exact hu
   | succ i =>
    have hl := hs a
    rw [List.getElem?_append_right (by rw [hl, Nat.succ_mul]; omega), hl, show (i + 1) * s + j - s = i * s + j by rw [Nat.succ_mul]; omega]
    exact ih i hi j u hu
 have hn : 0 < n := by
  have hlt := (List.getElem?_eq_some_iff.1 hx).1
  rcases Nat.eq_zero_or_pos n with q | q
  ·
   exfalso
   have h0 := hs x
   have hlt2 : 0 < (fl x).length := by omega
   have := key l i hx 0 _ (List.getElem?_eq_getElem hlt2)
   have hb := (List.getElem?_eq_some_iff.1 this).1
   rw [h.len, q, Nat.zero_mul] at hb
   omega
  · exact q
 exact ⟨h.there hn, fun j u hu => h.at_ _ u (key l i hx j u hu)⟩
theorem flat_take {α : Type} {fl : α → List Value} {s : Nat} (hs : ∀ x, (fl x).length = s) : ∀ (l : List α) (i : Nat), (l.flatMap fl).take (i * s) = (l.take i).flatMap fl
 | [], i => by simp
 | a :: l, 0 => by simp
 | a :: l, i + 1 => by
  rw [List.flatMap_cons, List.take_succ_cons, List.flatMap_cons, List.take_append, hs, List.take_of_length_le (by rw [hs, Nat.succ_mul]; omega), show (i + 1) * s - s = i * s by rw [Nat.succ_mul]; omega, flat_take hs l i]
theorem flat_drop {α : Type} {fl : α → List Value} {s : Nat} (hs : ∀ x, (fl x).length = s) : ∀ (l : List α) (i : Nat), (l.flatMap fl).drop (i * s) = (l.drop i).flatMap fl
 | [], i => by simp
 | a :: l, 0 => by simp
 | a :: l, i + 1 => by
  rw [List.flatMap_cons, List.drop_succ_cons, List.drop_append, hs, List.drop_of_length_le (by rw [hs, Nat.succ_mul]; omega), List.nil_append, show (i + 1) * s - s = i * s by rw [Nat.succ_mul]; omega, flat_drop hs l i]
section
variable {P : Program} {R : Array Oper} {Q : Exit → Act → World → Prop} {K : Act → World → Prop} {i n : Nat} {a : Act} {w : World} {m : List (Nat × Value)} {T T1 : TypeId} {g : Option (Nat × Bool)} {d : Nat} {X Y : Operand}
/-- A row behind a row of the call's own. -/
theorem s_appendV {A A2 : Option Addr} {q c n' base s by' qc e : Nat} {xs ys : List Value} (hp : pj R i = some (some d, .call { callee := .builtin .append, args := #[X, Y], argTypes := #[T1, T1] }, T, g)) (hE : En n a m) (hw : Wn R m g true) (hd : Nat.blt d n = true)
  (hT : P.underlying T1 = some (.slice e)) (hi : elemD P e = some (s, s, by')) (hs0 : 0 < s) (hx : ev m X = some (.slice A n' c)) (ho : w.ownsRow base e s (.slice A n' c) n' xs) (hy : ev m Y = some (.slice A2 q qc)) (hR : RdV w A2 q s ys)
  (h63 : n' + q ≤ 9223372036854775807) (hby : (n' + q) * by' ≤ 140737488355328) (hb : base ≤ w.heap.size)
  (h : ∀ A' c' w', w'.ownsRow base e s (.slice A' (n' + q) c') (n' + q) (xs ++ ys) → Kp w w' (OB A) → (∀ k, OB A' k → OB A k ∨ w.heap.size ≤ k) → ∀ a, En n a ((d, .slice A' (n' + q) c') :: m) → K a w') (hqc : A2 = none → qc = 0) : wpOp P R Q i K a w := by
 cases A2 with
 | some ad =>
  exact s_append (news := ys) hp hE hw hd hT hi hs0 hx ho hy hR.len (fun j u hj => hR.at_ j u hj) hR.ones h63 hby hb h
 | none =>
  obtain rfl := hqc rfl
  have h0 : q = 0 := by
   rcases Nat.eq_zero_or_pos q with h | h
   · exact h
   · have := hR.there h; cases this
  subst h0
  have hys : ys = [] := List.eq_nil_of_length_eq_zero (by rw [hR.len]; simp)
  subst hys
  have hnc := (own_caps ho).1
  have key := h A c w (by rw [Nat.add_zero, List.append_nil]; exact ho) (Kp.refl _ _) (fun k hk => .inl hk)
  rw [Nat.add_zero] at key
  clear h
  refine s_step hp hE hw hd (fun o e1 e2 => ⟨.slice A n' c, w, ?_, key⟩)
  unfold execOp; rw [e1]
  simp only [resolve, invoke, builtin, Sem.run_bind, Sem.run_pure, Result.andThen_ok, List.map_toArray, List.map_cons, List.map_nil, hE.ev hx, hE.ev hy, run_append_none T1 o.type e s by' hT hi A n' c 0 hnc]
end
section
variable {P : Program} {R : Array Oper} {Q : Exit → Act → World → Prop} {S : World → Prop} {i n fuel d : Nat} {a : Act} {w : World} {m : List (Nat × Value)} {op : Op} {T : TypeId} {v : Value} {g : Option (Nat × Bool)} {listed listed' : Array Bool}
/-- Taken first, said short. -/
theorem dq (hp : pj R i = some (some d, op, T, g)) (hs : Region.noSelect R = true) (hE : En n a m) (hw : Wn R m g true) (hS : S w) (hv : ∀ w, S w → Still P op T m w v) (h : ∀ a, En n a ((d, v) :: m) → wpAnyH P .any R Q S fuel listed' a w)
  (hQ : ∀ c a w, Q (.panic c) (a.put (some d) v) w → Q (.panic c) a w := by exact fun _ _ _ h => h) (hf : Region.free .any R listed i = true := by kernel_rfl) (hr : (Region.ready .any R listed).contains i = true := by kernel_rfl) (hd : Nat.blt d n = true := by rfl) (hl : listed.setIfInBounds i true = listed' := by rfl) : wpAnyH P .any R Q S (fuel + 1) listed a w := d_take hp hs hf hr hQ hE hw hd hS hv hl h
theorem dk (hp : pj R i = some (some d, op, T, g)) (hs : Region.noSelect R = true) (hE : En n a m) (hw : Wn R m g false) (hS : S w) (h : ∀ a, En n a ((d, undef) :: m) → wpAnyH P .any R Q S fuel listed' a w)
  (hQ : ∀ c a w, Q (.panic c) (a.put (some d) undef) w → Q (.panic c) a w := by exact fun _ _ _ h => h) (hf : Region.free .any R listed i = true := by kernel_rfl) (hr : (Region.ready .any R listed).contains i = true := by kernel_rfl) (hd : Nat.blt d n = true := by rfl) (hl : listed.setIfInBounds i true = listed' := by rfl) : wpAnyH P .any R Q S (fuel + 1) listed a w := d_skip hp hs hf hr hQ hE hw hd hS hl h
end
/-- Ways that meet: what follows is proved once. -/
theorem join_have {P : Program} {c y : Code} {Q : Exit → Act → World → Prop} {I : Act → World → Prop} {a : Act} {w : World} (h2 : ∀ a W, I a W → y.wp P Q a W) (h : (∀ a W, I a W → y.wp P Q a W) → c.wp P Q a w) : c.wp P Q a w := h h2
end Go.Proofs.YtnmlckaeheiodaaDoor.Rv
