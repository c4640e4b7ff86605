/- Maps whose keys are pairs of whole numbers: looked up, updated. -/
import Derived.Test.YtpnpfapdjdcnbaaRs
import Derived.MapKept
import Derived.Scope
set_option maxRecDepth 100000
set_option linter.unusedVariables false
set_option linter.unusedSimpArgs false
namespace Go.Proofs.Ytpnpfapdjdcnbaa.Mp
open Go.RowKit Go.Proofs.YtpnpfapdjdcnbaaW.PrintWords Go.Proofs.Ytpnpfapdjdcnbaa.Ds
open Go.Proofs.Ytpnpfapdjdcnbaa.Pk (Kp)
open Go.MapKept (run_checkKey IsKey)
abbrev KV := (Int × Int) × Int
def kenc (k : Int × Int) : Value := .agg #[.int .i64 k.1, .int .i64 k.2]
def getL : List KV → Int → Int → Option Int
  | [], _, _ => none
  | p :: l, x, y => if p.1.1 = x ∧ p.1.2 = y then some p.2 else getL l x y
/-- The entries read as a table: no key twice. -/
def MapF (es : Array MapEntry) (f : Int → Int → Option Int) : Prop :=
  ∃ l : List KV, es.toList.map (fun e => (e.key, e.val)) = l.map (fun p => (kenc p.1, Value.int .i64 p.2)) ∧ (l.map (·.1)).Nodup ∧ ∀ x y, f x y = getL l x y
def setF (f : Int → Int → Option Int) (x y v : Int) : Int → Int → Option Int := fun a b => if a = x ∧ b = y then some v else f a b
theorem mapf_nil : MapF #[] (fun _ _ => none) := ⟨[], rfl, List.nodup_nil, fun _ _ => rfl⟩
def findL : List KV → Int → Int → Nat → Option (Nat × Value)
  | [], _, _, _ => none
  | p :: l, x, y, i => if x = p.1.1 ∧ y = p.1.2 then some (i, .int .i64 p.2) else findL l x y (i + 1)
theorem findL_get : ∀ (l : List KV) (x y : Int) (i : Nat), (findL l x y i).map (·.2) = (getL l x y).map (Value.int .i64)
  | [], _, _, _ => rfl
  | p :: l, x, y, i => by
    unfold findL getL
    by_cases h : p.1.1 = x ∧ p.1.2 = y
    · rw [if_pos h, if_pos ⟨h.1.symm, h.2.symm⟩]; rfl
    · rw [if_neg h, if_neg (fun q => h ⟨q.1.symm, q.2.symm⟩)]; exact findL_get l x y (i + 1)
theorem findL_split : ∀ (l : List KV) (x y : Int) (i : Nat) (j : Nat) (v : Value), findL l x y i = some (j, v) → ∃ as p bs, l = as ++ p :: bs ∧ j = i + as.length ∧ p.1 = (x, y)
  | [], _, _, _, _, _, h => by cases h
  | p :: l, x, y, i, j, v, h => by
    unfold findL at h
    split at h
    · rename_i hp
      injection h with h
      injection h with h1 h2
      exact ⟨[], p, l, rfl, by simp [h1], by rw [hp.1, hp.2]⟩
    · obtain ⟨as, q, bs, h1, h2, h3⟩ := findL_split l x y (i + 1) j v h
      exact ⟨p :: as, q, bs, by rw [h1]; rfl, by rw [h2, List.length_cons]; omega, h3⟩
theorem getL_none : ∀ (l : List KV) (x y : Int), getL l x y = none → (x, y) ∉ l.map (·.1)
  | [], _, _, _ => by simp
  | p :: l, x, y, h => by
    unfold getL at h
    split at h
    · cases h
    · rename_i hp
      rw [List.map_cons, List.mem_cons]
      rintro (h1 | h1)
      · exact hp (by rw [← h1]; exact ⟨rfl, rfl⟩)
      · exact getL_none l x y h h1
theorem getL_app : ∀ (as bs : List KV) (x y : Int), getL (as ++ bs) x y = (getL as x y).or (getL bs x y)
  | [], _, _, _ => by simp [getL]
  | p :: as, bs, x, y => by
    show (if p.1.1 = x ∧ p.1.2 = y then some p.2 else getL (as ++ bs) x y) = (if p.1.1 = x ∧ p.1.2 = y then some p.2 else getL as x y).or (getL bs x y)
    split
    · rfl
    · exact getL_app as bs x y
theorem modify_at {α : Type} (f : α → α) : ∀ (as : List α) (e : α) (bs : List α), (as ++ e :: bs).modify as.length f = as ++ f e :: bs
  | [], e, bs => by simp [List.modify]
  | a :: as, e, bs => by
    rw [List.cons_append, List.length_cons, List.modify_succ_cons, modify_at f as e bs]
    rfl
section
variable {P : Program} {w : World} {kt ie : TypeId}
theorem run_equal (hf : flat P 9 kt = some [some .i64, some .i64]) (hA : flat.isAggT P kt = true) (a b : Int × Int) : (Op.equal kt (kenc a) (kenc b)).run P w = .ok (decide (a.1 = b.1 ∧ a.2 = b.2)) w := by
  have h := eqA_flat hf hA (xs := [.int .i64 a.1, .int .i64 a.2]) (ys := [.int .i64 b.1, .int .i64 b.2]) (b := decide (a.1 = b.1 ∧ a.2 = b.2)) rfl rfl (by
    unfold eqL eqL eqL
    by_cases h1 : a.1 = b.1 <;> by_cases h2 : a.2 = b.2 <;> simp [eqV, h1, h2]) w
  exact h
theorem run_asking (hf : flat P 9 kt = some [some .i64, some .i64]) (hA : flat.isAggT P kt = true) (x y : Int) : ∀ (es : List MapEntry) (l : List KV) (i : Nat), es.map (fun e => (e.key, e.val)) = l.map (fun p => (kenc p.1, Value.int .i64 p.2)) → (Instr.findAsking kt (kenc (x, y)) es i).run P w = .ok (findL l x y i) w
  | [], [], i, _ => rfl
  | [], _ :: _, _, h => by cases h
  | _ :: _, [], _, h => by cases h
  | e :: es, p :: l, i, h => by
    rw [List.map_cons, List.map_cons] at h
    injection h with h1 h2
    injection h1 with h3 h4
    unfold Instr.findAsking findL
    rw [Sem.run_bind, h3, run_equal hf hA, Result.andThen_ok]
    by_cases hp : x = p.1.1 ∧ y = p.1.2
    · rw [decide_eq_true hp, if_pos hp, h4]; rfl
    · rw [decide_eq_false hp, if_neg hp]; exact run_asking hf hA x y es l (i + 1) h2
theorem run_find (hf : flat P 9 kt = some [some .i64, some .i64]) (hA : flat.isAggT P kt = true) {n : Nat} (hk : P.underlying kt = some (.array n ie)) (x y : Int) (es : List MapEntry) (l : List KV) (h : es.map (fun e => (e.key, e.val)) = l.map (fun p => (kenc p.1, Value.int .i64 p.2))) : (Instr.findKey kt (kenc (x, y)) es).run P w = .ok (findL l x y 0) w := by
  unfold Instr.findKey
  rw [Sem.run_bind, run_underlying hk, Result.andThen_ok]
  cases es with
  | nil => cases l with
    | nil => rfl
    | cons _ _ => cases h
  | cons e es => exact run_asking hf hA x y (e :: es) l 0 h
theorem run_part (hi : P.underlying ie = some (.int .i64)) {cs : Array Value} {j : Nat} {v : Value} (h : cs[j]? = some v) : (part ie cs j).run P w = .ok v w := by
  unfold part
  rw [Sem.run_bind, run_isAggD (b := false) (by rw [hi]; rfl), Result.andThen_ok]
  simp [h]
theorem run_check (hk : P.underlying kt = some (.array 2 ie)) (hi : P.underlying ie = some (.int .i64)) (hs : (P.info? ie).map (·.size) = some 1) (b : Bool) (n : Nat) (k : Int × Int) : (Instr.checkKey b (n + 2) kt (kenc k)).run P w = .ok () w := by
  unfold Instr.checkKey
  simp only [Sem.run_bind, run_underlying hk, Result.andThen_ok]
  unfold kenc
  simp only [Sem.run_bind, Result.andThen_ok]
  simp only [Std.Legacy.Range.forIn_eq_forIn_range', Std.Legacy.Range.size, Nat.sub_zero, Nat.add_one_sub_one, Nat.div_one]
  rw [show List.range' 0 2 1 = [0, 1] from rfl]
  simp only [List.forIn_cons, List.forIn_nil, Sem.run_bind, run_sizeD hs, Result.andThen_ok, Nat.zero_mul, Nat.one_mul]
  rw [run_part hi (v := .int .i64 k.1) rfl, Result.andThen_ok, run_checkKey (d := .int .i64) (k := .int .i64 k.1) hi rfl, Result.andThen_ok]
  simp only [Sem.run_pure, Result.andThen_ok, Sem.run_bind, run_sizeD hs, Nat.one_mul]
  rw [run_part hi (v := .int .i64 k.2) rfl, Result.andThen_ok, run_checkKey (d := .int .i64) (k := .int .i64 k.2) hi rfl, Result.andThen_ok]
  rfl
theorem run_get {r ck : Nat} {es : Array MapEntry} {f : Int → Int → Option Int} {mt et : TypeId} {z : Int} (hm : P.underlying mt = some (.map kt et)) (hk : P.underlying kt = some (.array 2 ie)) (hi : P.underlying ie = some (.int .i64)) (hs : (P.info? ie).map (·.size) = some 1) (hf : flat P 9 kt = some [some .i64, some .i64]) (hA : flat.isAggT P kt = true) (hz : (P.info? et).bind (·.zero) = some (.int .i64 z)) (hb : w.heap[r]? = some (.map es ck)) (hF : MapF es f) (x y : Int) :
    (Instr.lookup mt (.map (some r)) (kenc (x, y)) true).run P w = .ok (.tuple #[.int .i64 ((f x y).getD z), .bool (f x y).isSome]) w := by
  obtain ⟨l, he, hn, hfl⟩ := hF
  unfold Instr.lookup
  simp only [Sem.run_bind, run_underlying hm, Result.andThen_ok, Go.MapKept.run_getObj_map hb, Sem.run_pure]
  rw [run_check hk hi hs, Result.andThen_ok, run_find hf hA hk x y es.toList l he, Result.andThen_ok]
  have h1 := findL_get l x y 0
  rw [hfl x y]
  cases hq : findL l x y 0 with
  | none =>
    rw [hq] at h1
    cases hg : getL l x y with
    | none => simp [run_zeroD hz]
    | some v => rw [hg] at h1; cases h1
  | some q =>
    rw [hq] at h1
    cases hg : getL l x y with
    | none => rw [hg] at h1; cases h1
    | some v =>
      rw [hg] at h1
      obtain ⟨j, u⟩ := q
      injection h1 with h1
      simp only at h1
      subst h1
      simp
theorem mapf_put {es : Array MapEntry} {l : List KV} {x y v : Int} {f : Int → Int → Option Int} (he : es.toList.map (fun e => (e.key, e.val)) = l.map (fun p => (kenc p.1, Value.int .i64 p.2))) (hn : (l.map (·.1)).Nodup) (hfl : ∀ x y, f x y = getL l x y) (hq : findL l x y 0 = none) (ck : Nat) : MapF (es.push { key := kenc (x, y), val := .int .i64 v, born := ck }) (setF f x y v) := by
  have hg : getL l x y = none := by
    have h1 := findL_get l x y 0
    rw [hq] at h1
    cases hg : getL l x y with
    | none => rfl
    | some v => rw [hg] at h1; cases h1
  refine ⟨l ++ [((x, y), v)], ?_, ?_, fun a b => ?_⟩
  · rw [Array.toList_push, List.map_append, List.map_append, he]; rfl
  · rw [List.map_append, List.nodup_append]
    refine ⟨hn, by simp, ?_⟩
    intro p hp q hq2 e
    rw [List.map_singleton, List.mem_singleton] at hq2
    subst hq2; subst e
    exact getL_none l x y hg hp
  · rw [getL_app]
    unfold setF
    by_cases h : a = x ∧ b = y
    · rw [if_pos h, h.1, h.2, hg]
      show some v = getL [((x, y), v)] x y
      unfold getL
      rw [if_pos ⟨rfl, rfl⟩]
    · rw [if_neg h, hfl a b]
      have : getL [((x, y), v)] a b = none := by
        unfold getL
        rw [if_neg (fun q => h ⟨q.1.symm, q.2.symm⟩)]
        rfl
      rw [this]; simp
theorem mapf_mod {es : Array MapEntry} {l : List KV} {x y v : Int} {f : Int → Int → Option Int} {j : Nat} {u : Value} (he : es.toList.map (fun e => (e.key, e.val)) = l.map (fun p => (kenc p.1, Value.int .i64 p.2))) (hn : (l.map (·.1)).Nodup) (hfl : ∀ x y, f x y = getL l x y) (hq : findL l x y 0 = some (j, u)) : (es[j]?).map (·.key) = some (kenc (x, y)) ∧ MapF (es.modify j fun e => { e with key := kenc (x, y), val := .int .i64 v }) (setF f x y v) := by
  obtain ⟨as, p, bs, hl, hj, hp⟩ := findL_split l x y 0 j u hq
  subst hl
  rw [Nat.zero_add] at hj
  rw [List.map_append, List.map_cons] at he
  obtain ⟨as', t, h1, h2, h3⟩ := List.map_eq_append_iff.1 he
  obtain ⟨e, bs', rfl, h4, h5⟩ := List.map_eq_cons_iff.1 h3
  injection h4 with hke hve
  have hlen : as'.length = as.length := by have := congrArg List.length h2; simpa using this
  have hes : es[j]? = some e := by rw [← Array.getElem?_toList, h1, hj, ← hlen]; simp
  refine ⟨by rw [hes, ← hp, ← hke]; rfl, as ++ ((x, y), v) :: bs, ?_, ?_, fun a b => ?_⟩
  · rw [Array.toList_modify, h1, hj, ← hlen, modify_at, List.map_append, List.map_append, h2, List.map_cons, List.map_cons, h5]
  · rw [List.map_append, List.map_cons] at hn ⊢
    rw [hp] at hn
    exact hn
  · rw [getL_app]
    unfold setF
    have hno : getL as x y = none := by
      cases hg : getL as x y with
      | none => rfl
      | some q =>
        exfalso
        rw [List.map_append, List.map_cons, hp, List.nodup_append] at hn
        have : (x, y) ∈ as.map (·.1) := by
          clear hn he hfl hq h1 h2 hlen hes hj
          induction as with
          | nil => cases hg
          | cons c as ih =>
            unfold getL at hg
            split at hg
            · rename_i hc
              rw [List.map_cons, List.mem_cons]
              exact .inl (by rw [← hc.1, ← hc.2])
            · rw [List.map_cons, List.mem_cons]
              exact .inr (ih hg)
        exact hn.2.2 _ this _ (List.mem_cons_self ..) rfl
    by_cases h : a = x ∧ b = y
    · rw [if_pos h, h.1, h.2, hno]
      show some v = getL (((x, y), v) :: bs) x y
      unfold getL
      rw [if_pos ⟨rfl, rfl⟩]
    · have e1 : getL (((x, y), v) :: bs) a b = getL bs a b := by
        show (if x = a ∧ y = b then some v else getL bs a b) = _
        rw [if_neg (fun q => h ⟨q.1.symm, q.2.symm⟩)]
      have e2 : getL (p :: bs) a b = getL bs a b := by
        show (if p.1.1 = a ∧ p.1.2 = b then some p.2 else getL bs a b) = _
        rw [hp, if_neg (fun q => h ⟨q.1.symm, q.2.symm⟩)]
      rw [if_neg h, hfl a b, getL_app, e1, e2]
end
theorem kp_set {w : World} {r : Nat} {es es' : Array MapEntry} {ck ck' : Nat} (hb : w.heap[r]? = some (.map es ck)) : Kp w { w with heap := w.heap.setIfInBounds r (.map es' ck') } (fun k => k = r) :=
  ⟨⟨by simp, fun k _ hn => (Go.MapKept.heap_set hb).2 k hn⟩, rfl, rfl, rfl⟩
section
variable {P : Program} {R : Array Oper} {Q : Exit → Act → World → Prop} {K : Act → World → Prop} {i n : Nat} {a : Act} {w : World} {m : List (Nat × Value)} {T : TypeId} {g : Option (Nat × Bool)} {d : Nat} {v : Value} {X Y Z : Operand} {T1 T2 kt ie et : TypeId}
theorem s_makeMap (hp : pj R i = some (some d, .makeMap T1 none, T, g)) (hE : En n a m) (hw : Wn R m g true) (hd : Nat.blt d n = true)
    (h : ∀ b w', w.heap.size ≤ b → w'.heap[b]? = some (.map #[] 0) → Kp w w' (fun _ => False) → ∀ a, En n a ((d, .map (some b)) :: m) → K a w') : wpOp P R Q i K a w :=
  s_step hp hE hw hd (fun o e1 e2 => ⟨_, w.alloc (.map #[] 0), by
    unfold execOp; rw [e1]
    simp [Go.RowKit.run_makeMap], h w.heap.size _ (Nat.le_refl _) (Go.MapKept.heap_alloc w _).1 (kp_alloc w _)⟩)
theorem st_lookup {r ck : Nat} {es : Array MapEntry} {f : Int → Int → Option Int} {z x y : Int} (hT : P.underlying T1 = some (.map kt et)) (hk : P.underlying kt = some (.array 2 ie)) (hi : P.underlying ie = some (.int .i64)) (hs : (P.info? ie).map (·.size) = some 1) (hf : flat P 9 kt = some [some .i64, some .i64]) (hA : flat.isAggT P kt = true) (hz : (P.info? et).bind (·.zero) = some (.int .i64 z)) (h1 : ev m X = some (.map (some r))) (h2 : ev m Y = some (.agg #[.int .i64 x, .int .i64 y])) (hF : MapF es f) (hb : w.heap[r]? = some (.map es ck)) : Still P (.lookup T1 X Y true) T m w (.tuple #[.int .i64 ((f x y).getD z), .bool (f x y).isSome]) := fun n a hE o e1 e2 => by
  unfold execOp; rw [e1]
  have := run_get (P := P) (w := w) hT hk hi hs hf hA hz hb hF x y
  unfold kenc at this
  simp [hE.ev h1, hE.ev h2, this]
theorem st_lookupS {r ck : Nat} {es : Array MapEntry} {f : Int → Int → Option Int} {z x y u : Int} (hT : P.underlying T1 = some (.map kt et)) (hk : P.underlying kt = some (.array 2 ie)) (hi : P.underlying ie = some (.int .i64)) (hs : (P.info? ie).map (·.size) = some 1) (hf : flat P 9 kt = some [some .i64, some .i64]) (hA : flat.isAggT P kt = true) (hz : (P.info? et).bind (·.zero) = some (.int .i64 z)) (h1 : ev m X = some (.map (some r))) (h2 : ev m Y = some (.agg #[.int .i64 x, .int .i64 y])) (hF : MapF es f) (hb : w.heap[r]? = some (.map es ck)) (hu : f x y = some u) : Still P (.lookup T1 X Y true) T m w (.tuple #[.int .i64 u, .bool true]) := by
  have := st_lookup (T := T) hT hk hi hs hf hA hz h1 h2 hF hb
  rw [hu] at this
  exact this
theorem st_lookupN {r ck : Nat} {es : Array MapEntry} {f : Int → Int → Option Int} {z x y : Int} (hT : P.underlying T1 = some (.map kt et)) (hk : P.underlying kt = some (.array 2 ie)) (hi : P.underlying ie = some (.int .i64)) (hs : (P.info? ie).map (·.size) = some 1) (hf : flat P 9 kt = some [some .i64, some .i64]) (hA : flat.isAggT P kt = true) (hz : (P.info? et).bind (·.zero) = some (.int .i64 z)) (h1 : ev m X = some (.map (some r))) (h2 : ev m Y = some (.agg #[.int .i64 x, .int .i64 y])) (hF : MapF es f) (hb : w.heap[r]? = some (.map es ck)) (hu : f x y = none) : Still P (.lookup T1 X Y true) T m w (.tuple #[.int .i64 z, .bool false]) := by
  have := st_lookup (T := T) hT hk hi hs hf hA hz h1 h2 hF hb
  rw [hu] at this
  exact this
theorem flat_pair (hk : P.underlying kt = some (.array 2 ie)) (hi : P.underlying ie = some (.int .i64)) (hs : (P.info? ie).map (·.size) = some 1) (hA : flat.isAggT P ie = false) : flat P 9 kt = some (List.replicate 2 [some IntKind.i64]).flatten := by
  have he : flat P 8 ie = some [some .i64] := by unfold flat; rw [hi]
  obtain ⟨i, h9, h8⟩ := Option.map_eq_some_iff.1 hs
  unfold flat; rw [hk]
  show (match flat P 8 ie, P.info? ie with | some l, some i => if i.size = l.length ∧ (flat.isAggT P ie = true ∨ l.length = 1) then some (List.replicate 2 l).flatten else none | _, _ => none) = _
  rw [he, h9]
  exact if_pos ⟨h8, Or.inr rfl⟩
theorem run_put {r ck : Nat} {es : Array MapEntry} {f : Int → Int → Option Int} (hm : P.underlying T1 = some (.map kt et)) (hk : P.underlying kt = some (.array 2 ie)) (hi : P.underlying ie = some (.int .i64)) (hs : (P.info? ie).map (·.size) = some 1) (hf : flat P 9 kt = some [some .i64, some .i64]) (hA : flat.isAggT P kt = true) (hb : w.heap[r]? = some (.map es ck)) (hF : MapF es f) (x y z : Int) :
    ∃ es' ck', (Instr.mapUpdate T1 (.map (some r)) (kenc (x, y)) (.int .i64 z)).run P w = .ok () { w with heap := w.heap.setIfInBounds r (.map es' ck') } ∧ MapF es' (setF f x y z) := by
  obtain ⟨l, he, hn, hfl⟩ := hF
  unfold Instr.mapUpdate
  cases hq : findL l x y 0 with
  | none =>
    refine ⟨es.push { key := kenc (x, y), val := .int .i64 z, born := ck }, ck + 1, ?_, mapf_put he hn hfl hq ck⟩
    simp only [Sem.run_bind, run_underlying hm, Result.andThen_ok, Go.MapKept.run_getObj_map hb, Sem.run_pure]
    rw [run_check hk hi hs, Result.andThen_ok, run_find hf hA hk x y es.toList l he, Result.andThen_ok, hq]
    exact Go.MapKept.run_setObj_map _ hb
  | some q =>
    obtain ⟨j, u⟩ := q
    have hmm := mapf_mod (v := z) he hn hfl hq
    refine ⟨es.modify j (fun e => { e with key := kenc (x, y), val := .int .i64 z }), ck, ?_, hmm.2⟩
    simp only [Sem.run_bind, run_underlying hm, Result.andThen_ok, Go.MapKept.run_getObj_map hb, Sem.run_pure]
    rw [run_check hk hi hs, Result.andThen_ok, run_find hf hA hk x y es.toList l he, Result.andThen_ok, hq]
    simp only [Sem.run_bind, hmm.1, Option.getD_some]
    have hst : (Instr.keyThatStays (kenc (x, y)) (kenc (x, y))).run P w = .ok (kenc (x, y)) w := by
      unfold Instr.keyThatStays
      rw [if_pos (by simp [kenc, Instr.sameBits])]
      rfl
    rw [hst, Result.andThen_ok]
    exact Go.MapKept.run_setObj_map _ hb
theorem s_mapUpdate {r ck : Nat} {es : Array MapEntry} {f : Int → Int → Option Int} {x y z : Int} (hp : pj R i = some (none, .mapUpdate T1 X Y Z, T, g)) (hE : En n a m) (hw : Wn R m g true) (hm : P.underlying T1 = some (.map kt et)) (hk : P.underlying kt = some (.array 2 ie)) (hi : P.underlying ie = some (.int .i64)) (hs : (P.info? ie).map (·.size) = some 1) (hf : flat P 9 kt = some [some .i64, some .i64]) (hA : flat.isAggT P kt = true) (h1 : ev m X = some (.map (some r))) (h2 : ev m Y = some (.agg #[.int .i64 x, .int .i64 y])) (h3 : ev m Z = some (.int .i64 z)) (hF : MapF es f) (hb : w.heap[r]? = some (.map es ck))
    (h : ∀ es' ck' w', MapF es' (setF f x y z) → w'.heap[r]? = some (.map es' ck') → Kp w w' (fun k => k = r) → K a w') : wpOp P R Q i K a w := by
  obtain ⟨es', ck', hr, hF'⟩ := run_put (w := w) hm hk hi hs hf hA hb hF x y z
  unfold kenc at hr
  exact s_step0 hp hE hw (fun o e1 e2 => ⟨_, by
    unfold execOp; rw [e1]
    simp [hE.ev h1, hE.ev h2, hE.ev h3, hr], h es' ck' _ hF' (Go.MapKept.heap_set hb).1 (kp_set hb)⟩)
end
section
variable {P : Program} {T T1 T2 : TypeId} {m : List (Nat × Value)} {w : World} {X Y : Operand} {b : Bool}
theorem st_eqlP {p : Option Addr} (hT : P.underlying T1 = some (.pointer (P.pointee T1))) (h1 : ev m X = some (.pointer p)) (h2 : ev m Y = some (.pointer none)) (hb : p.isNone = b) : Still P (.binOp .eql T1 X Y T2) T m w (.bool b) := fun n a hE o e1 e2 => by
  subst hb; unfold execOp; rw [e1]
  simp [hE.ev h1, hE.ev h2, eqGuard, run_eql_pointer_nil w T1 p hT]
theorem st_neqP {p : Option Addr} (hT : P.underlying T1 = some (.pointer (P.pointee T1))) (h1 : ev m X = some (.pointer p)) (h2 : ev m Y = some (.pointer none)) (hb : (!p.isNone) = b) : Still P (.binOp .neq T1 X Y T2) T m w (.bool b) := fun n a hE o e1 e2 => by
  subst hb; unfold execOp; rw [e1]
  simp [hE.ev h1, hE.ev h2, eqGuard, run_neq_pointer_nil w T1 p hT]
end
section
variable {a : Act} {w : World} {Q : Exit → Act → World → Prop}
theorem x_normS (h : Q .normal a w) : Exit.noGoto Q .normal a w := h
theorem x_retS (h : Q .ret a w) : Exit.noGoto Q .ret a w := h
theorem x_exitS {id : Nat} (h : Q (.exit id) a w) : Exit.noGoto Q (.exit id) a w := h
end
end Go.Proofs.Ytpnpfapdjdcnbaa.Mp
