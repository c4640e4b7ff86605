/- Maps whose keys are whole numbers: looked up, updated, struck, cleared, counted; what the model's entries read as is a list. -/
import Derived.Test.YtnmlckaeheiodaaDoorRs
import Derived.MapKept
import Derived.Scope
set_option maxRecDepth 100000
set_option linter.unusedVariables false
set_option linter.unusedSimpArgs false
namespace Go.Proofs.YtnmlckaeheiodaaDoor.Mi
open Go.RowKit Go.Proofs.YtnmlckaeheiodaaDoorW.PrintWords Go.Proofs.YtnmlckaeheiodaaDoor.Ds
open Go.Proofs.YtnmlckaeheiodaaDoor.Pk (Kp)
open Go.MapKept (Stamped)
section
variable {α : Type}
/-- The entries read as this list, in their order; no key twice. -/
structure MapI (enc : α → Value) (es : Array MapEntry) (ck : Nat) (l : List (Int × α)) : Prop where
 st : Stamped es ck
 en : es.toList.map (fun e => (e.key, e.val)) = l.map (fun p => (Value.int .i64 p.1, enc p.2))
 wf : ∀ p ∈ l, (Lit.int .i64 p.1).wf = true
def getI : List (Int × α) → Int → Option α
 | [], _ => none
 | p :: l, x => if p.1 = x then some p.2 else getI l x
def putI : List (Int × α) → Int → α → List (Int × α)
 | [], x, v => [(x, v)]
 | p :: l, x, v => if p.1 = x then (x, v) :: l else p :: putI l x v
def findI (enc : α → Value) : List (Int × α) → Int → Nat → Option (Nat × Value)
 | [], _, _ => none
 | p :: l, x, i => if p.1 = x then some (i, enc p.2) else findI enc l x (i + 1)
theorem findI_get (enc : α → Value) : ∀ (l : List (Int × α)) (x : Int) (i : Nat), (findI enc l x i).map (·.2) = (getI l x).map enc
 | [], _, _ => rfl
 | p :: l, x, i => by
  unfold findI getI
  split
  · rfl
  · exact findI_get enc l x (i + 1)
theorem findI_none (enc : α → Value) {l : List (Int × α)} {x : Int} {i : Nat} (h : findI enc l x i = none) : ∀ p ∈ l, p.1 ≠ x := by
 induction l generalizing i with
 | nil => intro p hp; cases hp
 | cons q l ih =>
  unfold findI at h
  split at h
  · cases h
  ·
   rename_i hq
   intro p hp
   rcases List.mem_cons.1 hp with rfl | hp
   · exact hq
   · exact ih h p hp
theorem findI_split (enc : α → Value) : ∀ (l : List (Int × α)) (x : Int) (i : Nat) (j : Nat) (v : Value), findI enc l x i = some (j, v) → ∃ as p bs, l = as ++ p :: bs ∧ j = i + as.length ∧ p.1 = x ∧ ∀ q ∈ as, q.1 ≠ x
 | [], _, _, _, _, h => by cases h
 | p :: l, x, i, j, v, h => by
  unfold findI at h
  split at h
  ·
   rename_i hp
   injection h with h
   injection h with h1 h2
   exact ⟨[], p, l, rfl, by simp [h1], hp, fun q hq => by cases hq⟩
  ·
   rename_i hp
   obtain ⟨as, q, bs, h1, h2, h3, h4⟩ := findI_split enc l x (i + 1) j v h
   refine ⟨p :: as, q, bs, by rw [h1]; rfl, by rw [h2, List.length_cons]; omega, h3, fun r hr => ?_⟩
   rcases List.mem_cons.1 hr with rfl | hr
   · exact hp
   · exact h4 r hr
theorem putI_new {l : List (Int × α)} {x : Int} {v : α} (h : ∀ p ∈ l, p.1 ≠ x) : putI l x v = l ++ [(x, v)] := by
 induction l with
 | nil => rfl
 | cons q l ih =>
  unfold putI
  rw [if_neg (h q (List.mem_cons_self ..)), ih (fun p hp => h p (List.mem_cons_of_mem _ hp))]
  rfl
theorem putI_at {as bs : List (Int × α)} {p : Int × α} {x : Int} {v : α} (h : ∀ q ∈ as, q.1 ≠ x) (hp : p.1 = x) : putI (as ++ p :: bs) x v = as ++ (x, v) :: bs := by
 induction as with
 | nil => show putI (p :: bs) x v = _; unfold putI; rw [if_pos hp]; rfl
 | cons q as ih =>
  show putI (q :: (as ++ p :: bs)) x v = _
  unfold putI
  rw [if_neg (h q (List.mem_cons_self ..)), ih (fun r hr => h r (List.mem_cons_of_mem _ hr))]
  rfl
theorem getI_mem {l : List (Int × α)} {x : Int} {v : α} (h : getI l x = some v) : (x, v) ∈ l := by
 induction l with
 | nil => cases h
 | cons q l ih =>
  unfold getI at h
  split at h
  ·
   rename_i hq
   injection h with h
   rw [← hq, ← h]
   exact List.mem_cons_self ..
  · exact List.mem_cons_of_mem _ (ih h)
theorem getI_of_mem {l : List (Int × α)} (hn : (l.map (·.1)).Nodup) {x : Int} {v : α} (h : (x, v) ∈ l) : getI l x = some v := by
 induction l with
 | nil => cases h
 | cons q l ih =>
  rw [List.map_cons, List.nodup_cons] at hn
  unfold getI
  rcases List.mem_cons.1 h with e | h
  · rw [if_pos (by rw [← e]), ← e]
  ·
   have : q.1 ≠ x := fun e => hn.1 (by rw [e]; exact List.mem_map.2 ⟨_, h, rfl⟩)
   rw [if_neg this]
   exact ih hn.2 h
theorem getI_put (l : List (Int × α)) (x : Int) (v : α) (y : Int) : getI (putI l x v) y = if y = x then some v else getI l y := by
 induction l with
 | nil => unfold putI getI; by_cases h : x = y <;> simp [h, eq_comm, getI]
 | cons q l ih =>
  unfold putI
  by_cases hq : q.1 = x
  ·
   rw [if_pos hq]
   unfold getI
   by_cases h : y = x
   · rw [if_pos h, if_pos h.symm]
   · rw [if_neg h, if_neg (fun e => h e.symm), if_neg (fun e => h (e.symm.trans hq))]
  ·
   rw [if_neg hq]
   unfold getI
   by_cases h : q.1 = y
   · rw [if_pos h, if_pos h, if_neg (fun e => hq (h.trans e))]
   · rw [if_neg h, if_neg h]; exact ih
theorem putI_len (l : List (Int × α)) (x : Int) (v : α) : (putI l x v).length = if (getI l x).isSome then l.length else l.length + 1 := by
 induction l with
 | nil => rfl
 | cons q l ih =>
  unfold putI getI
  by_cases hq : q.1 = x
  · rw [if_pos hq, if_pos hq]; rfl
  · rw [if_neg hq, if_neg hq, List.length_cons, ih, List.length_cons]; split <;> rfl
theorem putI_nodup {l : List (Int × α)} (hn : (l.map (·.1)).Nodup) (x : Int) (v : α) : ((putI l x v).map (·.1)).Nodup := by
 induction l with
 | nil => simp [putI]
 | cons q l ih =>
  rw [List.map_cons, List.nodup_cons] at hn
  unfold putI
  by_cases hq : q.1 = x
  ·
   rw [if_pos hq, List.map_cons, List.nodup_cons]
   exact ⟨by rw [← hq]; exact hn.1, hn.2⟩
  ·
   rw [if_neg hq, List.map_cons, List.nodup_cons]
   refine ⟨fun h => ?_, ih hn.2⟩
   obtain ⟨p, hp, e⟩ := List.mem_map.1 h
   have hg : getI (putI l x v) q.1 = some p.2 := getI_of_mem (ih hn.2) (by rw [← e]; exact hp)
   rw [getI_put, if_neg hq] at hg
   exact hn.1 (List.mem_map.2 ⟨_, getI_mem hg, rfl⟩)
variable {enc : α → Value} {es : Array MapEntry} {ck : Nat} {l : List (Int × α)}
theorem mapi_nil (enc : α → Value) (ck : Nat) : MapI enc #[] ck [] := ⟨Go.MapKept.stamped_empty ck, rfl, fun p hp => by cases hp⟩
theorem MapI.keys (h : MapI enc es ck l) : es.toList.map (·.key) = l.map (fun p => Value.int .i64 p.1) := by
 have := congrArg (List.map (·.1)) h.en
 rwa [List.map_map, List.map_map] at this
theorem MapI.nodup (h : MapI enc es ck l) : (l.map (·.1)).Nodup := by
 have h2 : (l.map (fun p => Value.int .i64 p.1)).Nodup := by rw [← h.keys]; exact h.st.2.2
 have h3 : ((l.map (·.1)).map (Value.int .i64)).Nodup := by rw [List.map_map]; exact h2
 exact (List.pairwise_map.1 h3).imp (fun h e => h (by rw [e]))
theorem MapI.size (h : MapI enc es ck l) : es.size = l.length := by
 have := congrArg List.length h.en
 simpa using this
end
section
variable {α : Type} {P : Program} {w : World} {mt kt et : TypeId} {enc : α → Value} {es : Array MapEntry} {ck r : Nat} {l : List (Int × α)}
theorem findNow_I (x : Int) : ∀ (es : List MapEntry) (l : List (Int × α)) (i : Nat), es.map (fun e => (e.key, e.val)) = l.map (fun p => (Value.int .i64 p.1, enc p.2)) → Instr.findNow (.int .i64) (.int .i64 x) es i = some (findI enc l x i)
 | [], [], i, _ => rfl
 | [], _ :: _, _, h => by cases h
 | _ :: _, [], _, h => by cases h
 | e :: es, p :: l, i, h => by
  rw [List.map_cons, List.map_cons] at h
  injection h with h1 h2
  injection h1 with h3 h4
  unfold Instr.findNow findI
  rw [h3]
  show (match (if IntKind.i64 = IntKind.i64 then some (x == p.1) else none) with | some true => some (some (i, e.val)) | some false => Instr.findNow (.int .i64) (.int .i64 x) es (i + 1) | none => none) = _
  rw [if_pos rfl]
  by_cases hp : p.1 = x
  · rw [if_pos hp, hp, h4]; simp
  ·
   rw [if_neg hp]
   have : (x == p.1) = false := by simp; exact fun e => hp e.symm
   rw [this]
   exact findNow_I x es l (i + 1) h2
theorem run_findI (hk : P.underlying kt = some (.int .i64)) (x : Int) (h : MapI enc es ck l) : (Instr.findKey kt (.int .i64 x) es.toList).run P w = .ok (findI enc l x 0) w :=
 Go.MapKept.run_findKey hk (findNow_I x es.toList l 0 h.en)
theorem run_lookI {z : Value} (hm : P.underlying mt = some (.map kt et)) (hk : P.underlying kt = some (.int .i64)) (hz : (P.info? et).bind (·.zero) = some z) (hb : w.heap[r]? = some (.map es ck)) (h : MapI enc es ck l) (x : Int) (ok : Bool) :
  (Instr.lookup mt (.map (some r)) (.int .i64 x) ok).run P w = .ok (if ok then .tuple #[((getI l x).map enc).getD z, .bool (getI l x).isSome] else ((getI l x).map enc).getD z) w := by
 unfold Instr.lookup
 simp only [Sem.run_bind, run_underlying hm, Result.andThen_ok, Go.MapKept.run_getObj_map hb, Sem.run_pure]
 rw [Go.MapKept.run_checkKey (d := .int .i64) (k := .int .i64 x) hk rfl, Result.andThen_ok, run_findI hk x h, Result.andThen_ok]
 have h1 := findI_get enc l x 0
 cases hq : findI enc l x 0 with
 | none =>
  rw [hq] at h1
  cases hg : getI l x with
  | none => simp [run_zeroD hz]
  | some v => rw [hg] at h1; cases h1
 | some q =>
  rw [hq] at h1
  cases hg : getI l x with
  | none => rw [hg] at h1; cases h1
  | some v =>
   rw [hg] at h1
   obtain ⟨j, u⟩ := q
   injection h1 with h1
   simp only at h1
   subst h1
   simp
theorem modify_at {β : Type} (f : β → β) : ∀ (as : List β) (e : β) (bs : List β), (as ++ e :: bs).modify as.length f = as ++ f e :: bs
 | [], e, bs => by simp [List.modify]
 | a :: as, e, bs => by
  rw [List.cons_append, List.length_cons, List.modify_succ_cons, modify_at f as e bs]
  rfl
theorem split_en {as : List (Int × α)} {p : Int × α} {bs : List (Int × α)} {es : List MapEntry} (h : es.map (fun e => (e.key, e.val)) = (as ++ p :: bs).map (fun p => (Value.int .i64 p.1, enc p.2))) : ∃ as' e bs', es = as' ++ e :: bs' ∧ as'.length = as.length ∧ as'.map (fun e => (e.key, e.val)) = as.map (fun p => (Value.int .i64 p.1, enc p.2)) ∧ e.key = .int .i64 p.1 ∧ bs'.map (fun e => (e.key, e.val)) = bs.map (fun p => (Value.int .i64 p.1, enc p.2)) := by
 rw [List.map_append, List.map_cons] at h
 obtain ⟨as', t, h1, h2, h3⟩ := List.map_eq_append_iff.1 h
 obtain ⟨e, bs', rfl, h4, h5⟩ := List.map_eq_cons_iff.1 h3
 injection h4 with hke hve
 exact ⟨as', e, bs', h1, by have := congrArg List.length h2; simpa using this, h2, hke, h5⟩
theorem run_putI (hm : P.underlying mt = some (.map kt et)) (hk : P.underlying kt = some (.int .i64)) (hb : w.heap[r]? = some (.map es ck)) (h : MapI enc es ck l) (x : Int) (hx : (Lit.int .i64 x).wf = true) (v : α) :
  ∃ es' ck', (Instr.mapUpdate mt (.map (some r)) (.int .i64 x) (enc v)).run P w = .ok () { w with heap := w.heap.setIfInBounds r (.map es' ck') } ∧ MapI enc es' ck' (putI l x v) := by
 have hwf : ∀ p ∈ putI l x v, (Lit.int .i64 p.1).wf = true := fun p hp => by
  have hn := putI_nodup h.nodup x v
  have hg := getI_of_mem hn (x := p.1) (v := p.2) hp
  rw [getI_put] at hg
  split at hg
  · rename_i e; rw [e]; exact hx
  · exact h.wf _ (getI_mem hg)
 unfold Instr.mapUpdate
 cases hq : findI enc l x 0 with
 | none =>
  have hno := findI_none enc hq
  refine ⟨es.push { key := .int .i64 x, val := enc v, born := ck }, ck + 1, ?_, ⟨Go.MapKept.stamped_push h.st (fun e he => ?_), ?_, hwf⟩⟩
  ·
   simp only [Sem.run_bind, run_underlying hm, Result.andThen_ok, Go.MapKept.run_getObj_map hb, Sem.run_pure]
   rw [Go.MapKept.run_checkKey (d := .int .i64) (k := .int .i64 x) hk rfl, Result.andThen_ok, run_findI hk x h, Result.andThen_ok, hq]
   exact Go.MapKept.run_setObj_map _ hb
  ·
   have : e.key ∈ es.toList.map (·.key) := List.mem_map.2 ⟨e, he, rfl⟩
   rw [h.keys, List.mem_map] at this
   obtain ⟨p, hp, e1⟩ := this
   rw [← e1]
   intro e2
   injection e2 with _ e3
   exact hno p hp e3
  · rw [Array.toList_push, List.map_append, h.en, putI_new hno, List.map_append]; rfl
 | some q =>
  obtain ⟨j, u⟩ := q
  obtain ⟨as, p, bs, hl, hj, hp, hne⟩ := findI_split enc l x 0 j u hq
  rw [Nat.zero_add] at hj
  have hen := h.en
  rw [hl] at hen
  obtain ⟨as', e, bs', h1, h2, h3, h4, h5⟩ := split_en hen
  have hes : es[j]? = some e := by rw [← Array.getElem?_toList, h1, hj, ← h2]; simp
  have hke : e.key = .int .i64 x := by rw [h4, hp]
  refine ⟨es.modify j (fun e => { e with key := .int .i64 x, val := enc v }), ck, ?_, ⟨Go.MapKept.stamped_modify h.st j _ (fun _ _ => rfl) (fun e' _ h' => ?_), ?_, hwf⟩⟩
  ·
   simp only [Sem.run_bind, run_underlying hm, Result.andThen_ok, Go.MapKept.run_getObj_map hb, Sem.run_pure]
   rw [Go.MapKept.run_checkKey (d := .int .i64) (k := .int .i64 x) hk rfl, Result.andThen_ok, run_findI hk x h, Result.andThen_ok, hq]
   simp only [Sem.run_bind, hes, Option.map_some, Option.getD_some, hke]
   rw [Go.MapKept.run_keyThatStays (d := .int .i64) (k := .int .i64 x) rfl, Result.andThen_ok]
   exact Go.MapKept.run_setObj_map _ hb
  ·
   rw [hes] at h'
   injection h' with h'
   rw [← h', hke]
  · rw [Array.toList_modify, h1, hj, ← h2, modify_at, List.map_append, List.map_cons, h3, h5, hl, putI_at hne hp, List.map_append, List.map_cons]
theorem run_lenI (hm : P.underlying mt = some (.map kt et)) (hb : w.heap[r]? = some (.map es ck)) (h : MapI enc es ck l) (ty : TypeId) : (Builtin.len_ #[mt] ty #[.map (some r)]).run P w = .ok (.int .i64 l.length) w := by
 simp [Builtin.len_, run_underlying hm, Go.MapKept.run_getObj_map hb, Result.andThen, goInt, h.size]
end
theorem kp_set {w : World} {r : Nat} {es es' : Array MapEntry} {ck ck' : Nat} (hb : w.heap[r]? = some (.map es ck)) : Kp w { w with heap := w.heap.setIfInBounds r (.map es' ck') } (fun k => k = r) :=
 ⟨⟨by simp, fun k _ hn => (Go.MapKept.heap_set hb).2 k hn⟩, rfl, rfl, rfl⟩
section
variable {α : Type} {enc : α → Value} {l : List (Int × α)} {P : Program} {R : Array Oper} {Q : Exit → Act → World → Prop} {K : Act → World → Prop} {i n : Nat} {a : Act} {w : World} {m : List (Nat × Value)} {T : TypeId} {g : Option (Nat × Bool)} {d : Nat} {v : Value} {X Y Z : Operand} {T1 T2 kt ie et : TypeId} {es : Array MapEntry} {ck r : Nat} {x : Int}
theorem s_makeMap (hp : pj R i = some (some d, .makeMap T1 none, T, g)) (hE : En n a m) (hw : Wn R m g true) (hd : Nat.blt d n = true)
  (h : ∀ b w', w.heap.size ≤ b → w'.heap[b]? = some (.map #[] 0) → Kp w w' (fun _ => False) → ∀ a, En n a ((d, .map (some b)) :: m) → K a w') : wpOp P R Q i K a w :=
 s_step hp hE hw hd (fun o e1 e2 => ⟨_, w.alloc (.map #[] 0), by
  unfold execOp; rw [e1]
  simp [Go.RowKit.run_makeMap], h w.heap.size _ (Nat.le_refl _) (Go.MapKept.heap_alloc w _).1 (kp_alloc w _)⟩)
theorem st_look2 {z : Value} (hT : P.underlying T1 = some (.map kt et)) (hk : P.underlying kt = some (.int .i64)) (hz : (P.info? et).bind (·.zero) = some z) (h1 : ev m X = some (.map (some r))) (h2 : ev m Y = some (.int .i64 x)) (hF : MapI enc es ck l) (hb : w.heap[r]? = some (.map es ck)) {u : Value} {b : Bool} (hu : ((getI l x).map enc).getD z = u) (hs : (getI l x).isSome = b) : Still P (.lookup T1 X Y true) T m w (.tuple #[u, .bool b]) := fun n a hE o e1 e2 => by
 subst hu; subst hs
 unfold execOp; rw [e1]
 simp [hE.ev h1, hE.ev h2, run_lookI hT hk hz hb hF]
theorem st_lenM (hT : P.underlying T1 = some (.map kt et)) (h1 : ev m X = some (.map (some r))) (hF : MapI enc es ck l) (hb : w.heap[r]? = some (.map es ck)) : Still P (.call { callee := .builtin .len, args := #[X], argTypes := #[T1] }) T m w (.int .i64 l.length) := fun n a hE o e1 e2 => by
 unfold execOp; rw [e1]
 simp [resolve, invoke, builtin, hE.ev h1, run_lenI hT hb hF]
theorem s_putI {u : α} (hp : pj R i = some (none, .mapUpdate T1 X Y Z, T, g)) (hE : En n a m) (hw : Wn R m g true) (hm : P.underlying T1 = some (.map kt et)) (hk : P.underlying kt = some (.int .i64)) (h1 : ev m X = some (.map (some r))) (h2 : ev m Y = some (.int .i64 x)) (h3 : ev m Z = some v) (hv : v = enc u) (hx : (Lit.int .i64 x).wf = true) (hF : MapI enc es ck l) (hb : w.heap[r]? = some (.map es ck))
  (h : ∀ es' ck' w', MapI enc es' ck' (putI l x u) → w'.heap[r]? = some (.map es' ck') → Kp w w' (fun k => k = r) → K a w') : wpOp P R Q i K a w := by
 subst hv
 obtain ⟨es', ck', hr, hF'⟩ := run_putI (w := w) hm hk hb hF x hx u
 exact s_step0 hp hE hw (fun o e1 e2 => ⟨_, by
  unfold execOp; rw [e1]
  simp [hE.ev h1, hE.ev h2, hE.ev h3, hr], h es' ck' _ hF' (Go.MapKept.heap_set hb).1 (kp_set hb)⟩)
end
section
variable {P : Program} {T T1 T2 : TypeId} {m : List (Nat × Value)} {w : World} {X Y : Operand} {b : Bool}
theorem st_eqlP {p : Option Addr} (hT : P.underlying T1 = some (.pointer (P.pointee T1))) (h1 : ev m X = some (.pointer p)) (h2 : ev m Y = some (.pointer none)) (hb : p.isNone = b) : Still P (.binOp .eql T1 X Y T2) T m w (.bool b) := fun n a hE o e1 e2 => by
 subst hb; unfold execOp; rw [e1]
 simp [hE.ev h1, hE.ev h2, eqGuard, run_eql_pointer_nil w T1 p hT]
end
section
variable {a : Act} {w : World} {Q : Exit → Act → World → Prop}
theorem x_retS (h : Q .ret a w) : Exit.noGoto Q .ret a w := h
end
end Go.Proofs.YtnmlckaeheiodaaDoor.Mi
