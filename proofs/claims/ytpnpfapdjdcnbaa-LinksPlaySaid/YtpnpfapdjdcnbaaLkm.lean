/- Pair-keyed maps: delete, len; a block that holds a table of 64 times 64. -/
import Derived.Test.YtpnpfapdjdcnbaaMp
set_option maxRecDepth 100000
set_option linter.unusedVariables false
set_option linter.unusedSimpArgs false
namespace Go.Proofs.Ytpnpfapdjdcnbaa.Lm
open Go.RowKit Go.Proofs.YtpnpfapdjdcnbaaW.PrintWords Go.Proofs.Ytpnpfapdjdcnbaa.Ds Go.Proofs.Ytpnpfapdjdcnbaa.Mp
open Go.Proofs.Ytpnpfapdjdcnbaa.Pk (Kp)
def delF (f : Int → Int → Option Int) (x y : Int) : Int → Int → Option Int := fun a b => if a = x ∧ b = y then none else f a b
theorem getL_notin : ∀ (l : List KV) (x y : Int), (x, y) ∉ l.map (·.1) → getL l x y = none
  | [], _, _, _ => rfl
  | p :: l, x, y, h => by
    rw [List.map_cons, List.mem_cons, not_or] at h
    unfold getL
    rw [if_neg (fun q => h.1 (by rw [← q.1, ← q.2]))]
    exact getL_notin l x y h.2
theorem split_en {es : List MapEntry} {as bs : List KV} {p : KV} (h : es.map (fun e => (e.key, e.val)) = (as ++ p :: bs).map (fun p => (kenc p.1, Value.int .i64 p.2))) :
    ∃ as' e bs', es = as' ++ e :: bs' ∧ as'.length = as.length ∧ as'.map (fun e => (e.key, e.val)) = as.map (fun p => (kenc p.1, Value.int .i64 p.2)) ∧ bs'.map (fun e => (e.key, e.val)) = bs.map (fun p => (kenc p.1, Value.int .i64 p.2)) := by
  rw [List.map_append, List.map_cons] at h
  obtain ⟨as', l2, rfl, h1, h2⟩ := List.map_eq_append_iff.1 h
  obtain ⟨e, bs', rfl, h3, h4⟩ := List.map_eq_cons_iff.1 h2
  exact ⟨as', e, bs', rfl, by have := congrArg List.length h1; simpa using this, h1, h4⟩
section
variable {P : Program} {w : World} {kt ie mt et : TypeId}
theorem run_delP {r ck : Nat} {es : Array MapEntry} {f : Int → Int → Option Int} (hm : P.underlying mt = some (.map kt et)) (hk : P.underlying kt = some (.array 2 ie)) (hi : P.underlying ie = some (.int .i64)) (hs : (P.info? ie).map (·.size) = some 1) (hf : flat P 9 kt = some [some .i64, some .i64]) (hA : flat.isAggT P kt = true) (hb : w.heap[r]? = some (.map es ck)) (hF : MapF es f) (x y : Int) (ty : TypeId) :
    ∃ es', (Builtin.delete_ #[mt, kt] ty #[.map (some r), kenc (x, y)]).run P w = .ok (.tuple #[]) { w with heap := w.heap.setIfInBounds r (.map es' ck) } ∧ MapF es' (delF f x y) ∧ (es.size : Int) - (es'.size : Int) = if (f x y).isSome then 1 else 0 := by
  obtain ⟨l, he, hn, hfl⟩ := hF
  cases hq : findL l x y 0 with
  | none =>
    have hg : getL l x y = none := by have := findL_get l x y 0; rw [hq] at this; cases h : getL l x y with
      | none => rfl
      | some v => rw [h] at this; cases this
    refine ⟨es, ?_, ⟨l, he, hn, fun a b => ?_⟩, ?_⟩
    · unfold Builtin.delete_
      simp only [List.getElem?_toArray, List.getElem?_cons_zero, List.getElem?_cons_succ, Sem.run_bind, run_underlying hm, Result.andThen_ok, Go.MapKept.run_getObj_map hb, Sem.run_pure]
      rw [run_check hk hi hs, Result.andThen_ok, run_find hf hA hk x y es.toList l he, Result.andThen_ok, hq]
      show Sem.run P (setObj r (Obj.map es ck) >>= fun _ => pure (Value.tuple #[])) w = _
      rw [Sem.run_bind, Go.MapKept.run_setObj_map _ hb]
      rfl
    · unfold delF
      split
      · rename_i h; rw [h.1, h.2, hg]
      · exact hfl a b
    · rw [hfl, hg]; simp
  | some q =>
    obtain ⟨j, u⟩ := q
    obtain ⟨as, p, bs, hl, hj, hp⟩ := findL_split l x y 0 j u hq
    rw [Nat.zero_add] at hj
    have he2 := he
    rw [hl] at he2
    obtain ⟨as', e, bs', h1, h2, h3, h4⟩ := split_en he2
    have hn2 := hn
    rw [hl, List.map_append, List.map_cons, List.nodup_append] at hn2
    have ha : getL as x y = none := getL_notin as x y (fun q => hn2.2.2 _ q _ (List.mem_cons_self ..) (by rw [hp]))
    have hb2 : getL bs x y = none := getL_notin bs x y (fun q => (List.nodup_cons.1 hn2.2.1).1 (by rw [hp]; exact q))
    have hlt : j < es.size := by rw [← Array.length_toList, h1, hj, ← h2]; simp
    refine ⟨es.eraseIdxIfInBounds j, ?_, ⟨as ++ bs, ?_, ?_, fun a b => ?_⟩, ?_⟩
    · unfold Builtin.delete_
      simp only [List.getElem?_toArray, List.getElem?_cons_zero, List.getElem?_cons_succ, Sem.run_bind, run_underlying hm, Result.andThen_ok, Go.MapKept.run_getObj_map hb, Sem.run_pure]
      rw [run_check hk hi hs, Result.andThen_ok, run_find hf hA hk x y es.toList l he, Result.andThen_ok, hq]
      show Sem.run P (setObj r (Obj.map (es.eraseIdxIfInBounds j) ck) >>= fun _ => pure (Value.tuple #[])) w = _
      rw [Sem.run_bind, Go.MapKept.run_setObj_map _ hb]
      rfl
    · have e1 : (es.eraseIdxIfInBounds j).toList = as' ++ bs' := by
        unfold Array.eraseIdxIfInBounds
        rw [dif_pos hlt, Array.toList_eraseIdx, h1, hj, ← h2, List.eraseIdx_append_of_length_le (Nat.le_refl _)]
        simp
      rw [e1, List.map_append, h3, h4, List.map_append]
    · rw [List.map_append]
      exact List.nodup_append.2 ⟨hn2.1, (List.nodup_cons.1 hn2.2.1).2, fun a h b h' => hn2.2.2 a h b (List.mem_cons_of_mem _ h')⟩
    · unfold delF
      rw [getL_app]
      split
      · rename_i h; rw [h.1, h.2, ha, hb2]; rfl
      · rename_i h
        rw [hfl a b, hl, getL_app]
        have : getL (p :: bs) a b = getL bs a b := by
          show (if p.1.1 = a ∧ p.1.2 = b then some p.2 else getL bs a b) = _
          rw [hp, if_neg (fun q => h ⟨q.1.symm, q.2.symm⟩)]
        rw [this]
    · have hsome : f x y = some p.2 := by
        rw [hfl, hl, getL_app, ha]
        show (if p.1.1 = x ∧ p.1.2 = y then some p.2 else getL bs x y) = _
        rw [hp, if_pos ⟨rfl, rfl⟩]
      have hsz : (es.eraseIdxIfInBounds j).size = es.size - 1 := by
        unfold Array.eraseIdxIfInBounds
        rw [dif_pos hlt, Array.size_eraseIdx]
      rw [hsome, hsz]
      show (es.size : Int) - ((es.size - 1 : Nat) : Int) = 1
      omega
end
section
variable {P : Program} {R : Array Oper} {Q : Exit → Act → World → Prop} {K : Act → World → Prop} {i n : Nat} {a : Act} {w : World} {m : List (Nat × Value)} {T : TypeId} {g : Option (Nat × Bool)} {X Y : Operand} {T1 kt ie et : TypeId} {r ck : Nat} {es : Array MapEntry} {f : Int → Int → Option Int}
theorem s_val0 {op : Op} (hp : pj R i = some (none, op, T, g)) (hE : En n a m) (hw : Wn R m g true) (hr : ∀ o : Oper, o.op = op → o.type = T → ∃ v w', (execOp a.eval o).run P w = .ok (.value v) w' ∧ K a w') : wpOp P R Q i K a w := by
  obtain ⟨o, ho, h1, h2, h3, h4⟩ := pj_some hp
  unfold wpOp
  simp only [ho, hw n a hE o h4, if_true]
  left
  obtain ⟨v, w', hr, hk⟩ := hr o h2 h3
  unfold Oper.wp
  rw [hr]
  simp only [Oper.upon, h1]
  exact hk
theorem s_delP {x y : Int} (hp : pj R i = some (none, .call { callee := .builtin .delete, args := #[X, Y], argTypes := #[T1, kt] }, T, g)) (hE : En n a m) (hw : Wn R m g true) (hm : P.underlying T1 = some (.map kt et)) (hk : P.underlying kt = some (.array 2 ie)) (hi : P.underlying ie = some (.int .i64)) (hs : (P.info? ie).map (·.size) = some 1) (hf : flat P 9 kt = some [some .i64, some .i64]) (hA : flat.isAggT P kt = true) (h1 : ev m X = some (.map (some r))) (h2 : ev m Y = some (.agg #[.int .i64 x, .int .i64 y])) (hF : MapF es f) (hb : w.heap[r]? = some (.map es ck))
    (h : ∀ es' w', MapF es' (delF f x y) → (es.size : Int) - (es'.size : Int) = (if (f x y).isSome then 1 else 0) → w'.heap[r]? = some (.map es' ck) → Kp w w' (fun k => k = r) → K a w') : wpOp P R Q i K a w := by
  obtain ⟨es', hr, hF', hz⟩ := run_delP (w := w) hm hk hi hs hf hA hb hF x y T
  unfold kenc at hr
  exact s_val0 hp hE hw (fun o e1 e2 => ⟨.tuple #[], _, by
    unfold execOp; rw [e1]
    simp [resolve, invoke, builtin, hE.ev h1, hE.ev h2, e2, hr], h es' _ hF' hz (Go.MapKept.heap_set hb).1 (kp_set hb)⟩)
theorem st_lenP (hT : P.underlying T1 = some (.map kt et)) (h1 : ev m X = some (.map (some r))) (hb : w.heap[r]? = some (.map es ck)) : Still P (.call { callee := .builtin .len, args := #[X], argTypes := #[T1] }) T m w (.int .i64 (es.size : Int)) := fun n a hE o e1 e2 => by
  have hr : (Builtin.len_ #[T1] T #[.map (some r)]).run P w = .ok (.int .i64 (es.size : Int)) w := by
    simp [Builtin.len_, run_underlying hT, Go.MapKept.run_getObj_map hb, Result.andThen, goInt]
  unfold execOp; rw [e1]
  simp [resolve, invoke, builtin, hE.ev h1, e2, hr]
end
/-- The cells of a struct of a number and a table. -/
def cellsD (n : Int) (D : Nat → Nat → Int) : Array Value := ⟨.int .i64 n :: (List.range 4096).map fun k => .int .i64 (D (k / 64) (k % 64))⟩
def setD (D : Nat → Nat → Int) (i j : Nat) (v : Int) : Nat → Nat → Int := fun a b => if a = i ∧ b = j then v else D a b
theorem sizeD (n : Int) (D : Nat → Nat → Int) : (cellsD n D).size = 4097 := by simp [cellsD]
theorem c0 (n : Int) (D : Nat → Nat → Int) : (cellsD n D)[0]? = some (.int .i64 n) := rfl
theorem cD {n : Int} {D : Nat → Nat → Int} {i j o : Nat} (hi : i < 64) (hj : j < 64) (ho : o = (1 + i * 64) + j) : (cellsD n D)[o]? = some (.int .i64 (D i j)) := by
  subst ho
  rw [show 1 + i * 64 + j = (i * 64 + j) + 1 by omega]
  unfold cellsD
  rw [List.getElem?_toArray, List.getElem?_cons_succ, List.getElem?_map, List.getElem?_range (by omega)]
  show some (Value.int .i64 (D ((i * 64 + j) / 64) ((i * 64 + j) % 64))) = _
  rw [show (i * 64 + j) / 64 = i by omega, show (i * 64 + j) % 64 = j by omega]
theorem storeD {n : Int} {D : Nat → Nat → Int} {i j : Nat} {v : Int} (hi : i < 64) (hj : j < 64) : (cellsD n D).toList.take ((1 + i * 64) + j) ++ (Value.int .i64 v).cells.toList ++ (cellsD n D).toList.drop (((1 + i * 64) + j) + 1) = (cellsD n (setD D i j v)).toList := by
  rw [show 1 + i * 64 + j = (i * 64 + j) + 1 by omega]
  unfold cellsD
  show (Value.int .i64 n :: List.map _ _).take _ ++ [Value.int .i64 v] ++ (Value.int .i64 n :: List.map _ _).drop _ = _
  rw [List.take_succ_cons, List.drop_succ_cons, List.cons_append, List.cons_append]
  congr 1
  rw [List.append_assoc]
  have hs := List.set_eq_take_append_cons_drop (l := (List.range 4096).map fun k => Value.int .i64 (D (k / 64) (k % 64))) (i := i * 64 + j) (a := Value.int .i64 v)
  rw [if_pos (by rw [List.length_map, List.length_range]; omega)] at hs
  rw [List.singleton_append, ← hs]
  refine List.ext_getElem? fun k => ?_
  rw [List.getElem?_set, List.getElem?_map, List.getElem?_map]
  by_cases hk : k < 4096
  · rw [List.getElem?_range hk]
    unfold setD
    by_cases he : i * 64 + j = k
    · rw [if_pos he, if_pos (by rw [List.length_map, List.length_range]; omega)]
      show _ = some (Value.int .i64 (if k / 64 = i ∧ k % 64 = j then v else D (k / 64) (k % 64)))
      rw [if_pos (by omega)]
    · rw [if_neg he]
      show _ = some (Value.int .i64 (if k / 64 = i ∧ k % 64 = j then v else D (k / 64) (k % 64)))
      rw [if_neg (by omega)]
      rfl
  · rw [List.getElem?_eq_none (l := List.range 4096) (by rw [List.length_range]; omega), if_neg (by omega)]
    rfl
theorem zeroD (n : Int) : (⟨.int .i64 n :: List.replicate 4096 (.int .i64 0)⟩ : Array Value) = cellsD n (fun _ _ => 0) := by
  unfold cellsD
  rw [List.map_const', List.length_range]
end Go.Proofs.Ytpnpfapdjdcnbaa.Lm
