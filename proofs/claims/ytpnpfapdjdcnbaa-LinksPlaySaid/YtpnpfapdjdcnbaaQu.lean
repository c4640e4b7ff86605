/- A queue: a slice of whole numbers that lies at any place of its block; the first is taken off, one is put behind. -/
import Derived.Test.YtpnpfapdjdcnbaaRs
import Derived.ArgAppend
import Derived.Laws.IdiomCopy
set_option maxRecDepth 100000
set_option linter.unusedVariables false
set_option linter.unusedSimpArgs false
namespace Go.Proofs.Ytpnpfapdjdcnbaa.Qu
open Go.RowKit Go.Proofs.YtpnpfapdjdcnbaaW.PrintWords Go.Proofs.Ytpnpfapdjdcnbaa.Ds
open Go.Proofs.Ytpnpfapdjdcnbaa.Pk (Kp)
/-- The slice ⟨b, off⟩ n c holds xs; the cells behind them are there and not frozen. -/
structure QC (w : World) (base b off n c : Nat) (xs : List Int) : Prop where
  len : xs.length = n
  le : n ≤ c
  max : c ≤ maxLen
  ge : base ≤ b
  lt : b < w.heap.size
  cells : ∀ j, j < n → w.cell? ⟨b, off + j, none⟩ = some (.int .i64 (xs.getD j 0))
  spare : ∀ j, n ≤ j → j < c → (w.cell? ⟨b, off + j, none⟩).isSome = true ∧ w.frozen? ⟨b, off + j, none⟩ = false
  free : ∀ j, j < n → w.frozen? ⟨b, off + j, none⟩ = false
theorem qc_own {w : World} {base e g n c : Nat} {xs : List Int} (h : w.ownsRow base e 1 (.slice (some ⟨g, 0, none⟩) n c) n (encs (Value.int .i64) xs)) : QC w base g 0 n c xs := by
  obtain ⟨h1, h2⟩ := h
  rcases h2 with ⟨h2, _⟩ | ⟨g', cap, cur, he, hb, hc, hn, hm, hs, ht⟩
  · cases h2
  · injection he with e1 _ e3
    injection e1 with e1
    injection e1 with e1
    subst e1; subst e3
    have hl : xs.length = n := by simpa [encs] using h1
    refine ⟨hl, hn, hm, hb, (Array.getElem?_eq_some_iff.1 hc).1, fun j hj => ?_, fun j h1 h2 => ⟨?_, frozen_of_row w g (0 + j) cur e hc⟩, fun j _ => frozen_of_row w g (0 + j) cur e hc⟩
    · rw [cell_of_row w g (0 + j) cur e (0, 0) hc, Nat.zero_add, ← Array.getElem?_toList]
      have h3 : (cur.toList.take (n * 1))[j]? = some (.int .i64 (xs.getD j 0)) := by rw [ht]; simp [encs, List.getElem?_eq_getElem (show j < xs.length by omega), List.getD_eq_getElem?_getD]
      rw [List.getElem?_take, if_pos (by omega)] at h3
      exact h3
    · rw [cell_of_row w g (0 + j) cur e (0, 0) hc, Nat.zero_add]
      simp; omega
theorem qc_keep {w w' : World} {base b off n c : Nat} {xs : List Int} {S : Nat → Prop} (h : QC w base b off n c xs) (hk : Kp w w' S) (hn : ¬ S b) : QC w' base b off n c xs := by
  have e := hk.kept.2 b h.lt hn
  exact ⟨h.len, h.le, h.max, h.ge, Nat.lt_of_lt_of_le h.lt hk.kept.1, fun j hj => (World.cell?_of_block (a := ⟨b, off + j, none⟩) e).trans (h.cells j hj), fun j h1 h2 => ⟨by rw [World.cell?_of_block (a := ⟨b, off + j, none⟩) e]; exact (h.spare j h1 h2).1, (World.frozen?_of_block (a := ⟨b, off + j, none⟩) e).trans (h.spare j h1 h2).2⟩, fun j hj => (World.frozen?_of_block (a := ⟨b, off + j, none⟩) e).trans (h.free j hj)⟩
theorem qc_C {w : World} {base b off n c : Nat} {xs : List Int} (h : QC w base b off n c xs) : Kd.C (Kd.int .i64) w (some ⟨b, off, none⟩) n xs :=
  Kd.C_of_reads (enc := Value.int .i64) (d := (0 : Int)) (h1 := fun _ => rfl) ⟨h.len, by have := h.le; have := h.max; unfold maxLen at *; omega, fun _ => ⟨_, rfl, fun j hj => by rw [add_mk]; exact h.cells j hj⟩⟩
theorem qc_pop {w : World} {base b off n c : Nat} {x : Int} {xs : List Int} (h : QC w base b off (n + 1) (c + 1) (x :: xs)) : QC w base b (off + 1) n c xs :=
  ⟨by have := h.len; simpa using this, by have := h.le; omega, by have := h.max; omega, h.ge, h.lt, fun j hj => by
    have := h.cells (j + 1) (by omega)
    rw [show off + 1 + j = off + (j + 1) by omega, this]; rfl, fun j h1 h2 => by
    rw [show off + 1 + j = off + (j + 1) by omega]; exact h.spare (j + 1) (by omega) (by omega), fun j hj => by
    rw [show off + 1 + j = off + (j + 1) by omega]; exact h.free (j + 1) (by omega)⟩
/-- The last room is gone: the address stays (nothing is read through it). -/
theorem qc_end {w : World} {base b off : Nat} {x : Int} (h : QC w base b off 1 1 [x]) : QC w base b off 0 0 [] :=
  ⟨rfl, Nat.le_refl _, Nat.zero_le _, h.ge, h.lt, fun j hj => absurd hj (Nat.not_lt_zero j), fun j _ h2 => absurd h2 (Nat.not_lt_zero j), fun j hj => absurd hj (Nat.not_lt_zero j)⟩
section
variable {P : Program} {w : World}
theorem run_push {base b off n c e T1 ty c2 by' : Nat} {xs : List Int} {v : Int} {ad : Addr} (hT : P.underlying T1 = some (.slice e)) (hi : elemD P e = some (1, 1, by')) (h : QC w base b off n c xs) (hv : w.cell? ad = some (.int .i64 v)) (h63 : n + 1 ≤ 9223372036854775807) (hby : (n + 1) * by' ≤ 140737488355328) (hb : base ≤ w.heap.size) :
    ∃ b' off' c' w', (Builtin.append_ #[T1, T1] ty #[.slice (some ⟨b, off, none⟩) n c, .slice (some ad) 1 c2]).run P w = .ok (.slice (some ⟨b', off', none⟩) (n + 1) c') w' ∧ QC w' base b' off' (n + 1) c' (xs ++ [v]) ∧ Kp w w' (fun k => k = b) ∧ (b' = b ∨ w.heap.size ≤ b') := by
  unfold elemD at hi
  cases hq : P.info? e with
  | none => rw [hq] at hi; cases hi
  | some ie =>
    rw [hq] at hi
    simp only at hi
    cases hz : ie.zero with
    | none => rw [hz] at hi; cases hi
    | some z =>
      rw [hz] at hi
      simp only [Option.map_some, Option.some.injEq, Prod.mk.injEq] at hi
      obtain ⟨hs3, hs1, hs2⟩ := hi
      have hnews : ∀ j u, [Value.int .i64 v][j]? = some u → w.cell? (ad.add j) = some u := by
        intro j u hj
        have h0 : j = 0 := by have := (List.getElem?_eq_some_iff.1 hj).1; simpa using this
        subst h0
        obtain rfl : Value.int .i64 v = u := by simpa using hj
        have e0 : ad.add 0 = ad := by obtain ⟨p, q, r⟩ := ad; unfold Addr.add; simp
        rw [e0]; exact hv
      have hone : ∀ u ∈ [Value.int .i64 v], u.oneCell' = true := by intro u hu; rw [List.mem_singleton.1 hu]; rfl
      have hlen := h.len
      have hget : ∀ j, j < n + 1 → (xs ++ [v]).getD j 0 = if j < n then xs.getD j 0 else v := by
        intro j hj
        by_cases hjn : j < n
        · rw [if_pos hjn, List.getD_eq_getElem?_getD, List.getD_eq_getElem?_getD, List.getElem?_append_left (by omega)]
        · rw [if_neg hjn, show j = xs.length by omega, List.getD_eq_getElem?_getD]; simp
      by_cases hr : n + 1 ≤ c
      · have hsp := h.spare n (Nat.le_refl _) (by omega)
        have ea : ∀ j, j < 1 → off + n * ie.size + j = off + n := fun j hj => by rw [hs1]; omega
        have hrun := run_append_room_cells (P := P) w T1 ty e ie hT hq b off n c ad 1 c2 [Value.int .i64 v] (by rw [hs1]; rfl) hnews hone hr (fun j hj => by rw [ea j hj]; exact hsp.1) (fun j hj => by rw [ea j hj]; exact hsp.2)
        have ew : w.setCells b (off + n * ie.size) [Value.int .i64 v] = w.setCell ⟨b, off + n, none⟩ (.int .i64 v) := by
          rw [hs1, Nat.mul_one]; rfl
        rw [ew] at hrun
        refine ⟨b, off, c, _, hrun, ?_, (Kp.refl w (fun k => k = b)).setCell (.inl rfl) _, .inl rfl⟩
        obtain ⟨u, hu⟩ := Option.isSome_iff_exists.1 hsp.1
        refine ⟨by rw [List.length_append, hlen]; rfl, hr, h.max, h.ge, ?_, fun j hj => ?_, fun j h1 h2 => ?_, fun j hj => ?_⟩
        · have := h.lt
          simpa [World.setCell] using this
        · rw [hget j hj]
          by_cases hjn : j < n
          · rw [if_pos hjn, World.cell?_setCell_other _ _ _ _ (by intro q; injection q with _ q _; omega)]
            exact h.cells j hjn
          · rw [if_neg hjn, show j = n by omega]
            exact World.cell?_setCell_same _ _ _ hu
        · rw [World.cell?_setCell_other _ _ _ _ (by intro q; injection q with _ q _; omega), World.frozen?_setCell]
          exact h.spare j (by omega) h2
        · rw [World.frozen?_setCell]
          by_cases hjn : j < n
          · exact h.free j hjn
          · rw [show j = n by omega]; exact hsp.2
      · obtain ⟨v', w', hrun, ho, hg⟩ := run_append_arg_grows (P := P) w T1 ty e ie z 1 by' hT hq hz hs1 hs2 hs3 (by decide) ⟨b, off, none⟩ n c (encs (Value.int .i64) xs) (by rw [encs_length, hlen, Nat.mul_one]) (fun j u hj => by
            rw [add_mk]
            have hjl : j < xs.length := by have := (List.getElem?_eq_some_iff.1 hj).1; rwa [encs_length] at this
            rw [h.cells j (by omega)]
            rw [← hj]; simp [encs, List.getElem?_eq_getElem hjl, List.getD_eq_getElem?_getD]) ad 1 c2 [Value.int .i64 v] rfl hnews (by omega) (by unfold maxLen; omega) hby
        rw [show encs (Value.int .i64) xs ++ [Value.int .i64 v] = encs (Value.int .i64) (xs ++ [v]) by simp [encs]] at ho
        have ho2 := ho
        obtain ⟨_, h2⟩ := ho2
        rcases h2 with ⟨_, h2⟩ | ⟨g, cap, cur, he, hbg, _⟩
        · omega
        · subst he
          have hq2 := qc_own ho
          exact ⟨g, 0, cap, w', hrun, ⟨hq2.len, hq2.le, hq2.max, Nat.le_trans hb hbg, hq2.lt, hq2.cells, hq2.spare, hq2.free⟩, ⟨⟨hg.size, fun k hk _ => hg.block k hk (by simp)⟩, hg.os, hg.tape, hg.output⟩, .inr hbg⟩
end
/-- The same of the block's object alone. -/
def QO (o : Obj) (off n c : Nat) (xs : List Int) : Prop := ∀ (w : World) (b : Nat), w.heap[b]? = some o → QC w 0 b off n c xs
theorem cell_obj {w w2 : World} {b b2 k : Nat} (h : w.heap[b]? = w2.heap[b2]?) : w.cell? ⟨b, k, none⟩ = w2.cell? ⟨b2, k, none⟩ := by
  simp only [World.cell?, h]
theorem frozen_obj {w w2 : World} {b b2 k : Nat} (h : w.heap[b]? = w2.heap[b2]?) : w.frozen? ⟨b, k, none⟩ = w2.frozen? ⟨b2, k, none⟩ := by
  simp only [World.frozen?, h]
theorem qo_of {w : World} {base b off n c : Nat} {xs : List Int} (h : QC w base b off n c xs) : ∃ o, w.heap[b]? = some o ∧ QO o off n c xs := by
  refine ⟨w.heap[b]'h.lt, by simp [h.lt], fun w2 b2 h2 => ?_⟩
  have e : w2.heap[b2]? = w.heap[b]? := by rw [h2]; simp [h.lt]
  exact ⟨h.len, h.le, h.max, Nat.zero_le _, (Array.getElem?_eq_some_iff.1 h2).1, fun j hj => (cell_obj e).trans (h.cells j hj), fun j h1 h3 => ⟨by rw [cell_obj e]; exact (h.spare j h1 h3).1, (frozen_obj e).trans (h.spare j h1 h3).2⟩, fun j hj => (frozen_obj e).trans (h.free j hj)⟩
theorem qo_one (x : Int) (e : TypeId) : QO (.cells #[.int .i64 x] e (0, 0)) 0 1 1 [x] := fun w b h => by
  have ho : w.ownsRow 0 e 1 (.slice (some ⟨b, 0, none⟩) 1 1) 1 (encs (Value.int .i64) [x]) := ⟨rfl, .inr ⟨b, 1, #[.int .i64 x], rfl, Nat.zero_le _, h, Nat.le_refl _, by unfold maxLen; omega, rfl, rfl⟩⟩
  exact qc_own ho
theorem qo_pop {o : Obj} {off n c : Nat} {x : Int} {xs : List Int} (h : QO o off (n + 1) (c + 1) (x :: xs)) : QO o (off + 1) n c xs := fun w b hb => qc_pop (h w b hb)
theorem qo_end {o : Obj} {off : Nat} {x : Int} (h : QO o off 1 1 [x]) : QO o off 0 0 [] := fun w b hb => qc_end (h w b hb)
/-- Any first taken off, wherever the slice then starts. -/
theorem qo_tail {o : Obj} {off n c : Nat} {x : Int} {xs : List Int} (h : QO o off (n + 1) c (x :: xs)) (hle : n + 1 ≤ c) : QO o (if c = 1 then off else off + 1) n (c - 1) xs := by
  obtain ⟨d, rfl⟩ : ∃ d, c = d + 1 := ⟨c - 1, by omega⟩
  by_cases hd : d + 1 = 1
  · obtain rfl : d = 0 := by omega
    obtain rfl : n = 0 := by omega
    intro w b hb
    have hc := h w b hb
    obtain rfl : xs = [] := by have := hc.len; simpa using this
    rw [if_pos rfl]
    exact qc_end hc
  · rw [if_neg hd, Nat.add_sub_cancel]; exact qo_pop h
theorem tail_addr (b off c : Nat) : (if c = 1 then some (⟨b, off, none⟩ : Addr) else (some (⟨b, off, none⟩ : Addr)).map (·.add (1 * 1))) = some ⟨b, if c = 1 then off else off + 1, none⟩ := by
  split
  · rfl
  · show some (Addr.add ⟨b, off, none⟩ (1 * 1)) = _
    rw [add_mk]
theorem qo_C {o : Obj} {w : World} {b off n c : Nat} {xs : List Int} (h : QO o off n c xs) (hb : w.heap[b]? = some o) : Kd.C (Kd.int .i64) w (some ⟨b, off, none⟩) n xs := qc_C (h w b hb)
section
variable {P : Program} {R : Array Oper} {Q : Exit → Act → World → Prop} {K : Act → World → Prop} {i n : Nat} {a : Act} {w : World} {m : List (Nat × Value)} {T : TypeId} {g : Option (Nat × Bool)} {d : Nat} {v : Value} {X Y Z : Operand} {T1 : TypeId}
theorem s_push {b off q c e c2 by' : Nat} {xs : List Int} {x : Int} {ad : Addr} {o : Obj} (hp : pj R i = some (some d, .call { callee := .builtin .append, args := #[X, Y], argTypes := #[T1, T1] }, T, g)) (hE : En n a m) (hw : Wn R m g true) (hd : Nat.blt d n = true)
    (hT : P.underlying T1 = some (.slice e)) (hi : elemD P e = some (1, 1, by')) (hx : ev m X = some (.slice (some ⟨b, off, none⟩) q c)) (hy : ev m Y = some (.slice (some ad) 1 c2)) (hb : w.heap[b]? = some o) (hq : QO o off q c xs) (hv : w.cell? ad = some (.int .i64 x)) (h63 : q + 1 ≤ 9223372036854775807) (hby : (q + 1) * by' ≤ 140737488355328)
    (h : ∀ b' off' c' o' w', w'.heap[b']? = some o' → QO o' off' (q + 1) c' (xs ++ [x]) → Kp w w' (fun k => k = b) → (b' = b ∨ w.heap.size ≤ b') → ∀ a, En n a ((d, .slice (some ⟨b', off', none⟩) (q + 1) c') :: m) → K a w') : wpOp P R Q i K a w := by
  refine s_step hp hE hw hd (fun o9 e1 e2 => ?_)
  obtain ⟨b', off', c', w', hr, hQ, hk, hn⟩ := run_push (P := P) (w := w) (base := 0) (ty := o9.type) (c2 := c2) hT hi (hq w b hb) hv h63 hby (Nat.zero_le _)
  obtain ⟨o', h1, h2⟩ := qo_of hQ
  refine ⟨_, w', ?_, h b' off' c' o' w' h1 h2 hk hn⟩
  unfold execOp; rw [e1]
  simp only [resolve, invoke, builtin, Sem.run_bind, Sem.run_pure, Result.andThen_ok, List.map_toArray, List.map_cons, List.map_nil, hE.ev hx, hE.ev hy, hr]
end
theorem s_storeO {P : Program} {R : Array Oper} {Q : Exit → Act → World → Prop} {K : Act → World → Prop} {i nn : Nat} {a : Act} {w : World} {m : List (Nat × Value)} {T T1 : TypeId} {g : Option (Nat × Bool)} {X Y : Operand} {A : Option Addr} {c n base e j : Nat} {k : IntKind} {xs : List Int} {v : Int}
    (hp : pj R i = some (none, .store T1 X Y, T, g)) (hE : En nn a m) (hw : Wn R m g true) (hs : (P.info? T1).map (·.size) = some 1) (hx : ev m X = some (.pointer (some (ea A j)))) (hy : ev m Y = some (.int k v)) (ho : w.ownsRow base e 1 (.slice A n c) n (encs (Value.int k) xs)) (hj : j < n)
    (h : ∀ w', w'.ownsRow base e 1 (.slice A n c) n (encs (Value.int k) (xs.set j v)) → Kp w w' (OB A) → K a w') : wpOp P R Q i K a w := by
  have ho1 := ho.1
  rcases ho.2 with ⟨_, h0⟩ | ⟨b, cap, cur, hv, hb, hg, hle, hm, hsz, htk⟩
  · omega
  · injection hv with hA _ hc
    subst hA hc
    have hea : ea (some (⟨b, 0, none⟩ : Addr)) j = ⟨b, j, none⟩ := by simp [ea, add_mk]
    rw [hea] at hx
    refine s_store (off := j) (k := 1) (v := .int k v) (cs' := (cur.toList.set j (.int k v)).toArray) hp hE hw hs hx hy rfl rfl hg (by omega) ?_ ?_
    · have hlt : j < cur.toList.length := by rw [Array.length_toList]; omega
      show _ ++ [Value.int k v] ++ _ = _
      rw [List.set_eq_take_append_cons_drop, if_pos hlt]
      simp
    · intro w' hg' hk
      refine h w' ⟨by simpa [encs] using ho1, .inr ⟨b, c, _, rfl, hb, hg', hle, hm, ?_, ?_⟩⟩ (hk.mono (fun k hk => by rw [hk]; exact ⟨_, rfl, rfl⟩))
      · simpa using hsz
      · show ((cur.toList.set j (.int k v)).take (n * 1)) = _
        rw [List.take_set, htk]
        simp [encs, List.map_set]
end Go.Proofs.Ytpnpfapdjdcnbaa.Qu
