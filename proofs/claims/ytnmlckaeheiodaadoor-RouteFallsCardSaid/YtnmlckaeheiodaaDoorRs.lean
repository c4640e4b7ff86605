/- Steps of a walk: rows of structs. No condition. -/
import Derived.Test.YtnmlckaeheiodaaDoorDs
set_option linter.unusedVariables false
set_option linter.unusedSimpArgs false
namespace Go.Proofs.YtnmlckaeheiodaaDoor.Ds
open Go.RowKit Go.Proofs.YtnmlckaeheiodaaDoorW.PrintWords
open Go.Proofs.YtnmlckaeheiodaaDoor.Pk (Kp)
theorem addr_add2 (a : Addr) (n m : Nat) : (a.add n).add m = a.add (n + m) := by
 obtain ⟨b, o, sp⟩ := a
 unfold Addr.add
 by_cases hn : n = 0
 · subst hn; simp
 ·
  by_cases hm : m = 0
  · subst hm; simp [hn]
  ·
   have : ¬ (n + m = 0) := by omega
   simp [hn, hm, this, Nat.add_assoc]
theorem pan_then {A : Act → World → Prop} {Q : Exit → Act → World → Prop} (h : ∀ c a d v w, Q (.panic c) (Act.put a d v) w → Q (.panic c) a w) : ∀ c a d v w, Exit.then A Q (.panic c) (Act.put a d v) w → Exit.then A Q (.panic c) a w := h
theorem pan_block {id : Nat} {Q : Exit → Act → World → Prop} (h : ∀ c a d v w, Q (.panic c) (Act.put a d v) w → Q (.panic c) a w) : ∀ c a d v w, Exit.inBlock id Q (.panic c) (Act.put a d v) w → Exit.inBlock id Q (.panic c) a w := h
section
variable {P : Program} {T T1 : TypeId} {m : List (Nat × Value)} {w : World} {X Y : Operand} {A : Option Addr} {n c s i off : Nat} {e : TypeId} {k' : IntKind} {v : Value}
/-- The byte of a string; strings compared. -/
theorem st_eqlS {s1 s2 : ByteArray} {b : Bool} {T2 : TypeId} (h1 : ev m X = some (.string s1)) (h2 : ev m Y = some (.string s2)) (hb : (s1.toList == s2.toList) = b) : Still P (.binOp .eql T1 X Y T2) T m w (.bool b) := fun n a hE o e1 e2 => by
 unfold execOp; rw [e1]
 simp [hE.ev h1, hE.ev h2, eqGuard, binOp_string_eql, hb]
/-- Element i of a row of whatever kind. -/
theorem C_elem {α : Type} {d : Kd α} {xs : List α} (h : d.C w A n xs) (z : α) (hi : i < n) : A = some (A.getD default) ∧ ∃ c, d.K w (xs.getD i z) c ∧ ∀ j u, c[j]? = some u → w.cell? (ea A (i * d.sz + j)) = some u := by
 obtain ⟨ad, c, rfl, _, hK, hc⟩ := Kd.C_get h z (i : Int) (by omega) (by omega)
 exact ⟨rfl, c, hK, hc⟩
theorem st_indexAddrR (hT : P.underlying T1 = some (.slice e)) (hs : (P.info? e).map (·.size) = some s) (hA : A = some (A.getD default)) (h1 : ev m X = some (.slice A n c)) (h2 : ev m Y = some (.int k' (i : Int))) (hi : i < n) : Still P (.indexAddr T1 X Y) T m w (.pointer (some (ea A (i * s)))) := by
 obtain ⟨x, rfl⟩ : ∃ x, A = some x := ⟨_, hA⟩
 exact st_indexAddr hT hs h1 h2 hi (by simp [ea])
theorem st_fieldAddrR {j o' q f0 : Nat} {fs : Array Field} {f : Field} (hT : P.underlying T1 = some (.struct fs)) (hf : fs[j]? = some f) (hs : (P.info? f.type).map (·.size) = some (q + 1)) (hf0 : f.offset = f0) (ho : off + f0 = o') (h1 : ev m X = some (.pointer (some (ea A off)))) : Still P (.fieldAddr T1 X j) T m w (.pointer (some (ea A o'))) := fun n a hE o e1 e2 => by
 subst hf0
 unfold execOp; rw [e1]
 simp [hE.ev h1, Instr.fieldAt, Instr.sureAddr, run_underlying hT, hf, fieldPlace, run_sizeD hs, ea, addr_add2, ho]
theorem st_loadR1 {T0 : TypeId} {cs : List Value} {j : Nat} (hT : (P.underlying T0).map aggD = some false) (hc : ∀ j u, cs[j]? = some u → w.cell? (ea A (off + j)) = some u) (hv : cs[j]? = some v) {o' : Nat} (ho : off + j = o') (h1 : ev m X = some (.pointer (some (ea A o')))) : Still P (.load T0 X) T m w v := by subst ho; exact st_load1 hT h1 (hc j v hv)
theorem st_loadR {T0 : TypeId} {cs vs : List Value} {j k o' : Nat} (hT : (P.underlying T0).map aggD = some true) (hs : (P.info? T0).map (·.size) = some k) (hc : ∀ j u, cs[j]? = some u → w.cell? (ea A (off + j)) = some u) (hv : (cs.drop j).take k = vs) (hl : vs.length = k) (ho : off + j = o') (h1 : ev m X = some (.pointer (some (ea A o')))) : Still P (.load T0 X) T m w (.agg vs.toArray) := fun n a hE o e1 e2 => by
 subst ho
 unfold execOp; rw [e1]
 have hrun : (loadCells (ea A (off + j)) k).run P w = .ok vs.toArray w := by
  have := run_loadCells_list (P := P) (w := w) (ea A (off + j)) vs (fun j' v hj => by
   rw [← hv, List.getElem?_take] at hj
   split at hj
   ·
    rw [List.getElem?_drop] at hj
    have := hc _ _ hj
    rw [ea, ← Nat.add_assoc] at this
    rw [ea, addr_add2]
    exact this
   · cases hj)
  rw [hl] at this
  exact this
 simp [hE.ev h1, Instr.loadAt, Instr.sureAddr, loadVar, run_isAggD hT, run_sizeD hs, hrun]
theorem newsB {b T0 : Nat} {cs : Array Value} {fr : Nat × Nat} {news : List Value} (hb : w.heap[b]? = some (.cells cs T0 fr)) (hcs : cs.toList = news) : ∀ j u, news[j]? = some u → w.cell? ((⟨b, 0, none⟩ : Addr).add j) = some u := by
 subst hcs
 intro j u hj
 rw [add_mk, Nat.zero_add, cell_of_row w b j cs T0 fr hb, ← Array.getElem?_toList]
 exact hj
theorem ones {news : List Value} (h : news.all (·.oneCell') = true) : ∀ u ∈ news, u.oneCell' = true := List.all_eq_true.1 h
/-- An own row that holds data of some kind, as a row that reads as them. -/
theorem own_blk0 {b base s T0 : Nat} (hb : w.heap[b]? = some (.cells #[] T0 (0, 0))) (hg : base ≤ b) : w.ownsRow base T0 s (.slice (some ⟨b, 0, none⟩) 0 0) 0 [] := ⟨by simp, .inr ⟨b, 0, #[], rfl, hg, hb, Nat.le_refl _, Nat.zero_le _, by simp, by simp⟩⟩
theorem cell_to {W : World} (hk : Kp w W (fun _ => False)) {a : Addr} (hc : w.cell? a = some v) : W.cell? a = some v := pw_cell_below (hk.to (Nat.le_refl _) (fun _ h => h.elim)) hc
theorem C_to {α : Type} {d : Kd α} {xs : List α} {W : World} (h : d.C w A n xs) (hk : Kp w W (fun _ => False)) : d.C W A n xs := Kd.C_below h (hk.to (Nat.le_refl _) (fun _ h => h.elim))
end
section
variable {P : Program} {R : Array Oper} {Q : Exit → Act → World → Prop} {i n : Nat} {a : Act} {w : World} {m : List (Nat × Value)} {op : Op} {T : TypeId} {d : Nat} {v : Value} {rest : List Nat}
theorem q0 (hp : pj R i = some (some d, op, T, none)) (hE : En n a m) (hv : Still P op T m w v) (h : ∀ a, En n a ((d, v) :: m) → wpOps P R Q rest a w) (hd : Nat.blt d n = true := by rfl) : wpOps P R Q (i :: rest) a w := p_cons (s_still hp hE wn_none hd hv h)
/-- Runs of operations that leave the world, and a region's operations as one fact. -/
def SR (P : Program) (R : Array Oper) (n : Nat) (w : World) (l : List Nat) (m : List (Nat × Value)) (l' : List Nat) (m' : List (Nat × Value)) : Prop := ∀ (Q : Exit → Act → World → Prop) (a : Act), (∀ a, En n a m' → wpOps P R Q l' a w) → En n a m → wpOps P R Q l a w
theorem rn {l : List Nat} : SR P R n w l m l m := fun Q a h hE => h a hE
theorem rc {l l' : List Nat} {m' : List (Nat × Value)} (hp : pj R i = some (some d, op, T, none)) (hv : Still P op T m w v) (h : SR P R n w l ((d, v) :: m) l' m') (hd : Nat.blt d n = true := by rfl) : SR P R n w (i :: l) m l' m' := fun Q a h2 hE => p_cons (s_still hp hE wn_none hd hv (fun a hE => h Q a h2 hE))
theorem rg {l l' : List Nat} {m' : List (Nat × Value)} {g : Option (Nat × Bool)} (hp : pj R i = some (some d, op, T, g)) (hw : Wn R m g true) (hv : Still P op T m w v) (h : SR P R n w l ((d, v) :: m) l' m') (hd : Nat.blt d n = true := by rfl) : SR P R n w (i :: l) m l' m' := fun Q a h2 hE => p_cons (s_still hp hE hw hd hv (fun a hE => h Q a h2 hE))
theorem rk {l l' : List Nat} {m' : List (Nat × Value)} {g : Option (Nat × Bool)} (hp : pj R i = some (some d, op, T, g)) (hw : Wn R m g false) (h : SR P R n w l ((d, undef) :: m) l' m') (hd : Nat.blt d n = true := by rfl) : SR P R n w (i :: l) m l' m' := fun Q a h2 hE => p_cons (s_skip hp hE hw hd (fun a hE => h Q a h2 hE))
theorem qn {l l' : List Nat} {m' : List (Nat × Value)} (hE : En n a m) (hr : SR P R n w l m l' m') (h : ∀ a, En n a m' → wpOps P R Q l' a w) : wpOps P R Q l a w := hr Q a h hE
theorem pl {R : Array Oper} {L : List (Option (Option Tmp × Op × TypeId × Option (Nat × Bool)))} (h : (List.range R.size).map (pj R) = L) (i : Nat) : pj R i = L.getD i none := by
 subst h
 rw [List.getD_eq_getElem?_getD, List.getElem?_map]
 by_cases hi : i < R.size
 · rw [List.getElem?_range hi]; rfl
 ·
  rw [List.getElem?_eq_none (by simpa using hi)]
  show pj R i = none
  unfold pj
  rw [Array.getElem?_eq_none (by omega)]; rfl
end
section
variable {P : Program} {R : Array Oper} {Q : Exit → Act → World → Prop} {K : Act → World → Prop} {i n : Nat} {a : Act} {w : World} {m : List (Nat × Value)} {T T1 : TypeId} {g : Option (Nat × Bool)} {d : Nat} {X Y : Operand}
end
end Go.Proofs.YtnmlckaeheiodaaDoor.Ds
