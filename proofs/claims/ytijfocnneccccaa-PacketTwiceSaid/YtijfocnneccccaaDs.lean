/- Steps of a walk as lemmas: what the slots hold, what an operation leaves, what a call keeps. No condition. -/
import Derived.Test.YtijfocnneccccaaWWords
import Derived.Test.YtijfocnneccccaaWKept
import Derived.OrdersHeld
import Derived.Laws.StructEq
import Derived.Laws.CopyRow
import Derived.DeepKeys
import Derived.Laws.Tables
import Derived.Laws.MakeOwn
import Derived.Maps.AppendAt
import Derived.WalkArith
import Derived.IntWalk
import Derived.Laws.Rows
import Derived.Deep.LoopGhost
import Derived.Great.BuildSlice
import Derived.Test.YtijfocnneccccaaKp
import Derived.Laws.Sem
import Derived.Laws.Small
import Derived.KernelRfl
import Derived.Tactics
set_option linter.unusedVariables false
set_option linter.unusedSimpArgs false
namespace Go.Proofs.Ytijfocnneccccaa.Ds
open Go.RowKit Go.Proofs.YtijfocnneccccaaW.PrintWords
open Go.Proofs.Ytijfocnneccccaa.Pk (Kp below_new)
/-- A function's region by its number. -/
def regIn : Code → Nat → Option (Array Oper)
 | .region i ops _, k => bif Nat.beq i k then some ops else none
 | .seq a b, k => match regIn a k with
  | some r => some r
  | none => regIn b k
 | .cond _ a b, k => match regIn a k with
  | some r => some r
  | none => regIn b k
 | .block _ c, k => regIn c k
 | .loop c, k => regIn c k
 | .scope c, k => regIn c k
 | .rangeFunc _ _ a b, k => match regIn a k with
  | some r => some r
  | none => regIn b k
 | _, _ => none
def regOf (f : Func) (k : Nat) : Array Oper := match f.body with
 | some c => (regIn c k).getD #[]
 | none => #[]
/-- What a slot holds. -/
def look : List (Nat × Value) → Nat → Option Value
 | [], _ => none
 | (k, v) :: m, s => bif Nat.beq k s then some v else look m s
structure En (n : Nat) (a : Act) (m : List (Nat × Value)) : Prop where
 defers : a.defers = []
 size : a.tmps.size = n
 get : ∀ s v, look m s = some v → a.tmps[s]? = some v
def ev (m : List (Nat × Value)) : Operand → Option Value
 | .tmp t => look m t
 | .const v => some v
 | .global g => some (.pointer (some ⟨g, 0, none⟩))
 | .func f => some (.func (.func f) #[] #[])
def evs (m : List (Nat × Value)) : List Operand → Option (List Value)
 | [] => some []
 | x :: xs => match ev m x, evs m xs with
  | some v, some vs => some (v :: vs)
  | _, _ => none
section
variable {n : Nat} {a : Act} {m : List (Nat × Value)}
theorem En.ev (h : En n a m) {x : Operand} {v : Value} (hx : ev m x = some v) : a.eval x = v := by
 cases x with
 | tmp t =>
  have := h.get t v hx
  simp [Act.eval, Array.getD_eq_getD_getElem?, this]
 | const u => simpa [Ds.ev, Act.eval] using hx
 | global g => simpa [Ds.ev, Act.eval] using hx
 | func f => simpa [Ds.ev, Act.eval] using hx
theorem En.evs (h : En n a m) : ∀ {xs : List Operand} {vs : List Value}, evs m xs = some vs → xs.map a.eval = vs
 | [], vs, hx => by simpa [Ds.evs] using hx
 | x :: xs, vs, hx => by
  simp only [Ds.evs] at hx
  split at hx
  ·
   rename_i v vs' h1 h2
   injection hx with hx
   subst hx
   simp [h.ev h1, h.evs h2]
  · cases hx
theorem En.put (h : En n a m) {d : Nat} {v : Value} (hd : Nat.blt d n = true) : En n (a.put (some d) v) ((d, v) :: m) := by
 have hd' : d < n := by simpa [Nat.blt_eq] using hd
 refine ⟨h.defers, by simp [Act.put, h.size], fun s u hs => ?_⟩
 simp only [look] at hs
 cases hb : Nat.beq d s with
 | true =>
  rw [hb] at hs
  simp at hs
  have : d = s := Nat.eq_of_beq_eq_true hb
  subst this
  subst hs
  simp [Act.put, h.size, hd']
 | false =>
  rw [hb] at hs
  simp at hs
  have : d ≠ s := Nat.ne_of_beq_eq_false hb
  simp only [Act.put]
  rw [Array.getElem?_setIfInBounds_ne this]
  exact h.get s u hs
/-- The entries of the first list are found in the second. -/
def subs : List (Nat × Value) → List (Nat × Value) → Prop
 | [], _ => True
 | (k, v) :: r, m => look m k = some v ∧ subs r m
theorem look_subs : ∀ {r m : List (Nat × Value)} {s : Nat} {v : Value}, subs r m → look r s = some v → look m s = some v
 | [], m, s, v, _, h => by cases h
 | (k, u) :: r, m, s, v, h, hl => by
  simp only [look] at hl
  cases hb : Nat.beq k s with
  | true =>
   rw [hb] at hl
   have e : k = s := Nat.eq_of_beq_eq_true hb
   subst e
   simp at hl
   subst hl
   exact h.1
  | false => rw [hb] at hl; exact look_subs h.2 hl
theorem En.sub {m' : List (Nat × Value)} (h : En n a m) (hs : subs m' m) : En n a m' := ⟨h.defers, h.size, fun s v hl => h.get s v (look_subs hs hl)⟩
end
/-- An operation as it is read: where to, what, of which type, under which guard. -/
def pj (R : Array Oper) (i : Nat) : Option (Option Tmp × Op × TypeId × Option (Nat × Bool)) := (R[i]?).map fun o => (o.dst, o.op, o.type, o.guard)
theorem pj_some {R : Array Oper} {i : Nat} {d : Option Tmp} {op : Op} {T : TypeId} {g : Option (Nat × Bool)} (h : pj R i = some (d, op, T, g)) : ∃ o, R[i]? = some o ∧ o.dst = d ∧ o.op = op ∧ o.type = T ∧ o.guard = g := by
 unfold pj at h
 cases ho : R[i]? with
 | none => rw [ho] at h; cases h
 | some o =>
  rw [ho] at h
  simp only [Option.map_some, Option.some.injEq, Prod.mk.injEq] at h
  exact ⟨o, rfl, h.1, h.2.1, h.2.2.1, h.2.2.2⟩
def dstOf (R : Array Oper) (i : Nat) : Option Tmp := (R[i]?).bind (·.dst)
/-- Is an operation of guard g carried out? -/
def Wn (R : Array Oper) (m : List (Nat × Value)) (g : Option (Nat × Bool)) (r : Bool) : Prop := ∀ n a, En n a m → ∀ o : Oper, o.guard = g → Region.wanted o (yielded R a.tmps) = r
theorem wn_none {R : Array Oper} {m : List (Nat × Value)} : Wn R m none true := fun n a hE o ho => by unfold Region.wanted; rw [ho]
theorem wn_some {R : Array Oper} {m : List (Nat × Value)} {j : Nat} {want b r : Bool} {t : Nat} (hj : dstOf R j = some t) (hl : look m t = some (.bool b)) (hr : (b == want) = r) : Wn R m (some (j, want)) r := fun n a hE o ho => by
 unfold Region.wanted
 rw [ho]
 simp only
 have h1 : yielded R a.tmps j = some b := by
  unfold yielded
  unfold dstOf at hj
  rw [hj]
  simp [hE.get t _ hl]
 rw [h1]
 cases b <;> cases want <;> cases r <;> simp_all
/-- In world w the operation leaves v and nothing else. -/
def Still (P : Program) (op : Op) (T : TypeId) (m : List (Nat × Value)) (w : World) (v : Value) : Prop :=
 ∀ n a, En n a m → ∀ o : Oper, o.op = op → o.type = T → (execOp a.eval o).run P w = .ok (.value v) w
section
variable {P : Program} {R : Array Oper} {Q : Exit → Act → World → Prop} {K : Act → World → Prop} {i n : Nat} {a : Act} {w : World} {m : List (Nat × Value)} {op : Op} {T : TypeId} {g : Option (Nat × Bool)} {d : Nat} {v : Value}
theorem s_skip (hp : pj R i = some (some d, op, T, g)) (hE : En n a m) (hw : Wn R m g false) (hd : Nat.blt d n = true) (h : ∀ a, En n a ((d, undef) :: m) → K a w) : wpOp P R Q i K a w := by
 obtain ⟨o, ho, h1, h2, h3, h4⟩ := pj_some hp
 unfold wpOp
 simp only [ho, hw n a hE o h4, Bool.false_eq_true, if_false, h1]
 exact h _ (hE.put hd)
theorem s_still (hp : pj R i = some (some d, op, T, g)) (hE : En n a m) (hw : Wn R m g true) (hd : Nat.blt d n = true) (hv : Still P op T m w v) (h : ∀ a, En n a ((d, v) :: m) → K a w) : wpOp P R Q i K a w := by
 obtain ⟨o, ho, h1, h2, h3, h4⟩ := pj_some hp
 unfold wpOp
 simp only [ho, hw n a hE o h4, if_true]
 left
 unfold Oper.wp
 rw [hv n a hE o h2 h3]
 simp only [Oper.upon, h1]
 exact h _ (hE.put hd)
theorem p_cons {rest : List Nat} (h : wpOp P R Q i (wpOps P R Q rest) a w) : wpOps P R Q (i :: rest) a w := by rw [wpOps_cons]; exact h
theorem p_nil (h : Q .normal a w) : wpOps P R Q [] a w := h
theorem c_reg {id : Nat} {y : Code} {l : List Nat} (hl : List.range R.size = l) (h : wpOps P R (Exit.then (y.wp P Q) Q) l a w) : (Code.seq (.region id R false) y).wp P Q a w := wp_seq (wp_region (by rw [hl]; exact h))
theorem c_regL {id : Nat} {l : List Nat} (hl : List.range R.size = l) (h : wpOps P R Q l a w) : (Code.region id R false).wp P Q a w := wp_region (by rw [hl]; exact h)
theorem c_cond {c : Operand} {x y : Code} {t : Bool} (hE : En n a m) (hc : ev m c = some (.bool t)) (h : (bif t then x else y).wp P Q a w) : (Code.cond c x y).wp P Q a w := by
 cases t
 · exact wp_cond_false (hE.ev hc) h
 · exact wp_cond_true (hE.ev hc) h
theorem x_norm {A : Act → World → Prop} (h : A a w) : Exit.then A Q .normal a w := h
end
/-! ### Operations that leave the world as it is -/
def aggD : TypeDesc → Bool
 | .struct _ | .array _ _ => true
 | _ => false
theorem run_isAggD {P : Program} {T : TypeId} {b : Bool} (h : (P.underlying T).map aggD = some b) (w : World) : (isAgg T).run P w = .ok b w := by
 cases hu : P.underlying T with
 | none => rw [hu] at h; cases h
 | some d =>
  rw [hu] at h
  simp only [Option.map_some, Option.some.injEq] at h
  unfold isAgg
  simp only [Sem.run_bind, run_underlying hu, Result.andThen_ok]
  cases d <;> simp_all [aggD]
theorem run_sizeD {P : Program} {T k : Nat} (h : (P.info? T).map (·.size) = some k) (w : World) : (sizeOf T).run P w = .ok k w := by
 cases hu : P.info? T with
 | none => rw [hu] at h; cases h
 | some d =>
  rw [hu] at h
  simp only [Option.map_some, Option.some.injEq] at h
  unfold sizeOf typeInfo
  simp [hu, h]
theorem run_zeroD {P : Program} {T : Nat} {z : Value} (h : (P.info? T).bind (·.zero) = some z) (w : World) : (zeroValue T).run P w = .ok z w := by
 cases hu : P.info? T with
 | none => rw [hu] at h; cases h
 | some d =>
  rw [hu] at h
  simp only [Option.bind_some] at h
  unfold zeroValue typeInfo
  simp [hu, h]
section
variable {P : Program} {op : Op} {T : TypeId} {m : List (Nat × Value)} {w : World} {v v1 v2 : Value} {X Y : Operand} {k : IntKind} {x y z : Int} {T1 T2 : TypeId} {b b1 b2 : Bool}
theorem st_move (hx : ev m X = some v) : Still P (.move X) T m w v := fun n a hE o h1 h2 => by unfold execOp; rw [h1]; simp [hE.ev hx]
theorem st_assign (hx : ev m X = some v) : Still P (.assign X) T m w v := fun n a hE o h1 h2 => by unfold execOp; rw [h1]; simp [hE.ev hx]
theorem st_pick {C : Operand} (hc : ev m C = some (.bool b)) (hx : ev m (bif b then X else Y) = some v) : Still P (.pick C X Y) T m w v := fun n a hE o h1 h2 => by
 unfold execOp; rw [h1]
 have e := hE.ev hc
 cases b <;> simp [e, asBool, hE.ev hx] <;> exact hE.ev hx
theorem st_arith {bo : BinOp} (hb : bo = .add ∨ bo = .sub ∨ bo = .mul) (h1 : ev m X = some (.int k x)) (h2 : ev m Y = some (.int k y)) (hz : k.wrap (match bo with | .add => x + y | .sub => x - y | _ => x * y) = z) : Still P (.binOp bo T1 X Y T2) T m w (.int k z) := fun n a hE o e1 e2 => by
 unfold execOp; rw [e1]
 simp only [hE.ev h1, hE.ev h2]
 rcases hb with rfl | rfl | rfl <;> simp [eqGuard, binOp, Op.intArith, hz]
theorem st_add (h1 : ev m X = some (.int k x)) (h2 : ev m Y = some (.int k y)) (hz : k.wrap (x + y) = z) : Still P (.binOp .add T1 X Y T2) T m w (.int k z) := st_arith (.inl rfl) h1 h2 hz
theorem st_sub (h1 : ev m X = some (.int k x)) (h2 : ev m Y = some (.int k y)) (hz : k.wrap (x - y) = z) : Still P (.binOp .sub T1 X Y T2) T m w (.int k z) := st_arith (.inr (.inl rfl)) h1 h2 hz
theorem st_mul (h1 : ev m X = some (.int k x)) (h2 : ev m Y = some (.int k y)) (hz : k.wrap (x * y) = z) : Still P (.binOp .mul T1 X Y T2) T m w (.int k z) := st_arith (.inr (.inr rfl)) h1 h2 hz
theorem st_quo (h1 : ev m X = some (.int k x)) (h2 : ev m Y = some (.int k y)) (hy : y ≠ 0) (hz : k.wrap (x.tdiv y) = z) : Still P (.binOp .quo T1 X Y T2) T m w (.int k z) := fun n a hE o e1 e2 => by
 unfold execOp; rw [e1]
 simp [hE.ev h1, hE.ev h2, eqGuard, binOp, Op.intDiv, hz, hy]
theorem st_rem (h1 : ev m X = some (.int k x)) (h2 : ev m Y = some (.int k y)) (hy : y ≠ 0) (hz : x.tmod y = z) : Still P (.binOp .rem T1 X Y T2) T m w (.int k z) := fun n a hE o e1 e2 => by
 unfold execOp; rw [e1]
 simp [hE.ev h1, hE.ev h2, eqGuard, binOp, Op.intDiv, hz, hy]
theorem st_or (h1 : ev m X = some (.int k x)) (h2 : ev m Y = some (.int k y)) (hz : bits .or k x y = z) : Still P (.binOp .or T1 X Y T2) T m w (.int k z) := fun n a hE o e1 e2 => by
 unfold execOp; rw [e1]
 simp [hE.ev h1, hE.ev h2, eqGuard, binOp, intBits_or, hz]
theorem st_shl {yk : IntKind} (h1 : ev m X = some (.int k x)) (h2 : ev m Y = some (.int yk y)) (h0 : 0 ≤ y) (h9 : y ≤ k.bits) (hz : k.wrap (x * 2 ^ y.toNat) = z) : Still P (.binOp .shl T1 X Y T2) T m w (.int k z) := fun n a hE o e1 e2 => by
 unfold execOp; rw [e1]
 simp [hE.ev h1, hE.ev h2, eqGuard, binOp, shift_shl k yk x y h0 h9, hz]
theorem st_shr {yk : IntKind} (h1 : ev m X = some (.int k x)) (h2 : ev m Y = some (.int yk y)) (h0 : 0 ≤ y) (h9 : y ≤ k.bits) (hz : x / 2 ^ y.toNat = z) : Still P (.binOp .shr T1 X Y T2) T m w (.int k z) := fun n a hE o e1 e2 => by
 unfold execOp; rw [e1]
 simp [hE.ev h1, hE.ev h2, eqGuard, binOp, shift_shr k yk x y h0 h9, hz]
theorem st_lss (h1 : ev m X = some (.int k x)) (h2 : ev m Y = some (.int k y)) (hb : decide (x < y) = b) : Still P (.binOp .lss T1 X Y T2) T m w (.bool b) := fun n a hE o e1 e2 => by
 unfold execOp; rw [e1]
 simp [hE.ev h1, hE.ev h2, eqGuard, binOp, Op.intCmp, hb]
theorem st_leq (h1 : ev m X = some (.int k x)) (h2 : ev m Y = some (.int k y)) (hb : decide (x ≤ y) = b) : Still P (.binOp .leq T1 X Y T2) T m w (.bool b) := fun n a hE o e1 e2 => by
 unfold execOp; rw [e1]
 simp [hE.ev h1, hE.ev h2, eqGuard, binOp, Op.intCmp, hb]
theorem st_gtr (h1 : ev m X = some (.int k x)) (h2 : ev m Y = some (.int k y)) (hb : decide (y < x) = b) : Still P (.binOp .gtr T1 X Y T2) T m w (.bool b) := fun n a hE o e1 e2 => by
 unfold execOp; rw [e1]
 simp [hE.ev h1, hE.ev h2, eqGuard, binOp, Op.intCmp, hb]
theorem st_geq (h1 : ev m X = some (.int k x)) (h2 : ev m Y = some (.int k y)) (hb : decide (y ≤ x) = b) : Still P (.binOp .geq T1 X Y T2) T m w (.bool b) := fun n a hE o e1 e2 => by
 unfold execOp; rw [e1]
 simp [hE.ev h1, hE.ev h2, eqGuard, binOp, Op.intCmp, hb]
theorem st_eql (h1 : ev m X = some (.int k x)) (h2 : ev m Y = some (.int k y)) (hb : decide (x = y) = b) : Still P (.binOp .eql T1 X Y T2) T m w (.bool b) := fun n a hE o e1 e2 => by
 unfold execOp; rw [e1]
 have : (x == y) = b := by rw [← hb]; rfl
 simp [hE.ev h1, hE.ev h2, eqGuard, binOp, Op.intCmp, this]
theorem st_neq (h1 : ev m X = some (.int k x)) (h2 : ev m Y = some (.int k y)) (hb : (!decide (x = y)) = b) : Still P (.binOp .neq T1 X Y T2) T m w (.bool b) := fun n a hE o e1 e2 => by
 unfold execOp; rw [e1]
 have : (x != y) = b := by rw [← hb]; rfl
 simp [hE.ev h1, hE.ev h2, eqGuard, binOp, Op.intCmp, this]
theorem st_neqB (hT : P.underlying T1 = some .bool) (h1 : ev m X = some (.bool b1)) (h2 : ev m Y = some (.bool b2)) (hb : (!(b1 == b2)) = b) : Still P (.binOp .neq T1 X Y T2) T m w (.bool b) := fun n a hE o e1 e2 => by
 unfold execOp; rw [e1]
 simp [hE.ev h1, hE.ev h2, eqGuard, run_neq_bool w T1 b1 b2 hT, hb]
theorem st_eqlA {xs ys : List Value} (hg : P.eqGuardType P.depth T1 = false) (h1 : ev m X = some (.agg xs.toArray)) (h2 : ev m Y = some (.agg ys.toArray)) (hb : ∀ w, (Op.equalIn 10000 T1 (.agg xs.toArray) (.agg ys.toArray)).run P w = .ok b w) : Still P (.binOp .eql T1 X Y T2) T m w (.bool b) := fun n a hE o e1 e2 => by
 unfold execOp; rw [e1]
 simp [hE.ev h1, hE.ev h2, run_eqGuard_agg w .eql T1 X Y xs.toArray ys.toArray hg, run_eql_struct, hb]
theorem st_neqA {xs ys : List Value} (hg : P.eqGuardType P.depth T1 = false) (h1 : ev m X = some (.agg xs.toArray)) (h2 : ev m Y = some (.agg ys.toArray)) (hb : ∀ w, (Op.equalIn 10000 T1 (.agg xs.toArray) (.agg ys.toArray)).run P w = .ok b w) : Still P (.binOp .neq T1 X Y T2) T m w (.bool (!b)) := fun n a hE o e1 e2 => by
 unfold execOp; rw [e1]
 simp [hE.ev h1, hE.ev h2, run_eqGuard_agg w .neq T1 X Y xs.toArray ys.toArray hg, run_neq_struct, hb]
theorem st_not (h1 : ev m X = some (.bool b1)) (hb : (!b1) = b) : Still P (.unOp .not T1 X) T m w (.bool b) := fun n a hE o e1 e2 => by
 unfold execOp; rw [e1]
 simp [hE.ev h1, Op.unary, hb]
theorem st_extract {vs : List Value} {j : Nat} (h1 : ev m X = some (.tuple vs.toArray)) (hj : vs[j]? = some v) : Still P (.extract X j) T m w v := fun n a hE o e1 e2 => by
 unfold execOp; rw [e1]
 simp [hE.ev h1, Instr.extract, hj]
theorem st_conv {k2 : IntKind} (hs : (P.underlying T1).isSome = true) (hT : P.underlying T2 = some (.int k2)) (h1 : ev m X = some (.int k x)) (hz : k2.wrap x = z) : Still P (.convert T1 T2 X) T m w (.int k2 z) := fun n a hE o e1 e2 => by
 obtain ⟨d, hd⟩ := Option.isSome_iff_exists.1 hs
 unfold execOp; rw [e1]
 simp [hE.ev h1, convert, run_underlying hd, run_underlying hT, Conv.intToInt, hz]
theorem st_len {A : Option Addr} {l c : Nat} {e : TypeId} (hT : P.underlying T1 = some (.slice e)) (h1 : ev m X = some (.slice A l c)) : Still P (.call { callee := .builtin .len, args := #[X], argTypes := #[T1] }) T m w (.int .i64 l) := fun n a hE o e1 e2 => by
 unfold execOp; rw [e1]
 simp [hE.ev h1, resolve, invoke, builtin, Builtin.len_, run_underlying hT, goInt]
theorem st_cap {A : Option Addr} {l c : Nat} {e : TypeId} (hT : P.underlying T1 = some (.slice e)) (h1 : ev m X = some (.slice A l c)) : Still P (.call { callee := .builtin .cap, args := #[X], argTypes := #[T1] }) T m w (.int .i64 c) := fun n a hE o e1 e2 => by
 unfold execOp; rw [e1]
 simp [hE.ev h1, resolve, invoke, builtin, Builtin.cap_, run_underlying hT, goInt]
theorem st_func {f : Fn} {first captured : List Operand} {vs us : List Value} (h1 : evs m first = some vs) (h2 : evs m captured = some us) : Still P (.makeFunc f first.toArray captured.toArray) T m w (.func f vs.toArray us.toArray) := fun n a hE o e1 e2 => by
 unfold execOp; rw [e1]
 simp [Instr.makeFunc, hE.evs h1, hE.evs h2]
theorem st_nil {A : Addr} (h1 : ev m X = some (.pointer (some A))) : Still P (.nilCheck X) T m w (.pointer (some A)) := fun n a hE o e1 e2 => by
 unfold execOp; rw [e1]
 simp [hE.ev h1]
theorem st_load1 {A : Addr} (hT : (P.underlying T1).map aggD = some false) (h1 : ev m X = some (.pointer (some A))) (hc : w.cell? A = some v) : Still P (.load T1 X) T m w v := fun n a hE o e1 e2 => by
 unfold execOp; rw [e1]
 simp [hE.ev h1, Instr.loadAt, Instr.sureAddr, loadVar, run_isAggD hT, hc]
theorem add_mk (g o j : Nat) : (Addr.add ⟨g, o, none⟩ j) = ⟨g, o + j, none⟩ := by unfold Addr.add; split <;> simp_all
theorem st_loadN {g off k : Nat} {cs : Array Value} {vs : List Value} {T0 : TypeId} {fr : Nat × Nat} (hT : (P.underlying T1).map aggD = some true) (hs : (P.info? T1).map (·.size) = some k) (h1 : ev m X = some (.pointer (some ⟨g, off, none⟩))) (hb : w.heap[g]? = some (.cells cs T0 fr)) (hv : (cs.toList.drop off).take k = vs) (hl : vs.length = k) : Still P (.load T1 X) T m w (.agg vs.toArray) := fun n a hE o e1 e2 => by
 unfold execOp; rw [e1]
 have hrun : (loadCells ⟨g, off, none⟩ k).run P w = .ok vs.toArray w := by
  have := run_loadCells_list (P := P) (w := w) ⟨g, off, none⟩ vs (fun j v hj => by
   rw [add_mk]
   rw [cell_of_row w g (off + j) cs T0 fr hb]
   rw [← hv, List.getElem?_take] at hj
   split at hj
   ·
    rw [List.getElem?_drop] at hj
    rw [← Array.getElem?_toList]; exact hj
   · cases hj)
  rw [hl] at this
  exact this
 simp [hE.ev h1, Instr.loadAt, Instr.sureAddr, loadVar, run_isAggD hT, run_sizeD hs, hrun]
theorem st_fieldAddr {g off j o' : Nat} {fs : Array Field} {f : Field} {q : Nat} (hT : P.underlying T1 = some (.struct fs)) (hf : fs[j]? = some f) (hs : (P.info? f.type).map (·.size) = some (q + 1)) (ho : off + f.offset = o') (h1 : ev m X = some (.pointer (some ⟨g, off, none⟩))) : Still P (.fieldAddr T1 X j) T m w (.pointer (some ⟨g, o', none⟩)) := fun n a hE o e1 e2 => by
 unfold execOp; rw [e1]
 simp [hE.ev h1, Instr.fieldAt, Instr.sureAddr, run_underlying hT, hf, fieldPlace, run_sizeD hs, add_mk, ho]
theorem st_indexAddr {A A' : Addr} {l c s i : Nat} {e : TypeId} (hT : P.underlying T1 = some (.slice e)) (hs : (P.info? e).map (·.size) = some s) (h1 : ev m X = some (.slice (some A) l c)) (h2 : ev m Y = some (.int k i)) (hi : i < l) (hA : A.add (i * s) = A') : Still P (.indexAddr T1 X Y) T m w (.pointer (some A')) := fun n a hE o e1 e2 => by
 unfold execOp; rw [e1]
 simp [hE.ev h1, hE.ev h2, Instr.indexAt, asIntOf, run_underlying hT, run_sizeD hs, hi, hA]
theorem st_indexAddrA {g off l s i o' : Nat} {e : TypeId} (hT : P.underlying T1 = some (.array l e)) (hs : (P.info? e).map (·.size) = some s) (h1 : ev m X = some (.pointer (some ⟨g, off, none⟩))) (h2 : ev m Y = some (.int k i)) (hi : i < l) (hA : off + i * s = o') : Still P (.indexAddr T1 X Y) T m w (.pointer (some ⟨g, o', none⟩)) := fun n a hE o e1 e2 => by
 unfold execOp; rw [e1]
 simp [hE.ev h1, hE.ev h2, Instr.indexAt, Instr.sureAddr, asIntOf, run_underlying hT, run_sizeD hs, hi, add_mk, hA]
end
section
variable {P : Program} {T T1 : TypeId} {m : List (Nat × Value)} {w : World} {X : Operand} {A A' : Option Addr} {n c h l s : Nat} {e : TypeId} {k k2 : IntKind}
theorem st_sliceH {H : Operand} (hT : P.underlying T1 = some (.slice e)) (hs : (P.info? e).map (·.size) = some s) (h1 : ev m X = some (.slice A n c)) (h2 : ev m H = some (.int k (h : Int))) (hc : h ≤ c) : Still P (.slice T1 X none (some H) none) T m w (.slice A h c) := fun q a hE o e1 e2 => by
 unfold execOp; rw [e1]
 have hb : (0 : Int) ≤ (h : Int) ∧ (h : Int) ≤ (c : Int) := by omega
 have ha : Option.map (fun x : Addr => x.add 0) A = A := by cases A <;> simp [Addr.add]
 simp [hE.ev h1, hE.ev h2, Instr.sliceAt, Instr.slice, Instr.sliceBounds, Instr.sliceBound, asIntOf, run_underlying hT, run_sizeD hs, hb, ha]
 omega
end
/-! ### Operations that change the world: behind each the world is a letter -/
theorem kp_setRow (w : World) (g : Nat) (cs : Array Value) : Kp w (w.setRow g cs) (fun k => k = g) :=
 ⟨⟨by simp [World.setRow], fun i _ hn => setRow_other w g i cs hn⟩, rfl, rfl, rfl⟩
theorem kp_alloc (w : World) (o : Obj) : Kp w (w.alloc o) (fun _ => False) := Kp.of_below (below_new w o) _
section
variable {P : Program} {R : Array Oper} {Q : Exit → Act → World → Prop} {K : Act → World → Prop} {i n : Nat} {a : Act} {w : World} {m : List (Nat × Value)} {T : TypeId} {g : Option (Nat × Bool)} {d : Nat} {v : Value} {X Y : Operand} {T1 T2 : TypeId}
theorem s_step0 {op : Op} (hp : pj R i = some (none, op, T, g)) (hE : En n a m) (hw : Wn R m g true) (hr : ∀ o : Oper, o.op = op → o.type = T → ∃ w', (execOp a.eval o).run P w = .ok .skip w' ∧ K a w') : wpOp P R Q i K a w := by
 obtain ⟨o, ho, h1, h2, h3, h4⟩ := pj_some hp
 unfold wpOp
 simp only [ho, hw n a hE o h4, if_true]
 left
 obtain ⟨w', hr, hk⟩ := hr o h2 h3
 unfold Oper.wp
 rw [hr]
 simp only [Oper.upon, h1]
 exact hk
theorem s_step {op : Op} (hp : pj R i = some (some d, op, T, g)) (hE : En n a m) (hw : Wn R m g true) (hd : Nat.blt d n = true) (hr : ∀ o : Oper, o.op = op → o.type = T → ∃ v w', (execOp a.eval o).run P w = .ok (.value v) w' ∧ ∀ a, En n a ((d, v) :: m) → K a w') : wpOp P R Q i K a w := by
 obtain ⟨o, ho, h1, h2, h3, h4⟩ := pj_some hp
 unfold wpOp
 simp only [ho, hw n a hE o h4, if_true]
 left
 obtain ⟨v, w', hr, hk⟩ := hr o h2 h3
 unfold Oper.wp
 rw [hr]
 simp only [Oper.upon, h1]
 exact hk _ (hE.put hd)
theorem run_storeVarAt {b off k : Nat} {cs cs' : Array Value} {T0 : TypeId} (hs : (P.info? T1).map (·.size) = some k) (hl : v.cells.size = k) (h1 : v.cells.toList.all (·.oneCell') = true) (hb : w.heap[b]? = some (.cells cs T0 (0, 0))) (ho : off + k ≤ cs.size) (hcs : cs.toList.take off ++ v.cells.toList ++ cs.toList.drop (off + k) = cs'.toList) :
  (storeVar T1 ⟨b, off, none⟩ v).run P w = .ok () (w.setRow b cs') := by
 unfold storeVar
 have := run_storeCells_at (P := P) b off T0 v.cells.toList 0 cs w hb (by simp [hl]; omega) (fun x hx => by simpa using (List.all_eq_true.1 h1) x hx)
 simp only [Nat.add_zero, Array.length_toList, hl] at this
 rw [hcs] at this
 simp [run_sizeD hs, hl, this]
theorem s_store {b off k : Nat} {cs cs' : Array Value} {T0 : TypeId} (hp : pj R i = some (none, .store T1 X Y, T, g)) (hE : En n a m) (hw : Wn R m g true) (hs : (P.info? T1).map (·.size) = some k) (hx : ev m X = some (.pointer (some ⟨b, off, none⟩))) (hy : ev m Y = some v)
  (hl : v.cells.size = k) (h1 : v.cells.toList.all (·.oneCell') = true) (hb : w.heap[b]? = some (.cells cs T0 (0, 0))) (ho : off + k ≤ cs.size) (hcs : cs.toList.take off ++ v.cells.toList ++ cs.toList.drop (off + k) = cs'.toList)
  (h : ∀ w', w'.heap[b]? = some (.cells cs' T0 (0, 0)) → Kp w w' (fun k => k = b) → K a w') : wpOp P R Q i K a w :=
 s_step0 hp hE hw (fun o e1 e2 => ⟨w.setRow b cs', by
  unfold execOp; rw [e1]
  simp [hE.ev hx, hE.ev hy, Instr.storeAt, Instr.sureAddr, run_storeVarAt hs hl h1 hb ho hcs], h _ (setRow_heap w b cs cs' T0 (0, 0) hb) (kp_setRow w b cs')⟩)
theorem s_alloc {z : Value} (hp : pj R i = some (some d, .alloc T1, T, g)) (hE : En n a m) (hw : Wn R m g true) (hd : Nat.blt d n = true) (hz : (P.info? T1).bind (·.zero) = some z)
  (h : ∀ b w', w.heap.size ≤ b → w'.heap[b]? = some (.cells z.cells T1 (0, 0)) → Kp w w' (fun _ => False) → ∀ a, En n a ((d, .pointer (some ⟨b, 0, none⟩)) :: m) → K a w') : wpOp P R Q i K a w :=
 s_step hp hE hw hd (fun o e1 e2 => ⟨_, w.alloc (.cells z.cells T1), by
  unfold execOp; rw [e1]
  simp [Instr.alloc, run_zeroD hz, newVar, newRow], h w.heap.size _ (Nat.le_refl _) (blk_new w _) (kp_alloc w _)⟩)
theorem s_box (hp : pj R i = some (some d, .box T1 X, T, g)) (hE : En n a m) (hw : Wn R m g true) (hd : Nat.blt d n = true) (hx : ev m X = some v)
  (h : ∀ b w', w.heap.size ≤ b → w'.heap[b]? = some (.cells v.cells T1 (0, 0)) → Kp w w' (fun _ => False) → ∀ a, En n a ((d, .pointer (some ⟨b, 0, none⟩)) :: m) → K a w') : wpOp P R Q i K a w :=
 s_step hp hE hw hd (fun o e1 e2 => ⟨_, w.alloc (.cells v.cells T1), by
  unfold execOp; rw [e1]
  simp [Instr.box, hE.ev hx, newVar, newRow], h w.heap.size _ (Nat.le_refl _) (blk_new w _) (kp_alloc w _)⟩)
def evp (m : List (Nat × Value)) : List (Nat × Operand) → Option (List (Nat × Value))
 | [] => some []
 | (j, x) :: xs => match ev m x, evp m xs with
  | some v, some vs => some ((j, v) :: vs)
  | _, _ => none
theorem En.evp (h : En n a m) : ∀ {xs : List (Nat × Operand)} {vs : List (Nat × Value)}, evp m xs = some vs → xs.map (fun p => (p.1, a.eval p.2)) = vs
 | [], vs, hx => by simpa [Ds.evp] using hx
 | (j, x) :: xs, vs, hx => by
  simp only [Ds.evp] at hx
  split at hx
  ·
   rename_i v vs' h1 h2
   injection hx with hx
   subst hx
   simp [h.ev h1, h.evp h2]
  · cases hx
/-- The cells of a slice literal. -/
def rowCells (P : Program) (e : TypeId) (l : Nat) (ps : List (Nat × Value)) : Option (Array Value) :=
 match P.info? e with
 | some ie => if l * ie.size > 2 ^ 24 then none else
  match ie.zero with
  | some z => Instr.fill (fun i => some (i * ie.size, ie.size)) ((Array.range (l * ie.size)).map (z.cells[· % z.cells.size]!)) ps
  | none => none
 | none => none
theorem s_row {l : Nat} {xs : List (Nat × Operand)} {vs : List (Nat × Value)} {e : TypeId} {cs : Array Value} (hp : pj R i = some (some d, .buildSlice T1 l xs.toArray, T, g)) (hE : En n a m) (hw : Wn R m g true) (hd : Nat.blt d n = true) (hT : P.underlying T1 = some (.slice e)) (hx : evp m xs = some vs) (hc : rowCells P e l vs = some cs)
  (h : ∀ b w', w.heap.size ≤ b → w'.heap[b]? = some (.cells cs e (0, 0)) → Kp w w' (fun _ => False) → ∀ a, En n a ((d, .slice (some ⟨b, 0, none⟩) l l) :: m) → K a w') : wpOp P R Q i K a w :=
 s_step hp hE hw hd (fun o e1 e2 => ⟨_, w.alloc (.cells cs e), by
  unfold execOp; rw [e1]
  unfold rowCells at hc
  cases hi : P.info? e with
  | none => rw [hi] at hc; cases hc
  | some ie =>
   rw [hi] at hc
   simp only at hc
   split at hc
   · cases hc
   ·
    rename_i hsm
    cases hz : ie.zero with
    | none => rw [hz] at hc; cases hc
    | some z =>
     rw [hz] at hc
     simp only at hc
     by_cases h0 : l * ie.size = 0
     ·
      rw [h0] at hc
      have hm : (List.map (fun (x : Nat × Operand) => (x.fst, a.eval x.snd)) xs) = vs := hE.evp hx
      have e9 : (Array.range 0).map (fun _ => (default : Value)) = #[] := by simp [Array.range]
      have e0 : (Array.range 0).map (fun x => z.cells[x % z.cells.size]!) = #[] := by simp [Array.range]
      have hc' : Instr.fill (fun i => some (i * ie.size, ie.size)) #[] vs = some cs := by rw [e0] at hc; exact hc
      simp [Instr.buildSlice, run_underlying hT, sizeOf, typeInfo, hi, h0, hm, hc', e9, newRow]
     ·
      have hev := hE.evp hx
      have hm : (List.map (fun (x : Nat × Operand) => (x.fst, a.eval x.snd)) xs) = vs := hev
      simp [Instr.buildSlice, run_underlying hT, sizeOf, typeInfo, zeroValue, hi, hz, h0, hsm, hm, hc, newRow], h w.heap.size _ (Nat.le_refl _) (blk_new w _) (kp_alloc w _)⟩)
/-- A function that has a body, and runs it. -/
def callable (fn : Func) : Bool := fn.body.isSome && !(fn.name == "runtime.NumGoroutine")
theorem run_callFuncC {f : Nat} {fn : Func} (hf : P.funcs[f]? = some fn) (hn : callable fn = true) (args : Array Value) (w : World) : (callFunc f args).run P w = .ok (.enter f args) w := by
 unfold callable at hn
 simp only [Bool.and_eq_true, Bool.not_eq_true'] at hn
 obtain ⟨hb, hn⟩ := hn
 have h1 : fn.name ≠ "runtime.NumGoroutine" := by simpa using hn
 obtain ⟨c, hc⟩ := Option.isSome_iff_exists.1 hb
 simp [callFunc, hf, h1, hc]
theorem s_callv {f : Nat} {fn : Func} {C : Operand} {xs : List Operand} {tys : Array TypeId} {args fst cap : List Value} {R0 : Ending → World → Prop} (hp : pj R i = some (some d, .call { callee := .value C, args := xs.toArray, argTypes := tys }, T, g)) (hE : En n a m) (hw : Wn R m g true) (hd : Nat.blt d n = true)
  (hC : ev m C = some (.func (.func f) fst.toArray cap.toArray)) (ha : evs m xs = some args) (hf : P.funcs[f]? = some fn) (hn : callable fn = true) (hc : Calls P f (fst ++ args ++ cap).toArray w R0) (h : ∀ e w', R0 e w' → ∃ v, e = .returned v ∧ ∀ a, En n a ((d, v) :: m) → K a w') : wpOp P R Q i K a w := by
 obtain ⟨o, ho, h1, h2, h3, h4⟩ := pj_some hp
 unfold wpOp
 simp only [ho, hw n a hE o h4, if_true]
 left
 unfold Oper.wp
 have hr : (execOp a.eval o).run P w = .ok (.enter f (fst ++ args ++ cap).toArray) w := by
  unfold execOp; rw [h2]
  simp only [resolve, hE.ev hC, Deferred.ofValue, Sem.run_bind, Sem.run_pure, Result.andThen_ok, invoke]
  rw [show (Array.map a.eval xs.toArray) = args.toArray by simp [hE.evs ha]]
  rw [run_callFuncC hf hn]
  simp
 rw [hr]
 simp only [Oper.upon, h1]
 refine hc.mono ?_
 intro e w' he
 obtain ⟨v, rfl, hk⟩ := h e w' he
 exact hk _ (hE.put hd)
theorem s_call {f : Nat} {fn : Func} {xs : List Operand} {tys : Array TypeId} {args : List Value} {R0 : Ending → World → Prop} (hp : pj R i = some (some d, .call { callee := .value (.func f), args := xs.toArray, argTypes := tys }, T, g)) (hE : En n a m) (hw : Wn R m g true) (hd : Nat.blt d n = true)
  (ha : evs m xs = some args) (hf : P.funcs[f]? = some fn) (hn : callable fn = true) (hc : Calls P f args.toArray w R0) (h : ∀ e w', R0 e w' → ∃ v, e = .returned v ∧ ∀ a, En n a ((d, v) :: m) → K a w') : wpOp P R Q i K a w :=
 s_callv (fst := []) (cap := []) hp hE hw hd rfl ha hf hn (by simpa using hc) h
end
/-! ### The beginning and the end of a function -/
def idx : Nat → List Value → List (Nat × Value)
 | _, [] => []
 | k, v :: vs => (k, v) :: idx (k + 1) vs
theorem look_idx : ∀ (vs : List Value) (k s : Nat) (v : Value), look (idx k vs) s = some v → k ≤ s ∧ vs[s - k]? = some v
 | [], k, s, v, h => by cases h
 | u :: vs, k, s, v, h => by
  simp only [idx, look] at h
  cases hb : Nat.beq k s with
  | true =>
   rw [hb] at h
   have e : k = s := Nat.eq_of_beq_eq_true hb
   subst e
   simpa using h
  | false =>
   rw [hb] at h
   have e : k ≠ s := Nat.ne_of_beq_eq_false hb
   obtain ⟨h1, h2⟩ := look_idx vs (k + 1) s v h
   refine ⟨by omega, ?_⟩
   rw [show s - k = (s - (k + 1)) + 1 by omega, List.getElem?_cons_succ]
   exact h2
section
variable {P : Program} {Q : Exit → Act → World → Prop} {n : Nat} {a : Act} {w : World} {m : List (Nat × Value)} {R0 : Ending → World → Prop} {fn : Func}
theorem enter {f : Nat} {c : Code} {args : List Value} (hf : P.funcs[f]? = some fn) (hb : fn.body = some c) (hn : fn.ntmps = n) (hl : Nat.ble args.length n = true) (hm : idx 0 args = m) (h : ∀ a, En n a m → c.wp P (bodyPost P fn R0) a w) : Calls P f args.toArray w R0 := by
 refine calls_of_wp hf hb (h _ ⟨rfl, ?_, fun s v hs => ?_⟩)
 ·
  have : args.length ≤ n := by simpa using hl
  simp [hn]; omega
 ·
  rw [← hm] at hs
  obtain ⟨_, h2⟩ := look_idx args 0 s v hs
  have hlt : s < args.length := by
   have := List.getElem?_eq_some_iff.1 h2
   obtain ⟨h3, _⟩ := this
   omega
  simp only [Nat.sub_zero] at h2
  rw [Array.getElem?_append_left (by simpa using hlt)]
  simpa using h2
inductive Rv (P : Program) (m : List (Nat × Value)) (w : World) : List ResultVar → List Value → Prop where
 | nil : Rv P m w [] []
 | tmp {t : Nat} {v : Value} {rs : List ResultVar} {vs : List Value} (ht : look m t = some v) (h : Rv P m w rs vs) : Rv P m w (.tmp t :: rs) (v :: vs)
 | cell1 {t T : Nat} {p : Addr} {v : Value} {rs : List ResultVar} {vs : List Value} (hT : (P.underlying T).map aggD = some false) (ht : look m t = some (.pointer (some p))) (hc : w.cell? p = some v) (h : Rv P m w rs vs) : Rv P m w (.cell t T :: rs) (v :: vs)
 | cellN {t T b T0 : Nat} {cs : Array Value} {us : List Value} {rs : List ResultVar} {vs : List Value} (hT : (P.underlying T).map aggD = some true) (hs : (P.info? T).map (·.size) = some us.length) (ht : look m t = some (.pointer (some ⟨b, 0, none⟩))) (hb : w.heap[b]? = some (.cells cs T0 (0, 0))) (hv : cs.toList.take us.length = us) (h : Rv P m w rs vs) : Rv P m w (.cell t T :: rs) (.agg us.toArray :: vs)
theorem rv_run (hE : En n a m) {rs : List ResultVar} {vs : List Value} (hv : Rv P m w rs vs) (f : ResultVar → Sem Value) (hf : ∀ u, f (.tmp u) = pure (a.tmps.getD u undef)) (hc : ∀ x t, f (.cell x t) = (do loadVar t (← asAddr (a.tmps.getD x undef)))) : (rs.mapM f).run P w = .ok vs w := by
 induction hv with
 | nil => simp
 | tmp ht h ih =>
  have e := hE.ev (x := .tmp _) ht
  simp only [Act.eval] at e
  simp [List.mapM_cons, hf, ih, e]
 | cell1 hT ht hcell h ih =>
  have e := hE.ev (x := .tmp _) ht
  simp only [Act.eval] at e
  rw [List.mapM_cons, hc, e]
  simp [asAddr, loadVar, run_isAggD hT, hcell, ih]
 | @cellN t T b T0 cs us rs vs hT hs ht hb hv h ih =>
  have e := hE.ev (x := .tmp _) ht
  simp only [Act.eval] at e
  rw [List.mapM_cons, hc, e]
  have hrun : (loadCells ⟨b, 0, none⟩ us.length).run P w = .ok us.toArray w :=
   run_loadCells_list (P := P) (w := w) ⟨b, 0, none⟩ us (fun j v hj => by
    rw [add_mk, Nat.zero_add, cell_of_row w b j cs T0 (0, 0) hb]
    rw [← hv, List.getElem?_take] at hj
    split at hj
    · rw [← Array.getElem?_toList]; exact hj
    · cases hj)
  simp [asAddr, loadVar, run_isAggD hT, run_sizeD hs, hrun, ih]
theorem ret_list {rs : List ResultVar} {vs : List Value} (hr : fn.results = rs.toArray) (hE : En n a m) (hv : Rv P m w rs vs) (hl0 : Nat.beq vs.length 1 = false) (h : R0 (.returned (.tuple vs.toArray)) w) : bodyPost P fn R0 .ret a w := by
 have hl : vs.length ≠ 1 := Nat.ne_of_beq_eq_false hl0
 refine bodyPost_ret ?_ hE.defers h
 unfold results
 rw [hr, List.mapM_toArray]
 simp only [Sem.run_bind, Sem.run_map]
 rw [rv_run hE hv _ (fun u => rfl) (fun x t => rfl)]
 simp [hl]
theorem ret_one {r : ResultVar} {v : Value} (hr : fn.results = #[r]) (hE : En n a m) (hv : Rv P m w [r] [v]) (h : R0 (.returned v) w) : bodyPost P fn R0 .ret a w := by
 refine bodyPost_ret ?_ hE.defers h
 unfold results
 rw [hr]
 rw [show (#[r] : Array ResultVar) = [r].toArray from rfl, List.mapM_toArray]
 simp only [Sem.run_bind, Sem.run_map]
 rw [rv_run hE hv _ (fun u => rfl) (fun x t => rfl)]
 simp
theorem end_of_ret (h : bodyPost P fn R0 .ret a w) : bodyPost P fn R0 .normal a w := h
end
/-! ### Blocks, loops -/
section
variable {P : Program} {Q : Exit → Act → World → Prop} {a : Act} {w : World}
theorem x_in {id : Nat} (h : Q .normal a w) : Exit.inBlock id Q (.exit id) a w := by simp [Exit.inBlock, h]
theorem x_out {id id' : Nat} (hne : Nat.beq id' id = false) (h : Q (.exit id') a w) : Exit.inBlock id Q (.exit id') a w := by
 have : id' ≠ id := Nat.ne_of_beq_eq_false hne
 simp [Exit.inBlock, this, h]
theorem x_exit {A : Act → World → Prop} {id : Nat} (h : Q (.exit id) a w) : Exit.then A Q (.exit id) a w := h
theorem x_ret {A : Act → World → Prop} (h : Q .ret a w) : Exit.then A Q .ret a w := h
theorem x_retB {id : Nat} (h : Q .ret a w) : Exit.inBlock id Q .ret a w := h
theorem x_normB {id : Nat} (h : Q .normal a w) : Exit.inBlock id Q .normal a w := h
/-- A loop: what holds at each head, of a datum; what lies ahead goes down. -/
theorem c_loop {α : Type} {c : Code} (I : α → Act → World → Prop) (μ : α → Nat) (x₀ : α) (h₀ : I x₀ a w) (round : ∀ x a w, I x a w → c.wp P (Exit.then (fun a' w' => ∃ x', μ x' < μ x ∧ I x' a' w') Q) a w) : (Code.loop c).wp P Q a w :=
 wp_loop_ghost (fun k a w => ∃ x, μ x = k ∧ I x a w) (μ x₀) ⟨x₀, rfl, h₀⟩ (fun k a w ⟨x, hx, hI⟩ => wp_mono (round x a w hI) (fun e a' w' hq => by
  cases e with
  | normal => obtain ⟨x', h1, h2⟩ := hq; exact ⟨μ x', by rw [← hx]; exact h1, x', rfl, h2⟩
  | _ => exact hq))
end
/-! ### Regions that draw their order -/
section
variable {P : Program} {R : Array Oper} {Q : Exit → Act → World → Prop} {S : World → Prop} {i n fuel : Nat} {a : Act} {w : World} {m : List (Nat × Value)} {op : Op} {T : TypeId} {g : Option (Nat × Bool)} {d : Nat} {v : Value} {listed : Array Bool}
theorem ne_new {b g : Nat} {o : Obj} (h : w.heap[b]? = some o) (hz : w.heap.size ≤ g) : b ≠ g := by have := blk_lt h; omega
theorem kp_blk {w w' : World} {S : Nat → Prop} {b : Nat} {o : Obj} (h : w.heap[b]? = some o) (hk : Kp w w' S) (hn : ¬ S b) : w'.heap[b]? = some o := (hk.kept.2 b (blk_lt h) hn).trans h
theorem wr_i64 (x : Int) (h : -9223372036854775808 ≤ x) (h' : x ≤ 9223372036854775807) : IntKind.i64.wrap x = x := by rw [IntKind.wrap_i64]; omega
theorem wr_u8 (x : Int) (h : 0 ≤ x) (h' : x ≤ 255) : IntKind.u8.wrap x = x := by rw [IntKind.wrap_u8]; omega
theorem kp_drew (w : World) : Kp w w.drew (fun _ => False) := (Kp.refl w _).drew
theorem c_draw {id k : Nat} (hm : P.follows .mixedOrders = true) (hk : R.size = k) (hl : Array.replicate k false = listed) (h : ∀ w', w'.heap = w.heap → Kp w w' (fun _ => False) → wpAnyH P .any R Q S k listed a w') : (Code.region id R true).wp P Q a w :=
 wp_region_held (S := S) hm (by subst hk; subst hl; exact h w.drew rfl (kp_drew w))
theorem c_drawS {id k : Nat} {y : Code} (hm : P.follows .mixedOrders = true) (hk : R.size = k) (hl : Array.replicate k false = listed) (h : ∀ w', w'.heap = w.heap → Kp w w' (fun _ => False) → wpAnyH P .any R (Exit.then (y.wp P Q) Q) S k listed a w') : (Code.seq (.region id R true) y).wp P Q a w := wp_seq (c_draw hm hk hl h)
theorem pan_body {fn : Func} {R0 : Ending → World → Prop} : ∀ c a d v w, bodyPost P fn R0 (.panic c) (Act.put a d v) w → bodyPost P fn R0 (.panic c) a w := fun c a d v w h => by cases d <;> exact h
/-- A region in whose midst many may come up: the post under a letter. -/
theorem c_drawM {id k : Nat} (hm : P.follows .mixedOrders = true) (hk : R.size = k) (hl : Array.replicate k false = listed) (hQ : ∀ c a d v w, Q (.panic c) (Act.put a d v) w → Q (.panic c) a w)
  (h : ∀ QQ : Exit → Act → World → Prop, (∀ c a d v w, QQ (.panic c) (Act.put a d v) w → QQ (.panic c) a w) → (∀ a w, Q .normal a w → QQ .normal a w) → ∀ w', w'.heap = w.heap → Kp w w' (fun _ => False) → wpAnyH P .any R QQ S k listed a w') : (Code.region id R true).wp P Q a w :=
 c_draw hm hk hl (h Q hQ (fun _ _ h => h))
theorem c_drawMS {id k : Nat} {y : Code} (hm : P.follows .mixedOrders = true) (hk : R.size = k) (hl : Array.replicate k false = listed) (hQ : ∀ c a d v w, Q (.panic c) (Act.put a d v) w → Q (.panic c) a w)
  (h : ∀ QQ : Exit → Act → World → Prop, (∀ c a d v w, QQ (.panic c) (Act.put a d v) w → QQ (.panic c) a w) → (∀ a w, y.wp P Q a w → QQ .normal a w) → ∀ w', w'.heap = w.heap → Kp w w' (fun _ => False) → wpAnyH P .any R QQ S k listed a w') : (Code.seq (.region id R true) y).wp P Q a w :=
 wp_seq (c_drawM (Q := Exit.then (y.wp P Q) Q) hm hk hl hQ (fun QQ h1 h2 => h QQ h1 h2))
/-- Taken first: it leaves the world as it is, in each world that meets S. -/
theorem d_take {listed' : Array Bool} (hp : pj R i = some (some d, op, T, g)) (hs : Region.noSelect R = true) (hf : Region.free .any R listed i = true) (hr : (Region.ready .any R listed).contains i = true) (hQ : ∀ c a w, Q (.panic c) (a.put (some d) v) w → Q (.panic c) a w)
  (hE : En n a m) (hw : Wn R m g true) (hd : Nat.blt d n = true) (hS : S w) (hv : ∀ w, S w → Still P op T m w v) (hl : listed.setIfInBounds i true = listed') (h : ∀ a, En n a ((d, v) :: m) → wpAnyH P .any R Q S fuel listed' a w) : wpAnyH P .any R Q S (fuel + 1) listed a w := by
 obtain ⟨o, ho, h1, h2, h3, h4⟩ := pj_some hp
 refine wpAnyH_take (v := v) ho hs hf hr (fun c a w hh => hQ c a w (by rw [h1] at hh; exact hh)) (Or.inl ⟨hw n a hE o h4, fun w' hS' => hv w' hS' n a hE o h2 h3⟩) hS ?_
 rw [h1, hl]
 exact h _ (hE.put hd)
theorem d_skip {listed' : Array Bool} (hp : pj R i = some (some d, op, T, g)) (hs : Region.noSelect R = true) (hf : Region.free .any R listed i = true) (hr : (Region.ready .any R listed).contains i = true) (hQ : ∀ c a w, Q (.panic c) (a.put (some d) undef) w → Q (.panic c) a w)
  (hE : En n a m) (hw : Wn R m g false) (hd : Nat.blt d n = true) (hS : S w) (hl : listed.setIfInBounds i true = listed') (h : ∀ a, En n a ((d, undef) :: m) → wpAnyH P .any R Q S fuel listed' a w) : wpAnyH P .any R Q S (fuel + 1) listed a w := by
 obtain ⟨o, ho, h1, h2, h3, h4⟩ := pj_some hp
 refine wpAnyH_take (v := undef) ho hs hf hr (fun c a w hh => hQ c a w (by rw [h1] at hh; exact hh)) (Or.inr ⟨hw n a hE o h4, rfl⟩) hS ?_
 rw [h1, hl]
 exact h _ (hE.put hd)
/-- Carried out: whichever of these may come up. -/
theorem d_all {rs : List Nat} (hr : Region.ready .any R listed = rs) (hne : rs.isEmpty = false) (h : ∀ i ∈ rs, wpOp P R Q i (fun a' w' => S w' ∧ wpAnyH P .any R Q S fuel (listed.setIfInBounds i true) a' w') a w) : wpAnyH P .any R Q S (fuel + 1) listed a w :=
 wpAnyH_all hr (by intro h0; rw [h0] at hne; cases hne) h
theorem all_nil {A : Nat → Prop} : ∀ i ∈ ([] : List Nat), A i := fun i h => by cases h
theorem all_cons {A : Nat → Prop} {j : Nat} {rs : List Nat} (h : A j) (h' : ∀ i ∈ rs, A i) : ∀ i ∈ j :: rs, A i := fun i hi => (List.mem_cons.1 hi).elim (fun e => e ▸ h) (h' i)
/-- One of them. -/
theorem d_lit {j : Nat} {listed' : Array Bool} (hl : listed.setIfInBounds j true = listed') (h : wpOp P R Q j (fun a' w' => S w' ∧ wpAnyH P .any R Q S fuel listed' a' w') a w) : wpOp P R Q j (fun a' w' => S w' ∧ wpAnyH P .any R Q S fuel (listed.setIfInBounds j true) a' w') a w := by rw [hl]; exact h
theorem d_one {j : Nat} {listed' : Array Bool} (hr : Region.ready .any R listed = [j]) (hl : listed.setIfInBounds j true = listed') (h : wpOp P R Q j (fun a' w' => S w' ∧ wpAnyH P .any R Q S fuel listed' a' w') a w) : wpAnyH P .any R Q S (fuel + 1) listed a w :=
 d_all hr rfl (all_cons (d_lit hl h) all_nil)
theorem d_end (hr : Region.ready .any R listed = []) (h : Q .normal a w) : wpAnyH P .any R Q S fuel listed a w := wpAnyH_done hr h fuel
end
/-! ### Rows: that came in, of the call's own -/
def b16 (f : Nat → Int) : List Value := [.int .u8 (f 0), .int .u8 (f 1), .int .u8 (f 2), .int .u8 (f 3), .int .u8 (f 4), .int .u8 (f 5), .int .u8 (f 6), .int .u8 (f 7), .int .u8 (f 8), .int .u8 (f 9), .int .u8 (f 10), .int .u8 (f 11), .int .u8 (f 12), .int .u8 (f 13), .int .u8 (f 14), .int .u8 (f 15)]
def l16 (f : Nat → Int) : List Int := [f 0, f 1, f 2, f 3, f 4, f 5, f 6, f 7, f 8, f 9, f 10, f 11, f 12, f 13, f 14, f 15]
/-- Where an element lies. -/
def ea (A : Option Addr) (j : Nat) : Addr := (A.getD default).add j
/-- k is the row's block. -/
def OB (A : Option Addr) (k : Nat) : Prop := ∃ x, A = some x ∧ x.block = k
theorem ob_nil {k : Nat} : ¬ OB none k := by rintro ⟨x, h, _⟩; cases h
theorem ob_blk {g o k : Nat} : OB (some ⟨g, o, none⟩) k ↔ g = k := ⟨by rintro ⟨x, h, rfl⟩; cases h; rfl, fun h => ⟨_, rfl, h⟩⟩
theorem own_ob {w : World} {base e s n c : Nat} {A : Option Addr} {n' : Nat} {xs : List Value} (h : w.ownsRow base e s (.slice A n c) n' xs) {k : Nat} (hk : OB A k) : base ≤ k ∧ k < w.heap.size := by
 obtain ⟨x, rfl, rfl⟩ := hk
 exact ⟨own_base h _ rfl, own_lt h _ rfl⟩
theorem own_keep {w w' : World} {base e s n c : Nat} {A : Option Addr} {n' : Nat} {xs : List Value} {S : Nat → Prop} (h : w.ownsRow base e s (.slice A n c) n' xs) (hk : Kp w w' S) (hn : ∀ k, OB A k → ¬ S k) : w'.ownsRow base e s (.slice A n c) n' xs := by
 refine own_move h (fun k h2 => hk.kept.2 k (own_lt h k h2) (hn k ?_))
 cases A with
 | none => cases h2
 | some x => exact ⟨x, rfl, by simpa [Value.ownBlock] using h2⟩
theorem own_lower {w : World} {b b' e s n : Nat} {v : Value} {xs : List Value} (h : w.ownsRow b e s v n xs) (hb : b' ≤ b) : w.ownsRow b' e s v n xs := by
 refine ⟨h.1, ?_⟩
 rcases h.2 with h2 | ⟨g, cap, cur, h1, h2, h3⟩
 · exact .inl h2
 · exact .inr ⟨g, cap, cur, h1, Nat.le_trans hb h2, h3⟩
theorem own_caps {w : World} {base e s n c : Nat} {A : Option Addr} {xs : List Value} (h : w.ownsRow base e s (.slice A n c) n xs) : n ≤ c ∧ c ≤ 9223372036854775807 := by
 rcases h.2 with ⟨h2, h0⟩ | ⟨g, cap, cur, h2, _, _, hn, hm, _⟩
 · injection h2 with _ _ h3; omega
 · injection h2 with _ _ h3; unfold maxLen at hm; omega
theorem own_sl {w : World} {base e s n : Nat} {v : Value} {xs : List Value} (h : w.ownsRow base e s v n xs) : ∃ A c, v = .slice A n c := by
 rcases h.2 with ⟨rfl, h0⟩ | ⟨g, cap, cur, rfl, _⟩
 · exact ⟨none, 0, by rw [h0]⟩
 · exact ⟨_, _, rfl⟩
theorem own_none (w : World) (base e s : Nat) : w.ownsRow base e s (.slice none 0 0) 0 [] := ⟨by simp, .inl ⟨rfl, rfl⟩⟩
/-- What is told of a row that nobody but S writes. -/
theorem own_told {w : World} {base e n c : Nat} {A : Option Addr} {k : IntKind} {xs : List Int} (h : w.ownsRow base e 1 (.slice A n c) n (encs (Value.int k) xs)) : Kd.C (Kd.int k) w A n xs :=
 Kd.C_of_reads (enc := Value.int k) (d := (0 : Int)) (h1 := fun _ => rfl) (own_reads_of' h)
section
variable {P : Program} {T T1 T2 : TypeId} {m : List (Nat × Value)} {w : World} {X Y : Operand} {A : Option Addr} {n c i s : Nat} {e : TypeId} {k k' : IntKind} {l : List Int}
theorem C_at {l : List Int} (hC : Kd.C (Kd.int k) w A n l) (hi : i < n) : A = some (A.getD default) ∧ w.cell? (ea A i) = some (.int k (rd l (i : Int))) := by
 obtain ⟨ad, rfl, h⟩ := Kd.at_int hC (i : Int) (by omega) (by omega)
 exact ⟨rfl, by simpa [ea] using h⟩
theorem st_indexAddrC (hT : P.underlying T1 = some (.slice e)) (hs : (P.info? e).map (·.size) = some 1) (hC : Kd.C (Kd.int k) w A n l) (h1 : ev m X = some (.slice A n c)) (h2 : ev m Y = some (.int k' (i : Int))) (hi : i < n) : Still P (.indexAddr T1 X Y) T m w (.pointer (some (ea A i))) := by
 obtain ⟨hA, _⟩ := C_at hC hi
 obtain ⟨x, rfl⟩ : ∃ x, A = some x := ⟨_, hA⟩
 exact st_indexAddr hT hs h1 h2 hi (by simp [ea])
/-- The address is reckoned in whatever world. -/
theorem st_indexAddrS (hT : P.underlying T1 = some (.slice e)) (hs : (P.info? e).map (·.size) = some 1) (hA : A = some (A.getD default)) (h1 : ev m X = some (.slice A n c)) (h2 : ev m Y = some (.int k' (i : Int))) (hi : i < n) : Still P (.indexAddr T1 X Y) T m w (.pointer (some (ea A i))) := by
 obtain ⟨x, rfl⟩ : ∃ x, A = some x := ⟨_, hA⟩
 exact st_indexAddr hT hs h1 h2 hi (by simp [ea])
theorem st_loadC {T0 : TypeId} (hT : (P.underlying T0).map aggD = some false) (hC : Kd.C (Kd.int k) w A n l) (hi : i < n) (h1 : ev m X = some (.pointer (some (ea A i)))) : Still P (.load T0 X) T m w (.int k (rd l (i : Int))) := st_load1 hT h1 (C_at hC hi).2
theorem st_sliceA {g off s l : Nat} (hT : P.underlying T1 = some (.array l e)) (hs : (P.info? e).map (·.size) = some s) (h1 : ev m X = some (.pointer (some ⟨g, off, none⟩))) : Still P (.slice T1 X none none none) T m w (.slice (some ⟨g, off, none⟩) l l) := fun q a hE o e1 e2 => by
 unfold execOp; rw [e1]
 by_cases hl : l = 0
 ·
  subst hl
  simp [hE.ev h1, Instr.sliceAt, Instr.sureAddr, Instr.sliceBounds, run_underlying hT, run_sizeD hs]
 · simp [hE.ev h1, Instr.sliceAt, Instr.sureAddr, Instr.sliceBounds, run_underlying hT, run_sizeD hs, hl, Addr.add]
end
section
variable {P : Program} {R : Array Oper} {Q : Exit → Act → World → Prop} {K : Act → World → Prop} {i n : Nat} {a : Act} {w : World} {m : List (Nat × Value)} {T T1 : TypeId} {g : Option (Nat × Bool)} {d : Nat} {v : Value} {X Y : Operand}
/-- An element type: its zero's cells, its size, its bytes. -/
def elemD (P : Program) (e : TypeId) : Option (Nat × Nat × Nat) := match P.info? e with
 | some i => i.zero.map fun z => (z.cells.size, i.size, i.bytes)
 | none => none
theorem s_append {A : Option Addr} {q c n' base s by' qc e : Nat} {xs news : List Value} {ad : Addr} (hp : pj R i = some (some d, .call { callee := .builtin .append, args := #[X, Y], argTypes := #[T1, T1] }, T, g)) (hE : En n a m) (hw : Wn R m g true) (hd : Nat.blt d n = true)
  (hT : P.underlying T1 = some (.slice e)) (hi : elemD P e = some (s, s, by')) (hs0 : 0 < s) (hx : ev m X = some (.slice A n' c)) (ho : w.ownsRow base e s (.slice A n' c) n' xs) (hy : ev m Y = some (.slice (some ad) q qc)) (hl : news.length = q * s)
  (hnews : ∀ j u, news[j]? = some u → w.cell? (ad.add j) = some u) (h1 : ∀ u ∈ news, u.oneCell' = true) (h63 : n' + q ≤ 9223372036854775807) (hby : (n' + q) * by' ≤ 140737488355328) (hb : base ≤ w.heap.size)
  (h : ∀ A' c' w', w'.ownsRow base e s (.slice A' (n' + q) c') (n' + q) (xs ++ news) → Kp w w' (OB A) → (∀ k, OB A' k → OB A k ∨ w.heap.size ≤ k) → ∀ a, En n a ((d, .slice A' (n' + q) c') :: m) → K a w') : wpOp P R Q i K a w := by
 unfold elemD at hi
 cases hq : P.info? e with
 | none => rw [hq] at hi; cases hi
 | some ie =>
  rw [hq] at hi
  simp only at hi
  cases hz : ie.zero with
  | none => rw [hz] at hi; cases hi
  | some z =>
   rw [hz] at hi
   simp only [Option.map_some, Option.some.injEq, Prod.mk.injEq] at hi
   refine s_step hp hE hw hd (fun o e1 e2 => ?_)
   obtain ⟨v', w', hr, h2, h3, _, h5⟩ := run_append_own_at (P := P) w base T1 o.type e ie z s by' hT hq hz hi.2.1 hi.2.2 hi.1 hs0 _ n' xs ho ad q qc news hl hnews h1 (by unfold maxLen; omega) hby hb
   obtain ⟨A', c', rfl⟩ := own_sl h2
   refine ⟨_, w', ?_, h A' c' w' h2 ⟨⟨h3.size, fun k hk hn => h3.block k hk (fun he => hn ?_)⟩, h3.os, h3.tape, h3.output⟩ ?_⟩
   ·
    unfold execOp; rw [e1]
    simp only [resolve, invoke, builtin, Sem.run_bind, Sem.run_pure, Result.andThen_ok, List.map_toArray, List.map_cons, List.map_nil, hE.ev hx, hE.ev hy, hr]
   ·
    cases A with
    | none => simp [Value.ownBlock] at he
    | some x => exact ⟨x, rfl, by simpa [Value.ownBlock] using he.symm⟩
   ·
    rintro k ⟨x, rfl, rfl⟩
    rcases h5 with h5 | h5
    ·
     cases A with
     | none => simp [Value.ownBlock] at h5
     | some y => exact .inl ⟨y, rfl, by simpa [Value.ownBlock] using h5.symm⟩
    · exact .inr (by simp [Value.ownBlock] at h5; omega)
theorem run_append_none (T1 ty e s by' : Nat) (hT : P.underlying T1 = some (.slice e)) (hi : elemD P e = some (s, s, by')) (A : Option Addr) (n' c qc : Nat) (hn : n' ≤ c) (w : World) : (Builtin.append_ #[T1, T1] ty #[.slice A n' c, .slice none 0 qc]).run P w = .ok (.slice A n' c) w := by
 unfold elemD at hi
 cases hq : P.info? e with
 | none => rw [hq] at hi; cases hi
 | some ie =>
  cases A <;> simp [Builtin.append_, run_underlying hT, sizeOf, typeInfo, hq, Builtin.lenOf, hn, Builtin.firstCells, storeCells]
/-- Whole numbers behind a row of the call's own: the row that is appended is one that is read. -/
theorem s_appendC {A A2 : Option Addr} {q c n' base by' qc e : Nat} {k : IntKind} {xs ys : List Int} (hp : pj R i = some (some d, .call { callee := .builtin .append, args := #[X, Y], argTypes := #[T1, T1] }, T, g)) (hE : En n a m) (hw : Wn R m g true) (hd : Nat.blt d n = true)
  (hT : P.underlying T1 = some (.slice e)) (hi : elemD P e = some (1, 1, by')) (hx : ev m X = some (.slice A n' c)) (ho : w.ownsRow base e 1 (.slice A n' c) n' (encs (Value.int k) xs)) (hy : ev m Y = some (.slice A2 q qc)) (hC : Kd.C (Kd.int k) w A2 q ys)
  (h63 : n' + q ≤ 9223372036854775807) (hby : (n' + q) * by' ≤ 140737488355328) (hb : base ≤ w.heap.size)
  (h : ∀ A' c' w', w'.ownsRow base e 1 (.slice A' (n' + q) c') (n' + q) (encs (Value.int k) (xs ++ ys)) → Kp w w' (OB A) → (∀ k, OB A' k → OB A k ∨ w.heap.size ≤ k) → ∀ a, En n a ((d, .slice A' (n' + q) c') :: m) → K a w') : wpOp P R Q i K a w := by
 have hlen : ys.length = q := hC.1
 cases A2 with
 | some ad =>
  refine s_append (news := encs (Value.int k) ys) hp hE hw hd hT hi (by decide) hx ho hy (by simp [encs, hlen]) (fun j u hj => ?_) (fun u hu => ?_) h63 hby hb (fun A' c' w' h1 => h A' c' w' (by simpa [encs] using h1))
  ·
   obtain ⟨ad', he, hc⟩ := Kd.at_int hC (j : Int) (by omega) (by
    have : j < ys.length := by
     rcases Nat.lt_or_ge j ys.length with h | h
     · exact h
     · simp [encs, List.getElem?_eq_none h] at hj
    omega)
   cases he
   rw [Int.toNat_natCast] at hc
   rw [hc]
   have hj2 : ys[j]? = some (rd ys (j : Int)) := by
    have : j < ys.length := by
     rcases Nat.lt_or_ge j ys.length with h | h
     · exact h
     · simp [encs, List.getElem?_eq_none h] at hj
    simp [rd, this]
   simp only [encs, List.getElem?_map, hj2, Option.map_some] at hj
   exact hj
  · obtain ⟨x, _, rfl⟩ := List.mem_map.1 hu; rfl
 | none =>
  have h0 : q = 0 := by
   rcases Nat.eq_zero_or_pos q with h | h
   · exact h
   · obtain ⟨ad, he, _⟩ := hC.2.2 h; cases he
  have hys : ys = [] := List.eq_nil_of_length_eq_zero (by omega)
  subst hys
  have hnc := (own_caps ho).1
  have e0 : n' + q = n' := by omega
  have key := h A c w (by rw [e0, List.append_nil]; exact ho) (Kp.refl _ _) (fun k hk => .inl hk)
  rw [e0] at key
  clear h
  subst h0
  refine s_step hp hE hw hd (fun o e1 e2 => ⟨.slice A n' c, w, ?_, key⟩)
  unfold execOp; rw [e1]
  simp only [resolve, invoke, builtin, Sem.run_bind, Sem.run_pure, Result.andThen_ok, List.map_toArray, List.map_cons, List.map_nil, hE.ev hx, hE.ev hy, run_append_none T1 o.type e 1 by' hT hi A n' c qc hnc]
theorem grow_n {A A' : Option Addr} {b : Nat} (h : ¬ OB A b) (hb : b < w.heap.size) (hat : ∀ k, OB A' k → OB A k ∨ w.heap.size ≤ k) : ¬ OB A' b := fun h2 => (hat b h2).elim h (fun h3 => by omega)
theorem grow_z {A A' : Option Addr} {S : Nat → Prop} {w0 : World} (h : ∀ k, OB A k → S k ∨ w0.heap.size ≤ k) (hz : w0.heap.size ≤ w.heap.size) (hat : ∀ k, OB A' k → OB A k ∨ w.heap.size ≤ k) : ∀ k, OB A' k → S k ∨ w0.heap.size ≤ k := fun k hk => (hat k hk).elim (h k) (fun h3 => .inr (by omega))
end
theorem st_build {P : Program} {T T1 : TypeId} {m : List (Nat × Value)} {w : World} {xs : List (Nat × Operand)} {vs : List (Nat × Value)} {cs : Array Value} (hx : evp m xs = some vs) (hc : P.built T1 vs = some cs) : Still P (.build T1 xs.toArray) T m w (.agg cs) := fun n a hE o e1 e2 => by
 unfold execOp; rw [e1]
 have hev := hE.evp hx
 have := run_build (P := P) w T1 (xs.toArray.map fun (p : Nat × Operand) => (p.1, a.eval p.2)) cs (by simp only [List.map_toArray, List.toList_toArray, hev]; exact hc)
 simp only [Sem.run_bind]
 erw [this]
 rfl
theorem C_blk {w : World} {g off n : Nat} {cs : Array Value} {T0 : TypeId} {fr : Nat × Nat} {k : IntKind} {l : List Int} (hb : w.heap[g]? = some (.cells cs T0 fr)) (hn : l.length = n ∧ n ≤ 9223372036854775807) (hv : (cs.toList.drop off).take n = l.map (Value.int k)) : Kd.C (Kd.int k) w (some ⟨g, off, none⟩) n l :=
 Kd.C_of_reads (enc := Value.int k) (d := (0 : Int)) (h1 := fun _ => rfl) ⟨hn.1, hn.2, fun _ => ⟨_, rfl, fun j hj => by
  have hj2 : l[j]? = some (rd l (j : Int)) := by simp [rd, hn.1, hj]
  have h3 : (l.map (Value.int k))[j]? = some (.int k (rd l (j : Int))) := by simp [hj2]
  rw [← hv, List.getElem?_take, if_pos hj, List.getElem?_drop] at h3
  rw [add_mk, cell_of_row w g (off + j) cs T0 fr hb, ← Array.getElem?_toList, h3]
  simp [rd, rdOf]⟩⟩
theorem own_cut {w : World} {base e n c h : Nat} {A : Option Addr} {xs : List Value} (ho : w.ownsRow base e 1 (.slice A n c) n xs) (hh : h ≤ n) : w.ownsRow base e 1 (.slice A h c) h (xs.take h) := by
 refine ⟨by have := ho.1; simp; omega, ?_⟩
 rcases ho.2 with ⟨h1, h2⟩ | ⟨g, cap, cur, h1, h2, h3, h4, h5, h6, h7⟩
 ·
  injection h1 with a1 a2 a3
  subst a1; subst a3
  exact .inl ⟨by rw [show h = 0 by omega], by omega⟩
 ·
  injection h1 with a1 a2 a3
  subst a1; subst a3
  refine .inr ⟨g, _, cur, rfl, h2, h3, by omega, h5, h6, ?_⟩
  rw [← h7, Nat.mul_one, Nat.mul_one, List.take_take, Nat.min_eq_left hh]
/-- append(nil, make([]T, q)...) -/
theorem s_appendZ {P : Program} {R : Array Oper} {Q : Exit → Act → World → Prop} {K : Act → World → Prop} {i n : Nat} {a : Act} {w : World} {m : List (Nat × Value)} {T T1 T2 : TypeId} {g : Option (Nat × Bool)} {d : Nat} {X Y : Operand} {q e by' : Nat} {z : Value} {k k2 : IntKind} (hp : pj R i = some (some d, .call { callee := .builtin .append, args := #[X, Y], argTypes := #[T1, T2] }, T, g)) (hE : En n a m) (hw : Wn R m g true) (hd : Nat.blt d n = true)
  (hT : P.underlying T1 = some (.slice e)) (hT2 : P.underlying T2 = some (.int k2)) (hz : (P.info? e).bind (·.zero) = some z) (hi : elemD P e = some (1, 1, by')) (hx : ev m X = some (.slice none 0 0)) (hy : ev m Y = some (.int k (q : Int))) (hq0 : 0 < q) (hq : q ≤ 140737488355328) (hby0 : by' ≤ 1) (base : Nat) (hb : base ≤ w.heap.size)
  (h : ∀ A' c' w', (∃ xs, w'.ownsRow base e 1 (.slice A' q c') q xs) → Kp w w' (fun _ => False) → (∀ k, OB A' k → w.heap.size ≤ k) → ∀ a, En n a ((d, .slice A' q c') :: m) → K a w') : wpOp P R Q i K a w := by
 unfold elemD at hi
 cases hie : P.info? e with
 | none => rw [hie] at hi; cases hi
 | some ie =>
  rw [hie] at hi hz
  simp only [Option.bind_some] at hi hz
  rw [hz] at hi
  simp only [Option.map_some, Option.some.injEq, Prod.mk.injEq] at hi
  obtain ⟨hi1, hi2, hi3⟩ := hi
  have hwq : IntKind.i64.wrap (q : Int) = q := by rw [IntKind.wrap_i64]; omega
  have n1 : ¬ ((q : Int) < 0) := by omega
  have hbb : (q : Int) * (ie.bytes : Int) ≤ 140737488355328 := by rw [hi3]; have : (q : Int) * (by' : Int) ≤ q * 1 := Int.mul_le_mul_of_nonneg_left (by omega) (by omega); omega
  have n2 : ¬ ((2 : Int) ^ 48 < (q : Int) * (ie.bytes : Int)) := by
   have : (2 : Int) ^ 48 = 281474976710656 := by decide
   omega
  have m1 : ¬ ((281474976710656 : Int) < (q : Int) * (ie.bytes : Int)) := by omega
  have m2 : ¬ ((9223372036854775807 : Int) < (q : Int)) := by omega
  have hbn : q * ie.bytes ≤ 140737488355328 := by
   have : ((q * ie.bytes : Nat) : Int) ≤ 140737488355328 := by simpa using hbb
   omega
  have m3 : ¬ (281474976710656 < Builtin.nextslicecap q 0 * ie.bytes) := by
   have : Builtin.nextslicecap q 0 = q := by unfold Builtin.nextslicecap; rw [if_pos (by omega)]
   rw [this]; omega
  have hlq : z.cells.size = 1 := hi1
  refine s_step hp hE hw hd (fun o e1 e2 => ?_)
  obtain ⟨cap, hcap1, hcap2, hcap3⟩ : ∃ cap, cap = (Question.appendCap q 0 e).cut (w.tape w.drawn (.appendCap q 0 e)) ∧ q ≤ cap ∧ cap ≤ maxLen := by
   refine ⟨_, rfl, ?_, ?_⟩
   · simp only [Question.cut]; omega
   ·
    simp only [Question.cut, maxLen]
    have := Nat.mod_lt (w.tape w.drawn (.appendCap q 0 e)) (show 0 < 2 ^ 63 - q by omega)
    omega
  have hsz : (Builtin.zeroCells z.cells q).size = q := by rw [size_zeroCells, hlq, Nat.mul_one]
  have hsz2 : (Builtin.zeroCells z.cells (cap - q)).size = cap - q := by rw [size_zeroCells, hlq, Nat.mul_one]
  refine ⟨.slice (some ⟨w.heap.size, 0, none⟩) q cap, (w.drew).alloc (.cells (#[] ++ Builtin.zeroCells z.cells q ++ Builtin.zeroCells z.cells (cap - q)) e), ?_, ?_⟩
  ·
   unfold execOp; rw [e1]
   simp only [resolve, invoke, builtin, Sem.run_bind, Sem.run_pure, Result.andThen_ok, List.map_toArray, List.map_cons, List.map_nil, hE.ev hx, hE.ev hy]
   simp [Builtin.append_, run_underlying hT, run_underlying hT2, sizeOf, typeInfo, hie, hi2, asInt, asIntOf, hwq, n1, m1, m2, m3, Question.forced, Builtin.firstCells, zeroValue, hz, hlq, newRow, show q ≠ 0 by omega]
   rw [← hcap1]
   exact ⟨rfl, rfl⟩
  ·
   refine h _ _ _ ⟨(Builtin.zeroCells z.cells q).toList, by simp [hsz], .inr ⟨w.heap.size, cap, _, rfl, hb, blk_new w.drew _, hcap2, hcap3, ?_, ?_⟩⟩ ((kp_drew w).then_ (kp_alloc w.drew _) (fun _ h => .inl h)) (fun k hk => by rw [ob_blk] at hk; omega)
   · rw [Nat.mul_one]; simp [hsz, hsz2]; omega
   · simp [hsz]
/-- A block of rows reads as a row of rows. -/
theorem C_rows {w : World} {b e : Nat} {cs : Array Value} {T0 : TypeId} {fr : Nat × Nat} (rows : List (Option Addr × Nat × List Int)) (hb : w.heap[b]? = some (.cells cs T0 fr)) (hcs : cs.toList = rows.map fun r => .slice r.1 r.2.2.length r.2.1) (hl : rows.length ≤ 1000000) (h : ∀ r ∈ rows, r.2.2.length ≤ r.2.1 ∧ Kd.C (Kd.int .u8) w r.1 r.2.2.length r.2.2) :
  Kd.C (Kd.slice e (Kd.int .u8)) w (some ⟨b, 0, none⟩) rows.length (rows.map (·.2.2)) := by
 refine ⟨by simp, by omega, fun _ => ⟨_, rfl, fun j p hj => ?_⟩⟩
 rw [List.getElem?_map, Option.map_eq_some_iff] at hj
 obtain ⟨r, hr, rfl⟩ := hj
 obtain ⟨h1, h2⟩ := h r (List.mem_of_getElem? hr)
 refine ⟨[.slice r.1 r.2.2.length r.2.1], rfl, ⟨r.1, r.2.1, rfl, h1, h2⟩, fun i u hu => ?_⟩
 have hi : i = 0 := by
  rcases i with _ | i
  · rfl
  · simp at hu
 subst hi
 rw [add_mk, cell_of_row w b _ cs T0 fr hb, ← Array.getElem?_toList, hcs]
 simp only [Kd.slice, Nat.zero_add, Nat.mul_one, Nat.add_zero, List.getElem?_map, hr, Option.map_some]
 exact hu
/-! ### Equality of structs and arrays whose parts are whole numbers and bools -/
def eqV : Value → Value → Bool
 | .bool a, .bool b => a == b
 | .int _ a, .int _ b => decide (a = b)
 | _, _ => false
def eqL : List Value → List Value → Bool
 | [], [] => true
 | x :: xs, y :: ys => eqV x y && eqL xs ys
 | _, _ => false
/-- The kinds of a type's cells: true: a bool. -/
def flat (P : Program) : Nat → TypeId → Option (List (Option IntKind))
 | 0, _ => none
 | d + 1, t => match P.underlying t with
  | some .bool => some [none]
  | some (.int k) => some [some k]
  | some (.array n e) => match flat P d e, P.info? e with
   | some l, some i => if i.size = l.length ∧ (isAggT e ∨ l.length = 1) then some (List.replicate n l).flatten else none
   | _, _ => none
  | some (.struct fs) => if P.stoodInHeld t then none else flatF d fs.toList 0
  | _ => none
where
 isAggT (e : TypeId) : Bool := match P.underlying e with
  | some (.struct _) | some (.array _ _) => true
  | _ => false
 flatF (d : Nat) : List Field → Nat → Option (List (Option IntKind))
  | [], _ => some []
  | f :: fs, o => match flat P d f.type, P.info? f.type with
   | some l, some i => if f.name ≠ "_" ∧ f.offset = o ∧ i.size = l.length ∧ (isAggT f.type ∨ l.length = 1) then (flatF d fs (o + l.length)).map (l ++ ·) else none
   | _, _ => none
def fits : List (Option IntKind) → List Value → Bool
 | [], [] => true
 | none :: ks, .bool _ :: vs => fits ks vs
 | some k :: ks, .int k' _ :: vs => decide (k = k') && fits ks vs
 | _, _ => false
theorem fits_len : ∀ {ks : List (Option IntKind)} {vs : List Value}, fits ks vs = true → vs.length = ks.length
 | [], [], _ => rfl
 | none :: ks, .bool _ :: vs, h => by simp only [fits] at h; simp [fits_len h]
 | some k :: ks, .int k' _ :: vs, h => by simp only [fits, Bool.and_eq_true] at h; simp [fits_len h.2]
theorem fits_split : ∀ {ks ks' : List (Option IntKind)} {vs : List Value}, fits (ks ++ ks') vs = true → fits ks (vs.take ks.length) = true ∧ fits ks' (vs.drop ks.length) = true
 | [], ks', vs, h => by simpa [fits] using h
 | none :: ks, ks', .bool _ :: vs, h => by simp only [List.cons_append, fits] at h; have := fits_split h; simpa [fits] using this
 | some k :: ks, ks', .int k' _ :: vs, h => by simp only [List.cons_append, fits, Bool.and_eq_true] at h; have := fits_split h.2; simpa [fits, h.1] using this
 | none :: ks, ks', .int .. :: vs, h => by simp [fits] at h
 | none :: ks, ks', [], h => by simp [fits] at h
 | some k :: ks, ks', .bool _ :: vs, h => by simp [fits] at h
 | some k :: ks, ks', [], h => by simp [fits] at h
theorem eqL_append : ∀ {xs ys xs' ys' : List Value}, xs.length = ys.length → eqL (xs ++ xs') (ys ++ ys') = (eqL xs ys && eqL xs' ys')
 | [], [], _, _, _ => by simp [eqL]
 | x :: xs, y :: ys, xs', ys', h => by simp only [List.cons_append, eqL]; rw [eqL_append (by simpa using h), Bool.and_assoc]
theorem eqL_split (n : Nat) {xs ys : List Value} (h : xs.length = ys.length) : eqL xs ys = (eqL (xs.take n) (ys.take n) && eqL (xs.drop n) (ys.drop n)) := by
 rw [← eqL_append (by simp [h]), List.take_append_drop, List.take_append_drop]
def mkV (P : Program) (T : TypeId) (vs : List Value) : Value := if flat.isAggT P T then .agg vs.toArray else vs.headD undef
section
variable {P : Program} {w : World}
theorem agg_isAggT {T : TypeId} {d : TypeDesc} (h : P.underlying T = some d) : (isAgg T).run P w = .ok (flat.isAggT P T) w := by
 unfold isAgg
 rw [Sem.run_bind, run_underlying h]
 unfold flat.isAggT
 rw [h]
 cases d <;> rfl
theorem part_flat {e : TypeId} {dd : TypeDesc} {ie : TypeInfo} {n off : Nat} {vs : List Value} (hu : P.underlying e = some dd) (hi : P.info? e = some ie) (hs : ie.size = n) (h1 : flat.isAggT P e = true ∨ n = 1) (hl : n = 1 → off + 1 ≤ vs.length) : (part e vs.toArray off).run P w = .ok (mkV P e ((vs.drop off).take n)) w := by
 unfold part mkV
 simp only [Sem.run_bind, agg_isAggT hu, Result.andThen_ok]
 by_cases hA : flat.isAggT P e = true
 ·
  rw [if_pos hA, if_pos hA]
  simp [sizeOf, typeInfo, hi, hs, List.extract]
 ·
  have hn : n = 1 := h1.resolve_left hA
  subst hn
  have hlt : off < vs.length := by have := hl rfl; omega
  rw [if_neg hA, if_neg hA]
  have e9 : (vs.drop off).take 1 = [vs[off]] := by rw [List.drop_eq_getElem_cons hlt]; rfl
  rw [e9]
  simp [hlt]
theorem flat_under {d : Nat} {T : TypeId} {ks : List (Option IntKind)} (h : flat P d T = some ks) : ∃ dd, P.underlying T = some dd := by
 cases d with
 | zero => unfold flat at h; cases h
 | succ d =>
  cases hu : P.underlying T with
  | none => unfold flat at h; rw [hu] at h; cases h
  | some dd => exact ⟨dd, rfl⟩
theorem eqFields_flat (d e : Nat) (he : ∀ T ks, flat P d T = some ks → ∀ xs ys, fits ks xs = true → fits ks ys = true → (Op.equalIn e T (mkV P T xs) (mkV P T ys)).run P w = .ok (eqL xs ys) w) (xs ys : List Value) (hlen : xs.length = ys.length) :
  ∀ (fs : List Field) (o : Nat) (ks : List (Option IntKind)), flat.flatF P d fs o = some ks → fits ks (xs.drop o) = true → fits ks (ys.drop o) = true → (Op.eqFields e xs.toArray ys.toArray fs).run P w = .ok (eqL (xs.drop o) (ys.drop o)) w
 | [], o, ks, h, hx, hy => by
  unfold flat.flatF at h
  cases h
  have e1 : xs.drop o = [] := by have := fits_len hx; exact List.eq_nil_of_length_eq_zero this
  have e2 : ys.drop o = [] := by have := fits_len hy; exact List.eq_nil_of_length_eq_zero this
  rw [e1, e2]
  simp [Op.eqFields, eqL]
 | f :: fs, o, ks, h, hx, hy => by
  unfold flat.flatF at h
  cases hf : flat P d f.type with
  | none => rw [hf] at h; cases h
  | some l =>
   cases hi : P.info? f.type with
   | none => rw [hf, hi] at h; cases h
   | some i =>
    rw [hf, hi] at h
    simp only at h
    split at h
    ·
     rename_i hc
     obtain ⟨hn, ho, hs, h1⟩ := hc
     cases hr : flat.flatF P d fs (o + l.length) with
     | none => rw [hr] at h; cases h
     | some ks' =>
      rw [hr] at h
      simp only [Option.map_some, Option.some.injEq] at h
      subst h
      obtain ⟨dd, hu⟩ := flat_under hf
      have lx := fits_len hx
      have ly := fits_len hy
      simp only [List.length_append, List.length_drop] at lx ly
      obtain ⟨x1, x2⟩ := fits_split hx
      obtain ⟨y1, y2⟩ := fits_split hy
      rw [List.drop_drop] at x2 y2
      have p1 := part_flat (w := w) (off := f.offset) hu hi hs (by simpa using h1) (vs := xs) (by intro h9; have := fits_len x1; simp at this; omega)
      have p2 := part_flat (w := w) (off := f.offset) hu hi hs (by simpa using h1) (vs := ys) (by intro h9; have := fits_len y1; simp at this; omega)
      rw [ho] at p1 p2
      have ih := eqFields_flat d e he xs ys hlen fs (o + l.length) ks' hr x2 y2
      rw [eqL_split l.length (xs := xs.drop o) (ys := ys.drop o) (by simp [hlen]), List.drop_drop, List.drop_drop]
      simp only [Op.eqFields, if_pos hn, Sem.run_bind, ho, p1, p2, Result.andThen_ok, he _ _ hf _ _ x1 y1]
      cases eqL ((xs.drop o).take l.length) ((ys.drop o).take l.length)
      · simp
      · simpa using ih
    · cases h
theorem eqItems_flat (e : Nat) (T : TypeId) (l : List (Option IntKind)) (dd : TypeDesc) (ie : TypeInfo) (hu : P.underlying T = some dd) (hi : P.info? T = some ie) (hs : ie.size = l.length) (h1 : flat.isAggT P T = true ∨ l.length = 1) (he : ∀ xs ys, fits l xs = true → fits l ys = true → (Op.equalIn e T (mkV P T xs) (mkV P T ys)).run P w = .ok (eqL xs ys) w) (xs ys : List Value) (hlen : xs.length = ys.length) :
  ∀ (n k : Nat), fits (List.replicate n l).flatten (xs.drop (k * l.length)) = true → fits (List.replicate n l).flatten (ys.drop (k * l.length)) = true → (Op.eqItems e T l.length xs.toArray ys.toArray (List.range' k n)).run P w = .ok (eqL (xs.drop (k * l.length)) (ys.drop (k * l.length))) w
 | 0, k, hx, hy => by
  have e1 : xs.drop (k * l.length) = [] := by have := fits_len hx; exact List.eq_nil_of_length_eq_zero (by simpa using this)
  have e2 : ys.drop (k * l.length) = [] := by have := fits_len hy; exact List.eq_nil_of_length_eq_zero (by simpa using this)
  rw [e1, e2]
  simp [Op.eqItems, eqL]
 | n + 1, k, hx, hy => by
  rw [List.replicate_succ, List.flatten_cons] at hx hy
  have lx := fits_len hx
  have ly := fits_len hy
  simp only [List.length_append, List.length_drop] at lx ly
  obtain ⟨x1, x2⟩ := fits_split hx
  obtain ⟨y1, y2⟩ := fits_split hy
  rw [List.drop_drop, ← Nat.succ_mul] at x2 y2
  have p1 := part_flat (w := w) (off := k * l.length) hu hi hs h1 (vs := xs) (by intro h9; have := fits_len x1; simp at this; omega)
  have p2 := part_flat (w := w) (off := k * l.length) hu hi hs h1 (vs := ys) (by intro h9; have := fits_len y1; simp at this; omega)
  have ih := eqItems_flat e T l dd ie hu hi hs h1 he xs ys hlen n (k + 1) x2 y2
  rw [eqL_split l.length (xs := xs.drop (k * l.length)) (ys := ys.drop (k * l.length)) (by simp [hlen]), List.drop_drop, List.drop_drop, ← Nat.succ_mul]
  simp only [List.range'_succ, Op.eqItems, Sem.run_bind, p1, p2, Result.andThen_ok, he _ _ x1 y1]
  cases eqL ((xs.drop (k * l.length)).take l.length) ((ys.drop (k * l.length)).take l.length)
  · simp
  · simpa using ih
theorem eq_flat : ∀ (d : Nat) (T : TypeId) (ks : List (Option IntKind)), flat P d T = some ks → ∀ (e : Nat), d ≤ e → ∀ xs ys, fits ks xs = true → fits ks ys = true → (Op.equalIn e T (mkV P T xs) (mkV P T ys)).run P w = .ok (eqL xs ys) w
 | 0, T, ks, h, e, hde, xs, ys, hx, hy => by unfold flat at h; cases h
 | d + 1, T, ks, h, e, hde, xs, ys, hx, hy => by
  obtain ⟨e, rfl⟩ : ∃ q, e = q + 1 := ⟨e - 1, by omega⟩
  have lx := fits_len hx
  have ly := fits_len hy
  unfold flat at h
  cases hu : P.underlying T with
  | none => rw [hu] at h; cases h
  | some dd =>
   rw [hu] at h
   cases dd with
   | bool =>
    simp only [Option.some.injEq] at h
    subst h
    have hA : flat.isAggT P T = false := by unfold flat.isAggT; rw [hu]
    match xs, ys, hx, hy with
    | [.bool a], [.bool b], _, _ => simp [mkV, hA, run_equalIn_bool w e T a b hu, eqL, eqV]
    | [.int ..], _, hx, _ => simp [fits] at hx
    | [.bool a], [.int ..], _, hy => simp [fits] at hy
    | _ :: _ :: _, _, _, _ => simp at lx
    | [_], _ :: _ :: _, _, _ => simp at ly
    | [.bool a], [], _, hy => simp [fits] at hy
    | [], _, hx, _ => simp [fits] at hx
   | int k =>
    simp only [Option.some.injEq] at h
    subst h
    have hA : flat.isAggT P T = false := by unfold flat.isAggT; rw [hu]
    match xs, ys, hx, hy with
    | [.int k1 a], [.int k2 b], hx, hy =>
     simp only [fits, Bool.and_true, decide_eq_true_eq] at hx hy
     subst hx; subst hy
     simp [mkV, hA, run_equalIn_int w e T k k a b hu, eqL, eqV]
     rfl
    | [.bool ..], _, hx, _ => simp [fits] at hx
    | [.int ..], [.bool ..], _, hy => simp [fits] at hy
    | _ :: _ :: _, _, _, _ => simp at lx
    | [_], _ :: _ :: _, _, _ => simp at ly
    | [.int ..], [], _, hy => simp [fits] at hy
    | [], _, hx, _ => simp [fits] at hx
   | array n t =>
    simp only at h
    cases hf : flat P d t with
    | none => rw [hf] at h; cases h
    | some l =>
     cases hi : P.info? t with
     | none => rw [hf, hi] at h; cases h
     | some i =>
      rw [hf, hi] at h
      simp only at h
      split at h
      ·
       rename_i hc
       injection h with h
       subst h
       obtain ⟨dt, hut⟩ := flat_under hf
       have hA : flat.isAggT P T = true := by unfold flat.isAggT; rw [hu]
       have hcs : P.cellsOf t = l.length := by unfold Program.cellsOf; rw [hi]; exact hc.1
       have := eqItems_flat (w := w) e t l dt i hut hi hc.1 hc.2 (fun xs ys => eq_flat d t l hf e (by omega) xs ys) xs ys (by omega) n 0 (by simpa using hx) (by simpa using hy)
       simp only [Nat.zero_mul, List.drop_zero] at this
       rw [← List.range_eq_range'] at this
       simp only [mkV, hA, if_true]
       rw [run_equalIn_array w e xs.toArray ys.toArray hu hi, hcs]
       exact this
      · cases h
   | struct fs =>
    simp only at h
    split at h
    · cases h
    ·
     rename_i hp
     have hA : flat.isAggT P T = true := by unfold flat.isAggT; rw [hu]
     have hfo : P.fieldsOf T = fs := by unfold Program.fieldsOf; rw [hu]
     have := eqFields_flat (w := w) d e (fun T' ks' h' xs ys => eq_flat d T' ks' h' e (by omega) xs ys) xs ys (by omega) fs.toList 0 ks h (by simpa using hx) (by simpa using hy)
     simp only [List.drop_zero] at this
     simp only [mkV, hA, if_true]
     rw [run_equalIn_struct w e T xs.toArray ys.toArray (by rw [hfo]; exact hu) (by simpa using hp), hfo]
     exact this
   | _ => cases h
theorem eqA_flat {T : TypeId} {ks : List (Option IntKind)} (h : flat P 9 T = some ks) (hA : flat.isAggT P T = true) {xs ys : List Value} {b : Bool} (hx : fits ks xs = true) (hy : fits ks ys = true) (hb : eqL xs ys = b) : ∀ w, (Op.equalIn 10000 T (.agg xs.toArray) (.agg ys.toArray)).run P w = .ok b w := fun w => by
 have := eq_flat (w := w) 9 T ks h 10000 (by decide) xs ys hx hy
 rw [hb] at this
 simpa only [mkV, hA, if_true] using this
end
end Go.Proofs.Ytijfocnneccccaa.Ds
