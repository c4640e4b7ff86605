/- Steps of a walk: floats, pointers against nil, functions without a body. No condition. -/
import Derived.Test.YtpnpfapdjdcnbaaDs
import Derived.Laws.FloatArith
import Derived.Laws.Cover2
import Derived.Laws.Externs
import Derived.Laws.Pointers
set_option linter.unusedVariables false
set_option linter.unusedSimpArgs false
namespace Go.Proofs.Ytpnpfapdjdcnbaa.Ds
open Go.RowKit Go.Proofs.YtpnpfapdjdcnbaaW.PrintWords
theorem wn_undef {R : Array Oper} {m : List (Nat × Value)} {j : Nat} {want : Bool} {t : Nat} (hj : dstOf R j = some t) (hl : Go.Proofs.Ytpnpfapdjdcnbaa.Ds.look m t = some undef) : Wn R m (some (j, want)) false := fun n a hE o ho => by
  unfold Region.wanted
  rw [ho]
  simp only
  have h1 : yielded R a.tmps j = none := by
    unfold yielded
    unfold dstOf at hj
    rw [hj]
    simp [hE.get t _ hl, undef]
  rw [h1]
  rfl
section
variable {P : Program} {op : Op} {T : TypeId} {m : List (Nat × Value)} {w : World} {v : Value} {X Y : Operand} {x y z : Nat} {T1 T2 : TypeId} {b : Bool}
theorem fmt64 : FloatKind.f64.format = Ieee.double := rfl
theorem st_feql (h1 : ev m X = some (.float .f64 x)) (h2 : ev m Y = some (.float .f64 y)) (hb : (Ieee.double.order x y == some .eq) = b) : Still P (.binOp .eql T1 X Y T2) T m w (.bool b) := fun n a hE o e1 e2 => by
  subst hb; unfold execOp; rw [e1]; simp [hE.ev h1, hE.ev h2, eqGuard, binOp_float_cmp_eql, fmt64]
theorem st_fneq (h1 : ev m X = some (.float .f64 x)) (h2 : ev m Y = some (.float .f64 y)) (hb : (Ieee.double.order x y != some .eq) = b) : Still P (.binOp .neq T1 X Y T2) T m w (.bool b) := fun n a hE o e1 e2 => by
  subst hb; unfold execOp; rw [e1]; simp [hE.ev h1, hE.ev h2, eqGuard, binOp_float_cmp_neq, fmt64]
theorem st_flss (h1 : ev m X = some (.float .f64 x)) (h2 : ev m Y = some (.float .f64 y)) (hb : (Ieee.double.order x y == some .lt) = b) : Still P (.binOp .lss T1 X Y T2) T m w (.bool b) := fun n a hE o e1 e2 => by
  subst hb; unfold execOp; rw [e1]; simp [hE.ev h1, hE.ev h2, eqGuard, binOp_float_cmp_lss, fmt64]
theorem st_fleq (h1 : ev m X = some (.float .f64 x)) (h2 : ev m Y = some (.float .f64 y)) (hb : (Ieee.double.order x y == some .lt || Ieee.double.order x y == some .eq) = b) : Still P (.binOp .leq T1 X Y T2) T m w (.bool b) := fun n a hE o e1 e2 => by
  subst hb; unfold execOp; rw [e1]; simp [hE.ev h1, hE.ev h2, eqGuard, binOp_float_cmp_leq, fmt64]
theorem st_fgtr (h1 : ev m X = some (.float .f64 x)) (h2 : ev m Y = some (.float .f64 y)) (hb : (Ieee.double.order x y == some .gt) = b) : Still P (.binOp .gtr T1 X Y T2) T m w (.bool b) := fun n a hE o e1 e2 => by
  subst hb; unfold execOp; rw [e1]; simp [hE.ev h1, hE.ev h2, eqGuard, binOp_float_cmp_gtr, fmt64]
theorem st_fgeq (h1 : ev m X = some (.float .f64 x)) (h2 : ev m Y = some (.float .f64 y)) (hb : (Ieee.double.order x y == some .gt || Ieee.double.order x y == some .eq) = b) : Still P (.binOp .geq T1 X Y T2) T m w (.bool b) := fun n a hE o e1 e2 => by
  subst hb; unfold execOp; rw [e1]; simp [hE.ev h1, hE.ev h2, eqGuard, binOp_float_cmp_geq, fmt64]
theorem st_farith {bo : BinOp} (h1 : ev m X = some (.float .f64 x)) (h2 : ev m Y = some (.float .f64 y)) (hb : (match bo with | .eql => false | .neq => false | _ => true) = true) (hz : floatBits bo .f64 x y = some z) : Still P (.binOp bo T1 X Y T2) T m w (.float .f64 z) := fun n a hE o e1 e2 => by
  unfold execOp; rw [e1]
  have hr := run_float_arith (P := P) w bo T1 .f64 x y z hz
  have hg : (eqGuard bo T1 X Y (.float .f64 x) (.float .f64 y)).run P w = .ok () w := by cases bo <;> simp [eqGuard]
  simp only [hE.ev h1, hE.ev h2]
  simp [hg, hr]
theorem st_i2f {k : IntKind} {i : Int} (hs : (P.underlying T1).isSome = true) (hT : P.underlying T2 = some (.float .f64)) (h1 : ev m X = some (.int k i)) (hz : floatOfInt .f64 i = z) : Still P (.convert T1 T2 X) T m w (.float .f64 z) := fun n a hE o e1 e2 => by
  subst hz; unfold execOp; rw [e1]
  simp [hE.ev h1, run_convert_int_float w T1 T2 k .f64 i hs hT]
theorem st_f2i {k : IntKind} {i : Int} (hs : (P.underlying T1).isSome = true) (hT : P.underlying T2 = some (.int k)) (h1 : ev m X = some (.float .f64 x)) (hz : floatToIntVal .f64 x k = some i) : Still P (.convert T1 T2 X) T m w (.int k i) := fun n a hE o e1 e2 => by
  unfold execOp; rw [e1]
  simp [hE.ev h1, run_convert_float_int w T1 T2 .f64 k x i hs hT hz]
theorem st_eqlP {p : Option Addr} (hT : P.underlying T1 = some (.pointer (P.pointee T1))) (h1 : ev m X = some (.pointer p)) (h2 : ev m Y = some (.pointer none)) (hb : p.isNone = b) : Still P (.binOp .eql T1 X Y T2) T m w (.bool b) := fun n a hE o e1 e2 => by
  subst hb; unfold execOp; rw [e1]
  simp [hE.ev h1, hE.ev h2, eqGuard, run_eql_pointer_nil w T1 p hT]
theorem st_neqP {p : Option Addr} (hT : P.underlying T1 = some (.pointer (P.pointee T1))) (h1 : ev m X = some (.pointer p)) (h2 : ev m Y = some (.pointer none)) (hb : (!p.isNone) = b) : Still P (.binOp .neq T1 X Y T2) T m w (.bool b) := fun n a hE o e1 e2 => by
  subst hb; unfold execOp; rw [e1]
  simp [hE.ev h1, hE.ev h2, eqGuard, run_neq_pointer_nil w T1 p hT]
/-- A call of a function without a body. -/
theorem st_ext {f : Nat} {xs : List Operand} {tys : Array TypeId} {args : List Value} (ha : evs m xs = some args) (hr : ∀ w, (callFunc f args.toArray).run P w = .ok (.value v) w) : Still P (.call { callee := .value (.func f), args := xs.toArray, argTypes := tys }) T m w v := fun n a hE o e1 e2 => by
  unfold execOp; rw [e1]
  simp only [resolve, Act.eval, Deferred.ofValue, Sem.run_bind, Sem.run_pure, Result.andThen_ok, invoke]
  rw [show (Array.map a.eval xs.toArray) = args.toArray by simp [hE.evs ha]]
  simp [hr w]
end
end Go.Proofs.Ytpnpfapdjdcnbaa.Ds
