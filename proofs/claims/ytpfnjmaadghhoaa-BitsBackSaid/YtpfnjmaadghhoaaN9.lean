import Derived.Test.YtpfnjmaadghhoaaN8
import Derived.Laws.FloatArith
import Derived.Laws.Externs
/-! N, ninth part: floats. -/
namespace Go.Proofs.Ytpfnjmaadghhoaa.K
open Go Go.RowKit

def fo (x y : Nat) : Option Ordering := Ieee.double.order x y
def fv (f : Nat → Nat) : Nat → Value := fun i => .float .f64 (f i)
def zn : Nat → Nat := fun _ => 0
def fmax (x y : Nat) : Nat := if fo x y = some .lt then y else if fo x y = some .gt then x else if (FloatKind.f64.decode x).neg then y else x
def fmin (x y : Nat) : Nat := if fo x y = some .lt then x else if fo x y = some .gt then y else if (FloatKind.f64.decode x).neg then x else y
def fint (x : Nat) : Option Int := floatToIntVal .f64 x .i64
def fnear (n : Int) : Nat := FloatKind.f64.nearest n
def fneg (x : Nat) : Nat := Op.negFloat .f64 x
def fmul (x y : Nat) : Option Nat := Ieee.double.mul x y
def fdiv (x y : Nat) : Option Nat := Ieee.double.div x y
def fcmpB (o : BinOp) (x y : Nat) : Option Bool :=
  match o with
  | .eql => some (decide (fo x y = some .eq))
  | .neq => some (decide (¬ fo x y = some .eq))
  | .lss => some (decide (fo x y = some .lt))
  | .leq => some (decide (fo x y = some .lt ∨ fo x y = some .eq))
  | .gtr => some (decide (fo x y = some .gt))
  | .geq => some (decide (fo x y = some .gt ∨ fo x y = some .eq))
  | _ => none
theorem fv_upd (f : Nat → Nat) (i : Nat) (x : Nat) : upd (fv f) i (.float .f64 x) = fv (upd f i x) := by
  funext j
  simp only [fv, upd_apply]
  split <;> rfl

theorem fv_one (n : Nat) (f : Nat → Nat) : (cf n (fv f)).all (·.oneCell') = true := cf_all fun _ => rfl

section
variable {P : Program} {n : Nat} {w0 : World} {S : Own} {Q : Exit → Act → World → Prop} {l : List (Nat × Value)} {H : List Ent}
variable {ops : Array Oper} {rest : List Oper} {dst : Option Tmp} {op : Op} {ty : TypeId} {pos : String} {after : Array Edge} {guard : Option (Nat × Bool)}
theorem Yi.fcmp {o : BinOp} {x y : Operand} {t t' : TypeId} {a c : Nat} {b : Bool} (hx : ev l x = some (.float .f64 a)) (hy : ev l y = some (.float .f64 c)) (h : fcmpB o a c = some b) :
    Yi P n w0 S { dst, op := .binOp o t x y t', type := ty, pos, after, guard } l H (.bool b) := fun ac w hs' _ => by
  have e : FloatKind.f64.format.order a c = fo a c := rfl
  cases o <;> simp only [fcmpB, Option.some.injEq, reduceCtorEq] at h <;> subst h <;>
    simp only [execOp, hs'.ev hx, hs'.ev hy, eqGuard, binOp, Op.floatCmp, e] <;>
    cases fo a c <;> (try (rename_i z; cases z)) <;> rfl
theorem Yi.farith {o : BinOp} {x y : Operand} {t t' : TypeId} {a c r : Nat} (hx : ev l x = some (.float .f64 a)) (hy : ev l y = some (.float .f64 c)) (h : floatBits o .f64 a c = some r) :
    Yi P n w0 S { dst, op := .binOp o t x y t', type := ty, pos, after, guard } l H (.float .f64 r) := fun ac w hs' _ => by
  have hr := run_float_arith (P := P) w o t .f64 a c r h
  have hg : ∀ w, (eqGuard o t x y (.float .f64 a) (.float .f64 c)).run P w = .ok () w := fun w => by cases o <;> rfl
  simp [execOp, hs'.ev hx, hs'.ev hy, hg, hr, Result.andThen]
theorem fsome {x : Option Nat} (h : x.isSome = true) : x = some (x.getD 0) := by cases x <;> simp_all
theorem isome {x : Option Int} (h : x.isSome = true) : x = some (x.getD 0) := by cases x <;> simp_all
theorem run_fmax2 {w : World} {a c : Nat} (h : ¬ fo a c = none) : (Builtin.max2 (.float .f64 a) (.float .f64 c)).run P w = .ok (.float .f64 (K.fmax a c)) w := by
  have e : FloatKind.f64.format.order a c = fo a c := rfl
  unfold Builtin.max2
  simp only [e]
  cases hc : fo a c with
  | none => exact absurd hc h
  | some z => cases z <;> simp [K.fmax, hc]
theorem run_fmin2 {w : World} {a c : Nat} (h : ¬ fo a c = none) : (Builtin.min2 (.float .f64 a) (.float .f64 c)).run P w = .ok (.float .f64 (K.fmin a c)) w := by
  have e : FloatKind.f64.format.order a c = fo a c := rfl
  unfold Builtin.min2
  simp only [e]
  cases hc : fo a c with
  | none => exact absurd hc h
  | some z => cases z <;> simp [K.fmin, hc]
theorem Yi.fmax {x y : Operand} {ats : Array TypeId} {a c : Nat} (hx : ev l x = some (.float .f64 a)) (hy : ev l y = some (.float .f64 c)) (h : ¬ fo a c = none) :
    Yi P n w0 S { dst, op := .call { callee := .builtin .max, args := #[x, y], argTypes := ats }, type := ty, pos, after, guard } l H (.float .f64 (K.fmax a c)) := fun ac w hs' _ => by
  have hr := run_fmax2 (P := P) (w := w) h
  simp [execOp, resolve, invoke, builtin, Builtin.max_, hs'.ev hx, hs'.ev hy, hr]
theorem Yi.fmin {x y : Operand} {ats : Array TypeId} {a c : Nat} (hx : ev l x = some (.float .f64 a)) (hy : ev l y = some (.float .f64 c)) (h : ¬ fo a c = none) :
    Yi P n w0 S { dst, op := .call { callee := .builtin .min, args := #[x, y], argTypes := ats }, type := ty, pos, after, guard } l H (.float .f64 (K.fmin a c)) := fun ac w hs' _ => by
  have hr := run_fmin2 (P := P) (w := w) h
  simp [execOp, resolve, invoke, builtin, Builtin.min_, hs'.ev hx, hs'.ev hy, hr]
theorem Yi.itof {x : Operand} {t t' : TypeId} {k : IntKind} {a : Int} (hu : P.underlying t = some (.int k)) (hu' : P.underlying t' = some (.float .f64)) (hx : ev l x = some (.int k a)) :
    Yi P n w0 S { dst, op := .convert t t' x, type := ty, pos, after, guard } l H (.float .f64 (fnear a)) := fun ac w hs' _ => by
  simp [execOp, hs'.ev hx, convert, run_underlying hu, run_underlying hu', Conv.intToFloat, Result.andThen, fnear]
theorem Yi.ftoi {x : Operand} {t t' : TypeId} {a : Nat} {m : Int} (hu : (P.underlying t).isSome = true) (hu' : P.underlying t' = some (.int .i64)) (hx : ev l x = some (.float .f64 a)) (h : fint a = some m) :
    Yi P n w0 S { dst, op := .convert t t' x, type := ty, pos, after, guard } l H (.int .i64 m) := fun ac w hs' _ => by
  have := run_convert_float_int (P := P) w t t' .f64 .i64 a m hu hu' h
  simp [execOp, hs'.ev hx, this, Result.andThen]
theorem Yi.fneg {x : Operand} {t : TypeId} {a : Nat} (hx : ev l x = some (.float .f64 a)) :
    Yi P n w0 S { dst, op := .unOp .neg t x, type := ty, pos, after, guard } l H (.float .f64 (K.fneg a)) := fun ac w hs' _ => by
  simp [execOp, hs'.ev hx, Op.unary, K.fneg]
theorem Yi.indexPG {x ix : Operand} {t e : TypeId} {len m N : Nat} {k : IntKind} {i : Int} {g : Nat → Value} (hu : P.underlying t = some (.array len e))
    (hs : ∀ w, (sizeOf e).run P w = .ok m w) (hg : ∀ w, (isAgg e).run P w = .ok true w) (hx : ev l x = some (.agg (cf N g))) (hi : ev l ix = some (.int k i))
    (h0 : 0 ≤ i) (h1 : i < (len : Int)) (hN : len * m = N) :
    Yi P n w0 S { dst, op := .index t x ix, type := ty, pos, after, guard } l H (.agg (cf m (shf g (i.toNat * m)))) := by
  have h := Yi.indexA (n := n) (w0 := w0) (S := S) (H := H) (dst := dst) (ty := ty) (pos := pos) (after := after) (guard := guard) hu hs hg hx hi h0 h1
  have hle : i.toNat * m + m ≤ N := by
    have : (i.toNat + 1) * m ≤ len * m := Nat.mul_le_mul_right _ (by omega)
    rw [Nat.succ_mul] at this
    omega
  rw [cf_extract hle] at h
  exact h
/-- A call of a function that the model tells. -/
theorem Yi.extern {x : Operand} {f : FuncId} {fn : Func} {xs : List Operand} {vs : List Value} {ats : Array TypeId} {v : Value} {e : Array Value → Sem Value} (hx : ev l x = some (.func (.func f) #[] #[])) (hv : evs l xs = some vs)
    (hf : P.funcs[f]? = some fn) (hname : (fn.name == "runtime.NumGoroutine") = false) (hb : fn.body = none) (hn : Extern.findNext fn = none) (he : Extern.find fn = some e) (hrun : ∀ w, (e vs.toArray).run P w = .ok v w) :
    Yi P n w0 S { dst, op := .call { callee := .value x, args := xs.toArray, argTypes := ats }, type := ty, pos, after, guard } l H v := fun a w hs' _ => by
  have e1 : xs.toArray.map a.eval = vs.toArray := by apply Array.ext'; simpa using hs'.evs hv
  have hc : (callFunc f vs.toArray).run P w = .ok (.value v) w := by
    rw [run_callFunc_extern hf hname (by rw [hb]; rfl) hn he, hrun]; rfl
  simp [execOp, resolve, hs'.ev hx, Deferred.ofValue, invoke, e1, hc]
end
end Go.Proofs.Ytpfnjmaadghhoaa.K
