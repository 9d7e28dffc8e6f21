import Derived.Test.YtoepbakbpimkiaaN1
/-! N, second part: what each operation does. -/
namespace Go.Proofs.Ytoepbakbpimkiaa.K
open Go Go.RowKit

/-! ## numbers -/
def w64 (x : Int) : Int := IntKind.i64.wrap x
theorem w64_id {x : Int} (h : -9223372036854775808 ≤ x) (h' : x ≤ 9223372036854775807) : w64 x = x := by
  unfold w64
  rw [IntKind.wrap_i64]
  omega

/-- Cells by number. -/
def cf (n : Nat) (g : Nat → Value) : Array Value := ((List.range n).map g).toArray
def iv (f : Nat → Int) : Nat → Value := fun i => .int .i64 (f i)
def upd {α : Type} (f : Nat → α) (i : Nat) (v : α) : Nat → α := fun j => cond (Nat.beq i j) v (f j)
def shf {α : Type} (f : Nat → α) (k : Nat) : Nat → α := fun j => f (k + j)
/-- A part written. -/
def wrt {α : Type} (f : Nat → α) (k m : Nat) (g : Nat → α) : Nat → α := fun j => cond (Nat.ble k j && Nat.blt j (k + m)) (g (j - k)) (f j)
def lf {α : Type} [Inhabited α] (l : List α) : Nat → α := fun i => l.getD i default

theorem cf_size (n : Nat) (g : Nat → Value) : (cf n g).size = n := by simp [cf]
theorem cf_get {n : Nat} {g : Nat → Value} {i : Nat} (h : i < n) : (cf n g)[i]? = some (g i) := by simp [cf, h]
theorem upd_same {α : Type} (f : Nat → α) (i : Nat) (v : α) : upd f i v i = v := by simp [upd]
theorem upd_other {α : Type} (f : Nat → α) {i j : Nat} (v : α) (h : i ≠ j) : upd f i v j = f j := by
  unfold upd
  cases e : Nat.beq i j with
  | true => exact absurd (Nat.eq_of_beq_eq_true e) h
  | false => rfl
theorem upd_apply {α : Type} (f : Nat → α) (i j : Nat) (v : α) : upd f i v j = if i = j then v else f j := by
  by_cases h : i = j
  · subst h; rw [if_pos rfl, upd_same]
  · rw [if_neg h, upd_other f v h]
theorem cf_set {n : Nat} {g : Nat → Value} {i : Nat} {v : Value} : (cf n g).setIfInBounds i v = cf n (upd g i v) := by
  apply Array.ext_getElem?
  intro j
  by_cases hj : j < n
  · rw [cf_get hj, Array.getElem?_setIfInBounds, cf_size, upd_apply]
    by_cases h : i = j
    · subst h; simp [hj]
    · rw [if_neg h, if_neg h, cf_get hj]
  · rw [Array.getElem?_eq_none (by simp [cf_size]; omega), Array.getElem?_eq_none (by rw [cf_size]; omega)]
theorem cf_extract {n : Nat} {g : Nat → Value} {k m : Nat} (h : k + m ≤ n) : (cf n g).extract k (k + m) = cf m (shf g k) := by
  apply Array.ext_getElem?
  intro j
  by_cases hj : j < m
  · rw [cf_get hj, Array.getElem?_extract]
    simp only [cf_size]
    rw [if_pos (by omega), cf_get (by omega)]
    rfl
  · rw [Array.getElem?_eq_none (by simp [cf_size]; omega), Array.getElem?_eq_none (by rw [cf_size]; omega)]
theorem iv_upd (f : Nat → Int) (i : Nat) (x : Int) : upd (iv f) i (.int .i64 x) = iv (upd f i x) := by
  funext j
  simp only [iv, upd_apply]
  split <;> rfl
theorem iv_shf (f : Nat → Int) (k : Nat) : shf (iv f) k = iv (shf f k) := rfl
theorem iv_wrt (f g : Nat → Int) (k m : Nat) : wrt (iv f) k m (iv g) = iv (wrt f k m g) := by
  funext j
  simp only [iv, wrt]
  cases (Nat.ble k j && Nat.blt j (k + m)) <;> rfl
theorem cf_congr {n : Nat} {g g' : Nat → Value} (h : ∀ i, i < n → g i = g' i) : cf n g = cf n g' := by
  apply Array.ext_getElem?
  intro j
  by_cases hj : j < n
  · rw [cf_get hj, cf_get hj, h j hj]
  · rw [Array.getElem?_eq_none (by rw [cf_size]; omega), Array.getElem?_eq_none (by rw [cf_size]; omega)]

def eqF (n : Nat) (f g : Nat → Int) : Prop := ∀ i, i < n → f i = g i
instance (n : Nat) (f g : Nat → Int) : Decidable (eqF n f g) := by unfold eqF; infer_instance

/-! ## operations that only look at the frame -/
def binI (op : BinOp) (k : IntKind) (a b : Int) : Option Value :=
  match op with
  | .add => some (.int k (k.wrap (a + b)))
  | .sub => some (.int k (k.wrap (a - b)))
  | .mul => some (.int k (k.wrap (a * b)))
  | .eql => some (.bool (decide (a = b)))
  | .neq => some (.bool (decide (¬ a = b)))
  | .lss => some (.bool (decide (a < b)))
  | .leq => some (.bool (decide (a ≤ b)))
  | .gtr => some (.bool (decide (b < a)))
  | .geq => some (.bool (decide (b ≤ a)))
  | _ => none

def IntKind.beq : IntKind → IntKind → Bool
  | .i8, .i8 | .i16, .i16 | .i32, .i32 | .i64, .i64 | .u8, .u8 | .u16, .u16 | .u32, .u32 | .u64, .u64 => true
  | _, _ => false
theorem IntKind.beq_eq {a b : IntKind} (h : IntKind.beq a b = true) : a = b := by cases a <;> cases b <;> first | rfl | cases h

def pv (l : List (Nat × Value)) : Op → Option Value
  | .move x => ev l x
  | .assign x => ev l x
  | .pick c a b => match ev l c with
    | some (.bool true) => ev l a
    | some (.bool false) => ev l b
    | _ => none
  | .binOp op _ x y _ => match ev l x, ev l y with
    | some (.int k a), some (.int k' b) => cond (IntKind.beq k k') (binI op k a b) none
    | _, _ => none
  | .unOp op _ x => match op, ev l x with
    | .neg, some (.int k a) => some (.int k (k.wrap (0 - a)))
    | .not, some (.bool b) => some (.bool (!b))
    | _, _ => none
  | .extract x i => match ev l x with
    | some (.tuple vs) => vs[i]?
    | _ => none
  | _ => none

section
variable {P : Program} {n : Nat} {w0 : World} {S : Own} {Q : Exit → Act → World → Prop} {l : List (Nat × Value)} {H : List Ent}
variable {ops : Array Oper} {rest : List Oper} {dst : Option Tmp} {op : Op} {ty : TypeId} {pos : String} {after : Array Edge} {guard : Option (Nat × Bool)}

theorem Yi.pv (v : Value) (h : pv l op = some v) : Yi P n w0 S { dst, op, type := ty, pos, after, guard } l H v := fun a w hs _ => by
  cases op with
  | move x => simp only [K.pv] at h; simp [execOp, hs.ev h]
  | assign x => simp only [K.pv] at h; simp [execOp, hs.ev h]
  | pick c x y =>
    simp only [K.pv] at h
    cases hc : ev l c with
    | none => simp [hc] at h
    | some u =>
      cases u <;> simp [hc] at h
      rename_i b
      cases b
      · simp [execOp, hs.ev hc, asBool, hs.ev h]
      · simp [execOp, hs.ev hc, asBool, hs.ev h]
  | binOp o t x y t' =>
    simp only [K.pv] at h
    cases hx : ev l x with
    | none => simp [hx] at h
    | some u =>
      cases hy : ev l y with
      | none => cases u <;> simp [hx, hy] at h
      | some u' =>
        cases u <;> cases u' <;> simp [hx, hy] at h
        rename_i k a k' b
        cases hk : IntKind.beq k k' with
        | false => simp [hk] at h
        | true =>
          simp [hk] at h
          have := IntKind.beq_eq hk
          subst this
          cases o <;> simp [binI] at h <;> subst h <;>
            simp [execOp, hs.ev hx, hs.ev hy, eqGuard, binOp, Op.intArith, Op.intCmp] <;> (try rw [Bool.eq_iff_iff]) <;> simp
  | unOp o t x =>
    simp only [K.pv] at h
    cases o <;> cases hx : ev l x <;> simp [hx] at h
    all_goals
      rename_i u
      cases u <;> simp at h
      subst h
      simp [execOp, hs.ev hx, Op.unary, Op.intArith]
  | extract x i =>
    simp only [K.pv] at h
    cases hx : ev l x with
    | none => simp [hx] at h
    | some u =>
      cases u <;> simp [hx] at h
      simp [execOp, hs.ev hx, Instr.extract, h]
  | _ => simp [K.pv] at h

/-- Division. -/
theorem Yi.quo {x y : Operand} {t t' : TypeId} {k : IntKind} {a b : Int} (hx : ev l x = some (.int k a)) (hy : ev l y = some (.int k b)) (hb : b ≠ 0) :
    Yi P n w0 S { dst, op := .binOp .quo t x y t', type := ty, pos, after, guard } l H (.int k (k.wrap (a.tdiv b))) := fun a w hs _ => by
  simp [execOp, hs.ev hx, hs.ev hy, eqGuard, binOp, Op.intDiv, hb]
theorem Yi.rem {x y : Operand} {t t' : TypeId} {k : IntKind} {a b : Int} (hx : ev l x = some (.int k a)) (hy : ev l y = some (.int k b)) (hb : b ≠ 0) :
    Yi P n w0 S { dst, op := .binOp .rem t x y t', type := ty, pos, after, guard } l H (.int k (a.tmod b)) := fun a w hs _ => by
  simp [execOp, hs.ev hx, hs.ev hy, eqGuard, binOp, Op.intDiv, hb]
theorem Yi.shl {x y : Operand} {t t' : TypeId} {k k' : IntKind} {a b : Int} (hx : ev l x = some (.int k a)) (hy : ev l y = some (.int k' b)) (hb : 0 ≤ b) :
    Yi P n w0 S { dst, op := .binOp .shl t x y t', type := ty, pos, after, guard } l H (.int k (k.wrap (a * 2 ^ (min b.toNat k.bits)))) := fun a w hs _ => by
  simp [execOp, hs.ev hx, hs.ev hy, eqGuard, binOp, Op.shift, show ¬ b < 0 by omega]
theorem Yi.shr {x y : Operand} {t t' : TypeId} {k k' : IntKind} {a b : Int} (hx : ev l x = some (.int k a)) (hy : ev l y = some (.int k' b)) (hb : 0 ≤ b) :
    Yi P n w0 S { dst, op := .binOp .shr t x y t', type := ty, pos, after, guard } l H (.int k (a.fdiv (2 ^ (min b.toNat k.bits)))) := fun a w hs _ => by
  simp [execOp, hs.ev hx, hs.ev hy, eqGuard, binOp, Op.shift, show ¬ b < 0 by omega]
def bitI (op : BinOp) (k : IntKind) (x y : Int) : Int :=
  match op with
  | .and => k.wrap ((BitVec.ofInt k.bits x &&& BitVec.ofInt k.bits y).toNat)
  | .or => k.wrap ((BitVec.ofInt k.bits x ||| BitVec.ofInt k.bits y).toNat)
  | .xor => k.wrap ((BitVec.ofInt k.bits x ^^^ BitVec.ofInt k.bits y).toNat)
  | _ => k.wrap ((BitVec.ofInt k.bits x &&& ~~~ BitVec.ofInt k.bits y).toNat)
theorem Yi.bits {o : BinOp} {x y : Operand} {t t' : TypeId} {k : IntKind} {a b : Int} (hx : ev l x = some (.int k a)) (hy : ev l y = some (.int k b)) (ho : o = .and ∨ o = .or ∨ o = .xor ∨ o = .andNot) :
    Yi P n w0 S { dst, op := .binOp o t x y t', type := ty, pos, after, guard } l H (.int k (bitI o k a b)) := fun a w hs _ => by
  rcases ho with rfl | rfl | rfl | rfl <;> simp [execOp, hs.ev hx, hs.ev hy, eqGuard, binOp, Op.intBits, bitI]
/-- A whole number of another kind. -/
theorem Yi.conv {x : Operand} {t t' : TypeId} {k k' : IntKind} {a : Int} (hu : ∃ d, P.underlying t = some d) (hu' : P.underlying t' = some (.int k')) (hx : ev l x = some (.int k a)) :
    Yi P n w0 S { dst, op := .convert t t' x, type := ty, pos, after, guard } l H (.int k' (k'.wrap a)) := fun a w hs _ => by
  obtain ⟨d, hd⟩ := hu
  simp [execOp, hs.ev hx, convert, run_underlying hd, run_underlying hu', Conv.intToInt, Result.andThen]

theorem Yi.max {x y : Operand} {ats : Array TypeId} {k : IntKind} {a b : Int} (hx : ev l x = some (.int k a)) (hy : ev l y = some (.int k b)) :
    Yi P n w0 S { dst, op := .call { callee := .builtin .max, args := #[x, y], argTypes := ats }, type := ty, pos, after, guard } l H (.int k (if b > a then b else a)) := fun a w hs _ => by
  simp [execOp, resolve, invoke, builtin, Builtin.max_, Builtin.max2, hs.ev hx, hs.ev hy]
theorem Yi.min {x y : Operand} {ats : Array TypeId} {k : IntKind} {a b : Int} (hx : ev l x = some (.int k a)) (hy : ev l y = some (.int k b)) :
    Yi P n w0 S { dst, op := .call { callee := .builtin .min, args := #[x, y], argTypes := ats }, type := ty, pos, after, guard } l H (.int k (if b < a then b else a)) := fun a w hs _ => by
  simp [execOp, resolve, invoke, builtin, Builtin.min_, Builtin.min2, hs.ev hx, hs.ev hy]

/-! ## aggregates -/
theorem run_part_leaf {t : TypeId} {cs : Array Value} {off : Nat} {v : Value} {w : World} (hg : ∀ w, (isAgg t).run P w = .ok false w) (h : cs[off]? = some v) : (part t cs off).run P w = .ok v w := by
  simp [part, hg, h, Result.andThen]
theorem run_part_agg {t : TypeId} {cs : Array Value} {off m : Nat} {w : World} (hg : ∀ w, (isAgg t).run P w = .ok true w) (hs : ∀ w, (sizeOf t).run P w = .ok m w) :
    (part t cs off).run P w = .ok (.agg (cs.extract off (off + m))) w := by
  simp [part, hg, hs, Result.andThen]

/-- x[i] of an array by value: a leaf. -/
theorem Yi.index {x ix : Operand} {t e : TypeId} {len : Nat} {k : IntKind} {i : Int} {cs : Array Value} (v : Value) (hu : P.underlying t = some (.array len e))
    (hs : ∀ w, (sizeOf e).run P w = .ok 1 w) (hg : ∀ w, (isAgg e).run P w = .ok false w) (hx : ev l x = some (.agg cs)) (hi : ev l ix = some (.int k i))
    (h0 : 0 ≤ i) (h1 : i < (len : Int)) (hv : cs[i.toNat]? = some v) :
    Yi P n w0 S { dst, op := .index t x ix, type := ty, pos, after, guard } l H v := fun a w hs' _ => by
  simp [execOp, Instr.index, hs'.ev hx, hs'.ev hi, asIntOf, run_underlying hu, h0, h1, hs, run_part_leaf hg hv, Result.andThen]
/-- .. an aggregate. -/
theorem Yi.indexA {x ix : Operand} {t e : TypeId} {len m : Nat} {k : IntKind} {i : Int} {cs : Array Value} (hu : P.underlying t = some (.array len e))
    (hs : ∀ w, (sizeOf e).run P w = .ok m w) (hg : ∀ w, (isAgg e).run P w = .ok true w) (hx : ev l x = some (.agg cs)) (hi : ev l ix = some (.int k i))
    (h0 : 0 ≤ i) (h1 : i < (len : Int)) :
    Yi P n w0 S { dst, op := .index t x ix, type := ty, pos, after, guard } l H (.agg (cs.extract (i.toNat * m) (i.toNat * m + m))) := fun a w hs' _ => by
  simp [execOp, Instr.index, hs'.ev hx, hs'.ev hi, asIntOf, run_underlying hu, h0, h1, hs, run_part_agg hg hs, Result.andThen]
theorem add_none (b o k : Nat) : (⟨b, o, none⟩ : Addr).add k = ⟨b, o + k, none⟩ := by
  unfold Addr.add
  split
  · rename_i h; subst h; rfl
  · rfl
theorem Yi.indexAddr {x ix : Operand} {t e : TypeId} {len m b o : Nat} {k : IntKind} {i : Int} (hu : P.underlying t = some (.array len e))
    (hs : ∀ w, (sizeOf e).run P w = .ok m w) (hx : ev l x = some (.pointer (some ⟨b, o, none⟩))) (hi : ev l ix = some (.int k i)) (h0 : 0 ≤ i) (h1 : i < (len : Int)) :
    Yi P n w0 S { dst, op := .indexAddr t x ix, type := ty, pos, after, guard } l H (.pointer (some ⟨b, o + i.toNat * m, none⟩)) := fun a w hs' _ => by
  simp [execOp, Instr.indexAt, hs'.ev hx, hs'.ev hi, asIntOf, run_underlying hu, Instr.sureAddr, h0, h1, hs, add_none, Result.andThen]
/-- x.f by value: a leaf. -/
theorem Yi.field {x : Operand} {t : TypeId} {fs : Array Field} {f : Field} {j : Nat} {cs : Array Value} (v : Value) (hu : P.underlying t = some (.struct fs)) (hf : fs[j]? = some f)
    (hg : ∀ w, (isAgg f.type).run P w = .ok false w) (hx : ev l x = some (.agg cs)) (hv : cs[f.offset]? = some v) :
    Yi P n w0 S { dst, op := .field t x j, type := ty, pos, after, guard } l H v := fun a w hs' _ => by
  simp [execOp, Instr.field, hs'.ev hx, asAgg, run_underlying hu, hf, run_part_leaf hg hv, Result.andThen]
theorem Yi.fieldA {x : Operand} {t : TypeId} {fs : Array Field} {f : Field} {j m : Nat} {cs : Array Value} (hu : P.underlying t = some (.struct fs)) (hf : fs[j]? = some f)
    (hg : ∀ w, (isAgg f.type).run P w = .ok true w) (hs : ∀ w, (sizeOf f.type).run P w = .ok m w) (hx : ev l x = some (.agg cs)) :
    Yi P n w0 S { dst, op := .field t x j, type := ty, pos, after, guard } l H (.agg (cs.extract f.offset (f.offset + m))) := fun a w hs' _ => by
  simp [execOp, Instr.field, hs'.ev hx, asAgg, run_underlying hu, hf, run_part_agg hg hs, Result.andThen]
theorem Yi.fieldAddr {x : Operand} {t : TypeId} {fs : Array Field} {f : Field} {j m b o : Nat} (hu : P.underlying t = some (.struct fs)) (hf : fs[j]? = some f)
    (hs : ∀ w, (sizeOf f.type).run P w = .ok (m + 1) w) (hx : ev l x = some (.pointer (some ⟨b, o, none⟩))) :
    Yi P n w0 S { dst, op := .fieldAddr t x j, type := ty, pos, after, guard } l H (.pointer (some ⟨b, o + f.offset, none⟩)) := fun a w hs' _ => by
  simp [execOp, Instr.fieldAt, hs'.ev hx, Instr.sureAddr, run_underlying hu, hf, fieldPlace, hs, add_none, Result.andThen]
/-- A composite: 'h' by the kernel. -/
theorem Yi.build {t : TypeId} {parts : Array (Nat × Operand)} {ps : List Operand} {vs : List Value} (v : Value) (hps : parts.toList.map (·.2) = ps) (hv : evs l ps = some vs)
    (h : ∀ w, (Instr.build t ((parts.toList.map (·.1)).zip vs).toArray).run P w = .ok v w) :
    Yi P n w0 S { dst, op := .build t parts, type := ty, pos, after, guard } l H v := fun a w hs' _ => by
  have he : (parts.map fun (i, x) => (i, a.eval x)) = ((parts.toList.map (·.1)).zip vs).toArray := by
    rw [← hs'.evs hv, ← hps]
    apply Array.ext'
    rw [Array.toList_map]
    generalize parts.toList = ps
    induction ps with
    | nil => rfl
    | cons p r ih => simp [ih]
  simp only [execOp, he, Sem.run_bind, h, Result.andThen, Sem.run_pure]
theorem Yi.makeFunc {fn : Fn} {first captured : Array Operand} {v1 v2 : List Value} (h1 : evs l first.toList = some v1) (h2 : evs l captured.toList = some v2) :
    Yi P n w0 S { dst, op := .makeFunc fn first captured, type := ty, pos, after, guard } l H (.func fn v1.toArray v2.toArray) := fun a w hs' _ => by
  have e1 : first.map a.eval = v1.toArray := by apply Array.ext'; simpa using hs'.evs h1
  have e2 : captured.map a.eval = v2.toArray := by apply Array.ext'; simpa using hs'.evs h2
  simp [execOp, Instr.makeFunc, e1, e2]

/-! ## loads -/
theorem run_load1 {w : World} {b j : Nat} {t' t : TypeId} {cs : Array Value} {fr : Nat × Nat} {v : Value} (hb : w.heap[b]? = some (.cells cs t' fr)) (hg : ∀ w, (isAgg t).run P w = .ok false w) (hv : cs[j]? = some v) :
    (loadVar t ⟨b, j, none⟩).run P w = .ok v w := by
  have hc : w.cell? ⟨b, j, none⟩ = some v := by rw [cell_of_row w b j cs t' fr hb]; exact hv
  simp [loadVar, hg, Result.andThen, load, Sem.run, hc]
theorem run_loadA {w : World} {b j m : Nat} {t' t : TypeId} {cs : Array Value} {fr : Nat × Nat} (hb : w.heap[b]? = some (.cells cs t' fr)) (hg : ∀ w, (isAgg t).run P w = .ok true w)
    (hs : ∀ w, (sizeOf t).run P w = .ok m w) (hj : j + m ≤ cs.size) : (loadVar t ⟨b, j, none⟩).run P w = .ok (.agg (cs.extract j (j + m))) w := by
  have hl := run_loadCells_list (P := P) w ⟨b, j, none⟩ (cs.extract j (j + m)).toList (fun k v hv => by
    rw [add_none, cell_of_row w b (j + k) cs t' fr hb]
    have : (cs.extract j (j + m))[k]? = some v := by rw [← Array.getElem?_toList]; exact hv
    rw [Array.getElem?_extract] at this
    split at this
    · exact this
    · cases this)
  have hlen : (cs.extract j (j + m)).toList.length = m := by simp; omega
  rw [hlen, Array.toArray_toList] at hl
  simp [loadVar, hg, hs, Result.andThen, hl]

theorem Yi.load1 {x : Operand} {t t' : TypeId} {i b j : Nat} {cs : Array Value} (v : Value) (hx : ev l x = some (.pointer (some ⟨b, j, none⟩))) (hi : H[i]? = some (.blk b t' cs))
    (hg : ∀ w, (isAgg t).run P w = .ok false w) (hv : cs[j]? = some v) : Yi P n w0 S { dst, op := .load t x, type := ty, pos, after, guard } l H v := fun a w hs' hm => by
  simp [execOp, Instr.loadAt, Instr.sureAddr, hs'.ev hx, run_load1 (hm.at hi) hg hv, Result.andThen]
theorem Yi.loadA {x : Operand} {t t' : TypeId} {i b j m : Nat} {cs : Array Value} (hx : ev l x = some (.pointer (some ⟨b, j, none⟩))) (hi : H[i]? = some (.blk b t' cs))
    (hg : ∀ w, (isAgg t).run P w = .ok true w) (hs : ∀ w, (sizeOf t).run P w = .ok m w) (hj : j + m ≤ cs.size) :
    Yi P n w0 S { dst, op := .load t x, type := ty, pos, after, guard } l H (.agg (cs.extract j (j + m))) := fun a w hs' hm => by
  simp [execOp, Instr.loadAt, Instr.sureAddr, hs'.ev hx, run_loadA (hm.at hi) hg hs hj, Result.andThen]
/-- The whole block. -/
theorem Yi.loadW {x : Operand} {t t' : TypeId} {i b : Nat} {cs : Array Value} (hx : ev l x = some (.pointer (some ⟨b, 0, none⟩))) (hi : H[i]? = some (.blk b t' cs))
    (hg : ∀ w, (isAgg t).run P w = .ok true w) (hs : ∀ w, (sizeOf t).run P w = .ok cs.size w) :
    Yi P n w0 S { dst, op := .load t x, type := ty, pos, after, guard } l H (.agg cs) := fun a w hs' hm => by
  have := run_loadA (P := P) (t := t) (j := 0) (m := cs.size) (hm.at hi) hg hs (by omega)
  simp only [Nat.zero_add, Array.extract_size] at this
  simp [execOp, Instr.loadAt, Instr.sureAddr, hs'.ev hx, this, Result.andThen]

/-- What the cells of a variable of the package hold: of block b the first n. -/
def Gl (b m : Nat) (g : Nat → Value) : Ent := .fact [b] fun w => ∀ j, j < m → w.cell? ⟨b, j, none⟩ = some (g j)
theorem stable_gl (b m : Nat) (g : Nat → Value) : Stable [b] fun w => ∀ j, j < m → w.cell? ⟨b, j, none⟩ = some (g j) := fun w w' h hw j hj => by
  rw [← hw j hj]
  exact World.cell?_of_block (w := w) (h b (by simp))
theorem Mem.gl {w : World} (hm : Mem w0 S H w) {i b m : Nat} {g : Nat → Value} (hi : H[i]? = some (Gl b m g)) : ∀ j, j < m → w.cell? ⟨b, j, none⟩ = some (g j) :=
  (hm.ok _ (List.mem_of_getElem? hi)).2.1
theorem run_loadC {w : World} {b j m : Nat} {t : TypeId} {g : Nat → Value} (hc : ∀ k, k < m → w.cell? ⟨b, j + k, none⟩ = some (g k)) (hg : ∀ w, (isAgg t).run P w = .ok true w)
    (hs : ∀ w, (sizeOf t).run P w = .ok m w) : (loadVar t ⟨b, j, none⟩).run P w = .ok (.agg (cf m g)) w := by
  have hl := run_loadCells_list (P := P) w ⟨b, j, none⟩ (cf m g).toList (fun k v hv => by
    have hv' : (cf m g)[k]? = some v := by rw [← Array.getElem?_toList]; exact hv
    have hk : k < m := by
      rcases Nat.lt_or_ge k m with h | h
      · exact h
      · rw [Array.getElem?_eq_none (by rw [cf_size]; exact h)] at hv'; cases hv'
    rw [cf_get hk] at hv'
    rw [add_none, hc k hk]; exact hv')
  have hlen : (cf m g).toList.length = m := by simp [cf_size]
  rw [hlen, Array.toArray_toList] at hl
  simp [loadVar, hg, hs, Result.andThen, hl]
theorem Yi.loadG {x : Operand} {t : TypeId} {i b m : Nat} {g : Nat → Value} (hx : ev l x = some (.pointer (some ⟨b, 0, none⟩))) (hi : H[i]? = some (Gl b m g))
    (hg : ∀ w, (isAgg t).run P w = .ok true w) (hs : ∀ w, (sizeOf t).run P w = .ok m w) :
    Yi P n w0 S { dst, op := .load t x, type := ty, pos, after, guard } l H (.agg (cf m g)) := fun a w hs' hm => by
  have hc := hm.gl hi
  have := run_loadC (P := P) (t := t) (w := w) (b := b) (j := 0) (m := m) (g := g) (fun k hk => by rw [Nat.zero_add]; exact hc k hk) hg hs
  simp [execOp, Instr.loadAt, Instr.sureAddr, hs'.ev hx, this, Result.andThen]
theorem Yi.loadG1 {x : Operand} {t : TypeId} {i b j m : Nat} {g : Nat → Value} (hx : ev l x = some (.pointer (some ⟨b, j, none⟩))) (hi : H[i]? = some (Gl b m g))
    (hg : ∀ w, (isAgg t).run P w = .ok false w) (hj : j < m) :
    Yi P n w0 S { dst, op := .load t x, type := ty, pos, after, guard } l H (g j) := fun a w hs' hm => by
  have hc := hm.gl hi j hj
  simp [execOp, Instr.loadAt, Instr.sureAddr, hs'.ev hx, loadVar, hg, load, Sem.run, hc, Result.andThen]
theorem Yi.loadGP {x : Operand} {t : TypeId} {i b j m nn : Nat} {f : Nat → Int} (hx : ev l x = some (.pointer (some ⟨b, j, none⟩))) (hi : H[i]? = some (Gl b nn (iv f)))
    (hg : ∀ w, (isAgg t).run P w = .ok true w) (hs : ∀ w, (sizeOf t).run P w = .ok m w) (hj : j + m ≤ nn) :
    Yi P n w0 S { dst, op := .load t x, type := ty, pos, after, guard } l H (.agg (cf m (iv (shf f j)))) := fun a w hs' hm => by
  have hc := hm.gl hi
  have := run_loadC (P := P) (t := t) (w := w) (b := b) (j := j) (m := m) (g := iv (shf f j)) (fun k hk => hc (j + k) (by omega)) hg hs
  simp [execOp, Instr.loadAt, Instr.sureAddr, hs'.ev hx, this, Result.andThen]
/-- The same value in other words. -/
theorem Yi.to {op : Op} {v v' : Value} (h : Yi P n w0 S { dst, op, type := ty, pos, after, guard } l H v) (e : v = v') : Yi P n w0 S { dst, op, type := ty, pos, after, guard } l H v' := e ▸ h

/-! ## calls -/
/-- A call that turns nothing: facts may be lent to it. -/
theorem Ca.call {x : Operand} {f : FuncId} {xs : List Operand} {vs cs : List Value} {ats : Array TypeId} {v : Value} (L : List Ent) (hx : ev l x = some (.func (.func f) #[] cs.toArray)) (hv : evs l xs = some vs)
    (hf : ∀ args w, (callFunc f args).run P w = .ok (.enter f args) w) (hL : ∀ w, Mem w0 S H w → ∀ e ∈ L, Held w H e)
    (hc : ∀ w S', Mem w S' L w → Calls P f (vs ++ cs).toArray w (fun e w' => e = .returned v ∧ Mem w S' [] w')) :
    Ca P n w0 S { dst, op := .call { callee := .value x, args := xs.toArray, argTypes := ats }, type := ty, pos, after, guard } l H v := fun a w hs hm => by
  have e1 : xs.toArray.map a.eval = vs.toArray := by apply Array.ext'; simpa using hs.evs hv
  have hand := Mem.hand (A := []) (B := H) (L := L) hm rfl (hL w hm)
  refine ⟨f, (vs ++ cs).toArray, ?_, (hc w _ hand).mono fun e w' ⟨he, hb⟩ => ⟨he, hm.after hb.quiet⟩⟩
  simp [execOp, resolve, hs.ev hx, Deferred.ofValue, invoke, e1, hf]

/-! ## operations that write -/
theorem RW.box {d : Nat} {x : Operand} {t : TypeId} {v : Value} (hg : wantedIn ops l guard = some true) (hd : Nat.ble n d = false) (hx : ev l x = some v)
    (h : ∀ b, RW P n w0 S ops Q rest ((d, .pointer (some ⟨b, 0, none⟩)) :: l) (.blk b t v.cells :: H)) :
    RW P n w0 S ops Q ({ dst := some d, op := .box t x, type := ty, pos, after, guard } :: rest) l H := fun a w hs hm => by
  unfold wpList
  rw [if_pos (wanted_of hs hg)]
  refine .inl ?_
  unfold Oper.wp
  have he : (execOp a.eval { dst := some d, op := .box t x, type := ty, pos, after, guard }).run P w = .ok (.value (.pointer (some ⟨w.heap.size, 0, none⟩))) { w with heap := w.heap.push (.cells v.cells t) } := by
    simp [execOp, Instr.box, newVar, newRow, newObj, hs.ev hx, Sem.run, Result.andThen]
  rw [he]
  exact h w.heap.size _ _ (hs.put hd) (hm.alloc t v.cells)
theorem RW.alloc {d : Nat} {t : TypeId} {z : Value} (cs : Array Value) (hg : wantedIn ops l guard = some true) (hd : Nat.ble n d = false) (hz : ∀ w, (zeroValue t).run P w = .ok z w) (hzc : z.cells = cs)
    (h : ∀ b, RW P n w0 S ops Q rest ((d, .pointer (some ⟨b, 0, none⟩)) :: l) (.blk b t cs :: H)) :
    RW P n w0 S ops Q ({ dst := some d, op := .alloc t, type := ty, pos, after, guard } :: rest) l H := fun a w hs hm => by
  unfold wpList
  rw [if_pos (wanted_of hs hg)]
  refine .inl ?_
  unfold Oper.wp
  have he : (execOp a.eval { dst := some d, op := .alloc t, type := ty, pos, after, guard }).run P w = .ok (.value (.pointer (some ⟨w.heap.size, 0, none⟩))) { w with heap := w.heap.push (.cells cs t) } := by
    simp [execOp, Instr.alloc, newVar, newRow, newObj, hz, hzc, Sem.run, Result.andThen]
  rw [he]
  exact h w.heap.size _ _ (hs.put hd) (hm.alloc t cs)

theorem run_store1 {w : World} {b j : Nat} {t' t : TypeId} {cs : Array Value} {v : Value} (hb : w.heap[b]? = some (.cells cs t' (0, 0))) (hs : ∀ w, (sizeOf t).run P w = .ok 1 w) (hv : v.cells = #[v]) (ho : v.oneCell' = true)
    (hj : j < cs.size) : (storeVar t ⟨b, j, none⟩ v).run P w = .ok () (w.setCell ⟨b, j, none⟩ v) := by
  have hc : w.cell? ⟨b, j, none⟩ = some cs[j] := by rw [cell_of_row w b j cs t' (0, 0) hb]; simp [hj]
  have hf : w.frozen? ⟨b, j, none⟩ = false := frozen_of_row w b j cs t' hb
  have h0 : (⟨b, j, none⟩ : Addr).add 0 = ⟨b, j, none⟩ := rfl
  cases v <;> first
    | (simp [Value.oneCell'] at ho; done)
    | simp [storeVar, hs, Result.andThen, Value.cells, storeCells, store, h0, Sem.run, hc, hf]

theorem RW.store1 {x y : Operand} {t t' : TypeId} {i b j : Nat} {cs cs' : Array Value} {v : Value} (hg : wantedIn ops l guard = some true) (hx : ev l x = some (.pointer (some ⟨b, j, none⟩))) (hy : ev l y = some v)
    (hi : H[i]? = some (.blk b t' cs)) (hs : ∀ w, (sizeOf t).run P w = .ok 1 w) (hv : v.cells = #[v]) (ho : v.oneCell' = true) (hj : j < cs.size) (hcs : cs.setIfInBounds j v = cs')
    (h : RW P n w0 S ops Q rest l (H.set i (.blk b t' cs'))) :
    RW P n w0 S ops Q ({ dst := none, op := .store t x y, type := ty, pos, after, guard } :: rest) l H := fun a w hs' hm => by
  unfold wpList
  rw [if_pos (wanted_of hs' hg)]
  refine .inl ?_
  unfold Oper.wp
  have he : (execOp a.eval { dst := none, op := .store t x y, type := ty, pos, after, guard }).run P w = .ok .skip (w.setCell ⟨b, j, none⟩ v) := by
    simp [execOp, Instr.storeAt, Instr.sureAddr, hs'.ev hx, hs'.ev hy, run_store1 (hm.at hi) hs hv ho hj, Result.andThen]
  rw [he]
  refine h _ _ hs' ?_
  have := hm.setCell (j := j) hi v
  rw [hcs] at this
  exact this

/-- A whole block written. -/
theorem RW.storeW {x y : Operand} {t t' : TypeId} {i b : Nat} {cs cs' : Array Value} (hg : wantedIn ops l guard = some true) (hx : ev l x = some (.pointer (some ⟨b, 0, none⟩))) (hy : ev l y = some (.agg cs'))
    (hi : H[i]? = some (.blk b t' cs)) (hs : (P.info? t).map (·.size) = some cs'.size) (hsz : cs.size = cs'.size) (ho : cs'.all (·.oneCell') = true)
    (h : RW P n w0 S ops Q rest l (H.set i (.blk b t' cs'))) :
    RW P n w0 S ops Q ({ dst := none, op := .store t x y, type := ty, pos, after, guard } :: rest) l H := fun a w hs' hm => by
  unfold wpList
  rw [if_pos (wanted_of hs' hg)]
  refine .inl ?_
  unfold Oper.wp
  have he : (execOp a.eval { dst := none, op := .store t x y, type := ty, pos, after, guard }).run P w = .ok .skip (w.setRow b cs') := by
    simp [execOp, Instr.storeAt, Instr.sureAddr, hs'.ev hx, hs'.ev hy, run_storeVar_row w b t' t cs cs' (hm.at hi) hs hsz ho, Result.andThen]
  rw [he]
  exact h _ _ hs' (hm.setRow hi cs')

/-! ## the results -/
inductive Res (P : Program) (l : List (Nat × Value)) (H : List Ent) : List ResultVar → List Value → Prop
  | nil : Res P l H [] []
  | tmp {t : Nat} {v : Value} {rs : List ResultVar} {vs : List Value} (h : lk l t = some v) (r : Res P l H rs vs) : Res P l H (.tmp t :: rs) (v :: vs)
  | cellW {t : Nat} {ty t' : TypeId} {i b : Nat} {cs : Array Value} {rs : List ResultVar} {vs : List Value} (h : lk l t = some (.pointer (some ⟨b, 0, none⟩))) (hi : H[i]? = some (.blk b t' cs))
      (hg : ∀ w, (isAgg ty).run P w = .ok true w) (hs : ∀ w, (sizeOf ty).run P w = .ok cs.size w) (r : Res P l H rs vs) : Res P l H (.cell t ty :: rs) (.agg cs :: vs)
  | cell1 {t : Nat} {ty t' : TypeId} {i b : Nat} {v : Value} {cs : Array Value} {rs : List ResultVar} {vs : List Value} (h : lk l t = some (.pointer (some ⟨b, 0, none⟩))) (hi : H[i]? = some (.blk b t' cs))
      (hg : ∀ w, (isAgg ty).run P w = .ok false w) (hv : cs[0]? = some v) (r : Res P l H rs vs) : Res P l H (.cell t ty :: rs) (v :: vs)

def resOf (tmps : Array Value) : ResultVar → Sem Value
  | .tmp t => pure (tmps.getD t undef)
  | .cell a t => do loadVar t (← asAddr (tmps.getD a undef))

theorem res_mapM {a : Act} {w : World} (hs : St n l a) (hm : Mem w0 S H w) : ∀ {rs : List ResultVar} {vs : List Value}, Res P l H rs vs → (rs.mapM (resOf a.tmps)).run P w = .ok vs w := by
  intro rs vs h
  induction h with
  | nil => rfl
  | tmp h _ ih =>
    have := hs.get _ _ h
    simp only [List.mapM_cons, Sem.run_bind, resOf, Sem.run_pure, Result.andThen, ih]
    simp [this]
  | cellW h hi hg hsz _ ih =>
    have hp := hs.get _ _ h
    have hl := run_loadA (P := P) (j := 0) (hm.at hi) hg hsz (by omega)
    simp only [Nat.zero_add, Array.extract_size] at hl
    simp [List.mapM_cons, resOf, hp, asAddr, hl, Result.andThen, ih]
  | cell1 h hi hg hv _ ih =>
    have hp := hs.get _ _ h
    have hl := run_load1 (P := P) (hm.at hi) hg hv
    simp [List.mapM_cons, resOf, hp, asAddr, hl, Result.andThen, ih]

def pack : List Value → Value
  | [v] => v
  | vs => .tuple vs.toArray

theorem res_run {fn : Func} {a : Act} {w : World} {rs : List ResultVar} {vs : List Value} (hs : St n l a) (hm : Mem w0 S H w) (hr : fn.results = rs.toArray) (h : Res P l H rs vs) :
    (results fn a.tmps).run P w = .ok (pack vs) w := by
  have h1 := res_mapM (P := P) hs hm h
  unfold results
  rw [hr]
  show Sem.run P (do let vs ← Array.mapM (resOf a.tmps) rs.toArray; pure (if h : vs.size = 1 then vs[0] else .tuple vs)) w = _
  have h2 : (rs.toArray.mapM (resOf a.tmps)).run P w = .ok vs.toArray w := by
    rw [Array.mapM_eq_mapM_toList]
    simp [h1, Result.andThen]
  simp only [Sem.run_bind, h2, Result.andThen, Sem.run_pure]
  rcases vs with _ | ⟨v, _ | ⟨u, vs⟩⟩ <;> simp [pack]

/-- The end of a call: what it hands back. -/
theorem EW.done {fn : Func} {R : Ending → World → Prop} {rs : List ResultVar} {vs : List Value} (hr : fn.results = rs.toArray) (h : Res P l H rs vs)
    (hR : ∀ w, Mem w0 S H w → R (.returned (pack vs)) w) : EW n w0 S (bodyPost P fn R .ret) l H :=
  fun _ w hs hm => ⟨hs.defers, _, res_run hs hm hr h, hR w hm⟩
theorem EW.done' {fn : Func} {R : Ending → World → Prop} {rs : List ResultVar} {vs : List Value} (hr : fn.results = rs.toArray) (h : Res P l H rs vs)
    (hR : ∀ w, Mem w0 S H w → R (.returned (pack vs)) w) : EW n w0 S (bodyPost P fn R .normal) l H :=
  fun _ w hs hm => ⟨hs.defers, _, res_run hs hm hr h, hR w hm⟩
end
end Go.Proofs.Ytoepbakbpimkiaa.K
