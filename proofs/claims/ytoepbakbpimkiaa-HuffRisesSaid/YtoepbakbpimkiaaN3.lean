import Derived.Test.YtoepbakbpimkiaaN2
import Derived.Laws.StructEq
import Derived.StillTail
/-! N, third part: equality of arrays and structs; parts of blocks; small words. -/
namespace Go.Proofs.Ytoepbakbpimkiaa.K
open Go Go.RowKit

def zf : Nat → Int := fun _ => 0
def zb : Nat → Bool := fun _ => false
def bv (f : Nat → Bool) : Nat → Value := fun i => .bool (f i)
theorem bv_upd (f : Nat → Bool) (i : Nat) (x : Bool) : upd (bv f) i (.bool x) = bv (upd f i x) := by
  funext j
  simp only [bv, upd_apply]
  split <;> rfl
theorem cf_all {n : Nat} {g : Nat → Value} (h : ∀ i, (g i).oneCell' = true) : (cf n g).all (·.oneCell') = true := by
  rw [Array.all_eq_true]
  intro i hi
  rw [cf_size] at hi
  have := cf_get (g := g) hi
  rw [Array.getElem?_eq_getElem (by rw [cf_size]; exact hi)] at this
  rw [Option.some.inj this]
  exact h i
theorem iv_one (n : Nat) (f : Nat → Int) : (cf n (iv f)).all (·.oneCell') = true := cf_all fun _ => rfl
theorem bv_one (n : Nat) (f : Nat → Bool) : (cf n (bv f)).all (·.oneCell') = true := cf_all fun _ => rfl
def imax (a b : Int) : Int := if b > a then b else a
def imin (a b : Int) : Int := if b < a then b else a
def shlI (k : IntKind) (a b : Int) : Int := k.wrap (a * 2 ^ (min b.toNat k.bits))
def shrI (k : IntKind) (a b : Int) : Int := a.fdiv (2 ^ (min b.toNat k.bits))
theorem of_guard {α : Type} {p : Prop} [Decidable p] {x : Option α} {r : α} (h : (if p then x else none) = some r) : p ∧ x = some r := by
  split at h
  · exact ⟨by assumption, h⟩
  · cases h
theorem of_bind {α β : Type} {x : Option α} {f : α → Option β} {r : β} (h : x.bind f = some r) : ∃ a, x = some a ∧ f a = some r := by
  cases x with
  | none => cases h
  | some a => exact ⟨a, rfl, h⟩

section
variable {P : Program} {n : Nat} {w0 : World} {S : Own} {Q : Exit → Act → World → Prop} {l : List (Nat × Value)} {H : List Ent}
variable {ops : Array Oper} {rest : List Oper} {dst : Option Tmp} {op : Op} {ty : TypeId} {pos : String} {after : Array Edge} {guard : Option (Nat × Bool)}

theorem CW.enter {c : Code} {a : Act} {w : World} (hs : St n l a) (hm : Mem w0 S H w) (h : CW P n w0 S Q c l H) : c.wp P Q a w := h a w hs hm
theorem EW.thr {K : Act → World → Prop} (h : EW n w0 S (Q .ret) l H) : EW n w0 S (Exit.then K Q .ret) l H := h
theorem EW.blr {id : Nat} (h : EW n w0 S (Q .ret) l H) : EW n w0 S (Exit.inBlock id Q .ret) l H := h

theorem St.forkB {a : Act} {d : Nat} {b c : Bool} (hs : St n l a) (hd : lk l d = some (.bool b)) (h : b = c) : St n ((d, .bool c) :: l) a := ⟨hs.size, hs.defers, fun j v hj => by
  unfold lk at hj
  cases e : Nat.beq d j with
  | true => have := Nat.eq_of_beq_eq_true e; subst this; simp at hj; subst hj; rw [h] at hd; exact hs.get d _ hd
  | false => simp [e] at hj; exact hs.get j v hj⟩
theorem RW.forkB (d : Nat) (b : Bool) (hd : lk l d = some (.bool b)) (ht : b = true → RW P n w0 S ops Q rest ((d, .bool true) :: l) H) (hf : ¬ b = true → RW P n w0 S ops Q rest ((d, .bool false) :: l) H) :
    RW P n w0 S ops Q rest l H := fun a w hs hm => by
  cases b with
  | true => exact ht rfl a w (hs.forkB hd rfl) hm
  | false => exact hf (by decide) a w (hs.forkB hd rfl) hm
theorem QW.forkB (d : Nat) (b : Bool) (hd : lk l d = some (.bool b)) (ht : b = true → QW P n w0 S ops Q rest ((d, .bool true) :: l) H) (hf : ¬ b = true → QW P n w0 S ops Q rest ((d, .bool false) :: l) H) :
    QW P n w0 S ops Q rest l H := fun a hs => by
  cases b with
  | true => exact ht rfl a (hs.forkB hd rfl)
  | false => exact hf (by decide) a (hs.forkB hd rfl)
theorem CW.forkB {c : Code} (d : Nat) (b : Bool) (hd : lk l d = some (.bool b)) (ht : b = true → CW P n w0 S Q c ((d, .bool true) :: l) H) (hf : ¬ b = true → CW P n w0 S Q c ((d, .bool false) :: l) H) :
    CW P n w0 S Q c l H := fun a w hs hm => by
  cases b with
  | true => exact ht rfl a w (hs.forkB hd rfl) hm
  | false => exact hf (by decide) a w (hs.forkB hd rfl) hm

/-! ### .. where what comes ahead may call, too: what is known of memory stays known -/
section
variable {md : Region.Mode} {C : World → Prop}
/-- Whatever order the first m operations are picked in; then 'L'. -/
def Hd (P : Program) (md : Region.Mode) (ops : Array Oper) (C : World → Prop) (m : Nat) (L : Array Bool → Act → Prop) : Nat → Array Bool → Act → Prop
  | 0, done, a => L done a
  | f + 1, done, a => Region.ready md ops done ≠ [] ∧ ∀ i, i ∈ Region.ready md ops done → i < m ∧ qOp P ops C i (Hd P md ops C m L f (done.setIfInBounds i true)) a

theorem any_of_hd {ops : Array Oper} {m g : Nat} {L : Array Bool → Act → Prop} {Q' : Exit → Act → World → Prop} (hL : ∀ done a w, C w → L done a → wpAny P md ops Q' g done a w) :
    ∀ (f : Nat) (done : Array Bool) (a : Act) (w : World), C w → Hd P md ops C m L f done a → wpAny P md ops Q' (f + g) done a w := by
  intro f
  induction f with
  | zero => intro done a w hw h; rw [Nat.zero_add]; exact hL done a w hw h
  | succ f ih =>
    intro done a w hw h
    rw [Nat.succ_add]
    refine ⟨fun he => absurd he h.1, fun i hi => ?_⟩
    exact wpOp_of_qOp hw (fun a' w' hw' h' => ih _ a' w' hw' h') (h.2 i hi).2

/-- Number i may be taken first. -/
theorem hd_take {ops : Array Oper} {m i : Nat} {oi : Oper} {v : Value} {L : Array Bool → Act → Prop} (hi : ops[i]? = some oi) (hns : Region.noSelect ops = true)
    (hsink : Region.sinkB md ops m = true) (hchain : Region.chainB md ops m = true) (hm : m < ops.size) (him : i < m) (hend : ∀ done a, L done a → ∀ j ∈ Region.ready md ops done, m ≤ j) :
    ∀ (f : Nat) (done : Array Bool) (a : Act), HeadInv md ops m done →
      (∀ j oj, ops[j]? = some oj → j ≠ i → done.getD j true = false → (∀ e ∈ oj.after, Region.binds md e = true → e.on ≠ i) → oi.apart ops oj = true) →
      i ∈ Region.ready md ops done → YieldsIn P ops C oi v a →
      Hd P md ops C m L f (done.setIfInBounds i true) (a.put oi.dst v) → Hd P md ops C m L (f + 1) done a := by
  have hsel := Region.noSelect_spec hns
  intro f
  induction f with
  | zero =>
    intro done a inv _ hr hy H
    have hopen := (mem_ready.1 hr).1
    refine ⟨fun he => (by rw [he] at hr; cases hr), fun j hj => ?_⟩
    have hjm : j < m := by
      rcases Nat.lt_or_ge j m with h | h
      · exact h
      · exact absurd hj (tail_waits hsink hchain hm inv _ i rfl him hopen j h)
    by_cases e : j = i
    · subst e; exact ⟨hjm, hy.qOp hi H⟩
    · have := hend _ _ H j (ready_mono hj e)
      omega
  | succ f ih =>
    intro done a inv hfree hr hy H
    have hopen := (mem_ready.1 hr).1
    refine ⟨fun he => (by rw [he] at hr; cases hr), fun j hj => ?_⟩
    have hjm : j < m := by
      rcases Nat.lt_or_ge j m with h | h
      · exact h
      · exact absurd hj (tail_waits hsink hchain hm inv _ i rfl him hopen j h)
    refine ⟨hjm, ?_⟩
    by_cases e : j = i
    · subst e; exact hy.qOp hi H
    obtain ⟨hjopen, oj, hoj, hall⟩ := mem_ready.1 hj
    have hno : ∀ ed ∈ oj.after, Region.binds md ed = true → ed.on ≠ i := by
      intro ed hed hb heq
      have h1 := hall ed hed hb
      rw [heq, getD_both hopen] at h1
      cases h1
    have hq := qOp_put hoj (hfree j oj hoj e hjopen hno) (fun cs b => hsel i oi cs b hi) (fun cs b => hsel j oj cs b hoj) hy (H.2 j (ready_mono hj e)).2
    refine qOp_mono (fun a' ha' => ?_) hq
    refine ih (done.setIfInBounds j true) a' (inv.set hj hjm) ?_ (ready_mono hr (Ne.symm e)) ha'.1 ?_
    · intro k ok hk hki hun hnk
      refine hfree k ok hk hki ?_ hnk
      by_cases hjk : j = k
      · subst hjk; exact hjopen
      · rw [getD_set_ne true hjk] at hun; exact hun
    · rw [Array.setIfInBounds_comm _ _ e]
      exact ha'.2

theorem hd_lex {ops : Array Oper} {m g : Nat} {B : Act → Prop} (hns : Region.noSelect ops = true) (hsink : Region.sinkB md ops m = true) (hchain : Region.chainB md ops m = true) (hm : m < ops.size) :
    ∀ (os : List Oper) (k : Nat) (done : Array Bool) (a : Act), (∀ j, j < os.length → os[j]? = ops[k + j]?) → k + os.length = m → HeadInv md ops m done →
      Region.lexHead md ops g os.length k done = true → wpQuiet P ops C B os a → Hd P md ops C m (fun done' a' => Region.seqB md ops g m done' = true ∧ B a') os.length done a := by
  intro os
  induction os with
  | nil =>
    intro k done a _ hk _ hB h
    have : k = m := by simpa using hk
    subst this
    exact ⟨by simpa [Region.lexHead] using hB, h⟩
  | cons o os ih =>
    intro k done a hl hk inv hB h
    have h0 : ops[k]? = some o := by simpa using (hl 0 (by simp)).symm
    simp only [List.length_cons] at hk
    simp only [List.length_cons, Region.lexHead, Bool.and_eq_true] at hB
    have hr : k ∈ Region.ready md ops done := by simpa using hB.1.1
    have hq : qOp P ops C k (wpQuiet P ops C B os) a := by unfold qOp; simp only [h0]; exact h
    obtain ⟨v, hy, hK⟩ := yieldsIn_of_qOp h0 hq
    refine hd_take h0 hns hsink hchain hm (by omega) (fun done' a' hL => seqB_ready hL.1) os.length done a inv (Region.free_spec h0 hB.1.2) hr hy ?_
    refine ih (k + 1) _ _ (fun j hj => ?_) (by omega) (inv.set hr (by omega)) hB.2 hK
    have := hl (j + 1) (by simp; omega)
    simpa [Nat.add_assoc, Nat.add_comm 1 j] using this
end

def TW (P : Program) (n : Nat) (w0 : World) (S : Own) (ops : Array Oper) (Q : Exit → Act → World → Prop) (tail rest : List Oper) (l : List (Nat × Value)) (H : List Ent) : Prop :=
  ∀ a, St n l a → wpQuiet P ops (Mem w0 S H) (fun a' => ∀ w', Mem w0 S H w' → wpList P ops Q tail a' w') rest a
theorem CW.tailC {id : Nat} {ops : List Oper} (m : Nat) (hm : P.follows .mixedOrders = true) (hB : Region.lexTailB .any ops.toArray m = true)
    (h : TW P n w0 S ops.toArray Q (ops.drop m) (ops.take m) l H) : CW P n w0 S Q (.region id ops.toArray true) l H := fun a w hs hmem => by
  simp only [Region.lexTailB, Bool.and_eq_true, decide_eq_true_eq] at hB
  obtain ⟨⟨⟨⟨hns, hlt⟩, hsink⟩, hchain⟩, hlex⟩ := hB
  have hlt' : m < ops.length := by simpa using hlt
  have h1 : (ops.take m).length = m := by simp; omega
  have h2 : (ops.drop m).length = ops.toArray.size - m := by simp
  have inv : HeadInv .any ops.toArray m (Array.replicate ops.toArray.size false) :=
    ⟨by simp, fun j oj _ hl => (by rw [getD_replicate_false] at hl; cases hl), fun t _ ht => getD_in (by simpa using ht) (getD_replicate_false _ _)⟩
  have H1 := hd_lex (P := P) (md := .any) (C := Mem w0 S H) (g := ops.toArray.size - m) (B := fun a' => ∀ w', Mem w0 S H w' → wpList P ops.toArray Q (ops.drop m) a' w') hns hsink hchain hlt (ops.take m) 0 _ a
    (fun j hj => by rw [h1] at hj; simp [hj]) (by simpa using h1) inv (by rw [h1]; exact hlex) (h a hs)
  refine wp_region_any hm ?_
  have H2 := any_of_hd (P := P) (md := .any) (C := Mem w0 S H) (Q' := Q) (g := ops.toArray.size - m) (fun done a' w' hw' hL => by
    have := wpAny_of_seq (P := P) (md := .any) (Q' := Q) (ops.drop m) m done a' w' (fun j => by simp [List.getElem?_drop]) (by rw [h2]; exact hL.1) (hL.2 w' hw')
    rwa [h2] at this) _ _ _ _ hmem.drew H1
  rw [h1, show m + (ops.toArray.size - m) = ops.toArray.size by omega] at H2
  exact H2
theorem TW.nil {ops : Array Oper} {tail : List Oper} (h : RW P n w0 S ops Q tail l H) : TW P n w0 S ops Q tail [] l H := fun a hs => wpQuiet_nil fun w' hm => h a w' hs hm
theorem TW.pass {tail : List Oper} {d : Nat} (hg : wantedIn ops l guard = some false) (hd : Nat.ble n d = false) (h : TW P n w0 S ops Q tail rest ((d, undef) :: l) H) :
    TW P n w0 S ops Q tail ({ dst := some d, op, type := ty, pos, after, guard } :: rest) l H := fun a hs => by
  unfold wpQuiet
  rw [if_neg (by rw [wanted_of hs hg]; exact Bool.false_ne_true)]
  exact h _ (hs.put hd)
theorem TW.yi {tail : List Oper} {d : Nat} (v : Value) (hg : wantedIn ops l guard = some true) (hd : Nat.ble n d = false) (hy : Yi P n w0 S { dst := some d, op, type := ty, pos, after, guard } l H v)
    (h : TW P n w0 S ops Q tail rest ((d, v) :: l) H) : TW P n w0 S ops Q tail ({ dst := some d, op, type := ty, pos, after, guard } :: rest) l H := fun a hs => by
  unfold wpQuiet
  rw [if_pos (wanted_of hs hg)]
  refine ⟨v, fun w hm => ?_, h _ (hs.put hd)⟩
  unfold Oper.quietAt
  rw [hy a w hs hm]
  exact ⟨rfl, rfl⟩
theorem TW.ca {tail : List Oper} {d : Nat} (v : Value) (hg : wantedIn ops l guard = some true) (hd : Nat.ble n d = false) (hy : Ca P n w0 S { dst := some d, op, type := ty, pos, after, guard } l H v)
    (h : TW P n w0 S ops Q tail rest ((d, v) :: l) H) : TW P n w0 S ops Q tail ({ dst := some d, op, type := ty, pos, after, guard } :: rest) l H := fun a hs => by
  unfold wpQuiet
  rw [if_pos (wanted_of hs hg)]
  refine ⟨v, fun w hm => ?_, h _ (hs.put hd)⟩
  obtain ⟨f, args, he, hc⟩ := hy a w hs hm
  unfold Oper.quietAt
  rw [he]
  exact ⟨rfl, hc⟩
theorem TW.fork {tail : List Oper} (d : Nat) (p : Prop) [Decidable p] (hd : lk l d = some (.bool (decide p))) (ht : p → TW P n w0 S ops Q tail rest ((d, .bool true) :: l) H) (hf : ¬ p → TW P n w0 S ops Q tail rest ((d, .bool false) :: l) H) :
    TW P n w0 S ops Q tail rest l H := fun a hs => by
  by_cases h : p
  · exact ht h a (hs.forkB hd (decide_eq_true h))
  · exact hf h a (hs.forkB hd (decide_eq_false h))
theorem TW.forkB {tail : List Oper} (d : Nat) (b : Bool) (hd : lk l d = some (.bool b)) (ht : b = true → TW P n w0 S ops Q tail rest ((d, .bool true) :: l) H) (hf : ¬ b = true → TW P n w0 S ops Q tail rest ((d, .bool false) :: l) H) :
    TW P n w0 S ops Q tail rest l H := fun a hs => by
  cases b with
  | true => exact ht rfl a (hs.forkB hd rfl)
  | false => exact hf (by decide) a (hs.forkB hd rfl)

/-! ### equality -/
theorem run_equalIn_array {w : World} (d : Nat) {t e : TypeId} {len : Nat} {f g : Nat → Int} {k : IntKind} (hu : P.underlying t = some (.array len e)) (he : P.underlying e = some (.int k))
    (hs : ∀ w, (sizeOf e).run P w = .ok 1 w) (hg : ∀ w, (isAgg e).run P w = .ok false w) :
    (Op.equalIn (d + 2) t (.agg (cf len (iv f))) (.agg (cf len (iv g)))).run P w = .ok (decide (eqF len f g)) w := by
  unfold Op.equalIn
  simp only [Sem.run_bind, run_underlying hu, hs, Result.andThen_ok]
  rw [Std.Legacy.Range.forIn_eq_forIn_range']
  simp only [Std.Legacy.Range.size]
  rw [show (len - 0 + 1 - 1) / 1 = len by omega]
  have key : ∀ (m k0 : Nat), k0 + m = len →
      (forIn (List.range' k0 m 1) ((none, ()) : Option Bool × Unit) fun i _ => (do
        let a ← part e (cf len (iv f)) i
        let b ← part e (cf len (iv g)) i
        let r ← Op.equalIn (d + 1) e a b
        if (!r) = true then pure (ForInStep.done (some false, ())) else pure (ForInStep.yield (none, ())) : Sem _)).run P w =
      .ok (cond ((List.range' k0 m 1).all fun i => decide (f i = g i)) (none, ()) (some false, ())) w := by
    intro m
    induction m with
    | zero => intro k0 hk; rfl
    | succ m ih =>
      intro k0 hk
      rw [List.range'_succ, List.forIn_cons]
      simp only [Sem.run_bind]
      rw [run_part_leaf hg (cf_get (by omega)), Result.andThen_ok, run_part_leaf hg (cf_get (by omega)), Result.andThen_ok]
      simp only [iv]
      rw [run_equalIn_int _ _ _ _ _ _ _ he, Result.andThen_ok]
      by_cases hfg : f k0 = g k0
      · simp only [hfg, beq_self_eq_true, Bool.not_true, Bool.false_eq_true, if_false, Sem.run_pure, Result.andThen_ok]
        refine (ih (k0 + 1) (by omega)).trans ?_
        simp [hfg]
      · have hb : (f k0 == g k0) = false := by simpa using hfg
        simp [hb, hfg]
  have := key len 0 (by omega)
  simp only [Nat.mul_one]
  rw [this]
  simp only [Result.andThen_ok]
  have hd : decide (eqF len f g) = (List.range' 0 len 1).all fun i => decide (f i = g i) := by
    rw [Bool.eq_iff_iff, decide_eq_true_iff]
    simp [eqF, List.mem_range'_1]
  rw [hd]
  cases (List.range' 0 len 1).all fun i => decide (f i = g i) <;> rfl

theorem run_equal_array {w : World} {t e : TypeId} {len : Nat} {f g : Nat → Int} {k : IntKind} (hu : P.underlying t = some (.array len e)) (he : P.underlying e = some (.int k))
    (hs : ∀ w, (sizeOf e).run P w = .ok 1 w) (hg : ∀ w, (isAgg e).run P w = .ok false w) :
    (Op.equal t (.agg (cf len (iv f))) (.agg (cf len (iv g)))).run P w = .ok (decide (eqF len f g)) w := run_equalIn_array 9998 hu he hs hg

theorem Yi.eqA {x y : Operand} {t t' e : TypeId} {len : Nat} {f g : Nat → Int} {k : IntKind} (hu : P.underlying t = some (.array len e)) (hq : P.eqGuardType P.depth t = false) (he : P.underlying e = some (.int k))
    (hs : ∀ w, (sizeOf e).run P w = .ok 1 w) (hg : ∀ w, (isAgg e).run P w = .ok false w) (hx : ev l x = some (.agg (cf len (iv f)))) (hy : ev l y = some (.agg (cf len (iv g)))) :
    Yi P n w0 S { dst, op := .binOp .eql t x y t', type := ty, pos, after, guard } l H (.bool (decide (eqF len f g))) := fun a w hs' _ => by
  simp [execOp, hs'.ev hx, hs'.ev hy, eqGuard, hq, binOp, run_equal_array hu he hs hg, Result.andThen]
theorem Yi.neqA {x y : Operand} {t t' e : TypeId} {len : Nat} {f g : Nat → Int} {k : IntKind} (hu : P.underlying t = some (.array len e)) (hq : P.eqGuardType P.depth t = false) (he : P.underlying e = some (.int k))
    (hs : ∀ w, (sizeOf e).run P w = .ok 1 w) (hg : ∀ w, (isAgg e).run P w = .ok false w) (hx : ev l x = some (.agg (cf len (iv f)))) (hy : ev l y = some (.agg (cf len (iv g)))) :
    Yi P n w0 S { dst, op := .binOp .neq t x y t', type := ty, pos, after, guard } l H (.bool (decide (¬ eqF len f g))) := fun a w hs' _ => by
  simp [execOp, hs'.ev hx, hs'.ev hy, eqGuard, hq, binOp, run_equal_array hu he hs hg, Result.andThen]

def ints (xs : List Int) : Array Value := (xs.map (Value.int .i64)).toArray
theorem ints_get (xs : List Int) (i : Nat) : (ints xs)[i]? = (xs[i]?).map (Value.int .i64) := by simp [ints]
def flds (P : Program) : Nat → List Field → Bool
  | _, [] => true
  | i, f :: fs => Nat.beq f.offset i && (f.name != "_") && (match P.underlying f.type with | some (.int _) => true | _ => false) && flds P (i + 1) fs
theorem run_eqFields_ints {w : World} (d : Nat) : ∀ (fs : List Field) (i : Nat) (X Y : List Int), flds P i fs = true → X.length = fs.length + i → Y.length = fs.length + i →
    (Op.eqFields (d + 1) (ints X) (ints Y) fs).run P w = .ok (decide (X.drop i = Y.drop i)) w
  | [], i, X, Y, _, hX, hY => by
    have h1 : X.drop i = [] := List.drop_eq_nil_of_le (by simp at hX; omega)
    have h2 : Y.drop i = [] := List.drop_eq_nil_of_le (by simp at hY; omega)
    simp [Op.eqFields, h1, h2]
  | f :: fs, i, X, Y, hf, hX, hY => by
    simp only [List.length_cons] at hX hY
    simp only [flds, Bool.and_eq_true] at hf
    obtain ⟨⟨⟨ho, hn⟩, ht⟩, hr⟩ := hf
    have ho' : f.offset = i := Nat.eq_of_beq_eq_true ho
    cases hu : P.underlying f.type with
    | none => rw [hu] at ht; cases ht
    | some dd =>
      cases dd <;> rw [hu] at ht <;> try (cases ht; done)
      have hg : ∀ w, (isAgg f.type).run P w = .ok false w := fun w => by simp [isAgg, run_underlying hu, Result.andThen]
      have hx : i < X.length := by omega
      have hy : i < Y.length := by omega
      have hn' : f.name ≠ "_" := by simpa using hn
      unfold Op.eqFields
      rw [if_pos hn']
      simp only [Sem.run_bind]
      rw [run_part_leaf (v := .int .i64 X[i]) hg (by rw [ho', ints_get]; simp [hx]), Result.andThen_ok, run_part_leaf (v := .int .i64 Y[i]) hg (by rw [ho', ints_get]; simp [hy]), Result.andThen_ok,
        run_equalIn_int _ _ _ _ _ _ _ hu, Result.andThen_ok]
      rw [List.drop_eq_getElem_cons hx, List.drop_eq_getElem_cons hy]
      by_cases h : X[i] = Y[i]
      · have := run_eqFields_ints d fs (i + 1) X Y hr (by omega) (by omega) (w := w)
        simp only [h, beq_self_eq_true, Bool.not_true, Bool.false_eq_true, if_false, this, List.cons.injEq, true_and]
      · have hb : (X[i] == Y[i]) = false := by simpa using h
        simp only [hb, Bool.not_false, if_true, Sem.run_pure, List.cons.injEq, h, false_and, decide_false]

theorem run_equal_ints {w : World} {t : TypeId} {fs : Array Field} {xs ys : List Int} (hu : P.underlying t = some (.struct fs)) (hp : P.stoodInHeld t = false) (hf : flds P 0 fs.toList = true)
    (hx : Nat.beq xs.length fs.toList.length = true) (hy : Nat.beq ys.length fs.toList.length = true) :
    (Op.equal t (.agg (ints xs)) (.agg (ints ys))).run P w = .ok (decide (xs = ys)) w := by
  have hfo : P.fieldsOf t = fs := by simp [Program.fieldsOf, hu]
  have := run_equalIn_struct (P := P) w 9999 t (ints xs) (ints ys) (by rw [hfo]; exact hu) hp
  rw [hfo, run_eqFields_ints 9998 fs.toList 0 xs ys hf (Nat.eq_of_beq_eq_true hx) (Nat.eq_of_beq_eq_true hy)] at this
  exact this

theorem Yi.eqS {x y : Operand} {t t' : TypeId} {fs : Array Field} {xs ys : List Int} (hu : P.underlying t = some (.struct fs)) (hq : P.eqGuardType P.depth t = false) (hp : P.stoodInHeld t = false) (hf : flds P 0 fs.toList = true)
    (hlx : Nat.beq xs.length fs.toList.length = true) (hly : Nat.beq ys.length fs.toList.length = true)
    (hx : ev l x = some (.agg (ints xs))) (hy : ev l y = some (.agg (ints ys))) :
    Yi P n w0 S { dst, op := .binOp .eql t x y t', type := ty, pos, after, guard } l H (.bool (decide (xs = ys))) := fun a w hs' _ => by
  simp [execOp, hs'.ev hx, hs'.ev hy, eqGuard, hq, binOp, run_equal_ints hu hp hf hlx hly, Result.andThen]
theorem Yi.neqS {x y : Operand} {t t' : TypeId} {fs : Array Field} {xs ys : List Int} (hu : P.underlying t = some (.struct fs)) (hq : P.eqGuardType P.depth t = false) (hp : P.stoodInHeld t = false) (hf : flds P 0 fs.toList = true)
    (hlx : Nat.beq xs.length fs.toList.length = true) (hly : Nat.beq ys.length fs.toList.length = true)
    (hx : ev l x = some (.agg (ints xs))) (hy : ev l y = some (.agg (ints ys))) :
    Yi P n w0 S { dst, op := .binOp .neq t x y t', type := ty, pos, after, guard } l H (.bool (decide (¬ xs = ys))) := fun a w hs' _ => by
  simp [execOp, hs'.ev hx, hs'.ev hy, eqGuard, hq, binOp, run_equal_ints hu hp hf hlx hly, Result.andThen]
theorem Yi.eqB {x y : Operand} {t t' : TypeId} {b c : Bool} (hx : ev l x = some (.bool b)) (hy : ev l y = some (.bool c)) (hu : P.underlying t = some .bool) :
    Yi P n w0 S { dst, op := .binOp .eql t x y t', type := ty, pos, after, guard } l H (.bool (b == c)) := fun a w hs' _ => by
  simp [execOp, hs'.ev hx, hs'.ev hy, eqGuard, binOp, show (Op.equal t (.bool b) (.bool c)).run P w = .ok (b == c) w from run_equalIn_bool' w 9999 t b c hu, Result.andThen]
theorem Yi.neB {x y : Operand} {t t' : TypeId} {b c : Bool} (hx : ev l x = some (.bool b)) (hy : ev l y = some (.bool c)) (hu : P.underlying t = some .bool) :
    Yi P n w0 S { dst, op := .binOp .neq t x y t', type := ty, pos, after, guard } l H (.bool (!(b == c))) := fun a w hs' _ => by
  simp [execOp, hs'.ev hx, hs'.ev hy, eqGuard, binOp, show (Op.equal t (.bool b) (.bool c)).run P w = .ok (b == c) w from run_equalIn_bool' w 9999 t b c hu, Result.andThen]

theorem Yi.indexAddr' {x ix : Operand} {t e : TypeId} {len m b o : Nat} {k : IntKind} {i : Int} (o' : Nat) (hu : P.underlying t = some (.array len e))
    (hs : ∀ w, (sizeOf e).run P w = .ok m w) (hx : ev l x = some (.pointer (some ⟨b, o, none⟩))) (hi : ev l ix = some (.int k i)) (h0 : 0 ≤ i) (h1 : i < (len : Int)) (ho : o + i.toNat * m = o') :
    Yi P n w0 S { dst, op := .indexAddr t x ix, type := ty, pos, after, guard } l H (.pointer (some ⟨b, o', none⟩)) := by
  subst ho; exact Yi.indexAddr hu hs hx hi h0 h1
theorem Yi.nilCheck {x : Operand} {v : Value} (hx : ev l x = some v) (h1 : v ≠ .pointer none) (h2 : v ≠ .nilIface) (h3 : v ≠ .nilFunc) (h4 : ∀ nm f c, v ≠ .func (.method nm) f c) :
    Yi P n w0 S { dst, op := .nilCheck x, type := ty, pos, after, guard } l H v := fun a w hs' _ => by
  unfold execOp
  simp only [hs'.ev hx]
  rfl

/-- A part of a block, told by a function. -/
theorem Yi.loadP {x : Operand} {t t' : TypeId} {i b j m nn : Nat} {f : Nat → Int} (hx : ev l x = some (.pointer (some ⟨b, j, none⟩))) (hi : H[i]? = some (.blk b t' (cf nn (iv f))))
    (hg : ∀ w, (isAgg t).run P w = .ok true w) (hs : ∀ w, (sizeOf t).run P w = .ok m w) (hj : j + m ≤ nn) :
    Yi P n w0 S { dst, op := .load t x, type := ty, pos, after, guard } l H (.agg (cf m (iv (shf f j)))) := by
  have := Yi.loadA (P := P) (n := n) (w0 := w0) (S := S) (l := l) (H := H) (dst := dst) (ty := ty) (pos := pos) (after := after) (guard := guard) hx hi hg hs (by rw [cf_size]; exact hj)
  rwa [cf_extract hj, iv_shf] at this

theorem run_storeCells_at (b : Nat) (t : TypeId) : ∀ (vs : List Value) (j k : Nat) (cs : Array Value) (w : World), w.heap[b]? = some (.cells cs t (0, 0)) → j + k + vs.length ≤ cs.size → (∀ v ∈ vs, v.oneCell' = true) →
    ∃ cs' : Array Value, (storeCells ⟨b, j, none⟩ vs k).run P w = .ok () (w.setRow b cs') ∧ cs'.size = cs.size ∧ ∀ i, cs'[i]? = if j + k ≤ i ∧ i < j + k + vs.length then vs[i - (j + k)]? else cs[i]?
  | [], j, k, cs, w, hb, _, _ => by
    refine ⟨cs, ?_, rfl, fun i => by rw [if_neg (by simp only [List.length_nil]; omega)]⟩
    have e : (w.setRow b cs).heap = w.heap := by
      apply Array.ext_getElem?
      intro i
      by_cases h : i = b
      · subst h; rw [setRow_heap w i cs cs t _ hb, hb]
      · exact setRow_other w b i cs h
    have this : w.setRow b cs = w := by
      show { w with heap := (w.setRow b cs).heap } = w
      rw [e]
    rw [this]
    simp [storeCells]
  | v :: vs, j, k, cs, w, hb, hle, h1 => by
    simp only [List.length_cons] at hle
    have hjk : j + k < cs.size := by omega
    have hc : w.cell? ⟨b, j + k, none⟩ = some cs[j + k] := by rw [cell_of_row w b (j + k) cs t (0, 0) hb]; simp [hjk]
    have hf : w.frozen? ⟨b, j + k, none⟩ = false := frozen_of_row w b (j + k) cs t hb
    have ho := h1 v (by simp)
    have hst : (store (⟨b, j + k, none⟩ : Addr) v).run P w = .ok () (w.setCell ⟨b, j + k, none⟩ v) := by
      cases v <;> first | (simp [Value.oneCell'] at ho; done) | simp [store, Sem.run, hc, hf]
    have hb' := heap_setCell_same w b (j + k) cs t v hb
    obtain ⟨cs', hr, hsz, hget⟩ := run_storeCells_at b t vs j (k + 1) (cs.setIfInBounds (j + k) v) _ hb' (by simp; omega) (fun u hu => h1 u (by simp [hu]))
    refine ⟨cs', ?_, by rw [hsz]; simp, fun i => ?_⟩
    · unfold storeCells
      simp only [add_none, Sem.run_bind, hst, Result.andThen_ok, hr]
      congr 1
      unfold World.setRow World.setCell
      congr 1
      apply Array.ext_getElem?
      intro i
      simp only [Array.getElem?_modify]
      by_cases h : b = i
      · subst h; simp [hb]
      · simp [h]
    · rw [hget i, Array.getElem?_setIfInBounds]
      by_cases h : j + k = i
      · subst h
        rw [if_neg (by omega), if_pos rfl, if_pos (by simpa using hjk), if_pos (by simp)]
        simp
      · rw [if_neg h]
        by_cases h2 : j + (k + 1) ≤ i ∧ i < j + (k + 1) + vs.length
        · rw [if_pos h2, if_pos (by simp; omega)]
          rw [show i - (j + k) = (i - (j + (k + 1))) + 1 by omega]
          simp
        · rw [if_neg h2, if_neg (by simp; omega)]

theorem cf_wrt {nn m j : Nat} {g g' : Nat → Value} {cs' : Array Value} (h : j + m ≤ nn) (_ : cs'.size = (cf nn g).size)
    (hget : ∀ i, cs'[i]? = if j ≤ i ∧ i < j + m then (cf m g')[i - j]? else (cf nn g)[i]?) : cs' = cf nn (wrt g j m g') := by
  apply Array.ext_getElem?
  intro i
  rw [hget i]
  by_cases hi : i < nn
  · rw [cf_get (g := wrt g j m g') hi]
    unfold wrt
    by_cases h2 : j ≤ i ∧ i < j + m
    · rw [if_pos h2, cf_get (by omega)]
      have : (Nat.ble j i && Nat.blt i (j + m)) = true := by simp [Nat.blt]; omega
      rw [this]; rfl
    · rw [if_neg h2, cf_get hi]
      have : (Nat.ble j i && Nat.blt i (j + m)) = false := by
        rw [Bool.eq_false_iff]; intro hh; simp [Nat.blt] at hh; omega
      rw [this]; rfl
  · rw [if_neg (by omega), Array.getElem?_eq_none (by rw [cf_size]; omega), Array.getElem?_eq_none (by rw [cf_size]; omega)]

/-- A part of a block written. -/
theorem RW.storeP {x y : Operand} {t t' : TypeId} {i b j m nn : Nat} {f g : Nat → Int} (hg : wantedIn ops l guard = some true) (hx : ev l x = some (.pointer (some ⟨b, j, none⟩))) (hy : ev l y = some (.agg (cf m (iv g))))
    (hi : H[i]? = some (.blk b t' (cf nn (iv f)))) (hs : ∀ w, (sizeOf t).run P w = .ok m w) (hj : j + m ≤ nn)
    (h : RW P n w0 S ops Q rest l (H.set i (.blk b t' (cf nn (iv (wrt f j m g)))))) :
    RW P n w0 S ops Q ({ dst := none, op := .store t x y, type := ty, pos, after, guard } :: rest) l H := fun a w hs' hm => by
  unfold wpList
  rw [if_pos (wanted_of hs' hg)]
  refine .inl ?_
  unfold Oper.wp
  obtain ⟨cs', hr, hsz, hget⟩ := run_storeCells_at (P := P) b t' (cf m (iv g)).toList j 0 _ w (hm.at hi) (by rw [cf_size]; simp [cf_size]; omega) (fun v hv => (Array.all_eq_true_iff_forall_mem.1 (iv_one m g)) v (by simpa using hv))
  have hcs : cs' = cf nn (wrt (iv f) j m (iv g)) := cf_wrt hj hsz (fun k => by
    rw [hget k]
    simp only [Nat.add_zero, Array.length_toList, cf_size, Array.getElem?_toList])
  rw [iv_wrt] at hcs
  subst hcs
  have he : (execOp a.eval { dst := none, op := .store t x y, type := ty, pos, after, guard }).run P w = .ok .skip (w.setRow b (cf nn (iv (wrt f j m g)))) := by
    simp [execOp, Instr.storeAt, Instr.sureAddr, hs'.ev hx, hs'.ev hy, storeVar, hs, Value.cells, cf_size, hr, Result.andThen]
  rw [he]
  exact h _ _ hs' (hm.setRow hi _)
end
end Go.Proofs.Ytoepbakbpimkiaa.K
