import Derived.Test.YtoepbakbpimkiaaN4
import Derived.OrdersHeld
import Derived.Scope
/-! N, fifth part: a region that draws its order, whose operations may do anything: what hangs on nothing that is turned is taken first, the rest state after state. -/
namespace Go.Proofs.Ytoepbakbpimkiaa.K
open Go Go.RowKit

/-- The ends of a region that always ends as it should. -/
def NQ (Q : Exit → Act → World → Prop) : Exit → Act → World → Prop
  | .normal, a, w => Q .normal a w
  | _, _, _ => False
theorem NQ.imp {Q : Exit → Act → World → Prop} : ∀ e a w, NQ Q e a w → Q e a w
  | .normal, _, _, h => h
  | .exit _, _, _, h => h.elim
  | .goto _, _, _, h => h.elim
  | .ret, _, _, h => h.elim
  | .panic _, _, _, h => h.elim
  | .outgrown, _, _, h => h.elim

/-- What stays known whatever comes up. -/
def Keep (H0 : List Ent) (w : World) : Prop := H0.Pairwise Apart ∧ ∀ e ∈ H0, e.ok 0 w
theorem Keep.mem {H0 : List Ent} {w : World} (h : Keep H0 w) : Mem w (blocksOf H0, blocksOf H0) H0 w :=
  ⟨rfl, rfl, rfl, Nat.le_refl _, fun _ _ _ => rfl, h.2, fun e he _ hk => .inl (mem_blocksOf.2 ⟨e, he, hk⟩), h.1⟩

/-- The ends of one operation's walk: on to the next state, or out. -/
def AQ (N : Act → World → Prop) (Q : Exit → Act → World → Prop) : Exit → Act → World → Prop
  | .normal => N
  | e => Q e

section
variable {P : Program} {n : Nat} {w0 : World} {S : Own} {Q : Exit → Act → World → Prop} {l : List (Nat × Value)} {H : List Ent} {ops : Array Oper} {H0 : List Ent}

theorem Mem.keep {w : World} (h : Mem w0 S H w) (r : List Nat) (hr : okIdx H r = true) (hH : pickE H r = H0) : Keep H0 w :=
  have h' := h.pick r hr hH
  ⟨h'.apart, h'.ok⟩

theorem Oper.wp_out {o : Oper} {a : Act} {w : World} {K N : Act → World → Prop} (hh : o.wp P a w K (AQ N Q)) : o.wp P a w K Q := by
  unfold Oper.wp at *
  generalize (execOp a.eval o).run P w = r at *
  cases r with
  | ok n w' =>
    cases n <;> simp only [Oper.upon] at hh ⊢ <;>
      first
        | exact hh
        | exact Calls.mono hh (fun e w'' he => by cases e <;> exact he)
  | halt x w' => cases x <;> simp only [Oper.upon] at hh ⊢ <;> exact hh

/-- In the state 'done' all goes on well. -/
def AW (P : Program) (n : Nat) (w0 : World) (S : Own) (ops : Array Oper) (Q : Exit → Act → World → Prop) (H0 : List Ent) (f : Nat) (done : Array Bool) (l : List (Nat × Value)) (H : List Ent) : Prop :=
  ∀ a w, St n l a → Mem w0 S H w → wpAnyH P .any ops (NQ Q) (Keep H0) f done a w

theorem wpOp_list {i : Nat} {o : Oper} {N : Act → World → Prop} {a : Act} {w : World} (hi : ops[i]? = some o) (h : wpList P ops (AQ N Q) [o] a w) : wpOp P ops Q i N a w := by
  unfold wpOp
  simp only [hi]
  unfold wpList at h
  split at h
  · rename_i hw
    rw [if_pos hw]
    refine h.imp (fun h => Oper.wp_out h) (fun h => h)
  · rename_i hw
    rw [if_neg hw]
    exact h

def Each (p : Nat → Prop) : List Nat → Prop
  | [] => True
  | i :: is => p i ∧ Each p is
theorem Each.all {p : Nat → Prop} : ∀ {is : List Nat}, Each p is → ∀ i ∈ is, p i
  | i :: is, h, j, hj => by
    rcases List.mem_cons.1 hj with rfl | hj
    · exact h.1
    · exact h.2.all j hj
/-- Behind one operation. -/
def AN (P : Program) (ops : Array Oper) (Q : Exit → Act → World → Prop) (H0 : List Ent) (f : Nat) (done : Array Bool) (a : Act) (w : World) : Prop := Keep H0 w ∧ wpAnyH P .any ops (NQ Q) (Keep H0) f done a w

theorem AW.step {f : Nat} {done : Array Bool} (i : Nat) (is : List Nat) (hr : Region.ready .any ops done = i :: is)
    (h : Each (fun i => ∃ o, ops[i]? = some o ∧ RW P n w0 S ops (AQ (AN P ops Q H0 f (done.setIfInBounds i true)) (NQ Q)) [o] l H) (i :: is)) : AW P n w0 S ops Q H0 (f + 1) done l H := fun a w hs hm => by
  refine ⟨fun h0 => (by rw [hr] at h0; cases h0), fun j hj => ?_⟩
  rw [hr] at hj
  obtain ⟨o, ho, hR⟩ := h.all j hj
  exact wpOp_list ho (hR a w hs hm)
theorem AW.fin {done : Array Bool} (hr : Region.ready .any ops done = []) (h : EW n w0 S (Q .normal) l H) : AW P n w0 S ops Q H0 0 done l H := fun a w hs hm => ⟨hr, h a w hs hm⟩
/-- On to the next state. -/
theorem AW.on {f : Nat} {done done' : Array Bool} (hd : done = done') (r : List Nat) (hr : okIdx H r = true) (hH : pickE H r = H0) (h : AW P n w0 S ops Q H0 f done' l H) :
    EW n w0 S (AQ (AN P ops Q H0 f done) (NQ Q) .normal) l H := fun a w hs hm => by subst hd; exact ⟨hm.keep r hr hH, h a w hs hm⟩
/-- An operation that hangs on nothing that is turned. -/
theorem AW.take {f : Nat} {done done' : Array Bool} (i : Nat) {o : Oper} {d : Nat} (v : Value) (r : List Nat) (hs : Region.noSelect ops = true) (hi : ops[i]? = some o) (hod : o.dst = some d) (hd : Nat.ble n d = false) (hf : Region.free .any ops done i = true)
    (hc : (Region.ready .any ops done).contains i = true) (hg : wantedIn ops l o.guard = some true) (hr : okIdx H r = true) (hH : pickE H r = H0) (hdone : done.setIfInBounds i true = done')
    (hy : ∀ w0 S, Yi P n w0 S o l H0 v) (h : AW P n w0 S ops Q H0 f done' ((d, v) :: l) H) : AW P n w0 S ops Q H0 (f + 1) done l H := fun a w hst hm => by
  subst hdone
  refine wpAnyH_take hi hs hf hc (fun _ _ _ h => h.elim) (v := v) (.inl ⟨wanted_of (guard := o.guard) (dst := o.dst) (op := o.op) (ty := o.type) (pos := o.pos) (after := o.after) hst hg, fun w' hk => hy _ _ a w' hst hk.mem⟩) (hm.keep r hr hH) ?_
  rw [hod]
  exact h _ w (hst.put hd) hm
theorem AW.pass {f : Nat} {done done' : Array Bool} (i : Nat) {o : Oper} {d : Nat} (r : List Nat) (hs : Region.noSelect ops = true) (hi : ops[i]? = some o) (hod : o.dst = some d) (hd : Nat.ble n d = false) (hf : Region.free .any ops done i = true)
    (hc : (Region.ready .any ops done).contains i = true) (hg : wantedIn ops l o.guard = some false) (hr : okIdx H r = true) (hH : pickE H r = H0) (hdone : done.setIfInBounds i true = done')
    (h : AW P n w0 S ops Q H0 f done' ((d, undef) :: l) H) : AW P n w0 S ops Q H0 (f + 1) done l H := fun a w hst hm => by
  subst hdone
  refine wpAnyH_take hi hs hf hc (fun _ _ _ h => h.elim) (v := undef) (.inr ⟨wanted_of (guard := o.guard) (dst := o.dst) (op := o.op) (ty := o.type) (pos := o.pos) (after := o.after) hst hg, rfl⟩) (hm.keep r hr hH) ?_
  rw [hod]
  exact h _ w (hst.put hd) hm
theorem AW.to {f : Nat} {done : Array Bool} {l' : List (Nat × Value)} {H' : List Ent} (r : List Nat) (hr : okIdx H r = true) (hH : pickE H r = H') (hl : Sub l l') (h : AW P n w0 S ops Q H0 f done l' H') : AW P n w0 S ops Q H0 f done l H := fun a w hs hm => h a w (hs.sub hl) (hm.pick r hr hH)
theorem AW.conv {f : Nat} {done : Array Bool} {H' : List Ent} (g : ∀ w, Mem w0 S H w → Mem w0 S H' w) (h : AW P n w0 S ops Q H0 f done l H') : AW P n w0 S ops Q H0 f done l H := fun a w hs hm => h a w hs (g w hm)
theorem AW.fork {f : Nat} {done : Array Bool} (d : Nat) (p : Prop) [Decidable p] (hd : lk l d = some (.bool (decide p))) (ht : p → AW P n w0 S ops Q H0 f done ((d, .bool true) :: l) H) (hf : ¬ p → AW P n w0 S ops Q H0 f done ((d, .bool false) :: l) H) :
    AW P n w0 S ops Q H0 f done l H := fun a w hs hm => by
  by_cases h : p
  · exact ht h a w (hs.forkB hd (decide_eq_true h)) hm
  · exact hf h a w (hs.forkB hd (decide_eq_false h)) hm
theorem AW.forkB {f : Nat} {done : Array Bool} (d : Nat) (b : Bool) (hd : lk l d = some (.bool b)) (ht : b = true → AW P n w0 S ops Q H0 f done ((d, .bool true) :: l) H) (hf : ¬ b = true → AW P n w0 S ops Q H0 f done ((d, .bool false) :: l) H) :
    AW P n w0 S ops Q H0 f done l H := fun a w hs hm => by
  cases b with
  | true => exact ht rfl a w (hs.forkB hd rfl) hm
  | false => exact hf (by decide) a w (hs.forkB hd rfl) hm
theorem CW.held {id m : Nat} {ops : Array Oper} (H0 : List Ent) (hm : P.follows .mixedOrders = true) (hl : ops.size = m) (hs : Region.noSelect ops = true)
    (h : ∀ A : Nat → Array Bool → List (Nat × Value) → List Ent → Prop, A = AW P n w0 S ops Q H0 → Region.noSelect ops = true → A m (Array.replicate m false) l H) :
    CW P n w0 S Q (.region id ops true) l H := fun a w hst hmem => by
  subst hl
  exact wp_mono (wp_region_held hm (h _ rfl hs a _ hst hmem.drew)) NQ.imp
theorem CW.scope {c : Code} (h : CW P n w0 S (Exit.noGoto Q) c l H) : CW P n w0 S Q (.scope c) l H := fun a w hs hm => wp_scope_straight (h a w hs hm)
theorem CW.label {k : Nat} (h : EW n w0 S (Q .normal) l H) : CW P n w0 S Q (.label k) l H := fun a w hs hm => wp_label (h a w hs hm)
theorem EW.ngn (h : EW n w0 S (Q .normal) l H) : EW n w0 S (Exit.noGoto Q .normal) l H := h
theorem EW.ngr (h : EW n w0 S (Q .ret) l H) : EW n w0 S (Exit.noGoto Q .ret) l H := h
theorem EW.ngx {id : Nat} (h : EW n w0 S (Q (.exit id)) l H) : EW n w0 S (Exit.noGoto Q (.exit id)) l H := h
end
/-! ## parts of arrays by value -/
section
variable {P : Program} {n : Nat} {w0 : World} {S : Own} {l : List (Nat × Value)} {H : List Ent}
variable {dst : Option Tmp} {ty : TypeId} {pos : String} {after : Array Edge} {guard : Option (Nat × Bool)}
theorem Yi.indexP {x ix : Operand} {t e : TypeId} {len m N : Nat} {k : IntKind} {i : Int} {f : Nat → Int} (hu : P.underlying t = some (.array len e))
    (hs : ∀ w, (sizeOf e).run P w = .ok m w) (hg : ∀ w, (isAgg e).run P w = .ok true w) (hx : ev l x = some (.agg (cf N (iv f)))) (hi : ev l ix = some (.int k i))
    (h0 : 0 ≤ i) (h1 : i < (len : Int)) (hN : len * m = N) :
    Yi P n w0 S { dst, op := .index t x ix, type := ty, pos, after, guard } l H (.agg (cf m (iv (shf f (i.toNat * m))))) := by
  have h := Yi.indexA (n := n) (w0 := w0) (S := S) (H := H) (dst := dst) (ty := ty) (pos := pos) (after := after) (guard := guard) hu hs hg hx hi h0 h1
  have hle : i.toNat * m + m ≤ N := by
    have : (i.toNat + 1) * m ≤ len * m := Nat.mul_le_mul_right _ (by omega)
    rw [Nat.succ_mul] at this
    omega
  rw [cf_extract hle] at h
  exact h
end
end Go.Proofs.Ytoepbakbpimkiaa.K
