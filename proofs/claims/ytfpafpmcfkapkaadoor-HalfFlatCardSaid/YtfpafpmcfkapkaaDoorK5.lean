import Derived.Test.YtfpafpmcfkapkaaDoorK4
/-! K, fifth part: a region that draws its order, whose operations may do anything: state after state. -/
namespace Go.Proofs.YtfpafpmcfkapkaaDoor.K
open Go Go.RowKit

/-- The ends of one operation's walk: on to the next state, or out. -/
def AQ (N : Act → World → Prop) (Q : Exit → Act → World → Prop) : Exit → Act → World → Prop
  | .normal => N
  | e => Q e

section
variable {P : Program} {n : Nat} {w0 : World} {S : List Nat} {Q : Exit → Act → World → Prop} {l : List (Nat × Value)} {H : List Ent} {ops : Array Oper}

theorem Oper.wp_out {o : Oper} {a : Act} {w : World} {K N : Act → World → Prop} (hh : o.wp P a w K (AQ N Q)) : o.wp P a w K Q := by
  unfold Oper.wp at *
  generalize (execOp a.eval o).run P w = r at *
  cases r with
  | ok n w' =>
    cases n <;> simp only [Oper.upon] at hh ⊢ <;>
      first
        | exact hh
        | exact Calls.mono hh (fun e w'' he => by cases e <;> exact he)
  | halt x w' => cases x <;> simp only [Oper.upon] at hh ⊢ <;> exact hh

/-- In the state 'done' all goes on well. -/
def AW (P : Program) (n : Nat) (w0 : World) (S : List Nat) (ops : Array Oper) (Q : Exit → Act → World → Prop) (f : Nat) (done : Array Bool) (l : List (Nat × Value)) (H : List Ent) : Prop :=
  ∀ a w, St n l a → Mem w0 S H w → wpAny P .any ops Q f done a w

theorem wpOp_list {i : Nat} {o : Oper} {N : Act → World → Prop} {a : Act} {w : World} (hi : ops[i]? = some o) (h : wpList P ops (AQ N Q) [o] a w) : wpOp P ops Q i N a w := by
  unfold wpOp
  simp only [hi]
  unfold wpList at h
  split at h
  · rename_i hw
    rw [if_pos hw]
    refine h.imp (fun h => Oper.wp_out h) (fun h => h)
  · rename_i hw
    rw [if_neg hw]
    exact h

def Each (p : Nat → Prop) : List Nat → Prop
  | [] => True
  | i :: is => p i ∧ Each p is
theorem Each.all {p : Nat → Prop} : ∀ {is : List Nat}, Each p is → ∀ i ∈ is, p i
  | i :: is, h, j, hj => by
    rcases List.mem_cons.1 hj with rfl | hj
    · exact h.1
    · exact h.2.all j hj

theorem AW.step {f : Nat} {done : Array Bool} (i : Nat) (is : List Nat) (hr : Region.ready .any ops done = i :: is)
    (h : Each (fun i => ∃ o, ops[i]? = some o ∧ RW P n w0 S ops (AQ (fun a w => wpAny P .any ops Q f (done.setIfInBounds i true) a w) Q) [o] l H) (i :: is)) : AW P n w0 S ops Q (f + 1) done l H := fun a w hs hm => by
  refine ⟨fun h0 => (by rw [hr] at h0; cases h0), fun j hj => ?_⟩
  rw [hr] at hj
  obtain ⟨o, ho, hR⟩ := h.all j hj
  exact wpOp_list ho (hR a w hs hm)
theorem AW.fin {done : Array Bool} (hr : Region.ready .any ops done = []) (h : EW n w0 S (Q .normal) l H) : AW P n w0 S ops Q 0 done l H := fun a w hs hm => ⟨hr, h a w hs hm⟩
theorem AW.to {f : Nat} {done done' : Array Bool} {l' : List (Nat × Value)} {H' : List Ent} (hd : done = done') (hS : ∀ a, St n l a → St n l' a) (hH : ∀ w, Mem w0 S H w → Mem w0 S H' w) (h : AW P n w0 S ops Q f done' l' H') :
    EW n w0 S (AQ (fun a w => wpAny P .any ops Q f done a w) Q .normal) l H := fun a w hs hm => by subst hd; exact h a w (hS a hs) (hH w hm)
theorem CW.any {id : Nat} {ops : List Oper} (hm : P.follows .mixedOrders = true) (h : AW P n w0 S ops.toArray Q ops.length (Array.replicate ops.length false) l H) :
    CW P n w0 S Q (.region id ops.toArray true) l H := fun a w hs hmem => wp_region_any hm (by simpa using h a _ hs hmem.drew)
theorem CW.any' {id m : Nat} {ops : Array Oper} (hm : P.follows .mixedOrders = true) (hl : ops.size = m) (h : AW P n w0 S ops Q m (Array.replicate m false) l H) :
    CW P n w0 S Q (.region id ops true) l H := fun a w hs hmem => wp_region_any hm (by subst hl; exact h a _ hs hmem.drew)
theorem AW.begin {m : Nat} (h : ∀ A : Nat → Array Bool → List (Nat × Value) → List Ent → Prop, A = AW P n w0 S ops Q → A m (Array.replicate m false) l H) : AW P n w0 S ops Q m (Array.replicate m false) l H := h _ rfl
end
/-! ## parts of arrays by value; closures that read a block -/
section
variable {P : Program} {n : Nat} {w0 : World} {S : List Nat} {l : List (Nat × Value)} {H : List Ent}
variable {dst : Option Tmp} {ty : TypeId} {pos : String} {after : Array Edge} {guard : Option (Nat × Bool)}
theorem Yi.indexP {x ix : Operand} {t e : TypeId} {len m N : Nat} {k : IntKind} {i : Int} {f : Nat → Int} (hu : P.underlying t = some (.array len e))
    (hs : ∀ w, (sizeOf e).run P w = .ok m w) (hg : ∀ w, (isAgg e).run P w = .ok true w) (hx : ev l x = some (.agg (cf N (iv f)))) (hi : ev l ix = some (.int k i))
    (h0 : 0 ≤ i) (h1 : i < (len : Int)) (hN : len * m = N) :
    Yi P n w0 S { dst, op := .index t x ix, type := ty, pos, after, guard } l H (.agg (cf m (iv (shf f (i.toNat * m))))) := by
  have h := Yi.indexA (n := n) (w0 := w0) (S := S) (H := H) (dst := dst) (ty := ty) (pos := pos) (after := after) (guard := guard) hu hs hg hx hi h0 h1
  have hle : i.toNat * m + m ≤ N := by
    have : (i.toNat + 1) * m ≤ len * m := Nat.mul_le_mul_right _ (by omega)
    rw [Nat.succ_mul] at this
    omega
  rw [cf_extract hle] at h
  exact h
theorem Ca.callC {x : Operand} {f : FuncId} {xs : List Operand} {vs cs : List Value} {ats : Array TypeId} {v : Value} (hx : ev l x = some (.func (.func f) #[] cs.toArray)) (hv : evs l xs = some vs)
    (hf : ∀ args w, (callFunc f args).run P w = .ok (.enter f args) w)
    (hc : ∀ w, Mem w0 S H w → Calls P f (vs ++ cs).toArray w (fun e w' => e = .returned v ∧ Below w.heap.size w w')) :
    Ca P n w0 S { dst, op := .call { callee := .value x, args := xs.toArray, argTypes := ats }, type := ty, pos, after, guard } l H v := fun a w hs hm => by
  have e1 : xs.toArray.map a.eval = vs.toArray := by apply Array.ext'; simpa using hs.evs hv
  refine ⟨f, (vs ++ cs).toArray, ?_, (hc w hm).mono fun e w' ⟨he, hb⟩ => ⟨he, hm.after hb⟩⟩
  simp [execOp, resolve, hs.ev hx, Deferred.ofValue, invoke, e1, hf]
theorem Gl.cons {G : List (Nat × Nat × (Nat → Value))} {w : World} {i b m : Nat} {t : TypeId} {g : Nat → Value} (hG : Gl G w) (hm : Mem w0 S H w) (hi : H[i]? = some (.blk b t (cf m g))) : Gl ((b, m, g) :: G) w := fun p hp j hj => by
  rcases List.mem_cons.1 hp with rfl | hp
  · have := hm.at hi
    simp only [World.cell?, this]
    exact cf_get hj
  · exact hG p hp j hj
theorem Gl.tail {G : List (Nat × Nat × (Nat → Value))} {w : World} {p : Nat × Nat × (Nat → Value)} (hG : Gl (p :: G) w) : Gl G w := fun q hq => hG q (List.mem_cons_of_mem _ hq)
end
end Go.Proofs.YtfpafpmcfkapkaaDoor.K
