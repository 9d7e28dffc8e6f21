import Derived.Test.YtplfcapahmjmgaaDoorK4
/-! K, fifth part: a region that draws its order, whose operations may do anything: state after state. -/
namespace Go.Proofs.YtplfcapahmjmgaaDoor.K
open Go Go.RowKit

/-- The ends of one operation's walk: on to the next state, or out. -/
def AQ (N : Act → World → Prop) (Q : Exit → Act → World → Prop) : Exit → Act → World → Prop
  | .normal => N
  | e => Q e

section
variable {P : Program} {n : Nat} {w0 : World} {S : List Nat} {Q : Exit → Act → World → Prop} {l : List (Nat × Value)} {H : List Ent} {ops : Array Oper}

theorem Oper.wp_out {o : Oper} {a : Act} {w : World} {K N : Act → World → Prop} (hh : o.wp P a w K (AQ N Q)) : o.wp P a w K Q := by
  unfold Oper.wp at *
  generalize (execOp a.eval o).run P w = r at *
  cases r with
  | ok n w' =>
    cases n <;> simp only [Oper.upon] at hh ⊢ <;>
      first
        | exact hh
        | exact Calls.mono hh (fun e w'' he => by cases e <;> exact he)
  | halt x w' => cases x <;> simp only [Oper.upon] at hh ⊢ <;> exact hh

/-- In the state 'done' all goes on well. -/
def AW (P : Program) (n : Nat) (w0 : World) (S : List Nat) (ops : Array Oper) (Q : Exit → Act → World → Prop) (f : Nat) (done : Array Bool) (l : List (Nat × Value)) (H : List Ent) : Prop :=
  ∀ a w, St n l a → Mem w0 S H w → wpAny P .any ops Q f done a w

theorem wpOp_list {i : Nat} {o : Oper} {N : Act → World → Prop} {a : Act} {w : World} (hi : ops[i]? = some o) (h : wpList P ops (AQ N Q) [o] a w) : wpOp P ops Q i N a w := by
  unfold wpOp
  simp only [hi]
  unfold wpList at h
  split at h
  · rename_i hw
    rw [if_pos hw]
    refine h.imp (fun h => Oper.wp_out h) (fun h => h)
  · rename_i hw
    rw [if_neg hw]
    exact h

def Each (p : Nat → Prop) : List Nat → Prop
  | [] => True
  | i :: is => p i ∧ Each p is
theorem Each.all {p : Nat → Prop} : ∀ {is : List Nat}, Each p is → ∀ i ∈ is, p i
  | i :: is, h, j, hj => by
    rcases List.mem_cons.1 hj with rfl | hj
    · exact h.1
    · exact h.2.all j hj

theorem AW.step {f : Nat} {done : Array Bool} (i : Nat) (is : List Nat) (hr : Region.ready .any ops done = i :: is)
    (h : Each (fun i => ∃ o, ops[i]? = some o ∧ RW P n w0 S ops (AQ (fun a w => wpAny P .any ops Q f (done.setIfInBounds i true) a w) Q) [o] l H) (i :: is)) : AW P n w0 S ops Q (f + 1) done l H := fun a w hs hm => by
  refine ⟨fun h0 => (by rw [hr] at h0; cases h0), fun j hj => ?_⟩
  rw [hr] at hj
  obtain ⟨o, ho, hR⟩ := h.all j hj
  exact wpOp_list ho (hR a w hs hm)
theorem AW.fin {done : Array Bool} (hr : Region.ready .any ops done = []) (h : EW n w0 S (Q .normal) l H) : AW P n w0 S ops Q 0 done l H := fun a w hs hm => ⟨hr, h a w hs hm⟩
theorem AW.to {f : Nat} {done done' : Array Bool} {l' : List (Nat × Value)} {H' : List Ent} (hd : done = done') (hS : ∀ a, St n l a → St n l' a) (hH : ∀ w, Mem w0 S H w → Mem w0 S H' w) (h : AW P n w0 S ops Q f done' l' H') :
    EW n w0 S (AQ (fun a w => wpAny P .any ops Q f done a w) Q .normal) l H := fun a w hs hm => by subst hd; exact h a w (hS a hs) (hH w hm)
theorem CW.any {id : Nat} {ops : List Oper} (hm : P.follows .mixedOrders = true) (h : AW P n w0 S ops.toArray Q ops.length (Array.replicate ops.length false) l H) :
    CW P n w0 S Q (.region id ops.toArray true) l H := fun a w hs hmem => wp_region_any hm (by simpa using h a _ hs hmem.drew)
theorem CW.any' {id m : Nat} {ops : Array Oper} (hm : P.follows .mixedOrders = true) (hl : ops.size = m) (h : AW P n w0 S ops Q m (Array.replicate m false) l H) :
    CW P n w0 S Q (.region id ops true) l H := fun a w hs hmem => wp_region_any hm (by subst hl; exact h a _ hs hmem.drew)
theorem AW.begin {m : Nat} (h : ∀ A : Nat → Array Bool → List (Nat × Value) → List Ent → Prop, A = AW P n w0 S ops Q → A m (Array.replicate m false) l H) : AW P n w0 S ops Q m (Array.replicate m false) l H := h _ rfl
end
end Go.Proofs.YtplfcapahmjmgaaDoor.K
