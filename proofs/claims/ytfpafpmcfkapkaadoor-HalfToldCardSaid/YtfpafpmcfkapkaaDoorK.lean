import Derived.WalkKit
import Derived.Deep.Quiet
import Derived.KernelRfl
import Derived.Laws.Rows
import Derived.Laws.Tables
/-! K: a small layer over the walk's rules: a frame is a list of slots that are known, memory is a list of blocks that are known. -/
namespace Go.Proofs.YtfpafpmcfkapkaaDoor.K
open Go Go.RowKit

/-! ## frames -/
def lk : List (Nat × Value) → Nat → Option Value
  | [], _ => none
  | p :: r, j => cond (Nat.beq p.1 j) (some p.2) (lk r j)

def ev (l : List (Nat × Value)) : Operand → Option Value
  | .tmp t => lk l t
  | .const v => some v
  | .global g => some (.pointer (some ⟨g, 0, none⟩))
  | .func f => some (.func (.func f) #[] #[])

def evs (l : List (Nat × Value)) : List Operand → Option (List Value)
  | [] => some []
  | x :: r => match ev l x, evs l r with
    | some v, some vs => some (v :: vs)
    | _, _ => none

structure St (n : Nat) (l : List (Nat × Value)) (a : Act) : Prop where
  size : a.tmps.size = n
  defers : a.defers = []
  get : ∀ j v, lk l j = some v → a.tmps[j]? = some v

theorem St.ev {n : Nat} {l : List (Nat × Value)} {a : Act} {x : Operand} {v : Value} (h : St n l a) (hx : ev l x = some v) : a.eval x = v := by
  cases x with
  | tmp t => have := h.get t v hx; simp [Act.eval, this]
  | const c => simpa [K.ev, Act.eval] using hx
  | global g => simpa [K.ev, Act.eval] using hx
  | func f => simpa [K.ev, Act.eval] using hx

theorem St.evs {n : Nat} {l : List (Nat × Value)} {a : Act} (h : St n l a) : ∀ {xs : List Operand} {vs : List Value}, evs l xs = some vs → xs.map a.eval = vs
  | [], vs, hx => by simpa [K.evs] using hx
  | x :: r, vs, hx => by
    unfold K.evs at hx
    cases h1 : K.ev l x with
    | none => simp [h1] at hx
    | some v =>
      cases h2 : K.evs l r with
      | none => simp [h1, h2] at hx
      | some vs' =>
        simp [h1, h2] at hx
        subst hx
        simp [h.ev h1, St.evs h h2]

theorem St.put {n : Nat} {l : List (Nat × Value)} {a : Act} {d : Nat} {v : Value} (h : St n l a) (hd : Nat.ble n d = false) : St n ((d, v) :: l) (a.put (some d) v) := by
  have hd' : d < n := by
    rcases Nat.lt_or_ge d n with h | h
    · exact h
    · rw [Nat.ble_eq_true_of_le h] at hd; cases hd
  refine ⟨by simp [Act.put, h.size], by simp [Act.put, h.defers], fun j u hj => ?_⟩
  unfold lk at hj
  cases e : Nat.beq d j with
  | true =>
    have e' : d = j := Nat.eq_of_beq_eq_true e
    subst e'
    simp at hj
    subst hj
    simp [Act.put, h.size, hd']
  | false =>
    have e' : d ≠ j := Nat.ne_of_beq_eq_false e
    simp [e] at hj
    have := h.get j u hj
    simp [Act.put, e', this]

theorem St.putNone {n : Nat} {l : List (Nat × Value)} {a : Act} {v : Value} (h : St n l a) : St n l (a.put none v) := h

def Sub (l : List (Nat × Value)) : List (Nat × Value) → Prop
  | [] => True
  | p :: r => lk l p.1 = some p.2 ∧ Sub l r

theorem lk_of_sub {l : List (Nat × Value)} : ∀ {l' : List (Nat × Value)}, Sub l l' → ∀ j v, lk l' j = some v → lk l j = some v
  | [], _, j, v, h => by simp [lk] at h
  | p :: r, hs, j, v, h => by
    unfold lk at h
    cases e : Nat.beq p.1 j with
    | true =>
      have e' : p.1 = j := Nat.eq_of_beq_eq_true e
      simp [e] at h
      subst h; subst e'
      exact hs.1
    | false =>
      simp [e] at h
      exact lk_of_sub hs.2 j v h

theorem St.sub {n : Nat} {l l' : List (Nat × Value)} {a : Act} (h : St n l a) (hs : Sub l l') : St n l' a :=
  ⟨h.size, h.defers, fun j v hj => h.get j v (lk_of_sub hs j v hj)⟩

/-- What a frame holds as the call begins. -/
def ini : Nat → List Value → List (Nat × Value)
  | _, [] => []
  | i, v :: r => (i, v) :: ini (i + 1) r

theorem lk_ini : ∀ (vs : List Value) (i j : Nat) (v : Value), lk (ini i vs) j = some v → i ≤ j ∧ vs[j - i]? = some v
  | [], i, j, v, h => by simp [ini, lk] at h
  | u :: r, i, j, v, h => by
    unfold ini lk at h
    cases e : Nat.beq i j with
    | true =>
      have e' : i = j := Nat.eq_of_beq_eq_true e
      simp [e] at h
      subst e'; subst h
      simp
    | false =>
      have e' : i ≠ j := Nat.ne_of_beq_eq_false e
      simp [e] at h
      obtain ⟨h1, h2⟩ := lk_ini r (i + 1) j v h
      refine ⟨by omega, ?_⟩
      rw [show j - i = (j - (i + 1)) + 1 by omega]
      simpa using h2

theorem St.begin (args : List Value) (n : Nat) (h : Nat.ble args.length n = true) :
    St n (ini 0 args) { tmps := args.toArray ++ Array.replicate (n - args.toArray.size) undef, defers := [] } := by
  have h' : args.length ≤ n := Nat.le_of_ble_eq_true h
  refine ⟨by simp; omega, rfl, fun j v hj => ?_⟩
  obtain ⟨_, h2⟩ := lk_ini args 0 j v hj
  simp only [Nat.sub_zero] at h2
  have hlt : j < args.length := by
    rcases Nat.lt_or_ge j args.length with h | h
    · exact h
    · rw [List.getElem?_eq_none h] at h2; cases h2
  rw [Array.getElem?_append_left (by simpa using hlt)]
  simpa using h2

/-! ## memory -/
inductive Ent where
  | blk (b : Nat) (t : TypeId) (cs : Array Value)
  | row (v : Value) (e : TypeId) (sz n : Nat) (cs : List Value)

def Ent.owns : Ent → Nat → Prop
  | .blk b _ _, k => k = b
  | .row v _ _ _ _, k => v.ownBlock = some k

def Ent.ok (B : Nat) (w : World) : Ent → Prop
  | .blk b t cs => w.heap[b]? = some (.cells cs t (0, 0))
  | .row v e sz n cs => w.ownsRow B e sz v n cs

theorem lt_of_heap {w : World} {b : Nat} {o : Obj} (h : w.heap[b]? = some o) : b < w.heap.size := (Array.getElem?_eq_some_iff.1 h).1

theorem Ent.lt {B : Nat} {w : World} {e : Ent} (h : e.ok B w) {k : Nat} (hk : e.owns k) : k < w.heap.size := by
  cases e with
  | blk b t cs => simp only [Ent.owns] at hk; subst hk; exact lt_of_heap h
  | row v e sz n cs =>
    obtain ⟨_, h2⟩ := h
    rcases h2 with ⟨rfl, _⟩ | ⟨g, cap, cur, rfl, _, hg, _⟩
    · simp [Ent.owns, Value.ownBlock] at hk
    · simp [Ent.owns, Value.ownBlock] at hk; subst hk; exact lt_of_heap hg

theorem Ent.same {B : Nat} {w w' : World} {e : Ent} (h : e.ok B w) (hs : ∀ k, e.owns k → w'.heap[k]? = w.heap[k]?) : e.ok B w' := by
  cases e with
  | blk b t cs => exact (hs b rfl).trans h
  | row v e sz n cs =>
    obtain ⟨h1, h2⟩ := h
    refine ⟨h1, ?_⟩
    rcases h2 with h2 | ⟨g, cap, cur, rfl, hb, hg, r⟩
    · exact .inl h2
    · exact .inr ⟨g, cap, cur, rfl, hb, (hs g rfl).trans hg, r⟩

/-- From the world 'w0' of the call's begin: what is known of memory now. 'S': the blocks of before that may have been written. -/
structure Mem (w0 : World) (S : List Nat) (H : List Ent) (w : World) : Prop where
  os : w.os = w0.os
  tape : w.tape = w0.tape
  output : w.output = w0.output
  size : w0.heap.size ≤ w.heap.size
  old : ∀ k, k < w0.heap.size → k ∉ S → w.heap[k]? = w0.heap[k]?
  ok : ∀ e ∈ H, e.ok w0.heap.size w
  own : ∀ e ∈ H, ∀ k, e.owns k → k ∈ S ∨ w0.heap.size ≤ k
  apart : H.Pairwise (fun e e' => ∀ k, e.owns k → ¬ e'.owns k)

theorem Mem.begin (w0 : World) : Mem w0 [] [] w0 :=
  ⟨rfl, rfl, rfl, Nat.le_refl _, fun _ _ _ => rfl, fun _ h => by simp at h, fun _ h => by simp at h, .nil⟩

theorem Mem.below {w0 w : World} {H : List Ent} (h : Mem w0 [] H w) : Below w0.heap.size w0 w :=
  ⟨h.os, h.tape, h.output, h.size, fun k hk => h.old k hk (by simp)⟩

theorem Mem.drew {w0 w : World} {S : List Nat} {H : List Ent} (h : Mem w0 S H w) : Mem w0 S H { w with drawn := w.drawn + 1 } :=
  ⟨h.os, h.tape, h.output, h.size, h.old, fun e he => Ent.same (h.ok e he) fun _ _ => rfl, h.own, h.apart⟩

theorem Mem.after {w0 w w' : World} {S : List Nat} {H : List Ent} (h : Mem w0 S H w) (hb : Below w.heap.size w w') : Mem w0 S H w' :=
  ⟨hb.os.trans h.os, hb.tape.trans h.tape, hb.output.trans h.output, Nat.le_trans h.size hb.size,
   fun k hk hn => (hb.block k (Nat.lt_of_lt_of_le hk h.size)).trans (h.old k hk hn),
   fun e he => Ent.same (h.ok e he) fun k hk => hb.block k (Ent.lt (h.ok e he) hk), h.own, h.apart⟩

/-- Entries forgotten. -/
theorem Mem.sub {w0 w : World} {S : List Nat} {H H' : List Ent} (h : Mem w0 S H w) (hs : H'.Sublist H) : Mem w0 S H' w :=
  ⟨h.os, h.tape, h.output, h.size, h.old, fun e he => h.ok e (hs.subset he), fun e he => h.own e (hs.subset he), h.apart.sublist hs⟩

theorem Mem.alloc {w0 w : World} {S : List Nat} {H : List Ent} (h : Mem w0 S H w) (t : TypeId) (cs : Array Value) :
    Mem w0 S (.blk w.heap.size t cs :: H) { w with heap := w.heap.push (.cells cs t) } := by
  have hold : ∀ k, k < w.heap.size → (w.heap.push (.cells cs t))[k]? = w.heap[k]? := fun k hk => by
    rw [Array.getElem?_push, if_neg (Nat.ne_of_lt hk)]
  refine ⟨h.os, h.tape, h.output, by simp; exact Nat.le_succ_of_le h.size, fun k hk hn => (hold k (Nat.lt_of_lt_of_le hk h.size)).trans (h.old k hk hn), ?_, ?_, ?_⟩
  · intro e he
    rcases List.mem_cons.1 he with rfl | he
    · simp [Ent.ok]
    · exact Ent.same (h.ok e he) fun k hk => hold k (Ent.lt (h.ok e he) hk)
  · intro e he k hk
    rcases List.mem_cons.1 he with rfl | he
    · simp only [Ent.owns] at hk; subst hk; exact .inr h.size
    · exact h.own e he k hk
  · refine List.pairwise_cons.2 ⟨fun e he k hk hk' => ?_, h.apart⟩
    simp only [Ent.owns] at hk
    subst hk
    exact Nat.lt_irrefl _ (Ent.lt (h.ok e he) hk')

/-- One block written: entry number i. -/
theorem Mem.write {w0 w w' : World} {S : List Nat} {H : List Ent} (h : Mem w0 S H w) {i b : Nat} {t : TypeId} {cs cs' : Array Value}
    (hi : H[i]? = some (.blk b t cs)) (hos : w'.os = w.os) (htape : w'.tape = w.tape) (hout : w'.output = w.output) (hsz : w'.heap.size = w.heap.size)
    (hnew : w'.heap[b]? = some (.cells cs' t (0, 0))) (hoth : ∀ k, k ≠ b → w'.heap[k]? = w.heap[k]?) : Mem w0 S (H.set i (.blk b t cs')) w' := by
  have hmem : Ent.blk b t cs ∈ H := List.mem_of_getElem? hi
  have hil : i < H.length := (List.getElem?_eq_some_iff.1 hi).1
  have hiv : H[i] = .blk b t cs := (List.getElem?_eq_some_iff.1 hi).2
  have hb := h.own _ hmem b rfl
  have hne : ∀ (j : Nat) (hj : j < H.length), j ≠ i → ¬ (H[j]).owns b := fun j hj hji hk => by
    rcases Nat.lt_or_gt_of_ne hji with hlt | hlt
    · have := (List.pairwise_iff_getElem.1 h.apart) j i hj hil hlt b hk
      rw [hiv] at this; exact this rfl
    · have := (List.pairwise_iff_getElem.1 h.apart) i j hil hj hlt b (by rw [hiv]; rfl)
      exact this hk
  refine ⟨hos.trans h.os, htape.trans h.tape, hout.trans h.output, by rw [hsz]; exact h.size, fun k hk hn => ?_, fun e he => ?_, fun e he k hk => ?_, ?_⟩
  · refine (hoth k fun e => ?_).trans (h.old k hk hn)
    subst e
    rcases hb with hb | hb
    · exact hn hb
    · omega
  · obtain ⟨j, hj, hje⟩ := List.getElem_of_mem he
    have hj' : j < H.length := by simpa using hj
    rw [List.getElem_set] at hje
    by_cases hij : i = j
    · rw [if_pos hij] at hje; subst hje; exact hnew
    · rw [if_neg hij] at hje
      subst hje
      refine Ent.same (h.ok _ (List.getElem_mem hj')) fun k hk => hoth k fun e => ?_
      subst e
      exact hne j hj' (fun e => hij e.symm) hk
  · obtain ⟨j, hj, hje⟩ := List.getElem_of_mem he
    have hj' : j < H.length := by simpa using hj
    rw [List.getElem_set] at hje
    by_cases hij : i = j
    · rw [if_pos hij] at hje; subst hje; simp only [Ent.owns] at hk; subst hk; exact hb
    · rw [if_neg hij] at hje; subst hje; exact h.own _ (List.getElem_mem hj') k hk
  · rw [List.pairwise_iff_getElem]
    intro x y hx hy hxy k h1 h2
    rw [List.length_set] at hx hy
    rw [List.getElem_set] at h1 h2
    have base := (List.pairwise_iff_getElem.1 h.apart) x y hx hy hxy k
    by_cases hix : i = x
    · have hiy : i ≠ y := by omega
      rw [if_pos hix] at h1
      rw [if_neg hiy] at h2
      subst hix
      simp only [Ent.owns] at h1
      subst h1
      exact base (by rw [hiv]; rfl) h2
    · rw [if_neg hix] at h1
      by_cases hiy : i = y
      · rw [if_pos hiy] at h2
        subst hiy
        simp only [Ent.owns] at h2
        subst h2
        exact base h1 (by rw [hiv]; rfl)
      · rw [if_neg hiy] at h2
        exact base h1 h2

theorem Mem.at {w0 w : World} {S : List Nat} {H : List Ent} (h : Mem w0 S H w) {i b : Nat} {t : TypeId} {cs : Array Value} (hi : H[i]? = some (.blk b t cs)) :
    w.heap[b]? = some (.cells cs t (0, 0)) := h.ok _ (List.mem_of_getElem? hi)

theorem Mem.setCell {w0 w : World} {S : List Nat} {H : List Ent} (h : Mem w0 S H w) {i b j : Nat} {t : TypeId} {cs : Array Value} (hi : H[i]? = some (.blk b t cs)) (v : Value) :
    Mem w0 S (H.set i (.blk b t (cs.setIfInBounds j v))) (w.setCell ⟨b, j, none⟩ v) :=
  h.write hi rfl rfl rfl (by simp [World.setCell]) (heap_setCell_same w b j cs t v (h.at hi)) (fun k hk => heap_setCell_other w _ k v hk)

theorem Mem.setRow {w0 w : World} {S : List Nat} {H : List Ent} (h : Mem w0 S H w) {i b : Nat} {t : TypeId} {cs : Array Value} (hi : H[i]? = some (.blk b t cs)) (cs' : Array Value) :
    Mem w0 S (H.set i (.blk b t cs')) (w.setRow b cs') :=
  h.write hi rfl rfl rfl (by simp) (setRow_heap w b cs cs' t _ (h.at hi)) (fun k hk => setRow_other w b k cs' hk)

/-! ## the walk's goals -/
section
variable (P : Program) (n : Nat) (w0 : World) (S : List Nat)

def CW (Q : Exit → Act → World → Prop) (c : Code) (l : List (Nat × Value)) (H : List Ent) : Prop := ∀ a w, St n l a → Mem w0 S H w → c.wp P Q a w
def RW (ops : Array Oper) (Q : Exit → Act → World → Prop) (rest : List Oper) (l : List (Nat × Value)) (H : List Ent) : Prop := ∀ a w, St n l a → Mem w0 S H w → wpList P ops Q rest a w
/-- A region that draws its order, whose operations read and call. -/
def QW (ops : Array Oper) (Q : Exit → Act → World → Prop) (rest : List Oper) (l : List (Nat × Value)) (H : List Ent) : Prop :=
  ∀ a, St n l a → wpQuiet P ops (Mem w0 S H) (fun a' => ∀ w', Mem w0 S H w' → Q .normal a' w') rest a
def EW (Q : Act → World → Prop) (l : List (Nat × Value)) (H : List Ent) : Prop := ∀ a w, St n l a → Mem w0 S H w → Q a w
/-- What one operation does, in whatever world is at hand: a value. -/
def Yi (o : Oper) (l : List (Nat × Value)) (H : List Ent) (v : Value) : Prop := ∀ a w, St n l a → Mem w0 S H w → (execOp a.eval o).run P w = .ok (.value v) w
/-- .. or a call that hands back a value and leaves what is known as it was. -/
def Ca (o : Oper) (l : List (Nat × Value)) (H : List Ent) (v : Value) : Prop := ∀ a w, St n l a → Mem w0 S H w →
  ∃ f args, (execOp a.eval o).run P w = .ok (.enter f args) w ∧ Calls P f args w (fun e w' => e = .returned v ∧ Mem w0 S H w')
end

section
variable {P : Program} {n : Nat} {w0 : World} {S : List Nat} {Q : Exit → Act → World → Prop} {l : List (Nat × Value)} {H : List Ent}

theorem calls_CW {f : FuncId} {fn : Func} {c : Code} {args : List Value} {R : Ending → World → Prop} (w0 : World) (S : List Nat) (H : List Ent)
    (hf : P.funcs[f]? = some fn) (hb : fn.body = some c) (hn : fn.ntmps = n) (hle : Nat.ble args.length n = true) (hm : Mem w0 S H w0)
    (h : CW P n w0 S (bodyPost P fn R) c (ini 0 args) H) : Calls P f args.toArray w0 R := by
  refine calls_of_wp hf hb ?_
  have := h { tmps := args.toArray ++ Array.replicate (n - args.toArray.size) undef, defers := [] } w0 (St.begin args n hle) hm
  rw [hn]
  exact this

theorem CW.seq {x y : Code} (h : CW P n w0 S (Exit.then (y.wp P Q) Q) x l H) : CW P n w0 S Q (.seq x y) l H := fun a w hs hm => wp_seq (h a w hs hm)
theorem CW.join {x y : Code} (M : Act → World → Prop) (h : CW P n w0 S (Exit.then M Q) x l H) (hy : ∀ a w, M a w → y.wp P Q a w) : CW P n w0 S Q (.seq x y) l H :=
  fun a w hs hm => wp_seq (wp_mono (h a w hs hm) fun e a' w' hq => by cases e <;> first | exact hy _ _ hq | exact hq)
theorem CW.skip (h : EW n w0 S (Q .normal) l H) : CW P n w0 S Q .skip l H := fun a w hs hm => wp_skip (h a w hs hm)
theorem CW.exit {id : Nat} (h : EW n w0 S (Q (.exit id)) l H) : CW P n w0 S Q (.exit id) l H := fun a w hs hm => wp_exit (h a w hs hm)
theorem CW.ret (h : EW n w0 S (Q .ret) l H) : CW P n w0 S Q .ret l H := fun a w hs hm => wp_ret (h a w hs hm)
theorem CW.block {id : Nat} {c : Code} (h : CW P n w0 S (Exit.inBlock id Q) c l H) : CW P n w0 S Q (.block id c) l H := fun a w hs hm => wp_block (h a w hs hm)
theorem CW.region {id : Nat} {ops : List Oper} (h : RW P n w0 S ops.toArray Q ops l H) : CW P n w0 S Q (.region id ops.toArray false) l H := fun a w hs hm => wp_region_lit (h a w hs hm)
theorem CW.draws {id : Nat} {ops : List Oper} (hm : P.follows .mixedOrders = true) (hB : Region.lexB .any ops.toArray = true) (h : QW P n w0 S ops.toArray Q ops l H) :
    CW P n w0 S Q (.region id ops.toArray true) l H := fun a w hs hm' =>
  wp_region_quiet (C := Mem w0 S H) hm hB hm'.drew (by simpa using h a hs)
theorem CW.cond_true {c : Operand} {x y : Code} (hc : ev l c = some (.bool true)) (h : CW P n w0 S Q x l H) : CW P n w0 S Q (.cond c x y) l H :=
  fun a w hs hm => wp_cond_true (hs.ev hc) (h a w hs hm)
theorem CW.cond_false {c : Operand} {x y : Code} (hc : ev l c = some (.bool false)) (h : CW P n w0 S Q y l H) : CW P n w0 S Q (.cond c x y) l H :=
  fun a w hs hm => wp_cond_false (hs.ev hc) (h a w hs hm)
theorem CW.cond {c : Operand} {x y : Code} {p : Prop} [Decidable p] (hc : ev l c = some (.bool (decide p))) (h : p → CW P n w0 S Q x l H) (h' : ¬ p → CW P n w0 S Q y l H) :
    CW P n w0 S Q (.cond c x y) l H := fun a w hs hm =>
  wp_cond_split (hs.ev hc) (fun ht => h (of_decide_eq_true ht) a w hs hm) (fun ht => h' (of_decide_eq_false ht) a w hs hm)

theorem wp_loop_fuel {c : Code} (I : Nat → Act → World → Prop) (h0 : ∀ a w, ¬ I 0 a w)
    (round : ∀ k a w, I (k + 1) a w → c.wp P (Exit.then (I k) Q) a w) (k : Nat) (a : Act) (w : World) (h : I k a w) : (Code.loop c).wp P Q a w := by
  intro b ks cs
  have key : ∀ n a w, I n a w → ∃ e a' w', Q e a' w' ∧ Arrives P (lone (b.at a (.code c :: .inLoop c :: ks)) cs w) b ks cs e a' w' := by
    intro n
    induction n with
    | zero => intro a w hI; exact absurd hI (h0 a w)
    | succ n ih =>
      intro a w hI
      obtain ⟨e, a₁, w₁, hq, harr⟩ := round n a w hI b (.inLoop c :: ks) cs
      cases e with
      | normal =>
        obtain ⟨e₂, a₂, w₂, hq₂, harr₂⟩ := ih a₁ w₁ hq
        exact ⟨e₂, a₂, w₂, hq₂, .of_steps (Steps.trans harr (.one step_inLoop)) harr₂⟩
      | exit id => exact ⟨_, a₁, w₁, hq, .pass (x := .inLoop c) rfl (fun _ _ => .inl (by simp)) harr⟩
      | goto l => exact ⟨_, a₁, w₁, hq, .pass (x := .inLoop c) rfl (fun _ _ => .inl (by simp)) harr⟩
      | ret => exact ⟨_, a₁, w₁, hq, .pass (x := .inLoop c) rfl (fun _ _ => .inl (by simp)) harr⟩
      | panic ch => exact ⟨_, a₁, w₁, hq, .pass (x := .inLoop c) rfl (fun _ _ => .inl (by simp)) harr⟩
      | outgrown => exact ⟨_, a₁, w₁, hq, .pass (x := .inLoop c) rfl (fun _ _ => .inl (by simp)) harr⟩
  obtain ⟨e, a', w', hq, harr⟩ := key k a w h
  exact ⟨e, a', w', hq, .of_steps (.one step_loop) harr⟩

theorem CW.loop {c : Code} (I : Nat → Act → World → Prop) (k : Nat) (h0 : ∀ a w, ¬ I 0 a w) (hi : EW n w0 S (I k) l H)
    (round : ∀ k a w, I (k + 1) a w → c.wp P (Exit.then (I k) Q) a w) : CW P n w0 S Q (.loop c) l H :=
  fun a w hs hm => wp_loop_fuel I h0 round k a w (hi a w hs hm)

theorem RW.nil {ops : Array Oper} (h : EW n w0 S (Q .normal) l H) : RW P n w0 S ops Q [] l H := fun a w hs hm => wpList_nil (h a w hs hm)
theorem QW.nil {ops : Array Oper} (h : EW n w0 S (Q .normal) l H) : QW P n w0 S ops Q [] l H := fun a hs => wpQuiet_nil fun w' hm => h a w' hs hm

theorem EW.next {y : Code} (h : CW P n w0 S Q y l H) : EW n w0 S (Exit.then (y.wp P Q) Q .normal) l H := h
theorem EW.thn {K : Act → World → Prop} (h : EW n w0 S K l H) : EW n w0 S (Exit.then K Q .normal) l H := h
theorem EW.thx {K : Act → World → Prop} {id : Nat} (h : EW n w0 S (Q (.exit id)) l H) : EW n w0 S (Exit.then K Q (.exit id)) l H := h
theorem EW.bln {id : Nat} (h : EW n w0 S (Q .normal) l H) : EW n w0 S (Exit.inBlock id Q .normal) l H := h
theorem EW.blx {id : Nat} (h : EW n w0 S (Q .normal) l H) : EW n w0 S (Exit.inBlock id Q (.exit id)) l H := fun a w hs hm => by
  simp only [Exit.inBlock, if_true]; exact h a w hs hm
theorem EW.bly {id id' : Nat} (hne : Nat.beq id' id = false) (h : EW n w0 S (Q (.exit id')) l H) : EW n w0 S (Exit.inBlock id Q (.exit id')) l H := fun a w hs hm => by
  simp only [Exit.inBlock, if_neg (Nat.ne_of_beq_eq_false hne)]; exact h a w hs hm

/-! ### operations -/
variable {ops : Array Oper} {rest : List Oper} {dst : Option Tmp} {op : Op} {ty : TypeId} {pos : String} {after : Array Edge} {guard : Option (Nat × Bool)}

def wantedIn (ops : Array Oper) (l : List (Nat × Value)) : Option (Nat × Bool) → Option Bool
  | none => some true
  | some (j, want) =>
    match ops[j]? with
    | none => none
    | some o => match o.dst with
      | none => none
      | some d => match lk l d with
        | some (.bool b) => some (b == want)
        | some (.tuple _) => some false
        | _ => none

theorem wanted_of {a : Act} {b : Bool} (hs : St n l a) (h : wantedIn ops l guard = some b) : Region.wanted { dst, op, type := ty, pos, after, guard } (yielded ops a.tmps) = b := by
  cases guard with
  | none => simpa [wantedIn, Region.wanted] using h
  | some g =>
    obtain ⟨j, want⟩ := g
    unfold wantedIn at h
    simp only [Region.wanted]
    cases hj : ops[j]? with
    | none => simp [hj] at h
    | some o =>
      simp only [hj] at h
      cases hd : o.dst with
      | none => simp [hd] at h
      | some d =>
        simp only [hd] at h
        cases hl : lk l d with
        | none => simp [hl] at h
        | some v =>
          have hg := hs.get d v hl
          unfold yielded
          simp only [hj, Option.bind_some, hd, hg]
          cases v <;> simp [hl] at h
          · rename_i b'
            subst h
            cases b' <;> cases want <;> rfl
          · subst h; cases want <;> rfl

theorem RW.pass {d : Nat} (hg : wantedIn ops l guard = some false) (hd : Nat.ble n d = false) (h : RW P n w0 S ops Q rest ((d, undef) :: l) H) :
    RW P n w0 S ops Q ({ dst := some d, op, type := ty, pos, after, guard } :: rest) l H := fun a w hs hm => by
  unfold wpList
  rw [if_neg (by rw [wanted_of hs hg]; exact Bool.false_ne_true)]
  exact h _ w (hs.put hd) hm

theorem RW.yi {d : Nat} (v : Value) (hg : wantedIn ops l guard = some true) (hd : Nat.ble n d = false) (hy : Yi P n w0 S { dst := some d, op, type := ty, pos, after, guard } l H v)
    (h : RW P n w0 S ops Q rest ((d, v) :: l) H) : RW P n w0 S ops Q ({ dst := some d, op, type := ty, pos, after, guard } :: rest) l H := fun a w hs hm => by
  unfold wpList
  rw [if_pos (wanted_of hs hg)]
  refine .inl ?_
  unfold Oper.wp
  rw [hy a w hs hm]
  exact h _ w (hs.put hd) hm

theorem RW.ca {d : Nat} (v : Value) (hg : wantedIn ops l guard = some true) (hd : Nat.ble n d = false) (hy : Ca P n w0 S { dst := some d, op, type := ty, pos, after, guard } l H v)
    (h : RW P n w0 S ops Q rest ((d, v) :: l) H) : RW P n w0 S ops Q ({ dst := some d, op, type := ty, pos, after, guard } :: rest) l H := fun a w hs hm => by
  unfold wpList
  rw [if_pos (wanted_of hs hg)]
  refine .inl ?_
  unfold Oper.wp
  obtain ⟨f, args, he, hc⟩ := hy a w hs hm
  rw [he]
  simp only [Oper.upon]
  refine hc.mono ?_
  rintro e w' ⟨rfl, hm'⟩
  exact h _ w' (hs.put hd) hm'

theorem QW.pass {d : Nat} (hg : wantedIn ops l guard = some false) (hd : Nat.ble n d = false) (h : QW P n w0 S ops Q rest ((d, undef) :: l) H) :
    QW P n w0 S ops Q ({ dst := some d, op, type := ty, pos, after, guard } :: rest) l H := fun a hs => by
  unfold wpQuiet
  rw [if_neg (by rw [wanted_of hs hg]; exact Bool.false_ne_true)]
  exact h _ (hs.put hd)

theorem QW.yi {d : Nat} (v : Value) (hg : wantedIn ops l guard = some true) (hd : Nat.ble n d = false) (hy : Yi P n w0 S { dst := some d, op, type := ty, pos, after, guard } l H v)
    (h : QW P n w0 S ops Q rest ((d, v) :: l) H) : QW P n w0 S ops Q ({ dst := some d, op, type := ty, pos, after, guard } :: rest) l H := fun a hs => by
  unfold wpQuiet
  rw [if_pos (wanted_of hs hg)]
  refine ⟨v, fun w hm => ?_, h _ (hs.put hd)⟩
  unfold Oper.quietAt
  rw [hy a w hs hm]
  exact ⟨rfl, rfl⟩

theorem QW.ca {d : Nat} (v : Value) (hg : wantedIn ops l guard = some true) (hd : Nat.ble n d = false) (hy : Ca P n w0 S { dst := some d, op, type := ty, pos, after, guard } l H v)
    (h : QW P n w0 S ops Q rest ((d, v) :: l) H) : QW P n w0 S ops Q ({ dst := some d, op, type := ty, pos, after, guard } :: rest) l H := fun a hs => by
  unfold wpQuiet
  rw [if_pos (wanted_of hs hg)]
  refine ⟨v, fun w hm => ?_, h _ (hs.put hd)⟩
  obtain ⟨f, args, he, hc⟩ := hy a w hs hm
  unfold Oper.quietAt
  rw [he]
  exact ⟨rfl, hc⟩

/-- A truth that is not decided: both ways. -/
theorem RW.fork (d : Nat) (p : Prop) [Decidable p] (hd : lk l d = some (.bool (decide p))) (ht : p → RW P n w0 S ops Q rest ((d, .bool true) :: l) H) (hf : ¬ p → RW P n w0 S ops Q rest ((d, .bool false) :: l) H) :
    RW P n w0 S ops Q rest l H := fun a w hs hm => by
  by_cases h : p
  · refine ht h a w ⟨hs.size, hs.defers, fun j v hj => ?_⟩ hm
    unfold lk at hj
    cases e : Nat.beq d j with
    | true => have := Nat.eq_of_beq_eq_true e; subst this; simp at hj; subst hj; rw [decide_eq_true h] at hd; exact hs.get d _ hd
    | false => simp [e] at hj; exact hs.get j v hj
  · refine hf h a w ⟨hs.size, hs.defers, fun j v hj => ?_⟩ hm
    unfold lk at hj
    cases e : Nat.beq d j with
    | true => have := Nat.eq_of_beq_eq_true e; subst this; simp at hj; subst hj; rw [decide_eq_false h] at hd; exact hs.get d _ hd
    | false => simp [e] at hj; exact hs.get j v hj

theorem QW.fork (d : Nat) (p : Prop) [Decidable p] (hd : lk l d = some (.bool (decide p))) (ht : p → QW P n w0 S ops Q rest ((d, .bool true) :: l) H) (hf : ¬ p → QW P n w0 S ops Q rest ((d, .bool false) :: l) H) :
    QW P n w0 S ops Q rest l H := fun a hs => by
  by_cases h : p
  · refine ht h a ⟨hs.size, hs.defers, fun j v hj => ?_⟩
    unfold lk at hj
    cases e : Nat.beq d j with
    | true => have := Nat.eq_of_beq_eq_true e; subst this; simp at hj; subst hj; rw [decide_eq_true h] at hd; exact hs.get d _ hd
    | false => simp [e] at hj; exact hs.get j v hj
  · refine hf h a ⟨hs.size, hs.defers, fun j v hj => ?_⟩
    unfold lk at hj
    cases e : Nat.beq d j with
    | true => have := Nat.eq_of_beq_eq_true e; subst this; simp at hj; subst hj; rw [decide_eq_false h] at hd; exact hs.get d _ hd
    | false => simp [e] at hj; exact hs.get j v hj

theorem CW.fork {c : Code} (d : Nat) (p : Prop) [Decidable p] (hd : lk l d = some (.bool (decide p))) (ht : p → CW P n w0 S Q c ((d, .bool true) :: l) H) (hf : ¬ p → CW P n w0 S Q c ((d, .bool false) :: l) H) :
    CW P n w0 S Q c l H := fun a w hs hm => by
  by_cases h : p
  · refine ht h a w ⟨hs.size, hs.defers, fun j v hj => ?_⟩ hm
    unfold lk at hj
    cases e : Nat.beq d j with
    | true => have := Nat.eq_of_beq_eq_true e; subst this; simp at hj; subst hj; rw [decide_eq_true h] at hd; exact hs.get d _ hd
    | false => simp [e] at hj; exact hs.get j v hj
  · refine hf h a w ⟨hs.size, hs.defers, fun j v hj => ?_⟩ hm
    unfold lk at hj
    cases e : Nat.beq d j with
    | true => have := Nat.eq_of_beq_eq_true e; subst this; simp at hj; subst hj; rw [decide_eq_false h] at hd; exact hs.get d _ hd
    | false => simp [e] at hj; exact hs.get j v hj

end
end Go.Proofs.YtfpafpmcfkapkaaDoor.K
