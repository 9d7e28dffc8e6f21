import Derived.WalkKit
import Derived.Deep.Quiet
import Derived.KernelRfl
import Derived.Laws.Rows
import Derived.Laws.Tables
/-! N1: a small layer over the walk's rules: a frame is a list of slots that are known, memory is a list of blocks that are known. -/
namespace Go.Proofs.Ytoepbakbpimkiaa.K
open Go Go.RowKit

/-! ## frames -/
def lk : List (Nat × Value) → Nat → Option Value
  | [], _ => none
  | p :: r, j => cond (Nat.beq p.1 j) (some p.2) (lk r j)

def ev (l : List (Nat × Value)) : Operand → Option Value
  | .tmp t => lk l t
  | .const v => some v
  | .global g => some (.pointer (some ⟨g, 0, none⟩))
  | .func f => some (.func (.func f) #[] #[])

def evs (l : List (Nat × Value)) : List Operand → Option (List Value)
  | [] => some []
  | x :: r => match ev l x, evs l r with
    | some v, some vs => some (v :: vs)
    | _, _ => none

structure St (n : Nat) (l : List (Nat × Value)) (a : Act) : Prop where
  size : a.tmps.size = n
  defers : a.defers = []
  get : ∀ j v, lk l j = some v → a.tmps[j]? = some v

theorem St.ev {n : Nat} {l : List (Nat × Value)} {a : Act} {x : Operand} {v : Value} (h : St n l a) (hx : ev l x = some v) : a.eval x = v := by
  cases x with
  | tmp t => have := h.get t v hx; simp [Act.eval, this]
  | const c => simpa [K.ev, Act.eval] using hx
  | global g => simpa [K.ev, Act.eval] using hx
  | func f => simpa [K.ev, Act.eval] using hx

theorem St.evs {n : Nat} {l : List (Nat × Value)} {a : Act} (h : St n l a) : ∀ {xs : List Operand} {vs : List Value}, evs l xs = some vs → xs.map a.eval = vs
  | [], vs, hx => by simpa [K.evs] using hx
  | x :: r, vs, hx => by
    unfold K.evs at hx
    cases h1 : K.ev l x with
    | none => simp [h1] at hx
    | some v =>
      cases h2 : K.evs l r with
      | none => simp [h1, h2] at hx
      | some vs' =>
        simp [h1, h2] at hx
        subst hx
        simp [h.ev h1, St.evs h h2]

theorem St.put {n : Nat} {l : List (Nat × Value)} {a : Act} {d : Nat} {v : Value} (h : St n l a) (hd : Nat.ble n d = false) : St n ((d, v) :: l) (a.put (some d) v) := by
  have hd' : d < n := by
    rcases Nat.lt_or_ge d n with h | h
    · exact h
    · rw [Nat.ble_eq_true_of_le h] at hd; cases hd
  refine ⟨by simp [Act.put, h.size], by simp [Act.put, h.defers], fun j u hj => ?_⟩
  unfold lk at hj
  cases e : Nat.beq d j with
  | true =>
    have e' : d = j := Nat.eq_of_beq_eq_true e
    subst e'
    simp at hj
    subst hj
    simp [Act.put, h.size, hd']
  | false =>
    have e' : d ≠ j := Nat.ne_of_beq_eq_false e
    simp [e] at hj
    have := h.get j u hj
    simp [Act.put, e', this]

theorem St.putNone {n : Nat} {l : List (Nat × Value)} {a : Act} {v : Value} (h : St n l a) : St n l (a.put none v) := h

def Sub (l : List (Nat × Value)) : List (Nat × Value) → Prop
  | [] => True
  | p :: r => lk l p.1 = some p.2 ∧ Sub l r

theorem lk_of_sub {l : List (Nat × Value)} : ∀ {l' : List (Nat × Value)}, Sub l l' → ∀ j v, lk l' j = some v → lk l j = some v
  | [], _, j, v, h => by simp [lk] at h
  | p :: r, hs, j, v, h => by
    unfold lk at h
    cases e : Nat.beq p.1 j with
    | true =>
      have e' : p.1 = j := Nat.eq_of_beq_eq_true e
      simp [e] at h
      subst h; subst e'
      exact hs.1
    | false =>
      simp [e] at h
      exact lk_of_sub hs.2 j v h

theorem St.sub {n : Nat} {l l' : List (Nat × Value)} {a : Act} (h : St n l a) (hs : Sub l l') : St n l' a :=
  ⟨h.size, h.defers, fun j v hj => h.get j v (lk_of_sub hs j v hj)⟩

/-- What a frame holds as the call begins. -/
def ini : Nat → List Value → List (Nat × Value)
  | _, [] => []
  | i, v :: r => (i, v) :: ini (i + 1) r

theorem lk_ini : ∀ (vs : List Value) (i j : Nat) (v : Value), lk (ini i vs) j = some v → i ≤ j ∧ vs[j - i]? = some v
  | [], i, j, v, h => by simp [ini, lk] at h
  | u :: r, i, j, v, h => by
    unfold ini lk at h
    cases e : Nat.beq i j with
    | true =>
      have e' : i = j := Nat.eq_of_beq_eq_true e
      simp [e] at h
      subst e'; subst h
      simp
    | false =>
      have e' : i ≠ j := Nat.ne_of_beq_eq_false e
      simp [e] at h
      obtain ⟨h1, h2⟩ := lk_ini r (i + 1) j v h
      refine ⟨by omega, ?_⟩
      rw [show j - i = (j - (i + 1)) + 1 by omega]
      simpa using h2

theorem St.begin (args : List Value) (n : Nat) (h : Nat.ble args.length n = true) :
    St n (ini 0 args) { tmps := args.toArray ++ Array.replicate (n - args.toArray.size) undef, defers := [] } := by
  have h' : args.length ≤ n := Nat.le_of_ble_eq_true h
  refine ⟨by simp; omega, rfl, fun j v hj => ?_⟩
  obtain ⟨_, h2⟩ := lk_ini args 0 j v hj
  simp only [Nat.sub_zero] at h2
  have hlt : j < args.length := by
    rcases Nat.lt_or_ge j args.length with h | h
    · exact h
    · rw [List.getElem?_eq_none h] at h2; cases h2
  rw [Array.getElem?_append_left (by simpa using hlt)]
  simpa using h2

/-! ## memory -/
/-- What is known: a block, a growing row and an object of its own (these may be written), and a fact of blocks that stay. -/
inductive Ent where
  | blk (b : Nat) (t : TypeId) (cs : Array Value)
  | row (v : Value) (e : TypeId) (sz n : Nat) (cs : List Value)
  | obj (b : Nat) (φ : Obj → Prop)
  | fact (F : List Nat) (φ : World → Prop)

def Ent.owns : Ent → Nat → Prop
  | .blk b _ _, k => k = b
  | .row v _ _ _ _, k => v.ownBlock = some k
  | .obj b _, k => k = b
  | .fact F _, k => k ∈ F
/-- May it be written? -/
def Ent.isW : Ent → Bool
  | .fact _ _ => false
  | _ => true
def Stable (F : List Nat) (φ : World → Prop) : Prop := ∀ w w' : World, (∀ k ∈ F, w'.heap[k]? = w.heap[k]?) → φ w → φ w'

def Ent.ok (B : Nat) (w : World) : Ent → Prop
  | .blk b t cs => w.heap[b]? = some (.cells cs t (0, 0))
  | .row v e sz n cs => w.ownsRow B e sz v n cs
  | .obj b φ => ∃ o, w.heap[b]? = some o ∧ φ o
  | .fact F φ => (∀ k ∈ F, k < w.heap.size) ∧ φ w ∧ Stable F φ

theorem lt_of_heap {w : World} {b : Nat} {o : Obj} (h : w.heap[b]? = some o) : b < w.heap.size := (Array.getElem?_eq_some_iff.1 h).1

theorem Ent.lt {B : Nat} {w : World} {e : Ent} (h : e.ok B w) {k : Nat} (hk : e.owns k) : k < w.heap.size := by
  cases e with
  | blk b t cs => simp only [Ent.owns] at hk; subst hk; exact lt_of_heap h
  | row v e sz n cs =>
    obtain ⟨_, h2⟩ := h
    rcases h2 with ⟨rfl, _⟩ | ⟨g, cap, cur, rfl, _, hg, _⟩
    · simp [Ent.owns, Value.ownBlock] at hk
    · simp [Ent.owns, Value.ownBlock] at hk; subst hk; exact lt_of_heap hg
  | obj b φ => simp only [Ent.owns] at hk; subst hk; obtain ⟨o, ho, _⟩ := h; exact lt_of_heap ho
  | fact F φ => exact h.1 k hk

theorem Ent.same {B : Nat} {w w' : World} {e : Ent} (h : e.ok B w) (hs : ∀ k, e.owns k → w'.heap[k]? = w.heap[k]?) : e.ok B w' := by
  cases e with
  | blk b t cs => exact (hs b rfl).trans h
  | row v e sz n cs =>
    obtain ⟨h1, h2⟩ := h
    refine ⟨h1, ?_⟩
    rcases h2 with h2 | ⟨g, cap, cur, rfl, hb, hg, r⟩
    · exact .inl h2
    · exact .inr ⟨g, cap, cur, rfl, hb, (hs g rfl).trans hg, r⟩
  | obj b φ => obtain ⟨o, ho, hp⟩ := h; exact ⟨o, (hs b rfl).trans ho, hp⟩
  | fact F φ =>
    obtain ⟨h1, h2, h3⟩ := h
    refine ⟨fun k hk => ?_, h3 w w' (fun k hk => hs k hk) h2, h3⟩
    have := h1 k hk
    have e1 := hs k hk
    rw [Array.getElem?_eq_getElem this] at e1
    exact (Array.getElem?_eq_some_iff.1 e1).1

/-- The blocks of before that may be written, and those that may be read, and no more. -/
abbrev Own := List Nat × List Nat
def Ent.mine (w0 : World) (S : Own) (e : Ent) (k : Nat) : Prop := k ∈ S.1 ∨ w0.heap.size ≤ k ∨ (e.isW = false ∧ k ∈ S.2)
def Apart (e e' : Ent) : Prop := (e.isW || e'.isW) = true → ∀ k, e.owns k → ¬ e'.owns k
theorem Apart.symm {e e' : Ent} (h : Apart e e') : Apart e' e := fun hw k hk hk' => h (by rw [Bool.or_comm]; exact hw) k hk' hk

/-- From the world 'w0' of the call's begin: what is known of memory now. -/
structure Mem (w0 : World) (S : Own) (H : List Ent) (w : World) : Prop where
  os : w.os = w0.os
  tape : w.tape = w0.tape
  output : w.output = w0.output
  size : w0.heap.size ≤ w.heap.size
  old : ∀ k, k < w0.heap.size → k ∉ S.1 → w.heap[k]? = w0.heap[k]?
  ok : ∀ e ∈ H, e.ok 0 w
  own : ∀ e ∈ H, ∀ k, e.owns k → e.mine w0 S k
  apart : H.Pairwise Apart

theorem Mem.begin (w0 : World) : Mem w0 ([], []) [] w0 :=
  ⟨rfl, rfl, rfl, Nat.le_refl _, fun _ _ _ => rfl, fun _ h => by simp at h, fun _ h => by simp at h, .nil⟩

theorem Mem.below {w0 w : World} {R : List Nat} {H : List Ent} (h : Mem w0 ([], R) H w) : Below w0.heap.size w0 w :=
  ⟨h.os, h.tape, h.output, h.size, fun k hk => h.old k hk (by simp)⟩

theorem Mem.drew {w0 w : World} {S : Own} {H : List Ent} (h : Mem w0 S H w) : Mem w0 S H { w with drawn := w.drawn + 1 } :=
  ⟨h.os, h.tape, h.output, h.size, h.old, fun e he => Ent.same (h.ok e he) fun _ _ => rfl, h.own, h.apart⟩

theorem Mem.after {w0 w w' : World} {S : Own} {H : List Ent} (h : Mem w0 S H w) (hb : Below w.heap.size w w') : Mem w0 S H w' :=
  ⟨hb.os.trans h.os, hb.tape.trans h.tape, hb.output.trans h.output, Nat.le_trans h.size hb.size,
   fun k hk hn => (hb.block k (Nat.lt_of_lt_of_le hk h.size)).trans (h.old k hk hn),
   fun e he => Ent.same (h.ok e he) fun k hk => hb.block k (Ent.lt (h.ok e he) hk), h.own, h.apart⟩

/-- Entries forgotten. -/
theorem Mem.sub {w0 w : World} {S : Own} {H H' : List Ent} (h : Mem w0 S H w) (hs : H'.Sublist H) : Mem w0 S H' w :=
  ⟨h.os, h.tape, h.output, h.size, h.old, fun e he => h.ok e (hs.subset he), fun e he => h.own e (hs.subset he), h.apart.sublist hs⟩
/-- The entries in another order. -/
theorem Mem.perm {w0 w : World} {S : Own} {H H' : List Ent} (h : Mem w0 S H w) (hp : H.Perm H') : Mem w0 S H' w :=
  ⟨h.os, h.tape, h.output, h.size, h.old, fun e he => h.ok e (hp.mem_iff.2 he), fun e he => h.own e (hp.mem_iff.2 he),
   hp.pairwise h.apart fun hxy => hxy.symm⟩

/-- A fact once more, or a new one of blocks that are known. -/
theorem Mem.addFact {w0 w : World} {S : Own} {H : List Ent} (h : Mem w0 S H w) {F : List Nat} {φ : World → Prop} (hok : (Ent.fact F φ).ok 0 w)
    (hown : ∀ k ∈ F, (Ent.fact F φ).mine w0 S k) (hap : ∀ e ∈ H, e.isW = true → ∀ k ∈ F, ¬ e.owns k) : Mem w0 S (.fact F φ :: H) w := by
  refine ⟨h.os, h.tape, h.output, h.size, h.old, ?_, ?_, ?_⟩
  · intro e he
    rcases List.mem_cons.1 he with rfl | he
    · exact hok
    · exact h.ok e he
  · intro e he k hk
    rcases List.mem_cons.1 he with rfl | he
    · exact hown k hk
    · exact h.own e he k hk
  · refine List.pairwise_cons.2 ⟨fun e he hw k hk hk' => ?_, h.apart⟩
    have : e.isW = true := by simpa [Ent.isW] using hw
    exact hap e he this k hk hk'
/-- .. that hangs on a fact's blocks. -/
theorem Mem.derive {w0 w : World} {S : Own} {H : List Ent} (h : Mem w0 S H w) {i : Nat} {F F' : List Nat} {φ φ' : World → Prop} (hi : H[i]? = some (.fact F φ))
    (hF : ∀ k ∈ F', k ∈ F) (hφ : φ w → φ' w) (hst : Stable F' φ') : Mem w0 S (.fact F' φ' :: H) w := by
  have hmem : Ent.fact F φ ∈ H := List.mem_of_getElem? hi
  obtain ⟨h1, h2, h3⟩ := h.ok _ hmem
  refine h.addFact ⟨fun k hk => h1 k (hF k hk), hφ h2, hst⟩ (fun k hk => ?_) (fun e he hw k hk hk' => ?_)
  · rcases h.own _ hmem k (hF k hk) with h4 | h4 | h4
    · exact .inl h4
    · exact .inr (.inl h4)
    · exact .inr (.inr ⟨rfl, h4.2⟩)
  · obtain ⟨j, hj, rfl⟩ := List.getElem_of_mem he
    obtain ⟨hil, hiv⟩ := List.getElem?_eq_some_iff.1 hi
    have hne : i ≠ j := fun e => by subst e; rw [hiv] at hw; simp [Ent.isW] at hw
    rcases Nat.lt_or_gt_of_ne hne with hlt | hlt
    · exact (List.pairwise_iff_getElem.1 h.apart) i j hil hj hlt (by simp [hw]) k (by rw [hiv]; exact hF k hk) hk'
    · exact (List.pairwise_iff_getElem.1 h.apart) j i hj hil hlt (by simp [hw]) k hk' (by rw [hiv]; exact hF k hk)

/-- The entries by their numbers: facts may stand several times. -/
def pickE (H : List Ent) : List Nat → List Ent
  | [] => []
  | i :: r => match H[i]? with
    | some e => e :: pickE H r
    | none => pickE H r
def okIdx (H : List Ent) : List Nat → Bool
  | [] => true
  | i :: r => (match H[i]? with | some e => !e.isW || !(r.any (Nat.beq i)) | none => false) && okIdx H r
theorem mem_pickE {H : List Ent} {e : Ent} : ∀ {r : List Nat}, e ∈ pickE H r → ∃ i ∈ r, H[i]? = some e
  | i :: r, h => by
    unfold pickE at h
    cases hi : H[i]? with
    | none => rw [hi] at h; obtain ⟨j, hj, hje⟩ := mem_pickE h; exact ⟨j, by simp [hj], hje⟩
    | some u =>
      rw [hi] at h
      rcases List.mem_cons.1 h with rfl | h
      · exact ⟨i, by simp, hi⟩
      · obtain ⟨j, hj, hje⟩ := mem_pickE h; exact ⟨j, by simp [hj], hje⟩
theorem pickE_apart {H : List Ent} (h : H.Pairwise Apart) : ∀ (r : List Nat), okIdx H r = true → (pickE H r).Pairwise Apart
  | [], _ => by simp [pickE]
  | i :: r, hr => by
    simp only [okIdx, Bool.and_eq_true] at hr
    obtain ⟨h1, h2⟩ := hr
    unfold pickE
    cases hi : H[i]? with
    | none => rw [hi] at h1; cases h1
    | some u =>
      rw [hi] at h1
      refine List.pairwise_cons.2 ⟨fun e he hw k hk hk' => ?_, pickE_apart h r h2⟩
      obtain ⟨j, hj, hje⟩ := mem_pickE he
      obtain ⟨hil, hiv⟩ := List.getElem?_eq_some_iff.1 hi
      obtain ⟨hjl, hjv⟩ := List.getElem?_eq_some_iff.1 hje
      rcases Nat.lt_trichotomy i j with hlt | heq | hlt
      · exact (List.pairwise_iff_getElem.1 h) i j hil hjl hlt (by rw [hiv, hjv]; exact hw) k (by rw [hiv]; exact hk) (by rw [hjv]; exact hk')
      · subst heq
        have : u = e := by rw [← hiv, ← hjv]
        subst this
        have hu : u.isW = true := by simpa using hw
        simp [hu] at h1
        exact h1 i hj rfl
      · exact (List.pairwise_iff_getElem.1 h) j i hjl hil hlt (by rw [hiv, hjv, Bool.or_comm]; exact hw) k (by rw [hjv]; exact hk') (by rw [hiv]; exact hk)
theorem Mem.pick {w0 w : World} {S : Own} {H H' : List Ent} (h : Mem w0 S H w) (r : List Nat) (hr : okIdx H r = true) (hH : pickE H r = H') : Mem w0 S H' w := by
  subst hH
  refine ⟨h.os, h.tape, h.output, h.size, h.old, fun e he => ?_, fun e he => ?_, pickE_apart h.apart r hr⟩
  · obtain ⟨i, _, hi⟩ := mem_pickE he; exact h.ok e (List.mem_of_getElem? hi)
  · obtain ⟨i, _, hi⟩ := mem_pickE he; exact h.own e (List.mem_of_getElem? hi)

/-- A new object. -/
theorem Mem.push {w0 w : World} {S : Own} {H : List Ent} (h : Mem w0 S H w) (o : Obj) (e : Ent) (he : e.ok 0 { w with heap := w.heap.push o }) (ho : ∀ k, e.owns k → k = w.heap.size) :
    Mem w0 S (e :: H) { w with heap := w.heap.push o } := by
  have hold : ∀ k, k < w.heap.size → (w.heap.push o)[k]? = w.heap[k]? := fun k hk => by
    rw [Array.getElem?_push, if_neg (Nat.ne_of_lt hk)]
  refine ⟨h.os, h.tape, h.output, by simp; exact Nat.le_succ_of_le h.size, fun k hk hn => (hold k (Nat.lt_of_lt_of_le hk h.size)).trans (h.old k hk hn), ?_, ?_, ?_⟩
  · intro e' he'
    rcases List.mem_cons.1 he' with rfl | he'
    · exact he
    · exact Ent.same (h.ok e' he') fun k hk => hold k (Ent.lt (h.ok e' he') hk)
  · intro e' he' k hk
    rcases List.mem_cons.1 he' with rfl | he'
    · have := ho k hk; subst this; exact .inr (.inl h.size)
    · exact h.own e' he' k hk
  · refine List.pairwise_cons.2 ⟨fun e' he' _ k hk hk' => ?_, h.apart⟩
    have := ho k hk
    subst this
    exact Nat.lt_irrefl _ (Ent.lt (h.ok e' he') hk')
theorem Mem.alloc {w0 w : World} {S : Own} {H : List Ent} (h : Mem w0 S H w) (t : TypeId) (cs : Array Value) :
    Mem w0 S (.blk w.heap.size t cs :: H) { w with heap := w.heap.push (.cells cs t) } :=
  h.push (.cells cs t) (.blk w.heap.size t cs) (by simp [Ent.ok]) fun k hk => hk

/-- One entry turned: number i. Its blocks were its own, or are new. -/
theorem Mem.turn {w0 w w' : World} {S : Own} {H : List Ent} (h : Mem w0 S H w) {i : Nat} {e e' : Ent} (hi : H[i]? = some e) (hw : e.isW = true)
    (hos : w'.os = w.os) (htape : w'.tape = w.tape) (hout : w'.output = w.output) (hsz : w.heap.size ≤ w'.heap.size)
    (hnew : e'.ok 0 w') (hown : ∀ k, e'.owns k → e.owns k ∨ w.heap.size ≤ k) (hoth : ∀ k, k < w.heap.size → ¬ e.owns k → w'.heap[k]? = w.heap[k]?) : Mem w0 S (H.set i e') w' := by
  have hmem : e ∈ H := List.mem_of_getElem? hi
  obtain ⟨hil, hiv⟩ := List.getElem?_eq_some_iff.1 hi
  have hne : ∀ (j : Nat) (hj : j < H.length), j ≠ i → ∀ k, e.owns k → ¬ (H[j]).owns k := fun j hj hji k hk hk' => by
    rcases Nat.lt_or_gt_of_ne hji with hlt | hlt
    · exact (List.pairwise_iff_getElem.1 h.apart) j i hj hil hlt (by rw [hiv, hw, Bool.or_true]) k hk' (by rw [hiv]; exact hk)
    · exact (List.pairwise_iff_getElem.1 h.apart) i j hil hj hlt (by rw [hiv, hw, Bool.true_or]) k (by rw [hiv]; exact hk) hk'
  have hother : ∀ (j : Nat) (hj : j < H.length), j ≠ i → ∀ k, e'.owns k → ¬ (H[j]).owns k := fun j hj hji k hk hk' => by
    rcases hown k hk with h1 | h1
    · exact hne j hj hji k h1 hk'
    · have := Ent.lt (h.ok _ (List.getElem_mem hj)) hk'
      omega
  have hmine : ∀ k, e.owns k → k ∈ S.1 ∨ w0.heap.size ≤ k := fun k hk => by
    rcases h.own e hmem k hk with h1 | h1 | h1
    · exact .inl h1
    · exact .inr h1
    · rw [hw] at h1; cases h1.1
  refine ⟨hos.trans h.os, htape.trans h.tape, hout.trans h.output, Nat.le_trans h.size hsz, fun k hk hn => ?_, fun u hu => ?_, fun u hu k hk => ?_, ?_⟩
  · refine (hoth k (Nat.lt_of_lt_of_le hk h.size) fun hk' => ?_).trans (h.old k hk hn)
    rcases hmine k hk' with h1 | h1
    · exact hn h1
    · omega
  · obtain ⟨j, hj, hje⟩ := List.getElem_of_mem hu
    have hj' : j < H.length := by simpa using hj
    rw [List.getElem_set] at hje
    by_cases hij : i = j
    · rw [if_pos hij] at hje; subst hje; exact hnew
    · rw [if_neg hij] at hje
      subst hje
      have hok := h.ok _ (List.getElem_mem hj')
      exact Ent.same hok fun k hk => hoth k (Ent.lt hok hk) fun hk' => hne j hj' (fun e => hij e.symm) k hk' hk
  · obtain ⟨j, hj, hje⟩ := List.getElem_of_mem hu
    have hj' : j < H.length := by simpa using hj
    rw [List.getElem_set] at hje
    by_cases hij : i = j
    · rw [if_pos hij] at hje; subst hje
      rcases hown k hk with h1 | h1
      · rcases hmine k h1 with h2 | h2
        · exact .inl h2
        · exact .inr (.inl h2)
      · exact .inr (.inl (Nat.le_trans h.size h1))
    · rw [if_neg hij] at hje; subst hje; exact h.own _ (List.getElem_mem hj') k hk
  · rw [List.pairwise_iff_getElem]
    intro x y hx hy hxy hw' k h1 h2
    rw [List.length_set] at hx hy
    rw [List.getElem_set] at h1 h2
    simp only [List.getElem_set] at hw'
    by_cases hix : i = x
    · rw [if_pos hix] at h1
      rw [if_neg (by omega)] at h2
      exact hother y hy (by omega) k h1 h2
    · rw [if_neg hix] at h1
      by_cases hiy : i = y
      · rw [if_pos hiy] at h2
        exact hother x hx (by omega) k h2 h1
      · rw [if_neg hiy] at h2
        rw [if_neg hix, if_neg hiy] at hw'
        exact (List.pairwise_iff_getElem.1 h.apart) x y hx hy hxy hw' k h1 h2

/-- One block written: entry number i. -/
theorem Mem.write {w0 w w' : World} {S : Own} {H : List Ent} (h : Mem w0 S H w) {i b : Nat} {t : TypeId} {cs cs' : Array Value}
    (hi : H[i]? = some (.blk b t cs)) (hos : w'.os = w.os) (htape : w'.tape = w.tape) (hout : w'.output = w.output) (hsz : w'.heap.size = w.heap.size)
    (hnew : w'.heap[b]? = some (.cells cs' t (0, 0))) (hoth : ∀ k, k ≠ b → w'.heap[k]? = w.heap[k]?) : Mem w0 S (H.set i (.blk b t cs')) w' :=
  h.turn hi rfl hos htape hout (by omega) hnew (fun _ hk => .inl hk) fun k _ hk => hoth k hk

theorem Mem.at {w0 w : World} {S : Own} {H : List Ent} (h : Mem w0 S H w) {i b : Nat} {t : TypeId} {cs : Array Value} (hi : H[i]? = some (.blk b t cs)) :
    w.heap[b]? = some (.cells cs t (0, 0)) := h.ok _ (List.mem_of_getElem? hi)

theorem Mem.setCell {w0 w : World} {S : Own} {H : List Ent} (h : Mem w0 S H w) {i b j : Nat} {t : TypeId} {cs : Array Value} (hi : H[i]? = some (.blk b t cs)) (v : Value) :
    Mem w0 S (H.set i (.blk b t (cs.setIfInBounds j v))) (w.setCell ⟨b, j, none⟩ v) :=
  h.write hi rfl rfl rfl (by simp [World.setCell]) (heap_setCell_same w b j cs t v (h.at hi)) (fun k hk => heap_setCell_other w _ k v hk)

theorem Mem.setRow {w0 w : World} {S : Own} {H : List Ent} (h : Mem w0 S H w) {i b : Nat} {t : TypeId} {cs : Array Value} (hi : H[i]? = some (.blk b t cs)) (cs' : Array Value) :
    Mem w0 S (H.set i (.blk b t cs')) (w.setRow b cs') :=
  h.write hi rfl rfl rfl (by simp) (setRow_heap w b cs cs' t _ (h.at hi)) (fun k hk => setRow_other w b k cs' hk)

/-! ### entries handed to a callee, and lent to it -/
def Ent.blocks : Ent → List Nat
  | .blk b _ _ => [b]
  | .row v _ _ _ _ => v.ownBlock.toList
  | .obj b _ => [b]
  | .fact F _ => F
theorem Ent.mem_blocks {e : Ent} {k : Nat} : k ∈ e.blocks ↔ e.owns k := by
  cases e with
  | blk b t cs => simp [Ent.blocks, Ent.owns]
  | row v e sz n cs => simp [Ent.blocks, Ent.owns, Option.mem_toList]
  | obj b φ => simp [Ent.blocks, Ent.owns]
  | fact F φ => simp [Ent.blocks, Ent.owns]
def blocksOf (H : List Ent) : List Nat := H.flatMap Ent.blocks
theorem mem_blocksOf {H : List Ent} {k : Nat} : k ∈ blocksOf H ↔ ∃ e ∈ H, e.owns k := by
  simp only [blocksOf, List.mem_flatMap, Ent.mem_blocks]

/-- A fact is held up by an entry. -/
def Held (w : World) (B : List Ent) (e : Ent) : Prop := e.isW = false ∧ e.ok 0 w ∧ ∃ u ∈ B, ∀ k, e.owns k → u.owns k
/-- .. by a fact. -/
def HeldF (B : List Ent) (e : Ent) : Prop := ∃ u ∈ B, u.isW = false ∧ ∀ k, e.owns k → u.owns k

/-- What a callee starts with: the entries A that it is handed, and facts L that it is lent. -/
theorem Mem.hand {w0 w : World} {S : Own} {A B L : List Ent} (h : Mem w0 S (A ++ B) w) (hA : A.all Ent.isW = true) (hL : ∀ e ∈ L, Held w B e) :
    Mem w (blocksOf A, blocksOf L) (A ++ L) w := by
  have hap := List.pairwise_append.1 h.apart
  have hAw : ∀ e ∈ A, e.isW = true := fun e he => (List.all_eq_true.1 hA) e he
  refine ⟨rfl, rfl, rfl, Nat.le_refl _, fun _ _ _ => rfl, fun e he => ?_, fun e he k hk => ?_, ?_⟩
  · rcases List.mem_append.1 he with he | he
    · exact h.ok e (List.mem_append_left _ he)
    · exact (hL e he).2.1
  · rcases List.mem_append.1 he with he | he
    · exact .inl (mem_blocksOf.2 ⟨e, he, hk⟩)
    · exact .inr (.inr ⟨(hL e he).1, mem_blocksOf.2 ⟨e, he, hk⟩⟩)
  · refine List.pairwise_append.2 ⟨hap.1, ?_, fun e he e' he' _ k hk hk' => ?_⟩
    · refine List.pairwise_iff_forall_sublist.2 fun {a b} hs hw => ?_
      have ha := (hL a (hs.subset (by simp))).1
      have hb := (hL b (hs.subset (by simp))).1
      rw [ha, hb] at hw
      cases hw
    · obtain ⟨_, _, u, hu, hsub⟩ := hL e' he'
      exact hap.2.2 e he u hu (by rw [hAw e he, Bool.true_or]) k hk (hsub k hk')

/-- .. and what the caller knows behind it. -/
theorem Mem.back {w0 w w' : World} {S : Own} {A A' B L : List Ent} (h : Mem w0 S (A ++ B) w) (hA : A.all Ent.isW = true) (hL : A'.all Ent.isW = true ∨ ∀ e ∈ L, HeldF B e)
    (hc : Mem w (blocksOf A, blocksOf L) A' w') : Mem w0 S (A' ++ B) w' := by
  have hap := List.pairwise_append.1 h.apart
  have hAw : ∀ e ∈ A, e.isW = true := fun e he => (List.all_eq_true.1 hA) e he
  have hAB : ∀ k, k ∈ blocksOf A → ∀ e ∈ B, ¬ e.owns k := fun k hk e he hk' => by
    obtain ⟨u, hu, hku⟩ := mem_blocksOf.1 hk
    exact hap.2.2 u hu e he (by rw [hAw u hu, Bool.true_or]) k hku hk'
  have hAm : ∀ k, k ∈ blocksOf A → k ∈ S.1 ∨ w0.heap.size ≤ k := fun k hk => by
    obtain ⟨u, hu, hku⟩ := mem_blocksOf.1 hk
    rcases h.own u (List.mem_append_left _ hu) k hku with h1 | h1 | h1
    · exact .inl h1
    · exact .inr h1
    · rw [hAw u hu] at h1; cases h1.1
  have hlent : ∀ e ∈ A', ∀ k, e.isW = false → k ∈ blocksOf L → ∃ u ∈ B, u.isW = false ∧ u.owns k := fun e he k hw hk => by
    rcases hL with hL | hL
    · rw [(List.all_eq_true.1 hL) e he] at hw; cases hw
    · obtain ⟨l, hl, hkl⟩ := mem_blocksOf.1 hk
      obtain ⟨u, hu, huw, hsub⟩ := hL l hl
      exact ⟨u, hu, huw, hsub k hkl⟩
  refine ⟨hc.os.trans h.os, hc.tape.trans h.tape, hc.output.trans h.output, Nat.le_trans h.size hc.size, fun k hk hn => ?_, fun e he => ?_, fun e he k hk => ?_, ?_⟩
  · refine (hc.old k (Nat.lt_of_lt_of_le hk h.size) fun hm => ?_).trans (h.old k hk hn)
    rcases hAm k hm with h1 | h1
    · exact hn h1
    · omega
  · rcases List.mem_append.1 he with he | he
    · exact hc.ok e he
    · have hok := h.ok e (List.mem_append_right _ he)
      exact Ent.same hok fun k hk => hc.old k (Ent.lt hok hk) fun hm => hAB k hm e he hk
  · rcases List.mem_append.1 he with he | he
    · rcases hc.own e he k hk with h1 | h1 | ⟨hw, h1⟩
      · rcases hAm k h1 with h2 | h2
        · exact .inl h2
        · exact .inr (.inl h2)
      · exact .inr (.inl (Nat.le_trans h.size h1))
      · obtain ⟨u, hu, huw, hku⟩ := hlent e he k hw h1
        rcases h.own u (List.mem_append_right _ hu) k hku with h2 | h2 | h2
        · exact .inl h2
        · exact .inr (.inl h2)
        · exact .inr (.inr ⟨hw, h2.2⟩)
    · exact h.own e (List.mem_append_right _ he) k hk
  · refine List.pairwise_append.2 ⟨hc.apart, hap.2.1, fun e he e' he' hw k hk hk' => ?_⟩
    rcases hc.own e he k hk with h1 | h1 | ⟨hw', h1⟩
    · exact hAB k h1 e' he' hk'
    · have := Ent.lt (h.ok e' (List.mem_append_right _ he')) hk'
      omega
    · obtain ⟨u, hu, huw, hku⟩ := hlent e he k hw' h1
      have hw'' : e'.isW = true := by rw [hw'] at hw; simpa using hw
      obtain ⟨x, hx, rfl⟩ := List.getElem_of_mem hu
      obtain ⟨y, hy, rfl⟩ := List.getElem_of_mem he'
      have hne : x ≠ y := fun e => by subst e; rw [huw] at hw''; cases hw''
      rcases Nat.lt_or_gt_of_ne hne with hlt | hlt
      · exact (List.pairwise_iff_getElem.1 hap.2.1) x y hx hy hlt (by rw [hw'', Bool.or_true]) k hku hk'
      · exact (List.pairwise_iff_getElem.1 hap.2.1) y x hy hx hlt (by rw [hw'', Bool.true_or]) k hk' hku

/-- A call that turns nothing. -/
theorem Mem.quiet {w0 w' : World} {R : List Nat} {H : List Ent} (h : Mem w0 ([], R) H w') : Below w0.heap.size w0 w' := h.below

/-! ## the walk's goals -/
section
variable (P : Program) (n : Nat) (w0 : World) (S : Own)

def CW (Q : Exit → Act → World → Prop) (c : Code) (l : List (Nat × Value)) (H : List Ent) : Prop := ∀ a w, St n l a → Mem w0 S H w → c.wp P Q a w
def RW (ops : Array Oper) (Q : Exit → Act → World → Prop) (rest : List Oper) (l : List (Nat × Value)) (H : List Ent) : Prop := ∀ a w, St n l a → Mem w0 S H w → wpList P ops Q rest a w
/-- A region that draws its order, whose operations read and call. -/
def QW (ops : Array Oper) (Q : Exit → Act → World → Prop) (rest : List Oper) (l : List (Nat × Value)) (H : List Ent) : Prop :=
  ∀ a, St n l a → wpQuiet P ops (Mem w0 S H) (fun a' => ∀ w', Mem w0 S H w' → Q .normal a' w') rest a
def EW (Q : Act → World → Prop) (l : List (Nat × Value)) (H : List Ent) : Prop := ∀ a w, St n l a → Mem w0 S H w → Q a w
/-- What one operation does, in whatever world is at hand: a value. -/
def Yi (o : Oper) (l : List (Nat × Value)) (H : List Ent) (v : Value) : Prop := ∀ a w, St n l a → Mem w0 S H w → (execOp a.eval o).run P w = .ok (.value v) w
/-- .. or a call that hands back a value and leaves what is known as it was. -/
def Ca (o : Oper) (l : List (Nat × Value)) (H : List Ent) (v : Value) : Prop := ∀ a w, St n l a → Mem w0 S H w →
  ∃ f args, (execOp a.eval o).run P w = .ok (.enter f args) w ∧ Calls P f args w (fun e w' => e = .returned v ∧ Mem w0 S H w')
end

section
variable {P : Program} {n : Nat} {w0 : World} {S : Own} {Q : Exit → Act → World → Prop} {l : List (Nat × Value)} {H : List Ent}

theorem calls_CW {f : FuncId} {fn : Func} {c : Code} {args : List Value} {R : Ending → World → Prop} (w0 : World) (S : Own) (H : List Ent)
    (hf : P.funcs[f]? = some fn) (hb : fn.body = some c) (hn : fn.ntmps = n) (hle : Nat.ble args.length n = true) (hm : Mem w0 S H w0)
    (h : CW P n w0 S (bodyPost P fn R) c (ini 0 args) H) : Calls P f args.toArray w0 R := by
  refine calls_of_wp hf hb ?_
  have := h { tmps := args.toArray ++ Array.replicate (n - args.toArray.size) undef, defers := [] } w0 (St.begin args n hle) hm
  rw [hn]
  exact this

theorem CW.seq {x y : Code} (h : CW P n w0 S (Exit.then (y.wp P Q) Q) x l H) : CW P n w0 S Q (.seq x y) l H := fun a w hs hm => wp_seq (h a w hs hm)
theorem CW.join {x y : Code} (M : Act → World → Prop) (h : CW P n w0 S (Exit.then M Q) x l H) (hy : ∀ a w, M a w → y.wp P Q a w) : CW P n w0 S Q (.seq x y) l H :=
  fun a w hs hm => wp_seq (wp_mono (h a w hs hm) fun e a' w' hq => by cases e <;> first | exact hy _ _ hq | exact hq)
theorem CW.skip (h : EW n w0 S (Q .normal) l H) : CW P n w0 S Q .skip l H := fun a w hs hm => wp_skip (h a w hs hm)
theorem CW.exit {id : Nat} (h : EW n w0 S (Q (.exit id)) l H) : CW P n w0 S Q (.exit id) l H := fun a w hs hm => wp_exit (h a w hs hm)
theorem CW.ret (h : EW n w0 S (Q .ret) l H) : CW P n w0 S Q .ret l H := fun a w hs hm => wp_ret (h a w hs hm)
theorem CW.block {id : Nat} {c : Code} (h : CW P n w0 S (Exit.inBlock id Q) c l H) : CW P n w0 S Q (.block id c) l H := fun a w hs hm => wp_block (h a w hs hm)
theorem CW.region {id : Nat} {ops : List Oper} (h : RW P n w0 S ops.toArray Q ops l H) : CW P n w0 S Q (.region id ops.toArray false) l H := fun a w hs hm => wp_region_lit (h a w hs hm)
theorem CW.draws {id : Nat} {ops : List Oper} (hm : P.follows .mixedOrders = true) (hB : Region.lexB .any ops.toArray = true) (h : QW P n w0 S ops.toArray Q ops l H) :
    CW P n w0 S Q (.region id ops.toArray true) l H := fun a w hs hm' =>
  wp_region_quiet (C := Mem w0 S H) hm hB hm'.drew (by simpa using h a hs)
theorem CW.cond_true {c : Operand} {x y : Code} (hc : ev l c = some (.bool true)) (h : CW P n w0 S Q x l H) : CW P n w0 S Q (.cond c x y) l H :=
  fun a w hs hm => wp_cond_true (hs.ev hc) (h a w hs hm)
theorem CW.cond_false {c : Operand} {x y : Code} (hc : ev l c = some (.bool false)) (h : CW P n w0 S Q y l H) : CW P n w0 S Q (.cond c x y) l H :=
  fun a w hs hm => wp_cond_false (hs.ev hc) (h a w hs hm)
theorem CW.cond {c : Operand} {x y : Code} {p : Prop} [Decidable p] (hc : ev l c = some (.bool (decide p))) (h : p → CW P n w0 S Q x l H) (h' : ¬ p → CW P n w0 S Q y l H) :
    CW P n w0 S Q (.cond c x y) l H := fun a w hs hm =>
  wp_cond_split (hs.ev hc) (fun ht => h (of_decide_eq_true ht) a w hs hm) (fun ht => h' (of_decide_eq_false ht) a w hs hm)

theorem wp_loop_fuel {c : Code} (I : Nat → Act → World → Prop) (h0 : ∀ a w, ¬ I 0 a w)
    (round : ∀ k a w, I (k + 1) a w → c.wp P (Exit.then (I k) Q) a w) (k : Nat) (a : Act) (w : World) (h : I k a w) : (Code.loop c).wp P Q a w := by
  intro b ks cs
  have key : ∀ n a w, I n a w → ∃ e a' w', Q e a' w' ∧ Arrives P (lone (b.at a (.code c :: .inLoop c :: ks)) cs w) b ks cs e a' w' := by
    intro n
    induction n with
    | zero => intro a w hI; exact absurd hI (h0 a w)
    | succ n ih =>
      intro a w hI
      obtain ⟨e, a₁, w₁, hq, harr⟩ := round n a w hI b (.inLoop c :: ks) cs
      cases e with
      | normal =>
        obtain ⟨e₂, a₂, w₂, hq₂, harr₂⟩ := ih a₁ w₁ hq
        exact ⟨e₂, a₂, w₂, hq₂, .of_steps (Steps.trans harr (.one step_inLoop)) harr₂⟩
      | exit id => exact ⟨_, a₁, w₁, hq, .pass (x := .inLoop c) rfl (fun _ _ => .inl (by simp)) harr⟩
      | goto l => exact ⟨_, a₁, w₁, hq, .pass (x := .inLoop c) rfl (fun _ _ => .inl (by simp)) harr⟩
      | ret => exact ⟨_, a₁, w₁, hq, .pass (x := .inLoop c) rfl (fun _ _ => .inl (by simp)) harr⟩
      | panic ch => exact ⟨_, a₁, w₁, hq, .pass (x := .inLoop c) rfl (fun _ _ => .inl (by simp)) harr⟩
      | outgrown => exact ⟨_, a₁, w₁, hq, .pass (x := .inLoop c) rfl (fun _ _ => .inl (by simp)) harr⟩
  obtain ⟨e, a', w', hq, harr⟩ := key k a w h
  exact ⟨e, a', w', hq, .of_steps (.one step_loop) harr⟩

theorem CW.loop {c : Code} (I : Nat → Act → World → Prop) (k : Nat) (h0 : ∀ a w, ¬ I 0 a w) (hi : EW n w0 S (I k) l H)
    (round : ∀ k a w, I (k + 1) a w → c.wp P (Exit.then (I k) Q) a w) : CW P n w0 S Q (.loop c) l H :=
  fun a w hs hm => wp_loop_fuel I h0 round k a w (hi a w hs hm)

theorem RW.nil {ops : Array Oper} (h : EW n w0 S (Q .normal) l H) : RW P n w0 S ops Q [] l H := fun a w hs hm => wpList_nil (h a w hs hm)
theorem QW.nil {ops : Array Oper} (h : EW n w0 S (Q .normal) l H) : QW P n w0 S ops Q [] l H := fun a hs => wpQuiet_nil fun w' hm => h a w' hs hm

theorem EW.next {y : Code} (h : CW P n w0 S Q y l H) : EW n w0 S (Exit.then (y.wp P Q) Q .normal) l H := h
theorem EW.thn {K : Act → World → Prop} (h : EW n w0 S K l H) : EW n w0 S (Exit.then K Q .normal) l H := h
theorem EW.thx {K : Act → World → Prop} {id : Nat} (h : EW n w0 S (Q (.exit id)) l H) : EW n w0 S (Exit.then K Q (.exit id)) l H := h
theorem EW.bln {id : Nat} (h : EW n w0 S (Q .normal) l H) : EW n w0 S (Exit.inBlock id Q .normal) l H := h
theorem EW.blx {id : Nat} (h : EW n w0 S (Q .normal) l H) : EW n w0 S (Exit.inBlock id Q (.exit id)) l H := fun a w hs hm => by
  simp only [Exit.inBlock, if_true]; exact h a w hs hm
theorem EW.bly {id id' : Nat} (hne : Nat.beq id' id = false) (h : EW n w0 S (Q (.exit id')) l H) : EW n w0 S (Exit.inBlock id Q (.exit id')) l H := fun a w hs hm => by
  simp only [Exit.inBlock, if_neg (Nat.ne_of_beq_eq_false hne)]; exact h a w hs hm

/-! ### operations -/
variable {ops : Array Oper} {rest : List Oper} {dst : Option Tmp} {op : Op} {ty : TypeId} {pos : String} {after : Array Edge} {guard : Option (Nat × Bool)}

def wantedIn (ops : Array Oper) (l : List (Nat × Value)) : Option (Nat × Bool) → Option Bool
  | none => some true
  | some (j, want) =>
    match ops[j]? with
    | none => none
    | some o => match o.dst with
      | none => none
      | some d => match lk l d with
        | some (.bool b) => some (b == want)
        | some (.tuple _) => some false
        | _ => none

theorem wanted_of {a : Act} {b : Bool} (hs : St n l a) (h : wantedIn ops l guard = some b) : Region.wanted { dst, op, type := ty, pos, after, guard } (yielded ops a.tmps) = b := by
  cases guard with
  | none => simpa [wantedIn, Region.wanted] using h
  | some g =>
    obtain ⟨j, want⟩ := g
    unfold wantedIn at h
    simp only [Region.wanted]
    cases hj : ops[j]? with
    | none => simp [hj] at h
    | some o =>
      simp only [hj] at h
      cases hd : o.dst with
      | none => simp [hd] at h
      | some d =>
        simp only [hd] at h
        cases hl : lk l d with
        | none => simp [hl] at h
        | some v =>
          have hg := hs.get d v hl
          unfold yielded
          simp only [hj, Option.bind_some, hd, hg]
          cases v <;> simp [hl] at h
          · rename_i b'
            subst h
            cases b' <;> cases want <;> rfl
          · subst h; cases want <;> rfl

theorem RW.pass {d : Nat} (hg : wantedIn ops l guard = some false) (hd : Nat.ble n d = false) (h : RW P n w0 S ops Q rest ((d, undef) :: l) H) :
    RW P n w0 S ops Q ({ dst := some d, op, type := ty, pos, after, guard } :: rest) l H := fun a w hs hm => by
  unfold wpList
  rw [if_neg (by rw [wanted_of hs hg]; exact Bool.false_ne_true)]
  exact h _ w (hs.put hd) hm

theorem RW.yi {d : Nat} (v : Value) (hg : wantedIn ops l guard = some true) (hd : Nat.ble n d = false) (hy : Yi P n w0 S { dst := some d, op, type := ty, pos, after, guard } l H v)
    (h : RW P n w0 S ops Q rest ((d, v) :: l) H) : RW P n w0 S ops Q ({ dst := some d, op, type := ty, pos, after, guard } :: rest) l H := fun a w hs hm => by
  unfold wpList
  rw [if_pos (wanted_of hs hg)]
  refine .inl ?_
  unfold Oper.wp
  rw [hy a w hs hm]
  exact h _ w (hs.put hd) hm

theorem RW.ca {d : Nat} (v : Value) (hg : wantedIn ops l guard = some true) (hd : Nat.ble n d = false) (hy : Ca P n w0 S { dst := some d, op, type := ty, pos, after, guard } l H v)
    (h : RW P n w0 S ops Q rest ((d, v) :: l) H) : RW P n w0 S ops Q ({ dst := some d, op, type := ty, pos, after, guard } :: rest) l H := fun a w hs hm => by
  unfold wpList
  rw [if_pos (wanted_of hs hg)]
  refine .inl ?_
  unfold Oper.wp
  obtain ⟨f, args, he, hc⟩ := hy a w hs hm
  rw [he]
  simp only [Oper.upon]
  refine hc.mono ?_
  rintro e w' ⟨rfl, hm'⟩
  exact h _ w' (hs.put hd) hm'

theorem QW.pass {d : Nat} (hg : wantedIn ops l guard = some false) (hd : Nat.ble n d = false) (h : QW P n w0 S ops Q rest ((d, undef) :: l) H) :
    QW P n w0 S ops Q ({ dst := some d, op, type := ty, pos, after, guard } :: rest) l H := fun a hs => by
  unfold wpQuiet
  rw [if_neg (by rw [wanted_of hs hg]; exact Bool.false_ne_true)]
  exact h _ (hs.put hd)

theorem QW.yi {d : Nat} (v : Value) (hg : wantedIn ops l guard = some true) (hd : Nat.ble n d = false) (hy : Yi P n w0 S { dst := some d, op, type := ty, pos, after, guard } l H v)
    (h : QW P n w0 S ops Q rest ((d, v) :: l) H) : QW P n w0 S ops Q ({ dst := some d, op, type := ty, pos, after, guard } :: rest) l H := fun a hs => by
  unfold wpQuiet
  rw [if_pos (wanted_of hs hg)]
  refine ⟨v, fun w hm => ?_, h _ (hs.put hd)⟩
  unfold Oper.quietAt
  rw [hy a w hs hm]
  exact ⟨rfl, rfl⟩

theorem QW.ca {d : Nat} (v : Value) (hg : wantedIn ops l guard = some true) (hd : Nat.ble n d = false) (hy : Ca P n w0 S { dst := some d, op, type := ty, pos, after, guard } l H v)
    (h : QW P n w0 S ops Q rest ((d, v) :: l) H) : QW P n w0 S ops Q ({ dst := some d, op, type := ty, pos, after, guard } :: rest) l H := fun a hs => by
  unfold wpQuiet
  rw [if_pos (wanted_of hs hg)]
  refine ⟨v, fun w hm => ?_, h _ (hs.put hd)⟩
  obtain ⟨f, args, he, hc⟩ := hy a w hs hm
  unfold Oper.quietAt
  rw [he]
  exact ⟨rfl, hc⟩

/-- A truth that is not decided: both ways. -/
theorem RW.fork (d : Nat) (p : Prop) [Decidable p] (hd : lk l d = some (.bool (decide p))) (ht : p → RW P n w0 S ops Q rest ((d, .bool true) :: l) H) (hf : ¬ p → RW P n w0 S ops Q rest ((d, .bool false) :: l) H) :
    RW P n w0 S ops Q rest l H := fun a w hs hm => by
  by_cases h : p
  · refine ht h a w ⟨hs.size, hs.defers, fun j v hj => ?_⟩ hm
    unfold lk at hj
    cases e : Nat.beq d j with
    | true => have := Nat.eq_of_beq_eq_true e; subst this; simp at hj; subst hj; rw [decide_eq_true h] at hd; exact hs.get d _ hd
    | false => simp [e] at hj; exact hs.get j v hj
  · refine hf h a w ⟨hs.size, hs.defers, fun j v hj => ?_⟩ hm
    unfold lk at hj
    cases e : Nat.beq d j with
    | true => have := Nat.eq_of_beq_eq_true e; subst this; simp at hj; subst hj; rw [decide_eq_false h] at hd; exact hs.get d _ hd
    | false => simp [e] at hj; exact hs.get j v hj

theorem QW.fork (d : Nat) (p : Prop) [Decidable p] (hd : lk l d = some (.bool (decide p))) (ht : p → QW P n w0 S ops Q rest ((d, .bool true) :: l) H) (hf : ¬ p → QW P n w0 S ops Q rest ((d, .bool false) :: l) H) :
    QW P n w0 S ops Q rest l H := fun a hs => by
  by_cases h : p
  · refine ht h a ⟨hs.size, hs.defers, fun j v hj => ?_⟩
    unfold lk at hj
    cases e : Nat.beq d j with
    | true => have := Nat.eq_of_beq_eq_true e; subst this; simp at hj; subst hj; rw [decide_eq_true h] at hd; exact hs.get d _ hd
    | false => simp [e] at hj; exact hs.get j v hj
  · refine hf h a ⟨hs.size, hs.defers, fun j v hj => ?_⟩
    unfold lk at hj
    cases e : Nat.beq d j with
    | true => have := Nat.eq_of_beq_eq_true e; subst this; simp at hj; subst hj; rw [decide_eq_false h] at hd; exact hs.get d _ hd
    | false => simp [e] at hj; exact hs.get j v hj

theorem CW.fork {c : Code} (d : Nat) (p : Prop) [Decidable p] (hd : lk l d = some (.bool (decide p))) (ht : p → CW P n w0 S Q c ((d, .bool true) :: l) H) (hf : ¬ p → CW P n w0 S Q c ((d, .bool false) :: l) H) :
    CW P n w0 S Q c l H := fun a w hs hm => by
  by_cases h : p
  · refine ht h a w ⟨hs.size, hs.defers, fun j v hj => ?_⟩ hm
    unfold lk at hj
    cases e : Nat.beq d j with
    | true => have := Nat.eq_of_beq_eq_true e; subst this; simp at hj; subst hj; rw [decide_eq_true h] at hd; exact hs.get d _ hd
    | false => simp [e] at hj; exact hs.get j v hj
  · refine hf h a w ⟨hs.size, hs.defers, fun j v hj => ?_⟩ hm
    unfold lk at hj
    cases e : Nat.beq d j with
    | true => have := Nat.eq_of_beq_eq_true e; subst this; simp at hj; subst hj; rw [decide_eq_false h] at hd; exact hs.get d _ hd
    | false => simp [e] at hj; exact hs.get j v hj

end
end Go.Proofs.Ytoepbakbpimkiaa.K
