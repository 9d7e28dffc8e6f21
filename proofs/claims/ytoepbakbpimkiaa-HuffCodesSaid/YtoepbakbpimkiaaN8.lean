import Derived.Test.YtoepbakbpimkiaaN7
/-! N, eighth part: maps from two numbers to one. -/
namespace Go.Proofs.Ytoepbakbpimkiaa.K
open Go Go.RowKit

abbrev MEnt := (Int × Int) × Int
def mkv (p : MEnt) : Value × Value := (.agg (ints [p.1.1, p.1.2]), .int .i64 p.2)
/-- What a map holds: its entries in the order in which they came. -/
def mapOk (es : List MEnt) (o : Obj) : Prop := ∃ ms clock, o = .map ms clock ∧ ms.toList.map (fun e => (e.key, e.val)) = es.map mkv
def mfind : List MEnt → Int × Int → Option Int
  | [], _ => none
  | e :: r, k => if k = e.1 then some e.2 else mfind r k
def mpE (b : Nat) (es : List MEnt) : Ent := .obj b (mapOk es)

section
variable {P : Program} {w : World} {kt : TypeId} {fs : Array Field}
theorem run_checkKey (b : Bool) (d : Nat) (X : List Int) (hu : P.underlying kt = some (.struct fs)) (hf : flds P 0 fs.toList = true) (hx : X.length = fs.toList.length) : (Instr.checkKey b (d + 2) kt (.agg (ints X))).run P w = .ok () w := by
  have key : ∀ (l : List Field) (i : Nat), flds P i l = true → X.length = l.length + i →
      (forIn l PUnit.unit (fun f _ => (do
        if f.name ≠ "_" then (do let v ← part f.type (ints X) f.offset; Instr.checkKey b (d + 1) f.type v; pure (ForInStep.yield PUnit.unit)) else pure (ForInStep.yield PUnit.unit) : Sem _))).run P w = .ok PUnit.unit w := by
    intro l
    induction l with
    | nil => intro i _ _; rfl
    | cons f r ih =>
      intro i hfl hlen
      simp only [flds, Bool.and_eq_true] at hfl
      obtain ⟨⟨⟨ho, hn⟩, ht⟩, hr⟩ := hfl
      have ho' : f.offset = i := Nat.eq_of_beq_eq_true ho
      simp only [List.length_cons] at hlen
      have hn' : f.name ≠ "_" := by simpa using hn
      rw [List.forIn_cons]
      cases hu' : P.underlying f.type with
      | none => rw [hu'] at ht; cases ht
      | some dd =>
        cases dd <;> rw [hu'] at ht <;> try (cases ht; done)
        have hg : ∀ w, (isAgg f.type).run P w = .ok false w := fun w => by simp [isAgg, run_underlying hu', Result.andThen]
        have hi : i < X.length := by omega
        have hck : (Instr.checkKey b (d + 1) f.type (.int .i64 X[i])).run P w = .ok () w := by simp [Instr.checkKey, run_underlying hu', Result.andThen]
        rw [if_pos hn']
        simp only [Sem.run_bind]
        rw [run_part_leaf (v := .int .i64 X[i]) hg (by rw [ho', ints_get]; simp [hi])]
        simp only [Result.andThen, hck, Sem.run_pure]
        exact ih (i + 1) hr (by omega)
  unfold Instr.checkKey
  simp only [Sem.run_bind, run_underlying hu, Result.andThen]
  have := key fs.toList 0 hf (by omega)
  rw [← Array.forIn_toList, this]
  rfl

theorem run_findAsking {k : Int × Int} (hu : P.underlying kt = some (.struct fs)) (hp : P.stoodInHeld kt = false) (hf : flds P 0 fs.toList = true) (hl : Nat.beq 2 fs.toList.length = true) :
    ∀ (ms : List MapEntry) (es : List MEnt) (i : Nat), ms.map (fun e => (e.key, e.val)) = es.map mkv →
      ∃ j, (Instr.findAsking kt (.agg (ints [k.1, k.2])) ms i).run P w = .ok ((mfind es k).map fun v => (j, .int .i64 v)) w
  | [], es, i, h => by
    have : es = [] := by simpa using h.symm
    subst this
    exact ⟨0, rfl⟩
  | m :: ms, [], i, h => by simp at h
  | m :: ms, e :: es, i, h => by
    simp only [List.map_cons, List.cons.injEq, Prod.mk.injEq, mkv] at h
    obtain ⟨⟨h1, h2⟩, h3⟩ := h
    have heq := run_equal_ints (P := P) (w := w) (t := kt) (fs := fs) (xs := [k.1, k.2]) (ys := [e.1.1, e.1.2]) hu hp hf hl hl
    unfold Instr.findAsking
    simp only [Sem.run_bind, h1, heq, Result.andThen]
    by_cases hk : k = e.1
    · refine ⟨i, ?_⟩
      have : [k.1, k.2] = [e.1.1, e.1.2] := by rw [hk]
      simp [mfind, hk, h2]
    · obtain ⟨j, hj⟩ := run_findAsking hu hp hf hl (k := k) ms es (i + 1) h3
      have : ¬ [k.1, k.2] = [e.1.1, e.1.2] := by
        intro hh
        simp only [List.cons.injEq, and_true] at hh
        exact hk (Prod.ext hh.1 hh.2)
      refine ⟨j, ?_⟩
      simp only [this, decide_false, Bool.false_eq_true, if_false, mfind, hk]
      exact hj
theorem run_findKey {k : Int × Int} (hu : P.underlying kt = some (.struct fs)) (hp : P.stoodInHeld kt = false) (hf : flds P 0 fs.toList = true) (hl : Nat.beq 2 fs.toList.length = true)
    (ms : List MapEntry) (es : List MEnt) (h : ms.map (fun e => (e.key, e.val)) = es.map mkv) :
    ∃ j, (Instr.findKey kt (.agg (ints [k.1, k.2])) ms).run P w = .ok ((mfind es k).map fun v => (j, .int .i64 v)) w := by
  unfold Instr.findKey
  simp only [Sem.run_bind, run_underlying hu, Result.andThen]
  cases ms with
  | nil =>
    have : es = [] := by simpa using h.symm
    subst this
    exact ⟨0, rfl⟩
  | cons m ms =>
    have : Instr.findNow (.struct fs) (.agg (ints [k.1, k.2])) (m :: ms) 0 = none := by simp [Instr.findNow, Instr.sameNow]
    rw [this]
    exact run_findAsking hu hp hf hl (m :: ms) es 0 h
end

section
variable {P : Program} {n : Nat} {w0 : World} {S : Own} {Q : Exit → Act → World → Prop} {l : List (Nat × Value)} {H : List Ent}
variable {ops : Array Oper} {rest : List Oper} {dst : Option Tmp} {op : Op} {ty : TypeId} {pos : String} {after : Array Edge} {guard : Option (Nat × Bool)}
theorem RW.makeMap {d : Nat} {t : TypeId} (hg : wantedIn ops l guard = some true) (hd : Nat.ble n d = false)
    (h : ∀ b, RW P n w0 S ops Q rest ((d, .map (some b)) :: l) (mpE b [] :: H)) :
    RW P n w0 S ops Q ({ dst := some d, op := .makeMap t none, type := ty, pos, after, guard } :: rest) l H := fun a w hs hm => by
  refine wpList_yields (v := .map (some w.heap.size)) (w' := { w with heap := w.heap.push (.map #[] 0) }) (wanted_of hs hg) ?_ (h w.heap.size _ _ (hs.put hd) (hm.push (.map #[] 0) (mpE w.heap.size []) ?_ fun k hk => hk))
  · simp [execOp, Instr.makeMap, newObj, Sem.run, Result.andThen]
  · exact ⟨.map #[] 0, by simp, #[], 0, rfl, rfl⟩
theorem Yi.lookup {x k : Operand} {t kt e : TypeId} {fs : Array Field} {i b : Nat} {es : List MEnt} {p q : Int} (hu : P.underlying t = some (.map kt e)) (hk : P.underlying kt = some (.struct fs)) (hp : P.stoodInHeld kt = false) (hf : flds P 0 fs.toList = true)
    (hl : Nat.beq 2 fs.toList.length = true) (hz : ∀ w, (zeroValue e).run P w = .ok (.int .i64 0) w) (hx : ev l x = some (.map (some b))) (hy : ev l k = some (.agg #[.int .i64 p, .int .i64 q])) (hi : H[i]? = some (mpE b es)) :
    Yi P n w0 S { dst, op := .lookup t x k true, type := ty, pos, after, guard } l H (.tuple #[.int .i64 ((mfind es (p, q)).getD 0), .bool (mfind es (p, q)).isSome]) := fun ac w hs' hm => by
  obtain ⟨o, ho, ms, clock, rfl, hms⟩ := hm.ok _ (List.mem_of_getElem? hi)
  have hget : (getObj b).run P w = .ok (.map ms clock) w := by simp [getObj, Sem.run, ho]
  have hck := run_checkKey (P := P) (w := w) (kt := kt) (fs := fs) ms.isEmpty 9998 [p, q] hk hf (by have := Nat.eq_of_beq_eq_true hl; simpa using this)
  obtain ⟨j, hfk⟩ := run_findKey (P := P) (w := w) (k := (p, q)) hk hp hf hl ms.toList es hms
  have hag : (#[.int .i64 p, .int .i64 q] : Array Value) = ints [p, q] := rfl
  simp only [execOp, hs'.ev hx, hs'.ev hy, hag]
  unfold Instr.lookup
  simp only [Sem.run_bind, run_underlying hu, Result.andThen, hget, hck, Sem.run_pure, hfk]
  cases hfd : mfind es (p, q) with
  | none => simp [hz, Result.andThen]
  | some v => simp
theorem RW.mapPut {x k v : Operand} {t kt e : TypeId} {fs : Array Field} {i b : Nat} {es : List MEnt} {p q u : Int} (hg : wantedIn ops l guard = some true) (hu : P.underlying t = some (.map kt e)) (hk : P.underlying kt = some (.struct fs)) (hp : P.stoodInHeld kt = false) (hf : flds P 0 fs.toList = true)
    (hl : Nat.beq 2 fs.toList.length = true) (hx : ev l x = some (.map (some b))) (hy : ev l k = some (.agg #[.int .i64 p, .int .i64 q])) (hv : ev l v = some (.int .i64 u)) (hi : H[i]? = some (mpE b es)) (hno : mfind es (p, q) = none)
    (h : RW P n w0 S ops Q rest l (H.set i (mpE b (es ++ [((p, q), u)])))) :
    RW P n w0 S ops Q ({ dst := none, op := .mapUpdate t x k v, type := ty, pos, after, guard } :: rest) l H := fun ac w hs' hm => by
  obtain ⟨o, ho, ms, clock, rfl, hms⟩ := hm.ok _ (List.mem_of_getElem? hi)
  have hget : (getObj b).run P w = .ok (.map ms clock) w := by simp [getObj, Sem.run, ho]
  have hck := run_checkKey (P := P) (w := w) (kt := kt) (fs := fs) false 9998 [p, q] hk hf (by have := Nat.eq_of_beq_eq_true hl; simpa using this)
  obtain ⟨j, hfk⟩ := run_findKey (P := P) (w := w) (k := (p, q)) hk hp hf hl ms.toList es hms
  have hag : (#[.int .i64 p, .int .i64 q] : Array Value) = ints [p, q] := rfl
  rw [hno] at hfk
  unfold wpList
  rw [if_pos (wanted_of hs' hg)]
  refine .inl ?_
  unfold Oper.wp
  have hlt : b < w.heap.size := lt_of_heap ho
  have hset : ∀ ob, (setObj b ob).run P w = .ok () { w with heap := w.heap.setIfInBounds b ob } := fun ob => by simp [setObj, Sem.run, ho]
  have hrun : (execOp ac.eval { dst := none, op := .mapUpdate t x k v, type := ty, pos, after, guard }).run P w =
      .ok .skip { w with heap := w.heap.setIfInBounds b (.map (ms.push { key := .agg (ints [p, q]), val := .int .i64 u, born := clock }) (clock + 1)) } := by
    simp only [execOp, hs'.ev hx, hs'.ev hy, hs'.ev hv, hag]
    unfold Instr.mapUpdate
    simp only [Sem.run_bind, run_underlying hu, Result.andThen, hget, hck, Sem.run_pure, hfk, Option.map_none, hset]
  rw [hrun]
  simp only [Oper.upon]
  refine h _ _ hs' (hm.turn hi rfl rfl rfl rfl (by simp) ?_ (fun k hk => .inl hk) fun k hk hne => ?_)
  · exact ⟨.map (ms.push { key := .agg (ints [p, q]), val := .int .i64 u, born := clock }) (clock + 1), by simp [hlt], _, _, rfl, by simp [hms, mkv]⟩
  · have : b ≠ k := fun e => hne (by subst e; rfl)
    simp [Array.getElem?_setIfInBounds, this]
/-! ## copy into an array -/
/-- A slice's numbers put into an array from place o on, no more than n. -/
def cpy (f : Nat → Int) (o n : Nat) (xs : List Int) : Nat → Int := fun j => if o ≤ j ∧ j < o + min xs.length n then xs.getD (j - o) 0 else f j
theorem RW.copyB {x y : Operand} {t t' e e' : TypeId} {i b o m nn : Nat} {f : Nat → Int} {v : Value} {xs : List Int} {d : Nat} (hg : wantedIn ops l guard = some true) (ht : P.underlying t = some (.slice e)) (hs : ∀ w, (sizeOf e).run P w = .ok 1 w)
    (hx : ev l x = some (.slice (some ⟨b, o, none⟩) m m)) (hy : ev l y = some v) (hi : H[i]? = some (.blk b e' (cf nn (iv f)))) (hr : Rds w0 S H 1 v xs.length (ec e1 xs)) (hle : o + m ≤ nn) (hd : Nat.ble n d = false)
    (h : RW P n w0 S ops Q rest ((d, .int .i64 ((min xs.length m : Nat) : Int)) :: l) (H.set i (.blk b e' (cf nn (iv (cpy f o m xs)))))) :
    RW P n w0 S ops Q ({ dst := some d, op := .call { callee := .builtin .copy, args := #[x, y], argTypes := #[t, t'] }, type := ty, pos, after, guard } :: rest) l H := fun a w hs' hm => by
  have hrd := hr w hm
  have hlen : (Builtin.lenOf v).run P w = .ok xs.length w := by
    obtain ⟨_, _, h3⟩ := hrd
    rcases h3 with ⟨rfl | ⟨a', c, rfl⟩, h⟩ | ⟨g, off, cap, cur, t, fr, rfl, _⟩
    · simp [Builtin.lenOf, h]
    · simp [Builtin.lenOf, h]
    · simp [Builtin.lenOf]
  have hk : Nat.min xs.length m ≤ xs.length := Nat.min_le_left _ _
  have hcells : (Builtin.firstCells 1 (Nat.min xs.length m) v).run P w = .ok (ec e1 (xs.take (Nat.min xs.length m))).toArray w := by
    obtain ⟨_, _, h3⟩ := hrd
    rcases h3 with ⟨rfl | ⟨a', c, rfl⟩, h⟩ | ⟨g, off, cap, cur, t, fr, rfl, _, hgc, hc, _⟩
    · obtain rfl : xs = [] := List.eq_nil_of_length_eq_zero h
      simp [Builtin.firstCells, ec]
    · obtain rfl : xs = [] := List.eq_nil_of_length_eq_zero h
      simp [Builtin.firstCells, ec, loadCells, loadCellsFrom]
    · have hl := run_loadCells_list (P := P) w ⟨g, off, none⟩ (ec e1 (xs.take (Nat.min xs.length m))) (fun k u hk' => by
        have hk2 : k < (ec e1 (xs.take (Nat.min xs.length m))).length := (List.getElem?_eq_some_iff.1 hk').1
        rw [ec_len e1_is, Nat.mul_one, List.length_take] at hk2
        rw [add_none, cell_of_row w g _ cur t fr hgc, hc k (by omega)]
        have hkk : k * 1 + 0 = k := by omega
        have h1 := ec_get e1_is (xs := xs) (i := k) (j := 0) (d := 0) (by omega) (by omega)
        have h2 := ec_get e1_is (xs := xs.take (Nat.min xs.length m)) (i := k) (j := 0) (d := 0) (by rw [List.length_take]; omega) (by omega)
        rw [hkk] at h1 h2
        rw [h1, ← hk', h2]
        congr 2
        simp only [List.getD_eq_getElem?_getD, List.getElem?_take]
        rw [if_pos (by omega)])
      rw [ec_len e1_is, Nat.mul_one, List.length_take, Nat.min_eq_left hk] at hl
      simp only [Builtin.firstCells, Nat.mul_one, hl]
  obtain ⟨c', hrun, hsz, hget⟩ := run_storeCells_at (P := P) b e' (ec e1 (xs.take (Nat.min xs.length m))) o 0 _ w (hm.at hi) (by
    rw [ec_len e1_is, List.length_take, cf_size]; have : Nat.min xs.length m ≤ m := Nat.min_le_right _ _; omega) (ec_one e1_is _)
  have hc : c' = cf nn (iv (cpy f o m xs)) := by
    apply Array.ext_getElem?
    intro j
    rw [hget j]
    simp only [Nat.add_zero, ec_len e1_is, Nat.mul_one, List.length_take]
    have hmin : Nat.min (Nat.min xs.length m) xs.length = min xs.length m := by show min (min xs.length m) xs.length = _; omega
    have hmin' : min (Nat.min xs.length m) xs.length = min xs.length m := hmin
    rw [hmin']
    by_cases hj : j < nn
    · rw [cf_get (g := iv (cpy f o m xs)) hj]
      by_cases h2 : o ≤ j ∧ j < o + min xs.length m
      · rw [if_pos h2]
        have hkk : (j - o) * 1 + 0 = j - o := by omega
        have h3 := ec_get e1_is (xs := xs.take (Nat.min xs.length m)) (i := j - o) (j := 0) (d := 0) (by rw [List.length_take]; show j - o < min (min xs.length m) xs.length; omega) (by omega)
        rw [hkk] at h3
        rw [h3]
        simp only [e1, iv, cpy, if_pos h2, List.getElem?_cons_zero, Option.some.injEq, Value.int.injEq, true_and]
        simp only [List.getD_eq_getElem?_getD, List.getElem?_take]
        rw [if_pos (by show j - o < min xs.length m; omega)]
      · rw [if_neg h2, cf_get hj]
        simp only [iv, cpy, if_neg h2]
    · rw [if_neg (by omega), Array.getElem?_eq_none (by rw [cf_size]; omega), Array.getElem?_eq_none (by rw [cf_size]; omega)]
  subst hc
  unfold wpList
  rw [if_pos (wanted_of hs' hg)]
  refine .inl ?_
  unfold Oper.wp
  have he : (execOp a.eval { dst := some d, op := .call { callee := .builtin .copy, args := #[x, y], argTypes := #[t, t'] }, type := ty, pos, after, guard }).run P w = .ok (.value (goInt (Nat.min xs.length m))) (w.setRow b (cf nn (iv (cpy f o m xs)))) := by
    simp [execOp, resolve, invoke, builtin, Builtin.copy_, hs'.ev hx, hs'.ev hy, run_underlying ht, hs, hlen, hcells, hrun, Result.andThen]
  rw [he]
  simp only [Oper.upon]
  exact h _ _ (hs'.put hd) (hm.setRow hi _)
end
end Go.Proofs.Ytoepbakbpimkiaa.K
