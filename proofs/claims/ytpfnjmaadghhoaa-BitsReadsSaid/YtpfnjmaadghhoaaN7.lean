import Derived.Test.YtpfnjmaadghhoaaN6
/-! N, seventh part: cells of several kinds. -/
namespace Go.Proofs.Ytpfnjmaadghhoaa.K
open Go Go.RowKit

abbrev Part := Nat × (Nat → Value)
/-- One cell. -/
def p1 (v : Value) : Part := (1, fun _ => v)
def cat (ps : List Part) : Array Value := (ps.flatMap fun p => (List.range p.1).map p.2).toArray
def offs : List Part → Nat → Nat
  | [], _ => 0
  | _, 0 => 0
  | p :: r, j + 1 => p.1 + offs r j
def tot : List Part → Nat
  | [] => 0
  | p :: r => p.1 + tot r
theorem cat_nil : cat [] = #[] := rfl
theorem cat_cons (p : Part) (r : List Part) : cat (p :: r) = cf p.1 p.2 ++ cat r := by simp [cat, cf]
theorem cat_append (a b : List Part) : cat (a ++ b) = cat a ++ cat b := by simp [cat]
theorem cat_size : ∀ ps : List Part, (cat ps).size = tot ps
  | [] => rfl
  | p :: r => by rw [cat_cons, Array.size_append, cf_size, cat_size r]; rfl
theorem tot_append : ∀ a b : List Part, tot (a ++ b) = tot a + tot b
  | [], b => by simp [tot]
  | p :: r, b => by simp only [List.cons_append, tot, tot_append r b]; omega
theorem cat_one (m : Nat) (g : Nat → Value) : cat [(m, g)] = cf m g := by simp [cat, cf]
theorem offs_split : ∀ (ps : List Part) (j : Nat) (p : Part), ps[j]? = some p → offs ps j = tot (ps.take j) ∧ ps = ps.take j ++ p :: ps.drop (j + 1)
  | [], j, p, h => by simp at h
  | q :: r, 0, p, h => by simp at h; subst h; simp [offs, tot]
  | q :: r, j + 1, p, h => by
    obtain ⟨h1, h2⟩ := offs_split r j p (by simpa using h)
    refine ⟨by simp only [offs, List.take_succ_cons, tot, h1], ?_⟩
    simp only [List.take_succ_cons, List.drop_succ_cons, List.cons_append]
    rw [← h2]
theorem cat_get' {ps : List Part} {m i o : Nat} {g : Nat → Value} (j : Nat) (hj : ps[j]? = some (m, g)) (hi : i < m) (ho : offs ps j + i = o) : (cat ps)[o]? = some (g i) := by
  obtain ⟨h1, h2⟩ := offs_split ps j _ hj
  subst ho
  have e : cat ps = cat (ps.take j) ++ (cf m g ++ cat (ps.drop (j + 1))) := by
    conv => lhs; rw [h2]
    rw [cat_append, cat_cons]
  rw [e, Array.getElem?_append_right (by rw [cat_size, h1]; omega), cat_size, h1, Nat.add_sub_cancel_left, Array.getElem?_append_left (by rw [cf_size]; exact hi), cf_get hi]
theorem cat_get1 {ps : List Part} {o : Nat} {v : Value} (j : Nat) (hj : ps[j]? = some (p1 v)) (ho : offs ps j = o) : (cat ps)[o]? = some v :=
  cat_get' (i := 0) j hj (by omega) (by rw [ho]; omega)
theorem cat_set' {ps : List Part} {m i o : Nat} {g : Nat → Value} {v : Value} (j : Nat) (hj : ps[j]? = some (m, g)) (hi : i < m) (ho : offs ps j + i = o) : (cat ps).setIfInBounds o v = cat (ps.set j (m, upd g i v)) := by
  obtain ⟨h1, h2⟩ := offs_split ps j _ hj
  subst ho
  have hl : j < ps.length := (List.getElem?_eq_some_iff.1 hj).1
  have e : cat ps = cat (ps.take j) ++ (cf m g ++ cat (ps.drop (j + 1))) := by
    conv => lhs; rw [h2]
    rw [cat_append, cat_cons]
  have e' : cat (ps.set j (m, upd g i v)) = cat (ps.take j) ++ (cf m (upd g i v) ++ cat (ps.drop (j + 1))) := by
    rw [List.set_eq_take_append_cons_drop, if_pos hl, cat_append, cat_cons]
  have hs : (cat (ps.take j)).size = offs ps j := by rw [cat_size, h1]
  rw [e, e', Array.setIfInBounds_append, if_neg (by omega), Array.setIfInBounds_append, if_pos (by rw [cf_size]; omega), hs, Nat.add_sub_cancel_left, cf_set]
theorem cat_set1 {ps : List Part} {o : Nat} {u v : Value} (j : Nat) (hj : ps[j]? = some (p1 u)) (ho : offs ps j = o) : (cat ps).setIfInBounds o v = cat (ps.set j (p1 v)) := by
  rw [cat_set' (i := 0) j hj (by omega) (by rw [ho]; omega)]
  obtain ⟨_, h2⟩ := offs_split ps j _ hj
  have hl : j < ps.length := (List.getElem?_eq_some_iff.1 hj).1
  rw [List.set_eq_take_append_cons_drop, if_pos hl, List.set_eq_take_append_cons_drop, if_pos hl, cat_append, cat_append, cat_cons, cat_cons]
  congr 2
theorem cat_ext {A X B : List Part} {o e : Nat} (ho : tot A = o) (he : tot A + tot X = e) : (cat (A ++ X ++ B)).extract o e = cat X := by
  subst ho; subst he
  rw [cat_append, cat_append]
  apply Array.ext_getElem?
  intro k
  rw [Array.getElem?_extract]
  simp only [Array.size_append, cat_size]
  by_cases hk : k < tot X
  · rw [if_pos (by omega), Array.getElem?_append_left (by simp [cat_size]; omega), Array.getElem?_append_right (by rw [cat_size]; omega), cat_size, Nat.add_sub_cancel_left]
  · rw [if_neg (by omega), Array.getElem?_eq_none (by rw [cat_size]; omega)]
theorem cat_part {ps : List Part} {nn m i o e : Nat} {g : Nat → Value} (j : Nat) (hj : ps[j]? = some (nn, g)) (hi : i + m ≤ nn) (ho : offs ps j + i = o) (he : o + m = e) : (cat ps).extract o e = cf m (shf g i) := by
  subst he
  apply Array.ext_getElem?
  intro k
  rw [Array.getElem?_extract]
  obtain ⟨h1, h2⟩ := offs_split ps j _ hj
  have htot : offs ps j + nn ≤ tot ps := by
    have : tot ps = tot (ps.take j) + (nn + tot (ps.drop (j + 1))) := by
      conv => lhs; rw [h2]
      rw [tot_append]; rfl
    omega
  by_cases hk : k < m
  · rw [if_pos (by rw [cat_size]; omega), cf_get hk, cat_get' (i := i + k) j hj (by omega) (by omega)]
    rfl
  · rw [if_neg (by omega), Array.getElem?_eq_none (by rw [cf_size]; omega)]
theorem cat_spl {A X B Y : List Part} (h : tot X = tot Y) {cs' : Array Value} (_ : cs'.size = (cat (A ++ X ++ B)).size)
    (hget : ∀ i, cs'[i]? = if tot A ≤ i ∧ i < tot A + tot Y then (cat Y)[i - tot A]? else (cat (A ++ X ++ B))[i]?) : cs' = cat (A ++ Y ++ B) := by
  apply Array.ext_getElem?
  intro i
  rw [hget i]
  simp only [cat_append]
  have sA := cat_size A
  have sX := cat_size X
  have sY := cat_size Y
  by_cases h1 : i < tot A
  · rw [if_neg (by omega), Array.getElem?_append_left (by simp; omega), Array.getElem?_append_left (by omega), Array.getElem?_append_left (by simp; omega), Array.getElem?_append_left (by omega)]
  · by_cases h2 : i < tot A + tot Y
    · rw [if_pos (by omega), Array.getElem?_append_left (by simp; omega), Array.getElem?_append_right (by omega), sA]
    · rw [if_neg (by omega), Array.getElem?_append_right (by simp; omega), Array.getElem?_append_right (by simp; omega)]
      simp only [Array.size_append, sA, sX, sY, h]

section
variable {P : Program} {n : Nat} {w0 : World} {S : Own} {Q : Exit → Act → World → Prop} {l : List (Nat × Value)} {H : List Ent}
variable {ops : Array Oper} {rest : List Oper} {dst : Option Tmp} {op : Op} {ty : TypeId} {pos : String} {after : Array Edge} {guard : Option (Nat × Bool)}
/-- A part of a block written, in whatever words. -/
theorem RW.storeQ {x y : Operand} {t t' : TypeId} {i b j m : Nat} {us cs cs' : Array Value} (hg : wantedIn ops l guard = some true) (hx : ev l x = some (.pointer (some ⟨b, j, none⟩))) (hy : ev l y = some (.agg us))
    (hi : H[i]? = some (.blk b t' cs)) (hs : ∀ w, (sizeOf t).run P w = .ok m w) (hm : us.size = m) (hj : j + m ≤ cs.size) (ho : ∀ u ∈ us.toList, u.oneCell' = true)
    (hcs : ∀ c' : Array Value, c'.size = cs.size → (∀ i, c'[i]? = if j ≤ i ∧ i < j + m then us[i - j]? else cs[i]?) → c' = cs')
    (h : RW P n w0 S ops Q rest l (H.set i (.blk b t' cs'))) :
    RW P n w0 S ops Q ({ dst := none, op := .store t x y, type := ty, pos, after, guard } :: rest) l H := fun a w hs' hmem => by
  unfold wpList
  rw [if_pos (wanted_of hs' hg)]
  refine .inl ?_
  unfold Oper.wp
  subst hm
  obtain ⟨c', hr, hsz, hget⟩ := run_storeCells_at (P := P) b t' us.toList j 0 _ w (hmem.at hi) (by simp; omega) ho
  have hc : c' = cs' := hcs c' hsz fun k => by rw [hget k]; simp
  subst hc
  have he : (execOp a.eval { dst := none, op := .store t x y, type := ty, pos, after, guard }).run P w = .ok .skip (w.setRow b c') := by
    simp [execOp, Instr.storeAt, Instr.sureAddr, hs'.ev hx, hs'.ev hy, storeVar, hs, Value.cells, hr, Result.andThen]
  rw [he]
  exact h _ _ hs' (hmem.setRow hi _)
/-- One cell of several kinds, told by a slice of a row or of a fact. -/
theorem rd_one {sz m : Nat} {v : Value} {cs : List Value} {w : World} (h : Rd sz w v m cs) : v.cells = #[v] ∧ v.oneCell' = true := by
  obtain ⟨_, _, h2⟩ := h
  rcases h2 with ⟨rfl | ⟨a, c, rfl⟩, _⟩ | ⟨g, off, cap, cur, t, fr, rfl, _⟩
  · exact ⟨rfl, rfl⟩
  · exact ⟨rfl, rfl⟩
  · exact ⟨rfl, rfl⟩
theorem RW.storeS {x y : Operand} {t t' : TypeId} {i b j m sz : Nat} {cs cs' : Array Value} {vs : List Value} {v : Value} (hr : Rds w0 S H sz v m vs) (hg : wantedIn ops l guard = some true) (hx : ev l x = some (.pointer (some ⟨b, j, none⟩))) (hy : ev l y = some v)
    (hi : H[i]? = some (.blk b t' cs)) (hs : ∀ w, (sizeOf t).run P w = .ok 1 w) (hj : j < cs.size) (hcs : cs.setIfInBounds j v = cs')
    (h : RW P n w0 S ops Q rest l (H.set i (.blk b t' cs'))) :
    RW P n w0 S ops Q ({ dst := none, op := .store t x y, type := ty, pos, after, guard } :: rest) l H := fun a w hs' hm =>
  RW.store1 hg hx hy hi hs (rd_one (hr w hm)).1 (rd_one (hr w hm)).2 hj hcs h a w hs' hm
theorem cf2 (f : Nat → Int) : cf 2 (iv f) = #[.int .i64 (f 0), .int .i64 (f 1)] := rfl
theorem shf_zero {α : Type} (f : Nat → α) : shf f 0 = f := by funext j; simp [shf]
theorem ek_get {n j : Nat} {f : Nat → Int} (h : j < n) : (ek n f)[j]? = some (.int .i64 (f j)) := by simp [ek, h, iv]
theorem ek_set (n j : Nat) (f : Nat → Int) (x : Int) : (ek n f).set j (.int .i64 x) = ek n (upd f j x) := by
  apply List.ext_getElem?
  intro k
  rw [List.getElem?_set]
  simp only [ek, List.length_map, List.length_range]
  by_cases h : j = k
  · subst h
    by_cases hj : j < n
    · simp [hj, iv, upd_same]
    · simp [hj]
  · by_cases hk : k < n
    · simp [hk, iv, h, upd_other f x h]
    · simp [hk, h]
theorem ec_setA {α : Type} {enc : α → List Value} {sz : Nat} (he : IsEnc enc sz) {y : α} : ∀ {xs : List α} {i : Nat}, i < xs.length → (ec enc xs).take (i * sz) ++ enc y ++ (ec enc xs).drop (i * sz + sz) = ec enc (xs.set i y)
  | [], i, hi => by simp at hi
  | x :: r, 0, _ => by
    have := ec_drop he 1 (x :: r)
    simp only [Nat.one_mul, List.drop_succ_cons, List.drop_zero] at this
    simp only [Nat.zero_mul, Nat.zero_add, List.take_zero, List.nil_append, this, List.set_cons_zero]
    simp [ec]
  | x :: r, i + 1, hi => by
    have ih := ec_setA he (y := y) (xs := r) (i := i) (by simpa using hi)
    simp only [List.set_cons_succ]
    have e1 : (ec enc (x :: r)) = enc x ++ ec enc r := by simp [ec]
    have e2 : (ec enc (x :: r.set i y)) = enc x ++ ec enc (r.set i y) := by simp [ec]
    rw [e1, e2, ← ih, Nat.succ_mul, List.take_append, List.drop_append, he.len]
    rw [List.take_of_length_le (by rw [he.len]; omega), List.drop_eq_nil_of_le (by rw [he.len]; omega)]
    rw [show i * sz + sz - sz = i * sz by omega, show i * sz + sz + sz - sz = i * sz + sz by omega]
    simp [List.append_assoc]
theorem ones_cat {ps : List Part} (h : ∀ p ∈ ps, ∀ i, (p.2 i).oneCell' = true) : ∀ u ∈ (cat ps).toList, u.oneCell' = true := fun u hu => by
  simp only [cat, List.mem_flatMap, List.mem_map] at hu
  obtain ⟨p, hp, i, _, rfl⟩ := hu
  exact h p hp i
theorem ones_nil : ∀ p ∈ ([] : List Part), ∀ i, (p.2 i).oneCell' = true := fun _ h => by simp at h
theorem ones_cons {p : Part} {ps : List Part} (h1 : ∀ i, (p.2 i).oneCell' = true) (h2 : ∀ p ∈ ps, ∀ i, (p.2 i).oneCell' = true) : ∀ q ∈ p :: ps, ∀ i, (q.2 i).oneCell' = true := fun q hq => by
  rcases List.mem_cons.1 hq with rfl | hq
  · exact h1
  · exact h2 q hq
theorem RW.conv1 {p : Prop} (f : ∀ w, Mem w0 S H w → p) (h : p → RW P n w0 S ops Q rest l H) : RW P n w0 S ops Q rest l H := fun a w hs hm => h (f w hm) a w hs hm
theorem Mem.rowlen {w : World} {e : TypeId} {sz m m' i : Nat} {v : Value} {cs : List Value} (h : Mem w0 S H w) (hi : H[i]? = some (.row v e sz m cs)) (hm : m = m') : Mem w0 S (H.set i (.row v e sz m' cs)) w := by
  subst hm
  obtain ⟨hil, hiv⟩ := List.getElem?_eq_some_iff.1 hi
  have : H.set i (.row v e sz m cs) = H := by rw [← hiv]; exact List.set_getElem_self hil
  rw [this]; exact h
theorem Mem.roLen {w : World} {sz m m' : Nat} {v : Value} {cs : List Value} {H : List Ent} (h : Mem w0 S (ro v sz m cs :: H) w) (_ : True = True) (hm : m = m') : Mem w0 S (ro v sz m' cs :: H) w := by subst hm; exact h
theorem cf_upd2 {m o : Nat} {f : Nat → Int} {a b : Int} {c' : Array Value} (hs : c'.size = (cf m (iv f)).size) (hget : ∀ i, c'[i]? = if o ≤ i ∧ i < o + 2 then (#[Value.int .i64 a, .int .i64 b])[i - o]? else (cf m (iv f))[i]?) (ho : o + 2 ≤ m) :
    c' = cf m (iv (upd (upd f o a) (o + 1) b)) := by
  apply Array.ext_getElem?
  intro i
  rw [hget i]
  by_cases hi : i < m
  · rw [cf_get (g := iv (upd (upd f o a) (o + 1) b)) hi]
    by_cases h1 : i = o
    · subst h1; rw [if_pos (by omega)]; simp [iv, upd_apply]
    · by_cases h2 : i = o + 1
      · subst h2; rw [if_pos (by omega)]; simp [iv, upd_apply]
      · rw [if_neg (by omega), cf_get hi]; simp only [iv, upd_apply]; rw [if_neg (by omega), if_neg (by omega)]
  · rw [if_neg (by omega), Array.getElem?_eq_none (by rw [cf_size]; omega), Array.getElem?_eq_none (by rw [cf_size]; omega)]
theorem cat_upd2 {ps : List Part} {m i o : Nat} {f : Nat → Int} {a b : Int} {c' : Array Value} (j : Nat) (hj : ps[j]? = some (m, iv f)) (hi : i + 2 ≤ m) (ho : offs ps j + i = o)
    (hs : c'.size = (cat ps).size) (hget : ∀ k, c'[k]? = if o ≤ k ∧ k < o + 2 then (#[Value.int .i64 a, .int .i64 b])[k - o]? else (cat ps)[k]?) :
    c' = cat (ps.set j (m, iv (upd (upd f i a) (i + 1) b))) := by
  have hl : j < ps.length := (List.getElem?_eq_some_iff.1 hj).1
  have h1 := cat_set' (v := .int .i64 a) j hj (show i < m by omega) ho
  have h2 := cat_set' (ps := ps.set j (m, upd (iv f) i (.int .i64 a))) (v := .int .i64 b) (i := i + 1) (o := o + 1) (m := m) (g := upd (iv f) i (.int .i64 a)) j (by simp [hl]) (by omega) (by
    have : offs (ps.set j (m, upd (iv f) i (.int .i64 a))) j = offs ps j := by
      clear h1 hget hs hi ho
      induction ps generalizing j with
      | nil => simp at hl
      | cons p r ih =>
        cases j with
        | zero => simp [offs]
        | succ j => simp only [List.set_cons_succ, offs]; rw [ih j (by simpa using hj) (by simpa using hl)]
    rw [this]; omega)
  rw [List.set_set, iv_upd, iv_upd] at h2
  rw [iv_upd] at h1
  rw [← h2, ← h1]
  have ht : (cat ps)[o]? ≠ none := by rw [cat_get' j hj (show i < m by omega) ho]; simp
  have ht1 : (cat ps)[o + 1]? ≠ none := by rw [cat_get' (i := i + 1) j hj (by omega) (show offs ps j + (i + 1) = o + 1 by omega)]; simp
  have l0 : o < (cat ps).size := by
    rcases Nat.lt_or_ge o (cat ps).size with h | h
    · exact h
    · exact absurd (Array.getElem?_eq_none h) ht
  have l1 : o + 1 < (cat ps).size := by
    rcases Nat.lt_or_ge (o + 1) (cat ps).size with h | h
    · exact h
    · exact absurd (Array.getElem?_eq_none h) ht1
  apply Array.ext_getElem?
  intro k
  rw [hget k, Array.getElem?_setIfInBounds, Array.getElem?_setIfInBounds]
  simp only [Array.size_setIfInBounds]
  by_cases k0 : k = o
  · subst k0; rw [if_pos (by omega), if_neg (by omega), if_pos rfl, if_pos l0]; simp
  · by_cases k1 : k = o + 1
    · subst k1; rw [if_pos (by omega), if_pos rfl, if_pos l1]; simp
    · rw [if_neg (by omega), if_neg (by omega), if_neg (by omega)]
theorem quiet_of {f : FuncId} {args : Array Value} {v : Value} {w : World} {L : List Ent} (hm : Mem w S L w) (h : Calls P f args w (fun e w' => e = .returned v ∧ Below w.heap.size w w')) :
    Calls P f args w (fun e w' => e = .returned v ∧ Mem w S [] w') :=
  h.mono fun _ _ ⟨he, hb⟩ => ⟨he, (hm.sub (List.nil_sublist _)).after hb⟩
theorem RW.boxC {d : Nat} {x : Operand} {t : TypeId} {v : Value} (cs : Array Value) (hcs : v.cells = cs) (hg : wantedIn ops l guard = some true) (hd : Nat.ble n d = false) (hx : ev l x = some v)
    (h : ∀ b, RW P n w0 S ops Q rest ((d, .pointer (some ⟨b, 0, none⟩)) :: l) (.blk b t cs :: H)) :
    RW P n w0 S ops Q ({ dst := some d, op := .box t x, type := ty, pos, after, guard } :: rest) l H := by subst hcs; exact RW.box hg hd hx h
theorem rd_slice {sz m : Nat} {v : Value} {cs : List Value} {w : World} (h : Rd sz w v m cs) : ∃ a n c, v = .slice a n c := by
  obtain ⟨_, _, h2⟩ := h
  rcases h2 with ⟨rfl | ⟨a, c, rfl⟩, _⟩ | ⟨g, off, cap, cur, t, fr, rfl, _⟩ <;> exact ⟨_, _, _, rfl⟩
theorem Yi.buildM {t : TypeId} {parts : Array (Nat × Operand)} {ps : List Operand} {vs : List Value} (v : Value) (hps : parts.toList.map (·.2) = ps) (hv : evs l ps = some vs)
    (h : ∀ w, Mem w0 S H w → (Instr.build t ((parts.toList.map (·.1)).zip vs).toArray).run P w = .ok v w) :
    Yi P n w0 S { dst, op := .build t parts, type := ty, pos, after, guard } l H v := fun a w hs' hm => by
  have he : (parts.map fun (i, x) => (i, a.eval x)) = ((parts.toList.map (·.1)).zip vs).toArray := by
    rw [← hs'.evs hv, ← hps]
    apply Array.ext'
    rw [Array.toList_map]
    generalize parts.toList = ps
    induction ps with
    | nil => rfl
    | cons p r ih => simp [ih]
  simp only [execOp, he, Sem.run_bind, h w hm, Result.andThen, Sem.run_pure]
theorem Yi.fieldAddr' {x : Operand} {t : TypeId} {fs : Array Field} {f : Field} {j m b o : Nat} (o' k : Nat) (hu : P.underlying t = some (.struct fs)) (hf : fs[j]? = some f)
    (hs : ∀ w, (sizeOf f.type).run P w = .ok (m + 1) w) (hx : ev l x = some (.pointer (some ⟨b, o, none⟩))) (hk : f.offset = k) (ho : o + k = o') :
    Yi P n w0 S { dst, op := .fieldAddr t x j, type := ty, pos, after, guard } l H (.pointer (some ⟨b, o', none⟩)) := by
  subst ho; subst hk; exact Yi.fieldAddr hu hf hs hx
theorem Yi.fieldE {x : Operand} {t : TypeId} {fs : Array Field} {f : Field} {j m sz i k : Nat} {v : Value} (hu : P.underlying t = some (.struct fs)) (hf : fs[j]? = some f)
    (hs : ∀ w, (sizeOf f.type).run P w = .ok (m + 1) w) (hx : ev l x = some (.pointer (some (eaddr v sz i k)))) :
    Yi P n w0 S { dst, op := .fieldAddr t x j, type := ty, pos, after, guard } l H (.pointer (some (eaddr v sz i (k + f.offset)))) := fun a w hs' _ => by
  have e : (eaddr v sz i k).add f.offset = eaddr v sz i (k + f.offset) := by
    cases v with
    | slice a' len cap => cases a' <;> simp [eaddr, add_none, Nat.add_assoc]
    | _ => simp [eaddr, add_none, Nat.add_assoc]
  simp [execOp, Instr.fieldAt, hs'.ev hx, Instr.sureAddr, run_underlying hu, hf, fieldPlace, hs, e, Result.andThen]
theorem Yi.idxE {x ix : Operand} {t e : TypeId} {len sz i j : Nat} {k : IntKind} {q : Int} {v : Value} (j' : Nat) (hu : P.underlying t = some (.array len e)) (hs : ∀ w, (sizeOf e).run P w = .ok 1 w)
    (hx : ev l x = some (.pointer (some (eaddr v sz i j)))) (hi : ev l ix = some (.int k q)) (h0 : 0 ≤ q) (h1 : q < (len : Int)) (hj : j + q.toNat = j') :
    Yi P n w0 S { dst, op := .indexAddr t x ix, type := ty, pos, after, guard } l H (.pointer (some (eaddr v sz i j'))) := fun a w hs' _ => by
  subst hj
  have e : (eaddr v sz i j).add q.toNat = eaddr v sz i (j + q.toNat) := by
    cases v with
    | slice a' len cap => cases a' <;> simp [eaddr, add_none, Nat.add_assoc]
    | _ => simp [eaddr, add_none, Nat.add_assoc]
  simp [execOp, Instr.indexAt, hs'.ev hx, hs'.ev hi, asIntOf, run_underlying hu, Instr.sureAddr, h0, h1, hs, e, Result.andThen]
theorem Yi.lenN {x : Operand} {t e : TypeId} (hx : ev l x = some (.slice none 0 0)) (hu : P.underlying t = some (.slice e)) :
    Yi P n w0 S { dst, op := .call { callee := .builtin .len, args := #[x], argTypes := #[t] }, type := ty, pos, after, guard } l H (.int .i64 0) := fun a w hs' _ => by
  simp [execOp, resolve, invoke, builtin, Builtin.len_, hs'.ev hx, run_underlying hu, goInt, Result.andThen]
theorem run_eq_nilS {w : World} {t e : TypeId} (d : Nat) (A : Option Addr) (m c : Nat) (hu : P.underlying t = some (.slice e)) : (Op.equalIn (d + 1) t (.slice A m c) (.slice none 0 0)).run P w = .ok A.isNone w := by
  cases A <;> simp [Op.equalIn, run_underlying hu, Result.andThen]
theorem Yi.eqNilS {x y : Operand} {t t' e : TypeId} {A : Option Addr} {m c : Nat} (b : Bool) (hx : ev l x = some (.slice A m c)) (hy : ev l y = some (.slice none 0 0)) (hu : P.underlying t = some (.slice e)) (hb : A.isNone = b) :
    Yi P n w0 S { dst, op := .binOp .eql t x y t', type := ty, pos, after, guard } l H (.bool b) := fun ac w hs' _ => by
  have h : (Op.equal t (.slice A m c) (.slice none 0 0)).run P w = .ok b w := by subst hb; exact run_eq_nilS 9999 A m c hu
  simp [execOp, hs'.ev hx, hs'.ev hy, eqGuard, binOp, h, Result.andThen]
end
end Go.Proofs.Ytpfnjmaadghhoaa.K
