import Derived.Test.YtoepbakbpimkiaaN3
import Derived.Laws.AppendOwn
import Derived.Laws.OwnMore
/-! N, fourth part: slices: what can be read; rows of the call's own that grow. -/
namespace Go.Proofs.Ytoepbakbpimkiaa.K
open Go Go.RowKit

def Bnd (z : Int) : Prop := -9223372036854775808 ≤ z ∧ z ≤ 9223372036854775807
def Byt (z : Int) : Prop := 0 ≤ z ∧ z ≤ 255
/-- Elements as cells: each by 'enc'. -/
def ec {α : Type} (enc : α → List Value) (xs : List α) : List Value := xs.flatMap enc
def e1 (x : Int) : List Value := [.int .i64 x]
def eb (x : Int) : List Value := [.int .u8 x]
def e2 (x : Int × Int) : List Value := [.int .i64 x.1, .int .i64 x.2]
def e3 (x : Int × Int × Int) : List Value := [.int .i64 x.1, .int .i64 x.2.1, .int .i64 x.2.2]
def ek (n : Nat) (f : Nat → Int) : List Value := (List.range n).map (iv f)
structure IsEnc {α : Type} (enc : α → List Value) (sz : Nat) : Prop where
  len : ∀ x, (enc x).length = sz
  one : ∀ x, ∀ u ∈ enc x, u.oneCell' = true
theorem e1_is : IsEnc e1 1 := ⟨fun _ => rfl, fun x u hu => by simp [e1] at hu; subst hu; rfl⟩
theorem eb_is : IsEnc eb 1 := ⟨fun _ => rfl, fun x u hu => by simp [eb] at hu; subst hu; rfl⟩
theorem e2_is : IsEnc e2 2 := ⟨fun _ => rfl, fun x u hu => by simp [e2] at hu; rcases hu with rfl | rfl <;> rfl⟩
theorem e3_is : IsEnc e3 3 := ⟨fun _ => rfl, fun x u hu => by simp [e3] at hu; rcases hu with rfl | rfl | rfl <;> rfl⟩
theorem ek_is (n : Nat) : IsEnc (ek n) n := ⟨fun _ => by simp [ek], fun x u hu => by simp [ek] at hu; obtain ⟨_, _, rfl⟩ := hu; rfl⟩
section
variable {α : Type} {enc : α → List Value} {sz : Nat}
theorem ec_len (he : IsEnc enc sz) (xs : List α) : (ec enc xs).length = xs.length * sz := by
  induction xs with
  | nil => simp [ec]
  | cons x r ih => simp only [ec, List.flatMap_cons, List.length_append, he.len, List.length_cons] at *; rw [ih, Nat.succ_mul]; omega
theorem ec_nil (enc : α → List Value) : ec enc [] = [] := rfl
theorem ec_append (enc : α → List Value) (xs ys : List α) : ec enc xs ++ ec enc ys = ec enc (xs ++ ys) := by simp [ec]
theorem ec_one (he : IsEnc enc sz) (xs : List α) : ∀ u ∈ ec enc xs, u.oneCell' = true := fun u hu => by
  simp only [ec, List.mem_flatMap] at hu
  obtain ⟨x, _, hu⟩ := hu
  exact he.one x u hu
theorem ec_drop (he : IsEnc enc sz) : ∀ (i : Nat) (xs : List α), (ec enc xs).drop (i * sz) = ec enc (xs.drop i)
  | 0, xs => by simp
  | i + 1, [] => by simp [ec]
  | i + 1, x :: r => by
    have := ec_drop he i r
    simp only [ec, List.flatMap_cons, List.drop_succ_cons] at *
    rw [Nat.succ_mul, Nat.add_comm, ← List.drop_drop, show (enc x ++ List.flatMap enc r).drop sz = List.flatMap enc r by rw [← he.len x]; simp, this]
theorem ec_take (he : IsEnc enc sz) : ∀ (i : Nat) (xs : List α), (ec enc xs).take (i * sz) = ec enc (xs.take i)
  | 0, xs => by simp [ec]
  | i + 1, [] => by simp [ec]
  | i + 1, x :: r => by
    have := ec_take he i r
    simp only [ec, List.flatMap_cons, List.take_succ_cons] at *
    rw [Nat.succ_mul, Nat.add_comm, List.take_add, ← this]
    congr 1
    · rw [← he.len x]; simp
    · rw [← he.len x]; simp
theorem ec_elem (he : IsEnc enc sz) {xs : List α} {i : Nat} (d : α) (hi : i < xs.length) : ((ec enc xs).drop (i * sz)).take sz = enc (xs.getD i d) := by
  rw [ec_drop he, List.drop_eq_getElem_cons hi]
  simp only [ec, List.flatMap_cons]
  rw [← he.len xs[i], List.take_left, List.getD_eq_getElem?_getD, List.getElem?_eq_getElem hi]
  rfl
theorem ec_get (he : IsEnc enc sz) {xs : List α} {i j : Nat} {d : α} (hi : i < xs.length) (hj : j < sz) : (ec enc xs)[i * sz + j]? = (enc (xs.getD i d))[j]? := by
  rw [← ec_elem he d hi, List.getElem?_take, if_pos hj, List.getElem?_drop]
theorem ec_set (he : IsEnc enc sz) {d : α} {v : Value} {y : α} {j : Nat} (hj : j < sz) : ∀ {xs : List α} {i : Nat}, i < xs.length → (enc (xs.getD i d)).set j v = enc y → (ec enc xs).set (i * sz + j) v = ec enc (xs.set i y)
  | [], i, hi, _ => by simp at hi
  | x :: r, 0, _, h => by
    simp only [List.getD_cons_zero] at h
    simp only [ec, List.flatMap_cons, List.set_cons_zero, Nat.zero_mul, Nat.zero_add]
    rw [List.set_append, if_pos (by rw [he.len]; exact hj), h]
  | x :: r, i + 1, hi, h => by
    simp only [List.getD_cons_succ] at h
    have := ec_set he hj (xs := r) (i := i) (by simpa using hi) h
    simp only [ec, List.flatMap_cons, List.set_cons_succ] at *
    rw [List.set_append, if_neg (by rw [he.len, Nat.succ_mul]; omega), he.len]
    rw [show (i + 1) * sz + j - sz = i * sz + j by rw [Nat.succ_mul]; omega, this]
end

/-- A slice without elements. -/
def Nul (v : Value) : Prop := v = .slice none 0 0 ∨ ∃ a c, v = .slice (some a) 0 c
/-- The block that is read through a slice. -/
def rdB : Value → List Nat
  | .slice (some a) (_ + 1) _ => [a.block]
  | _ => []
/-- A slice that can be read: n elements of sz cells. -/
def Rd (sz : Nat) (w : World) (v : Value) (n : Nat) (cs : List Value) : Prop :=
  cs.length = n * sz ∧ n ≤ 9223372036854775807 ∧ ((Nul v ∧ n = 0) ∨
    ∃ g off cap cur t fr, v = .slice (some ⟨g, off, none⟩) n cap ∧ n ≤ cap ∧ w.heap[g]? = some (.cells cur t fr) ∧ (∀ j, j < n * sz → cur[off + j]? = cs[j]?) ∧ 0 < n)
/-- The address of an element's cell. -/
def eaddr (v : Value) (sz i j : Nat) : Addr :=
  match v with
  | .slice (some a) _ _ => ⟨a.block, a.off + i * sz + j, none⟩
  | _ => ⟨0, i * sz + j, none⟩

theorem Rd.of_own {sz B n : Nat} {w : World} {e : TypeId} {v : Value} {cs : List Value} (h : w.ownsRow B e sz v n cs) : Rd sz w v n cs := by
  obtain ⟨h1, h2⟩ := h
  rcases h2 with ⟨rfl, rfl⟩ | ⟨g, cap, cur, rfl, hb, hg, hn, hm, hsz, htk⟩
  · exact ⟨h1, by omega, .inl ⟨.inl rfl, rfl⟩⟩
  · rcases Nat.eq_zero_or_pos n with rfl | h0
    · exact ⟨h1, by omega, .inl ⟨.inr ⟨_, _, rfl⟩, rfl⟩⟩
    · refine ⟨h1, by unfold maxLen at hm; omega, .inr ⟨g, 0, cap, cur, e, (0, 0), rfl, hn, hg, fun j hj => ?_, h0⟩⟩
      rw [← htk, List.getElem?_take, if_pos hj, Nat.zero_add, Array.getElem?_toList]
theorem rdB_some (g off n cap : Nat) (h : 0 < n) : rdB (.slice (some ⟨g, off, none⟩) n cap) = [g] := by
  obtain ⟨m, rfl⟩ : ∃ m, n = m + 1 := ⟨n - 1, by omega⟩
  rfl
theorem rdB_own (v : Value) : ∀ k ∈ rdB v, v.ownBlock = some k := by
  intro k hk
  unfold rdB at hk
  split at hk
  · simp at hk; subst hk; rfl
  · cases hk
theorem Rd.keep {sz n : Nat} {w w' : World} {v : Value} {cs : List Value} (h : Rd sz w v n cs) (hk : ∀ k ∈ rdB v, w'.heap[k]? = w.heap[k]?) : Rd sz w' v n cs := by
  obtain ⟨h1, h2, h3⟩ := h
  refine ⟨h1, h2, ?_⟩
  rcases h3 with h3 | ⟨g, off, cap, cur, t, fr, rfl, hn, hg, hc, h0⟩
  · exact .inl h3
  · exact .inr ⟨g, off, cap, cur, t, fr, rfl, hn, (hk g (by rw [rdB_some _ _ _ _ h0]; simp)).trans hg, hc, h0⟩

section
variable {P : Program} {n : Nat} {w0 : World} {S : Own} {Q : Exit → Act → World → Prop} {l : List (Nat × Value)} {H : List Ent}
variable {ops : Array Oper} {rest : List Oper} {dst : Option Tmp} {op : Op} {ty : TypeId} {pos : String} {after : Array Edge} {guard : Option (Nat × Bool)}

/-- A slice that can be read, and stays. -/
def ro (v : Value) (sz n : Nat) (cs : List Value) : Ent := .fact (rdB v) fun w => Rd sz w v n cs
theorem stable_ro (v : Value) (sz n : Nat) (cs : List Value) : Stable (rdB v) fun w => Rd sz w v n cs := fun _ _ h hw => hw.keep h
theorem Rd.lt {sz n : Nat} {w : World} {v : Value} {cs : List Value} (h : Rd sz w v n cs) : ∀ k ∈ rdB v, k < w.heap.size := fun k hk => by
  obtain ⟨_, _, h3⟩ := h
  rcases h3 with ⟨h, _⟩ | ⟨g, off, cap, cur, t, fr, rfl, _, hg, _, h0⟩
  · rcases h with rfl | ⟨a, c, rfl⟩ <;> simp [rdB] at hk
  · rw [rdB_some _ _ _ _ h0] at hk; simp at hk; subst hk; exact lt_of_heap hg
theorem ro_ok {sz n : Nat} {w : World} {v : Value} {cs : List Value} (h : Rd sz w v n cs) : (ro v sz n cs).ok 0 w := ⟨h.lt, h, stable_ro v sz n cs⟩
theorem Rd.nil (sz : Nat) (w : World) : Rd sz w (.slice none 0 0) 0 [] := ⟨by simp, by omega, .inl ⟨.inl rfl, rfl⟩⟩

def Rds (w0 : World) (S : Own) (H : List Ent) (sz : Nat) (v : Value) (m : Nat) (cs : List Value) : Prop := ∀ w, Mem w0 S H w → Rd sz w v m cs
/-- .. a row of its own. -/
theorem rdW {sz m : Nat} (i : Nat) {v : Value} {e : TypeId} {cs : List Value} (hi : H[i]? = some (.row v e sz m cs)) : Rds w0 S H sz v m cs := fun _ hm => Rd.of_own (hm.ok _ (List.mem_of_getElem? hi))
/-- .. one that stays. -/
theorem rdF {sz m : Nat} (i : Nat) {v : Value} {cs : List Value} (hi : H[i]? = some (ro v sz m cs)) : Rds w0 S H sz v m cs := fun _ hm => (hm.ok _ (List.mem_of_getElem? hi)).2.1
theorem rdN {sz : Nat} : Rds w0 S H sz (.slice none 0 0) 0 [] := fun _ _ => Rd.nil _ _

theorem Yi.idxS {x ix : Operand} {t e : TypeId} {sz m : Nat} {k : IntKind} {i : Int} {v : Value} {cs : List Value} (hu : P.underlying t = some (.slice e)) (hs : ∀ w, (sizeOf e).run P w = .ok sz w)
    (hx : ev l x = some v) (hi : ev l ix = some (.int k i)) (hr : Rds w0 S H sz v m cs) (h0 : 0 ≤ i) (h1 : i < (m : Int)) :
    Yi P n w0 S { dst, op := .indexAddr t x ix, type := ty, pos, after, guard } l H (.pointer (some (eaddr v sz i.toNat 0))) := fun a w hs' hm => by
  obtain ⟨_, _, h3⟩ := hr w hm
  rcases h3 with ⟨_, rfl⟩ | ⟨g, off, cap, cur, t', fr, rfl, _, _, _, _⟩
  · omega
  · simp [execOp, Instr.indexAt, hs'.ev hx, hs'.ev hi, asIntOf, run_underlying hu, h0, h1, hs, add_none, eaddr]
theorem Yi.loadS {x : Operand} {t : TypeId} {sz m i j : Nat} {v : Value} {cs : List Value} (u : Value) (hx : ev l x = some (.pointer (some (eaddr v sz i j)))) (hr : Rds w0 S H sz v m cs)
    (hg : ∀ w, (isAgg t).run P w = .ok false w) (hi : i < m) (hj : j < sz) (hv : cs[i * sz + j]? = some u) :
    Yi P n w0 S { dst, op := .load t x, type := ty, pos, after, guard } l H u := fun a w hs' hm => by
  obtain ⟨_, _, h3⟩ := hr w hm
  rcases h3 with ⟨_, rfl⟩ | ⟨g, off, cap, cur, t', fr, rfl, _, hb, hc, _⟩
  · omega
  · have hlt : i * sz + j < m * sz := by
      have : (i + 1) * sz ≤ m * sz := Nat.mul_le_mul_right _ hi
      rw [Nat.succ_mul] at this
      omega
    have h1 := hc (i * sz + j) hlt
    rw [hv, ← Nat.add_assoc] at h1
    simp [execOp, Instr.loadAt, Instr.sureAddr, hs'.ev hx, eaddr, run_load1 hb hg h1]
theorem Yi.loadSA {x : Operand} {t : TypeId} {sz m i : Nat} {v : Value} {cs : List Value} (u : Array Value) (hx : ev l x = some (.pointer (some (eaddr v sz i 0)))) (hr : Rds w0 S H sz v m cs)
    (hg : ∀ w, (isAgg t).run P w = .ok true w) (hs : ∀ w, (sizeOf t).run P w = .ok sz w) (hi : i < m) (hv : ((cs.drop (i * sz)).take sz).toArray = u) :
    Yi P n w0 S { dst, op := .load t x, type := ty, pos, after, guard } l H (.agg u) := fun a w hs' hm => by
  obtain ⟨hl, _, h3⟩ := hr w hm
  rcases h3 with ⟨_, rfl⟩ | ⟨g, off, cap, cur, t', fr, rfl, _, hb, hc, _⟩
  · omega
  · have hle : i * sz + sz ≤ m * sz := by
      have : (i + 1) * sz ≤ m * sz := Nat.mul_le_mul_right _ hi
      rw [Nat.succ_mul] at this
      omega
    have hcur : ∀ k, k < sz → cur[off + i * sz + k]? = u[k]? := fun k hk => by
      rw [← hv, Nat.add_assoc, hc (i * sz + k) (by omega)]
      simp [hk]
    have hul : u.size = sz := by rw [← hv]; simp; omega
    have hload : (loadVar t ⟨g, off + i * sz, none⟩).run P w = .ok (.agg u) w := by
      have hl' := run_loadCells_list (P := P) w ⟨g, off + i * sz, none⟩ u.toList (fun k v hk => by
        have hk' : k < sz := by
          rcases Nat.lt_or_ge k sz with h | h
          · exact h
          · rw [List.getElem?_eq_none (by simp; omega)] at hk; cases hk
        rw [add_none, cell_of_row w g _ cur t' fr hb, hcur k hk', ← Array.getElem?_toList]; exact hk)
      have hlen : u.toList.length = sz := by simpa using hul
      rw [hlen, Array.toArray_toList] at hl'
      simp [loadVar, hg, hs, Result.andThen, hl']
    simp [execOp, Instr.loadAt, Instr.sureAddr, hs'.ev hx, eaddr, hload]
theorem Yi.lenS {x : Operand} {t e : TypeId} {sz m : Nat} {v : Value} {cs : List Value} (hu : P.underlying t = some (.slice e)) (hx : ev l x = some v) (hr : Rds w0 S H sz v m cs) :
    Yi P n w0 S { dst, op := .call { callee := .builtin .len, args := #[x], argTypes := #[t] }, type := ty, pos, after, guard } l H (.int .i64 m) := fun a w hs' hm => by
  obtain ⟨_, _, h3⟩ := hr w hm
  rcases h3 with ⟨h, rfl⟩ | ⟨g, off, cap, cur, t', fr, rfl, _, _, _⟩
  · rcases h with rfl | ⟨a, c, rfl⟩ <;> simp [execOp, resolve, invoke, builtin, Builtin.len_, hs'.ev hx, run_underlying hu, goInt, Result.andThen]
  · simp [execOp, resolve, invoke, builtin, Builtin.len_, hs'.ev hx, run_underlying hu, goInt, Result.andThen]

/-! ## rows of the call's own -/
/-- An entry of new blocks. -/
theorem Mem.addNew {w w' : World} (h : Mem w0 S H w) (hb : Below w.heap.size w w') {e : Ent} (he : e.ok 0 w') (hn : ∀ k, e.owns k → w.heap.size ≤ k) : Mem w0 S (e :: H) w' := by
  have h' := h.after hb
  refine ⟨h'.os, h'.tape, h'.output, h'.size, h'.old, ?_, ?_, ?_⟩
  · intro e' he'
    rcases List.mem_cons.1 he' with rfl | he'
    · exact he
    · exact h'.ok e' he'
  · intro e' he' k hk
    rcases List.mem_cons.1 he' with rfl | he'
    · exact .inr (.inl (Nat.le_trans h.size (hn k hk)))
    · exact h'.own e' he' k hk
  · refine List.pairwise_cons.2 ⟨fun e' he' _ k hk hk' => ?_, h'.apart⟩
    have h1 := hn k hk
    have h2 := Ent.lt (h.ok e' he') hk'
    omega
theorem Mem.addRow {w w' : World} (h : Mem w0 S H w) (hb : Below w.heap.size w w') {v : Value} {e : TypeId} {sz m : Nat} {cs : List Value} (ho : w'.ownsRow w.heap.size e sz v m cs) : Mem w0 S (.row v e sz m cs :: H) w' := by
  refine h.addNew hb ?_ fun k hk => (World.ownsRow.lt ho k hk).1
  obtain ⟨h1, h2⟩ := ho
  refine ⟨h1, ?_⟩
  rcases h2 with h2 | ⟨g, cap, cur, rfl, hb', r⟩
  · exact .inl h2
  · exact .inr ⟨g, cap, cur, rfl, Nat.zero_le _, r⟩

theorem RW.buildS {d : Nat} {t e : TypeId} {len sz : Nat} {parts : Array (Nat × Operand)} {ps : List Operand} {vs : List Value} (cs : Array Value) (hg : wantedIn ops l guard = some true) (hd : Nat.ble n d = false)
    (hps : parts.toList.map (·.2) = ps) (hv : evs l ps = some vs) (hlen : cs.size = len * sz) (hmax : len ≤ 9223372036854775807)
    (h : ∀ w, (Instr.buildSlice t len ((parts.toList.map (·.1)).zip vs).toArray).run P w = .ok (.slice (some ⟨w.heap.size, 0, none⟩) len len) { w with heap := w.heap.push (.cells cs e) })
    (k : ∀ v, RW P n w0 S ops Q rest ((d, v) :: l) (.row v e sz len cs.toList :: H)) :
    RW P n w0 S ops Q ({ dst := some d, op := .buildSlice t len parts, type := ty, pos, after, guard } :: rest) l H := fun a w hs hm => by
  unfold wpList
  rw [if_pos (wanted_of hs hg)]
  refine .inl ?_
  unfold Oper.wp
  have he : (parts.map fun (i, x) => (i, a.eval x)) = ((parts.toList.map (·.1)).zip vs).toArray := by
    rw [← hs.evs hv, ← hps]
    apply Array.ext'
    rw [Array.toList_map]
    generalize parts.toList = ps
    induction ps with
    | nil => rfl
    | cons p r ih => simp [ih]
  have hrun : (execOp a.eval { dst := some d, op := .buildSlice t len parts, type := ty, pos, after, guard }).run P w = .ok (.value (.slice (some ⟨w.heap.size, 0, none⟩) len len)) { w with heap := w.heap.push (.cells cs e) } := by
    simp only [execOp, he, Sem.run_bind, h, Result.andThen, Sem.run_pure]
  rw [hrun]
  have hb : Below w.heap.size w { w with heap := w.heap.push (.cells cs e) } := (Below.refl _ _).alloc (Nat.le_refl _) _
  have ho : ({ w with heap := w.heap.push (.cells cs e) } : World).ownsRow w.heap.size e sz (.slice (some ⟨w.heap.size, 0, none⟩) len len) len cs.toList :=
    ⟨by simpa using hlen, .inr ⟨w.heap.size, len, cs, rfl, Nat.le_refl _, by simp, Nat.le_refl _, hmax, hlen, by rw [← hlen, ← Array.length_toList, List.take_length]⟩⟩
  exact k _ _ _ (hs.put hd) (hm.addRow hb ho)

/-- One row of the call's own is grown, or moved. -/
theorem Mem.regrow {w w' : World} (h : Mem w0 S H w) {i : Nat} {v v' : Value} {e : TypeId} {sz m m' : Nat} {cs cs' : List Value} (hi : H[i]? = some (.row v e sz m cs))
    (hg : w.grownBy w' v.ownBlock) (ho : w'.ownsRow 0 e sz v' m' cs') (hv : ∀ k, v'.ownBlock = some k → v.ownBlock = some k ∨ w.heap.size ≤ k) : Mem w0 S (H.set i (.row v' e sz m' cs')) w' :=
  h.turn hi rfl hg.os hg.tape hg.output hg.size ho hv fun k hk hn => hg.block k hk fun e => hn e.symm

theorem run_append_nul {w : World} {t ty e : TypeId} {sz by_ B m : Nat} {v vx : Value} {cs : List Value} (ht : P.underlying t = some (.slice e)) (hinfo : (P.info? e).map (fun i => (i.size, i.bytes)) = some (sz, by_)) (ho : w.ownsRow B e sz v m cs) (hv : Nul vx) :
    (Builtin.append_ #[t, t] ty #[v, vx]).run P w = .ok v w := by
  have hle : ∃ A c, v = .slice A m c ∧ m ≤ c := by
    obtain ⟨_, h2⟩ := ho
    rcases h2 with ⟨rfl, rfl⟩ | ⟨g, cap, cur, rfl, _, _, hn, _⟩
    · exact ⟨_, _, rfl, Nat.le_refl _⟩
    · exact ⟨_, _, rfl, hn⟩
  obtain ⟨A, c, rfl, hc⟩ := hle
  cases hi : P.info? e with
  | none => simp [hi] at hinfo
  | some i =>
    rcases hv with rfl | ⟨a, c', rfl⟩ <;> cases A <;> simp [Builtin.append_, run_underlying ht, sizeOf, typeInfo, hi, Builtin.lenOf, Builtin.firstCells, loadCells, loadCellsFrom, storeCells, hc]
theorem run_app {w : World} {B sz by_ m mx : Nat} {t ty e : TypeId} {z v vx : Value} {cs news : List Value} (ht : P.underlying t = some (.slice e)) (hinfo : (P.info? e).map (fun i => (i.zero, i.size, i.bytes)) = some (some z, sz, by_))
    (hzs : z.cells.size = sz) (hsz : 0 < sz) (hby : 0 < by_) (ho : w.ownsRow B e sz v m cs) (hr : Rd sz w vx mx news) (h1 : ∀ u ∈ news, u.oneCell' = true) (hb : (m + mx) * by_ ≤ 140737488355328) (hB : B ≤ w.heap.size) :
    ∃ v' w', (Builtin.append_ #[t, t] ty #[v, vx]).run P w = .ok v' w' ∧ w'.ownsRow B e sz v' (m + mx) (cs ++ news) ∧ w.grownBy w' v.ownBlock ∧ ∀ k, v'.ownBlock = some k → v.ownBlock = some k ∨ w.heap.size ≤ k := by
  cases hi : P.info? e with
  | none => simp [hi] at hinfo
  | some i =>
    simp [hi] at hinfo
    obtain ⟨hz, hs, hbs⟩ := hinfo
    subst hs
    subst hbs
    have hle : m + mx ≤ 140737488355328 := Nat.le_trans (Nat.le_mul_of_pos_right _ hby) hb
    obtain ⟨hl, _, h3⟩ := hr
    rcases h3 with ⟨hnul, rfl⟩ | ⟨g, off, cap, cur, tt, fr, rfl, hn, hg, hc, _⟩
    · have hnews : news = [] := List.eq_nil_of_length_eq_zero (by simpa using hl)
      subst hnews
      have := run_append_nul (P := P) (w := w) (B := B) (ty := ty) (by_ := i.bytes) ht (by simp [hi]) ho hnul
      exact ⟨v, w, this, by simpa using ho, World.grownBy.refl w _, fun k hk => .inl hk⟩
    · have hnews : ∀ j u, news[j]? = some u → w.cell? ((⟨g, off, none⟩ : Addr).add j) = some u := fun j u hu => by
        rw [add_none, cell_of_row w g _ cur tt fr hg]
        have hj : j < mx * i.size := by rw [← hl]; exact (List.getElem?_eq_some_iff.1 hu).1
        rw [hc j hj]; exact hu
      obtain ⟨v', w', e1, e2, e3, _⟩ := run_append_own (P := P) w B t ty e i z i.size i.bytes ht hi hz rfl rfl hzs hsz v m cs ho ⟨g, off, none⟩ mx cap news hl hnews h1 (by unfold maxLen; omega) hb hB
      refine ⟨v', w', e1, e2, e3, ?_⟩
      have ho' := ho
      obtain ⟨hcl, hv⟩ := ho
      rcases hv with ⟨rfl, rfl⟩ | ⟨g', cap', cur', rfl, hbg, hgg, hmc, hcm, hcs, htk⟩
      · have hcs : cs = [] := List.eq_nil_of_length_eq_zero (by simpa using hcl)
        subst hcs
        by_cases hm : mx = 0
        · subst hm
          intro k hk
          obtain ⟨_, h2⟩ := e2
          have hnn : news = [] := List.eq_nil_of_length_eq_zero (by simpa using hl)
          have hrun : (Builtin.append_ #[t, t] ty #[.slice none 0 0, .slice (some ⟨g, off, none⟩) 0 cap]).run P w = .ok (.slice none 0 0) w := by
            simp [Builtin.append_, run_underlying ht, sizeOf, typeInfo, hi, Builtin.lenOf, Builtin.firstCells, loadCells, loadCellsFrom]
          rw [hrun] at e1
          injection e1 with e1a e1b
          subst e1a
          simp [Value.ownBlock] at hk
        · have hrun := run_append_nil (P := P) w t ty e i z ht hi hz ⟨g, off, none⟩ mx cap news hl hnews (by omega) (by omega) (by have hb' := hb; rw [Nat.zero_add] at hb'; omega)
          rw [hrun] at e1
          injection e1 with e1a e1b
          subst e1a
          intro k hk
          simp [Value.ownBlock] at hk
          exact .inr (by omega)
      · by_cases hroom : m + mx ≤ cap'
        · obtain ⟨w2, hrun, _, _⟩ := run_append_fits (P := P) w B t ty e i i.size ht hi rfl g' m cap' cs ho' ⟨g, off, none⟩ mx cap news hl hnews h1 hroom
          rw [hrun] at e1
          injection e1 with e1a e1b
          subst e1a
          intro k hk
          exact .inl hk
        · have holds : ∀ j u, cs[j]? = some u → w.cell? ((⟨g', 0, none⟩ : Addr).add j) = some u := ho'.cells (g := g') rfl
          have hrun := run_append_grow (P := P) w t ty e i z ht hi hz ⟨g', 0, none⟩ m cap' cs hcl holds ⟨g, off, none⟩ mx cap news hl hnews (by omega) (by omega) (growslice_fits (by omega) hb)
          rw [hrun] at e1
          injection e1 with e1a e1b
          subst e1a
          intro k hk
          simp [Value.ownBlock] at hk
          exact .inr (by omega)

theorem wpList_yields {a : Act} {w w' : World} {o : Oper} {v : Value} (hgd : Region.wanted o (yielded ops a.tmps) = true) (hrun : (execOp a.eval o).run P w = .ok (.value v) w') (h : wpList P ops Q rest (a.put o.dst v) w') : wpList P ops Q (o :: rest) a w := by
  unfold wpList
  rw [if_pos hgd]
  refine .inl ?_
  unfold Oper.wp
  rw [hrun]
  exact h

theorem RW.app {d i : Nat} {s x : Operand} {t e : TypeId} {sz by_ m mx m' : Nat} {z v vx : Value} {cs news cs' : List Value} (hg : wantedIn ops l guard = some true) (hd : Nat.ble n d = false)
    (ht : P.underlying t = some (.slice e)) (hinfo : (P.info? e).map (fun i => (i.zero, i.size, i.bytes)) = some (some z, sz, by_)) (hzs : z.cells.size = sz) (hsz : 0 < sz) (hby : 0 < by_)
    (hx : ev l s = some v) (hy : ev l x = some vx) (hi : H[i]? = some (.row v e sz m cs)) (hr : Rds w0 S H sz vx mx news) (h1 : ∀ u ∈ news, u.oneCell' = true) (hb : (m + mx) * by_ ≤ 140737488355328) (hcs : cs ++ news = cs') (hmm : m + mx = m')
    (k : ∀ v', RW P n w0 S ops Q rest ((d, v') :: l) (H.set i (.row v' e sz m' cs'))) :
    RW P n w0 S ops Q ({ dst := some d, op := .call { callee := .builtin .append, args := #[s, x], argTypes := #[t, t] }, type := ty, pos, after, guard } :: rest) l H := fun a w hs hm => by
  subst hcs; subst hmm
  have ho : w.ownsRow 0 e sz v m cs := hm.ok _ (List.mem_of_getElem? hi)
  obtain ⟨v', w', hrun, h2, h3, h4⟩ := run_app (P := P) (ty := ty) ht hinfo hzs hsz hby ho (hr w hm) h1 hb (Nat.zero_le _)
  refine wpList_yields (v := v') (w' := w') (wanted_of hs hg) ?_ (k v' _ _ (hs.put hd) (hm.regrow hi h3 h2 h4))
  simp [execOp, resolve, invoke, builtin, hs.ev hx, hs.ev hy, hrun]

/-! ### what is known, in other words -/
theorem RW.conv {H' : List Ent} (f : ∀ w, Mem w0 S H w → Mem w0 S H' w) (h : RW P n w0 S ops Q rest l H') : RW P n w0 S ops Q rest l H := fun a w hs hm => h a w hs (f w hm)
theorem CW.conv {c : Code} {H' : List Ent} (f : ∀ w, Mem w0 S H w → Mem w0 S H' w) (h : CW P n w0 S Q c l H') : CW P n w0 S Q c l H := fun a w hs hm => h a w hs (f w hm)
theorem EW.conv {K : Act → World → Prop} {H' : List Ent} (f : ∀ w, Mem w0 S H w → Mem w0 S H' w) (h : EW n w0 S K l H') : EW n w0 S K l H := fun a w hs hm => h a w hs (f w hm)
/-- A nil slice is a row of the call's own. -/
theorem Mem.nilRow {w : World} (h : Mem w0 S H w) (e : TypeId) (sz : Nat) : Mem w0 S (.row (.slice none 0 0) e sz 0 [] :: H) w :=
  h.addRow (Below.refl _ _) (World.ownsRow_nil w _ e sz)
theorem Mem.nilRo {w : World} (h : Mem w0 S H w) (sz : Nat) : Mem w0 S (ro (.slice none 0 0) sz 0 [] :: H) w :=
  h.addNew (Below.refl _ _) (ro_ok (Rd.nil sz w)) fun k hk => by simp [ro, Ent.owns, rdB] at hk
/-- An entry that says less. -/
theorem Mem.weaken {w : World} (h : Mem w0 S H w) {e : Ent} (i : Nat) (e' : Ent) (hi : H[i]? = some e) (hok : e.ok 0 w → e'.ok 0 w) (ho : ∀ k, e'.owns k → e.owns k) (hw : e'.isW = false ∨ e.isW = true) : Mem w0 S (H.set i e') w := by
  obtain ⟨hil, hiv⟩ := List.getElem?_eq_some_iff.1 hi
  have hmem : e ∈ H := List.mem_of_getElem? hi
  have hW : ∀ x : Bool, (e'.isW || x) = true → (e.isW || x) = true := fun x hx => by
    rcases hw with h1 | h1
    · rw [h1] at hx; simp at hx; simp [hx]
    · simp [h1]
  refine ⟨h.os, h.tape, h.output, h.size, h.old, fun u hu => ?_, fun u hu k hk => ?_, ?_⟩
  · obtain ⟨j, hj, hje⟩ := List.getElem_of_mem hu
    have hj' : j < H.length := by simpa using hj
    rw [List.getElem_set] at hje
    split at hje
    · subst hje; exact hok (h.ok _ hmem)
    · subst hje; exact h.ok _ (List.getElem_mem hj')
  · obtain ⟨j, hj, hje⟩ := List.getElem_of_mem hu
    have hj' : j < H.length := by simpa using hj
    rw [List.getElem_set] at hje
    split at hje
    · subst hje
      rcases h.own _ hmem k (ho k hk) with h1 | h1 | h1
      · exact .inl h1
      · exact .inr (.inl h1)
      · rcases hw with h2 | h2
        · exact .inr (.inr ⟨h2, h1.2⟩)
        · rw [h2] at h1; cases h1.1
    · subst hje; exact h.own _ (List.getElem_mem hj') k hk
  · rw [List.pairwise_iff_getElem]
    intro x y hx hy hxy hw' k h1 h2
    rw [List.length_set] at hx hy
    rw [List.getElem_set] at h1 h2
    simp only [List.getElem_set] at hw'
    have base := (List.pairwise_iff_getElem.1 h.apart) x y hx hy hxy
    by_cases hix : i = x
    · subst hix
      rw [if_pos rfl] at h1
      rw [if_neg (by omega)] at h2
      rw [if_pos rfl, if_neg (by omega)] at hw'
      exact base (by rw [hiv]; exact hW _ hw') k (by rw [hiv]; exact ho k h1) h2
    · rw [if_neg hix] at h1 hw'
      by_cases hiy : i = y
      · subst hiy
        rw [if_pos rfl] at h2 hw'
        exact base (by rw [hiv, Bool.or_comm]; exact hW _ (by rw [Bool.or_comm]; exact hw')) k h1 (by rw [hiv]; exact ho k h2)
      · rw [if_neg hiy] at h2 hw'
        exact base hw' k h1 h2
/-- A row that is written no more. -/
theorem Mem.freeze {w : World} (h : Mem w0 S H w) (i : Nat) {v : Value} {e : TypeId} {sz m : Nat} {cs : List Value} (hi : H[i]? = some (.row v e sz m cs)) : Mem w0 S (H.set i (ro v sz m cs)) w :=
  h.weaken i _ hi (fun hok => ro_ok (Rd.of_own hok)) (fun k hk => rdB_own v k hk) (.inl rfl)
/-- A fact once more. -/
theorem Mem.dup {w : World} (h : Mem w0 S H w) (i : Nat) {F : List Nat} {φ : World → Prop} (hi : H[i]? = some (.fact F φ)) : Mem w0 S (.fact F φ :: H) w :=
  h.derive hi (fun _ hk => hk) id (h.ok _ (List.mem_of_getElem? hi)).2.2

/-! ### elements written -/
theorem row_split {w : World} {e : TypeId} {sz m : Nat} {v : Value} {cs : List Value} (h : w.ownsRow 0 e sz v m cs) (hm : 0 < m) :
    ∃ g cap cur, v = .slice (some ⟨g, 0, none⟩) m cap ∧ w.heap[g]? = some (.cells cur e (0, 0)) ∧ m ≤ cap ∧ cap ≤ maxLen ∧ cur.size = cap * sz ∧ cur.toList.take (m * sz) = cs := by
  obtain ⟨_, h2⟩ := h
  rcases h2 with ⟨_, h2⟩ | ⟨g, cap, cur, hv, _, r⟩
  · omega
  · exact ⟨g, cap, cur, hv, r⟩
theorem elem_le {i m sz j : Nat} (hi : i < m) (hj : j ≤ sz) : i * sz + j ≤ m * sz := by
  have : (i + 1) * sz ≤ m * sz := Nat.mul_le_mul_right _ hi
  rw [Nat.succ_mul] at this
  omega
/-- One cell of an element. -/
theorem RW.storeE {x y : Operand} {t e : TypeId} {r i j sz m : Nat} {v u : Value} {cs cs' : List Value} (hg : wantedIn ops l guard = some true) (hx : ev l x = some (.pointer (some (eaddr v sz i j)))) (hy : ev l y = some u)
    (hr : H[r]? = some (.row v e sz m cs)) (hs : ∀ w, (sizeOf t).run P w = .ok 1 w) (hv : u.cells = #[u]) (ho : u.oneCell' = true) (hi : i < m) (hj : j < sz) (hcs : cs.set (i * sz + j) u = cs')
    (h : RW P n w0 S ops Q rest l (H.set r (.row v e sz m cs'))) :
    RW P n w0 S ops Q ({ dst := none, op := .store t x y, type := ty, pos, after, guard } :: rest) l H := fun a w hs' hm => by
  unfold wpList
  rw [if_pos (wanted_of hs' hg)]
  refine .inl ?_
  unfold Oper.wp
  have hrow := hm.ok _ (List.mem_of_getElem? hr)
  obtain ⟨g, cap, cur, rfl, hgc, hmc, hcm, hsz, htk⟩ := row_split hrow (by omega)
  have hlt : i * sz + j < m * sz := by have := elem_le (sz := sz) hi (Nat.succ_le_of_lt hj); omega
  have hle : m * sz ≤ cap * sz := Nat.mul_le_mul_right _ hmc
  have hx' : ev l x = some (.pointer (some ⟨g, i * sz + j, none⟩)) := by rw [hx]; simp [eaddr]
  have he : (execOp a.eval { dst := none, op := .store t x y, type := ty, pos, after, guard }).run P w = .ok .skip (w.setCell ⟨g, i * sz + j, none⟩ u) := by
    simp [execOp, Instr.storeAt, Instr.sureAddr, hs'.ev hx', hs'.ev hy, run_store1 hgc hs hv ho (show i * sz + j < cur.size by omega), Result.andThen]
  rw [he]
  refine h _ _ hs' (hm.turn hr rfl rfl rfl rfl (by simp [World.setCell]) ?_ (fun k hk => .inl hk) fun k _ hk => heap_setCell_other w ⟨g, _, none⟩ k u (fun e => hk (by subst e; rfl)))
  refine ⟨by rw [← hcs, List.length_set]; exact hrow.1, .inr ⟨g, cap, cur.setIfInBounds (i * sz + j) u, rfl, Nat.zero_le _, heap_setCell_same w g _ cur e u hgc, hmc, hcm, by simp [hsz], ?_⟩⟩
  rw [← hcs, ← htk, Array.toList_setIfInBounds, List.take_set]
/-- A whole element. -/
theorem RW.storeEA {x y : Operand} {t e : TypeId} {r i sz m : Nat} {v : Value} {us cs cs' : List Value} (hg : wantedIn ops l guard = some true) (hx : ev l x = some (.pointer (some (eaddr v sz i 0)))) (hy : ev l y = some (.agg us.toArray))
    (hr : H[r]? = some (.row v e sz m cs)) (hs : ∀ w, (sizeOf t).run P w = .ok sz w) (hul : us.length = sz) (ho : ∀ u ∈ us, u.oneCell' = true) (hi : i < m) (hcs : cs.take (i * sz) ++ us ++ cs.drop (i * sz + sz) = cs')
    (h : RW P n w0 S ops Q rest l (H.set r (.row v e sz m cs'))) :
    RW P n w0 S ops Q ({ dst := none, op := .store t x y, type := ty, pos, after, guard } :: rest) l H := fun a w hs' hm => by
  unfold wpList
  rw [if_pos (wanted_of hs' hg)]
  refine .inl ?_
  unfold Oper.wp
  have hrow := hm.ok _ (List.mem_of_getElem? hr)
  obtain ⟨g, cap, cur, rfl, hgc, hmc, hcm, hsz, htk⟩ := row_split hrow (by omega)
  have hlt : i * sz + sz ≤ m * sz := elem_le hi (Nat.le_refl _)
  have hle : m * sz ≤ cap * sz := Nat.mul_le_mul_right _ hmc
  have hx' : ev l x = some (.pointer (some ⟨g, i * sz, none⟩)) := by rw [hx]; simp [eaddr]
  obtain ⟨cur', hrun, hsz', hget⟩ := run_storeCells_at (P := P) g e us (i * sz) 0 cur w hgc (by omega) ho
  have he : (execOp a.eval { dst := none, op := .store t x y, type := ty, pos, after, guard }).run P w = .ok .skip (w.setRow g cur') := by
    simp [execOp, Instr.storeAt, Instr.sureAddr, hs'.ev hx', hs'.ev hy, storeVar, hs, Value.cells, hul, hrun, Result.andThen]
  rw [he]
  refine h _ _ hs' (hm.turn hr rfl rfl rfl rfl (by simp) ?_ (fun k hk => .inl hk) fun k _ hk => setRow_other w g k cur' (fun e => hk (by subst e; rfl)))
  have hcl := hrow.1
  have htl : (cs.take (i * sz)).length = i * sz := by rw [List.length_take, hcl]; omega
  refine ⟨by rw [← hcs, List.length_append, List.length_append, htl, hul, List.length_drop, hcl]; omega, .inr ⟨g, cap, cur', rfl, Nat.zero_le _, setRow_heap w g cur cur' e _ hgc, hmc, hcm, by rw [hsz', hsz], ?_⟩⟩
  rw [← hcs]
  apply List.ext_getElem?
  intro k
  have hk0 : ∀ k, k < m * sz → cs[k]? = cur[k]? := fun k hk => by rw [← htk, List.getElem?_take, if_pos hk, Array.getElem?_toList]
  rw [List.getElem?_take]
  by_cases hk : k < m * sz
  · rw [if_pos hk, Array.getElem?_toList, hget k]
    by_cases h1 : k < i * sz
    · rw [if_neg (by omega), List.append_assoc, List.getElem?_append_left (by omega), List.getElem?_take, if_pos h1, hk0 k hk]
    · by_cases h2 : k < i * sz + sz
      · rw [if_pos (by omega), List.append_assoc, List.getElem?_append_right (by omega), htl, List.getElem?_append_left (by omega)]
        simp
      · rw [if_neg (by omega), List.getElem?_append_right (by rw [List.length_append, htl, hul]; omega), List.length_append, htl, hul, List.getElem?_drop, ← hk0 k hk]
        congr 1
        omega
  · rw [if_neg hk, List.getElem?_eq_none (by rw [List.length_append, List.length_append, htl, hul, List.length_drop, hcl]; omega)]
end
end Go.Proofs.Ytoepbakbpimkiaa.K
