import Derived.Test.YtfpafpmcfkapkaaDoorK3
import Derived.Laws.AppendOwn
import Derived.Laws.OwnMore
/-! K, fourth part: slices: what can be read; rows of the call's own that grow. -/
namespace Go.Proofs.YtfpafpmcfkapkaaDoor.K
open Go Go.RowKit

def ic (xs : List Int) : List Value := xs.map (Value.int .i64)
def bc (xs : List Int) : List Value := xs.map (Value.int .u8)
theorem ic_get {xs : List Int} {i : Nat} (h : i < xs.length) : (ic xs)[i]? = some (.int .i64 (xs.getD i 0)) := by simp [ic, h]
theorem bc_get {xs : List Int} {i : Nat} (h : i < xs.length) : (bc xs)[i]? = some (.int .u8 (xs.getD i 0)) := by simp [bc, h]
theorem ic_length (xs : List Int) : (ic xs).length = xs.length := by simp [ic]
theorem bc_length (xs : List Int) : (bc xs).length = xs.length := by simp [bc]
theorem ic_append (xs ys : List Int) : ic xs ++ ic ys = ic (xs ++ ys) := by simp [ic]
theorem bc_append (xs ys : List Int) : bc xs ++ bc ys = bc (xs ++ ys) := by simp [bc]
theorem ic_one (xs : List Int) : ∀ u ∈ ic xs, u.oneCell' = true := by
  intro u hu
  obtain ⟨_, _, rfl⟩ := List.mem_map.1 hu
  rfl
theorem bc_one (xs : List Int) : ∀ u ∈ bc xs, u.oneCell' = true := by
  intro u hu
  obtain ⟨_, _, rfl⟩ := List.mem_map.1 hu
  rfl

/-- A slice that can be read: n elements of sz cells. -/
def Rd (sz : Nat) (w : World) (v : Value) (n : Nat) (cs : List Value) : Prop :=
  cs.length = n * sz ∧ n ≤ 9223372036854775807 ∧ ((v = .slice none 0 0 ∧ n = 0) ∨
    ∃ g off cap cur t fr, v = .slice (some ⟨g, off, none⟩) n cap ∧ n ≤ cap ∧ w.heap[g]? = some (.cells cur t fr) ∧ ∀ j, j < n * sz → cur[off + j]? = cs[j]?)
/-- The address of an element's cell. -/
def eaddr (v : Value) (sz i j : Nat) : Addr :=
  match v with
  | .slice (some a) _ _ => ⟨a.block, a.off + i * sz + j, none⟩
  | _ => ⟨0, 0, none⟩

theorem Rd.of_own {sz B n : Nat} {w : World} {e : TypeId} {v : Value} {cs : List Value} (h : w.ownsRow B e sz v n cs) : Rd sz w v n cs := by
  obtain ⟨h1, h2⟩ := h
  rcases h2 with ⟨rfl, rfl⟩ | ⟨g, cap, cur, rfl, hb, hg, hn, hm, hsz, htk⟩
  · exact ⟨h1, by omega, .inl ⟨rfl, rfl⟩⟩
  · refine ⟨h1, by unfold maxLen at hm; omega, .inr ⟨g, 0, cap, cur, e, (0, 0), rfl, hn, hg, fun j hj => ?_⟩⟩
    rw [← htk, List.getElem?_take, if_pos hj, Nat.zero_add, Array.getElem?_toList]
theorem Rd.keep {sz n : Nat} {w w' : World} {v : Value} {cs : List Value} (h : Rd sz w v n cs) (hk : ∀ k, k < w.heap.size → v.ownBlock = some k → w'.heap[k]? = w.heap[k]?) : Rd sz w' v n cs := by
  obtain ⟨h1, h2, h3⟩ := h
  refine ⟨h1, h2, ?_⟩
  rcases h3 with h3 | ⟨g, off, cap, cur, t, fr, rfl, hn, hg, hc⟩
  · exact .inl h3
  · exact .inr ⟨g, off, cap, cur, t, fr, rfl, hn, (hk g (lt_of_heap hg) rfl).trans hg, hc⟩
theorem Rd.below {sz n : Nat} {w w' : World} {v : Value} {cs : List Value} (h : Rd sz w v n cs) (hb : Below w.heap.size w w') : Rd sz w' v n cs := h.keep fun k hk _ => hb.block k hk

section
variable {P : Program} {n : Nat} {w0 : World} {S : List Nat} {Q : Exit → Act → World → Prop} {l : List (Nat × Value)} {H : List Ent}
variable {ops : Array Oper} {rest : List Oper} {dst : Option Tmp} {op : Op} {ty : TypeId} {pos : String} {after : Array Edge} {guard : Option (Nat × Bool)}

/-- What came in stays readable. -/
theorem Rd.mem {sz m : Nat} {w : World} {v : Value} {cs : List Value} (h : Rd sz w0 v m cs) (hm : Mem w0 S H w) (hS : S = []) : Rd sz w v m cs := h.keep fun k hk _ => hm.old k hk (by simp [hS])
/-- A row of the call's own. -/
theorem Mem.rd {sz m i : Nat} {w : World} {v : Value} {e : TypeId} {cs : List Value} (hm : Mem w0 S H w) (hi : H[i]? = some (.row v e sz m cs)) : Rd sz w v m cs := Rd.of_own (hm.ok _ (List.mem_of_getElem? hi))

def Rds (w0 : World) (S : List Nat) (H : List Ent) (sz : Nat) (v : Value) (m : Nat) (cs : List Value) : Prop := ∀ w, Mem w0 S H w → Rd sz w v m cs

theorem Yi.idxS {x ix : Operand} {t e : TypeId} {sz m : Nat} {k : IntKind} {i : Int} {v : Value} {cs : List Value} (hu : P.underlying t = some (.slice e)) (hs : ∀ w, (sizeOf e).run P w = .ok sz w)
    (hx : ev l x = some v) (hi : ev l ix = some (.int k i)) (hr : Rds w0 S H sz v m cs) (h0 : 0 ≤ i) (h1 : i < (m : Int)) :
    Yi P n w0 S { dst, op := .indexAddr t x ix, type := ty, pos, after, guard } l H (.pointer (some (eaddr v sz i.toNat 0))) := fun a w hs' hm => by
  obtain ⟨_, _, h3⟩ := hr w hm
  rcases h3 with ⟨_, rfl⟩ | ⟨g, off, cap, cur, t', fr, rfl, _, _, _⟩
  · omega
  · simp [execOp, Instr.indexAt, hs'.ev hx, hs'.ev hi, asIntOf, run_underlying hu, h0, h1, hs, add_none, eaddr]
theorem Yi.loadS {x : Operand} {t : TypeId} {sz m i j : Nat} {v : Value} {cs : List Value} (u : Value) (hx : ev l x = some (.pointer (some (eaddr v sz i j)))) (hr : Rds w0 S H sz v m cs)
    (hg : ∀ w, (isAgg t).run P w = .ok false w) (hi : i < m) (hj : j < sz) (hv : cs[i * sz + j]? = some u) :
    Yi P n w0 S { dst, op := .load t x, type := ty, pos, after, guard } l H u := fun a w hs' hm => by
  obtain ⟨_, _, h3⟩ := hr w hm
  rcases h3 with ⟨_, rfl⟩ | ⟨g, off, cap, cur, t', fr, rfl, _, hb, hc⟩
  · omega
  · have hlt : i * sz + j < m * sz := by
      have : (i + 1) * sz ≤ m * sz := Nat.mul_le_mul_right _ hi
      rw [Nat.succ_mul] at this
      omega
    have h1 := hc (i * sz + j) hlt
    rw [hv, ← Nat.add_assoc] at h1
    simp [execOp, Instr.loadAt, Instr.sureAddr, hs'.ev hx, eaddr, run_load1 hb hg h1]
theorem Yi.loadSA {x : Operand} {t : TypeId} {sz m i : Nat} {v : Value} {cs : List Value} (u : Array Value) (hx : ev l x = some (.pointer (some (eaddr v sz i 0)))) (hr : Rds w0 S H sz v m cs)
    (hg : ∀ w, (isAgg t).run P w = .ok true w) (hs : ∀ w, (sizeOf t).run P w = .ok sz w) (hi : i < m) (hv : ((cs.drop (i * sz)).take sz).toArray = u) :
    Yi P n w0 S { dst, op := .load t x, type := ty, pos, after, guard } l H (.agg u) := fun a w hs' hm => by
  obtain ⟨hl, _, h3⟩ := hr w hm
  rcases h3 with ⟨_, rfl⟩ | ⟨g, off, cap, cur, t', fr, rfl, _, hb, hc⟩
  · omega
  · have hle : i * sz + sz ≤ m * sz := by
      have : (i + 1) * sz ≤ m * sz := Nat.mul_le_mul_right _ hi
      rw [Nat.succ_mul] at this
      omega
    have hcur : ∀ k, k < sz → cur[off + i * sz + k]? = u[k]? := fun k hk => by
      rw [← hv, Nat.add_assoc, hc (i * sz + k) (by omega)]
      simp [hk]
    have hul : u.size = sz := by rw [← hv]; simp; omega
    have hload : (loadVar t ⟨g, off + i * sz, none⟩).run P w = .ok (.agg u) w := by
      have hl' := run_loadCells_list (P := P) w ⟨g, off + i * sz, none⟩ u.toList (fun k v hk => by
        have hk' : k < sz := by
          rcases Nat.lt_or_ge k sz with h | h
          · exact h
          · rw [List.getElem?_eq_none (by simp; omega)] at hk; cases hk
        rw [add_none, cell_of_row w g _ cur t' fr hb, hcur k hk', ← Array.getElem?_toList]; exact hk)
      have hlen : u.toList.length = sz := by simpa using hul
      rw [hlen, Array.toArray_toList] at hl'
      simp [loadVar, hg, hs, Result.andThen, hl']
    simp [execOp, Instr.loadAt, Instr.sureAddr, hs'.ev hx, eaddr, hload]
theorem Yi.lenS {x : Operand} {t e : TypeId} {sz m : Nat} {v : Value} {cs : List Value} (hu : P.underlying t = some (.slice e)) (hx : ev l x = some v) (hr : Rds w0 S H sz v m cs) :
    Yi P n w0 S { dst, op := .call { callee := .builtin .len, args := #[x], argTypes := #[t] }, type := ty, pos, after, guard } l H (.int .i64 m) := fun a w hs' hm => by
  obtain ⟨_, _, h3⟩ := hr w hm
  rcases h3 with ⟨rfl, rfl⟩ | ⟨g, off, cap, cur, t', fr, rfl, _, _, _⟩
  · simp [execOp, resolve, invoke, builtin, Builtin.len_, hs'.ev hx, run_underlying hu, goInt, Result.andThen]
  · simp [execOp, resolve, invoke, builtin, Builtin.len_, hs'.ev hx, run_underlying hu, goInt, Result.andThen]

/-! ## rows of the call's own -/
theorem Mem.addRow {w w' : World} (h : Mem w0 S H w) (hb : Below w.heap.size w w') {v : Value} {e : TypeId} {sz m : Nat} {cs : List Value} (ho : w'.ownsRow w.heap.size e sz v m cs) : Mem w0 S (.row v e sz m cs :: H) w' := by
  have h' := h.after hb
  have hown : ∀ k, v.ownBlock = some k → w.heap.size ≤ k := fun k hk => (World.ownsRow.lt ho k hk).1
  refine ⟨h'.os, h'.tape, h'.output, h'.size, h'.old, ?_, ?_, ?_⟩
  · intro e' he
    rcases List.mem_cons.1 he with rfl | he
    · obtain ⟨h1, h2⟩ := ho
      refine ⟨h1, ?_⟩
      rcases h2 with h2 | ⟨g, cap, cur, rfl, hb', r⟩
      · exact .inl h2
      · exact .inr ⟨g, cap, cur, rfl, Nat.le_trans h.size hb', r⟩
    · exact h'.ok e' he
  · intro e' he k hk
    rcases List.mem_cons.1 he with rfl | he
    · exact .inr (Nat.le_trans h.size (hown k hk))
    · exact h'.own e' he k hk
  · refine List.pairwise_cons.2 ⟨fun e' he k hk hk' => ?_, h'.apart⟩
    have h1 := hown k hk
    have h2 := Ent.lt (h.ok e' he) hk'
    omega

theorem RW.buildS {d : Nat} {t e : TypeId} {len sz : Nat} {parts : Array (Nat × Operand)} {ps : List Operand} {vs : List Value} (cs : Array Value) (hg : wantedIn ops l guard = some true) (hd : Nat.ble n d = false)
    (hps : parts.toList.map (·.2) = ps) (hv : evs l ps = some vs) (hlen : cs.size = len * sz) (hmax : len ≤ 9223372036854775807)
    (h : ∀ w, (Instr.buildSlice t len ((parts.toList.map (·.1)).zip vs).toArray).run P w = .ok (.slice (some ⟨w.heap.size, 0, none⟩) len len) { w with heap := w.heap.push (.cells cs e) })
    (k : ∀ v, RW P n w0 S ops Q rest ((d, v) :: l) (.row v e sz len cs.toList :: H)) :
    RW P n w0 S ops Q ({ dst := some d, op := .buildSlice t len parts, type := ty, pos, after, guard } :: rest) l H := fun a w hs hm => by
  unfold wpList
  rw [if_pos (wanted_of hs hg)]
  refine .inl ?_
  unfold Oper.wp
  have he : (parts.map fun (i, x) => (i, a.eval x)) = ((parts.toList.map (·.1)).zip vs).toArray := by
    rw [← hs.evs hv, ← hps]
    apply Array.ext'
    rw [Array.toList_map]
    generalize parts.toList = ps
    induction ps with
    | nil => rfl
    | cons p r ih => simp [ih]
  have hrun : (execOp a.eval { dst := some d, op := .buildSlice t len parts, type := ty, pos, after, guard }).run P w = .ok (.value (.slice (some ⟨w.heap.size, 0, none⟩) len len)) { w with heap := w.heap.push (.cells cs e) } := by
    simp only [execOp, he, Sem.run_bind, h, Result.andThen, Sem.run_pure]
  rw [hrun]
  have hb : Below w.heap.size w { w with heap := w.heap.push (.cells cs e) } := (Below.refl _ _).alloc (Nat.le_refl _) _
  have ho : ({ w with heap := w.heap.push (.cells cs e) } : World).ownsRow w.heap.size e sz (.slice (some ⟨w.heap.size, 0, none⟩) len len) len cs.toList :=
    ⟨by simpa using hlen, .inr ⟨w.heap.size, len, cs, rfl, Nat.le_refl _, by simp, Nat.le_refl _, hmax, hlen, by rw [← hlen, ← Array.length_toList, List.take_length]⟩⟩
  exact k _ _ _ (hs.put hd) (hm.addRow hb ho)

/-- One row of the call's own is grown, or moved. -/
theorem Mem.regrow {w w' : World} (h : Mem w0 S H w) {i : Nat} {v v' : Value} {e : TypeId} {sz m m' : Nat} {cs cs' : List Value} (hi : H[i]? = some (.row v e sz m cs))
    (hg : w.grownBy w' v.ownBlock) (ho : w'.ownsRow w0.heap.size e sz v' m' cs') (hv : ∀ k, v'.ownBlock = some k → v.ownBlock = some k ∨ w.heap.size ≤ k) : Mem w0 S (H.set i (.row v' e sz m' cs')) w' := by
  have hmem : Ent.row v e sz m cs ∈ H := List.mem_of_getElem? hi
  have hil : i < H.length := (List.getElem?_eq_some_iff.1 hi).1
  have hiv : H[i] = .row v e sz m cs := (List.getElem?_eq_some_iff.1 hi).2
  have hown : ∀ k, v.ownBlock = some k → k ∈ S ∨ w0.heap.size ≤ k := fun k hk => h.own _ hmem k hk
  have hne : ∀ (j : Nat) (hj : j < H.length), j ≠ i → ∀ k, v.ownBlock = some k → ¬ (H[j]).owns k := fun j hj hji k hk hk' => by
    rcases Nat.lt_or_gt_of_ne hji with hlt | hlt
    · have := (List.pairwise_iff_getElem.1 h.apart) j i hj hil hlt k hk'
      rw [hiv] at this; exact this hk
    · have := (List.pairwise_iff_getElem.1 h.apart) i j hil hj hlt k (by rw [hiv]; exact hk)
      exact this hk'
  have hother : ∀ (j : Nat) (hj : j < H.length), j ≠ i → ∀ k, v'.ownBlock = some k → ¬ (H[j]).owns k := fun j hj hji k hk hk' => by
    rcases hv k hk with h1 | h1
    · exact hne j hj hji k h1 hk'
    · have := Ent.lt (h.ok _ (List.getElem_mem hj)) hk'
      omega
  refine ⟨hg.os.trans h.os, hg.tape.trans h.tape, hg.output.trans h.output, Nat.le_trans h.size hg.size, fun k hk hn => ?_, fun e' he => ?_, fun e' he k hk => ?_, ?_⟩
  · refine (hg.block k (Nat.lt_of_lt_of_le hk h.size) fun e' => ?_).trans (h.old k hk hn)
    rcases hown k e'.symm with h1 | h1
    · exact hn h1
    · omega
  · obtain ⟨j, hj, hje⟩ := List.getElem_of_mem he
    have hj' : j < H.length := by simpa using hj
    rw [List.getElem_set] at hje
    by_cases hij : i = j
    · rw [if_pos hij] at hje; subst hje; exact ho
    · rw [if_neg hij] at hje
      subst hje
      refine Ent.same (h.ok _ (List.getElem_mem hj')) fun k hk => hg.block k (Ent.lt (h.ok _ (List.getElem_mem hj')) hk) fun e' => ?_
      exact hne j hj' (fun e => hij e.symm) k e'.symm hk
  · obtain ⟨j, hj, hje⟩ := List.getElem_of_mem he
    have hj' : j < H.length := by simpa using hj
    rw [List.getElem_set] at hje
    by_cases hij : i = j
    · rw [if_pos hij] at hje
      subst hje
      exact .inr (World.ownsRow.lt ho k hk).1
    · rw [if_neg hij] at hje; subst hje; exact h.own _ (List.getElem_mem hj') k hk
  · rw [List.pairwise_iff_getElem]
    intro x y hx hy hxy k h1 h2
    rw [List.length_set] at hx hy
    rw [List.getElem_set] at h1 h2
    by_cases hix : i = x
    · rw [if_pos hix] at h1
      rw [if_neg (by omega)] at h2
      exact hother y hy (by omega) k h1 h2
    · rw [if_neg hix] at h1
      by_cases hiy : i = y
      · rw [if_pos hiy] at h2
        exact hother x hx (by omega) k h2 h1
      · rw [if_neg hiy] at h2
        exact (List.pairwise_iff_getElem.1 h.apart) x y hx hy hxy k h1 h2

theorem run_app {w : World} {B sz by_ m mx : Nat} {t ty e : TypeId} {z v vx : Value} {cs news : List Value} (ht : P.underlying t = some (.slice e)) (hinfo : (P.info? e).map (fun i => (i.zero, i.size, i.bytes)) = some (some z, sz, by_))
    (hzs : z.cells.size = sz) (hsz : 0 < sz) (hby : 0 < by_) (ho : w.ownsRow B e sz v m cs) (hr : Rd sz w vx mx news) (h1 : ∀ u ∈ news, u.oneCell' = true) (hb : (m + mx) * by_ ≤ 140737488355328) (hB : B ≤ w.heap.size) :
    ∃ v' w', (Builtin.append_ #[t, t] ty #[v, vx]).run P w = .ok v' w' ∧ w'.ownsRow B e sz v' (m + mx) (cs ++ news) ∧ w.grownBy w' v.ownBlock ∧ ∀ k, v'.ownBlock = some k → v.ownBlock = some k ∨ w.heap.size ≤ k := by
  cases hi : P.info? e with
  | none => simp [hi] at hinfo
  | some i =>
    simp [hi] at hinfo
    obtain ⟨hz, hs, hbs⟩ := hinfo
    subst hs
    subst hbs
    have hle : m + mx ≤ 140737488355328 := Nat.le_trans (Nat.le_mul_of_pos_right _ hby) hb
    obtain ⟨hl, _, h3⟩ := hr
    rcases h3 with ⟨rfl, rfl⟩ | ⟨g, off, cap, cur, tt, fr, rfl, hn, hg, hc⟩
    · have hnews : news = [] := List.eq_nil_of_length_eq_zero (by simpa using hl)
      subst hnews
      have := run_append_owned_none (P := P) w B t ty e i i.size ht hi v m cs ho
      exact ⟨v, w, this, by simpa using ho, World.grownBy.refl w _, fun k hk => .inl hk⟩
    · have hnews : ∀ j u, news[j]? = some u → w.cell? ((⟨g, off, none⟩ : Addr).add j) = some u := fun j u hu => by
        rw [add_none, cell_of_row w g _ cur tt fr hg]
        have hj : j < mx * i.size := by rw [← hl]; exact (List.getElem?_eq_some_iff.1 hu).1
        rw [hc j hj]; exact hu
      obtain ⟨v', w', e1, e2, e3, _⟩ := run_append_own (P := P) w B t ty e i z i.size i.bytes ht hi hz rfl rfl hzs hsz v m cs ho ⟨g, off, none⟩ mx cap news hl hnews h1 (by unfold maxLen; omega) hb hB
      refine ⟨v', w', e1, e2, e3, ?_⟩
      have ho' := ho
      obtain ⟨hcl, hv⟩ := ho
      rcases hv with ⟨rfl, rfl⟩ | ⟨g', cap', cur', rfl, hbg, hgg, hmc, hcm, hcs, htk⟩
      · have hcs : cs = [] := List.eq_nil_of_length_eq_zero (by simpa using hcl)
        subst hcs
        by_cases hm : mx = 0
        · subst hm
          intro k hk
          obtain ⟨_, h2⟩ := e2
          have hnn : news = [] := List.eq_nil_of_length_eq_zero (by simpa using hl)
          have hrun : (Builtin.append_ #[t, t] ty #[.slice none 0 0, .slice (some ⟨g, off, none⟩) 0 cap]).run P w = .ok (.slice none 0 0) w := by
            simp [Builtin.append_, run_underlying ht, sizeOf, typeInfo, hi, Builtin.lenOf, Builtin.firstCells, loadCells, loadCellsFrom]
          rw [hrun] at e1
          injection e1 with e1a e1b
          subst e1a
          simp [Value.ownBlock] at hk
        · have hrun := run_append_nil (P := P) w t ty e i z ht hi hz ⟨g, off, none⟩ mx cap news hl hnews (by omega) (by omega) (by have hb' := hb; rw [Nat.zero_add] at hb'; omega)
          rw [hrun] at e1
          injection e1 with e1a e1b
          subst e1a
          intro k hk
          simp [Value.ownBlock] at hk
          exact .inr (by omega)
      · by_cases hroom : m + mx ≤ cap'
        · obtain ⟨w2, hrun, _, _⟩ := run_append_fits (P := P) w B t ty e i i.size ht hi rfl g' m cap' cs ho' ⟨g, off, none⟩ mx cap news hl hnews h1 hroom
          rw [hrun] at e1
          injection e1 with e1a e1b
          subst e1a
          intro k hk
          exact .inl hk
        · have holds : ∀ j u, cs[j]? = some u → w.cell? ((⟨g', 0, none⟩ : Addr).add j) = some u := ho'.cells (g := g') rfl
          have hrun := run_append_grow (P := P) w t ty e i z ht hi hz ⟨g', 0, none⟩ m cap' cs hcl holds ⟨g, off, none⟩ mx cap news hl hnews (by omega) (by omega) (growslice_fits (by omega) hb)
          rw [hrun] at e1
          injection e1 with e1a e1b
          subst e1a
          intro k hk
          simp [Value.ownBlock] at hk
          exact .inr (by omega)

theorem wpList_yields {a : Act} {w w' : World} {o : Oper} {v : Value} (hgd : Region.wanted o (yielded ops a.tmps) = true) (hrun : (execOp a.eval o).run P w = .ok (.value v) w') (h : wpList P ops Q rest (a.put o.dst v) w') : wpList P ops Q (o :: rest) a w := by
  unfold wpList
  rw [if_pos hgd]
  refine .inl ?_
  unfold Oper.wp
  rw [hrun]
  exact h

theorem RW.app {d i : Nat} {s x : Operand} {t e : TypeId} {sz by_ m mx m' : Nat} {z v vx : Value} {cs news cs' : List Value} (hg : wantedIn ops l guard = some true) (hd : Nat.ble n d = false)
    (ht : P.underlying t = some (.slice e)) (hinfo : (P.info? e).map (fun i => (i.zero, i.size, i.bytes)) = some (some z, sz, by_)) (hzs : z.cells.size = sz) (hsz : 0 < sz) (hby : 0 < by_)
    (hx : ev l s = some v) (hy : ev l x = some vx) (hi : H[i]? = some (.row v e sz m cs)) (hr : Rds w0 S H sz vx mx news) (h1 : ∀ u ∈ news, u.oneCell' = true) (hb : (m + mx) * by_ ≤ 140737488355328) (hcs : cs ++ news = cs') (hmm : m + mx = m')
    (k : ∀ v', RW P n w0 S ops Q rest ((d, v') :: l) (H.set i (.row v' e sz m' cs'))) :
    RW P n w0 S ops Q ({ dst := some d, op := .call { callee := .builtin .append, args := #[s, x], argTypes := #[t, t] }, type := ty, pos, after, guard } :: rest) l H := fun a w hs hm => by
  subst hcs; subst hmm
  have ho : w.ownsRow w0.heap.size e sz v m cs := hm.ok _ (List.mem_of_getElem? hi)
  obtain ⟨v', w', hrun, h2, h3, h4⟩ := run_app (P := P) (ty := ty) ht hinfo hzs hsz hby ho (hr w hm) h1 hb hm.size
  refine wpList_yields (v := v') (w' := w') (wanted_of hs hg) ?_ (k v' _ _ (hs.put hd) (hm.regrow hi h3 h2 h4))
  simp [execOp, resolve, invoke, builtin, hs.ev hx, hs.ev hy, hrun]

/-- A nil slice is a row of the call's own. -/
theorem Mem.nilRow {w : World} (h : Mem w0 S H w) (e : TypeId) (sz : Nat) : Mem w0 S (.row (.slice none 0 0) e sz 0 [] :: H) w :=
  h.addRow (Below.refl _ _) (World.ownsRow_nil w _ e sz)
theorem RW.nilRow (e : TypeId) (sz : Nat) (h : RW P n w0 S ops Q rest l (.row (.slice none 0 0) e sz 0 [] :: H)) : RW P n w0 S ops Q rest l H := fun a w hs hm => h a w hs (hm.nilRow e sz)
theorem CW.nilRow {c : Code} (e : TypeId) (sz : Nat) (h : CW P n w0 S Q c l (.row (.slice none 0 0) e sz 0 [] :: H)) : CW P n w0 S Q c l H := fun a w hs hm => h a w hs (hm.nilRow e sz)

theorem EW.nilRow {K : Act → World → Prop} (e : TypeId) (sz : Nat) (h : EW n w0 S K l (.row (.slice none 0 0) e sz 0 [] :: H)) : EW n w0 S K l H := fun a w hs hm => h a w hs (hm.nilRow e sz)

/-- A call that hands back a new row (and more, by F). -/
theorem RW.caS {d : Nat} {x : Operand} {f : FuncId} {xs : List Operand} {vs : List Value} {ats : Array TypeId} {e : TypeId} {sz m : Nat} {cs : List Value} (F : Value → Value) (hg : wantedIn ops l guard = some true) (hd : Nat.ble n d = false)
    (hx : ev l x = some (.func (.func f) #[] #[])) (hv : evs l xs = some vs) (hf : ∀ args w, (callFunc f args).run P w = .ok (.enter f args) w)
    (hc : ∀ w, Mem w0 S H w → Calls P f vs.toArray w (fun en w' => ∃ u, en = .returned (F u) ∧ w'.ownsRow w.heap.size e sz u m cs ∧ Below w.heap.size w w'))
    (h : ∀ u, RW P n w0 S ops Q rest ((d, F u) :: l) (.row u e sz m cs :: H)) :
    RW P n w0 S ops Q ({ dst := some d, op := .call { callee := .value x, args := xs.toArray, argTypes := ats }, type := ty, pos, after, guard } :: rest) l H := fun a w hs hm => by
  unfold wpList
  rw [if_pos (wanted_of hs hg)]
  refine .inl ?_
  unfold Oper.wp
  have e1 : xs.toArray.map a.eval = vs.toArray := by apply Array.ext'; simpa using hs.evs hv
  have hrun : (execOp a.eval { dst := some d, op := .call { callee := .value x, args := xs.toArray, argTypes := ats }, type := ty, pos, after, guard }).run P w = .ok (.enter f vs.toArray) w := by
    simp [execOp, resolve, hs.ev hx, Deferred.ofValue, invoke, e1, hf]
  rw [hrun]
  simp only [Oper.upon]
  refine (hc w hm).mono ?_
  rintro en w' ⟨u, rfl, ho, hb⟩
  exact h u _ _ (hs.put hd) (hm.addRow hb ho)

/-- The end of a call that hands back one row (and more, by F). -/
theorem EW.doneS {fn : Func} {R : Ending → World → Prop} {rs : List ResultVar} {vs : List Value} {i m sz : Nat} {u : Value} {e : TypeId} {cs : List Value} (hr : fn.results = rs.toArray) (h : Res P l H rs vs) (hi : H[i]? = some (.row u e sz m cs))
    (hR : ∀ w, Mem w0 S H w → w.ownsRow w0.heap.size e sz u m cs → R (.returned (pack vs)) w) : EW n w0 S (bodyPost P fn R .ret) l H :=
  fun _ w hs hm => ⟨hs.defers, _, res_run hs hm hr h, hR w hm (hm.ok _ (List.mem_of_getElem? hi))⟩
end
end Go.Proofs.YtfpafpmcfkapkaaDoor.K
