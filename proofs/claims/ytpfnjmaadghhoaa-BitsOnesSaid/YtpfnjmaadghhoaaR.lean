import Derived.Test.YtpfnjmaadghhoaaRows
import Derived.Test.YtpfnjmaadghhoaaN9
import Derived.ProofKit
import Derived.OpenShut
import Derived.ChangeOld
import Derived.SizedLaws
import Derived.Handed
import Derived.Carry
/-! A law's row: its arguments opened by what they may hold; variables that are laid. -/
namespace Go.Proofs.Ytpfnjmaadghhoaa
open Go Go.RowKit Go.ChangeShapes Go.WideShapes K

theorem own : ownKnob Try.prog.godebug = none := by kernel_rfl
theorem laidOut : laidOutB Try.prog = true := by kernel_rfl

section
variable {P : Program} {w : World} {r : Reach} {base : Nat} {t e : TypeId} {v : Value}
theorem ar_int {k : IntKind} (ht : P.underlying t = some (.int k)) (h : Value.okWide P w r base t v) : ∃ n, v = .int k n ∧ k.min ≤ n ∧ n ≤ k.max := by
  simp only [Value.okWide, ht, Cell.okWide] at h
  cases v <;> simp_all [Cell.ok]
  exact ⟨h.2.1, h.2.2⟩
theorem ar_i64 (ht : P.underlying t = some (.int .i64)) (h : Value.okWide P w r base t v) : ∃ n, v = .int .i64 n ∧ -9223372036854775808 ≤ n ∧ n ≤ 9223372036854775807 := ar_int ht h
theorem ar_bool (ht : P.underlying t = some .bool) (h : Value.okWide P w r base t v) : ∃ b, v = .bool b := by
  simp only [Value.okWide, ht, Cell.okWide] at h
  cases v <;> simp_all [Cell.ok]
theorem ar_f64 (ht : P.underlying t = some (.float .f64)) (h : Value.okWide P w r base t v) : ∃ b, v = .float .f64 b ∧ FloatKind.f64.has b := by
  simp only [Value.okWide, ht, Cell.okWide] at h
  cases v <;> simp_all [Cell.ok]

/-- Cells that are all numbers of one type, one by one. -/
theorem row_ints {cs : Array Value} {n : Nat} (hct : P.cellTypes P.depth t = some (List.replicate n e)) (hsz : cs.size = n) (he : P.underlying e = some (.int .i64)) (h : Row.okWide P w r base t cs) :
    ∃ f : Nat → Int, cs = cf n (iv f) ∧ ∀ i, i < n → -9223372036854775808 ≤ f i ∧ f i ≤ 9223372036854775807 := by
  obtain ⟨ts, h1, _, h3⟩ := h
  obtain rfl := Option.some.inj (hct.symm.trans h1)
  have key : ∀ i, i < n → ∃ z : Int, cs[i]? = some (.int .i64 z) ∧ -9223372036854775808 ≤ z ∧ z ≤ 9223372036854775807 := by
    intro i hi
    have hi' : i < cs.size := by omega
    obtain ⟨u, hu, hok⟩ := h3 i cs[i] (by simp [hi'])
    rw [List.length_replicate, Nat.mod_eq_of_lt hi, List.getElem?_replicate, if_pos hi] at hu
    obtain rfl := Option.some.inj hu
    unfold Cell.okWide at hok
    rw [he] at hok
    generalize hc : cs[i] = c at hok
    cases c <;> simp [Cell.ok, he] at hok
    obtain ⟨rfl, hm, hx⟩ := hok
    exact ⟨_, by rw [Array.getElem?_eq_getElem hi', hc], hm, hx⟩
  refine ⟨fun i => match cs[i]? with | some (.int _ z) => z | _ => 0, ?_, fun i hi => ?_⟩
  · apply Array.ext_getElem?
    intro j
    by_cases hj : j < n
    · obtain ⟨z, hz, _⟩ := key j hj
      rw [cf_get hj, hz]
      simp only [iv, hz]
    · rw [Array.getElem?_eq_none (by omega), Array.getElem?_eq_none (by rw [cf_size]; omega)]
  · obtain ⟨z, hz, h1, h2⟩ := key i hi
    simp only [hz]
    exact ⟨h1, h2⟩

theorem ar_arr {m n : Nat} {e' : TypeId} (hu : P.underlying t = some (.array m e')) (hc : P.cellsOf t = n) (hct : P.cellTypes P.depth t = some (List.replicate n e)) (he : P.underlying e = some (.int .i64))
    (h : Value.okWide P w r base t v) : ∃ f : Nat → Int, v = .agg (cf n (iv f)) ∧ ∀ i, i < n → -9223372036854775808 ≤ f i ∧ f i ≤ 9223372036854775807 := by
  unfold Value.okWide at h
  rw [hu] at h
  obtain ⟨cs, rfl, hsz, hr⟩ := h
  obtain ⟨f, rfl, hb⟩ := row_ints hct (hsz.trans hc) he hr
  exact ⟨f, rfl, hb⟩
theorem ar_str {n : Nat} {fs : Array Field} (hu : P.underlying t = some (.struct fs)) (hc : P.cellsOf t = n) (hct : P.cellTypes P.depth t = some (List.replicate n e)) (he : P.underlying e = some (.int .i64))
    (h : Value.okWide P w r base t v) : ∃ f : Nat → Int, v = .agg (cf n (iv f)) ∧ ∀ i, i < n → -9223372036854775808 ≤ f i ∧ f i ≤ 9223372036854775807 := by
  unfold Value.okWide at h
  rw [hu] at h
  obtain ⟨cs, rfl, hsz, hr⟩ := h
  obtain ⟨f, rfl, hb⟩ := row_ints hct (hsz.trans hc) he hr
  exact ⟨f, rfl, hb⟩

/-- A variable that is laid: an array of numbers. -/
theorem gl_of {n : String} {d : DataW Unit} {g N : Nat} {f : Nat → Int} (hg : P.globalNamed n = some g) (ht : (P.globals[g]?).map (·.type) = some t) (hu : P.underlying t = some (.array N e)) (he : P.underlying e = some (.int .i64))
    (hce : P.cellsOf e = 1) (hd : d = .agg ((List.range N).map fun i => .lit (.int .i64 (f i))))
    (h : ∃ g t cs fuel p, P.globalNamed n = some g ∧ (P.globals[g]?).map (·.type) = some t ∧ w.var? P n = some cs ∧ DataW.trod (fun _ => ()) P w 0 (fun _ => true) false fuel t cs.toList = some (d, p)) :
    ∀ j, j < N → w.cell? ⟨g, j, none⟩ = some (iv f j) := by
  obtain ⟨g', t', cs, fuel, p, h1, h2, h3, h4⟩ := h
  obtain rfl := Option.some.inj (hg.symm.trans h1)
  obtain rfl := Option.some.inj (ht.symm.trans h2)
  intro j hj
  rw [World.var?_cell hg h3 j]
  obtain ⟨xs, m, rfl, hx, hl, hxl, hall⟩ := DataW.trod_array hu h4
  have hj' := hall j hj
  rw [hce, Nat.mul_one] at hj'
  obtain ⟨b, hb⟩ : ∃ b, xs[j]? = some b := ⟨xs[j]'(by omega), List.getElem?_eq_getElem (by omega)⟩
  rw [hb] at hj'
  obtain ⟨z, hcz, rfl, _⟩ := DataW.trod_int he hj'
  have e1 : (xs.map (·.1)) = ((List.range N).map fun i => (.lit (.int .i64 (f i)) : DataW Unit)) := by
    have := congrArg Prod.fst hx
    rw [hd] at this
    simpa using this.symm
  have e2 : (xs.map (·.1))[j]? = some (.lit (.int .i64 z)) := by simp [hb]
  rw [e1] at e2
  simp [hj] at e2
  have e3 : cs.toList[j]? = some (.int .i64 z) := by
    have := congrArg (·[0]?) hcz
    simpa [List.getElem?_take, List.getElem?_drop] using this
  rw [← Array.getElem?_toList, e3]
  simp [iv, e2]

theorem laidVars_reads {l : List (String × DataW Unit)} : ∀ {ps : List MemPlace}, DataW.LaidVars P w l ps → ∀ (i : Nat) (n : String) (d : DataW Unit), l[i]? = some (n, d) →
    ∃ g t cs fuel p, P.globalNamed n = some g ∧ (P.globals[g]?).map (·.type) = some t ∧ w.var? P n = some cs ∧ DataW.trod (fun _ => ()) P w 0 (fun _ => true) false fuel t cs.toList = some (d, p) := by
  induction l with
  | nil => intro ps _ i n d hi; simp at hi
  | cons q r ih =>
    intro ps h i n d hi
    obtain ⟨g, t, cs, fuel, p, q', h1, h2, h3, h4, h5, _⟩ := h
    cases i with
    | zero =>
      simp at hi
      subst hi
      exact ⟨g, t, cs, fuel, p, h1, h2, h3, h4⟩
    | succ i => exact ih h5 i n d (by simpa using hi)
theorem laid_reads {l : List (String × DataW Unit)} (h : laidMet P l w) (i : Nat) {n : String} {d : DataW Unit} (hi : l[i]? = some (n, d)) :
    ∃ g t cs fuel p, P.globalNamed n = some g ∧ (P.globals[g]?).map (·.type) = some t ∧ w.var? P n = some cs ∧ DataW.trod (fun _ => ()) P w 0 (fun _ => true) false fuel t cs.toList = some (d, p) := by
  obtain ⟨ps, hv, _⟩ := h
  exact laidVars_reads hv i n d hi
/-- What a datum of arrays within arrays tells of the cells. -/
def Tell (P : Program) (w : World) (t : TypeId) (n : Nat) (f : Nat → Int) (d : DataW Unit) : Prop :=
  ∀ fuel cs p, DataW.trod (fun _ => ()) P w 0 (fun _ => true) false fuel t cs = some (d, p) → ∀ j, j < n → cs[j]? = some (.int .i64 (f j))
theorem Tell.int {f : Nat → Int} {z' : Int} (he : P.underlying e = some (.int .i64)) (hz' : f 0 = z') : Tell P w e 1 f (.lit (.int .i64 z')) := fun fuel cs p h j hj => by
  subst hz'
  obtain ⟨z, hcz, hz, _⟩ := DataW.trod_int he h
  have : j = 0 := by omega
  subst this
  have := congrArg Prod.fst hz
  simp only [DataW.lit.injEq, Lit.int.injEq, true_and] at this
  rw [hcz, this]; rfl
theorem Tell.arr {N M : Nat} {f : Nat → Int} {ds : Nat → DataW Unit} (hu : P.underlying t = some (.array M e)) (hce : P.cellsOf e = N) (h : ∀ i, i < M → Tell P w e N (fun k => f (i * N + k)) (ds i)) :
    Tell P w t (M * N) f (.agg ((List.range M).map ds)) := fun fuel cs p h4 j hj => by
  obtain ⟨xs, m, rfl, hx, hl, hxl, hall⟩ := DataW.trod_array hu h4
  have hN : 0 < N := by
    rcases Nat.eq_zero_or_pos N with h0 | h0
    · subst h0; omega
    · exact h0
  have hi : j / N < M := Nat.div_lt_of_lt_mul (by rwa [Nat.mul_comm])
  have hj' := hall (j / N) hi
  rw [hce] at hj'
  obtain ⟨b, hb⟩ : ∃ b, xs[j / N]? = some b := ⟨xs[j / N]'(by omega), List.getElem?_eq_getElem (by omega)⟩
  rw [hb] at hj'
  have e1 : (xs.map (·.1)) = ((List.range M).map ds) := by
    have := congrArg Prod.fst hx
    simpa using this.symm
  have e2 : (xs.map (·.1))[j / N]? = some b.1 := by simp [hb]
  rw [e1] at e2
  simp [hi] at e2
  obtain ⟨b1, b2⟩ := b
  simp only at e2
  subst e2
  have := h _ hi _ _ _ hj' (j % N) (Nat.mod_lt _ hN)
  have hm : j / N * N + j % N = j := by rw [Nat.mul_comm]; exact Nat.div_add_mod j N
  simp only [hm] at this
  rw [List.getElem?_take, if_pos (Nat.mod_lt _ hN), List.getElem?_drop, hm] at this
  exact this
theorem gl_tell {n : String} {d : DataW Unit} {g N : Nat} {f : Nat → Int} (hg : P.globalNamed n = some g) (ht : (P.globals[g]?).map (·.type) = some t) (hT : Tell P w t N f d)
    (h : ∃ g t cs fuel p, P.globalNamed n = some g ∧ (P.globals[g]?).map (·.type) = some t ∧ w.var? P n = some cs ∧ DataW.trod (fun _ => ()) P w 0 (fun _ => true) false fuel t cs.toList = some (d, p)) :
    ∀ j, j < N → w.cell? ⟨g, j, none⟩ = some (iv f j) := by
  obtain ⟨g', t', cs, fuel, p, h1, h2, h3, h4⟩ := h
  obtain rfl := Option.some.inj (hg.symm.trans h1)
  obtain rfl := Option.some.inj (ht.symm.trans h2)
  intro j hj
  rw [World.var?_cell hg h3 j, ← Array.getElem?_toList, hT _ _ _ h4 j hj]
  rfl
end

/-! ## slices that come in -/
section
variable {H : Type} {encH : TypeId × Value → H} {P : Program} {W : World} {spare : Nat → Bool} {held : Bool}
/-- Cells that are all numbers. -/
def IntsT (encH : TypeId × Value → H) (P : Program) (W : World) (spare : Nat → Bool) (held : Bool) (t : TypeId) (n : Nat) : Prop :=
  ∀ fuel cs x, DataW.trod encH P W 0 spare held fuel t cs = some x → ∃ f : Nat → Int, cs = (List.range n).map (iv f) ∧ ∀ i, i < n → Bnd (f i)
theorem ints_int {t : TypeId} (he : P.underlying t = some (.int .i64)) : IntsT encH P W spare held t 1 := fun fuel cs x h => by
  obtain ⟨z, hcz, _, hw⟩ := DataW.trod_int he h
  subst hcz
  refine ⟨fun _ => z, rfl, fun i _ => ?_⟩
  simp only [Lit.wf, Bool.and_eq_true, decide_eq_true_eq] at hw
  exact ⟨hw.1, hw.2⟩
theorem pick_ints {cs : List Value} {n : Nat} (hl : cs.length = n) (h : ∀ i, i < n → ∃ z, cs[i]? = some (.int .i64 z) ∧ Bnd z) : ∃ f : Nat → Int, cs = (List.range n).map (iv f) ∧ ∀ i, i < n → Bnd (f i) := by
  refine ⟨fun i => match cs[i]? with | some (.int _ z) => z | _ => 0, ?_, fun i hi => ?_⟩
  · apply List.ext_getElem?
    intro j
    by_cases hj : j < n
    · obtain ⟨z, hz, _⟩ := h j hj
      simp [hj, iv, hz]
    · rw [List.getElem?_eq_none (by omega), List.getElem?_eq_none (by simp; omega)]
  · obtain ⟨z, hz, hb⟩ := h i hi
    simp only [hz]; exact hb
theorem ints_at {cs : List Value} {n : Nat} {f : Nat → Int} (h : cs = (List.range n).map (iv f)) {i : Nat} (hi : i < n) : cs[i]? = some (.int .i64 (f i)) := by subst h; simp [hi, iv]
theorem ints_arr {t e : TypeId} {m n k : Nat} (hu : P.underlying t = some (.array m e)) (hce : P.cellsOf e = n) (hct : P.cellsOf t = k) (hn : 0 < n) (hk : m * n = k) (h : IntsT encH P W spare held e n) : IntsT encH P W spare held t k := fun fuel cs x h4 => by
  obtain ⟨xs, q, rfl, _, hl, hxl, hall⟩ := DataW.trod_array hu h4
  rw [hct] at hl
  refine pick_ints hl fun j hj => ?_
  have hi : j / n < m := Nat.div_lt_of_lt_mul (by rw [Nat.mul_comm, hk]; exact hj)
  have hj' := hall (j / n) hi
  rw [hce] at hj'
  obtain ⟨b, hb⟩ : ∃ b, xs[j / n]? = some b := ⟨xs[j / n]'(by omega), List.getElem?_eq_getElem (by omega)⟩
  rw [hb] at hj'
  obtain ⟨f, hf, hbd⟩ := h _ _ _ hj'
  have hm : j % n < n := Nat.mod_lt _ hn
  have h1 := ints_at hf hm
  rw [List.getElem?_take, if_pos hm, List.getElem?_drop] at h1
  have e1 : j / n * n + j % n = j := by rw [Nat.mul_comm]; exact Nat.div_add_mod j n
  rw [e1] at h1
  exact ⟨_, h1, hbd _ hm⟩
def fldsI (P : Program) : Nat → List Field → Bool
  | _, [] => true
  | i, f :: fs => Nat.beq f.offset i && (match P.underlying f.type with | some (.int .i64) => true | _ => false) && Nat.beq (P.cellsOf f.type) 1 && fldsI P (i + 1) fs
theorem fldsI_get {P : Program} : ∀ {fs : List Field} {k i : Nat} {f : Field}, fldsI P k fs = true → fs[i]? = some f → f.offset = k + i ∧ P.underlying f.type = some (.int .i64) ∧ P.cellsOf f.type = 1
  | g :: fs, k, 0, f, h, hf => by
    simp only [fldsI, Bool.and_eq_true] at h
    obtain ⟨⟨⟨h1, h2⟩, h3⟩, _⟩ := h
    simp at hf; subst hf
    refine ⟨by simpa using Nat.eq_of_beq_eq_true h1, ?_, Nat.eq_of_beq_eq_true h3⟩
    split at h2
    · assumption
    · cases h2
  | g :: fs, k, i + 1, f, h, hf => by
    simp only [fldsI, Bool.and_eq_true] at h
    have := fldsI_get h.2 (by simpa using hf)
    exact ⟨by omega, this.2⟩
theorem ints_struct {t : TypeId} {fs : Array Field} {n : Nat} (hu : P.underlying t = some (.struct fs)) (hct : P.cellsOf t = n) (hn : fs.size = n) (hf : fldsI P 0 fs.toList = true) : IntsT encH P W spare held t n := fun fuel cs x h => by
  obtain ⟨xs, q, rfl, _, hl, hxl, hall⟩ := DataW.trod_struct hu h
  rw [hct] at hl
  refine pick_ints hl fun j hj => ?_
  obtain ⟨f, hfj⟩ : ∃ f, fs[j]? = some f := ⟨fs[j]'(by omega), Array.getElem?_eq_getElem (by omega)⟩
  obtain ⟨ho, hty, hc⟩ := fldsI_get hf (by rw [← Array.getElem?_toList] at hfj; exact hfj)
  have h1 := hall j f hfj
  rw [hc, ho, Nat.zero_add] at h1
  obtain ⟨b, hb⟩ : ∃ b, xs[j]? = some b := ⟨xs[j]'(by omega), List.getElem?_eq_getElem (by omega)⟩
  rw [hb] at h1
  obtain ⟨g, hg, hbd⟩ := ints_int (encH := encH) (W := W) (spare := spare) (held := held) hty _ _ _ h1
  have h2 := ints_at hg (Nat.zero_lt_one)
  rw [List.getElem?_take, if_pos (by omega), List.getElem?_drop, Nat.add_zero] at h2
  exact ⟨_, h2, hbd 0 (by omega)⟩

/-- What an element's cells are told as. -/
def ElemT (encH : TypeId × Value → H) (P : Program) (W : World) (spare : Nat → Bool) (held : Bool) (e : TypeId) {α : Type} (enc : α → List Value) (B : α → Prop) : Prop :=
  ∀ fuel cs x, DataW.trod encH P W 0 spare held fuel e cs = some x → ∃ a, cs = enc a ∧ B a
theorem el_i64 {e : TypeId} (he : P.underlying e = some (.int .i64)) : ElemT encH P W spare held e e1 Bnd := fun fuel cs x h => by
  obtain ⟨f, hf, hb⟩ := ints_int he _ _ _ h
  exact ⟨f 0, hf, hb 0 (by omega)⟩
theorem el_u8 {e : TypeId} (he : P.underlying e = some (.int .u8)) : ElemT encH P W spare held e eb Byt := fun fuel cs x h => by
  obtain ⟨z, hcz, _, hw⟩ := DataW.trod_int he h
  subst hcz
  refine ⟨z, rfl, ?_⟩
  simp only [Lit.wf, Bool.and_eq_true, decide_eq_true_eq] at hw
  exact ⟨hw.1, hw.2⟩
theorem el_p2 {e : TypeId} (h : IntsT encH P W spare held e 2) : ElemT encH P W spare held e e2 (fun p => Bnd p.1 ∧ Bnd p.2) := fun fuel cs x hx => by
  obtain ⟨f, hf, hb⟩ := h _ _ _ hx
  exact ⟨(f 0, f 1), hf, hb 0 (by omega), hb 1 (by omega)⟩
theorem el_k {e : TypeId} {n : Nat} (h : IntsT encH P W spare held e n) : ElemT encH P W spare held e (ek n) (fun f => ∀ i, i < n → Bnd (f i)) := fun fuel cs x hx => by
  obtain ⟨f, hf, hb⟩ := h _ _ _ hx
  exact ⟨f, hf, hb⟩

def w_cells (W : World) (a : Addr) (o n : Nat) : Option (List Value) := W.cells? 0 (a.add o) n
/-- How many a datum tells. -/
def TellsN (d : DataW H) (m : Nat) : Prop := (d = .nil ∧ m = 0) ∨ ∃ elems sp, d = .slice elems sp ∧ elems.length = m
theorem list_of {α : Type} (p : Nat → α → Prop) : ∀ (len : Nat), (∀ i, i < len → ∃ y, p i y) → ∃ xs : List α, xs.length = len ∧ ∀ i (h : i < xs.length), p i xs[i]
  | 0, _ => ⟨[], rfl, fun i h => by simp at h⟩
  | k + 1, h => by
    obtain ⟨ys, hyl, hys⟩ := list_of p k (fun i hi => h i (by omega))
    obtain ⟨y, hy⟩ := h k (by omega)
    refine ⟨ys ++ [y], by simp [hyl], fun i hi => ?_⟩
    by_cases hik : i < ys.length
    · rw [List.getElem_append_left hik]; exact hys i hik
    · have : i = k := by simp at hi; omega
      subst this
      have e0 : (ys ++ [y])[i] = y := by rw [List.getElem_append_right (by omega)]; simp
      rw [e0]; exact hy
theorem sl_cells {α : Type} {enc : α → List Value} {sz : Nat} {B : α → Prop} {t e : TypeId} {fuel : Nat} {cs : List Value} {x : DataW H × List MemPlace} (hu : P.underlying t = some (.slice e)) (hce : P.cellsOf e = sz) (hsz : 0 < sz) (he : IsEnc enc sz)
    (hel : ElemT encH P W spare held e enc B) (h : DataW.trod encH P W 0 spare held fuel t cs = some x) :
    ∃ (v : Value) (xs : List α), cs = [v] ∧ Rd sz W v xs.length (ec enc xs) ∧ (∀ a ∈ xs, B a) ∧ TellsN x.1 xs.length ∧ (∃ A n c, v = .slice A n c) := by
  rcases DataW.trod_slice hu h with ⟨rfl, rfl⟩ | ⟨a, len, cap, elems, rest, n, rfl, rfl, rfl, _, hlc, hcm, hel', hall, _, _⟩
  · exact ⟨_, [], rfl, Rd.nil sz W, by simp, .inl ⟨rfl, rfl⟩, _, _, _, rfl⟩
  · rw [hce] at hall
    have hex : ∀ i, i < len → ∃ y, w_cells W a (i * sz) sz = some (enc y) ∧ B y := fun i hi => by
      have h1 := hall i hi
      obtain ⟨b, hb⟩ : ∃ b, elems[i]? = some b := ⟨elems[i]'(by omega), List.getElem?_eq_getElem (by omega)⟩
      rw [hb, Option.bind_eq_some_iff] at h1
      obtain ⟨c, hc, hc2⟩ := h1
      obtain ⟨y, rfl, hy⟩ := hel _ _ _ hc2
      exact ⟨y, hc, hy⟩
    obtain ⟨xs, hxl, hxs⟩ := list_of (fun i y => w_cells W a (i * sz) sz = some (enc y) ∧ B y) len hex
    refine ⟨_, xs, rfl, ?_, fun z hz => ?_, .inr ⟨_, _, rfl, by simp [hel', hxl]⟩, _, _, _, rfl⟩
    · refine ⟨ec_len he xs, by unfold maxLen at hcm; omega, ?_⟩
      rcases Nat.eq_zero_or_pos len with h0 | h0
      · left
        subst h0
        exact ⟨.inr ⟨a, cap, rfl⟩, hxl⟩
      · right
        have cell : ∀ i, i < xs.length → ∀ j, j < sz → W.cell? (a.add (i * sz + j)) = (enc (xs.getD i (xs[0]'(by omega))))[j]? := fun i hi j hj => by
          have h1 := (hxs i hi).1
          unfold w_cells World.cells? at h1
          rw [if_pos (Nat.zero_le _)] at h1
          have h2 := mapM_some_get h1 j j (by simp [hj])
          rw [List.getD_eq_getElem?_getD, List.getElem?_eq_getElem hi, Option.getD_some, ← h2, Addr.add_add]
        have h00 := cell 0 (by omega) 0 hsz
        have hsp : a.spot = none ∧ ∃ cur tt fr, W.heap[a.block]? = some (.cells cur tt fr) := by
          have hne : W.cell? a ≠ none := by
            rw [Nat.zero_mul, Nat.zero_add] at h00
            have e0 : a.add 0 = a := rfl
            rw [e0] at h00
            rw [h00, List.getElem?_eq_getElem (by rw [he.len]; exact hsz)]
            simp
          unfold World.cell? at hne
          split at hne
          · rename_i cur tt fr hg
            refine ⟨?_, cur, tt, fr, hg⟩
            cases hs : a.spot with
            | none => rfl
            | some s => simp [hs] at hne
          · exact absurd rfl hne
        obtain ⟨hspot, cur, tt, fr, hg⟩ := hsp
        obtain ⟨g, off, sp⟩ := a
        simp only at hspot hg
        subst hspot
        refine ⟨g, off, cap, cur, tt, fr, by rw [hxl], by omega, hg, fun j hj => ?_, by omega⟩
        have hi : j / sz < xs.length := Nat.div_lt_of_lt_mul (by rw [Nat.mul_comm]; exact hj)
        have hm : j % sz < sz := Nat.mod_lt _ hsz
        have e1 : j / sz * sz + j % sz = j := by rw [Nat.mul_comm]; exact Nat.div_add_mod j sz
        have h1 := cell (j / sz) hi (j % sz) hm
        rw [e1, add_none, cell_of_row W g _ cur tt fr hg] at h1
        have h2 := ec_get he (xs := xs) (i := j / sz) (j := j % sz) (d := xs[0]'(by omega)) hi hm
        rw [e1] at h2
        rw [h1, h2]
    · obtain ⟨i, hi, rfl⟩ := List.getElem_of_mem hz
      exact (hxs i hi).2
end
section
variable {H : Type} {encH : TypeId × Value → H} {P : Program} {W : World} {base : Nat} {t e : TypeId} {v : Value} {d : DataW H} {p : List MemPlace}
theorem ar_sl {α : Type} {enc : α → List Value} {sz : Nat} {B : α → Prop} (hu : P.underlying t = some (.slice e)) (hce : P.cellsOf e = sz) (hsz : 0 < sz) (he : IsEnc enc sz)
    (hel : ElemT encH P W (fun _ => true) true e enc B) (hv : Value.okWide P W .any base t v) (h : DataW.Trod encH P W 0 (fun _ => true) true t v d p) :
    ∃ xs : List α, Rd sz W v xs.length (ec enc xs) ∧ (∀ a ∈ xs, B a) ∧ TellsN d xs.length := by
  obtain ⟨n, h⟩ := h
  obtain ⟨u, xs, hc, hr, hb, ht, A, m, c, rfl⟩ := sl_cells hu hce hsz he hel h
  have : v = .slice A m c := by
    simp only [Value.okWide, hu] at hv
    cases v <;> simp_all [Value.cells, Cell.okWide, Cell.ok]
  subst this
  exact ⟨xs, hr, hb, ht⟩
theorem ar_spec {α : Type} {enc : α → List Value} {sz n : Nat} {B : α → Prop} {fs : Array Field} {t0 t1 : TypeId} {f0 f1 : Field} (hu : P.underlying t = some (.struct fs)) (hct : P.cellsOf t = n + 1) (h0 : fs[0]? = some f0) (h1 : fs[1]? = some f1)
    (ho0 : f0.offset = 0) (ho1 : f1.offset = n) (ht0 : f0.type = t0) (ht1 : f1.type = t1) (hc0 : P.cellsOf t0 = n) (hc1 : P.cellsOf t1 = 1) (hi : IntsT encH P W (fun _ => true) true t0 n)
    (hus : P.underlying t1 = some (.slice e)) (hce : P.cellsOf e = sz) (hsz : 0 < sz) (he : IsEnc enc sz) (hel : ElemT encH P W (fun _ => true) true e enc B)
    (hv : Value.okWide P W .any base t v) (h : DataW.Trod encH P W 0 (fun _ => true) true t v d p) :
    ∃ (f : Nat → Int) (sv : Value) (xs : List α), v = .agg (cat [(n, iv f), p1 sv]) ∧ (∀ i, i < n → Bnd (f i)) ∧ Rd sz W sv xs.length (ec enc xs) ∧ (∀ a ∈ xs, B a) := by
  obtain ⟨m, h⟩ := h
  have hv' := hv
  unfold Value.okWide at hv'
  rw [hu] at hv'
  obtain ⟨cs, rfl, hsize, _⟩ := hv'
  obtain ⟨xs, q, rfl, _, hl, hxl, hall⟩ := DataW.trod_struct hu h
  simp only [Value.cells] at hl hall
  rw [hct] at hl
  have hlt0 : 0 < fs.size := (Array.getElem?_eq_some_iff.1 h0).1
  have hlt1 : 1 < fs.size := (Array.getElem?_eq_some_iff.1 h1).1
  have a0 := hall 0 f0 h0
  have a1 := hall 1 f1 h1
  rw [ho0, ht0, hc0, List.drop_zero] at a0
  rw [ho1, ht1, hc1] at a1
  obtain ⟨b0, hb0⟩ : ∃ b, xs[0]? = some b := ⟨xs[0]'(by omega), List.getElem?_eq_getElem (by omega)⟩
  obtain ⟨b1, hb1⟩ : ∃ b, xs[1]? = some b := ⟨xs[1]'(by omega), List.getElem?_eq_getElem (by omega)⟩
  rw [hb0] at a0
  rw [hb1] at a1
  obtain ⟨f, hf, hbf⟩ := hi _ _ _ a0
  obtain ⟨sv, ys, hc, hr, hb, _, _⟩ := sl_cells hus hce hsz he hel a1
  refine ⟨f, sv, ys, ?_, hbf, hr, hb⟩
  congr 1
  apply Array.ext'
  have e1 : cs.toList = cs.toList.take n ++ (cs.toList.drop n).take 1 := by
    rw [List.take_of_length_le (show (cs.toList.drop n).length ≤ 1 by simp at hl ⊢; omega), List.take_append_drop]
  rw [e1, hf, hc]
  simp [cat, p1]
theorem ar_plane {α : Type} {enc : α → List Value} {sz : Nat} {B : α → Prop} {fs : Array Field} {t0 t1 t2 : TypeId} {f0 f1 f2 : Field} (hu : P.underlying t = some (.struct fs)) (hct : P.cellsOf t = 3) (h0 : fs[0]? = some f0) (h1 : fs[1]? = some f1) (h2 : fs[2]? = some f2)
    (ho0 : f0.offset = 0) (ho1 : f1.offset = 1) (ho2 : f2.offset = 2) (ht0 : f0.type = t0) (ht1 : f1.type = t1) (ht2 : f2.type = t2) (hc0 : P.cellsOf t0 = 1) (hc1 : P.cellsOf t1 = 1) (hc2 : P.cellsOf t2 = 1) (hi0 : P.underlying t0 = some (.int .i64)) (hi1 : P.underlying t1 = some (.int .i64))
    (hus : P.underlying t2 = some (.slice e)) (hce : P.cellsOf e = sz) (hsz : 0 < sz) (he : IsEnc enc sz) (hel : ElemT encH P W (fun _ => true) true e enc B)
    (hv : Value.okWide P W .any base t v) (h : DataW.Trod encH P W 0 (fun _ => true) true t v d p) :
    ∃ (x y : Int) (sv : Value) (xs : List α), v = .agg #[.int .i64 x, .int .i64 y, sv] ∧ Bnd x ∧ Bnd y ∧ Rd sz W sv xs.length (ec enc xs) ∧ (∀ a ∈ xs, B a) := by
  obtain ⟨m, h⟩ := h
  have hv' := hv
  unfold Value.okWide at hv'
  rw [hu] at hv'
  obtain ⟨cs, rfl, hsize, _⟩ := hv'
  obtain ⟨xs, q, rfl, _, hl, hxl, hall⟩ := DataW.trod_struct hu h
  simp only [Value.cells] at hl hall
  rw [hct] at hl
  have hlt2 : 2 < fs.size := (Array.getElem?_eq_some_iff.1 h2).1
  have a0 := hall 0 f0 h0
  have a1 := hall 1 f1 h1
  have a2 := hall 2 f2 h2
  rw [ho0, ht0, hc0, List.drop_zero] at a0
  rw [ho1, ht1, hc1] at a1
  rw [ho2, ht2, hc2] at a2
  obtain ⟨b0, hb0⟩ : ∃ b, xs[0]? = some b := ⟨xs[0]'(by omega), List.getElem?_eq_getElem (by omega)⟩
  obtain ⟨b1, hb1⟩ : ∃ b, xs[1]? = some b := ⟨xs[1]'(by omega), List.getElem?_eq_getElem (by omega)⟩
  obtain ⟨b2, hb2⟩ : ∃ b, xs[2]? = some b := ⟨xs[2]'(by omega), List.getElem?_eq_getElem (by omega)⟩
  rw [hb0] at a0
  rw [hb1] at a1
  rw [hb2] at a2
  obtain ⟨f, hf, hbf⟩ := ints_int hi0 _ _ _ a0
  obtain ⟨g, hg, hbg⟩ := ints_int hi1 _ _ _ a1
  obtain ⟨sv, ys, hc, hr, hb, _, _⟩ := sl_cells hus hce hsz he hel a2
  refine ⟨f 0, g 0, sv, ys, ?_, hbf 0 (by omega), hbg 0 (by omega), hr, hb⟩
  congr 1
  apply Array.ext'
  have e1 : cs.toList = cs.toList.take 1 ++ ((cs.toList.drop 1).take 1 ++ (cs.toList.drop 2).take 1) := by
    have hl' : cs.toList.length = 3 := hl
    generalize cs.toList = l at hl'
    match l, hl' with
    | [a, b, c], _ => rfl
  rw [e1, hf, hg, hc]
  rfl
theorem ar_fstr {n : Nat} {fs : Array Field} (hu : P.underlying t = some (.struct fs)) (hc : P.cellsOf t = n) (hct : P.cellTypes P.depth t = some (List.replicate n e)) (he : P.underlying e = some (.float .f64))
    (h : Value.okWide P W .any base t v) : ∃ f : Nat → Nat, v = .agg (cf n (fv f)) ∧ ∀ i, i < n → FloatKind.f64.has (f i) := by
  unfold Value.okWide at h
  rw [hu] at h
  obtain ⟨cs, rfl, hsz, ts, h1, _, h3⟩ := h
  obtain rfl := Option.some.inj (hct.symm.trans h1)
  rw [hc] at hsz
  have key : ∀ i, i < n → ∃ z : Nat, cs[i]? = some (.float .f64 z) ∧ FloatKind.f64.has z := by
    intro i hi
    have hi' : i < cs.size := by omega
    obtain ⟨u, hu, hok⟩ := h3 i cs[i] (by simp [hi'])
    rw [List.length_replicate, Nat.mod_eq_of_lt hi, List.getElem?_replicate, if_pos hi] at hu
    obtain rfl := Option.some.inj hu
    unfold Cell.okWide at hok
    rw [he] at hok
    generalize hc : cs[i] = c at hok
    cases c <;> simp [Cell.ok, he] at hok
    obtain ⟨rfl, hm⟩ := hok
    exact ⟨_, by rw [Array.getElem?_eq_getElem hi', hc], hm⟩
  refine ⟨fun i => match cs[i]? with | some (.float _ z) => z | _ => 0, ?_, fun i hi => ?_⟩
  · congr 1
    apply Array.ext_getElem?
    intro j
    by_cases hj : j < n
    · obtain ⟨z, hz, _⟩ := key j hj
      rw [cf_get hj, hz]
      simp only [fv, hz]
    · rw [Array.getElem?_eq_none (by omega), Array.getElem?_eq_none (by rw [cf_size]; omega)]
  · obtain ⟨z, hz, h1⟩ := key i hi
    simp only [hz]
    exact h1
/-- Facts that hold as the call begins. -/
theorem mem_facts {L : List Ent} (h : ∀ u ∈ L, u.isW = false ∧ u.ok 0 W) : Mem W ([], blocksOf L) L W :=
  ⟨rfl, rfl, rfl, Nat.le_refl _, fun _ _ _ => rfl, fun u hu => (h u hu).2, fun u hu k hk => .inr (.inr ⟨(h u hu).1, mem_blocksOf.2 ⟨u, hu, hk⟩⟩),
    List.pairwise_iff_forall_sublist.2 fun {a b} hs hw => by
      have ha := (h a (hs.subset (by simp))).1
      have hb := (h b (hs.subset (by simp))).1
      rw [ha, hb] at hw
      cases hw⟩
theorem facts_nil : ∀ u ∈ ([] : List Ent), u.isW = false ∧ u.ok 0 W := fun _ h => by simp at h
theorem facts_ro {L : List Ent} {sz m : Nat} {v : Value} {cs : List Value} (h : Rd sz W v m cs) (r : ∀ u ∈ L, u.isW = false ∧ u.ok 0 W) : ∀ u ∈ ro v sz m cs :: L, u.isW = false ∧ u.ok 0 W := fun u hu => by
  rcases List.mem_cons.1 hu with rfl | hu
  · exact ⟨rfl, ro_ok h⟩
  · exact r u hu
theorem facts_gl {L : List Ent} {b m : Nat} {g : Nat → Value} (hb : b < W.heap.size) (h : ∀ j, j < m → W.cell? ⟨b, j, none⟩ = some (g j)) (r : ∀ u ∈ L, u.isW = false ∧ u.ok 0 W) : ∀ u ∈ Gl b m g :: L, u.isW = false ∧ u.ok 0 W := fun u hu => by
  rcases List.mem_cons.1 hu with rfl | hu
  · exact ⟨rfl, fun k hk => by simp at hk; subst hk; exact hb, h, stable_gl _ _ _⟩
  · exact r u hu
end
end Go.Proofs.Ytpfnjmaadghhoaa
