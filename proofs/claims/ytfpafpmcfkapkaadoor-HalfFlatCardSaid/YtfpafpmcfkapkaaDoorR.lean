import Derived.Test.YtfpafpmcfkapkaaDoorRows
import Derived.Test.YtfpafpmcfkapkaaDoorK3
import Derived.ProofKit
import Derived.OpenShut
import Derived.ChangeOld
import Derived.SizedLaws
import Derived.Handed
import Derived.Carry
/-! A law's row: its arguments opened by what they may hold; variables that are laid. -/
namespace Go.Proofs.YtfpafpmcfkapkaaDoor
open Go Go.RowKit Go.ChangeShapes Go.WideShapes K

theorem own : ownKnob Tryd.prog.godebug = none := by kernel_rfl
theorem laidOut : laidOutB Tryd.prog = true := by kernel_rfl

section
variable {P : Program} {w : World} {r : Reach} {base : Nat} {t e : TypeId} {v : Value}
theorem ar_int {k : IntKind} (ht : P.underlying t = some (.int k)) (h : Value.okWide P w r base t v) : ∃ n, v = .int k n ∧ k.min ≤ n ∧ n ≤ k.max := by
  simp only [Value.okWide, ht, Cell.okWide] at h
  cases v <;> simp_all [Cell.ok]
  exact ⟨h.2.1, h.2.2⟩
theorem ar_i64 (ht : P.underlying t = some (.int .i64)) (h : Value.okWide P w r base t v) : ∃ n, v = .int .i64 n ∧ -9223372036854775808 ≤ n ∧ n ≤ 9223372036854775807 := ar_int ht h
theorem ar_bool (ht : P.underlying t = some .bool) (h : Value.okWide P w r base t v) : ∃ b, v = .bool b := by
  simp only [Value.okWide, ht, Cell.okWide] at h
  cases v <;> simp_all [Cell.ok]
theorem ar_f64 (ht : P.underlying t = some (.float .f64)) (h : Value.okWide P w r base t v) : ∃ b, v = .float .f64 b ∧ FloatKind.f64.has b := by
  simp only [Value.okWide, ht, Cell.okWide] at h
  cases v <;> simp_all [Cell.ok]

/-- Cells that are all numbers of one type, one by one. -/
theorem row_ints {cs : Array Value} {n : Nat} (hct : P.cellTypes P.depth t = some (List.replicate n e)) (hsz : cs.size = n) (he : P.underlying e = some (.int .i64)) (h : Row.okWide P w r base t cs) :
    ∃ f : Nat → Int, cs = cf n (iv f) ∧ ∀ i, i < n → -9223372036854775808 ≤ f i ∧ f i ≤ 9223372036854775807 := by
  obtain ⟨ts, h1, _, h3⟩ := h
  obtain rfl := Option.some.inj (hct.symm.trans h1)
  have key : ∀ i, i < n → ∃ z : Int, cs[i]? = some (.int .i64 z) ∧ -9223372036854775808 ≤ z ∧ z ≤ 9223372036854775807 := by
    intro i hi
    have hi' : i < cs.size := by omega
    obtain ⟨u, hu, hok⟩ := h3 i cs[i] (by simp [hi'])
    rw [List.length_replicate, Nat.mod_eq_of_lt hi, List.getElem?_replicate, if_pos hi] at hu
    obtain rfl := Option.some.inj hu
    unfold Cell.okWide at hok
    rw [he] at hok
    generalize hc : cs[i] = c at hok
    cases c <;> simp [Cell.ok, he] at hok
    obtain ⟨rfl, hm, hx⟩ := hok
    exact ⟨_, by rw [Array.getElem?_eq_getElem hi', hc], hm, hx⟩
  refine ⟨fun i => match cs[i]? with | some (.int _ z) => z | _ => 0, ?_, fun i hi => ?_⟩
  · apply Array.ext_getElem?
    intro j
    by_cases hj : j < n
    · obtain ⟨z, hz, _⟩ := key j hj
      rw [cf_get hj, hz]
      simp only [iv, hz]
    · rw [Array.getElem?_eq_none (by omega), Array.getElem?_eq_none (by rw [cf_size]; omega)]
  · obtain ⟨z, hz, h1, h2⟩ := key i hi
    simp only [hz]
    exact ⟨h1, h2⟩

theorem ar_arr {m n : Nat} {e' : TypeId} (hu : P.underlying t = some (.array m e')) (hc : P.cellsOf t = n) (hct : P.cellTypes P.depth t = some (List.replicate n e)) (he : P.underlying e = some (.int .i64))
    (h : Value.okWide P w r base t v) : ∃ f : Nat → Int, v = .agg (cf n (iv f)) ∧ ∀ i, i < n → -9223372036854775808 ≤ f i ∧ f i ≤ 9223372036854775807 := by
  unfold Value.okWide at h
  rw [hu] at h
  obtain ⟨cs, rfl, hsz, hr⟩ := h
  obtain ⟨f, rfl, hb⟩ := row_ints hct (hsz.trans hc) he hr
  exact ⟨f, rfl, hb⟩
theorem ar_str {n : Nat} {fs : Array Field} (hu : P.underlying t = some (.struct fs)) (hc : P.cellsOf t = n) (hct : P.cellTypes P.depth t = some (List.replicate n e)) (he : P.underlying e = some (.int .i64))
    (h : Value.okWide P w r base t v) : ∃ f : Nat → Int, v = .agg (cf n (iv f)) ∧ ∀ i, i < n → -9223372036854775808 ≤ f i ∧ f i ≤ 9223372036854775807 := by
  unfold Value.okWide at h
  rw [hu] at h
  obtain ⟨cs, rfl, hsz, hr⟩ := h
  obtain ⟨f, rfl, hb⟩ := row_ints hct (hsz.trans hc) he hr
  exact ⟨f, rfl, hb⟩

/-- A variable that is laid: an array of numbers. -/
theorem gl_of {n : String} {d : DataW Unit} {g N : Nat} {f : Nat → Int} (hg : P.globalNamed n = some g) (ht : (P.globals[g]?).map (·.type) = some t) (hu : P.underlying t = some (.array N e)) (he : P.underlying e = some (.int .i64))
    (hce : P.cellsOf e = 1) (hd : d = .agg ((List.range N).map fun i => .lit (.int .i64 (f i))))
    (h : ∃ g t cs fuel p, P.globalNamed n = some g ∧ (P.globals[g]?).map (·.type) = some t ∧ w.var? P n = some cs ∧ DataW.trod (fun _ => ()) P w 0 (fun _ => true) false fuel t cs.toList = some (d, p)) :
    ∀ j, j < N → w.cell? ⟨g, j, none⟩ = some (iv f j) := by
  obtain ⟨g', t', cs, fuel, p, h1, h2, h3, h4⟩ := h
  obtain rfl := Option.some.inj (hg.symm.trans h1)
  obtain rfl := Option.some.inj (ht.symm.trans h2)
  intro j hj
  rw [World.var?_cell hg h3 j]
  obtain ⟨xs, m, rfl, hx, hl, hxl, hall⟩ := DataW.trod_array hu h4
  have hj' := hall j hj
  rw [hce, Nat.mul_one] at hj'
  obtain ⟨b, hb⟩ : ∃ b, xs[j]? = some b := ⟨xs[j]'(by omega), List.getElem?_eq_getElem (by omega)⟩
  rw [hb] at hj'
  obtain ⟨z, hcz, rfl, _⟩ := DataW.trod_int he hj'
  have e1 : (xs.map (·.1)) = ((List.range N).map fun i => (.lit (.int .i64 (f i)) : DataW Unit)) := by
    have := congrArg Prod.fst hx
    rw [hd] at this
    simpa using this.symm
  have e2 : (xs.map (·.1))[j]? = some (.lit (.int .i64 z)) := by simp [hb]
  rw [e1] at e2
  simp [hj] at e2
  have e3 : cs.toList[j]? = some (.int .i64 z) := by
    have := congrArg (·[0]?) hcz
    simpa [List.getElem?_take, List.getElem?_drop] using this
  rw [← Array.getElem?_toList, e3]
  simp [iv, e2]

theorem laidVars_reads {l : List (String × DataW Unit)} : ∀ {ps : List MemPlace}, DataW.LaidVars P w l ps → ∀ (i : Nat) (n : String) (d : DataW Unit), l[i]? = some (n, d) →
    ∃ g t cs fuel p, P.globalNamed n = some g ∧ (P.globals[g]?).map (·.type) = some t ∧ w.var? P n = some cs ∧ DataW.trod (fun _ => ()) P w 0 (fun _ => true) false fuel t cs.toList = some (d, p) := by
  induction l with
  | nil => intro ps _ i n d hi; simp at hi
  | cons q r ih =>
    intro ps h i n d hi
    obtain ⟨g, t, cs, fuel, p, q', h1, h2, h3, h4, h5, _⟩ := h
    cases i with
    | zero =>
      simp at hi
      subst hi
      exact ⟨g, t, cs, fuel, p, h1, h2, h3, h4⟩
    | succ i => exact ih h5 i n d (by simpa using hi)
theorem laid_reads {l : List (String × DataW Unit)} (h : laidMet P l w) (i : Nat) {n : String} {d : DataW Unit} (hi : l[i]? = some (n, d)) :
    ∃ g t cs fuel p, P.globalNamed n = some g ∧ (P.globals[g]?).map (·.type) = some t ∧ w.var? P n = some cs ∧ DataW.trod (fun _ => ()) P w 0 (fun _ => true) false fuel t cs.toList = some (d, p) := by
  obtain ⟨ps, hv, _⟩ := h
  exact laidVars_reads hv i n d hi
/-- What a datum of arrays within arrays tells of the cells. -/
def Tell (P : Program) (w : World) (t : TypeId) (n : Nat) (f : Nat → Int) (d : DataW Unit) : Prop :=
  ∀ fuel cs p, DataW.trod (fun _ => ()) P w 0 (fun _ => true) false fuel t cs = some (d, p) → ∀ j, j < n → cs[j]? = some (.int .i64 (f j))
theorem Tell.int {f : Nat → Int} {z' : Int} (he : P.underlying e = some (.int .i64)) (hz' : f 0 = z') : Tell P w e 1 f (.lit (.int .i64 z')) := fun fuel cs p h j hj => by
  subst hz'
  obtain ⟨z, hcz, hz, _⟩ := DataW.trod_int he h
  have : j = 0 := by omega
  subst this
  have := congrArg Prod.fst hz
  simp only [DataW.lit.injEq, Lit.int.injEq, true_and] at this
  rw [hcz, this]; rfl
theorem Tell.arr {N M : Nat} {f : Nat → Int} {ds : Nat → DataW Unit} (hu : P.underlying t = some (.array M e)) (hce : P.cellsOf e = N) (h : ∀ i, i < M → Tell P w e N (fun k => f (i * N + k)) (ds i)) :
    Tell P w t (M * N) f (.agg ((List.range M).map ds)) := fun fuel cs p h4 j hj => by
  obtain ⟨xs, m, rfl, hx, hl, hxl, hall⟩ := DataW.trod_array hu h4
  have hN : 0 < N := by
    rcases Nat.eq_zero_or_pos N with h0 | h0
    · subst h0; omega
    · exact h0
  have hi : j / N < M := Nat.div_lt_of_lt_mul (by rwa [Nat.mul_comm])
  have hj' := hall (j / N) hi
  rw [hce] at hj'
  obtain ⟨b, hb⟩ : ∃ b, xs[j / N]? = some b := ⟨xs[j / N]'(by omega), List.getElem?_eq_getElem (by omega)⟩
  rw [hb] at hj'
  have e1 : (xs.map (·.1)) = ((List.range M).map ds) := by
    have := congrArg Prod.fst hx
    simpa using this.symm
  have e2 : (xs.map (·.1))[j / N]? = some b.1 := by simp [hb]
  rw [e1] at e2
  simp [hi] at e2
  obtain ⟨b1, b2⟩ := b
  simp only at e2
  subst e2
  have := h _ hi _ _ _ hj' (j % N) (Nat.mod_lt _ hN)
  have hm : j / N * N + j % N = j := by rw [Nat.mul_comm]; exact Nat.div_add_mod j N
  simp only [hm] at this
  rw [List.getElem?_take, if_pos (Nat.mod_lt _ hN), List.getElem?_drop, hm] at this
  exact this
theorem gl_tell {n : String} {d : DataW Unit} {g N : Nat} {f : Nat → Int} (hg : P.globalNamed n = some g) (ht : (P.globals[g]?).map (·.type) = some t) (hT : Tell P w t N f d)
    (h : ∃ g t cs fuel p, P.globalNamed n = some g ∧ (P.globals[g]?).map (·.type) = some t ∧ w.var? P n = some cs ∧ DataW.trod (fun _ => ()) P w 0 (fun _ => true) false fuel t cs.toList = some (d, p)) :
    ∀ j, j < N → w.cell? ⟨g, j, none⟩ = some (iv f j) := by
  obtain ⟨g', t', cs, fuel, p, h1, h2, h3, h4⟩ := h
  obtain rfl := Option.some.inj (hg.symm.trans h1)
  obtain rfl := Option.some.inj (ht.symm.trans h2)
  intro j hj
  rw [World.var?_cell hg h3 j, ← Array.getElem?_toList, hT _ _ _ h4 j hj]
  rfl
end
end Go.Proofs.YtfpafpmcfkapkaaDoor
