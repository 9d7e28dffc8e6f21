import Derived.Test.YtpfnjmaadghhoaaN5
import Derived.Laws.BytesString
import Derived.Laws.MakeOwn
/-! N, sixth part: calls that turn what the caller knows; slices that are made, cut, and told as strings. -/
namespace Go.Proofs.Ytpfnjmaadghhoaa.K
open Go Go.RowKit

section
variable {w0 : World} {S : Own} {H : List Ent}
/-! ## what is lent -/
def Lent (w : World) (B L : List Ent) : Prop := ∀ e ∈ L, Held w B e
theorem lent0 {w : World} {B : List Ent} : Lent w B [] := fun _ h => by simp at h
theorem lentF {w : World} {A B L : List Ent} {F : List Nat} {φ : World → Prop} (hm : Mem w0 S (A ++ B) w) (i : Nat) (hi : B[i]? = some (.fact F φ)) (h : Lent w B L) : Lent w B (.fact F φ :: L) := fun e he => by
  rcases List.mem_cons.1 he with rfl | he
  · exact ⟨rfl, hm.ok _ (List.mem_append_right _ (List.mem_of_getElem? hi)), _, List.mem_of_getElem? hi, fun _ hk => hk⟩
  · exact h e he
theorem lentW {w : World} {A B L : List Ent} {v : Value} {e : TypeId} {sz m : Nat} {cs : List Value} (hm : Mem w0 S (A ++ B) w) (i : Nat) (hi : B[i]? = some (.row v e sz m cs)) (h : Lent w B L) : Lent w B (ro v sz m cs :: L) := fun u hu => by
  rcases List.mem_cons.1 hu with rfl | hu
  · exact ⟨rfl, ro_ok (Rd.of_own (hm.ok _ (List.mem_append_right _ (List.mem_of_getElem? hi)))), _, List.mem_of_getElem? hi, fun k hk => rdB_own v k hk⟩
  · exact h u hu
theorem lentN {w : World} {A B L : List Ent} (hm : Mem w0 S (A ++ B) w) (i sz : Nat) (h : Lent w B L) (hi : (B[i]?).isSome = true) : Lent w B (ro (.slice none 0 0) sz 0 [] :: L) := fun u hu => by
  rcases List.mem_cons.1 hu with rfl | hu
  · obtain ⟨e, he⟩ := Option.isSome_iff_exists.1 hi
    exact ⟨rfl, ro_ok (Rd.nil sz w), e, List.mem_of_getElem? he, fun k hk => by simp [ro, Ent.owns, rdB] at hk⟩
  · exact h u hu
def LentF (B L : List Ent) : Prop := ∀ e ∈ L, HeldF B e
theorem lentF0 {B : List Ent} : LentF B [] := fun _ h => by simp at h
theorem lentFF {B L : List Ent} {F : List Nat} {φ : World → Prop} (i : Nat) (hi : B[i]? = some (.fact F φ)) (h : LentF B L) : LentF B (.fact F φ :: L) := fun e he => by
  rcases List.mem_cons.1 he with rfl | he
  · exact ⟨_, List.mem_of_getElem? hi, rfl, fun _ hk => hk⟩
  · exact h e he
end

section
variable {P : Program} {n : Nat} {w0 : World} {S : Own} {Q : Exit → Act → World → Prop} {l : List (Nat × Value)} {H : List Ent}
variable {ops : Array Oper} {rest : List Oper} {dst : Option Tmp} {op : Op} {ty : TypeId} {pos : String} {after : Array Edge} {guard : Option (Nat × Bool)}

theorem RW.pick {H' : List Ent} (r : List Nat) (hr : okIdx H r = true) (hH : pickE H r = H') (h : RW P n w0 S ops Q rest l H') : RW P n w0 S ops Q rest l H := RW.conv (fun _ hm => hm.pick r hr hH) h

/-- A call that turns the entries A into A' u, and hands back v u; L is lent. -/
theorem RW.callM {d : Nat} {x : Operand} {f : FuncId} {xs : List Operand} {vs cs : List Value} {ats : Array TypeId} {α : Type} (A B L : List Ent) (r : List Nat) (A' : α → List Ent) (v : α → Value)
    (hg : wantedIn ops l guard = some true) (hd : Nat.ble n d = false) (hx : ev l x = some (.func (.func f) #[] cs.toArray)) (hv : evs l xs = some vs)
    (hf : ∀ args w, (callFunc f args).run P w = .ok (.enter f args) w) (hr : okIdx H r = true) (hH : pickE H r = A ++ B) (hA : A.all Ent.isW = true)
    (hL : ∀ w, Mem w0 S (A ++ B) w → Lent w B L) (hF : (∀ u, (A' u).all Ent.isW = true) ∨ LentF B L)
    (hc : ∀ w S', Mem w S' (A ++ L) w → Calls P f (vs ++ cs).toArray w (fun en w' => ∃ u, en = .returned (v u) ∧ Mem w S' (A' u) w'))
    (h : ∀ u, RW P n w0 S ops Q rest ((d, v u) :: l) (A' u ++ B)) :
    RW P n w0 S ops Q ({ dst := some d, op := .call { callee := .value x, args := xs.toArray, argTypes := ats }, type := ty, pos, after, guard } :: rest) l H := fun a w hs hm0 => by
  have hm := hm0.pick r hr hH
  unfold wpList
  rw [if_pos (wanted_of hs hg)]
  refine .inl ?_
  unfold Oper.wp
  have e1 : xs.toArray.map a.eval = vs.toArray := by apply Array.ext'; simpa using hs.evs hv
  have hrun : (execOp a.eval { dst := some d, op := .call { callee := .value x, args := xs.toArray, argTypes := ats }, type := ty, pos, after, guard }).run P w = .ok (.enter f (vs ++ cs).toArray) w := by
    simp [execOp, resolve, hs.ev hx, Deferred.ofValue, invoke, e1, hf]
  rw [hrun]
  simp only [Oper.upon]
  refine (hc w _ (hm.hand hA (hL w hm))).mono ?_
  rintro en w' ⟨u, rfl, ho⟩
  exact h u _ _ (hs.put hd) (hm.back hA (hF.imp (fun h => h u) id) ho)
/-- .. that hands back nothing. -/
theorem RW.callM0 {x : Operand} {f : FuncId} {xs : List Operand} {vs cs : List Value} {ats : Array TypeId} {α : Type} (A B L : List Ent) (r : List Nat) (A' : α → List Ent) (v : α → Value)
    (hg : wantedIn ops l guard = some true) (hx : ev l x = some (.func (.func f) #[] cs.toArray)) (hv : evs l xs = some vs)
    (hf : ∀ args w, (callFunc f args).run P w = .ok (.enter f args) w) (hr : okIdx H r = true) (hH : pickE H r = A ++ B) (hA : A.all Ent.isW = true)
    (hL : ∀ w, Mem w0 S (A ++ B) w → Lent w B L) (hF : (∀ u, (A' u).all Ent.isW = true) ∨ LentF B L)
    (hc : ∀ w S', Mem w S' (A ++ L) w → Calls P f (vs ++ cs).toArray w (fun en w' => ∃ u, en = .returned (v u) ∧ Mem w S' (A' u) w'))
    (h : ∀ u, RW P n w0 S ops Q rest l (A' u ++ B)) :
    RW P n w0 S ops Q ({ dst := none, op := .call { callee := .value x, args := xs.toArray, argTypes := ats }, type := ty, pos, after, guard } :: rest) l H := fun a w hs hm0 => by
  have hm := hm0.pick r hr hH
  unfold wpList
  rw [if_pos (wanted_of hs hg)]
  refine .inl ?_
  unfold Oper.wp
  have e1 : xs.toArray.map a.eval = vs.toArray := by apply Array.ext'; simpa using hs.evs hv
  have hrun : (execOp a.eval { dst := none, op := .call { callee := .value x, args := xs.toArray, argTypes := ats }, type := ty, pos, after, guard }).run P w = .ok (.enter f (vs ++ cs).toArray) w := by
    simp [execOp, resolve, hs.ev hx, Deferred.ofValue, invoke, e1, hf]
  rw [hrun]
  simp only [Oper.upon]
  refine (hc w _ (hm.hand hA (hL w hm))).mono ?_
  rintro en w' ⟨u, rfl, ho⟩
  exact h u _ _ hs (hm.back hA (hF.imp (fun h => h u) id) ho)

/-! ## made slices -/
theorem made_ec {α : Type} {enc : α → List Value} {sz : Nat} (he : IsEnc enc sz) (hsz : 0 < sz) {z : Array Value} {d : α} (hz : z.toList = enc d) (m : Nat) : (madeCells z (m * sz)).toList = ec enc (List.replicate m d) := by
  have hzs : z.size = sz := by rw [← Array.length_toList, hz, he.len]
  apply List.ext_getElem?
  intro j
  by_cases hj : j < m * sz
  · have hi : j / sz < m := Nat.div_lt_of_lt_mul (by rwa [Nat.mul_comm])
    have hr : j % sz < sz := Nat.mod_lt _ hsz
    have e0 : j = j / sz * sz + j % sz := by rw [Nat.mul_comm]; exact (Nat.div_add_mod j sz).symm
    have h1 := ec_get he (xs := List.replicate m d) (i := j / sz) (j := j % sz) (d := d) (by simpa using hi) hr
    rw [← e0] at h1
    rw [h1]
    have : (List.replicate m d).getD (j / sz) d = d := by simp [List.getD_eq_getElem?_getD, List.getElem?_replicate, hi]
    rw [this, ← hz]
    simp [madeCells, hj, hzs, getElem!_pos, hr]
  · rw [List.getElem?_eq_none (by rw [Array.length_toList, size_madeCells]; omega), List.getElem?_eq_none (by rw [ec_len he, List.length_replicate]; omega)]
theorem RW.make {d : Nat} {x y : Operand} {t e : TypeId} {sz by_ m : Nat} {n' : Int} {kx ky : IntKind} {z : Value} {cs : List Value} (hg : wantedIn ops l guard = some true) (hd : Nat.ble n d = false)
    (ht : P.underlying t = some (.slice e)) (hinfo : (P.info? e).map (fun i => (i.zero, i.size, i.bytes)) = some (some z, sz, by_)) (hx : ev l x = some (.int kx n')) (hy : ev l y = some (.int ky n')) (hn : (m : Int) = n') (hb : by_ * m ≤ 281474976710656) (hm : m ≤ 9223372036854775807)
    (hcs : (madeCells z.cells (m * sz)).toList = cs) (k : ∀ v, RW P n w0 S ops Q rest ((d, v) :: l) (.row v e sz m cs :: H)) :
    RW P n w0 S ops Q ({ dst := some d, op := .makeSlice t x y, type := ty, pos, after, guard } :: rest) l H := fun a w hs hmem => by
  subst hcs; subst hn
  cases hi : P.info? e with
  | none => simp [hi] at hinfo
  | some i =>
    simp [hi] at hinfo
    obtain ⟨hz, hs', hbs⟩ := hinfo
    subst hbs
    obtain ⟨w', hrun, ho, hgr⟩ := run_make_full (P := P) w w.heap.size t e i z sz ht hi hz hs' kx ky m hb hm (Nat.le_refl _)
    refine wpList_yields (v := .slice (some ⟨w.heap.size, 0, none⟩) m m) (w' := w') (wanted_of hs hg) ?_ (k _ _ _ (hs.put hd) (hmem.addRow ⟨hgr.os, hgr.tape, hgr.output, hgr.size, fun k hk => hgr.block k hk (fun e => by cases e)⟩ ho))
    simp [execOp, hs.ev hx, hs.ev hy, hrun]

/-! ## slices that are cut -/
/-- A part of a slice: from lo to hi; its room ends at mx, or where it ended. -/
def subS (v : Value) (sz lo hi : Nat) (mx : Option Nat) : Value :=
  match v with
  | .slice a _ cap => .slice (if mx.getD cap = lo then a else a.map (·.add (lo * sz))) (hi - lo) (mx.getD cap - lo)
  | _ => v
theorem subS_block {v : Value} {sz lo hi m : Nat} {mx : Option Nat} {w : World} {cs : List Value} (h : Rd sz w v m cs) (h2 : hi ≤ m) : ∀ k ∈ rdB (subS v sz lo hi mx), k ∈ rdB v := by
  intro k hk
  obtain ⟨_, _, hc⟩ := h
  rcases hc with ⟨hv, rfl⟩ | ⟨g, off, cap, cur, t, fr, rfl, _, _, _, h0⟩
  · exfalso
    have e : hi - lo = 0 := by omega
    rcases hv with rfl | ⟨a, c, rfl⟩
    · simp only [subS, e] at hk; split at hk <;> simp [rdB] at hk
    · simp only [subS, e] at hk; split at hk <;> simp [rdB] at hk
  · rw [rdB_some _ _ _ _ h0]
    have := rdB_own _ k hk
    simp only [subS] at this
    split at this
    · simp [Value.ownBlock] at this; simp [this]
    · simp only [Option.map_some, add_none, Value.ownBlock, Option.some.injEq] at this; simp [this]
theorem Rd.sub {sz m lo hi : Nat} {w : World} {v : Value} {cs : List Value} (h : Rd sz w v m cs) (mx : Option Nat) (h1 : lo ≤ hi) (h2 : hi ≤ m) (h3 : ∀ x, mx = some x → hi ≤ x ∧ x ≤ m) :
    Rd sz w (subS v sz lo hi mx) (hi - lo) ((cs.drop (lo * sz)).take ((hi - lo) * sz)) := by
  obtain ⟨hl, hmax, hc⟩ := h
  have e1 : hi * sz = lo * sz + (hi - lo) * sz := by rw [← Nat.add_mul]; congr 1; omega
  have e2 : hi * sz ≤ m * sz := Nat.mul_le_mul_right _ h2
  refine ⟨by simp [hl]; omega, by omega, ?_⟩
  by_cases h0 : hi - lo = 0
  · refine .inl ⟨?_, h0⟩
    have hv : (v = .slice none 0 0 ∧ m = 0) ∨ ∃ a c, v = .slice (some a) m c := by
      rcases hc with ⟨rfl | ⟨a, c, rfl⟩, rfl⟩ | ⟨g, off, cap, cur, t, fr, rfl, _⟩
      · exact .inl ⟨rfl, rfl⟩
      · exact .inr ⟨_, _, rfl⟩
      · exact .inr ⟨_, _, rfl⟩
    rcases hv with ⟨rfl, rfl⟩ | ⟨a, c, rfl⟩
    · left
      have e3 : lo = 0 := by omega
      have e4 : hi = 0 := by omega
      subst e3; subst e4
      cases mx with
      | none => simp [subS]
      | some x =>
        have := h3 x rfl
        have : x = 0 := by omega
        subst this; simp [subS]
    · right
      by_cases he : mx.getD c = lo
      · exact ⟨a, mx.getD c - lo, by simp [subS, he, h0]⟩
      · exact ⟨a.add (lo * sz), mx.getD c - lo, by simp [subS, he, h0]⟩
  · rcases hc with ⟨_, rfl⟩ | ⟨g, off, cap, cur, t, fr, rfl, hn, hg, hc, _⟩
    · omega
    · right
      have hcap : hi ≤ mx.getD cap := by
        cases mx with
        | none => simp; omega
        | some x => simp; exact (h3 x rfl).1
      have he : ¬ mx.getD cap = lo := by omega
      refine ⟨g, off + lo * sz, mx.getD cap - lo, cur, t, fr, by simp [subS, he, add_none], by omega, hg, fun j hj => ?_, by omega⟩
      rw [List.getElem?_take, if_pos hj, List.getElem?_drop, Nat.add_assoc, hc (lo * sz + j) (by omega)]
theorem Yi.slice {x : Operand} {lo hi mx : Option Operand} {t e : TypeId} {sz m l' h' : Nat} {m' : Option Nat} {v : Value} {cs : List Value} (hu : P.underlying t = some (.slice e)) (hs : ∀ w, (sizeOf e).run P w = .ok sz w)
    (hx : ev l x = some v) (hr : Rds w0 S H sz v m cs)
    (hlo : (lo = none ∧ l' = 0) ∨ ∃ o k i, lo = some o ∧ ev l o = some (.int k i) ∧ i = (l' : Int)) (hhi : (hi = none ∧ mx = none ∧ h' = m) ∨ ∃ o k i, hi = some o ∧ ev l o = some (.int k i) ∧ i = (h' : Int))
    (hmx : (mx = none ∧ m' = none) ∨ ∃ o k i q, mx = some o ∧ ev l o = some (.int k i) ∧ m' = some q ∧ i = (q : Int)) (h1 : l' ≤ h') (h2 : h' ≤ m) (h3 : ∀ x, m' = some x → h' ≤ x ∧ x ≤ m) :
    Yi P n w0 S { dst, op := .slice t x lo hi mx, type := ty, pos, after, guard } l H (subS v sz l' h' m') := fun a w hs' hm => by
  obtain ⟨_, _, hc⟩ := hr w hm
  have key : ∀ (A : Option Addr) (cap : Nat), m ≤ cap → v = .slice A m cap → (execOp a.eval { dst, op := .slice t x lo hi mx, type := ty, pos, after, guard }).run P w = .ok (.value (subS v sz l' h' m')) w := by
    rintro A cap hcap rfl
    have hb : ∀ {o : Operand} {k : IntKind} {i : Int} {q y : Nat} (code : BoundsCode), ev l o = some (.int k i) → i = (q : Int) → q ≤ y → (Instr.sliceBound (a.eval o) y code).run P w = .ok q w := fun code ho hi hy => by
      subst hi
      simp [Instr.sliceBound, hs'.ev ho, asIntOf, Int.ofNat_le.2 hy, Result.andThen]
    rcases hmx with ⟨rfl, rfl⟩ | ⟨om, km, im, q, rfl, hom, rfl, him⟩
    · rcases hhi with ⟨rfl, _, rfl⟩ | ⟨oh, kh, ih, rfl, hoh, hih⟩
      · rcases hlo with ⟨rfl, rfl⟩ | ⟨ol, kl, il, rfl, hol, hil⟩
        · simp [execOp, Instr.sliceAt, Instr.slice, run_underlying hu, hs'.ev hx, Instr.sliceBounds, hs, subS, Result.andThen]
        · simp [execOp, Instr.sliceAt, Instr.slice, run_underlying hu, hs'.ev hx, Instr.sliceBounds, hs, subS, Result.andThen, hb _ hol hil h1]
      · rcases hlo with ⟨rfl, rfl⟩ | ⟨ol, kl, il, rfl, hol, hil⟩
        · simp [execOp, Instr.sliceAt, Instr.slice, run_underlying hu, hs'.ev hx, Instr.sliceBounds, hs, subS, Result.andThen, hb _ hoh hih (Nat.le_trans h2 hcap)]
        · simp [execOp, Instr.sliceAt, Instr.slice, run_underlying hu, hs'.ev hx, Instr.sliceBounds, hs, subS, Result.andThen, hb _ hoh hih (Nat.le_trans h2 hcap), hb _ hol hil h1]
    · obtain ⟨h4, h5⟩ := h3 q rfl
      rcases hhi with ⟨_, h0, _⟩ | ⟨oh, kh, ih, rfl, hoh, hih⟩
      · cases h0
      · rcases hlo with ⟨rfl, rfl⟩ | ⟨ol, kl, il, rfl, hol, hil⟩
        · simp [execOp, Instr.sliceAt, Instr.slice, run_underlying hu, hs'.ev hx, Instr.sliceBounds, hs, subS, Result.andThen, hb _ hom him (Nat.le_trans h5 hcap), hb _ hoh hih h4]
        · simp [execOp, Instr.sliceAt, Instr.slice, run_underlying hu, hs'.ev hx, Instr.sliceBounds, hs, subS, Result.andThen, hb _ hom him (Nat.le_trans h5 hcap), hb _ hoh hih h4, hb _ hol hil h1]
  rcases hc with ⟨rfl | ⟨a', c, rfl⟩, rfl⟩ | ⟨g, off, cap, cur, t', fr, rfl, hn, hg, _⟩
  · exact key none 0 (Nat.le_refl _) rfl
  · exact key (some a') c (Nat.zero_le _) rfl
  · exact key _ cap hn rfl
/-- A part of an array that is pointed to. -/
theorem Yi.sliceA {x : Operand} {lo hi : Option Operand} {t e : TypeId} {sz len b o l' h' o' : Nat} (hu : P.underlying t = some (.array len e)) (hs : ∀ w, (sizeOf e).run P w = .ok sz w)
    (hx : ev l x = some (.pointer (some ⟨b, o, none⟩)))
    (hlo : (lo = none ∧ l' = 0) ∨ ∃ o k i, lo = some o ∧ ev l o = some (.int k i) ∧ i = (l' : Int)) (hhi : (hi = none ∧ h' = len) ∨ ∃ o k i, hi = some o ∧ ev l o = some (.int k i) ∧ i = (h' : Int))
    (h1 : l' ≤ h') (h2 : h' ≤ len) (h3 : l' < len) (ho : o + l' * sz = o') :
    Yi P n w0 S { dst, op := .slice t x lo hi none, type := ty, pos, after, guard } l H (.slice (some ⟨b, o', none⟩) (h' - l') (len - l')) := fun a w hs' hm => by
  subst ho
  have hb : ∀ {o : Operand} {k : IntKind} {i : Int} {q y : Nat} (code : BoundsCode), ev l o = some (.int k i) → i = (q : Int) → q ≤ y → (Instr.sliceBound (a.eval o) y code).run P w = .ok q w := fun code ho hi hy => by
    subst hi
    simp [Instr.sliceBound, hs'.ev ho, asIntOf, Int.ofNat_le.2 hy, Result.andThen]
  have hne : ¬ len = l' := by omega
  have hne0 : ¬ len = 0 := by omega
  rcases hhi with ⟨rfl, rfl⟩ | ⟨oh, kh, ih, rfl, hoh, hih⟩
  · rcases hlo with ⟨rfl, rfl⟩ | ⟨ol, kl, il, rfl, hol, hil⟩
    · simp [execOp, Instr.sliceAt, Instr.sureAddr, run_underlying hu, hs'.ev hx, Instr.sliceBounds, hs, Result.andThen, add_none, hne0]
    · simp [execOp, Instr.sliceAt, Instr.sureAddr, run_underlying hu, hs'.ev hx, Instr.sliceBounds, hs, Result.andThen, hb _ hol hil h1, add_none, hne]
  · rcases hlo with ⟨rfl, rfl⟩ | ⟨ol, kl, il, rfl, hol, hil⟩
    · simp [execOp, Instr.sliceAt, Instr.sureAddr, run_underlying hu, hs'.ev hx, Instr.sliceBounds, hs, Result.andThen, hb _ hoh hih h2, add_none, hne0]
    · simp [execOp, Instr.sliceAt, Instr.sureAddr, run_underlying hu, hs'.ev hx, Instr.sliceBounds, hs, Result.andThen, hb _ hoh hih h2, hb _ hol hil h1, add_none, hne]
/-- .. of a variable of the package. -/
theorem Mem.sliceGl {w : World} (h : Mem w0 S H w) (i k m cap : Nat) {b nn : Nat} {f : Nat → Int} (hi : H[i]? = some (Gl b nn (iv f))) (h1 : k + m ≤ nn) (h2 : m ≤ cap) (h3 : m ≤ 9223372036854775807) (h4 : 0 < nn) {xs : List Int} (hx : xs.length = m) (hxs : ∀ j, j < m → xs.getD j 0 = f (k + j)) :
    Mem w0 S (ro (.slice (some ⟨b, k, none⟩) m cap) 1 m (ec e1 xs) :: H) w := by
  subst hx
  refine h.derive hi (fun j hj => by have := rdB_own _ j hj; simp [Value.ownBlock] at this; simp [this]) (fun hc => ?_) (stable_ro _ _ _ _)
  have hcell := hc 0 h4
  have hb : ∃ cur t fr, w.heap[b]? = some (.cells cur t fr) := by
    unfold World.cell? at hcell
    split at hcell
    · rename_i c t fr he; exact ⟨c, t, fr, he⟩
    · cases hcell
  obtain ⟨cur, t, fr, hb⟩ := hb
  by_cases h0 : xs.length = 0
  · exact ⟨ec_len e1_is xs, h3, .inl ⟨.inr ⟨_, _, by rw [h0]⟩, h0⟩⟩
  refine ⟨ec_len e1_is xs, h3, .inr ⟨b, k, cap, cur, t, fr, rfl, h2, hb, fun j hj => ?_, by omega⟩⟩
  rw [Nat.mul_one] at hj
  have hj1 := hc (k + j) (by omega)
  have hj2 := ec_get e1_is (xs := xs) (i := j) (j := 0) (d := 0) hj (by omega)
  rw [Nat.mul_one, Nat.add_zero] at hj2
  rw [hj2]
  simp only [World.cell?, hb] at hj1
  rw [if_neg (by simp)] at hj1
  rw [hj1]
  simp only [iv, ← hxs j hj]
  rfl
/-- The part is known, too. -/
theorem Mem.subRo {w : World} {sz m : Nat} {v : Value} {cs cs' : List Value} (h : Mem w0 S H w) (i lo hi : Nat) (mx : Option Nat) (hi' : H[i]? = some (ro v sz m cs)) (h1 : lo ≤ hi) (h2 : hi ≤ m) (h3 : ∀ x, mx = some x → hi ≤ x ∧ x ≤ m)
    {k : Nat} (hk : hi - lo = k) (hcs : (cs.drop (lo * sz)).take ((hi - lo) * sz) = cs') : Mem w0 S (ro (subS v sz lo hi mx) sz k cs' :: H) w := by
  subst hcs; subst hk
  exact h.derive hi' (subS_block (h.ok _ (List.mem_of_getElem? hi')).2.1 h2) (fun h => h.sub mx h1 h2 h3) (stable_ro _ _ _ _)
theorem ec_sub {α : Type} {enc : α → List Value} {sz : Nat} (he : IsEnc enc sz) (xs : List α) (lo hi : Nat) : ((ec enc xs).drop (lo * sz)).take ((hi - lo) * sz) = ec enc ((xs.drop lo).take (hi - lo)) := by
  rw [ec_drop he, ec_take he]

theorem ec_subD {α : Type} {enc : α → List Value} {sz : Nat} (he : IsEnc enc sz) (xs : List α) (lo : Nat) : ((ec enc xs).drop (lo * sz)).take ((xs.length - lo) * sz) = ec enc (xs.drop lo) := by
  rw [ec_sub he, List.take_of_length_le (by simp)]
theorem ec_subT {α : Type} {enc : α → List Value} {sz : Nat} (he : IsEnc enc sz) (xs : List α) (hi : Nat) : ((ec enc xs).drop (0 * sz)).take ((hi - 0) * sz) = ec enc (xs.take hi) := by
  rw [ec_sub he]; simp
/-! ## strings of bytes -/
def bs (xs : List Int) : ByteArray := xs.foldl (fun r n => r.push (UInt8.ofNat n.toNat)) ByteArray.empty
theorem ec_eb : ∀ xs : List Int, ec eb xs = xs.map (Value.int .u8)
  | [] => rfl
  | x :: r => by have := ec_eb r; simp only [ec, List.flatMap_cons, List.map_cons] at *; rw [this]; rfl
theorem Yi.str {x : Operand} {src t e : TypeId} {v : Value} {xs : List Int} (hs : P.underlying src = some (.slice e)) (he : P.underlying e = some (.int .u8)) (hd : P.underlying t = some .string) (hx : ev l x = some v)
    (hr : Rds w0 S H 1 v xs.length (ec eb xs)) : Yi P n w0 S { dst, op := .convert src t x, type := ty, pos, after, guard } l H (.string (bs xs)) := fun a w hs' hm => by
  obtain ⟨_, _, hc⟩ := hr w hm
  rcases hc with ⟨hv, hn⟩ | ⟨g, off, cap, cur, t', fr, rfl, hn, hg, hc, _⟩
  · obtain rfl : xs = [] := List.eq_nil_of_length_eq_zero hn
    rcases hv with rfl | ⟨a', c, rfl⟩
    · simp [execOp, hs'.ev hx, run_convert_bytes_string w src t e none 0 0 hs he hd, Conv.bytesToString, bs]
    · have h0 : (loadCells a' 0).run P w = .ok ([].map (Value.int .u8)).toArray w := by simp [loadCells, loadCellsFrom]
      simp [execOp, hs'.ev hx, run_convert_bytes_string w src t e (some a') 0 c hs he hd, run_bytesToString w a' 0 c [] h0, bs, Result.andThen]
  · have hec := ec_eb xs
    have hl := run_loadCells_list (P := P) w ⟨g, off, none⟩ (xs.map (Value.int .u8)) (fun k v hk => by
      have hk' : k < xs.length := by
        rcases Nat.lt_or_ge k xs.length with h | h
        · exact h
        · rw [List.getElem?_eq_none (by simpa using h)] at hk; cases hk
      rw [add_none, cell_of_row w g _ cur t' fr hg, hc k (by omega), hec]; exact hk)
    rw [List.length_map] at hl
    simp [execOp, hs'.ev hx, run_convert_bytes_string w src t e _ _ _ hs he hd, run_bytesToString w _ xs.length cap xs hl, bs, Result.andThen]
theorem Yi.eqStr {x y : Operand} {t t' : TypeId} {a b : ByteArray} (hx : ev l x = some (.string a)) (hy : ev l y = some (.string b)) :
    Yi P n w0 S { dst, op := .binOp .eql t x y t', type := ty, pos, after, guard } l H (.bool (decide (a.toList = b.toList))) := fun ac w hs' _ => by
  have e : (a.toList == b.toList) = decide (a.toList = b.toList) := by rw [Bool.eq_iff_iff]; simp
  simp only [execOp, hs'.ev hx, hs'.ev hy, eqGuard, binOp, Op.stringOp, e]
  simp [Result.andThen]
theorem Yi.neStr {x y : Operand} {t t' : TypeId} {a b : ByteArray} (hx : ev l x = some (.string a)) (hy : ev l y = some (.string b)) :
    Yi P n w0 S { dst, op := .binOp .neq t x y t', type := ty, pos, after, guard } l H (.bool (decide (¬ a.toList = b.toList))) := fun ac w hs' _ => by
  have e : (a.toList == b.toList) = decide (a.toList = b.toList) := by rw [Bool.eq_iff_iff]; simp
  simp only [execOp, hs'.ev hx, hs'.ev hy, eqGuard, binOp, Op.stringOp, e]
  simp [Result.andThen]
/-! ## pointers held against nil -/
theorem run_eq_nilL {w : World} {t e : TypeId} (d : Nat) (q : Option Addr) (hu : P.underlying t = some (.pointer e)) : (Op.equalIn (d + 1) t (.pointer none) (.pointer q)).run P w = .ok q.isNone w := by
  simp [Op.equalIn, run_underlying hu, Result.andThen]
theorem run_eq_nilR {w : World} {t e : TypeId} (d : Nat) (q : Option Addr) (hu : P.underlying t = some (.pointer e)) : (Op.equalIn (d + 1) t (.pointer q) (.pointer none)).run P w = .ok q.isNone w := by
  cases q <;> simp [Op.equalIn, run_underlying hu, Result.andThen]
theorem run_eq_nil {w : World} {t e : TypeId} {p q : Option Addr} (b : Bool) (hu : P.underlying t = some (.pointer e)) (hn : (p = none ∧ q.isNone = b) ∨ (q = none ∧ p.isNone = b)) : (Op.equal t (.pointer p) (.pointer q)).run P w = .ok b w := by
  rcases hn with ⟨rfl, rfl⟩ | ⟨rfl, rfl⟩
  · exact run_eq_nilL 9999 q hu
  · exact run_eq_nilR 9999 p hu
theorem Yi.eqNil {x y : Operand} {t t' e : TypeId} {p q : Option Addr} (b : Bool) (hx : ev l x = some (.pointer p)) (hy : ev l y = some (.pointer q)) (hu : P.underlying t = some (.pointer e))
    (hn : (p = none ∧ q.isNone = b) ∨ (q = none ∧ p.isNone = b)) :
    Yi P n w0 S { dst, op := .binOp .eql t x y t', type := ty, pos, after, guard } l H (.bool b) := fun ac w hs' _ => by
  have h := run_eq_nil (P := P) (w := w) b hu hn
  simp [execOp, hs'.ev hx, hs'.ev hy, eqGuard, binOp, h, Result.andThen]
theorem Yi.neNil {x y : Operand} {t t' e : TypeId} {p q : Option Addr} (b : Bool) (hx : ev l x = some (.pointer p)) (hy : ev l y = some (.pointer q)) (hu : P.underlying t = some (.pointer e))
    (hn : (p = none ∧ q.isNone = !b) ∨ (q = none ∧ p.isNone = !b)) :
    Yi P n w0 S { dst, op := .binOp .neq t x y t', type := ty, pos, after, guard } l H (.bool b) := fun ac w hs' _ => by
  have h := run_eq_nil (P := P) (w := w) (!b) hu hn
  simp [execOp, hs'.ev hx, hs'.ev hy, eqGuard, binOp, h, Result.andThen]
end
end Go.Proofs.Ytpfnjmaadghhoaa.K
