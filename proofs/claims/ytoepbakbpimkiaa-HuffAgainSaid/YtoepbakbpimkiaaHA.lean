import Derived.Test.YtoepbakbpimkiaaBA
import Derived.Test.YtoepbakbpimkiaaN8
/-! Plain: the codes of a spec. -/
namespace Go.Proofs.Ytoepbakbpimkiaa
open Go Go.RowKit K

/-- The next free code behind so many lengths; how many codes there are. -/
def nx (B : Nat → Int) : Nat → Int
  | 0 => 0
  | i + 1 => 2 * nx B i + B i
def sm (B : Nat → Int) : Nat → Int
  | 0 => 0
  | i + 1 => sm B i + B i
def lvl (B : Nat → Int) (i m : Nat) : List (Int × Int) := (List.range m).map fun (j : Nat) => (2 * nx B i + (j : Int), (i : Int) + 1)
/-- The codes of so many lengths: bits, and how many. -/
def cds (B : Nat → Int) : Nat → List (Int × Int)
  | 0 => []
  | i + 1 => cds B i ++ lvl B i (B i).toNat
structure Good (B : Nat → Int) (V : List Int) : Prop where
  cnt : ∀ i, i < 16 → 0 ≤ B i ∧ B i ≤ 255
  sum : sm B 16 = (V.length : Int)
  one : 1 ≤ V.length
  most : V.length ≤ 256
  val : ∀ v ∈ V, 0 ≤ v ∧ v ≤ 255
  nd : V.Nodup
  room : ∀ i, i < 16 → 0 < B i → nx B (i + 1) ≤ 2 ^ (i + 1) - 1
/-- The counts are right so far. -/
def Cn (B : Nat → Int) (n : Nat) : Prop := ∀ i, i < n → 0 ≤ B i ∧ B i ≤ 255
def Rm (B : Nat → Int) (n : Nat) : Prop := ∀ i, i < n → 0 < B i → nx B (i + 1) ≤ 2 ^ (i + 1) - 1
theorem pow2_pos (n : Nat) : (0 : Int) < 2 ^ n := Int.pow_pos (by omega)
theorem nx_bd {B : Nat → Int} : ∀ n, Cn B n → Rm B n → 0 ≤ nx B n ∧ nx B n ≤ 2 ^ n - 1
  | 0, _, _ => by simp [nx]
  | n + 1, hc, hr => by
    obtain ⟨h1, h2⟩ := nx_bd n (fun i hi => hc i (by omega)) (fun i hi => hr i (by omega))
    obtain ⟨h3, h4⟩ := hc n (by omega)
    have h5 := hr n (by omega)
    rw [Int.pow_succ] at h5 ⊢
    simp only [nx] at h5 ⊢
    by_cases h : 0 < B n
    · exact ⟨by omega, h5 h⟩
    · omega
theorem sm_nn {B : Nat → Int} : ∀ n, Cn B n → 0 ≤ sm B n ∧ sm B n ≤ 255 * n
  | 0, _ => by simp [sm]
  | n + 1, hc => by
    have := sm_nn n (fun i hi => hc i (by omega))
    have := hc n (by omega)
    simp only [sm]; omega
theorem sm_mono {B : Nat → Int} {m : Nat} : ∀ n, m ≤ n → (∀ i, i < n → 0 ≤ B i) → sm B m ≤ sm B n
  | 0, h, _ => by obtain rfl : m = 0 := by omega
                  exact Int.le_refl _
  | n + 1, h, hc => by
    by_cases he : m = n + 1
    · subst he; exact Int.le_refl _
    · have := sm_mono (m := m) n (by omega) (fun i hi => hc i (by omega))
      have := hc n (by omega)
      simp only [sm]; omega
theorem lvl_len (B : Nat → Int) (i m : Nat) : (lvl B i m).length = m := by simp [lvl]
theorem lvl_succ (B : Nat → Int) (i m : Nat) : lvl B i (m + 1) = lvl B i m ++ [(2 * nx B i + (m : Int), (i : Int) + 1)] := by
  simp [lvl, List.range_succ]
theorem cds_len {B : Nat → Int} : ∀ n, Cn B n → ((cds B n).length : Int) = sm B n
  | 0, _ => rfl
  | n + 1, hc => by
    have := cds_len n (fun i hi => hc i (by omega))
    have := hc n (by omega)
    simp only [cds, sm, List.length_append, lvl_len]
    omega

/-! ### no code begins another one -/
/-- A code so far. -/
def Cd (B : Nat → Int) (n : Nat) (c : Int × Int) : Prop := ∃ s : Nat, c.2 = (s : Int) ∧ 1 ≤ s ∧ s ≤ n ∧ 0 ≤ c.1 ∧ c.1 ≤ 2 ^ s - 2 ∧ (c.1 + 1) * 2 ^ (n - s) ≤ nx B n
theorem cds_cd {B : Nat → Int} : ∀ n, Cn B n → Rm B n → ∀ c ∈ cds B n, Cd B n c
  | 0, _, _, c, h => by simp [cds] at h
  | n + 1, hc, hr, c, h => by
    have ih := cds_cd n (fun i hi => hc i (by omega)) (fun i hi => hr i (by omega))
    obtain ⟨h1, h2⟩ := nx_bd n (fun i hi => hc i (by omega)) (fun i hi => hr i (by omega))
    obtain ⟨h3, h4⟩ := hc n (by omega)
    simp only [cds] at h
    rcases List.mem_append.1 h with h | h
    · obtain ⟨s, e1, e2, e3, e4, e5, e6⟩ := ih c h
      refine ⟨s, e1, e2, by omega, e4, e5, ?_⟩
      rw [show n + 1 - s = (n - s) + 1 by omega, Int.pow_succ, ← Int.mul_assoc]
      simp only [nx]
      omega
    · simp only [lvl, List.mem_map, List.mem_range] at h
      obtain ⟨j, hj, rfl⟩ := h
      have hr' := hr n (by omega) (by omega)
      simp only [nx] at hr'
      refine ⟨n + 1, by simp, by omega, by omega, by simp only; omega, by simp only; omega, ?_⟩
      rw [Nat.sub_self]
      simp only [nx]
      simp
      omega
/-- The one ahead does not begin the other. -/
def Pre (a b : Int × Int) : Prop := ∃ s t : Nat, a.2 = (s : Int) ∧ b.2 = (t : Int) ∧ 1 ≤ s ∧ s ≤ t ∧ a.1 + 1 ≤ b.1 / 2 ^ (t - s)
theorem cds_pre {B : Nat → Int} : ∀ n, Cn B n → Rm B n → (cds B n).Pairwise Pre
  | 0, _, _ => List.Pairwise.nil
  | n + 1, hc, hr => by
    have ih := cds_pre n (fun i hi => hc i (by omega)) (fun i hi => hr i (by omega))
    have hcd := cds_cd n (fun i hi => hc i (by omega)) (fun i hi => hr i (by omega))
    simp only [cds]
    rw [List.pairwise_append]
    refine ⟨ih, ?_, ?_⟩
    · simp only [lvl]
      rw [List.pairwise_map]
      refine List.Pairwise.imp (fun {i j} (h : i < j) => ?_) (List.pairwise_lt_range)
      refine ⟨n + 1, n + 1, by simp, by simp, by omega, by omega, ?_⟩
      rw [Nat.sub_self]
      simp
      omega
    · intro a ha b hb
      obtain ⟨s, e1, e2, e3, e4, e5, e6⟩ := hcd a ha
      simp only [lvl, List.mem_map, List.mem_range] at hb
      obtain ⟨j, hj, rfl⟩ := hb
      refine ⟨s, n + 1, e1, by simp, e2, by omega, ?_⟩
      simp only
      apply (Int.le_ediv_iff_mul_le (pow2_pos _)).2
      rw [show n + 1 - s = (n - s) + 1 by omega, Int.pow_succ, ← Int.mul_assoc]
      omega
theorem Pre.ne {a b : Int × Int} (h : Pre a b) : a ≠ b := by
  rintro rfl
  obtain ⟨s, t, e1, e2, h1, h2, h3⟩ := h
  obtain rfl : s = t := by omega
  rw [Nat.sub_self] at h3
  simp at h3
  omega
theorem cds_nodup {B : Nat → Int} {n : Nat} (hc : Cn B n) (hr : Rm B n) : (cds B n).Nodup := (cds_pre n hc hr).imp fun h => h.ne
/-- One after the other. -/
theorem cds_next {B : Nat → Int} : ∀ n, Cn B n → Rm B n → ∀ (k : Nat) (a b : Int × Int), (cds B n)[k]? = some a → (cds B n)[k + 1]? = some b → a.2 ≤ b.2 ∧ (a.2 = b.2 → b.1 = a.1 + 1)
  | 0, _, _, k, a, b, ha, _ => by simp [cds] at ha
  | n + 1, hc, hr, k, a, b, ha, hb => by
    have ih := cds_next n (fun i hi => hc i (by omega)) (fun i hi => hr i (by omega)) k a b
    have hcd := cds_cd n (fun i hi => hc i (by omega)) (fun i hi => hr i (by omega))
    simp only [cds] at ha hb
    generalize hl : cds B n = l at *
    by_cases h1 : k + 1 < l.length
    · rw [List.getElem?_append_left (by omega)] at ha hb
      exact ih ha hb
    · rw [List.getElem?_append_right (by omega)] at hb
      have hlv : ∀ (m : Nat) (c : Int × Int), (lvl B n (B n).toNat)[m]? = some c → c = (2 * nx B n + (m : Int), (n : Int) + 1) := by
        intro m c hm
        simp only [lvl, List.getElem?_map, Option.map_eq_some_iff] at hm
        obtain ⟨j, hj, rfl⟩ := hm
        rw [List.getElem?_range] at hj
        · obtain rfl := Option.some.inj hj; rfl
        · by_cases hlt : m < (B n).toNat
          · exact hlt
          · rw [List.getElem?_eq_none (by simp; omega)] at hj; simp at hj
      have hb' := hlv _ _ hb
      by_cases h2 : k < l.length
      · rw [List.getElem?_append_left h2] at ha
        obtain ⟨s, e1, e2, e3, _⟩ := hcd a (List.mem_of_getElem? ha)
        rw [hb']
        simp only
        omega
      · rw [List.getElem?_append_right (by omega)] at ha
        have ha' := hlv _ _ ha
        rw [hb', ha']
        simp only
        omega

/-! ### values and codes -/
/-- Values and their codes, as far as both go. -/
def zc (V : List Int) (c : List (Int × Int)) : List (Int × Int × Int) := List.zipWith (fun v c => (v, c.1, c.2)) V c
theorem zc_len {V : List Int} {c : List (Int × Int)} (h : c.length ≤ V.length) : (zc V c).length = c.length := by simp [zc]; omega
theorem zc_snoc : ∀ {V : List Int} {c : List (Int × Int)} (x : Int × Int), c.length < V.length → zc V (c ++ [x]) = zc V c ++ [(V.getD c.length 0, x.1, x.2)]
  | [], c, x, h => by simp at h
  | v :: V, [], x, h => by simp [zc]
  | v :: V, y :: c, x, h => by
    have := zc_snoc (V := V) (c := c) x (by simpa using h)
    simp only [zc, List.cons_append, List.zipWith_cons_cons] at this ⊢
    rw [this]
    rfl
theorem zc_vals : ∀ {V : List Int} {c : List (Int × Int)}, c.length = V.length → (zc V c).map (·.1) = V
  | [], [], _ => rfl
  | v :: V, y :: c, h => by
    have := zc_vals (V := V) (c := c) (by simpa using h)
    simp only [zc, List.zipWith_cons_cons, List.map_cons] at this ⊢
    rw [this]
  | [], y :: c, h => by simp at h
  | v :: V, [], h => by simp at h
theorem zc_cds : ∀ {V : List Int} {c : List (Int × Int)}, c.length ≤ V.length → (zc V c).map (·.2) = c
  | _, [], _ => by simp [zc]
  | v :: V, y :: c, h => by
    have := zc_cds (V := V) (c := c) (by simpa using h)
    simp only [zc, List.zipWith_cons_cons, List.map_cons] at this ⊢
    rw [this]
  | [], y :: c, h => by simp at h
/-- All values of a spec and their codes. -/
def es (B : Nat → Int) (V : List Int) : List (Int × Int × Int) := zc V (cds B 16)
theorem Good.len {B : Nat → Int} {V : List Int} (h : Good B V) : (cds B 16).length = V.length := by
  have h1 := cds_len 16 h.cnt
  have h2 := h.sum
  omega
theorem Good.vals {B : Nat → Int} {V : List Int} (h : Good B V) : (es B V).map (·.1) = V := zc_vals h.len
theorem Good.cdsE {B : Nat → Int} {V : List Int} (h : Good B V) : (es B V).map (·.2) = cds B 16 := zc_cds (by rw [h.len]; exact Nat.le_refl _)
theorem Good.esLen {B : Nat → Int} {V : List Int} (h : Good B V) : (es B V).length = V.length := by rw [← h.vals, List.length_map]; simp [h.vals]
/-- A value's entry. -/
def fnd (l : List (Int × Int × Int)) (v : Int) : Option (Int × Int × Int) := l.find? fun e => e.1 == v
theorem fnd_some {l : List (Int × Int × Int)} {v : Int} {e : Int × Int × Int} (h : fnd l v = some e) : e ∈ l ∧ e.1 = v := by
  unfold fnd at h
  exact ⟨List.mem_of_find?_eq_some h, by simpa using List.find?_some h⟩
theorem fnd_none {l : List (Int × Int × Int)} {v : Int} (h : fnd l v = none) : ∀ e ∈ l, e.1 ≠ v := by
  unfold fnd at h
  rw [List.find?_eq_none] at h
  intro e he
  simpa using h e he
theorem fnd_of {l : List (Int × Int × Int)} {e : Int × Int × Int} (hn : (l.map (·.1)).Nodup) (he : e ∈ l) : fnd l e.1 = some e := by
  induction l with
  | nil => simp at he
  | cons x r ih =>
    rw [List.map_cons, List.nodup_cons] at hn
    unfold fnd
    rw [List.find?_cons]
    rcases List.mem_cons.1 he with rfl | he
    · simp
    · have : x.1 ≠ e.1 := fun h => hn.1 (by rw [h]; exact List.mem_map_of_mem he)
      rw [show (x.1 == e.1) = false by simpa using this]
      exact ih hn.2 he
theorem Good.fndOf {B : Nat → Int} {V : List Int} (h : Good B V) {e : Int × Int × Int} (he : e ∈ es B V) : fnd (es B V) e.1 = some e :=
  fnd_of (by rw [h.vals]; exact h.nd) he
theorem Good.at {B : Nat → Int} {V : List Int} (h : Good B V) {k : Nat} {v : Int} (hk : V[k]? = some v) : ∃ c, (cds B 16)[k]? = some c ∧ (es B V)[k]? = some (v, c.1, c.2) ∧ fnd (es B V) v = some (v, c.1, c.2) := by
  have hl : k < V.length := (List.getElem?_eq_some_iff.1 hk).1
  have hl2 : k < (cds B 16).length := by rw [h.len]; exact hl
  refine ⟨(cds B 16)[k], List.getElem?_eq_getElem hl2, ?_, ?_⟩
  · unfold es zc
    rw [List.getElem?_zipWith, hk, List.getElem?_eq_getElem hl2]
  · refine h.fndOf (e := (v, _, _)) (List.mem_of_getElem? (i := k) ?_)
    unfold es zc
    rw [List.getElem?_zipWith, hk, List.getElem?_eq_getElem hl2]
theorem Good.bd {B : Nat → Int} {V : List Int} (h : Good B V) {e : Int × Int × Int} (he : e ∈ es B V) : ∃ s : Nat, e.2.2 = (s : Int) ∧ 1 ≤ s ∧ s ≤ 16 ∧ 0 ≤ e.2.1 ∧ e.2.1 ≤ 2 ^ s - 2 := by
  have hm : e.2 ∈ cds B 16 := by rw [← h.cdsE]; exact List.mem_map_of_mem he
  obtain ⟨s, h1, h2, h3, h4, h5, _⟩ := cds_cd 16 h.cnt h.room _ hm
  exact ⟨s, h1, h2, h3, h4, h5⟩
theorem Good.eval {B : Nat → Int} {V : List Int} (h : Good B V) {e : Int × Int × Int} (he : e ∈ es B V) : 0 ≤ e.1 ∧ e.1 ≤ 255 := by
  refine h.val _ ?_
  rw [← h.vals]
  exact List.mem_map_of_mem he
theorem Good.fits {B : Nat → Int} {V : List Int} (h : Good B V) {e : Int × Int × Int} (he : e ∈ es B V) : Fits e.2.1 e.2.2 := by
  obtain ⟨s, h1, h2, h3, h4, h5⟩ := h.bd he
  refine ⟨by omega, by omega, h4, ?_⟩
  rw [h1, Int.toNat_natCast]
  omega

/-! ### the table -/
/-- Codes by values. -/
def tab (l : List (Int × Int × Int)) : Nat → Int := l.foldl (fun f e => upd (upd f (e.1.toNat * 2) e.2.1) (e.1.toNat * 2 + 1) e.2.2) zf
/-- Values by codes. -/
def mp (l : List (Int × Int × Int)) : List MEnt := l.map fun e => ((e.2.1, e.2.2), e.1)
theorem tab_snoc (l : List (Int × Int × Int)) (e : Int × Int × Int) : tab (l ++ [e]) = upd (upd (tab l) (e.1.toNat * 2) e.2.1) (e.1.toNat * 2 + 1) e.2.2 := by simp [tab]
theorem mp_snoc (l : List (Int × Int × Int)) (e : Int × Int × Int) : mp (l ++ [e]) = mp l ++ [((e.2.1, e.2.2), e.1)] := by simp [mp]
theorem upd_at {α : Type} (f : Nat → α) (i j : Nat) (x : α) : upd f i x j = if i = j then x else f j := by
  unfold upd
  by_cases h : i = j
  · subst h; simp
  · rw [if_neg h, show Nat.beq i j = false by cases hh : Nat.beq i j with | false => rfl | true => exact absurd (Nat.eq_of_beq_eq_true hh) h]; rfl
theorem tab_out : ∀ (l : List (Int × Int × Int)) (v : Nat), (∀ e ∈ l, e.1.toNat ≠ v) → tab l (v * 2) = 0 ∧ tab l (v * 2 + 1) = 0 := by
  refine snoc_ind (fun v _ => ⟨rfl, rfl⟩) (fun l e ih => ?_)
  · intro v h
    have he : e.1.toNat ≠ v := h e (by simp)
    have := ih v fun x hx => h x (by simp [hx])
    rw [tab_snoc, upd_at, upd_at, upd_at, upd_at, if_neg (by omega), if_neg (by omega), if_neg (by omega), if_neg (by omega)]
    exact this
theorem tab_in : ∀ (l : List (Int × Int × Int)), (∀ e ∈ l, 0 ≤ e.1) → (l.map (·.1)).Nodup → ∀ e ∈ l, tab l (e.1.toNat * 2) = e.2.1 ∧ tab l (e.1.toNat * 2 + 1) = e.2.2 := by
  refine snoc_ind (fun _ _ e h => by simp at h) (fun l x ih => ?_)
  · intro h0 hn e he
    rw [List.map_append, List.nodup_append] at hn
    obtain ⟨hn1, _, hn2⟩ := hn
    rw [tab_snoc, upd_at, upd_at, upd_at, upd_at]
    rcases List.mem_append.1 he with he | he
    · have hne : e.1 ≠ x.1 := hn2 _ (List.mem_map_of_mem he) _ (by simp)
      have h1 := h0 e (by simp [he])
      have h2 := h0 x (by simp)
      rw [if_neg (by omega), if_neg (by omega), if_neg (by omega), if_neg (by omega)]
      exact ih (fun y hy => h0 y (by simp [hy])) hn1 e he
    · simp at he
      subst he
      rw [if_neg (by omega), if_pos rfl, if_pos rfl]
      exact ⟨rfl, rfl⟩
theorem mfind_none {m : List MEnt} {k : Int × Int} : mfind m k = none ↔ ∀ e ∈ m, e.1 ≠ k := by
  induction m with
  | nil => simp [mfind]
  | cons x r ih =>
    simp only [mfind]
    split
    · rename_i h; subst h; simp
    · rename_i h
      rw [ih]
      constructor
      · intro h2 e he
        rcases List.mem_cons.1 he with rfl | he
        · exact fun h3 => h h3.symm
        · exact h2 e he
      · exact fun h2 e he => h2 e (by simp [he])
theorem mfind_some {m : List MEnt} {k : Int × Int} {v : Int} (h : mfind m k = some v) : (k, v) ∈ m := by
  induction m with
  | nil => simp [mfind] at h
  | cons x r ih =>
    simp only [mfind] at h
    split at h
    · rename_i h2; obtain rfl := Option.some.inj h; subst h2; simp
    · exact List.mem_cons_of_mem _ (ih h)
theorem mfind_of : ∀ {m : List MEnt}, (m.map (·.1)).Nodup → ∀ {e : MEnt}, e ∈ m → mfind m e.1 = some e.2
  | [], _, e, he => by simp at he
  | x :: r, hn, e, he => by
    rw [List.map_cons, List.nodup_cons] at hn
    simp only [mfind]
    by_cases h : e.1 = x.1
    · rw [if_pos h]
      rcases List.mem_cons.1 he with rfl | he
      · rfl
      · exact absurd (List.mem_map_of_mem (f := (·.1)) he) (h ▸ hn.1)
    · rw [if_neg h]
      rcases List.mem_cons.1 he with rfl | he
      · exact absurd rfl h
      · exact mfind_of hn.2 he
theorem Good.keys {B : Nat → Int} {V : List Int} (h : Good B V) : (mp (es B V)).map (·.1) = cds B 16 := by
  rw [← h.cdsE]; simp [mp]
theorem Good.mpOf {B : Nat → Int} {V : List Int} (h : Good B V) {e : Int × Int × Int} (he : e ∈ es B V) : mfind (mp (es B V)) (e.2.1, e.2.2) = some e.1 :=
  mfind_of (by rw [h.keys]; exact cds_nodup h.cnt h.room) (e := ((e.2.1, e.2.2), e.1)) (List.mem_map.2 ⟨e, he, rfl⟩)
/-- Behind fewer bits of a code stands no code. -/
theorem Good.no {B : Nat → Int} {V : List Int} (h : Good B V) {e : Int × Int × Int} (he : e ∈ es B V) {s j : Nat} (hs : e.2.2 = (s : Int)) (hj : j < s) : mfind (mp (es B V)) (e.2.1 / 2 ^ (s - j), (j : Int)) = none := by
  rw [mfind_none]
  intro x hx
  unfold mp at hx
  obtain ⟨y, hy, rfl⟩ := List.mem_map.1 hx
  simp only
  intro hk
  have hm : e.2 ∈ cds B 16 := by rw [← h.cdsE]; exact List.mem_map_of_mem he
  have hm2 : y.2 ∈ cds B 16 := by rw [← h.cdsE]; exact List.mem_map_of_mem hy
  have hp := cds_pre 16 h.cnt h.room
  have e1 : y.2.1 = e.2.1 / 2 ^ (s - j) := congrArg Prod.fst hk
  have e2 : y.2.2 = (j : Int) := congrArg Prod.snd hk
  have hne : y.2 ≠ e.2 := fun h => by rw [h] at e2; omega
  have := List.pairwise_iff_getElem.1 hp
  obtain ⟨a, ha, ha2⟩ := List.mem_iff_getElem.1 hm
  obtain ⟨b, hb, hb2⟩ := List.mem_iff_getElem.1 hm2
  rcases Nat.lt_trichotomy a b with hab | hab | hab
  · have := this a b ha hb hab
    rw [ha2, hb2] at this
    obtain ⟨p, q, h1, h2, _, h3, _⟩ := this
    omega
  · subst hab; exact hne (hb2.symm.trans ha2)
  · have := this b a hb ha hab
    rw [ha2, hb2] at this
    obtain ⟨p, q, h1, h2, h4, h3, h5⟩ := this
    obtain rfl : q = s := by omega
    obtain rfl : p = j := by omega
    rw [e1] at h5
    omega
end Go.Proofs.Ytoepbakbpimkiaa
