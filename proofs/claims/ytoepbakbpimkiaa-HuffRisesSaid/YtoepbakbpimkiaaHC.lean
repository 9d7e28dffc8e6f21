import Derived.Test.YtoepbakbpimkiaaHB
import Derived.Test.YtoepbakbpimkiaaBB
import Derived.Test.YtoepbakbpimkiaaGlaw05HuffPrefix
import Derived.Test.YtoepbakbpimkiaaGlaw05HuffRises
import Derived.Test.YtoepbakbpimkiaaGlaw05HuffCodes
import Derived.Test.YtoepbakbpimkiaaGlaw05HuffAgain
import Derived.Test.YtoepbakbpimkiaaGlaw05HuffGets
import Derived.Test.YtoepbakbpimkiaaGlaw05HuffBack
import Derived.Test.YtoepbakbpimkiaaGlaw05HuffNobody
/-! Plain: the laws of tables. -/
namespace Go.Proofs.Ytoepbakbpimkiaa
open Go Go.RowKit K

theorem hawake_eq : law05_awake 100000 = some true := by decide +kernel
theorem own_eq (B : Nat → Int) (V : List Int) (h : V.length ≤ 300) : law05_own 100000 B V = some () := by
  unfold law05_own
  rw [if_pos (by simp; omega)]
theorem new_nil (V : List Int) : ([] : List Int) ++ V = V := rfl

/-! ### HuffPrefix -/
theorem code_at {B : Nat → Int} {V : List Int} (h : Good B V) {k : Nat} (hk : k < V.length) : ∃ c, (cds B 16)[k]? = some c ∧ huff_Table_Code 100000 B V (tab (es B V)) (mp (es B V)) V[k] = some (c.1, c.2, true) := by
  obtain ⟨c, h1, _, h3⟩ := h.at (List.getElem?_eq_getElem hk)
  refine ⟨c, h1, ?_⟩
  rw [code_eq 100000 h, h3]; rfl
theorem cds_pair {B : Nat → Int} {V : List Int} (h : Good B V) {j k : Nat} (hj : j < k) {a b : Int × Int} (ha : (cds B 16)[j]? = some a) (hb : (cds B 16)[k]? = some b) : Pre a b := by
  have hp := List.pairwise_iff_getElem.1 (cds_pre 16 h.cnt h.room)
  obtain ⟨h1, rfl⟩ := List.getElem?_eq_some_iff.1 ha
  obtain ⟨h2, rfl⟩ := List.getElem?_eq_some_iff.1 hb
  exact hp j k h1 h2 hj
theorem cds_has {B : Nat → Int} {V : List Int} (h : Good B V) {k : Nat} {c : Int × Int} (hc : (cds B 16)[k]? = some c) : ∃ s : Nat, c.2 = (s : Int) ∧ 1 ≤ s ∧ s ≤ 16 ∧ 0 ≤ c.1 ∧ c.1 ≤ 2 ^ s - 2 := by
  obtain ⟨s, h1, h2, h3, h4, h5, _⟩ := cds_cd 16 h.cnt h.room c (List.mem_of_getElem? hc)
  exact ⟨s, h1, h2, h3, h4, h5⟩
theorem prefix_inner {B : Nat → Int} {V : List Int} (h : Good B V) (cb : Int → Option Bool) {i : Nat} (hi : i < V.length) {c : Int × Int} (hc : (cds B 16)[i]? = some c) (x y : Bool) :
    ∀ (n k j : Nat), j + n = i → n < k →
    ∃ (p q r s t u w e f : Int) (b1 b2 b3 b4 : Bool), law05_HuffPrefix_l2 100000 cb B V (i : Int) (tab (es B V), V, mp (es B V)) (c.1, c.2, true) k (j : Int) = law05_HuffPrefix_j2 100000 cb (i : Int) p b1 q b2 r b3 s t u w b4 := by
  have hm := h.most
  intro n
  induction n with
  | zero =>
    intro k j hj hk
    obtain ⟨k, rfl⟩ : ∃ m, k = m + 1 := ⟨k - 1, by omega⟩
    simp only [law05_HuffPrefix_l2]
    rw [Int.toNat_natCast, if_neg (by rw [List.length_take]; omega)]
    exact ⟨_, _, _, _, _, _, _, 0, 0, _, _, _, _, rfl⟩
  | succ n ih =>
    intro k j hj hk
    obtain ⟨k, rfl⟩ : ∃ m, k = m + 1 := ⟨k - 1, by omega⟩
    simp only [law05_HuffPrefix_l2, Int.toNat_natCast]
    have hlt : j < (V.take i).length := by rw [List.length_take]; omega
    rw [if_pos (by omega), if_pos (by omega), getD_nat hlt, List.getElem_take]
    obtain ⟨d, hd, he⟩ := code_at h (k := j) (by omega)
    rw [he, some_bind]
    obtain ⟨s, t, e1, e2, h1, h2, h3⟩ := cds_pair h (by omega) hd hc
    obtain ⟨s', e3, _, h4, h5, h6⟩ := cds_has h hc
    obtain rfl : s' = t := by omega
    simp only [e1, e2]
    rw [if_neg (by omega), if_neg (by omega)]
    simp only [w64_id (x := (s' : Int) - (s : Int)) (by omega) (by omega), w64_id (x := (j : Int) + 1) (by omega) (by omega)]
    rw [if_pos (by omega), if_neg]
    · have := ih k (j + 1) (by omega) (by omega)
      rw [e2] at this
      exact this
    · rw [shr_nat (by omega) (by omega), show ((s' : Int) - (s : Int)).toNat = s' - s by omega]
      omega
theorem prefix_loop {B : Nat → Int} {V : List Int} (h : Good B V) : ∀ (n k i : Nat), i + n = V.length → n < k →
    law05_HuffPrefix_l1 100000 B V (tab (es B V), V, mp (es B V)) k (i : Int) = some true := by
  have hm := h.most
  intro n
  induction n with
  | zero =>
    intro k i hi hk
    obtain ⟨k, rfl⟩ : ∃ m, k = m + 1 := ⟨k - 1, by omega⟩
    simp only [law05_HuffPrefix_l1]
    rw [if_neg (by omega)]
    unfold law05_HuffPrefix_j1
    rw [hawake_eq, some_bind]
  | succ n ih =>
    intro k i hi hk
    obtain ⟨k, rfl⟩ : ∃ m, k = m + 1 := ⟨k - 1, by omega⟩
    have hil : i < V.length := by omega
    simp only [law05_HuffPrefix_l1, Int.toNat_natCast]
    rw [if_pos (by omega), if_pos (by omega), getD_nat hil]
    obtain ⟨c, hc, he⟩ := code_at h hil
    obtain ⟨s, e3, h3, h4, h5, h6⟩ := cds_has h hc
    rw [he, some_bind]
    have hp := pow16 h4
    have hp2 := pow2_pos s
    simp only [if_true, e3]
    rw [if_neg (by omega), if_neg (by omega), if_neg (by omega), if_pos (by omega)]
    simp only [shl_pow (n := (s : Int)) (by omega) (by omega), Int.toNat_natCast, w64_id (x := 2 ^ s - 1) (by omega) (by omega)]
    rw [if_neg (by omega), if_pos (by omega)]
    obtain ⟨_, _, _, _, _, _, _, _, _, _, _, _, _, e⟩ := prefix_inner h (law05_HuffPrefix_l1 100000 B V (tab (es B V), V, mp (es B V)) k) hil hc true true i 100000 0 (by omega) (by omega)
    simp only [Int.natCast_zero, e3] at e
    rw [e]
    unfold law05_HuffPrefix_j2
    rw [w64_id (by omega) (by omega)]
    exact ih k (i + 1) (by omega) (by omega)
theorem huffPrefix_eq (B : Nat → Int) (V : List Int) : law05_HuffPrefix 100000 B V = some true := by
  unfold law05_HuffPrefix
  split
  · rw [hawake_eq, some_bind]
  · rw [own_eq B V (by omega), some_bind, new_nil]
    by_cases h : Good B V
    · rw [new_good 100000 (by omega) h, some_bind]
      exact prefix_loop h V.length 100000 0 (by omega) (by have := h.most; omega)
    · rw [new_bad 100000 (by omega) h, some_bind]
      simp only [hawake_eq, some_bind]

/-! ### HuffRises -/
theorem rises_loop {B : Nat → Int} {V : List Int} (h : Good B V) : ∀ (n k i : Nat), i + 1 + n = V.length → n < k →
    law05_HuffRises_l1 100000 B V (tab (es B V), V, mp (es B V)) k ((i + 1 : Nat) : Int) = some true := by
  have hm := h.most
  intro n
  induction n with
  | zero =>
    intro k i hi hk
    obtain ⟨k, rfl⟩ : ∃ m, k = m + 1 := ⟨k - 1, by omega⟩
    simp only [law05_HuffRises_l1]
    rw [if_neg (by omega)]
    unfold law05_HuffRises_j1
    rw [hawake_eq, some_bind]
  | succ n ih =>
    intro k i hi hk
    obtain ⟨k, rfl⟩ : ∃ m, k = m + 1 := ⟨k - 1, by omega⟩
    simp only [law05_HuffRises_l1, Int.toNat_natCast]
    have e1 : w64 (((i + 1 : Nat) : Int) - 1) = (i : Int) := by rw [w64_id (by omega) (by omega)]; omega
    simp only [e1, Int.toNat_natCast]
    rw [if_pos (by omega), if_pos (by omega), getD_nat (k := i) (by omega)]
    obtain ⟨a, ha, hea⟩ := code_at h (k := i) (by omega)
    obtain ⟨b, hb, heb⟩ := code_at h (k := i + 1) (by omega)
    rw [hea, some_bind, if_pos (by omega), getD_nat (k := i + 1) (by omega), heb, some_bind]
    obtain ⟨h1, h2⟩ := cds_next 16 h.cnt h.room i a b ha hb
    obtain ⟨s, e3, h3, h4, h5, h6⟩ := cds_has h ha
    have hp := pow16 h4
    simp only [if_true]
    rw [if_neg (by omega)]
    have hs : law05_HuffRises_l1 100000 B V (tab (es B V), V, mp (es B V)) k (w64 (((i + 1 : Nat) : Int) + 1)) = some true := by
      rw [w64_id (by omega) (by omega)]
      exact ih k (i + 1) (by omega) (by omega)
    by_cases h7 : b.2 = a.2
    · rw [if_pos h7, if_neg]
      · exact hs
      · rw [w64_id (by omega) (by omega)]
        have := h2 h7.symm
        omega
    · rw [if_neg h7]
      exact hs
theorem huffRises_eq (B : Nat → Int) (V : List Int) : law05_HuffRises 100000 B V = some true := by
  unfold law05_HuffRises
  split
  · rw [hawake_eq, some_bind]
  · rw [own_eq B V (by omega), some_bind, new_nil]
    by_cases h : Good B V
    · rw [new_good 100000 (by omega) h, some_bind]
      have h1 := h.one
      exact rises_loop h (V.length - 1) 100000 0 (by omega) (by have := h.most; omega)
    · rw [new_bad 100000 (by omega) h, some_bind]
      simp only [hawake_eq, some_bind]

/-! ### HuffCodes -/
theorem codes_set {B : Nat → Int} {V : List Int} (h : Good B V) : ∀ (n k j : Nat) (x : List Int), j + n = V.length → n < k → x.length = V.length → (∀ i, j ≤ i → x.getD i 0 = V.getD i 0) →
    law05_HuffCodes_l1 100000 B V V (tab (es B V), V, mp (es B V)) (true, es B V) k x (j : Int) = law05_HuffCodes_j1 100000 B V (tab (es B V), V, mp (es B V)) (true, es B V) := by
  have hm := h.most
  intro n
  induction n with
  | zero =>
    intro k j x hj hk hx _
    obtain ⟨k, rfl⟩ : ∃ m, k = m + 1 := ⟨k - 1, by omega⟩
    simp only [law05_HuffCodes_l1]
    rw [if_neg (by omega)]
  | succ n ih =>
    intro k j x hj hk hx hv
    obtain ⟨k, rfl⟩ : ∃ m, k = m + 1 := ⟨k - 1, by omega⟩
    simp only [law05_HuffCodes_l1, Int.toNat_natCast]
    rw [if_pos (by omega), if_pos (by omega), if_pos (by omega), if_neg (fun hh => hh (hv j (Nat.le_refl _))), w64_id (x := (j : Int) + 1) (by omega) (by omega)]
    refine ih k (j + 1) _ (by omega) (by omega) (by rw [List.length_set]; exact hx) (fun i hi => ?_)
    rw [List.getD_eq_getElem?_getD, List.getElem?_set_ne (by omega), ← List.getD_eq_getElem?_getD]
    exact hv i (by omega)
theorem codes_end {B : Nat → Int} {V : List Int} (h : Good B V) : law05_HuffCodes_j2 100000 B V (tab (es B V), V, mp (es B V)) (true, es B V) = some true := by
  have hm := h.most
  have h1 := h.one
  unfold law05_HuffCodes_j2 huff_Table_Spec slices_Clone
  simp only
  rw [if_pos (by omega)]
  simp only [some_bind, not_true, if_false]
  rw [if_neg (fun hh => hh (fun _ _ => rfl))]
  have := codes_set h V.length 100000 0 V (by omega) (by omega) rfl (fun _ _ => rfl)
  simp only [Int.natCast_zero] at this
  rw [this]
  unfold law05_HuffCodes_j1
  rw [if_pos (by omega)]
  simp only
  rw [getD_nat (k := 0) (by omega)]
  obtain ⟨c, h2, h3, h4⟩ := h.at (List.getElem?_eq_getElem (show 0 < V.length by omega))
  have hl := h.esLen
  have e0 : (es B V).getD 0 (0, 0, 0) = (V[0], c.1, c.2) := by rw [List.getD_eq_getElem?_getD, h3]; rfl
  rw [code_eq 100000 h, h4, some_bind, if_pos (by omega)]
  simp only [e0, cod, if_true]
  rw [hawake_eq, some_bind]
theorem codes_each {B : Nat → Int} {V : List Int} (h : Good B V) (a1 : Int) : ∀ (n k j : Nat), j + n = 259 → n < k →
    law05_HuffCodes_l2 100000 B V a1 (tab (es B V), V, mp (es B V)) (true, es B V) k (j : Int) = some true := by
  have hm := h.most
  have hl := h.esLen
  intro n
  induction n with
  | zero =>
    intro k j hj hk
    obtain ⟨k, rfl⟩ : ∃ m, k = m + 1 := ⟨k - 1, by omega⟩
    simp only [law05_HuffCodes_l2]
    rw [if_neg (by omega)]
    exact codes_end h
  | succ n ih =>
    intro k j hj hk
    obtain ⟨k, rfl⟩ : ∃ m, k = m + 1 := ⟨k - 1, by omega⟩
    simp only [law05_HuffCodes_l2]
    rw [if_pos (by omega)]
    have hs : law05_HuffCodes_l2 100000 B V a1 (tab (es B V), V, mp (es B V)) (true, es B V) k (w64 ((j : Int) + 1)) = some true := by
      rw [w64_id (by omega) (by omega)]
      exact ih k (j + 1) (by omega) (by omega)
    have hv : ∀ v, law05_HuffCodes_j4 100000 (law05_HuffCodes_l2 100000 B V a1 (tab (es B V), V, mp (es B V)) (true, es B V) k) B (j : Int) (tab (es B V), V, mp (es B V)) (true, es B V) v = some true := by
      intro v
      unfold law05_HuffCodes_j4 law05_HuffCodes_j3
      simp only
      rw [code_eq 100000 h, some_bind, find_eq 100000 (by omega) v (by omega), some_bind]
      cases hf : fnd (es B V) v with
      | none =>
        simp only [cod, fon, not_true, if_false, Bool.false_eq_true]
        exact hs
      | some e =>
        simp only [cod, fon, not_true, if_false, if_true]
        exact hs
    split
    · exact hv _
    · exact hv _
theorem over_loop {B : Nat → Int} {V : List Int} (a1 : Int) (r34 : (Nat → Int) × List Int × List MEnt) (r37 : Bool × List (Int × Int × Int)) (hV : V.length ≤ 300) : ∀ (n k j : Nat) (x : List Int), j + n = V.length → n < k → x.length = V.length →
    law05_HuffCodes_l3 100000 B V a1 r34 r37 k x (j : Int) = law05_HuffCodes_j6 100000 B V a1 r34 r37 := by
  intro n
  induction n with
  | zero =>
    intro k j x hj hk hx
    obtain ⟨k, rfl⟩ : ∃ m, k = m + 1 := ⟨k - 1, by omega⟩
    simp only [law05_HuffCodes_l3, List.nil_append]
    rw [if_neg (by omega)]
  | succ n ih =>
    intro k j x hj hk hx
    obtain ⟨k, rfl⟩ : ∃ m, k = m + 1 := ⟨k - 1, by omega⟩
    simp only [law05_HuffCodes_l3, List.nil_append]
    rw [if_pos (by omega), if_pos (by omega), w64_id (x := (j : Int) + 1) (by omega) (by omega)]
    exact ih k (j + 1) _ (by omega) (by omega) (by rw [List.length_set]; exact hx)
theorem over_loop2 {B : Nat → Int} {V : List Int} (a1 : Int) (r37 : Bool × List (Int × Int × Int)) (hV : V.length ≤ 300) : ∀ (n k j : Nat) (x : List Int), j + n = V.length → n < k → x.length = V.length →
    law05_HuffCodes_l6 100000 B V a1 r37 k x (j : Int) = law05_HuffCodes_j11 100000 B V a1 r37 := by
  intro n
  induction n with
  | zero =>
    intro k j x hj hk hx
    obtain ⟨k, rfl⟩ : ∃ m, k = m + 1 := ⟨k - 1, by omega⟩
    simp only [law05_HuffCodes_l6, List.nil_append]
    rw [if_neg (by omega)]
  | succ n ih =>
    intro k j x hj hk hx
    obtain ⟨k, rfl⟩ : ∃ m, k = m + 1 := ⟨k - 1, by omega⟩
    simp only [law05_HuffCodes_l6, List.nil_append]
    rw [if_pos (by omega), if_pos (by omega), w64_id (x := (j : Int) + 1) (by omega) (by omega)]
    exact ih k (j + 1) _ (by omega) (by omega) (by rw [List.length_set]; exact hx)
theorem huffCodes_eq (B : Nat → Int) (V : List Int) (a1 : Int) : law05_HuffCodes 100000 B V a1 = some true := by
  unfold law05_HuffCodes
  split
  · rw [hawake_eq, some_bind]
  · rw [own_eq B V (by omega), some_bind, new_nil]
    by_cases h : Good B V
    · rw [new_good 100000 (by omega) h, some_bind]
      simp only
      rw [codes_good 100000 (by omega) h, some_bind]
      have e := over_loop (B := B) (V := V) a1 (tab (es B V), V, mp (es B V)) (true, es B V) (by omega) V.length 100000 0 V (by omega) (by omega) rfl
      simp only [Int.natCast_zero] at e
      rw [e]
      unfold law05_HuffCodes_j6 law05_HuffCodes_j5
      rw [right_good 100000 (by omega) h, some_bind]
      simp only [if_true]
      exact codes_each h a1 259 100000 0 (by omega) (by omega)
    · rw [new_bad 100000 (by omega) h, some_bind]
      simp only
      rw [codes_bad 100000 (by omega) h, some_bind]
      have e := over_loop2 (B := B) (V := V) a1 (false, []) (by omega) V.length 100000 0 V (by omega) (by omega) rfl
      simp only [Int.natCast_zero] at e
      rw [e]
      unfold law05_HuffCodes_j11 law05_HuffCodes_j10
      rw [right_bad 100000 (by omega) h, some_bind]
      simp only [Bool.false_eq_true, if_false, hawake_eq, some_bind]

/-! ### HuffAgain -/
theorem zf_bad : ¬ Good zf [] := fun h => by have := h.one; simp at this
theorem huffAgain_eq (B : Nat → Int) (V : List Int) (a1 : Int) : law05_HuffAgain 100000 B V a1 = some true := by
  unfold law05_HuffAgain
  split
  · rw [hawake_eq, some_bind]
  · rw [own_eq B V (by omega), some_bind, new_nil]
    by_cases h : Good B V
    · have hm := h.most
      rw [new_good 100000 (by omega) h, some_bind]
      simp only
      unfold huff_Table_Spec slices_Clone
      rw [if_pos (by omega)]
      simp only [some_bind]
      rw [new_good 100000 (by omega) h, some_bind]
      simp only
      rw [code_eq 100000 h, some_bind, some_bind, if_pos rfl, if_pos rfl, hawake_eq]
      simp only [some_bind]
      split
      · rfl
      · rfl
    · rw [new_bad 100000 (by omega) h, some_bind]
      simp only [huff_Table_Spec_2]
      rw [some_bind, new_bad 100000 (by omega) zf_bad, some_bind]
      simp only [hawake_eq, some_bind]

/-! ### HuffGets -/
theorem gets_loop {B : Nat → Int} {V : List Int} (h : Good B V) {d : List Int} (hd : Bytes d) : ∀ (n k j : Nat) (a p l : Int) (i : Nat) (r : List Int), j + n = 40 → n < k → RI d a p l i r →
    law05_HuffGets_l1 100000 B d (true, es B V) (tab (es B V), V, mp (es B V)) k a p l (i : Int) r (j : Int) = some true := by
  have hm := h.most
  have hl := h.esLen
  intro n
  induction n with
  | zero =>
    intro k j a p l i r hj hk hri
    obtain ⟨k, rfl⟩ : ∃ m, k = m + 1 := ⟨k - 1, by omega⟩
    simp only [law05_HuffGets_l1, law05_HuffGets_j1]
    rw [if_neg (by omega), hawake_eq, some_bind]
  | succ n ih =>
    intro k j a p l i r hj hk hri
    obtain ⟨k, rfl⟩ : ∃ m, k = m + 1 := ⟨k - 1, by omega⟩
    simp only [law05_HuffGets_l1, law05_HuffGets_j1, List.nil_append]
    rw [if_pos (by omega)]
    obtain ⟨p', l', hg, hr⟩ := tget_eq 100000 (by omega) B V (tab (es B V)) (mp (es B V)) hd hri
    rw [hg, some_bind, rtget_eq 100000 (by omega) (L := es B V) (by omega) hd hri.2.1 hri.left.2 hri.bits, some_bind]
    simp only [not_true, if_false, bits_Reader_At, some_bind]
    have hs : ∀ x1 x2 b1 x3 x4 b2, law05_HuffGets_j2 100000 (law05_HuffGets_l1 100000 B d (true, es B V) (tab (es B V), V, mp (es B V)) k) (j : Int) (((hget (mp (es B V)) d 16 i r 0 0).2.2.1 : Nat) : Int) p' l' (((hget (mp (es B V)) d 16 i r 0 0).2.2.1 : Nat) : Int) (hget (mp (es B V)) d 16 i r 0 0).2.2.2 x1 x2 b1 x3 x4 b2 = some true := by
      intro x1 x2 b1 x3 x4 b2
      unfold law05_HuffGets_j2
      rw [w64_id (by omega) (by omega)]
      exact ih k (j + 1) _ p' l' _ _ (by omega) (by omega) hr
    by_cases h1 : (hget (mp (es B V)) d 16 i r 0 0).2.1 = 0
    · simp only [h1, not_true, if_false]
      exact hs _ _ _ _ _ _
    · by_cases h2 : (hget (mp (es B V)) d 16 i r 0 0).2.1 = 6
      · simp only [h1, h2, not_true, not_false_eq_true, if_true, if_false, show ¬ (6 : Int) = 0 by omega]
        exact hs _ _ _ _ _ _
      · simp only [h1, h2, not_false_eq_true, if_true, hawake_eq, some_bind]
theorem huffGets_eq (B : Nat → Int) (V d : List Int) (hd : ∀ x ∈ d, Byt x) : law05_HuffGets 100000 B V d = some true := by
  unfold law05_HuffGets
  by_cases h : Good B V
  · rw [codes_good 100000 (by omega) h, some_bind]
    split
    · rw [hawake_eq, some_bind]
    · split
      · rw [hawake_eq, some_bind]
      · simp only [if_true]
        rw [own_eq B V (by omega), some_bind, new_nil, new_good 100000 (by omega) h, some_bind]
        simp only [bits_NewReader]
        rw [if_pos (by simp; omega), some_bind]
        exact gets_loop h ⟨hd, by omega⟩ 40 100000 0 0 0 0 0 [] (by omega) (by omega) (RI.nil d)
  · rw [codes_bad 100000 (by omega) h, some_bind]
    simp only [Bool.false_eq_true, if_false, hawake_eq, some_bind]
    repeat' split
    all_goals rfl

/-! ### HuffNobody -/
theorem huffNobody_eq (v : Int) (d : List Int) (hl : d.length ≤ 140737488351232) : law05_HuffNobody 100000 v d = some true := by
  unfold law05_HuffNobody
  simp only [huff_Table_Code_2, bits_NewWriter, bits_NewReader, huff_Table_Get_2, huff_Table_Put, bits_Writer_Count, huff_Table_Spec_2]
  rw [some_bind, some_bind, if_pos (by simp; omega)]
  simp only [some_bind, hawake_eq]

/-! ### HuffBack -/
/-- The bits of some values. -/
def vbits (B : Nat → Int) (V : List Int) (l : List (Int × Int × Int)) : List Int := (l.map fun e => dig e.2.1 e.2.2.toNat).flatten
theorem vbits_append (B : Nat → Int) (V : List Int) (l : List (Int × Int × Int)) (e : Int × Int × Int) : vbits B V (l ++ [e]) = vbits B V l ++ dig e.2.1 e.2.2.toNat := by simp [vbits]
theorem hback_read {B : Nat → Int} {V : List Int} (h : Good B V) (P : List (Int × Int × Int)) (hP : ∀ e ∈ P, e ∈ es B V) (hP60 : P.length ≤ 60) {d : List Int} (hd : Bytes d) (p0 : List Int) :
    ∀ (n k j : Nat) (a p l : Int) (i : Nat) (r : List Int), j + n = P.length → n < k → RI d a p l i r → Rd d i r (vbits B V (P.drop j) ++ p0) [] →
    law05_HuffBack_l1 100000 B d (P.map (·.1)) (tab (es B V), V, mp (es B V)) k a p l (j : Int) = some true := by
  intro n
  induction n with
  | zero =>
    intro k j a p l i r hj hk hri hr
    obtain ⟨k, rfl⟩ : ∃ m, k = m + 1 := ⟨k - 1, by omega⟩
    simp only [law05_HuffBack_l1, law05_HuffBack_j1]
    rw [if_neg (by rw [List.length_map]; omega), hawake_eq, some_bind]
  | succ n ih =>
    intro k j a p l i r hj hk hri hr
    obtain ⟨k, rfl⟩ : ∃ m, k = m + 1 := ⟨k - 1, by omega⟩
    have hjl : j < P.length := by omega
    simp only [law05_HuffBack_l1, List.nil_append]
    rw [if_pos (by rw [List.length_map]; omega), if_pos (by rw [List.length_map]; omega)]
    have hm : P[j] ∈ es B V := hP _ (List.getElem_mem _)
    have hv : (P.map (·.1)).getD (j : Int).toNat 0 = (P[j]).1 := by
      rw [Int.toNat_natCast, getD_nat (by rw [List.length_map]; omega), List.getElem_map]
    have hdrop : vbits B V (P.drop j) = dig (P[j]).2.1 (P[j]).2.2.toNat ++ vbits B V (P.drop (j + 1)) := by
      unfold vbits; rw [List.drop_eq_getElem_cons hjl, List.map_cons, List.flatten_cons]
    rw [hdrop, List.append_assoc] at hr
    obtain ⟨g1, g2, g3⟩ := hget_code h hm hr
    obtain ⟨p', l', hg, hr2⟩ := tget_eq 100000 (by omega) B V (tab (es B V)) (mp (es B V)) hd hri
    rw [hg, some_bind]
    simp only [hv, g1, g2, not_true, if_false]
    rw [w64_id (by omega) (by omega)]
    exact ih k (j + 1) _ p' l' _ _ (by omega) (by omega) hr2 g3
theorem hback_puts {B : Nat → Int} {V : List Int} (h : Good B V) (a1 : List Int) (h60 : a1.length ≤ 60) : ∀ (n k j : Nat) (b : List Int) (p c : Int) (P : List (Int × Int × Int)), j + n = a1.length → n < k → P.length ≤ j → (∀ e ∈ P, e ∈ es B V) →
    WI b p c (vbits B V P) → (vbits B V P).length ≤ 16 * j →
    law05_HuffBack_l2 100000 B a1 (true, es B V) (tab (es B V), V, mp (es B V)) k b p c ((vbits B V P).length : Int) (P.map (·.1)) (j : Int) = some true := by
  have hm := h.most
  have hl := h.esLen
  intro n
  induction n with
  | zero =>
    intro k j b p c P hj hk hP hPe hw hlen
    obtain ⟨k, rfl⟩ : ∃ m, k = m + 1 := ⟨k - 1, by omega⟩
    simp only [law05_HuffBack_l2, law05_HuffBack_j2]
    rw [if_neg (by omega), bytes_eq 100000 _ (by omega) hw (by omega), some_bind]
    have hp : (pad (vbits B V P)).length ≤ (vbits B V P).length + 7 := by simp [pad]; omega
    have he := enc_len _ _ (Nat.le_refl _) (pad_len (vbits B V P))
    unfold bits_NewReader
    rw [if_pos (by simp; omega), some_bind]
    have hs : Rd (enc (pad (vbits B V P))) 0 [] (pad (vbits B V P)) [] := by
      have := Rd.start (t := []) (pad_bits hw.bits) (pad_len (vbits B V P))
      rwa [List.append_nil] at this
    have hby : Bytes (enc (pad (vbits B V P))) := ⟨enc_byt _ _ (Nat.le_refl _) (pad_len _) (pad_bits hw.bits), by omega⟩
    exact hback_read h P hPe (by omega) hby _ P.length 100000 0 0 0 0 0 [] (by omega) (by omega) (RI.nil _) hs
  | succ n ih =>
    intro k j b p c P hj hk hP hPe hw hlen
    obtain ⟨k, rfl⟩ : ∃ m, k = m + 1 := ⟨k - 1, by omega⟩
    simp only [law05_HuffBack_l2]
    rw [if_pos (by omega), if_pos (by omega)]
    generalize hv : a1.getD ((j : Int).toNat) 0 = v
    rw [find_eq 100000 (by omega) v (by omega), some_bind]
    simp only [bits_Writer_Count, huff_Table_Put_2]
    rw [some_bind, code_eq 100000 h, some_bind]
    cases hf : fnd (es B V) v with
    | none =>
      simp only [cod, fon, Bool.false_eq_true, if_false, some_bind, not_true, show ¬ (6 : Int) = 0 by omega]
      unfold law05_HuffBack_j4 law05_HuffBack_j3
      simp only [Bool.false_eq_true, if_false]
      rw [w64_id (by omega) (by omega)]
      exact ih k (j + 1) _ _ _ P (by omega) (by omega) (by omega) hPe hw (by omega)
    | some e =>
      obtain ⟨he, rfl⟩ := fnd_some hf
      have hfi := h.fits he
      obtain ⟨s, e1, e2, e3, _⟩ := h.bd he
      simp only [cod, fon, if_true]
      obtain ⟨b', p', c', hp, hw2⟩ := put_ok 100000 (a := ((vbits B V P).length : Int)) (by omega) hfi hw (by omega)
      rw [hp]
      simp only [some_bind, if_true]
      unfold law05_HuffBack_j4 law05_HuffBack_j3
      simp only [if_true, hv]
      rw [if_pos (by simp; omega)]
      rw [← vbits_append] at hw2
      have ec : w64 (((vbits B V P).length : Int) + e.2.2) = ((vbits B V (P ++ [e])).length : Int) := by
        rw [w64_id (by omega) (by omega), vbits_append, List.length_append, dig_len]; omega
      rw [ec, w64_id (by omega) (by omega)]
      have := ih k (j + 1) _ _ _ (P ++ [e]) (by omega) (by omega) (by simp; omega) (fun x hx => (List.mem_append.1 hx).elim (hPe x) (fun h => by simp at h; subst h; exact he)) hw2 (by rw [vbits_append, List.length_append, dig_len]; omega)
      rw [List.map_append] at this
      exact this
theorem huffBack_eq (B : Nat → Int) (V a1 : List Int) : law05_HuffBack 100000 B V a1 = some true := by
  unfold law05_HuffBack
  by_cases h : Good B V
  · rw [codes_good 100000 (by omega) h, some_bind]
    split
    · rw [hawake_eq, some_bind]
    · split
      · rw [hawake_eq, some_bind]
      · simp only [if_true]
        rw [own_eq B V (by omega), some_bind, new_nil, new_good 100000 (by omega) h, some_bind]
        simp only [bits_NewWriter]
        rw [some_bind]
        exact hback_puts h a1 (by omega) a1.length 100000 0 [] 0 0 [] (by omega) (by omega) (by simp) (by simp) WI.nil (by simp [vbits])
  · rw [codes_bad 100000 (by omega) h, some_bind]
    simp only [Bool.false_eq_true, if_false, hawake_eq, some_bind]
    repeat' split
    all_goals rfl
end Go.Proofs.Ytoepbakbpimkiaa
