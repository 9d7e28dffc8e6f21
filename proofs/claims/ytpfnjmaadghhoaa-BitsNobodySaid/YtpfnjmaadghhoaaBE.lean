import Derived.Test.YtpfnjmaadghhoaaBC
import Derived.Test.YtpfnjmaadghhoaaBD
import Derived.Test.YtpfnjmaadghhoaaGlaw04BitsReads
import Derived.Test.YtpfnjmaadghhoaaGlaw04BitsStands
import Derived.Test.YtpfnjmaadghhoaaGlaw04BitsBack
import Derived.Test.YtpfnjmaadghhoaaGlaw04BitsMarks
import Derived.Test.YtpfnjmaadghhoaaGlaw04BitsNobody
/-! Plain: the laws that read bits. -/
namespace Go.Proofs.Ytpfnjmaadghhoaa
open Go Go.RowKit K

/-! ### BitsReads -/
theorem marker_p (K : Nat) {d : List Int} {a p l : Int} {i : Nat} {r : List Int} (hd : Bytes d) (h : RI d a p l i r) :
    ∃ (v e : Int) (i' : Nat) (r' : List Int) (l' : Int), bits_Reader_Marker K a p l d = some (v, e, (i' : Int), l') ∧ ref04_Reader_Marker K d (i : Int) r = some ((i' : Int), v, e, r') ∧ RI d (i' : Int) p l' i' r' := by
  obtain ⟨rfl, hi, h0, h1, hl⟩ := h
  have hlen := hd.2
  unfold bits_Reader_Marker ref04_Reader_Marker
  rw [w64_id (x := (d.length : Int) - _) (by omega) (by omega), w64_id (x := (i : Int) + 1) (by omega) (by omega)]
  by_cases h2 : (d.length : Int) - (i : Int) < 2
  · rw [if_pos h2, if_pos h2]
    exact ⟨_, _, i, r, l, rfl, rfl, rfl, hi, h0, h1, hl⟩
  · rw [if_neg h2, if_neg h2, w64_id (x := (i : Int) + 2) (by omega) (by omega)]
    have hA : 0 ≤ (i : Int) + 1 ∧ (i : Int) + 1 < (d.length : Int) := by omega
    have hB : 0 ≤ (i : Int) ∧ (i : Int) < (d.length : Int) := by omega
    rw [if_pos hA, if_pos hB, if_pos hA, if_pos hB]
    have hx : ∀ x ∈ d, Byt x := hd.1
    have hb : Byt (d.getD (i : Int).toNat 0) := by
      rw [Int.toNat_natCast, List.getD_eq_getElem?_getD, List.getElem?_eq_getElem (by omega)]
      exact hx _ (List.getElem_mem _)
    unfold Byt at hb
    by_cases h3 : d.getD (i : Int).toNat 0 = 255
    · have hC : ¬ ¬ d.getD (i : Int).toNat 0 = 255 := fun h => h h3
      have hD : ¬ d.getD (i : Int).toNat 0 < 255 := by omega
      rw [if_neg hC, if_neg hD]
      generalize w64 (d.getD ((i : Int) + 1).toNat 0) = y
      by_cases h4 : y = 0
      · rw [if_pos h4, if_pos h4]
        exact ⟨_, _, i, r, l, rfl, rfl, rfl, hi, h0, h1, hl⟩
      · rw [if_neg h4, if_neg h4]
        by_cases h5 : y = 255
        · rw [if_pos h5, if_pos h5]
          exact ⟨_, _, i, r, l, rfl, rfl, rfl, hi, h0, h1, hl⟩
        · rw [if_neg h5, if_neg h5]
          refine ⟨y, 0, i + 2, [], 0, rfl, rfl, rfl, by omega, h0, h1, 0, by omega, rfl, rfl⟩
    · rw [if_pos h3, if_pos (by omega)]
      exact ⟨_, _, i, r, l, rfl, rfl, rfl, hi, h0, h1, hl⟩
theorem reads_loop (a0 : List Int) (a1 : List (Int × Int)) (hd : Bytes a0) (h200 : a1.length ≤ 200) : ∀ (n k j : Nat) (a p l : Int) (i : Nat) (r : List Int), j + n = a1.length → n < k → RI a0 a p l i r →
    law04_BitsReads_l1 100000 a0 a1 k a p l (i : Int) r (j : Int) = some true := by
  intro n
  induction n with
  | zero =>
    intro k j a p l i r hj hk h
    obtain ⟨k, rfl⟩ : ∃ m, k = m + 1 := ⟨k - 1, by omega⟩
    simp only [law04_BitsReads_l1]
    rw [if_neg (by omega)]
    unfold law04_BitsReads_j1
    rw [awake_eq, some_bind]
  | succ n ih =>
    intro k j a p l i r hj hk h
    obtain ⟨k, rfl⟩ : ∃ m, k = m + 1 := ⟨k - 1, by omega⟩
    simp only [law04_BitsReads_l1, List.nil_append]
    rw [if_pos (by omega), if_pos (by omega)]
    generalize a1.getD ((j : Int).toNat) (0, 0) = q
    have hi := h.2.1
    have hl := h.left
    have hs : ∀ (a' p' l' : Int) (i' : Nat) (r' : List Int) (x e : Int), RI a0 a' p' l' i' r' →
        law04_BitsReads_j2 100000 (law04_BitsReads_l1 100000 a0 a1 k) a0 (j : Int) a' p' l' (i' : Int) r' x x e e = some true := by
      intro a' p' l' i' r' x e h'
      unfold law04_BitsReads_j2
      obtain ⟨rfl, hh⟩ := h'
      rw [if_neg (by simp), if_neg (by simp), w64_id (by omega) (by omega)]
      simp only [bits_Reader_At]
      rw [some_bind, if_neg (by simp)]
      exact ih k (j + 1) _ _ _ _ _ (by omega) (by omega) ⟨rfl, hh⟩
    by_cases q0 : q.1 = 0
    · rw [if_pos q0]
      obtain ⟨p', l', hb, hr⟩ := bit_p 100000 hd h
      rw [hb, some_bind, rbit_p 100000 (by omega) hd hi hl.2, some_bind]
      exact hs _ _ _ _ _ _ _ hr
    · rw [if_neg q0]
      by_cases q1 : q.1 = 1
      · rw [if_pos q1]
        obtain ⟨p', l', hb, hr, _⟩ := get_p 100000 (by omega) hd h q.2
        rw [hb, some_bind, rget_p 100000 (by omega) hd hi hl.2 h.bits, some_bind]
        exact hs _ _ _ _ _ _ _ hr
      · rw [if_neg q1]
        by_cases q2 : q.1 = 2
        · rw [if_pos q2]
          simp only [bits_Reader_Skip, ref04_Reader_Skip]
          rw [some_bind, some_bind, hl.1]
          obtain ⟨rfl, _, h0, h1, _⟩ := h
          exact hs _ _ _ _ _ _ _ ⟨rfl, hi, h0, h1, 0, by omega, rfl, rfl⟩
        · rw [if_neg q2]
          by_cases q3 : q.1 = 3
          · rw [if_pos q3]
            obtain ⟨v, e, i', r', l', h1, h2, h3⟩ := marker_p 100000 hd h
            rw [h1, some_bind, h2, some_bind]
            exact hs _ _ _ _ _ _ _ h3
          · rw [if_neg q3]
            exact hs _ _ _ _ _ _ _ h
theorem reads_over (a0 : List Int) (a1 : List (Int × Int)) : ∀ (n k j : Nat) (v : List Int), j + n = a0.length → n < k → v.length = a0.length → a0.length ≤ 4000 →
    law04_BitsReads_l2 100000 a0 a1 k v (j : Int) = law04_BitsReads_j3 100000 a0 a1 := by
  intro n
  induction n with
  | zero =>
    intro k j v hj hk hv hl
    obtain ⟨k, rfl⟩ : ∃ m, k = m + 1 := ⟨k - 1, by omega⟩
    simp only [law04_BitsReads_l2, List.nil_append]
    rw [if_neg (by omega)]
  | succ n ih =>
    intro k j v hj hk hv hl
    obtain ⟨k, rfl⟩ : ∃ m, k = m + 1 := ⟨k - 1, by omega⟩
    simp only [law04_BitsReads_l2, List.nil_append]
    rw [if_pos (by omega), if_pos (by omega), w64_id (by omega) (by omega)]
    exact ih k (j + 1) _ (by omega) (by omega) (by rw [List.length_set]; exact hv) hl
theorem bitsReads_eq (a0 : List Int) (a1 : List (Int × Int)) (hb : ∀ x ∈ a0, Byt x) : law04_BitsReads 100000 a0 a1 = some true := by
  unfold law04_BitsReads
  split
  · rw [awake_eq, some_bind]
  · split
    · rw [awake_eq, some_bind]
    · simp only [List.nil_append]
      rw [if_pos (by simp; omega)]
      unfold bits_NewReader
      rw [if_pos (by simp; omega), some_bind]
      have := reads_over a0 a1 a0.length 100000 0 a0 (by omega) (by omega) rfl (by omega)
      simp only [Int.natCast_zero] at this
      rw [this]
      unfold law04_BitsReads_j3
      have := reads_loop a0 a1 ⟨hb, by omega⟩ (by omega) a1.length 100000 0 0 0 0 0 [] (by omega) (by omega) (RI.nil a0)
      simp only [Int.natCast_zero] at this
      exact this

/-! ### BitsStands -/
theorem getA_stay {d : List Int} {i0 : Nat} {r0 : List Int} : ∀ (n i : Nat) (r : List Int) (a : Int), ¬ (getA d i0 r0 n i r a).2.1 = 0 → (getA d i0 r0 n i r a).2.2.1 = i0
  | 0, _, _, _, h => absurd rfl h
  | n + 1, i, r, a, h => by
    simp only [getA] at h ⊢
    split
    · rename_i h1
      rw [if_pos h1] at h
      exact getA_stay n _ _ _ h
    · rfl
theorem stands_loop (a0 : List Int) (a1 : List (Int × Int)) (a2 : Int) (hd : Bytes a0) (h200 : a1.length ≤ 200) : ∀ (n k j : Nat) (a p l : Int) (i : Nat) (r : List Int), j + n = a1.length → n < k → RI a0 a p l i r →
    law04_BitsStands_l1 100000 a0 a1 a2 k a p l a p l (j : Int) = some true := by
  intro n
  induction n with
  | zero =>
    intro k j a p l i r hj hk h
    obtain ⟨k, rfl⟩ : ∃ m, k = m + 1 := ⟨k - 1, by omega⟩
    simp only [law04_BitsStands_l1]
    rw [if_neg (by omega)]
    unfold law04_BitsStands_j1
    simp only [List.nil_append, bits_Reader_At, some_bind]
    obtain ⟨p', l', hg, hr, he⟩ := get_p 100000 (by omega) hd h a2
    rw [hg, some_bind]
    simp only
    by_cases h0 : (get a0 i r a2).2.1 = 0
    · rw [if_pos h0, awake_eq, some_bind]
    · rw [if_neg h0]
      obtain ⟨rfl, rfl⟩ := he h0
      have hst : (((get a0 i r a2).2.2.1 : Nat) : Int) = a := by
        have ha := h.1
        rw [ha]
        congr 1
        unfold get at h0 ⊢
        split
        · rfl
        · rename_i h5
          rw [if_neg h5] at h0
          split
          · rfl
          · rename_i h6
            rw [if_neg h6] at h0
            exact getA_stay _ _ _ _ h0
      rw [hst]
      obtain ⟨p2, l2, hb, _⟩ := bit_p 100000 hd h
      rw [hb, some_bind, some_bind]
      obtain ⟨rfl, hi, _⟩ := h
      rw [if_pos (by omega), if_pos rfl, if_pos rfl, if_pos rfl, awake_eq, some_bind]
  | succ n ih =>
    intro k j a p l i r hj hk h
    obtain ⟨k, rfl⟩ : ∃ m, k = m + 1 := ⟨k - 1, by omega⟩
    simp only [law04_BitsStands_l1, List.nil_append]
    rw [if_pos (by omega), if_pos (by omega)]
    generalize a1.getD ((j : Int).toNat) (0, 0) = q
    obtain ⟨p', l', hg, hr, _⟩ := get_p 100000 (by omega) hd h q.2
    rw [hg, some_bind, some_bind, w64_id (by omega) (by omega)]
    exact ih k (j + 1) _ _ _ _ _ (by omega) (by omega) hr
theorem bitsStands_eq (a0 : List Int) (a1 : List (Int × Int)) (a2 : Int) (hb : ∀ x ∈ a0, Byt x) : law04_BitsStands 100000 a0 a1 a2 = some true := by
  unfold law04_BitsStands
  split
  · rw [awake_eq, some_bind]
  · split
    · rw [awake_eq, some_bind]
    · unfold bits_NewReader
      rw [if_pos (by simp; omega), some_bind]
      have := stands_loop a0 a1 a2 ⟨hb, by omega⟩ (by omega) a1.length 100000 0 0 0 0 0 [] (by omega) (by omega) (RI.nil a0)
      simp only [Int.natCast_zero] at this
      exact this

/-! ### BitsBack -/
/-- The bits of some pieces. -/
def putBits (v : List (Int × Int)) : List Int := (v.map fun q => dig q.1 q.2.toNat).flatten
theorem putBits_append (v : List (Int × Int)) (q : Int × Int) : putBits (v ++ [q]) = putBits v ++ dig q.1 q.2.toNat := by simp [putBits]
theorem dig_bits_at {v : Int} (h0 : 0 ≤ v) (h1 : v ≤ 9223372036854775807) : True := trivial
theorem back_bits (cb : Int → Int → Int → Int → Int → Int → Int → Option Bool) (v21 : List (Int × Int)) (x : Int) (e t : List Int) (hd : Bytes e) (r107 : Int × Int × Int × Int × Int) (v : Int) (hv : (v21.getD x.toNat (0, 0)).1 = v) (hv0 : 0 ≤ v) (hv1 : v ≤ 9223372036854775807) :
    ∀ (n k : Nat) (a p l : Int) (i : Nat) (r m : List Int), n ≤ 24 → n < k → RI e a p l i r → Rd e i r (dig v n ++ m) t →
    ∃ a' p' l' i' r', law04_BitsBack_l3 100000 cb v21 x e r107 k a p l ((n : Int) - 1) = law04_BitsBack_j3 100000 cb x r107.2.2.1 r107.2.2.2.1 r107.2.2.2.2 a' p' l' r107.1 (decide (¬ r107.1 = (v21.getD x.toNat (0, 0)).1)) ∧
      RI e a' p' l' i' r' ∧ Rd e i' r' m t := by
  intro n
  induction n with
  | zero =>
    intro k a p l i r m _ hk h hr
    obtain ⟨k, rfl⟩ : ∃ m, k = m + 1 := ⟨k - 1, by omega⟩
    simp only [law04_BitsBack_l3]
    rw [if_neg (by omega)]
    exact ⟨_, _, _, i, r, rfl, h, by simpa [dig] using hr⟩
  | succ n ih =>
    intro k a p l i r m hn hk h hr
    obtain ⟨k, rfl⟩ : ∃ m, k = m + 1 := ⟨k - 1, by omega⟩
    simp only [law04_BitsBack_l3, List.nil_append]
    have e1 : ((n + 1 : Nat) : Int) - 1 = (n : Int) := by omega
    rw [e1, if_pos (by omega), hv, bit_at hv0 hv1 (by omega) (by omega)]
    simp only [Int.toNat_natCast]
    rw [dig_cons, List.cons_append] at hr
    obtain ⟨p', l', hb, hr2⟩ := bit_p 100000 hd h
    obtain ⟨s1, s2, s3⟩ := hr.step
    rw [hb, some_bind]
    simp only [s1, s2, not_true, if_false]
    rw [if_pos (by omega), w64_id (by omega) (by omega)]
    obtain ⟨a2, p2, l2, i2, r2, h2, h3⟩ := ih k _ p' l' _ _ m (by omega) (by omega) hr2 s3
    rw [hv] at h2
    exact ⟨a2, p2, l2, i2, r2, h2, h3⟩
theorem back_pad (v20 v35 v37 v36 : Int) (e t : List Int) (hd : Bytes e) : ∀ (n k j : Nat) (a p l : Int) (i : Nat) (r : List Int), Int.tmod (w64 (8 - Int.tmod v20 8)) 8 = ((j + n : Nat) : Int) → j + n < 8 → n < k → RI e a p l i r → Rd e i r (List.replicate n 1) t →
    ∃ a' p' l' i' r', law04_BitsBack_l1 100000 v20 v35 v37 v36 e k a p l (j : Int) = law04_BitsBack_j1 100000 v20 v35 v37 v36 e a' p' l' ∧ RI e a' p' l' i' r' ∧ Rd e i' r' [] t := by
  intro n
  induction n with
  | zero =>
    intro k j a p l i r hj h8 hk h hr
    obtain ⟨k, rfl⟩ : ∃ m, k = m + 1 := ⟨k - 1, by omega⟩
    simp only [law04_BitsBack_l1]
    rw [if_neg (by omega)]
    exact ⟨_, _, _, i, r, rfl, h, hr⟩
  | succ n ih =>
    intro k j a p l i r hj h8 hk h hr
    obtain ⟨k, rfl⟩ : ∃ m, k = m + 1 := ⟨k - 1, by omega⟩
    simp only [law04_BitsBack_l1, List.nil_append]
    rw [if_pos (by omega)]
    rw [List.replicate_succ] at hr
    obtain ⟨p', l', hb, hr2⟩ := bit_p 100000 hd h
    obtain ⟨s1, s2, s3⟩ := hr.step
    rw [hb, some_bind]
    simp only [s1, s2, not_true, if_false]
    rw [w64_id (by omega) (by omega)]
    exact ih k (j + 1) _ p' l' _ _ (by omega) (by omega) (by omega) hr2 s3
theorem enc_bytes {l : List Int} (hb : Bits l) (hl : l.length ≤ 900000) : Bytes (enc (pad l)) := by
  have h := enc_len _ _ (Nat.le_refl _) (pad_len l)
  have hp : (pad l).length ≤ l.length + 7 := by simp [pad]; omega
  exact ⟨enc_byt _ _ (Nat.le_refl _) (pad_len l) (pad_bits hb), by omega⟩
theorem tmod8 (n : Nat) : Int.tmod (w64 (8 - Int.tmod (n : Int) 8)) 8 = (((8 - n % 8) % 8 : Nat) : Int) := by
  have e2 : Int.tmod (n : Int) 8 = (n : Int) % 8 := Int.tmod_eq_emod_of_nonneg (by omega)
  rw [e2, w64_id (by omega) (by omega), Int.tmod_eq_emod_of_nonneg (by omega)]
  omega
theorem back_end (l : List Int) (hb : Bits l) (hl : l.length ≤ 900000) {a p le a2 p2 l2 : Int} {i i2 : Nat} {r r2 : List Int} (v16 : List Int) (v18 v19 : Int)
    (h : RI (enc (pad l)) a p le i r) (h2 : RI (enc (pad l)) a2 p2 l2 i2 r2) (hr : Rd (enc (pad l)) i r (List.replicate ((8 - l.length % 8) % 8) 1) []) (hr2 : Rd (enc (pad l)) i2 r2 (List.replicate ((8 - l.length % 8) % 8) 1) []) :
    law04_BitsBack_j2 100000 v16 v18 v19 (l.length : Int) (enc (pad l)) a p le a2 p2 l2 = some true := by
  have hd := enc_bytes hb hl
  unfold law04_BitsBack_j2
  simp only [bits_Writer_Count]
  rw [some_bind]
  obtain ⟨a', p', l', i', r', e1, h3, h4⟩ := back_pad (l.length : Int) a2 l2 p2 (enc (pad l)) [] hd ((8 - l.length % 8) % 8) 100000 0 a p le i r (by rw [tmod8]; congr 1; omega) (by omega) (by omega) h hr
  simp only [Int.natCast_zero] at e1
  rw [e1]
  unfold law04_BitsBack_j1
  simp only [List.nil_append]
  obtain ⟨p3, l3, hb3, h5⟩ := bit_p 100000 hd h3
  obtain ⟨rfl, hdr⟩ := h4.over (by simp)
  rw [nxt_end hdr] at hb3
  rw [hb3, some_bind]
  simp only [bits_Reader_At, bits_Reader_Skip, some_bind, if_true]
  have hi := h3.2.1
  have := drop_nil hdr
  rw [if_pos (by omega), tmod8, if_pos, awake_eq, some_bind]
  obtain ⟨rfl, _⟩ := hr2.over (by rw [List.length_replicate]; omega)
  rw [h2.left.1, List.length_replicate]
theorem back_loop (v21 : List (Int × Int)) (h60 : v21.length ≤ 60) (hf : ∀ q ∈ v21, Fits q.1 q.2) (l : List Int) (hl : l = putBits v21) (hlen : l.length ≤ 900000) (v16 : List Int) (v18 v19 : Int) :
    ∀ (n k j : Nat) (a p le a2 p2 l2 : Int) (i i2 : Nat) (r r2 : List Int), j + n = v21.length → n < k →
    RI (enc (pad l)) a p le i r → RI (enc (pad l)) a2 p2 l2 i2 r2 →
    Rd (enc (pad l)) i r (putBits (v21.drop j) ++ List.replicate ((8 - l.length % 8) % 8) 1) [] → Rd (enc (pad l)) i2 r2 (putBits (v21.drop j) ++ List.replicate ((8 - l.length % 8) % 8) 1) [] →
    law04_BitsBack_l2 100000 v16 v18 v19 (l.length : Int) v21 (enc (pad l)) k a p le a2 p2 l2 (j : Int) = some true := by
  have hb : Bits l := by
    subst hl
    intro x hx
    unfold putBits at hx
    rw [List.mem_flatten] at hx
    obtain ⟨c, hc, hx⟩ := hx
    rw [List.mem_map] at hc
    obtain ⟨q, _, rfl⟩ := hc
    exact dig_bits _ _ x hx
  have hd := enc_bytes hb hlen
  intro n
  induction n with
  | zero =>
    intro k j a p le a2 p2 l2 i i2 r r2 hj hk h h2 hr hr2
    obtain ⟨k, rfl⟩ : ∃ m, k = m + 1 := ⟨k - 1, by omega⟩
    simp only [law04_BitsBack_l2]
    rw [if_neg (by omega)]
    rw [List.drop_of_length_le (by omega)] at hr hr2
    exact back_end l hb hlen v16 v18 v19 h h2 (by simpa [putBits] using hr) (by simpa [putBits] using hr2)
  | succ n ih =>
    intro k j a p le a2 p2 l2 i i2 r r2 hj hk h h2 hr hr2
    obtain ⟨k, rfl⟩ : ∃ m, k = m + 1 := ⟨k - 1, by omega⟩
    simp only [law04_BitsBack_l2, List.nil_append]
    rw [if_pos (by omega), if_pos (by omega)]
    have hjl : j < v21.length := by omega
    have hq : v21.getD ((j : Int).toNat) (0, 0) = v21[j] := by rw [Int.toNat_natCast, List.getD_eq_getElem?_getD, List.getElem?_eq_getElem hjl]; rfl
    have hm : v21[j] ∈ v21 := List.getElem_mem _
    have hdrop : putBits (v21.drop j) = dig (v21[j]).1 (v21[j]).2.toNat ++ putBits (v21.drop (j + 1)) := by
      unfold putBits; rw [List.drop_eq_getElem_cons hjl, List.map_cons, List.flatten_cons]
    rw [hdrop, List.append_assoc] at hr hr2
    have hfq := hf _ hm
    generalize hqq : v21[j] = q at hq hfq hr hr2
    have hf' := hfq
    obtain ⟨f0, f1, f2, f3⟩ := hf'
    have hp2 : (2 : Int) ^ q.2.toNat ≤ 2 ^ 24 := pow2_le (by omega)
    obtain ⟨g1, g2, g3⟩ := Rd.get hfq hr
    obtain ⟨p', l', hg, h4, _⟩ := get_p 100000 (by omega) hd h q.2
    rw [hq, hg, some_bind]
    simp only [g1, g2, not_true, if_false]
    obtain ⟨a3, p3, l3, i3, r3, e3, h5, h6⟩ := back_bits (law04_BitsBack_l2 100000 v16 v18 v19 (l.length : Int) v21 (enc (pad l)) k) v21 (j : Int) (enc (pad l)) [] hd (q.1, 0, (((get (enc (pad l)) i r q.2).2.2.1 : Nat) : Int), p', l') q.1 (by rw [hq]) f2 (by omega) q.2.toNat 100000 a2 p2 l2 i2 r2 _ (by omega) (by omega) h2 hr2
    rw [Int.toNat_of_nonneg f0] at e3
    rw [w64_id (x := q.2 - 1) (by omega) (by omega), e3]
    unfold law04_BitsBack_j3
    rw [w64_id (by omega) (by omega)]
    exact ih k (j + 1) _ _ _ _ _ _ _ _ _ _ (by omega) (by omega) h4 h5 g3 h6
theorem back_puts (a0 : List (Int × Int)) (h60 : a0.length ≤ 60) : ∀ (d k i : Nat) (b : List Int) (p c : Int) (v : List (Int × Int)), i + d = a0.length → d < k → WI b p c (putBits v) → (∀ q ∈ v, Fits q.1 q.2) → (putBits v).length ≤ 24 * i → v.length ≤ i →
    law04_BitsBack_l4 100000 a0 k b p c ((putBits v).length : Int) v (i : Int) = some true := by
  intro d
  induction d with
  | zero =>
    intro k i b p c v hi hk h hf hl hv
    obtain ⟨k, rfl⟩ : ∃ m, k = m + 1 := ⟨k - 1, by omega⟩
    simp only [law04_BitsBack_l4]
    rw [if_neg (by omega)]
    unfold law04_BitsBack_j4
    rw [bytes_eq 100000 _ (by omega) h (by omega), some_bind]
    have hp : (pad (putBits v)).length ≤ (putBits v).length + 7 := by simp [pad]; omega
    have he := enc_len _ _ (Nat.le_refl _) (pad_len (putBits v))
    unfold bits_NewReader
    rw [if_pos (by simp; omega), some_bind]
    have hs : Rd (enc (pad (putBits v))) 0 [] (pad (putBits v)) [] := by
      have := Rd.start (t := []) (pad_bits h.bits) (pad_len (putBits v))
      rwa [List.append_nil] at this
    have := back_loop v (by omega) hf (putBits v) rfl (by omega) b p c v.length 100000 0 0 0 0 0 0 0 0 0 [] [] (by omega) (by omega) (RI.nil _) (RI.nil _) hs hs
    simp only [Int.natCast_zero] at this
    exact this
  | succ d ih =>
    intro k i b p c v hi hk h hf hl hv
    obtain ⟨k, rfl⟩ : ∃ m, k = m + 1 := ⟨k - 1, by omega⟩
    simp only [law04_BitsBack_l4]
    rw [if_pos (by omega), if_pos (by omega)]
    generalize a0.getD ((i : Int).toNat) (0, 0) = q
    by_cases hfq : Fits q.1 q.2
    · have hf' := hfq
      obtain ⟨h0, h1, _, _⟩ := hf'
      obtain ⟨b', p', c', hp, hw⟩ := put_ok 100000 (a := ((putBits v).length : Int)) (by omega) hfq h (by omega)
      rw [hp, some_bind]
      simp only [if_true]
      rw [if_pos (by simp; omega)]
      unfold law04_BitsBack_j5
      rw [← putBits_append] at hw
      have e : w64 (((putBits v).length : Int) + q.2) = ((putBits (v ++ [q])).length : Int) := by
        rw [w64_id (by omega) (by omega), putBits_append, List.length_append, dig_len]; omega
      rw [e, w64_id (by omega) (by omega)]
      exact ih k (i + 1) _ _ _ (v ++ [q]) (by omega) (by omega) hw (fun x hx => (List.mem_append.1 hx).elim (hf x) (fun h => by simp at h; subst h; exact hfq)) (by rw [putBits_append, List.length_append, dig_len]; omega) (by simp; omega)
    · rw [put_no 100000 hfq, some_bind]
      simp only [show ¬ (2 : Int) = 0 by omega, if_false]
      unfold law04_BitsBack_j5
      rw [w64_id (by omega) (by omega)]
      exact ih k (i + 1) _ _ _ v (by omega) (by omega) h hf (by omega) (by omega)
theorem bitsBack_eq (a0 : List (Int × Int)) : law04_BitsBack 100000 a0 = some true := by
  unfold law04_BitsBack
  split
  · rw [awake_eq, some_bind]
  · simp only [bits_NewWriter]
    rw [some_bind]
    have := back_puts a0 (by omega) a0.length 100000 0 [] 0 0 [] (by omega) (by omega) WI.nil (by simp) (by simp [putBits]) (by simp)
    have e : (putBits []).length = 0 := rfl
    rw [e] at this
    simp only [Int.natCast_zero] at this
    exact this

/-! ### BitsMarks -/
theorem enc_marks : ∀ (n : Nat) (m : List Int), m.length ≤ n → m.length % 8 = 0 → ∀ i, (enc m).getD i 0 = 255 → i + 1 < (enc m).length ∧ (enc m).getD (i + 1) 0 = 0
  | 0, m, hn, _, i, hi => by
    obtain rfl : m = [] := List.eq_nil_of_length_eq_zero (by omega)
    simp [enc_nil] at hi
  | n + 1, m, hn, h, i, hi => by
    by_cases h0 : m = []
    · subst h0; simp [enc_nil] at hi
    · obtain ⟨c, q, rfl, hc, hq, hlt⟩ := split8 h h0
      rw [enc_cons hc] at hi ⊢
      have ih := enc_marks n q (by omega) hq
      generalize enc q = e at *
      unfold byteOf at *
      split at hi
      · rename_i h255
        rw [if_pos h255]
        match i, hi with
        | 0, hi => exact ⟨by simp, rfl⟩
        | 1, hi => simp at hi
        | i + 2, hi =>
          have := ih i (by simpa using hi)
          exact ⟨by simp; omega, by simpa using this.2⟩
      · rename_i h255
        rw [if_neg h255]
        match i, hi with
        | 0, hi => exact absurd (by simpa using hi) h255
        | i + 1, hi =>
          have := ih i (by simpa using hi)
          exact ⟨by simp; omega, by simpa using this.2⟩
theorem marks_look (a1 : Int) (v13 : List Int) (v15 v17 v16 : Int) (m : List Int) (h8 : m.length % 8 = 0) (hl : m.length ≤ 90000) : ∀ (n k j : Nat), j + n = (enc m).length → n < k →
    law04_BitsMarks_l2 100000 a1 v13 v15 v17 v16 (enc m) k (j : Int) = law04_BitsMarks_j2 100000 a1 v13 v15 v17 v16 (enc m) := by
  have he := enc_len _ m (Nat.le_refl _) h8
  intro n
  induction n with
  | zero =>
    intro k j hj hk
    obtain ⟨k, rfl⟩ : ∃ m, k = m + 1 := ⟨k - 1, by omega⟩
    simp only [law04_BitsMarks_l2]
    rw [if_neg (by omega)]
  | succ n ih =>
    intro k j hj hk
    obtain ⟨k, rfl⟩ : ∃ m, k = m + 1 := ⟨k - 1, by omega⟩
    simp only [law04_BitsMarks_l2]
    rw [if_pos (by omega), if_pos (by omega)]
    unfold law04_BitsMarks_j3
    rw [w64_id (x := (j : Int) + 1) (by omega) (by omega)]
    simp only [Int.toNat_natCast]
    have e := ih k (j + 1) (by omega) (by omega)
    rw [show ((j + 1 : Nat) : Int) = (j : Int) + 1 by omega] at e
    by_cases h255 : (enc m).getD j 0 = 255
    · obtain ⟨h1, h2⟩ := enc_marks _ m (Nat.le_refl _) h8 j h255
      rw [if_pos h255, if_neg (by omega), if_pos (by omega), show ((j : Int) + 1).toNat = j + 1 by omega, if_neg (by rw [h2]; simp), e]
    · rw [if_neg h255, e]
theorem marks_read (a1 : Int) (v13 : List Int) (v15 v16 v17 : Int) (e : List Int) (b : List Int) (hd : Bytes (e ++ b)) (hb : b = [255, IntKind.u8.wrap (w64 (Int.tmod (w64 a1) 254 + 1))]) (t p : List Int) (hv : v17 ≤ 90000) :
    ∀ (n k j : Nat) (a pa le : Int) (i : Nat) (r l : List Int), v17 = ((j + n : Nat) : Int) → n < k → l.length = n → RI (e ++ b) a pa le i r → Rd (e ++ b) i r (l ++ p) t →
    ∃ a' p' l' i' r', law04_BitsMarks_l1 100000 a1 v13 v15 v17 v16 e k a pa le (j : Int) = law04_BitsMarks_j1 100000 a1 e a' p' l' ∧ RI (e ++ b) a' p' l' i' r' ∧ Rd (e ++ b) i' r' p t := by
  intro n
  induction n with
  | zero =>
    intro k j a pa le i r l hj hk hl h hr
    obtain ⟨k, rfl⟩ : ∃ m, k = m + 1 := ⟨k - 1, by omega⟩
    simp only [law04_BitsMarks_l1, bits_Writer_Count]
    rw [some_bind, if_neg (by omega)]
    obtain rfl : l = [] := List.eq_nil_of_length_eq_zero hl
    exact ⟨_, _, _, i, r, rfl, h, hr⟩
  | succ n ih =>
    intro k j a pa le i r l hj hk hl h hr
    obtain ⟨k, rfl⟩ : ∃ m, k = m + 1 := ⟨k - 1, by omega⟩
    simp only [law04_BitsMarks_l1, bits_Writer_Count, List.nil_append]
    rw [some_bind, if_pos (by omega), ← hb]
    match l, hl with
    | x :: l, hl =>
      rw [List.cons_append] at hr
      obtain ⟨p', l', hb3, hr2⟩ := bit_p 100000 hd h
      obtain ⟨s1, s2, s3⟩ := hr.step
      rw [hb3, some_bind]
      simp only [s2, not_true, if_false]
      rw [w64_id (by omega) (by omega)]
      exact ih k (j + 1) _ _ _ _ _ l (by omega) (by omega) (by simpa using hl) hr2 s3
theorem marks_puts (a0 : List (Int × Int)) (a1 : Int) (ha : Byt a1) (h60 : a0.length ≤ 60) : ∀ (d k i : Nat) (b l : List Int) (p c : Int), i + d = a0.length → d < k → WI b p c l → l.length ≤ 24 * i →
    law04_BitsMarks_l3 100000 a0 a1 k b p c (l.length : Int) (i : Int) = some true := by
  intro d
  induction d with
  | zero =>
    intro k i b l p c hi hk h hl
    obtain ⟨k, rfl⟩ : ∃ m, k = m + 1 := ⟨k - 1, by omega⟩
    simp only [law04_BitsMarks_l3]
    rw [if_neg (by omega)]
    unfold law04_BitsMarks_j4
    rw [bytes_eq 100000 _ (by omega) h (by omega), some_bind]
    have hp : (pad l).length ≤ l.length + 7 := by simp [pad]; omega
    have he := enc_len _ _ (Nat.le_refl _) (pad_len l)
    have e := marks_look a1 b p (l.length : Int) c (pad l) (pad_len l) (by omega) (enc (pad l)).length 100000 0 (by omega) (by omega)
    simp only [Int.natCast_zero] at e
    rw [e]
    unfold law04_BitsMarks_j2
    simp only [List.nil_append]
    rw [if_pos (by simp; omega), if_pos (by simp; omega)]
    unfold bits_NewReader
    rw [if_pos (by simp; omega), some_bind]
    have ha' : 0 ≤ a1 ∧ a1 ≤ 255 := ha
    have hm : ∃ m : Int, w64 (Int.tmod (w64 a1) 254 + 1) = m ∧ 1 ≤ m ∧ m ≤ 254 := by
      rw [w64_byt ha, Int.tmod_eq_emod_of_nonneg (by omega), w64_id (by omega) (by omega)]
      exact ⟨_, rfl, by omega, by omega⟩
    obtain ⟨m, hm, hm1, hm2⟩ := hm
    have hd0 := enc_bytes h.bits (by omega)
    have hd : Bytes (enc (pad l) ++ [255, IntKind.u8.wrap (w64 (Int.tmod (w64 a1) 254 + 1))]) := by
      rw [hm, u8_id (by omega) (by omega)]
      refine ⟨fun x hx => (List.mem_append.1 hx).elim (hd0.1 x) (fun hx => ?_), by simp; omega⟩
      simp at hx
      rcases hx with rfl | rfl <;> unfold Byt <;> omega
    obtain ⟨a', p', l', i', r', e1, h3, h4⟩ := marks_read a1 b p c (l.length : Int) (enc (pad l)) [255, IntKind.u8.wrap (w64 (Int.tmod (w64 a1) 254 + 1))] hd rfl [255, IntKind.u8.wrap (w64 (Int.tmod (w64 a1) 254 + 1))] (List.replicate ((8 - l.length % 8) % 8) 1) (by omega) l.length 100000 0 0 0 0 0 [] l (by omega) (by omega) rfl (RI.nil _) (Rd.start (pad_bits h.bits) (pad_len l))
    simp only [Int.natCast_zero] at e1
    rw [e1]
    unfold law04_BitsMarks_j1
    simp only [List.nil_append]
    obtain ⟨hr5, hdr⟩ := h4.over (by rw [List.length_replicate]; omega)
    obtain ⟨f1, f2, f3⟩ := getD_drop2 hdr
    obtain ⟨g1, _, _⟩ := getD_drop hdr
    rw [List.length_append, List.length_cons, List.length_singleton, List.length_nil] at f3
    obtain ⟨rfl, _⟩ := h3
    unfold bits_Reader_Marker
    have hlen := hd.2
    rw [List.length_append, List.length_cons, List.length_singleton] at hlen
    rw [List.length_append, List.length_cons, List.length_singleton]
    rw [w64_id (x := (i' : Int) + 1) (by omega) (by omega), w64_id (x := (i' : Int) + 2) (by omega) (by omega)]
    rw [if_neg (by rw [w64_id (by omega) (by omega)]; omega), if_pos (by omega), if_pos (by omega), if_neg (by rw [Int.toNat_natCast, g1]; simp), show ((i' : Int) + 1).toNat = i' + 1 by omega, f1, hm, u8_id (by omega) (by omega),
      w64_id (by omega) (by omega), if_neg (by omega), if_neg (by omega)]
    simp only [bits_Reader_Skip, bits_Reader_At, some_bind, if_true]
    rw [if_pos (by rw [w64_id (by omega) (by omega)]; omega), awake_eq, some_bind]
  | succ d ih =>
    intro k i b l p c hi hk h hl
    obtain ⟨k, rfl⟩ : ∃ m, k = m + 1 := ⟨k - 1, by omega⟩
    simp only [law04_BitsMarks_l3]
    rw [if_pos (by omega), if_pos (by omega), w64_id (x := (i : Int) + 1) (by omega) (by omega)]
    generalize a0.getD ((i : Int).toNat) (0, 0) = q
    by_cases hfq : Fits q.1 q.2
    · have hf' := hfq
      obtain ⟨h0, h1, _, _⟩ := hf'
      obtain ⟨b', p', c', hp, hw⟩ := put_ok 100000 (a := (l.length : Int)) (by omega) hfq h (by omega)
      rw [hp, some_bind]
      have e : w64 ((l.length : Int) + q.2) = ((l ++ dig q.1 q.2.toNat).length : Int) := by
        rw [w64_id (by omega) (by omega), List.length_append, dig_len]; omega
      simp only [e]
      exact ih k (i + 1) _ _ _ _ (by omega) (by omega) hw (by rw [List.length_append, dig_len]; omega)
    · rw [put_no 100000 hfq, some_bind]
      exact ih k (i + 1) _ _ _ _ (by omega) (by omega) h (by omega)
theorem bitsMarks_eq (a0 : List (Int × Int)) (a1 : Int) (ha : Byt a1) : law04_BitsMarks 100000 a0 a1 = some true := by
  unfold law04_BitsMarks
  split
  · rw [awake_eq, some_bind]
  · simp only [bits_NewWriter]
    rw [some_bind]
    have := marks_puts a0 a1 ha (by omega) a0.length 100000 0 [] [] 0 0 (by omega) (by omega) WI.nil (by simp)
    simp only [List.length_nil, Int.natCast_zero] at this
    exact this
theorem bitsNobody_eq (a : Int) (b : Int) : law04_BitsNobody 100000 a b = some true := by
  unfold law04_BitsNobody
  simp only [bits_Reader_Bit_2, bits_Reader_Get_2, bits_Reader_Marker_2, bits_Writer_Put_2, bits_Writer_Count_2, bits_Writer_Bytes_2, bits_Reader_Skip_2, bits_Reader_At_2]
  repeat rw [some_bind]
  rw [awake_eq, some_bind]
end Go.Proofs.Ytpfnjmaadghhoaa
