import Derived.Test.YtpfnjmaadghhoaaBB
import Derived.Test.YtpfnjmaadghhoaaGlaw04BitsPuts
import Derived.Test.YtpfnjmaadghhoaaGlaw04BitsOnes
/-! Plain: the document's bytes; what is put. -/
namespace Go.Proofs.Ytpfnjmaadghhoaa
open Go Go.RowKit K

theorem getD_mid {α : Type} (l r : List α) (x d : α) : (l ++ x :: r).getD l.length d = x := by simp [List.getD]
theorem getD_at {α : Type} {m c t : List α} {x d : α} {i : Int} (h : i = ((m.length + c.length : Nat) : Int)) : (m ++ (c ++ x :: t)).getD i.toNat d = x := by
  subst h
  rw [Int.toNat_natCast, ← List.append_assoc, ← List.length_append, getD_mid]
theorem rbytes_inner (K : Nat) (cb : List Int → Int → Option (List Int)) (e m r : List Int) (hm : m.length + r.length ≤ 1000000) :
    ∀ (c2 c1 : List Int) (k : Nat), (c1 ++ c2).length = 8 → Bits (c1 ++ c2) → c2.length < k →
    ref04_Bytes_l2 K cb (m ++ (c1 ++ c2 ++ r)) (m.length : Int) e k (num c1) (c1.length : Int) = ref04_Bytes_j3 K cb (m.length : Int) e (num (c1 ++ c2)) := by
  intro c2
  induction c2 with
  | nil =>
    intro c1 k hc hb hk
    obtain ⟨k, rfl⟩ : ∃ m, k = m + 1 := ⟨k - 1, by omega⟩
    rw [List.append_nil] at hc ⊢
    simp only [ref04_Bytes_l2]
    rw [if_neg (by omega)]
  | cons x c2 ih =>
    intro c1 k hc hb hk
    obtain ⟨k, rfl⟩ : ∃ m, k = m + 1 := ⟨k - 1, by omega⟩
    have hl : c1.length + (c2.length + 1) = 8 := by rw [← hc]; simp
    simp only [ref04_Bytes_l2]
    have hn := num_bd c1 hb.left
    have h8 : (2 : Int) ^ c1.length ≤ 2 ^ 8 := pow2_le (by omega)
    have hx : IsBit x := hb x (by simp)
    have hx' : 0 ≤ x ∧ x ≤ 1 := by rcases hx with rfl | rfl <;> omega
    rw [if_pos (by omega), w64_id (x := (m.length : Int) + _) (by omega) (by omega)]
    rw [if_pos ⟨by omega, by simp; omega⟩, List.append_assoc c1, List.cons_append, getD_at (by omega), w64_id (x := num c1 * 2) (by omega) (by omega),
      w64_id (x := num c1 * 2 + x) (by omega) (by omega), w64_id (x := (c1.length : Int) + 1) (by omega) (by omega)]
    have := ih (c1 ++ [x]) k (by rw [← hc]; simp) (by rw [List.append_assoc]; exact hb) (by simp at hk; omega)
    rw [num_append, List.length_append] at this
    simp only [List.append_assoc, List.singleton_append, List.length_singleton] at this ⊢
    rw [show num c1 * 2 + x = 2 * num c1 + x by omega]
    exact this
theorem rbytes_loop (K : Nat) (hK : 8 < K) : ∀ (n : Nat) (r m : List Int) (k : Nat), r.length ≤ n → n < k → m.length % 8 = 0 → r.length % 8 = 0 → Bits r → m.length + r.length ≤ 1000000 →
    ref04_Bytes_l1 K (m ++ r) k (enc m) (m.length : Int) = some (enc (m ++ r)) := by
  intro n
  induction n with
  | zero =>
    intro r m k hr hk hm h8 hb hl
    obtain ⟨k, rfl⟩ : ∃ m, k = m + 1 := ⟨k - 1, by omega⟩
    obtain rfl : r = [] := List.eq_nil_of_length_eq_zero (by omega)
    simp only [ref04_Bytes_l1]
    rw [if_neg (by simp), List.append_nil]; rfl
  | succ n ih =>
    intro r m k hr hk hm h8 hb hl
    obtain ⟨k, rfl⟩ : ∃ m, k = m + 1 := ⟨k - 1, by omega⟩
    simp only [ref04_Bytes_l1]
    by_cases h0 : r = []
    · subst h0
      rw [if_neg (by simp), List.append_nil]; rfl
    · obtain ⟨c, q, rfl, hc, hq, hlt⟩ := split8 h8 h0
      rw [List.length_append] at hl
      rw [if_pos (by simp; omega)]
      have e := rbytes_inner K (ref04_Bytes_l1 K (m ++ (c ++ q)) k) (enc m) m q (by omega) c [] K (by simpa using hc) (by simpa using hb.left) (by omega)
      simp only [List.nil_append, num_nil, List.length_nil] at e
      rw [show ((0 : Nat) : Int) = 0 from rfl] at e
      rw [e]
      have hn := num_bd c hb.left
      rw [hc] at hn
      have hle := enc_len _ m (Nat.le_refl _) hm
      unfold ref04_Bytes_j3
      rw [u8_id hn.1 (by omega)]
      have e2 := ih q (m ++ c) k (by omega) (by omega) (by simp; omega) hq hb.right (by simp; omega)
      rw [enc_snoc hm hc, List.length_append, hc, List.append_assoc] at e2
      rw [if_pos (by simp; omega)]
      unfold byteOf at e2
      split
      · rename_i h; rw [if_pos h] at e2
        rw [if_pos (by simp; omega), List.append_assoc]
        unfold ref04_Bytes_j2
        rw [w64_id (by omega) (by omega), h]
        exact e2
      · rename_i h; rw [if_neg h] at e2
        unfold ref04_Bytes_j2
        rw [w64_id (by omega) (by omega)]
        exact e2
theorem rpad_loop (K : Nat) (hK : 1000000 < K ∨ True) : ∀ (d k : Nat) (l : List Int), (8 - l.length % 8) % 8 = d → d < k → l.length + d ≤ 1000000 →
    ref04_Bytes_l3 K k l = ref04_Bytes_j4 K (pad l) := by
  intro d
  induction d with
  | zero =>
    intro k l hd hk hl
    obtain ⟨k, rfl⟩ : ∃ m, k = m + 1 := ⟨k - 1, by omega⟩
    simp only [ref04_Bytes_l3]
    have e2 : Int.tmod (l.length : Int) 8 = (l.length : Int) % 8 := Int.tmod_eq_emod_of_nonneg (by omega)
    rw [e2, if_neg (by omega), pad_whole (by omega)]
  | succ d ih =>
    intro k l hd hk hl
    obtain ⟨k, rfl⟩ : ∃ m, k = m + 1 := ⟨k - 1, by omega⟩
    simp only [ref04_Bytes_l3]
    have e2 : Int.tmod (l.length : Int) 8 = (l.length : Int) % 8 := Int.tmod_eq_emod_of_nonneg (by omega)
    rw [e2, if_pos (by omega), if_pos (by simp; omega), ih k (l ++ [1]) (by rw [List.length_append, List.length_singleton]; omega) (by omega) (by rw [List.length_append, List.length_singleton]; omega), pad_step (by omega)]
theorem rbytes_eq (K : Nat) {l : List Int} (hb : Bits l) (hK : l.length + 8 < K) (hl : l.length ≤ 900000) : ref04_Bytes K l = some (enc (pad l)) := by
  unfold ref04_Bytes
  rw [if_pos (by simp; omega), List.nil_append, rpad_loop K (.inr trivial) _ K l rfl (by omega) (by omega)]
  have hp : (pad l).length ≤ l.length + 7 := by simp [pad]; omega
  exact rbytes_loop K (by omega) (pad l).length (pad l) [] K (Nat.le_refl _) (by omega) rfl (pad_len l) (pad_bits hb) (by simp; omega)

/-! ### BitsPuts -/
theorem awake_eq : law04_awake 100000 = some true := by decide +kernel
theorem puts_loop (a0 : List (Int × Int)) (h60 : a0.length ≤ 60) : ∀ (d k i : Nat) (b l : List Int) (p c : Int), i + d = a0.length → d < k → WI b p c l → l.length ≤ 24 * i →
    law04_BitsPuts_l1 100000 a0 k b p c (l.length : Int) l (i : Int) = some true := by
  intro d
  induction d with
  | zero =>
    intro k i b l p c hi hk h hl
    obtain ⟨k, rfl⟩ : ∃ m, k = m + 1 := ⟨k - 1, by omega⟩
    simp only [law04_BitsPuts_l1]
    rw [if_neg (by omega)]
    unfold law04_BitsPuts_j1
    rw [awake_eq, some_bind]
  | succ d ih =>
    intro k i b l p c hi hk h hl
    obtain ⟨k, rfl⟩ : ∃ m, k = m + 1 := ⟨k - 1, by omega⟩
    simp only [law04_BitsPuts_l1]
    rw [if_pos (by omega), if_pos (by omega)]
    generalize a0.getD ((i : Int).toNat) (0, 0) = q
    have hs : ∀ (b' l' : List Int) (p' c' : Int), WI b' p' c' l' → l'.length ≤ 24 * (i + 1) →
        (bits_Writer_Count 100000 b' p' c' (l'.length : Int)).bind (fun r46 => (if ¬ (l'.length : Int) = (l'.length : Int) then some false else ((bits_Writer_Bytes 100000 b' p' c' (l'.length : Int)).bind fun r57 => ((ref04_Bytes 100000 l').bind fun r58 => (if ¬ (bs r57).toList = (bs r58).toList then some false else (law04_BitsPuts_l1 100000 a0 k) b' p' c' (l'.length : Int) l' (w64 ((i : Int) + 1))))))) = some true := by
      intro b' l' p' c' hw hl'
      rw [bytes_eq 100000 _ (by omega) hw (by omega), rbytes_eq 100000 hw.bits (by omega) (by omega)]
      rw [w64_id (by omega) (by omega)]
      simp only [bits_Writer_Count, some_bind, not_true, if_false]
      exact ih k (i + 1) b' l' p' c' (by omega) (by omega) hw hl'
    by_cases hf : Fits q.1 q.2
    · have hf' := hf
      obtain ⟨h0, h1, _, _⟩ := hf'
      rw [rput_ok 100000 (by omega) hf (by omega), some_bind]
      obtain ⟨b', p', c', hp, hw⟩ := put_ok 100000 (a := (l.length : Int)) (by omega) hf h (by omega)
      rw [hp, some_bind]
      simp only [not_true, if_false]
      have e : w64 ((l.length : Int) + q.2) = ((l ++ dig q.1 q.2.toNat).length : Int) := by
        rw [w64_id (by omega) (by omega), List.length_append, dig_len]; omega
      rw [e]
      exact hs b' _ p' c' hw (by rw [List.length_append, dig_len]; omega)
    · rw [rput_no 100000 (by omega) hf, some_bind, put_no 100000 hf, some_bind]
      simp only [not_true, if_false]
      have := hs b l p c h (by omega)
      simp only [not_true, if_false] at this
      exact this
theorem bitsPuts_eq (a0 : List (Int × Int)) : law04_BitsPuts 100000 a0 = some true := by
  unfold law04_BitsPuts
  split
  · rw [awake_eq, some_bind]
  · simp only [bits_NewWriter, some_bind]
    have := puts_loop a0 (by omega) a0.length 100000 0 [] [] 0 0 (by omega) (by omega) WI.nil (by simp)
    simp only [List.length_nil, Int.natCast_zero] at this
    exact this

/-! ### BitsOnes -/
theorem fits_one {x : Int} (h : IsBit x) : Fits x 1 := by rcases h with rfl | rfl <;> simp [Fits]
theorem dig_one {x : Int} (h : IsBit x) : dig x (Int.toNat 1) = [x] := by rcases h with rfl | rfl <;> rfl
theorem ones_inner (cb : List Int → Int → Int → Int → List Int → Int → Int → Int → Int → Option Bool) (a0 : List (Int × Int)) (x : Int) (r : Int × Int × Int × Int × List Int) (v : Int) (hv : (a0.getD x.toNat (0, 0)).1 = v) (hv0 : 0 ≤ v) (hv1 : v ≤ 9223372036854775807) :
    ∀ (i k : Nat) (b l : List Int) (p c a : Int), i ≤ 24 → i < k → WI b p c l → l.length + i ≤ 900000 → a = (l.length : Int) →
    ∃ b' p' c', law04_BitsOnes_l2 100000 cb a0 x r k b p c a ((i : Int) - 1) = law04_BitsOnes_j2 100000 cb x r.2.2.2.2 r.2.1 r.2.2.1 r.2.2.2.1 b' p' c' ((l ++ dig v i).length : Int) ∧ WI b' p' c' (l ++ dig v i) := by
  intro i
  induction i with
  | zero =>
    intro k b l p c a _ hk h _ ha
    obtain ⟨k, rfl⟩ : ∃ m, k = m + 1 := ⟨k - 1, by omega⟩
    refine ⟨b, p, c, ?_, by simpa [dig] using h⟩
    simp only [law04_BitsOnes_l2]
    rw [if_neg (by omega), ha]
    simp [dig]
  | succ i ih =>
    intro k b l p c a hi hk h hl ha
    obtain ⟨k, rfl⟩ : ∃ m, k = m + 1 := ⟨k - 1, by omega⟩
    simp only [law04_BitsOnes_l2]
    have e : ((i + 1 : Nat) : Int) - 1 = (i : Int) := by omega
    rw [e, if_pos (by omega), if_pos (by omega), hv, bit_at hv0 hv1 (by omega) (by omega)]
    simp only [Int.toNat_natCast]
    obtain ⟨b', p', c', hp, hw⟩ := put_ok 100000 (a := a) (by omega) (fits_one (dig_bit i v)) h (by omega)
    rw [hp, some_bind]
    simp only [not_true, if_false]
    rw [dig_one (dig_bit i v)] at hw
    rw [w64_id (x := (i : Int) - 1) (by omega) (by omega), w64_id (by omega) (by omega)]
    obtain ⟨b2, p2, c2, h2, hw2⟩ := ih k b' _ p' c' (a + 1) (by omega) (by omega) hw (by simp; omega) (by simp; omega)
    refine ⟨b2, p2, c2, ?_, ?_⟩
    · rw [h2, List.append_assoc, List.singleton_append, ← dig_cons]
    · rw [List.append_assoc, List.singleton_append, ← dig_cons] at hw2
      exact hw2
theorem ones_loop (a0 : List (Int × Int)) (h60 : a0.length ≤ 60) : ∀ (d k i : Nat) (b b2 l : List Int) (p c p2 c2 : Int), i + d = a0.length → d < k → WI b p c l → WI b2 p2 c2 l → l.length ≤ 24 * i →
    law04_BitsOnes_l1 100000 a0 k b p c (l.length : Int) b2 p2 c2 (l.length : Int) (i : Int) = some true := by
  intro d
  induction d with
  | zero =>
    intro k i b b2 l p c p2 c2 hi hk h h2 hl
    obtain ⟨k, rfl⟩ : ∃ m, k = m + 1 := ⟨k - 1, by omega⟩
    simp only [law04_BitsOnes_l1]
    rw [if_neg (by omega)]
    unfold law04_BitsOnes_j1
    simp only [bits_Writer_Count, some_bind, if_true]
    rw [bytes_eq 100000 _ (by omega) h (by omega), bytes_eq 100000 _ (by omega) h2 (by omega), some_bind, some_bind, if_pos rfl, awake_eq, some_bind]
  | succ d ih =>
    intro k i b b2 l p c p2 c2 hi hk h h2 hl
    obtain ⟨k, rfl⟩ : ∃ m, k = m + 1 := ⟨k - 1, by omega⟩
    simp only [law04_BitsOnes_l1]
    rw [if_pos (by omega), if_pos (by omega)]
    generalize hq : a0.getD ((i : Int).toNat) (0, 0) = q
    by_cases hf : Fits q.1 q.2
    · have hf' := hf
      obtain ⟨h0, h1, h3, h4⟩ := hf'
      have hp2 : (2 : Int) ^ q.2.toNat ≤ 2 ^ 24 := pow2_le (by omega)
      obtain ⟨b', p', c', hp, hw⟩ := put_ok 100000 (a := (l.length : Int)) (by omega) hf h (by omega)
      rw [hp, some_bind]
      simp only [not_true, if_false]
      obtain ⟨b3, p3, c3, hp3, hw3⟩ := ones_inner (law04_BitsOnes_l1 100000 a0 k) a0 (i : Int) (0, p', c', w64 ((l.length : Int) + q.2), b') q.1 (by rw [hq]) h3 (by omega) q.2.toNat 100000 b2 l p2 c2 (l.length : Int) (by omega) (by omega) h2 (by omega) rfl
      rw [Int.toNat_of_nonneg h0] at hp3
      rw [w64_id (x := q.2 - 1) (by omega) (by omega), hp3]
      have e : w64 ((l.length : Int) + q.2) = ((l ++ dig q.1 q.2.toNat).length : Int) := by
        rw [w64_id (by omega) (by omega), List.length_append, dig_len]; omega
      simp only [law04_BitsOnes_j2]
      rw [e, w64_id (x := (i : Int) + 1) (by omega) (by omega)]
      exact ih k (i + 1) _ _ _ _ _ _ _ (by omega) (by omega) hw hw3 (by rw [List.length_append, dig_len]; omega)
    · rw [put_no 100000 hf, some_bind]
      simp only [law04_BitsOnes_j2]
      rw [if_pos (by omega), w64_id (x := (i : Int) + 1) (by omega) (by omega)]
      exact ih k (i + 1) _ _ _ _ _ _ _ (by omega) (by omega) h h2 (by omega)
theorem bitsOnes_eq (a0 : List (Int × Int)) : law04_BitsOnes 100000 a0 = some true := by
  unfold law04_BitsOnes
  split
  · rw [awake_eq, some_bind]
  · simp only [bits_NewWriter, some_bind]
    have := ones_loop a0 (by omega) a0.length 100000 0 [] [] [] 0 0 0 0 (by omega) (by omega) WI.nil WI.nil (by simp)
    simp only [List.length_nil, Int.natCast_zero] at this
    exact this
end Go.Proofs.Ytpfnjmaadghhoaa
