import Derived.Test.YtpfnjmaadghhoaaBA
import Derived.Test.YtpfnjmaadghhoaaGbitsWriterPut
import Derived.Test.YtpfnjmaadghhoaaGbitsWriterBytes
import Derived.Test.YtpfnjmaadghhoaaGref04Put
import Derived.Test.YtpfnjmaadghhoaaGref04Bytes
/-! Plain: what is put, and its bytes. -/
namespace Go.Proofs.Ytpfnjmaadghhoaa
open Go Go.RowKit K

theorem some_bind {α β : Type} (a : α) (f : α → Option β) : (some a).bind f = f a := id rfl
/-- A writer's bytes, part and count stand for some bits. -/
def WI (b : List Int) (part count : Int) (l : List Int) : Prop :=
  ∃ m r, l = m ++ r ∧ m.length % 8 = 0 ∧ r.length < 8 ∧ b = enc m ∧ part = num r ∧ count = (r.length : Int) ∧ Bits l
theorem WI.nil : WI [] 0 0 [] := ⟨[], [], rfl, rfl, by simp, rfl, rfl, rfl, Bits.nil⟩
theorem WI.bits {b l : List Int} {p c : Int} (h : WI b p c l) : Bits l := by obtain ⟨_, _, _, _, _, _, _, _, h⟩ := h; exact h
theorem WI.len {b l : List Int} {p c : Int} (h : WI b p c l) : b.length ≤ l.length := by
  obtain ⟨m, r, rfl, hm, _, rfl, _, _, _⟩ := h
  have := enc_len _ m (Nat.le_refl _) hm
  rw [List.length_append]; omega
theorem WI.count {b l : List Int} {p c : Int} (h : WI b p c l) : c = ((l.length % 8 : Nat) : Int) := by
  obtain ⟨m, r, rfl, hm, hr, _, _, rfl, _⟩ := h
  rw [List.length_append]; omega
theorem WI.enc {b l : List Int} {p c : Int} (h : WI b p c l) (h0 : c = 0) : b = enc l := by
  obtain ⟨m, r, rfl, hm, hr, rfl, _, rfl, _⟩ := h
  obtain rfl : r = [] := List.eq_nil_of_length_eq_zero (by omega)
  rw [List.append_nil]

theorem flush_eq (K : Nat) (b : List Int) (p c a : Int) (h0 : 0 ≤ p) (h1 : p < 256) (hl : b.length ≤ 1000000) : bits_tail_flush K b p c a = some (b ++ byteOf p) := by
  unfold bits_tail_flush bits_tail_flush_j1
  rw [u8_id h0 h1, if_pos (by simp; omega)]
  unfold byteOf
  split
  · rename_i h; subst h
    rw [if_pos (by simp; omega), List.append_assoc]; rfl
  · rfl
theorem flush2_eq (K : Nat) (b : List Int) (p c : Int) (h0 : 0 ≤ p) (h1 : p < 256) (hl : b.length ≤ 1000000) : bits_tail_flush_2 K b p c = some (b ++ byteOf p) := by
  unfold bits_tail_flush_2 bits_tail_flush_2_j1
  rw [u8_id h0 h1, if_pos (by simp; omega)]
  unfold byteOf
  split
  · rename_i h; subst h
    rw [if_pos (by simp; omega), List.append_assoc]; rfl
  · rfl
/-- One bit more. -/
theorem WI.push {b l : List Int} {p c x : Int} (h : WI b p c l) (hx : IsBit x) :
    (w64 (c + 1) = 8 ∧ 0 ≤ 2 * p + x ∧ 2 * p + x < 256 ∧ WI (b ++ byteOf (2 * p + x)) 0 0 (l ++ [x])) ∨ (¬ w64 (c + 1) = 8 ∧ WI b (2 * p + x) (w64 (c + 1)) (l ++ [x])) := by
  obtain ⟨m, r, rfl, hm, hr, rfl, rfl, rfl, hb⟩ := h
  rw [w64_id (by omega) (by omega)]
  have hrb : Bits (r ++ [x]) := hb.right.append (Bits.one hx)
  have hn := num_bd (r ++ [x]) hrb
  rw [num_append] at hn
  by_cases h8 : (r.length : Int) + 1 = 8
  · left
    have hl8 : (r ++ [x]).length = 8 := by rw [List.length_append, List.length_singleton]; omega
    rw [hl8] at hn
    refine ⟨h8, hn.1, by omega, m ++ (r ++ [x]), [], by simp, by rw [List.length_append, hl8]; omega, by simp, ?_, rfl, rfl, by rw [List.append_assoc]; exact hb.left.append hrb⟩
    rw [enc_snoc hm hl8, num_append]
  · right
    refine ⟨h8, m, r ++ [x], by simp, hm, by rw [List.length_append, List.length_singleton]; omega, rfl, (num_append _ _).symm, by simp, by rw [List.append_assoc]; exact hb.left.append hrb⟩
theorem WI.part {b l : List Int} {p c : Int} (h : WI b p c l) : 0 ≤ p ∧ p < 256 := by
  obtain ⟨m, r, rfl, hm, hr, rfl, rfl, rfl, hb⟩ := h
  have := num_bd r hb.right
  have h2 : (2 : Int) ^ r.length ≤ 2 ^ 8 := pow2_le (by omega)
  omega
theorem push_eq (K : Nat) {b l : List Int} {p c x : Int} (a : Int) (h : WI b p c l) (hx : IsBit x) (hl : l.length ≤ 1000000) :
    ∃ p' c' b', bits_tail_push K b p c a x = some (p', c', b') ∧ WI b' p' c' (l ++ [x]) := by
  unfold bits_tail_push
  have hp := h.part
  rw [or_bit hp.1 (by omega) hx]
  rcases h.push hx with ⟨h8, h0, h1, hw⟩ | ⟨h8, hw⟩
  · rw [if_pos h8, flush_eq K b _ _ _ h0 h1 (by have := h.len; omega), some_bind]
    exact ⟨_, _, _, rfl, hw⟩
  · rw [if_neg h8]
    exact ⟨_, _, _, rfl, hw⟩
theorem push2_eq (K : Nat) {b l : List Int} {p c x : Int} (h : WI b p c l) (hx : IsBit x) (hl : l.length ≤ 1000000) :
    ∃ p' c' b', bits_tail_push_2 K b p c x = some (p', c', b') ∧ WI b' p' c' (l ++ [x]) := by
  unfold bits_tail_push_2
  have hp := h.part
  rw [or_bit hp.1 (by omega) hx]
  rcases h.push hx with ⟨h8, h0, h1, hw⟩ | ⟨h8, hw⟩
  · rw [if_pos h8, flush2_eq K b _ _ h0 h1 (by have := h.len; omega), some_bind]
    exact ⟨_, _, _, rfl, hw⟩
  · rw [if_neg h8]
    exact ⟨_, _, _, rfl, hw⟩

/-! ### Put -/
theorem put_loop (K : Nat) (a v n : Int) (hv : 0 ≤ v) (hv' : v ≤ 9223372036854775807) : ∀ (i k : Nat) (b l : List Int) (p c : Int), i ≤ 24 → i < k → WI b p c l → l.length + i ≤ 1000000 →
    ∃ b' p' c', bits_Writer_Put_l1 K a v n k b p c (((i : Int)) - 1) = some (0, p', c', w64 (a + n), b') ∧ WI b' p' c' (l ++ dig v i) := by
  intro i
  induction i with
  | zero =>
    intro k b l p c _ hk h _
    obtain ⟨k, rfl⟩ : ∃ m, k = m + 1 := ⟨k - 1, by omega⟩
    refine ⟨b, p, c, ?_, by simpa [dig] using h⟩
    simp only [bits_Writer_Put_l1]
    rw [if_neg (by omega)]
    rfl
  | succ i ih =>
    intro k b l p c hi hk h hl
    obtain ⟨k, rfl⟩ : ∃ m, k = m + 1 := ⟨k - 1, by omega⟩
    simp only [bits_Writer_Put_l1]
    have e : ((i + 1 : Nat) : Int) - 1 = (i : Int) := by omega
    rw [e, if_pos (by omega), if_pos (by omega), bit_at hv hv' (by omega) (by omega)]
    simp only [Int.toNat_natCast]
    obtain ⟨p', c', b', hp, hw⟩ := push_eq K a h (dig_bit i v) (by omega)
    rw [hp, some_bind]
    simp only
    rw [w64_id (by omega) (by omega)]
    obtain ⟨b2, p2, c2, h2, hw2⟩ := ih k b' _ p' c' (by omega) (by omega) hw (by simp; omega)
    refine ⟨b2, p2, c2, h2, ?_⟩
    rw [List.append_assoc, List.singleton_append, ← dig_cons] at hw2
    exact hw2
/-- May so many bits of a number be put? -/
def Fits (v n : Int) : Prop := 0 ≤ n ∧ n ≤ 24 ∧ 0 ≤ v ∧ v < 2 ^ n.toNat
theorem shl_pow {n : Int} (h0 : 0 ≤ n) (h1 : n ≤ 24) : shlI .i64 1 n = 2 ^ n.toNat := by
  have e : min n.toNat IntKind.i64.bits = n.toNat := by show min n.toNat 64 = _; omega
  unfold shlI
  rw [e, Int.one_mul]
  have : (2 : Int) ^ n.toNat ≤ 2 ^ 24 := pow2_le (by omega)
  have h2 : (0 : Int) < 2 ^ n.toNat := Int.pow_pos (by omega)
  exact w64_id (by omega) (by omega)
theorem put_ok (K : Nat) {b l : List Int} {p c a v n : Int} (hK : 24 < K) (hf : Fits v n) (h : WI b p c l) (hl : l.length ≤ 900000) :
    ∃ b' p' c', bits_Writer_Put K b p c a v n = some (0, p', c', w64 (a + n), b') ∧ WI b' p' c' (l ++ dig v n.toNat) := by
  obtain ⟨h0, h1, h2, h3⟩ := hf
  have hp : (2 : Int) ^ n.toNat ≤ 2 ^ 24 := pow2_le (by omega)
  unfold bits_Writer_Put
  rw [if_neg (by omega), if_neg (by omega), if_neg (by omega), if_pos h0, shl_pow h0 h1, if_neg (by omega), w64_id (by omega) (by omega)]
  obtain ⟨b', p', c', h4, h5⟩ := put_loop K a v n h2 (by omega) n.toNat K b l p c (by omega) (by omega) h (by omega)
  rw [Int.toNat_of_nonneg h0] at h4
  exact ⟨b', p', c', h4, h5⟩
theorem put_no (K : Nat) {b : List Int} {p c a v n : Int} (hf : ¬ Fits v n) : bits_Writer_Put K b p c a v n = some (2, p, c, a, b) := by
  unfold bits_Writer_Put
  by_cases h0 : n < 0
  · rw [if_pos h0]
  · rw [if_neg h0]
    by_cases h1 : 24 < n
    · rw [if_pos h1]
    · rw [if_neg h1]
      by_cases h2 : v < 0
      · rw [if_pos h2]
      · rw [if_neg h2, if_pos (by omega), shl_pow (by omega) (by omega), if_pos]
        rcases Int.lt_or_le v (2 ^ n.toNat) with h | h
        · exact absurd ⟨by omega, by omega, by omega, h⟩ hf
        · exact h

/-! ### Bytes -/
theorem bytes_loop (K : Nat) : ∀ (d k : Nat) (b l : List Int) (p c : Int), (8 - l.length % 8) % 8 = d → d < k → WI b p c l → l.length + d ≤ 1000000 →
    bits_Writer_Bytes_l1 K k b p c = some (enc (pad l)) := by
  intro d
  induction d with
  | zero =>
    intro k b l p c hd hk h _
    obtain ⟨k, rfl⟩ : ∃ m, k = m + 1 := ⟨k - 1, by omega⟩
    have hc := h.count
    simp only [bits_Writer_Bytes_l1]
    rw [if_neg (by omega)]
    unfold bits_Writer_Bytes_j1
    rw [pad_whole (by omega), h.enc (by omega)]
  | succ d ih =>
    intro k b l p c hd hk h hl
    obtain ⟨k, rfl⟩ : ∃ m, k = m + 1 := ⟨k - 1, by omega⟩
    have hc := h.count
    simp only [bits_Writer_Bytes_l1]
    rw [if_pos (by omega)]
    obtain ⟨p', c', b', hp, hw⟩ := push2_eq K h (.inr rfl) (by omega)
    rw [hp, some_bind]
    simp only
    rw [ih k b' (l ++ [1]) p' c' (by rw [List.length_append, List.length_singleton]; omega) (by omega) hw (by rw [List.length_append, List.length_singleton]; omega), pad_step (by omega)]
theorem bytes_eq (K : Nat) {b l : List Int} {p c : Int} (a : Int) (hK : 8 < K) (h : WI b p c l) (hl : l.length ≤ 900000) : bits_Writer_Bytes K b p c a = some (enc (pad l)) := by
  unfold bits_Writer_Bytes
  have := h.len
  rw [if_pos (by simp; omega), List.nil_append]
  exact bytes_loop K _ K b l p c rfl (by omega) h (by omega)

/-! ### the reference -/
theorem power_loop (K : Nat) (n : Nat) (hn : n ≤ 60) : ∀ (d k i : Nat), i + d = n → d < k → ref04_Power_l1 K n k (2 ^ i) i = some (2 ^ n) := by
  intro d
  induction d with
  | zero =>
    intro k i hi hk
    obtain ⟨k, rfl⟩ : ∃ m, k = m + 1 := ⟨k - 1, by omega⟩
    obtain rfl : i = n := by omega
    simp only [ref04_Power_l1]
    rw [if_neg (by omega)]; rfl
  | succ d ih =>
    intro k i hi hk
    obtain ⟨k, rfl⟩ : ∃ m, k = m + 1 := ⟨k - 1, by omega⟩
    simp only [ref04_Power_l1]
    have h1 : (2 : Int) ^ i ≤ 2 ^ 60 := pow2_le (by omega)
    have h2 : (0 : Int) < 2 ^ i := Int.pow_pos (by omega)
    rw [if_pos (by omega), w64_id (by omega) (by omega), w64_id (by omega) (by omega), ← Int.pow_succ]
    exact ih k (i + 1) (by omega) (by omega)
theorem power_eq (K : Nat) {n : Int} (h0 : 0 ≤ n) (h1 : n ≤ 60) (hK : 60 < K) : ref04_Power K n = some (2 ^ n.toNat) := by
  have := power_loop K n.toNat (by omega) n.toNat K 0 (by omega) (by omega)
  rw [Int.toNat_of_nonneg h0] at this
  exact this
theorem digits_loop (K : Nat) (n : Nat) (hn : n ≤ 60) : ∀ (d k i : Nat) (v : Int) (l : List Int), i + d = n → d < k → 0 ≤ v → v ≤ 9223372036854775807 → l.length = i → ref04_Digits_l1 K n k v l i = some (dig v d ++ l) := by
  intro d
  induction d with
  | zero =>
    intro k i v l hi hk _ _ _
    obtain ⟨k, rfl⟩ : ∃ m, k = m + 1 := ⟨k - 1, by omega⟩
    simp only [ref04_Digits_l1]
    rw [if_neg (by omega)]; rfl
  | succ d ih =>
    intro k i v l hi hk h0 h1 hl
    obtain ⟨k, rfl⟩ : ∃ m, k = m + 1 := ⟨k - 1, by omega⟩
    simp only [ref04_Digits_l1]
    have e1 : Int.tdiv v 2 = v / 2 := Int.tdiv_eq_ediv_of_nonneg h0
    have e2 : Int.tmod v 2 = v % 2 := Int.tmod_eq_emod_of_nonneg h0
    rw [if_pos (by omega), if_pos (by simp; omega), e1, e2, w64_id (by omega) (by omega), w64_id (by omega) (by omega)]
    have := ih k (i + 1) (v / 2) ([v % 2] ++ l) (by omega) (by omega) (by omega) (by omega) (by simp; omega)
    rw [show ((i + 1 : Nat) : Int) = (i : Int) + 1 by omega] at this
    rw [this, dig, List.append_assoc]
theorem digits_eq (K : Nat) {v n : Int} (h0 : 0 ≤ n) (h1 : n ≤ 60) (hK : 60 < K) (hv : 0 ≤ v) (hv' : v ≤ 9223372036854775807) : ref04_Digits K v n = some (dig v n.toNat) := by
  have := digits_loop K n.toNat (by omega) n.toNat K 0 v [] (by omega) (by omega) hv hv' rfl
  rw [Int.toNat_of_nonneg h0, List.append_nil] at this
  exact this
theorem rput_ok (K : Nat) {l : List Int} {v n : Int} (hK : 60 < K) (hf : Fits v n) (hl : l.length ≤ 900000) : ref04_Put K l v n = some (0, l ++ dig v n.toNat) := by
  obtain ⟨h0, h1, h2, h3⟩ := hf
  have hp : (2 : Int) ^ n.toNat ≤ 2 ^ 24 := pow2_le (by omega)
  unfold ref04_Put
  rw [if_neg (by omega), if_neg (by omega), if_neg (by omega), power_eq K h0 (by omega) hK, some_bind, if_neg (by omega), if_pos (by simp; omega), digits_eq K h0 (by omega) hK h2 (by omega), some_bind,
    if_pos (by simp [dig_len]; omega), List.nil_append]
theorem rput_no (K : Nat) {l : List Int} {v n : Int} (hK : 60 < K) (hf : ¬ Fits v n) : ref04_Put K l v n = some (2, l) := by
  unfold ref04_Put
  by_cases h0 : n < 0
  · rw [if_pos h0]
  · rw [if_neg h0]
    by_cases h1 : 24 < n
    · rw [if_pos h1]
    · rw [if_neg h1]
      by_cases h2 : v < 0
      · rw [if_pos h2]
      · rw [if_neg h2, power_eq K (by omega) (by omega) hK, some_bind, if_pos]
        rcases Int.lt_or_le v (2 ^ n.toNat) with h | h
        · exact absurd ⟨by omega, by omega, by omega, h⟩ hf
        · exact h
end Go.Proofs.Ytpfnjmaadghhoaa
