import Derived.Test.YtpfnjmaadghhoaaN7
/-! Plain: bits and bytes. -/
namespace Go.Proofs.Ytpfnjmaadghhoaa
open Go Go.RowKit K

theorem snoc_ind {α : Type} {p : List α → Prop} (h0 : p []) (h1 : ∀ l a, p l → p (l ++ [a])) (l : List α) : p l := by
  rw [← List.reverse_reverse l]
  induction l.reverse with
  | nil => exact h0
  | cons a t ih => rw [List.reverse_cons]; exact h1 _ _ ih
def IsBit (x : Int) : Prop := x = 0 ∨ x = 1
def Bits (l : List Int) : Prop := ∀ x ∈ l, IsBit x
/-- The number of some bits. -/
def num (l : List Int) : Int := l.foldl (fun n b => 2 * n + b) 0
/-- The bits of a number, so many, the highest first. -/
def dig : Int → Nat → List Int
  | _, 0 => []
  | v, n + 1 => dig (v / 2) n ++ [v % 2]
def byteOf (n : Int) : List Int := if n = 255 then [255, 0] else [n]
/-- Whole bytes of bits, each 255 with a 0 behind it. -/
def enc : List Int → List Int
  | a :: b :: c :: d :: e :: f :: g :: h :: r => byteOf (num [a, b, c, d, e, f, g, h]) ++ enc r
  | _ => []

theorem Bits.nil : Bits [] := fun _ h => by simp at h
theorem Bits.append {a b : List Int} (h : Bits a) (h' : Bits b) : Bits (a ++ b) := fun x hx => (List.mem_append.1 hx).elim (h x) (h' x)
theorem Bits.left {a b : List Int} (h : Bits (a ++ b)) : Bits a := fun x hx => h x (List.mem_append_left _ hx)
theorem Bits.right {a b : List Int} (h : Bits (a ++ b)) : Bits b := fun x hx => h x (List.mem_append_right _ hx)
theorem Bits.one {x : Int} (h : IsBit x) : Bits [x] := fun y hy => by simp at hy; subst hy; exact h
theorem Bits.drop {l : List Int} (h : Bits l) (n : Nat) : Bits (l.drop n) := fun x hx => h x (List.mem_of_mem_drop hx)
theorem Bits.take {l : List Int} (h : Bits l) (n : Nat) : Bits (l.take n) := fun x hx => h x (List.mem_of_mem_take hx)
theorem Bits.rep (n : Nat) : Bits (List.replicate n 1) := fun x hx => .inr (List.mem_replicate.1 hx).2
theorem num_nil : num [] = 0 := rfl
theorem num_append (l : List Int) (b : Int) : num (l ++ [b]) = 2 * num l + b := by simp [num]
theorem num_bd : ∀ (l : List Int), Bits l → 0 ≤ num l ∧ num l < 2 ^ l.length := by
  refine snoc_ind (fun _ => by simp [num]) (fun l b ih => ?_)
  · intro h
    have h1 := ih h.left
    have hb : IsBit b := h b (by simp)
    rw [num_append, List.length_append, List.length_singleton, Int.pow_succ]
    rcases hb with rfl | rfl <;> omega
theorem dig_len : ∀ (n : Nat) (v : Int), (dig v n).length = n
  | 0, _ => rfl
  | n + 1, v => by simp [dig, dig_len n]
theorem dig_bits : ∀ (n : Nat) (v : Int), Bits (dig v n)
  | 0, _ => Bits.nil
  | n + 1, v => (dig_bits n _).append (Bits.one (by rcases Int.emod_two_eq v with h | h <;> simp [IsBit, h]))
theorem num_dig : ∀ (n : Nat) (v : Int), 0 ≤ v → v < 2 ^ n → num (dig v n) = v
  | 0, v, h0, h1 => by simp at h1; simp [dig, num]; omega
  | n + 1, v, h0, h1 => by
    rw [Int.pow_succ] at h1
    rw [dig, num_append, num_dig n (v / 2) (by omega) (by omega)]
    omega
theorem dig_num : ∀ (l : List Int), Bits l → dig (num l) l.length = l := by
  refine snoc_ind (fun _ => rfl) (fun l b ih => ?_)
  · intro h
    have hb : IsBit b := h b (by simp)
    rw [num_append, List.length_append, List.length_singleton, dig]
    have e1 : (2 * num l + b) / 2 = num l := by rcases hb with rfl | rfl <;> omega
    have e2 : (2 * num l + b) % 2 = b := by rcases hb with rfl | rfl <;> omega
    rw [e1, e2, ih h.left]
theorem dig_cons : ∀ (n : Nat) (v : Int), dig v (n + 1) = (v / 2 ^ n % 2) :: dig v n
  | 0, v => by simp [dig]
  | n + 1, v => by
    rw [dig, dig_cons n (v / 2)]
    have e : v / 2 / 2 ^ n = v / 2 ^ (n + 1) := by rw [Int.pow_succ, Int.mul_comm, Int.ediv_ediv_of_nonneg (by omega)]
    rw [e]
    rfl
theorem dig_bit (n : Nat) (v : Int) : IsBit (v / 2 ^ n % 2) := by rcases Int.emod_two_eq (v / 2 ^ n) with h | h <;> simp [IsBit, h]

theorem pow2_le {a b : Nat} (h : a ≤ b) : (2 : Int) ^ a ≤ 2 ^ b := by
  have := Nat.pow_le_pow_right (n := 2) (by omega) h
  have e : ∀ n : Nat, (2 : Int) ^ n = ((2 ^ n : Nat) : Int) := fun n => by rw [Int.natCast_pow]; rfl
  rw [e, e]; omega

/-! ### words of numbers -/
theorem u8_id {x : Int} (h : 0 ≤ x) (h' : x < 256) : IntKind.u8.wrap x = x := by
  have : IntKind.u8.wrap x = x % 256 := by simp [IntKind.wrap, IntKind.bits, IntKind.signed]
  rw [this]; omega
theorem shl_one {x : Int} (h : 0 ≤ x) (h' : x < 4611686018427387904) : shlI .i64 x 1 = 2 * x := by
  have e : shlI .i64 x 1 = w64 (x * 2) := by
    show IntKind.i64.wrap (x * 2 ^ (min (Int.toNat 1) 64)) = _
    rfl
  rw [e, w64_id (by omega) (by omega)]; omega
theorem ofInt_nat {x : Int} (h : 0 ≤ x) (h' : x < 18446744073709551616) : (BitVec.ofInt 64 x).toNat = x.toNat := by
  rw [BitVec.toNat_ofInt]
  congr 1
  exact Int.emod_eq_of_lt h (by simpa using h')
theorem or_bit {p b : Int} (h : 0 ≤ p) (h' : p < 2305843009213693952) (hb : IsBit b) : bitI .or .i64 (shlI .i64 p 1) b = 2 * p + b := by
  rw [shl_one h (by omega)]
  show IntKind.i64.wrap ((BitVec.ofInt 64 (2 * p) ||| BitVec.ofInt 64 b).toNat : Nat) = _
  have hb' : 0 ≤ b ∧ b < 2 := by rcases hb with rfl | rfl <;> omega
  rw [BitVec.toNat_or, ofInt_nat (by omega) (by omega), ofInt_nat (by omega) (by omega)]
  have e : (2 * p).toNat = 2 ^ 1 * p.toNat := by omega
  rw [e, ← Nat.two_pow_add_eq_or_of_lt (by omega)]
  show w64 _ = _
  rw [w64_id (by omega) (by omega)]
  omega
theorem shr_nat {v i : Int} (hi : 0 ≤ i) (hi' : i ≤ 63) : shrI .i64 v i = v / 2 ^ i.toNat := by
  unfold shrI
  have e : min i.toNat IntKind.i64.bits = i.toNat := by show min i.toNat 64 = _; omega
  rw [e, Int.fdiv_eq_ediv_of_nonneg _ (by exact Int.le_of_lt (Int.pow_pos (by omega)))]
theorem and_bit {x : Int} (h : 0 ≤ x) (h' : x ≤ 9223372036854775807) : bitI .and .i64 x 1 = x % 2 := by
  show IntKind.i64.wrap ((BitVec.ofInt 64 x &&& BitVec.ofInt 64 1).toNat : Nat) = _
  rw [BitVec.toNat_and, ofInt_nat h (by omega), ofInt_nat (by omega) (by omega)]
  show w64 ((x.toNat &&& 1 : Nat) : Int) = _
  rw [Nat.and_one_is_mod, w64_id (by omega) (by omega)]
  omega
theorem bit_at {v i : Int} (hv : 0 ≤ v) (hv' : v ≤ 9223372036854775807) (hi : 0 ≤ i) (hi' : i ≤ 63) : bitI .and .i64 (shrI .i64 v i) 1 = v / 2 ^ i.toNat % 2 := by
  rw [shr_nat hi hi']
  have h1 : 0 ≤ v / 2 ^ i.toNat := Int.ediv_nonneg hv (Int.le_of_lt (Int.pow_pos (by omega)))
  have h2 : v / 2 ^ i.toNat ≤ v := Int.ediv_le_self _ hv
  exact and_bit h1 (by omega)

/-! ### bytes -/
theorem enc_nil : enc [] = [] := rfl
theorem list8 {c : List Int} (h : c.length = 8) : ∃ a b d e f g i j, c = [a, b, d, e, f, g, i, j] := by
  match c, h with
  | [a, b, d, e, f, g, i, j], _ => exact ⟨_, _, _, _, _, _, _, _, rfl⟩
theorem enc_cons {c : List Int} (h : c.length = 8) (r : List Int) : enc (c ++ r) = byteOf (num c) ++ enc r := by
  obtain ⟨a, b, d, e, f, g, i, j, rfl⟩ := list8 h
  rfl
theorem enc_eight {c : List Int} (h : c.length = 8) : enc c = byteOf (num c) := by
  have := enc_cons h []
  rwa [List.append_nil, enc_nil, List.append_nil] at this
theorem split8 {m : List Int} (h : m.length % 8 = 0) (h0 : m ≠ []) : ∃ c r, m = c ++ r ∧ c.length = 8 ∧ r.length % 8 = 0 ∧ r.length < m.length := by
  have hl : 0 < m.length := List.length_pos_iff.2 h0
  exact ⟨m.take 8, m.drop 8, (List.take_append_drop 8 m).symm, by rw [List.length_take]; omega, by rw [List.length_drop]; omega, by rw [List.length_drop]; omega⟩
theorem enc_append : ∀ (n : Nat) (m : List Int), m.length ≤ n → m.length % 8 = 0 → ∀ r, enc (m ++ r) = enc m ++ enc r
  | 0, m, hn, _, r => by
    obtain rfl : m = [] := List.eq_nil_of_length_eq_zero (by omega)
    simp [enc_nil]
  | n + 1, m, hn, h, r => by
    by_cases h0 : m = []
    · subst h0; simp [enc_nil]
    · obtain ⟨c, q, rfl, hc, hq, hlt⟩ := split8 h h0
      rw [List.append_assoc, enc_cons hc, enc_cons hc, enc_append n q (by omega) hq, List.append_assoc]
theorem enc_snoc {m c : List Int} (h : m.length % 8 = 0) (hc : c.length = 8) : enc (m ++ c) = enc m ++ byteOf (num c) := by
  rw [enc_append _ m (Nat.le_refl _) h, enc_eight hc]
theorem byteOf_len (n : Int) : (byteOf n).length ≤ 2 := by unfold byteOf; split <;> simp
theorem enc_len : ∀ (n : Nat) (m : List Int), m.length ≤ n → m.length % 8 = 0 → (enc m).length ≤ m.length
  | 0, m, hn, _ => by
    obtain rfl : m = [] := List.eq_nil_of_length_eq_zero (by omega)
    simp [enc_nil]
  | n + 1, m, hn, h => by
    by_cases h0 : m = []
    · subst h0; simp [enc_nil]
    · obtain ⟨c, q, rfl, hc, hq, hlt⟩ := split8 h h0
      have := enc_len n q (by omega) hq
      have := byteOf_len (num c)
      rw [enc_cons hc, List.length_append, List.length_append]; omega
theorem byteOf_byt {c : List Int} (h : Bits c) (hc : c.length = 8) : ∀ x ∈ byteOf (num c), Byt x := by
  have := num_bd c h
  rw [hc] at this
  intro x hx
  unfold byteOf at hx
  split at hx
  · simp at hx; rcases hx with rfl | rfl <;> simp [Byt]
  · simp at hx; subst hx; unfold Byt; omega
theorem enc_byt : ∀ (n : Nat) (m : List Int), m.length ≤ n → m.length % 8 = 0 → Bits m → ∀ x ∈ enc m, Byt x
  | 0, m, hn, _, _ => by
    obtain rfl : m = [] := List.eq_nil_of_length_eq_zero (by omega)
    simp [enc_nil]
  | n + 1, m, hn, h, hb => by
    by_cases h0 : m = []
    · subst h0; simp [enc_nil]
    · obtain ⟨c, q, rfl, hc, hq, hlt⟩ := split8 h h0
      rw [enc_cons hc]
      intro x hx
      rcases List.mem_append.1 hx with hx | hx
      · exact byteOf_byt hb.left hc x hx
      · exact enc_byt n q (by omega) hq hb.right x hx
/-- .. made whole by set bits. -/
def pad (l : List Int) : List Int := l ++ List.replicate ((8 - l.length % 8) % 8) 1
theorem pad_len (l : List Int) : (pad l).length % 8 = 0 := by simp [pad]; omega
theorem pad_bits {l : List Int} (h : Bits l) : Bits (pad l) := h.append (Bits.rep _)
theorem pad_whole {l : List Int} (h : l.length % 8 = 0) : pad l = l := by simp [pad, h]
theorem pad_step {l : List Int} (h : ¬ l.length % 8 = 0) : pad (l ++ [1]) = pad l := by
  unfold pad
  rw [List.append_assoc, List.length_append, List.length_singleton]
  congr 1
  rw [show (8 - l.length % 8) % 8 = (8 - (l.length + 1) % 8) % 8 + 1 by omega, List.replicate_succ]
  rfl
end Go.Proofs.Ytpfnjmaadghhoaa
