import Derived.Test.YtoepbakbpimkiaaBA
import Derived.Test.YtoepbakbpimkiaaGref04Digits
import Derived.Test.YtoepbakbpimkiaaGref04Power
/-! Plain: powers and digits of the document. -/
namespace Go.Proofs.Ytoepbakbpimkiaa
open Go Go.RowKit K

/-! ### the reference -/
theorem power_loop (K : Nat) (n : Nat) (hn : n ≤ 60) : ∀ (d k i : Nat), i + d = n → d < k → ref04_Power_l1 K n k (2 ^ i) i = some (2 ^ n) := by
  intro d
  induction d with
  | zero =>
    intro k i hi hk
    obtain ⟨k, rfl⟩ : ∃ m, k = m + 1 := ⟨k - 1, by omega⟩
    obtain rfl : i = n := by omega
    simp only [ref04_Power_l1]
    rw [if_neg (by omega)]; rfl
  | succ d ih =>
    intro k i hi hk
    obtain ⟨k, rfl⟩ : ∃ m, k = m + 1 := ⟨k - 1, by omega⟩
    simp only [ref04_Power_l1]
    have h1 : (2 : Int) ^ i ≤ 2 ^ 60 := pow2_le (by omega)
    have h2 : (0 : Int) < 2 ^ i := Int.pow_pos (by omega)
    rw [if_pos (by omega), w64_id (by omega) (by omega), w64_id (by omega) (by omega), ← Int.pow_succ]
    exact ih k (i + 1) (by omega) (by omega)
theorem power_eq (K : Nat) {n : Int} (h0 : 0 ≤ n) (h1 : n ≤ 60) (hK : 60 < K) : ref04_Power K n = some (2 ^ n.toNat) := by
  have := power_loop K n.toNat (by omega) n.toNat K 0 (by omega) (by omega)
  rw [Int.toNat_of_nonneg h0] at this
  exact this
theorem digits_loop (K : Nat) (n : Nat) (hn : n ≤ 60) : ∀ (d k i : Nat) (v : Int) (l : List Int), i + d = n → d < k → 0 ≤ v → v ≤ 9223372036854775807 → l.length = i → ref04_Digits_l1 K n k v l i = some (dig v d ++ l) := by
  intro d
  induction d with
  | zero =>
    intro k i v l hi hk _ _ _
    obtain ⟨k, rfl⟩ : ∃ m, k = m + 1 := ⟨k - 1, by omega⟩
    simp only [ref04_Digits_l1]
    rw [if_neg (by omega)]; rfl
  | succ d ih =>
    intro k i v l hi hk h0 h1 hl
    obtain ⟨k, rfl⟩ : ∃ m, k = m + 1 := ⟨k - 1, by omega⟩
    simp only [ref04_Digits_l1]
    have e1 : Int.tdiv v 2 = v / 2 := Int.tdiv_eq_ediv_of_nonneg h0
    have e2 : Int.tmod v 2 = v % 2 := Int.tmod_eq_emod_of_nonneg h0
    rw [if_pos (by omega), if_pos (by simp; omega), e1, e2, w64_id (by omega) (by omega), w64_id (by omega) (by omega)]
    have := ih k (i + 1) (v / 2) ([v % 2] ++ l) (by omega) (by omega) (by omega) (by omega) (by simp; omega)
    rw [show ((i + 1 : Nat) : Int) = (i : Int) + 1 by omega] at this
    rw [this, dig, List.append_assoc]
theorem digits_eq (K : Nat) {v n : Int} (h0 : 0 ≤ n) (h1 : n ≤ 60) (hK : 60 < K) (hv : 0 ≤ v) (hv' : v ≤ 9223372036854775807) : ref04_Digits K v n = some (dig v n.toNat) := by
  have := digits_loop K n.toNat (by omega) n.toNat K 0 v [] (by omega) (by omega) hv hv' rfl
  rw [Int.toNat_of_nonneg h0, List.append_nil] at this
  exact this
end Go.Proofs.Ytoepbakbpimkiaa
