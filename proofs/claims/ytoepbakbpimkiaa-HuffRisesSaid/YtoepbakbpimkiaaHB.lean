import Derived.Test.YtoepbakbpimkiaaHA
import Derived.Test.YtoepbakbpimkiaaBD
import Derived.Test.YtoepbakbpimkiaaGhuffRight
import Derived.Test.YtoepbakbpimkiaaGhuffNew
import Derived.Test.YtoepbakbpimkiaaGhuffTableCode
import Derived.Test.YtoepbakbpimkiaaGhuffTableGet
import Derived.Test.YtoepbakbpimkiaaGref05Codes
import Derived.Test.YtoepbakbpimkiaaGref05Find
import Derived.Test.YtoepbakbpimkiaaGref05Get
/-! Plain: what specs may be; their tables. -/
namespace Go.Proofs.Ytoepbakbpimkiaa
open Go Go.RowKit K

theorem getD_nat {α : Type} {V : List α} {k : Nat} (h : k < V.length) (d : α) : V.getD k d = V[k] := by
  rw [List.getD_eq_getElem?_getD, List.getElem?_eq_getElem h]; rfl
theorem take_snoc {V : List Int} {k : Nat} (h : k < V.length) : V.take (k + 1) = V.take k ++ [V[k]] := by
  rw [List.take_add_one, List.getElem?_eq_getElem h]; rfl
theorem mem_take_val {V : List Int} {k j : Nat} (hj : j < k) (hk : k ≤ V.length) : V[j]'(by omega) ∈ V.take k := by
  rw [List.mem_iff_getElem]
  exact ⟨j, by rw [List.length_take]; omega, by rw [List.getElem_take]⟩
theorem nodup_snoc {l : List Int} {x : Int} : (l ++ [x]).Nodup ↔ l.Nodup ∧ x ∉ l := by
  rw [List.nodup_append]
  constructor
  · rintro ⟨h1, _, h2⟩
    exact ⟨h1, fun h => h2 x h x (by simp) rfl⟩
  · rintro ⟨h1, h2⟩
    exact ⟨h1, by simp, fun a ha b hb => by simp at hb; subst hb; exact fun h => h2 (h ▸ ha)⟩
/-- The values are right so far. -/
def Vs (V : List Int) : Prop := (∀ v ∈ V, 0 ≤ v ∧ v ≤ 255) ∧ V.Nodup
theorem Vs.take {V : List Int} (h : Vs V) (k : Nat) : Vs (V.take k) := ⟨fun v hv => h.1 v (List.mem_of_mem_take hv), h.2.sublist (List.take_sublist k V)⟩
theorem Vs.snoc {V : List Int} {k : Nat} (hk : k < V.length) : Vs (V.take (k + 1)) ↔ Vs (V.take k) ∧ 0 ≤ V[k] ∧ V[k] ≤ 255 ∧ V[k] ∉ V.take k := by
  rw [take_snoc hk]
  unfold Vs
  rw [nodup_snoc]
  constructor
  · rintro ⟨h1, h2, h3⟩
    have h4 := h1 _ (List.mem_append_right _ (List.mem_singleton_self _))
    exact ⟨⟨fun v hv => h1 v (List.mem_append_left _ hv), h2⟩, h4.1, h4.2, h3⟩
  · rintro ⟨⟨h1, h2⟩, h3, h4, h5⟩
    refine ⟨fun v hv => ?_, h2, h5⟩
    rcases List.mem_append.1 hv with hv | hv
    · exact h1 v hv
    · simp at hv; subst hv; exact ⟨h3, h4⟩
theorem right_vals (K : Nat) (V : List Int) (a : Int) (hl : V.length ≤ 256) : ∀ (n k j : Nat) (s : Nat → Bool), j + n = V.length → n < k → Vs (V.take j) → (∀ v : Nat, v < 256 → (s v = true ↔ (v : Int) ∈ V.take j)) →
    ∃ b, huff_Right_l1 K V a k s (j : Int) = some b ∧ (b = true ↔ Vs V ∧ a = (V.length : Int)) := by
  intro n
  induction n with
  | zero =>
    intro k j s hj hk hv hs
    obtain ⟨k, rfl⟩ : ∃ m, k = m + 1 := ⟨k - 1, by omega⟩
    simp only [huff_Right_l1, huff_Right_j1]
    rw [if_neg (by omega)]
    rw [List.take_of_length_le (by omega)] at hv
    exact ⟨_, rfl, by simp [hv]⟩
  | succ n ih =>
    intro k j s hj hk hv hs
    obtain ⟨k, rfl⟩ : ∃ m, k = m + 1 := ⟨k - 1, by omega⟩
    have hjl : j < V.length := by omega
    simp only [huff_Right_l1, Int.toNat_natCast]
    rw [if_pos (by omega), if_pos (by omega)]
    simp only [getD_nat hjl]
    have hno : ¬ (0 ≤ V[j] ∧ V[j] ≤ 255 ∧ V[j] ∉ V.take j) → ∃ b, some false = some b ∧ (b = true ↔ Vs V ∧ a = (V.length : Int)) := by
      intro h
      refine ⟨false, rfl, by simp, fun hh => ?_⟩
      have := hh.1.take (j + 1)
      exact absurd ((Vs.snoc hjl).1 this).2 h
    by_cases h0 : V[j] < 0
    · rw [if_pos h0]; exact hno (by omega)
    · rw [if_neg h0]
      by_cases h1 : 255 < V[j]
      · rw [if_pos h1]; exact hno (by omega)
      · rw [if_neg h1, if_pos (by omega)]
        have hm := hs (V[j]).toNat (by omega)
        rw [Int.toNat_of_nonneg (by omega)] at hm
        by_cases h2 : s (V[j]).toNat = true
        · rw [if_pos h2]; exact hno (fun h => h.2.2 (hm.1 h2))
        · rw [if_neg h2, w64_id (by omega) (by omega)]
          refine ih k (j + 1) _ (by omega) (by omega) ((Vs.snoc hjl).2 ⟨hv, by omega, by omega, fun h => h2 (hm.2 h)⟩) ?_
          intro v hv2
          rw [upd_at, take_snoc hjl, List.mem_append, List.mem_singleton]
          split
          · rename_i h; simp; omega
          · rename_i h
            rw [hs v hv2]
            constructor
            · exact .inl
            · rintro (h3 | h3)
              · exact h3
              · omega
theorem good_iff {B : Nat → Int} {V : List Int} : Good B V ↔ (Cn B 16 ∧ sm B 16 = (V.length : Int) ∧ 1 ≤ V.length ∧ V.length ≤ 256 ∧ Vs V ∧ Rm B 16) :=
  ⟨fun h => ⟨h.cnt, h.sum, h.one, h.most, ⟨h.val, h.nd⟩, h.room⟩, fun ⟨h1, h2, h3, h4, h5, h6⟩ => ⟨h1, h2, h3, h4, h5.1, h5.2, h6⟩⟩
theorem Cn.le {B : Nat → Int} {m n : Nat} (h : Cn B n) (hm : m ≤ n) : Cn B m := fun i hi => h i (by omega)
theorem Rm.le {B : Nat → Int} {m n : Nat} (h : Rm B n) (hm : m ≤ n) : Rm B m := fun i hi => h i (by omega)
theorem Cn.succ {B : Nat → Int} {n : Nat} (h : Cn B n) (h2 : 0 ≤ B n ∧ B n ≤ 255) : Cn B (n + 1) := fun i hi => by
  rcases Nat.lt_or_ge i n with h3 | h3
  · exact h i h3
  · obtain rfl : i = n := by omega
    exact h2
theorem Rm.succ {B : Nat → Int} {n : Nat} (h : Rm B n) (h2 : 0 < B n → nx B (n + 1) ≤ 2 ^ (n + 1) - 1) : Rm B (n + 1) := fun i hi => by
  rcases Nat.lt_or_ge i n with h3 | h3
  · exact h i h3
  · obtain rfl : i = n := by omega
    exact h2
theorem pow16 {n : Nat} (h : n ≤ 16) : (2 : Int) ^ n ≤ 65536 := pow2_le (b := 16) h
theorem right_counts (K : Nat) (hK : 256 < K) (B : Nat → Int) (V : List Int) (h1 : 1 ≤ V.length) (hl : V.length ≤ 256) : ∀ (n k i : Nat), i + n = 16 → n < k → Cn B i → Rm B i →
    ∃ b, huff_Right_l2 K B V k (nx B i) (sm B i) (i : Int) = some b ∧ (b = true ↔ Good B V) := by
  intro n
  induction n with
  | zero =>
    intro k i hi hk hc hr
    obtain ⟨k, rfl⟩ : ∃ m, k = m + 1 := ⟨k - 1, by omega⟩
    obtain rfl : i = 16 := by omega
    simp only [huff_Right_l2, huff_Right_j2]
    rw [if_neg (by omega)]
    obtain ⟨b, e, hb⟩ := right_vals K V (sm B 16) hl V.length K 0 zb (by omega) (by omega) (by simp [Vs]) (by simp [zb])
    refine ⟨b, e, ?_⟩
    rw [hb, good_iff]
    exact ⟨fun ⟨h, h2⟩ => ⟨hc, h2, h1, hl, h, hr⟩, fun ⟨_, h2, _, _, h, _⟩ => ⟨h, h2⟩⟩
  | succ n ih =>
    intro k i hi hk hc hr
    obtain ⟨k, rfl⟩ : ∃ m, k = m + 1 := ⟨k - 1, by omega⟩
    simp only [huff_Right_l2, Int.toNat_natCast]
    rw [if_pos (by omega), if_pos (by omega)]
    have hp := pow16 (n := i) (by omega)
    have hp1 := pow16 (n := i + 1) (by omega)
    have hp2 := pow2_pos (i + 1)
    have hnx := nx_bd i hc hr
    have hsm := sm_nn i hc
    by_cases h2 : B i < 0
    · rw [if_pos h2]
      exact ⟨false, rfl, by simp, fun h => by have := h.cnt i (by omega); omega⟩
    · rw [if_neg h2]
      by_cases h3 : 255 < B i
      · rw [if_pos h3]
        exact ⟨false, rfl, by simp, fun h => by have := h.cnt i (by omega); omega⟩
      · rw [if_neg h3]
        have hnext : w64 (shlI .i64 (nx B i) 1 + B i) = nx B (i + 1) := by
          rw [shl_one hnx.1 (by omega), w64_id (by omega) (by omega)]; rfl
        have hsum : w64 (sm B i + B i) = sm B (i + 1) := by
          rw [w64_id (by omega) (by omega)]; rfl
        have hone : w64 ((i : Int) + 1) = ((i + 1 : Nat) : Int) := by rw [w64_id (by omega) (by omega)]; omega
        have hpw : w64 (shlI .i64 1 ((i + 1 : Nat) : Int) - 1) = 2 ^ (i + 1) - 1 := by
          rw [shl_pow (by omega) (by omega), Int.toNat_natCast, w64_id (by omega) (by omega)]
        by_cases h4 : 0 < B i
        · rw [if_pos h4]
          simp only [hone, hpw, hnext]
          rw [if_pos (by omega)]
          by_cases h5 : 2 ^ (i + 1) - 1 < nx B (i + 1)
          · rw [if_pos h5]
            exact ⟨false, rfl, by simp, fun h => by have := h.room i (by omega) h4; omega⟩
          · rw [if_neg h5]
            unfold huff_Right_j3
            simp only [Int.toNat_natCast, hnext, hsum, hone]
            exact ih k (i + 1) (by omega) (by omega) (hc.succ (by omega)) (hr.succ fun _ => by omega)
        · rw [if_neg h4]
          unfold huff_Right_j3
          simp only [Int.toNat_natCast, hnext, hsum, hone]
          exact ih k (i + 1) (by omega) (by omega) (hc.succ (by omega)) (hr.succ fun h => absurd h h4)
theorem right_eq (K : Nat) (hK : 256 < K) (B : Nat → Int) (V : List Int) : ∃ b, huff_Right K B V = some b ∧ (b = true ↔ Good B V) := by
  unfold huff_Right
  by_cases h1 : (V.length : Int) < 1
  · rw [if_pos h1]; exact ⟨false, rfl, by simp, fun h => by have := h.one; omega⟩
  · rw [if_neg h1]
    by_cases h2 : 256 < (V.length : Int)
    · rw [if_pos h2]; exact ⟨false, rfl, by simp, fun h => by have := h.most; omega⟩
    · rw [if_neg h2]
      exact right_counts K hK B V (by omega) (by omega) 16 K 0 (by omega) (by omega) (fun i hi => by omega) (fun i hi => by omega)
theorem right_good (K : Nat) (hK : 256 < K) {B : Nat → Int} {V : List Int} (h : Good B V) : huff_Right K B V = some true := by
  obtain ⟨b, e, hb⟩ := right_eq K hK B V
  rw [e, hb.2 h]
theorem right_bad (K : Nat) (hK : 256 < K) {B : Nat → Int} {V : List Int} (h : ¬ Good B V) : huff_Right K B V = some false := by
  obtain ⟨b, e, hb⟩ := right_eq K hK B V
  rw [e]
  cases b with
  | false => rfl
  | true => exact absurd (hb.1 rfl) h

/-! ### the document's codes -/
theorem codes_inner (K : Nat) (hK : 256 < K) (cb : List (Int × Int × Int) → Int → Int → Option (Bool × List (Int × Int × Int))) {B : Nat → Int} {V : List Int} (hc : Cn B 16) (hs : sm B 16 = (V.length : Int)) (hV : V.length ≤ 256) {i : Nat} (hi : i < 16) (hr : Rm B i) :
    ∀ (n k j : Nat), (j : Int) + n = B i → n < k → (0 < j → 2 * nx B i + (j : Int) ≤ 2 ^ (i + 1) - 1) →
    ref05_Codes_l2 K cb B V ((i + 1 : Nat) : Int) k (zc V (cds B i ++ lvl B i j)) (2 * nx B i + (j : Int)) (j : Int) =
      if (0 < B i → nx B (i + 1) ≤ 2 ^ (i + 1) - 1) then ref05_Codes_j2 K cb ((i + 1 : Nat) : Int) (zc V (cds B (i + 1))) (nx B (i + 1)) else some (false, []) := by
  have hp := pow16 (n := i) (by omega)
  have hp1 := pow16 (n := i + 1) (by omega)
  have hnx := nx_bd i (hc.le (by omega)) hr
  have hci := hc i hi
  have hlen := cds_len i (hc.le (by omega))
  have hmono : sm B i + B i ≤ sm B 16 := sm_mono (m := i + 1) 16 (by omega) (fun x hx => (hc x hx).1)
  have hone : w64 (((i + 1 : Nat) : Int) - 1) = (i : Int) := by rw [w64_id (by omega) (by omega)]; omega
  intro n
  induction n with
  | zero =>
    intro k j hj hk hrm
    obtain ⟨k, rfl⟩ : ∃ m, k = m + 1 := ⟨k - 1, by omega⟩
    simp only [ref05_Codes_l2]
    simp only [hone, Int.toNat_natCast]
    rw [if_pos (by omega), if_neg (by omega), if_pos]
    · simp only [cds, nx]
      rw [show (B i).toNat = j by omega, show (j : Int) = B i by omega]
    · intro h0
      have := hrm (by omega)
      simp only [nx]; omega
  | succ n ih =>
    intro k j hj hk hrm
    obtain ⟨k, rfl⟩ : ∃ m, k = m + 1 := ⟨k - 1, by omega⟩
    simp only [ref05_Codes_l2]
    simp only [hone, Int.toNat_natCast]
    rw [if_pos (by omega), if_pos (by omega), power_eq K (by omega) (by omega) (by omega), some_bind, Int.toNat_natCast]
    have hp2 := pow2_pos (i + 1)
    rw [w64_id (x := 2 ^ (i + 1) - 2) (by omega) (by omega)]
    by_cases h : 2 ^ (i + 1) - 2 < 2 * nx B i + (j : Int)
    · rw [if_pos h, if_neg]
      intro h2
      have := h2 (by omega)
      simp only [nx] at this
      omega
    · rw [if_neg h]
      have hl2 : (cds B i ++ lvl B i j).length < V.length := by rw [List.length_append, lvl_len]; omega
      have hz : (zc V (cds B i ++ lvl B i j)).length = (cds B i ++ lvl B i j).length := zc_len (by omega)
      rw [if_pos (by omega), if_pos (by rw [hz, List.length_singleton]; omega), hz]
      have e := zc_snoc (V := V) (c := cds B i ++ lvl B i j) (2 * nx B i + (j : Int), (i : Int) + 1) hl2
      rw [List.append_assoc, ← lvl_succ] at e
      simp only at e
      rw [show ((i + 1 : Nat) : Int) = (i : Int) + 1 by omega] at *
      rw [← e, w64_id (x := 2 * nx B i + (j : Int) + 1) (by omega) (by omega), w64_id (x := (j : Int) + 1) (by omega) (by omega)]
      have := ih k (j + 1) (by omega) (by omega) (fun _ => by omega)
      rw [show ((j + 1 : Nat) : Int) = (j : Int) + 1 by omega, ← Int.add_assoc] at this
      exact this
theorem codes_outer (K : Nat) (hK : 256 < K) {B : Nat → Int} {V : List Int} (hc : Cn B 16) (hs : sm B 16 = (V.length : Int)) (hV : V.length ≤ 256) :
    ∀ (n k i : Nat), i + n = 16 → n < k → Rm B i →
    ∃ b, ref05_Codes_l1 K B V k (zc V (cds B i)) (nx B i) ((i + 1 : Nat) : Int) = some (b, if b = true then es B V else []) ∧ (b = true ↔ Rm B 16) := by
  intro n
  induction n with
  | zero =>
    intro k i hi hk hr
    obtain ⟨k, rfl⟩ : ∃ m, k = m + 1 := ⟨k - 1, by omega⟩
    obtain rfl : i = 16 := by omega
    simp only [ref05_Codes_l1, ref05_Codes_j1]
    rw [if_neg (by omega)]
    exact ⟨true, rfl, by simp [hr]⟩
  | succ n ih =>
    intro k i hi hk hr
    obtain ⟨k, rfl⟩ : ∃ m, k = m + 1 := ⟨k - 1, by omega⟩
    simp only [ref05_Codes_l1]
    have hp := pow16 (n := i) (by omega)
    have hnx := nx_bd i (hc.le (by omega)) hr
    have hci := hc i (by omega)
    rw [if_pos (by omega), w64_id (x := nx B i * 2) (by omega) (by omega), Int.mul_comm (nx B i) 2]
    have e := codes_inner K hK (ref05_Codes_l1 K B V k) hc hs hV (i := i) (by omega) hr (B i).toNat K 0 (by omega) (by omega) (fun h => absurd h (by omega))
    rw [show lvl B i 0 = [] from rfl, List.append_nil] at e
    simp only [Int.natCast_zero, Int.add_zero] at e
    rw [e]
    split
    · rename_i h
      unfold ref05_Codes_j2
      rw [w64_id (by omega) (by omega)]
      exact ih k (i + 1) (by omega) (by omega) (hr.succ h)
    · rename_i h
      exact ⟨false, rfl, by simp, fun hh => absurd (hh i (by omega)) h⟩
theorem codes_look (K : Nat) (cb : Int → Option (Bool × List (Int × Int × Int))) {V : List Int} (hV : V.length ≤ 256) {i : Nat} (hi : i < V.length) : ∀ (n k j : Nat), j + n = i → n < k → V[i] ∉ V.take j →
    ref05_Codes_l4 K cb V (i : Int) k (j : Int) = if V[i] ∈ V.take i then some (false, []) else ref05_Codes_j4 K cb (i : Int) := by
  intro n
  induction n with
  | zero =>
    intro k j hj hk hn
    obtain ⟨k, rfl⟩ : ∃ m, k = m + 1 := ⟨k - 1, by omega⟩
    obtain rfl : j = i := by omega
    simp only [ref05_Codes_l4]
    rw [if_neg (by omega), if_neg hn]
  | succ n ih =>
    intro k j hj hk hn
    obtain ⟨k, rfl⟩ : ∃ m, k = m + 1 := ⟨k - 1, by omega⟩
    simp only [ref05_Codes_l4, Int.toNat_natCast]
    rw [if_pos (by omega), if_pos (by omega)]
    simp only [getD_nat hi, getD_nat (show j < V.length by omega)]
    by_cases h : V[j] = V[i]
    · rw [if_pos h, if_pos]
      rw [← h]
      exact mem_take_val (by omega) (by omega)
    · rw [if_neg h, w64_id (by omega) (by omega)]
      refine ih k (j + 1) (by omega) (by omega) ?_
      rw [take_snoc (by omega), List.mem_append, List.mem_singleton]
      rintro (h2 | h2)
      · exact hn h2
      · exact h h2.symm
theorem codes_vals (K : Nat) (hK : 256 < K) {B : Nat → Int} {V : List Int} (hV : V.length ≤ 256) : ∀ (n k j : Nat), j + n = V.length → n < k → Vs (V.take j) →
    ∃ b, ref05_Codes_l3 K B V k (j : Int) = (if b = true then ref05_Codes_j3 K B V else some (false, [])) ∧ (b = true ↔ Vs V) := by
  intro n
  induction n with
  | zero =>
    intro k j hj hk hv
    obtain ⟨k, rfl⟩ : ∃ m, k = m + 1 := ⟨k - 1, by omega⟩
    simp only [ref05_Codes_l3]
    rw [if_neg (by omega)]
    rw [List.take_of_length_le (by omega)] at hv
    exact ⟨true, rfl, by simp [hv]⟩
  | succ n ih =>
    intro k j hj hk hv
    obtain ⟨k, rfl⟩ : ∃ m, k = m + 1 := ⟨k - 1, by omega⟩
    have hjl : j < V.length := by omega
    have hno : ¬ (0 ≤ V[j] ∧ V[j] ≤ 255 ∧ V[j] ∉ V.take j) → ∃ b, some (false, ([] : List (Int × Int × Int))) = (if b = true then ref05_Codes_j3 K B V else some (false, [])) ∧ (b = true ↔ Vs V) := by
      intro h
      refine ⟨false, rfl, by simp, fun hh => ?_⟩
      exact absurd ((Vs.snoc hjl).1 (hh.take (j + 1))).2 h
    simp only [ref05_Codes_l3, Int.toNat_natCast]
    rw [if_pos (by omega), if_pos (by omega)]
    simp only [getD_nat hjl]
    by_cases h0 : V[j] < 0
    · rw [if_pos h0]; exact hno (by omega)
    · rw [if_neg h0]
      by_cases h1 : 255 < V[j]
      · rw [if_pos h1]; exact hno (by omega)
      · rw [if_neg h1]
        have e := codes_look K (ref05_Codes_l3 K B V k) hV hjl j K 0 (by omega) (by omega) (by simp)
        simp only [Int.natCast_zero] at e
        rw [e]
        split
        · rename_i h; exact hno (fun hh => hh.2.2 h)
        · rename_i h
          unfold ref05_Codes_j4
          rw [w64_id (by omega) (by omega)]
          exact ih k (j + 1) (by omega) (by omega) ((Vs.snoc hjl).2 ⟨hv, by omega, by omega, h⟩)
theorem codes_counts (K : Nat) (hK : 256 < K) (B : Nat → Int) (V : List Int) : ∀ (n k i : Nat), i + n = 16 → n < k → Cn B i →
    ∃ b, ref05_Codes_l5 K B V k (sm B i) (i : Int) = some (b, if b = true then es B V else []) ∧ (b = true ↔ Good B V) := by
  intro n
  induction n with
  | zero =>
    intro k i hi hk hc
    obtain ⟨k, rfl⟩ : ∃ m, k = m + 1 := ⟨k - 1, by omega⟩
    obtain rfl : i = 16 := by omega
    simp only [ref05_Codes_l5, ref05_Codes_j5]
    rw [if_neg (by omega)]
    by_cases h1 : sm B 16 = (V.length : Int)
    · rw [if_neg (fun h => h h1)]
      by_cases h2 : sm B 16 < 1
      · rw [if_pos h2]; exact ⟨false, rfl, by simp, fun h => by have := h.one; omega⟩
      · rw [if_neg h2]
        by_cases h3 : 256 < sm B 16
        · rw [if_pos h3]; exact ⟨false, rfl, by simp, fun h => by have := h.most; omega⟩
        · rw [if_neg h3]
          obtain ⟨b, e, hb⟩ := codes_vals K hK (B := B) (V := V) (by omega) V.length K 0 (by omega) (by omega) (by simp [Vs])
          simp only [Int.natCast_zero] at e
          rw [e]
          cases b with
          | false => exact ⟨false, rfl, by simp, fun h => by simpa using hb.2 ⟨h.val, h.nd⟩⟩
          | true =>
            rw [if_pos rfl]
            unfold ref05_Codes_j3
            obtain ⟨b2, e2, hb2⟩ := codes_outer K hK (B := B) (V := V) hc h1 (by omega) 16 K 0 (by omega) (by omega) (fun i hi => by omega)
            rw [show zc V (cds B 0) = [] by simp [cds, zc]] at e2
            refine ⟨b2, e2, ?_⟩
            rw [hb2, good_iff]
            exact ⟨fun h => ⟨hc, h1, by omega, by omega, hb.1 rfl, h⟩, fun h => h.2.2.2.2.2⟩
    · rw [if_pos h1]; exact ⟨false, rfl, by simp, fun h => absurd h.sum h1⟩
  | succ n ih =>
    intro k i hi hk hc
    obtain ⟨k, rfl⟩ : ∃ m, k = m + 1 := ⟨k - 1, by omega⟩
    simp only [ref05_Codes_l5, Int.toNat_natCast]
    have hsm := sm_nn i hc
    rw [if_pos (by omega), if_pos (by omega)]
    by_cases h2 : B i < 0
    · rw [if_pos h2]
      exact ⟨false, rfl, by simp, fun h => by have := h.cnt i (by omega); omega⟩
    · rw [if_neg h2]
      by_cases h3 : 255 < B i
      · rw [if_pos h3]
        exact ⟨false, rfl, by simp, fun h => by have := h.cnt i (by omega); omega⟩
      · rw [if_neg h3, w64_id (x := sm B i + B i) (by omega) (by omega), w64_id (x := (i : Int) + 1) (by omega) (by omega)]
        exact ih k (i + 1) (by omega) (by omega) (hc.succ (by omega))
theorem codes_eq (K : Nat) (hK : 256 < K) (B : Nat → Int) (V : List Int) : ∃ b, ref05_Codes K B V = some (b, if b = true then es B V else []) ∧ (b = true ↔ Good B V) :=
  codes_counts K hK B V 16 K 0 (by omega) (by omega) (fun i hi => by omega)
theorem codes_good (K : Nat) (hK : 256 < K) {B : Nat → Int} {V : List Int} (h : Good B V) : ref05_Codes K B V = some (true, es B V) := by
  obtain ⟨b, e, hb⟩ := codes_eq K hK B V
  rw [e, hb.2 h]; rfl
theorem codes_bad (K : Nat) (hK : 256 < K) {B : Nat → Int} {V : List Int} (h : ¬ Good B V) : ref05_Codes K B V = some (false, []) := by
  obtain ⟨b, e, hb⟩ := codes_eq K hK B V
  rw [e]
  cases b with
  | false => rfl
  | true => exact absurd (hb.1 rfl) h

/-! ### the table -/
theorem new_inner (K : Nat) (cb : (Nat → Int) → List MEnt → Int → Int → Int → Option (((Nat → Int) × List Int × List MEnt) ⊕ Unit)) {B : Nat → Int} {V : List Int} (hg : Good B V) {i : Nat} (hi : i < 16) :
    ∀ (n k j : Nat), (j : Int) + n = B i → n < k →
    huff_New_l2 K cb B V (i : Int) k (tab (zc V (cds B i ++ lvl B i j))) (mp (zc V (cds B i ++ lvl B i j))) (2 * nx B i + (j : Int)) (((cds B i ++ lvl B i j).length : Nat) : Int) (j : Int) =
      huff_New_j2 K cb (i : Int) (tab (zc V (cds B (i + 1)))) (mp (zc V (cds B (i + 1)))) (nx B (i + 1)) (((cds B (i + 1)).length : Nat) : Int) := by
  have hc : Cn B 16 := hg.cnt
  have hp := pow16 (n := i) (by omega)
  have hnx := nx_bd i (hc.le (by omega)) (Rm.le (n := 16) hg.room (by omega))
  have hci := hc i hi
  have hlen := cds_len i (hc.le (by omega))
  have hmono : sm B i + B i ≤ sm B 16 := sm_mono (m := i + 1) 16 (by omega) (fun x hx => (hc x hx).1)
  have hsum := hg.sum
  have hone : w64 ((i : Int) + 1) = (i : Int) + 1 := w64_id (by omega) (by omega)
  have hmost := hg.most
  intro n
  induction n with
  | zero =>
    intro k j hj hk
    obtain ⟨k, rfl⟩ : ∃ m, k = m + 1 := ⟨k - 1, by omega⟩
    simp only [huff_New_l2]
    rw [Int.toNat_natCast, if_neg (by omega)]
    simp only [cds, nx]
    rw [show (B i).toNat = j by omega, show (j : Int) = B i by omega]
  | succ n ih =>
    intro k j hj hk
    obtain ⟨k, rfl⟩ : ∃ m, k = m + 1 := ⟨k - 1, by omega⟩
    simp only [huff_New_l2]
    have hl2 : (cds B i ++ lvl B i j).length < V.length := by rw [List.length_append, lvl_len]; omega
    have hl3 : (cds B i ++ lvl B i j).length ≤ 256 := by omega
    have hval := hg.val _ (List.getElem_mem hl2)
    rw [Int.toNat_natCast, if_pos (by omega), if_pos (by omega), Int.toNat_natCast, if_pos (by rw [getD_nat hl2]; omega), hone]
    have e := zc_snoc (V := V) (c := cds B i ++ lvl B i j) (2 * nx B i + (j : Int), (i : Int) + 1) hl2
    have ec : cds B i ++ lvl B i j ++ [(2 * nx B i + (j : Int), (i : Int) + 1)] = cds B i ++ lvl B i (j + 1) := by rw [List.append_assoc, ← lvl_succ]
    rw [ec] at e
    simp only at e
    have hnone : mfind (mp (zc V (cds B i ++ lvl B i j))) (2 * nx B i + (j : Int), (i : Int) + 1) = none := by
      rw [mfind_none]
      intro x hx hk2
      have hx2 : x.1 ∈ cds B i ++ lvl B i j := by
        have : (mp (zc V (cds B i ++ lvl B i j))).map (·.1) = cds B i ++ lvl B i j := by
          rw [show (mp (zc V (cds B i ++ lvl B i j))).map (·.1) = (zc V (cds B i ++ lvl B i j)).map (·.2) by simp [mp], zc_cds (by omega)]
        rw [← this]
        exact List.mem_map_of_mem hx
      rw [hk2] at hx2
      rcases List.mem_append.1 hx2 with hx3 | hx3
      · obtain ⟨s, e1, e2, e3, _⟩ := cds_cd i (hc.le (by omega)) (Rm.le (n := 16) hg.room (by omega)) _ hx3
        simp only at e1
        omega
      · simp only [lvl, List.mem_map, List.mem_range] at hx3
        obtain ⟨m, hm, he⟩ := hx3
        have := congrArg Prod.fst he
        simp only at this
        omega
    rw [if_pos hnone, w64_id (x := 2 * nx B i + (j : Int) + 1) (by omega) (by omega), w64_id (x := (j : Int) + 1) (by omega) (by omega), w64_id (x := (((cds B i ++ lvl B i j).length : Nat) : Int) + 1) (by omega) (by omega)]
    have := ih k (j + 1) (by omega) (by omega)
    rw [e, tab_snoc, mp_snoc] at this
    simp only at this
    have el : (((cds B i ++ lvl B i (j + 1)).length : Nat) : Int) = (((cds B i ++ lvl B i j).length : Nat) : Int) + 1 := by rw [← ec]; simp only [List.length_append, List.length_singleton]; omega
    rw [show ((j + 1 : Nat) : Int) = (j : Int) + 1 by omega, ← Int.add_assoc, el] at this
    exact this
theorem new_outer (K : Nat) (hK : 256 < K) {B : Nat → Int} {V : List Int} (hg : Good B V) (r : List Int) : ∀ (n k i : Nat), i + n = 16 → n < k →
    huff_New_l1 K B V r k (tab (zc V (cds B i))) (mp (zc V (cds B i))) (nx B i) (((cds B i).length : Nat) : Int) (i : Int) = some (.inl (tab (es B V), r, mp (es B V))) := by
  have hc : Cn B 16 := hg.cnt
  intro n
  induction n with
  | zero =>
    intro k i hi hk
    obtain ⟨k, rfl⟩ : ∃ m, k = m + 1 := ⟨k - 1, by omega⟩
    obtain rfl : i = 16 := by omega
    simp only [huff_New_l1, huff_New_j1]
    rw [if_neg (by omega)]
    rfl
  | succ n ih =>
    intro k i hi hk
    obtain ⟨k, rfl⟩ : ∃ m, k = m + 1 := ⟨k - 1, by omega⟩
    have hp := pow16 (n := i) (by omega)
    have hnx := nx_bd i (hc.le (by omega)) (Rm.le (n := 16) hg.room (by omega))
    have hci := hc i (by omega)
    simp only [huff_New_l1]
    rw [if_pos (by omega), if_pos (by omega), shl_one hnx.1 (by omega)]
    have e := new_inner K (huff_New_l1 K B V r k) hg (i := i) (by omega) (B i).toNat K 0 (by omega) (by omega)
    rw [show lvl B i 0 = [] from rfl, List.append_nil] at e
    simp only [Int.natCast_zero, Int.add_zero] at e
    rw [e]
    unfold huff_New_j2
    rw [w64_id (by omega) (by omega)]
    exact ih k (i + 1) (by omega) (by omega)
theorem new_good (K : Nat) (hK : 256 < K) {B : Nat → Int} {V : List Int} (h : Good B V) : huff_New K B V = some (.inl (tab (es B V), V, mp (es B V))) := by
  unfold huff_New
  have hm := h.most
  rw [right_good K hK h, some_bind, if_pos rfl]
  unfold slices_Clone
  rw [if_pos (by omega), some_bind]
  have := new_outer K hK h V 16 K 0 (by omega) (by omega)
  rw [show zc V (cds B 0) = [] by simp [cds, zc]] at this
  exact this
theorem new_bad (K : Nat) (hK : 256 < K) {B : Nat → Int} {V : List Int} (h : ¬ Good B V) : huff_New K B V = some (.inr ()) := by
  unfold huff_New
  rw [right_bad K hK h, some_bind]
  simp
/-- What is told of a value. -/
def cod (o : Option (Int × Int × Int)) : Int × Int × Bool := match o with
  | some e => (e.2.1, e.2.2, true)
  | none => (0, 0, false)
theorem code_eq (K : Nat) {B : Nat → Int} {V : List Int} (h : Good B V) (v : Int) : huff_Table_Code K B V (tab (es B V)) (mp (es B V)) v = some (cod (fnd (es B V) v)) := by
  unfold huff_Table_Code
  have hn : ∀ e ∈ es B V, 0 ≤ e.1 := fun e he => (h.eval he).1
  cases hf : fnd (es B V) v with
  | none =>
    have hno := fnd_none hf
    by_cases h0 : v < 0
    · rw [if_pos h0]; rfl
    · rw [if_neg h0]
      by_cases h1 : 255 < v
      · rw [if_pos h1]; rfl
      · rw [if_neg h1, if_pos (by omega), if_pos]
        · rfl
        · rw [Nat.add_comm]
          exact (tab_out (es B V) v.toNat fun e he => by
            have h2 := hn e he
            have h3 := hno e he
            omega).2
  | some e =>
    obtain ⟨he, rfl⟩ := fnd_some hf
    have hb := h.eval he
    obtain ⟨s, e1, e2, _⟩ := h.bd he
    obtain ⟨t1, t2⟩ := tab_in (es B V) hn (by rw [h.vals]; exact h.nd) e he
    rw [if_neg (by omega), if_neg (by omega), if_pos (by omega), if_neg]
    · unfold shf
      rw [Nat.add_zero, t1, t2]; rfl
    · rw [Nat.add_comm, t2]; omega
/-- What the document finds. -/
def fon (o : Option (Int × Int × Int)) : Int × Int × Int × Bool := match o with
  | some e => (e.1, e.2.1, e.2.2, true)
  | none => (0, 0, 0, false)
theorem find_loop (K : Nat) (l : List (Int × Int × Int)) (v : Int) (hl : l.length ≤ 256) : ∀ (n k j : Nat), j + n = l.length → n < k → ref05_Find_l1 K l v k (j : Int) = some (fon (fnd (l.drop j) v)) := by
  intro n
  induction n with
  | zero =>
    intro k j hj hk
    obtain ⟨k, rfl⟩ : ∃ m, k = m + 1 := ⟨k - 1, by omega⟩
    simp only [ref05_Find_l1, ref05_Find_j1]
    rw [if_neg (by omega), List.drop_of_length_le (by omega)]
    rfl
  | succ n ih =>
    intro k j hj hk
    obtain ⟨k, rfl⟩ : ∃ m, k = m + 1 := ⟨k - 1, by omega⟩
    have hjl : j < l.length := by omega
    simp only [ref05_Find_l1, Int.toNat_natCast]
    rw [if_pos (by omega), if_pos (by omega), List.drop_eq_getElem_cons hjl]
    simp only [getD_nat hjl]
    unfold fnd
    rw [List.find?_cons]
    by_cases h : (l[j]).1 = v
    · rw [if_pos h, show ((l[j]).1 == v) = true by simpa using h]
      rfl
    · rw [if_neg h, show ((l[j]).1 == v) = false by simpa using h, w64_id (by omega) (by omega)]
      exact ih k (j + 1) (by omega) (by omega)
theorem find_eq (K : Nat) (hK : 256 < K) {l : List (Int × Int × Int)} (v : Int) (hl : l.length ≤ 256) : ref05_Find K l v = some (fon (fnd l v)) :=
  find_loop K l v hl l.length K 0 (by omega) (by omega)

/-! ### reading -/
theorem nxt_stay {d : List Int} {i : Nat} {r : List Int} (h : ¬ (nxt d i r).2.1 = 0) : (nxt d i r).2.2.1 = i ∧ (nxt d i r).2.2.2 = r := by
  match r, h with
  | b :: r, h => exact absurd rfl h
  | [], h =>
    rcases drop_cases d i with e | e | ⟨y, t, e, hy⟩ | ⟨t, e⟩ | ⟨x, t, e, h255⟩
    · rw [nxt_end e]; exact ⟨rfl, rfl⟩
    · rw [nxt_cut e]; exact ⟨rfl, rfl⟩
    · rw [nxt_mark e hy]; exact ⟨rfl, rfl⟩
    · rw [nxt_stuff e] at h; exact absurd rfl h
    · rw [nxt_plain e h255] at h; exact absurd rfl h
/-- The next value: it, the error, the place, what is left. -/
def hget (m : List MEnt) (d : List Int) : Nat → Nat → List Int → Int → Int → Int × Int × Nat × List Int
  | 0, i, r, _, _ => (0, 6, i, r)
  | n + 1, i, r, x, s =>
    if (nxt d i r).2.1 = 0 then
      match mfind m (2 * x + (nxt d i r).1, s + 1) with
      | some v => (v, 0, (nxt d i r).2.2.1, (nxt d i r).2.2.2)
      | none => hget m d n (nxt d i r).2.2.1 (nxt d i r).2.2.2 (2 * x + (nxt d i r).1) (s + 1)
    else (0, (nxt d i r).2.1, i, r)
theorem hget_loop (K : Nat) (m : List MEnt) {d : List Int} (hd : Bytes d) : ∀ (n k j : Nat) (a p l x : Int) (i : Nat) (r : List Int), j + n = 16 → n < k → RI d a p l i r → 0 ≤ x → x < 2 ^ j →
    ∃ p' l', huff_Table_Get_l1 K m d k a p l x j j = some ((hget m d n i r x j).1, (hget m d n i r x j).2.1, (((hget m d n i r x j).2.2.1 : Nat) : Int), p', l') ∧
      RI d (((hget m d n i r x j).2.2.1 : Nat) : Int) p' l' (hget m d n i r x j).2.2.1 (hget m d n i r x j).2.2.2 := by
  intro n
  induction n with
  | zero =>
    intro k j a p l x i r hj hk h hx0 hx1
    obtain ⟨k, rfl⟩ : ∃ m, k = m + 1 := ⟨k - 1, by omega⟩
    simp only [huff_Table_Get_l1, huff_Table_Get_j1]
    rw [if_neg (by omega)]
    obtain ⟨rfl, hh⟩ := h
    exact ⟨p, l, rfl, ⟨rfl, hh⟩⟩
  | succ n ih =>
    intro k j a p l x i r hj hk h hx0 hx1
    obtain ⟨k, rfl⟩ : ∃ m, k = m + 1 := ⟨k - 1, by omega⟩
    simp only [huff_Table_Get_l1]
    rw [if_pos (by omega)]
    obtain ⟨p', l', hb, hr⟩ := bit_p K hd h
    have hbit := nxt_bit (d := d) (i := i) h.bits
    rw [hb, some_bind]
    simp only [hget]
    have hj2 := pow16 (n := j) (by omega)
    by_cases he : (nxt d i r).2.1 = 0
    · simp only [he, not_true, if_false, if_true]
      rw [or_bit hx0 (by omega) hbit, w64_id (by omega) (by omega)]
      have hb2 : 0 ≤ (nxt d i r).1 ∧ (nxt d i r).1 ≤ 1 := by rcases hbit with e | e <;> omega
      cases hm : mfind m (2 * x + (nxt d i r).1, (j : Int) + 1) with
      | some v =>
        simp only [Option.isSome_some, if_true, Option.getD_some]
        exact ⟨_, _, rfl, hr⟩
      | none =>
        rw [if_neg (by simp)]
        exact ih k (j + 1) _ p' l' _ _ _ (by omega) (by omega) hr (by omega) (by rw [Int.pow_succ]; omega)
    · simp only [he, not_false_eq_true, if_true, if_false]
      obtain ⟨s1, s2⟩ := nxt_stay he
      rw [s1, s2] at hr
      rw [s1]
      exact ⟨p', l', rfl, hr⟩
theorem tget_eq (K : Nat) (hK : 16 < K) (B : Nat → Int) (V : List Int) (f : Nat → Int) (m : List MEnt) {d : List Int} (hd : Bytes d) {a p l : Int} {i : Nat} {r : List Int} (h : RI d a p l i r) :
    ∃ p' l', huff_Table_Get K B V f m a p l d = some ((hget m d 16 i r 0 0).1, (hget m d 16 i r 0 0).2.1, (((hget m d 16 i r 0 0).2.2.1 : Nat) : Int), p', l') ∧
      RI d (((hget m d 16 i r 0 0).2.2.1 : Nat) : Int) p' l' (hget m d 16 i r 0 0).2.2.1 (hget m d 16 i r 0 0).2.2.2 :=
  hget_loop K m hd 16 K 0 a p l 0 i r (by omega) (by omega) h (by omega) (by simp)
theorem rget_inner (K : Nat) (cb : Int → List Int → Int → Int → Option (Int × Int × Int × List Int)) (L : List (Int × Int × Int)) (hL : L.length ≤ 256) (x s : Int) (r46 : Int × Int × Int × List Int) (y : Int) (hy : w64 (w64 (x * 2) + r46.2.1) = y) :
    ∀ (n k j : Nat), j + n = L.length → n < k →
    ref05_Get_l2 K cb L x s r46 k (j : Int) = match mfind (mp (L.drop j)) (y, s) with
      | some v => some (r46.1, v, 0, r46.2.2.2)
      | none => ref05_Get_j2 K cb s r46.1 r46.2.2.2 y := by
  intro n
  induction n with
  | zero =>
    intro k j hj hk
    obtain ⟨k, rfl⟩ : ∃ m, k = m + 1 := ⟨k - 1, by omega⟩
    simp only [ref05_Get_l2]
    rw [if_neg (by omega), List.drop_of_length_le (by omega), hy]
    rfl
  | succ n ih =>
    intro k j hj hk
    obtain ⟨k, rfl⟩ : ∃ m, k = m + 1 := ⟨k - 1, by omega⟩
    have hjl : j < L.length := by omega
    have e := ih k (j + 1) (by omega) (by omega)
    simp only [ref05_Get_l2, ref05_Get_j3, Int.toNat_natCast]
    rw [if_pos (by omega), if_pos (by omega), List.drop_eq_getElem_cons hjl, w64_id (x := (j : Int) + 1) (by omega) (by omega)]
    simp only [getD_nat hjl, hy]
    rw [show ((j + 1 : Nat) : Int) = (j : Int) + 1 by omega] at e
    rw [e]
    simp only [mp, List.map_cons, mfind]
    by_cases h1 : (L[j]).2.1 = y
    · rw [if_pos h1]
      by_cases h2 : (L[j]).2.2 = s
      · rw [if_pos h2, if_pos (by rw [h1, h2])]
      · rw [if_neg h2, if_neg (by simp only [Prod.mk.injEq]; exact fun h => h2 h.2.symm)]
    · rw [if_neg h1, if_neg (by simp only [Prod.mk.injEq]; exact fun h => h1 h.1.symm)]
theorem rhget_loop (K : Nat) (hK : 256 < K) (L : List (Int × Int × Int)) (hL : L.length ≤ 256) {d : List Int} (hd : Bytes d) : ∀ (n k j : Nat) (x : Int) (i : Nat) (r : List Int), j + n = 16 → n < k → i ≤ d.length → r.length ≤ 8 → Bits r → 0 ≤ x → x < 2 ^ j →
    ref05_Get_l1 K L d k (i : Int) r x ((j : Int) + 1) = some ((((hget (mp L) d n i r x j).2.2.1 : Nat) : Int), (hget (mp L) d n i r x j).1, (hget (mp L) d n i r x j).2.1, (hget (mp L) d n i r x j).2.2.2) := by
  intro n
  induction n with
  | zero =>
    intro k j x i r hj hk hi hr hb hx0 hx1
    obtain ⟨k, rfl⟩ : ∃ m, k = m + 1 := ⟨k - 1, by omega⟩
    simp only [ref05_Get_l1, ref05_Get_j1]
    rw [if_neg (by omega)]
    rfl
  | succ n ih =>
    intro k j x i r hj hk hi hr hb hx0 hx1
    obtain ⟨k, rfl⟩ : ∃ m, k = m + 1 := ⟨k - 1, by omega⟩
    simp only [ref05_Get_l1]
    rw [if_pos (by omega), rbit_p K (by omega) hd hi hr, some_bind]
    have hbit := nxt_bit (d := d) (i := i) hb
    have hl := nxt_len (d := d) hi hr
    simp only [hget]
    have hj2 := pow16 (n := j) (by omega)
    have hb2 : 0 ≤ (nxt d i r).1 ∧ (nxt d i r).1 ≤ 1 := by rcases hbit with e | e <;> omega
    by_cases he : (nxt d i r).2.1 = 0
    · simp only [he, not_true, if_false, if_true]
      have hy : w64 (w64 (x * 2) + (nxt d i r).1) = 2 * x + (nxt d i r).1 := by
        rw [w64_id (x := x * 2) (by omega) (by omega), w64_id (by omega) (by omega), Int.mul_comm]
      have e := rget_inner K (ref05_Get_l1 K L d k) L hL x ((j : Int) + 1) ((((nxt d i r).2.2.1 : Nat) : Int), (nxt d i r).1, 0, (nxt d i r).2.2.2) _ hy L.length K 0 (by omega) (by omega)
      simp only [Int.natCast_zero, List.drop_zero] at e
      rw [e]
      cases hm : mfind (mp L) (2 * x + (nxt d i r).1, (j : Int) + 1) with
      | some v => rfl
      | none =>
        simp only [ref05_Get_j2]
        rw [w64_id (by omega) (by omega)]
        exact ih k (j + 1) _ _ _ (by omega) (by omega) hl.1 hl.2 (nxt_rem hb) (by omega) (by rw [Int.pow_succ]; omega)
    · simp only [he, not_false_eq_true, if_true, if_false]
theorem rtget_eq (K : Nat) (hK : 256 < K) {L : List (Int × Int × Int)} (hL : L.length ≤ 256) {d : List Int} (hd : Bytes d) {i : Nat} {r : List Int} (hi : i ≤ d.length) (hr : r.length ≤ 8) (hb : Bits r) :
    ref05_Get K L d i r = some ((((hget (mp L) d 16 i r 0 0).2.2.1 : Nat) : Int), (hget (mp L) d 16 i r 0 0).1, (hget (mp L) d 16 i r 0 0).2.1, (hget (mp L) d 16 i r 0 0).2.2.2) :=
  rhget_loop K hK L hL hd 16 K 0 0 i r (by omega) (by omega) hi hr hb (by omega) (by simp)

/-! ### a code that was put -/
theorem hget_put {B : Nat → Int} {V : List Int} (h : Good B V) {e : Int × Int × Int} (he : e ∈ es B V) {s : Nat} (hs : e.2.2 = (s : Int)) (d t : List Int) : ∀ (n j : Nat) (i : Nat) (r l : List Int), j + n = s → 1 ≤ n → Rd d i r (dig e.2.1 n ++ l) t →
    ∀ (q : Nat), n ≤ q → (hget (mp (es B V)) d q i r (e.2.1 / 2 ^ n) j).1 = e.1 ∧ (hget (mp (es B V)) d q i r (e.2.1 / 2 ^ n) j).2.1 = 0 ∧
      Rd d (hget (mp (es B V)) d q i r (e.2.1 / 2 ^ n) j).2.2.1 (hget (mp (es B V)) d q i r (e.2.1 / 2 ^ n) j).2.2.2 l t := by
  intro n
  induction n with
  | zero => intro j i r l _ h1; omega
  | succ n ih =>
    intro j i r l hj _ hr q hq
    obtain ⟨q, rfl⟩ : ∃ m, q = m + 1 := ⟨q - 1, by omega⟩
    rw [dig_cons, List.cons_append] at hr
    obtain ⟨s1, s2, s3⟩ := hr.step
    have hx : 2 * (e.2.1 / 2 ^ (n + 1)) + e.2.1 / 2 ^ n % 2 = e.2.1 / 2 ^ n := by
      rw [Int.pow_succ, ← Int.ediv_ediv_of_nonneg (Int.le_of_lt (pow2_pos n))]
      omega
    simp only [hget, s2, if_true, s1, hx]
    by_cases hn : n = 0
    · subst hn
      have hm := h.mpOf he
      rw [hs, show s = j + 1 by omega, show ((j + 1 : Nat) : Int) = (j : Int) + 1 by omega] at hm
      simp only [Int.pow_zero, Int.ediv_one]
      rw [hm]
      exact ⟨rfl, rfl, by simpa [dig] using s3⟩
    · have hno := h.no he hs (j := j + 1) (by omega)
      rw [show s - (j + 1) = n by omega, show ((j + 1 : Nat) : Int) = (j : Int) + 1 by omega] at hno
      rw [hno]
      exact ih (j + 1) _ _ l (by omega) (by omega) s3 q (by omega)
theorem hget_code {B : Nat → Int} {V : List Int} (h : Good B V) {e : Int × Int × Int} (he : e ∈ es B V) {d t : List Int} {i : Nat} {r l : List Int} (hr : Rd d i r (dig e.2.1 e.2.2.toNat ++ l) t) :
    (hget (mp (es B V)) d 16 i r 0 0).1 = e.1 ∧ (hget (mp (es B V)) d 16 i r 0 0).2.1 = 0 ∧ Rd d (hget (mp (es B V)) d 16 i r 0 0).2.2.1 (hget (mp (es B V)) d 16 i r 0 0).2.2.2 l t := by
  obtain ⟨s, e1, e2, e3, e4, e5⟩ := h.bd he
  rw [e1, Int.toNat_natCast] at hr
  have := hget_put h he e1 d t s 0 i r l (by omega) (by omega) hr 16 (by omega)
  rw [show e.2.1 / 2 ^ s = 0 from Int.ediv_eq_zero_of_lt e4 (by omega)] at this
  exact this
end Go.Proofs.Ytoepbakbpimkiaa
