import Derived.Test.YtfpafpmcfkapkaaDoorHR
/-! The laws of layer 10, plain. -/
namespace Go.Proofs.YtfpafpmcfkapkaaDoor
open Go Go.RowKit K

theorem part_in {p u i : Nat} (hp : p < 2) (hu : u < 8) (hi : i < 4) (K : Nat) : part K (p : Int) (u : Int) (i : Int) = some (partsF (32 * p + 4 * u + i)) := by
  unfold part
  rw [if_neg (by omega), if_neg (by omega), if_neg (by omega), if_neg (by omega), if_neg (by omega), if_neg (by omega), if_pos (by omega), if_pos (by omega), if_pos (by omega)]
  simp only [Int.toNat_natCast]
  rw [show p * 32 + u * 4 + i = 32 * p + 4 * u + i by omega]
theorem part_out {p u i : Int} (h : ¬ ((p = 0 ∨ p = 1) ∧ (0 ≤ u ∧ u < 8) ∧ 0 ≤ i ∧ i < 4)) (K : Nat) : part K p u i = some 0 := by
  unfold part
  repeat' split
  all_goals first | rfl | omega

theorem HalfMerges_eq (f : Nat → Int) (p u i : Int) : lawHalfMerges 65 f p u i = some true := by
  have hs : ∃ r, merge 65 f = some r ∧ rMerge 65 f = some r := by
    rw [merge_eq 65 (by decide), rMerge_eq 65 (by decide)]
    split <;> exact ⟨_, rfl, rfl⟩
  obtain ⟨r, h1, h2⟩ := hs
  have key : ∀ v, part 65 p u i = some v → lawHalfMerges_j1 65 p u i r r v = some true := fun v hv => by
    unfold lawHalfMerges_j1
    rw [if_pos (eqF_refl _ _), if_pos rfl, hv, Option.bind_some, if_pos rfl, awake10_eq 65 (by decide)]; rfl
  unfold lawHalfMerges
  rw [h1, h2]
  simp only [Option.bind_some]
  have e : rParts 65 = some partsL := rfl
  by_cases h : (p = 0 ∨ p = 1) ∧ (0 ≤ u ∧ u < 8) ∧ 0 ≤ i ∧ i < 4
  · have hin : ((rParts 65).bind fun r17 => (if 0 ≤ (w64 ((w64 ((w64 (32 * p)) + (w64 (4 * u)))) + i)) ∧ (w64 ((w64 ((w64 (32 * p)) + (w64 (4 * u)))) + i)) < (r17.length : Int) then lawHalfMerges_j1 65 p u i r r (r17.getD ((w64 ((w64 ((w64 (32 * p)) + (w64 (4 * u)))) + i)).toNat) 0) else none)) = some true := by
      obtain ⟨p', rfl⟩ := Int.eq_ofNat_of_zero_le (show 0 ≤ p by omega)
      obtain ⟨u', rfl⟩ := Int.eq_ofNat_of_zero_le h.2.1.1
      obtain ⟨i', rfl⟩ := Int.eq_ofNat_of_zero_le h.2.2.1
      rw [e, Option.bind_some, ix3 (by omega) (by omega) (by omega), partsL_length, if_pos (by omega)]
      refine key _ ?_
      rw [part_in (by omega) (by omega) (by omega), Int.toNat_natCast, getD_parts]
    by_cases hp : p = 0
    · rw [if_pos hp, if_pos h.2.1.1, if_pos h.2.1.2, if_pos h.2.2.1, if_pos h.2.2.2]
      exact hin
    · rw [if_neg hp, if_pos (by omega), if_pos h.2.1.1, if_pos h.2.1.2, if_pos h.2.2.1, if_pos h.2.2.2]
      exact hin
  · have := key 0 (part_out h 65)
    repeat' split
    all_goals first | exact this | omega

/-! ### what a merge looks at -/
theorem mF_congr {f g : Nat → Int} (h : ∀ b i k, b < 4 → i < 4 → k < 4 → f (64 * b + (8 * i + k)) = g (64 * b + (8 * i + k))) (j : Nat) : mF f j = mF g j := by
  unfold mF acF
  refine sumN_congr fun p hp => sumN_congr fun i hi => ?_
  congr 1
  refine sumN_congr fun q hq => sumN_congr fun k hk => ?_
  rw [h _ _ _ (by omega) hi hk]
theorem hF_congr {f g : Nat → Int} (h : ∀ b i k, b < 4 → i < 4 → k < 4 → f (64 * b + (8 * i + k)) = g (64 * b + (8 * i + k))) : hF f = hF g := by
  funext j
  unfold hF
  rw [mF_congr h]
theorem hF_zf : eqF 64 (hF zf) zf := by
  unfold eqF hF mF acF sumN
  decide +kernel

theorem HalfNoughts_eq (f : Nat → Int) (a b : Int) (h1 : 0 ≤ a) (h2 : a ≤ 255) : lawHalfNoughts 65 f a b = some true := by
  have ha := awake10_eq 65 (by decide)
  have haw : ((awake10 65).bind fun r => some r) = some true := by rw [ha]; rfl
  unfold lawHalfNoughts
  rw [merge_eq 65 (by decide), if_pos (show in4 zf = true by decide +kernel), Option.bind_some, if_neg (fun h => h hF_zf), if_neg (fun h => h rfl)]
  obtain ⟨n, rfl⟩ := Int.eq_ofNat_of_zero_le h1
  have e : Int.tmod (w64 (n : Int)) 64 = ((n % 64 : Nat) : Int) := by
    rw [w64_id (by omega) (by omega), Int.tmod_eq_emod_of_nonneg (by omega)]; omega
  have e2 : w64 (Int.tdiv ((n % 64 : Nat) : Int) 8) = ((n % 64 / 8 : Nat) : Int) := by
    rw [Int.tdiv_eq_ediv_of_nonneg (by omega), w64_id (by omega) (by omega)]; omega
  have e3 : Int.tmod ((n % 64 : Nat) : Int) 8 = ((n % 64 % 8 : Nat) : Int) := by
    rw [Int.tmod_eq_emod_of_nonneg (by omega)]; omega
  simp only [e, e2, e3, Int.toNat_natCast, haw]
  have key : ¬ (n % 64 / 8 < 4 ∧ n % 64 % 8 < 4) → ¬ b < -1048576 → ¬ 1048576 < b → ¬ f (n % 64) < -1048576 → ¬ 1048576 < f (n % 64) → lawHalfNoughts_j1 65 f (n : Int) b = some true := by
    intro k1 k2 k3 k4 k5
    unfold lawHalfNoughts_j1
    simp only [e, Int.toNat_natCast, haw]
    rw [if_pos (by omega), merge_eq 65 (by decide), merge_eq 65 (by decide)]
    have hh : hF (upd f (n % 64) b) = hF f := hF_congr fun c i k hc hi hk => by
      rw [upd_apply, if_neg (by omega)]
    have hi : in4 (upd f (n % 64) b) = in4 f := by
      rw [Bool.eq_iff_iff, in4_true, in4_true]
      constructor
      · intro h j hj
        by_cases hj' : n % 64 = j
        · subst hj'; omega
        · have := h j hj
          rwa [upd_apply, if_neg hj'] at this
      · intro h j hj
        rw [upd_apply]
        by_cases hj' : n % 64 = j
        · rw [if_pos hj']; omega
        · rw [if_neg hj']; exact h j hj
    rw [hh, hi]
    split
    · simp only [Option.bind_some]
      rw [if_pos (eqF_refl _ _), if_pos trivial]
    · simp only [Option.bind_some]
      rw [if_pos (eqF_refl _ _), if_pos trivial]
  repeat' split
  all_goals first | rfl | (refine key ?_ ?_ ?_ ?_ ?_ <;> omega) | omega

/-! ### turned about -/
theorem rnd0_zero {d : Int} (hd : 1 ≤ d) : rnd0 0 d = 0 := by
  unfold rnd0
  simp
  omega
theorem rnd_neg (n d : Int) : rnd (-n) d = - rnd n d := by
  unfold rnd
  by_cases hc : d < 1 ∨ d > 1152921504606846976 ∨ n > 1152921504606846976 ∨ n < -1152921504606846976
  · rw [if_pos hc, if_pos (by omega)]; rfl
  · rw [if_neg hc, if_neg (by omega)]
    by_cases h0 : n = 0
    · subst h0
      simp [rnd0_zero (show 1 ≤ d by omega)]
    · by_cases h1 : n < 0
      · rw [if_pos h1, if_neg (by omega)]; omega
      · rw [if_neg h1, if_pos (by omega), Int.neg_neg]
theorem rnd_bd (n d : Int) : -1152921504606846977 ≤ rnd n d ∧ rnd n d ≤ 1152921504606846977 := by
  unfold rnd
  split
  · omega
  · split
    · have := rnd0_bd (-n) d (by omega) (by omega) (by omega); omega
    · have := rnd0_bd n d (by omega) (by omega) (by omega); omega
theorem mF_neg (f : Nat → Int) (j : Nat) : mF (fun i => - f i) j = - mF f j := by
  unfold mF acF
  rw [← sumN_neg]
  refine sumN_congr fun p _ => ?_
  rw [← sumN_neg]
  refine sumN_congr fun i _ => ?_
  rw [← Int.mul_neg, ← sumN_neg]
  congr 1
  refine sumN_congr fun q _ => ?_
  rw [← sumN_neg]
  refine sumN_congr fun k _ => ?_
  rw [Int.mul_neg]
theorem hF_neg {f g : Nat → Int} (h : ∀ j, j < 256 → g j = - f j) {j : Nat} (hj : j < 64) : hF g j = - hF f j := by
  unfold hF
  rw [if_pos hj, if_pos hj, mF_congr (g := fun i => - f i) (fun b i k hb hi hk => h _ (by omega)), mF_neg, rnd_neg]
theorem hF_bd (f : Nat → Int) (j : Nat) : -1152921504606846977 ≤ hF f j ∧ hF f j ≤ 1152921504606846977 := by
  unfold hF
  split
  · exact rnd_bd _ _
  · omega

theorem HalfSigns_eq (f : Nat → Int) : lawHalfSigns 65 f = some true := by
  have ha := awake10_eq 65 (by decide)
  have haw : ((awake10 65).bind fun r => some r) = some true := by rw [ha]; rfl
  unfold lawHalfSigns
  have key : ∀ (d k i : Nat), i + d = 4 → d < k → (∀ q, q < i → inB (shf f (q * 64)) (-1048576) 1048576 = true) → lawHalfSigns_l2 65 f k (i : Int) (fun j => if j < i * 64 then w64 (0 - f j) else zf j) = some true := by
    intro d
    induction d with
    | zero =>
      intro k i hi hk hq
      obtain ⟨k, rfl⟩ : ∃ m, k = m + 1 := ⟨k - 1, by omega⟩
      have : i = 4 := by omega
      subst this
      rw [lawHalfSigns_l2.eq_2, if_neg (by omega)]
      have hin : in4 f = true := by
        unfold in4
        rw [allB_true]
        exact hq
      have hb := in4_true.1 hin
      generalize hg : (fun j => if j < 4 * 64 then w64 (0 - f j) else zf j) = g
      have hgf : ∀ j, j < 256 → g j = - f j := fun j hj => by
        have := hb j hj
        rw [← hg]; simp only [if_pos (show j < 4 * 64 by omega)]
        rw [w64_id (by omega) (by omega)]; omega
      have hin' : in4 g = true := in4_true.2 fun j hj => by have := hb j hj; rw [hgf j hj]; omega
      unfold lawHalfSigns_j1
      rw [merge_eq 65 (by decide), merge_eq 65 (by decide), if_pos hin, if_pos hin']
      simp only [Option.bind_some]
      rw [loop_pass 64 (lawHalfSigns_l1 65 (hF g, 0) (hF f, 0)) (some true) ?_ ?_ 65 (by decide)]
      · intro k
        rw [lawHalfSigns_l1.eq_2, if_neg (by omega)]
        unfold lawHalfSigns_j2
        rw [if_pos rfl, if_pos rfl, haw]
      · intro k i hi
        rw [lawHalfSigns_l1.eq_2, if_pos (by omega), if_pos (by omega)]
        simp only [Int.toNat_natCast]
        have e1 := hF_neg hgf hi
        have b1 := hF_bd f i
        rw [if_neg (by rw [e1, w64_id (by omega) (by omega)]; omega), w64_succ (by omega)]
    | succ d ih =>
      intro k i hi hk hq
      obtain ⟨k, rfl⟩ : ∃ m, k = m + 1 := ⟨k - 1, by omega⟩
      rw [lawHalfSigns_l2.eq_2, if_pos (by omega), if_pos (by omega), Int.toNat_natCast, rIn_eq 65 (by decide), Option.bind_some]
      by_cases h : inB (shf f (i * 64)) (-1048576) 1048576 = true
      · rw [if_pos h]
        rw [loop_row0 (i * 64) 64 (lawHalfSigns_l3 65 (lawHalfSigns_l2 65 f k) f i) (lawHalfSigns_j3 65 (lawHalfSigns_l2 65 f k) i) (fun j => w64 (0 - f j)) ?_ ?_ 65 (by decide)]
        · unfold lawHalfSigns_j3
          rw [w64_succ (by omega)]
          have es : (fun j => if i * 64 ≤ j ∧ j < i * 64 + 64 then w64 (0 - f j) else if j < i * 64 then w64 (0 - f j) else zf j) = fun j => if j < (i + 1) * 64 then w64 (0 - f j) else zf j := by
            funext j
            by_cases h1 : i * 64 ≤ j ∧ j < i * 64 + 64
            · rw [if_pos h1, if_pos (by omega)]
            · rw [if_neg h1]
              by_cases h2 : j < i * 64
              · rw [if_pos h2, if_pos (by omega)]
              · rw [if_neg h2, if_neg (by omega)]
          rw [es]
          refine ih k (i + 1) (by omega) (by omega) fun q hq' => ?_
          by_cases hqi : q = i
          · rw [hqi]; exact h
          · exact hq q (by omega)
        · intro k' o
          rw [lawHalfSigns_l3.eq_2, if_neg (by omega)]
        · intro k' c o hc
          rw [lawHalfSigns_l3.eq_2, if_pos (by omega), if_pos (by omega), w64_succ (by omega)]
          simp only [Int.toNat_natCast]
          rfl
      · rw [if_neg h, haw]
  have := key 4 65 0 (by omega) (by omega) (fun q hq => by omega)
  have e0 : (fun j => if j < 0 * 64 then w64 (0 - f j) else zf j) = zf := by
    funext j
    rw [if_neg (by omega)]
  rw [e0] at this
  exact this
end Go.Proofs.YtfpafpmcfkapkaaDoor
