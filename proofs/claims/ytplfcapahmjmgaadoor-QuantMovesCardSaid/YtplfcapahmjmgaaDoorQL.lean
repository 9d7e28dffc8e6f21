import Derived.Test.YtplfcapahmjmgaaDoorQP
namespace Go.Proofs.YtplfcapahmjmgaaDoor
open Go Go.RowKit K

theorem QuantRounds_eq (n d : Int) : lawQuantRounds 65 n d = some true := by
  unfold lawQuantRounds
  rw [if_pos rfl, awake8_eq 65 (by decide)]; rfl

/-! ### finer -/
theorem scale_anti {a b : Int} (h1 : 1 ≤ a) (h2 : a ≤ b) (h3 : b ≤ 100) : scaleF b ≤ scaleF a := by
  unfold scaleF
  by_cases hb : b < 50
  · rw [if_pos hb, if_pos (by omega), Int.tdiv_eq_ediv_of_nonneg (by omega), Int.tdiv_eq_ediv_of_nonneg (by omega)]
    rw [Int.le_ediv_iff_mul_le (by omega)]
    have h : 5000 / b * b ≤ 5000 := Int.ediv_mul_le _ (by omega)
    have h0 : 0 ≤ 5000 / b := Int.ediv_nonneg (by omega) (by omega)
    have := Int.mul_le_mul_of_nonneg_left h2 h0
    omega
  · rw [if_neg hb]
    by_cases ha : a < 50
    · rw [if_pos ha, Int.tdiv_eq_ediv_of_nonneg (by omega)]
      have : 100 ≤ 5000 / a := by
        rw [Int.le_ediv_iff_mul_le (by omega)]
        omega
      omega
    · rw [if_neg ha]; omega

theorem step_anti {c : Bool} {a b : Int} (h1 : 1 ≤ a) (h2 : a ≤ b) (h3 : b ≤ 100) {j : Nat} (hj : j < 64) : stepF c b j ≤ stepF c a j := by
  have hs := scale_anti h1 h2 h3
  have hb := base_bd c j hj
  have h0 := scale_bd (q := b) (by omega) h3
  unfold stepF
  have hm := Int.mul_le_mul_of_nonneg_left hs (show 0 ≤ baseF c j by omega)
  have hm0 := Int.mul_nonneg (show 0 ≤ baseF c j by omega) h0.1
  rw [Int.tdiv_eq_ediv_of_nonneg (by omega), Int.tdiv_eq_ediv_of_nonneg (by omega)]
  have : (baseF c j * scaleF b + 50) / 100 ≤ (baseF c j * scaleF a + 50) / 100 := Int.ediv_le_ediv (by omega) (by omega)
  unfold imin imax
  repeat' split
  all_goals omega

theorem QuantFiner_eq (c : Bool) (a b : Int) : lawQuantFiner 65 c a b = some true := by
  unfold lawQuantFiner
  have ha := awake8_eq 65 (by decide)
  rw [qSteps_eq 65 (by decide), qSteps_eq 65 (by decide)]
  by_cases h1 : 1 ≤ a ∧ a ≤ 100
  · by_cases h2 : 1 ≤ b ∧ b ≤ 100
    · rw [if_pos h1, if_pos h2]
      simp only [Option.bind_some]
      rw [if_neg (by decide), if_neg (by decide)]
      by_cases h3 : b < a
      · rw [if_pos h3, ha]; rfl
      · rw [if_neg h3]
        rw [loop_pass 64 (lawQuantFiner_l1 65 (stepsF c a, 0) (stepsF c b, 0)) (some true) ?_ ?_ 65 (by decide)]
        · intro k
          rw [lawQuantFiner_l1.eq_2, if_neg (by omega)]
          unfold lawQuantFiner_j1
          rw [ha]; rfl
        · intro k i hi
          rw [lawQuantFiner_l1.eq_2, if_pos (by omega), if_pos (by omega)]
          simp only [Int.toNat_natCast]
          have := step_anti (c := c) h1.1 (by omega : a ≤ b) h2.2 hi
          rw [if_neg (by unfold stepsF; rw [if_pos hi, if_pos hi]; omega), w64_succ (by omega)]
    · rw [if_pos h1, if_neg h2]
      simp only [Option.bind_some]
      rw [if_neg (by decide), if_pos (by decide), ha]; rfl
  · rw [if_neg h1]
    have : ∀ x : Option ((Nat → Int) × Int), ∃ r, (if 1 ≤ b ∧ b ≤ 100 then some (stepsF c b, (0 : Int)) else some (zf, 2)) = some r := by
      intro _; split <;> exact ⟨_, rfl⟩
    obtain ⟨r, hr⟩ := this none
    rw [hr]
    simp only [Option.bind_some]
    rw [if_pos (by decide), ha]; rfl

theorem QuantMoves_eq (b s : Nat → Int) : lawQuantMoves 65 b s = some true := by
  unfold lawQuantMoves
  rw [qDown_eq 65 (by decide), rDown_eq 65 (by decide), qUp_eq 65 (by decide), rUp_eq 65 (by decide), awake8_eq 65 (by decide)]
  have e1 : eqF 64 (fun j => if j < 64 then downF b s j else b j) (fun j => if j < 64 then downF b s j else 0) := fun i hi => by simp only [if_pos hi]
  have e2 : eqF 64 (fun j => if j < 64 then upF b s j else b j) (fun j => if j < 64 then upF b s j else 0) := fun i hi => by simp only [if_pos hi]
  have e3 : eqF 64 zf zf := eqF_refl _ _
  by_cases h1 : inB s 1 255 = true
  · by_cases h2 : inB b (-16777216) 16777216 = true
    · by_cases h3 : inB b (-1023) 1023 = true
      · simp only [h1, h2, h3, if_true, Option.bind_some, e1, e2]
      · simp only [h1, h2, h3, if_true, Option.bind_some, e1, e3, if_false, Bool.false_eq_true]
    · by_cases h3 : inB b (-1023) 1023 = true
      · simp only [h1, h2, h3, if_true, Option.bind_some, e3, e2, if_false, Bool.false_eq_true]
      · simp only [h1, h2, h3, if_true, Option.bind_some, e3, if_false, Bool.false_eq_true]
  · simp only [h1, if_true, Option.bind_some, e3, if_false, Bool.false_eq_true]

/-! ### rounding -/
theorem rnd0_near {n d : Int} (_ : 0 ≤ n) (hd : 1 ≤ d) : 2 * (n - d * rnd0 n d) ≤ d ∧ -d ≤ 2 * (n - d * rnd0 n d) := by
  have h3 : 0 ≤ n % d := Int.emod_nonneg _ (by omega)
  have h4 : n % d < d := Int.emod_lt_of_pos _ (by omega)
  have h5 := Int.mul_ediv_add_emod n d
  unfold rnd0
  split
  · rw [Int.mul_add, Int.mul_one]; omega
  · omega
theorem rnd_near {n d : Int} (hn : -1152921504606846976 ≤ n) (hn2 : n ≤ 1152921504606846976) (hd : 1 ≤ d) (hd2 : d ≤ 1152921504606846976) : 2 * (n - d * rnd n d) ≤ d ∧ -d ≤ 2 * (n - d * rnd n d) := by
  unfold rnd
  rw [if_neg (by omega)]
  split
  · have := rnd0_near (n := -n) (d := d) (by omega) hd
    rw [Int.mul_neg]
    omega
  · exact rnd0_near (by omega) hd
theorem rnd0_zero {d : Int} (hd : 1 ≤ d) : rnd0 0 d = 0 := by
  unfold rnd0
  simp
  omega
theorem rnd_neg (n d : Int) : rnd (-n) d = - rnd n d := by
  unfold rnd
  by_cases hc : d < 1 ∨ d > 1152921504606846976 ∨ n > 1152921504606846976 ∨ n < -1152921504606846976
  · rw [if_pos hc, if_pos (by omega)]; rfl
  · rw [if_neg hc, if_neg (by omega)]
    by_cases h0 : n = 0
    · subst h0
      simp [rnd0_zero (show 1 ≤ d by omega)]
    · by_cases h1 : n < 0
      · rw [if_pos h1, if_neg (by omega)]; omega
      · rw [if_neg h1, if_pos (by omega), Int.neg_neg]
theorem rnd_mul {x s : Int} (h1 : -1023 ≤ x) (h2 : x ≤ 1023) (h3 : 1 ≤ s) (h4 : s ≤ 255) : rnd (x * s) s = x := by
  have hb := up_bd h1 h2 h3 h4
  have h := rnd_near (n := x * s) (d := s) (by omega) (by omega) h3 (by omega)
  rw [Int.mul_comm x s, ← Int.mul_sub] at h
  rw [Int.mul_comm s x] at h
  by_cases e : x - rnd (x * s) s = 0
  · omega
  · exfalso
    by_cases hp : 1 ≤ x - rnd (x * s) s
    · have := Int.mul_le_mul_of_nonneg_left hp (show 0 ≤ s by omega)
      omega
    · have := Int.mul_le_mul_of_nonneg_left (show x - rnd (x * s) s ≤ -1 by omega) (show 0 ≤ s by omega)
      omega
theorem down_clamp (x : Int) : -1023 ≤ imin (imax x (-1023)) 1023 ∧ imin (imax x (-1023)) 1023 ≤ 1023 := by
  unfold imin imax
  repeat' split
  all_goals omega
theorem down_id {x : Int} (h1 : -1023 ≤ x) (h2 : x ≤ 1023) : imin (imax x (-1023)) 1023 = x := by
  unfold imin imax
  repeat' split
  all_goals omega

theorem back_j1 (b s : Nat → Int) : lawQuantBack_j1 65 b s = some true := by
  unfold lawQuantBack_j1
  have ha := awake8_eq 65 (by decide)
  rw [qDown_eq 65 (by decide)]
  by_cases h1 : inB s 1 255 = true
  · by_cases h2 : inB b (-16777216) 16777216 = true
    · rw [if_pos h1, if_pos h2]
      simp only [Option.bind_some]
      rw [if_neg (by decide), qUp_eq 65 (by decide), if_pos h1, if_pos]
      · simp only [Option.bind_some]
        rw [if_neg (by decide)]
        generalize hU : (fun j => if j < 64 then upF (fun j => if j < 64 then downF b s j else b j) s j else if j < 64 then downF b s j else b j) = U
        have hU' : ∀ j, j < 64 → U j = downF b s j * s j := fun j hj => by
          rw [← hU]
          simp only [if_pos hj, upF]
        rw [loop_pass 64 (lawQuantBack_l1 65 b s (U, 0)) (some true) ?_ ?_ 65 (by decide)]
        · intro k
          rw [lawQuantBack_l1.eq_2, if_neg (by omega)]
          unfold lawQuantBack_j2
          rw [ha]; rfl
        · intro k i hi
          rw [lawQuantBack_l1.eq_2, if_pos (by omega), if_pos (by omega)]
          simp only [Int.toNat_natCast]
          have a1 := inB_true.1 h1 i hi
          have a2 := inB_true.1 h2 i hi
          have hd := down_clamp (rnd (b i) (s i))
          have hu := up_bd hd.1 hd.2 a1.1 a1.2
          have hn := rnd_near (n := b i) (d := s i) (by omega) (by omega) a1.1 (by omega)
          have hu' : U i = imin (imax (rnd (b i) (s i)) (-1023)) 1023 * s i := hU' i hi
          have w1 : w64 (1023 * s i) = 1023 * s i := w64_id (by omega) (by omega)
          have w2 : w64 (-1023 * s i) = -1023 * s i := w64_id (by omega) (by omega)
          simp only [w1, w2, hu']
          have hlast : lawQuantBack_j3 65 (lawQuantBack_l1 65 b s (U, 0) k) (i : Int) = lawQuantBack_l1 65 b s (U, 0) k ((i + 1 : Nat) : Int) := by
            unfold lawQuantBack_j3
            rw [w64_succ (by omega)]
          by_cases c1 : b i ≤ 1023 * s i
          · rw [if_pos c1]
            by_cases c2 : -1023 * s i ≤ b i
            · rw [if_pos c2]
              have r1 : rnd (b i) (s i) ≤ 1023 := by
                rcases Int.lt_or_le 1023 (rnd (b i) (s i)) with h | h
                · have := Int.mul_le_mul_of_nonneg_left (show 1024 ≤ rnd (b i) (s i) by omega) (show 0 ≤ s i by omega)
                  omega
                · exact h
              have r2 : -1023 ≤ rnd (b i) (s i) := by
                rcases Int.lt_or_le (rnd (b i) (s i)) (-1023) with h | h
                · have := Int.mul_le_mul_of_nonneg_left (show rnd (b i) (s i) ≤ -1024 by omega) (show 0 ≤ s i by omega)
                  omega
                · exact h
              rw [down_id r2 r1] at hu ⊢
              rw [Int.mul_comm (rnd (b i) (s i)) (s i)] at hu ⊢
              have w3 : w64 (b i - s i * rnd (b i) (s i)) = b i - s i * rnd (b i) (s i) := w64_id (by omega) (by omega)
              simp only [w3]
              rw [if_neg (by rw [w64_id (by omega) (by omega)]; omega), if_neg (by rw [w64_id (by omega) (by omega)]; omega)]
              exact hlast
            · rw [if_neg c2]; exact hlast
          · rw [if_neg c1]; exact hlast
      · rw [inB_true]
        intro j hj
        simp only [if_pos hj, downF]
        exact down_clamp _
    · rw [if_pos h1, if_neg h2]
      simp only [Option.bind_some]
      rw [if_pos (by decide), if_pos (eqF_refl _ _), ha]; rfl
  · rw [if_neg h1]
    simp only [Option.bind_some]
    rw [if_pos (by decide), if_pos (eqF_refl _ _), ha]; rfl

theorem QuantBack_eq (b s : Nat → Int) : lawQuantBack 65 b s = some true := by
  unfold lawQuantBack
  rw [qUp_eq 65 (by decide)]
  by_cases h1 : inB s 1 255 = true
  · by_cases h2 : inB b (-1023) 1023 = true
    · rw [if_pos h1, if_pos h2]
      simp only [Option.bind_some]
      rw [if_pos trivial, qDown_eq 65 (by decide), if_pos h1, if_pos]
      · simp only [Option.bind_some]
        rw [if_neg, if_neg (by decide), back_j1]
        intro hne
        apply hne
        intro i hi
        simp only [if_pos hi, downF, upF]
        have a1 := inB_true.1 h1 i hi
        have a2 := inB_true.1 h2 i hi
        rw [rnd_mul a2.1 a2.2 a1.1 a1.2, down_id a2.1 a2.2]
      · rw [inB_true]
        intro j hj
        simp only [if_pos hj, upF]
        have a1 := inB_true.1 h1 j hj
        have a2 := inB_true.1 h2 j hj
        have := up_bd a2.1 a2.2 a1.1 a1.2
        omega
    · rw [if_pos h1, if_neg h2]
      simp only [Option.bind_some]
      rw [if_neg (by decide), back_j1]
  · rw [if_neg h1]
    simp only [Option.bind_some]
    rw [if_neg (by decide), back_j1]

/-! ### turned about -/
theorem down_neg (x : Int) : imin (imax (-x) (-1023)) 1023 = - imin (imax x (-1023)) 1023 := by
  unfold imin imax
  repeat' split
  all_goals omega

theorem QuantTurns_eq (b s : Nat → Int) : lawQuantTurns 65 b s = some true := by
  unfold lawQuantTurns
  have ha := awake8_eq 65 (by decide)
  rw [rIn_eq 65 (by decide)]
  simp only [Option.bind_some]
  by_cases h0 : inB b (-16777216) 16777216 = true
  · rw [if_pos h0]
    have hb := inB_true.1 h0
    rw [loop_upd0 64 (lawQuantTurns_l2 65 b s) (lawQuantTurns_j1 65 b s) (fun j _ => w64 (0 - b j)) ?_ ?_ 65 (by decide)]
    · generalize hM : (fun j => if j < 64 then w64 (0 - b j) else zf j) = M
      have hM' : ∀ j, j < 64 → M j = - b j := fun j hj => by
        rw [← hM]
        have := hb j hj
        simp only [if_pos hj]
        rw [w64_id (by omega) (by omega)]; omega
      have hi1 : ∀ lo : Int, inB M (-lo) lo = inB b (-lo) lo := fun lo => by
        rw [Bool.eq_iff_iff, inB_true, inB_true]
        constructor
        · intro h j hj; have := h j hj; rw [hM' j hj] at this; omega
        · intro h j hj; have := h j hj; rw [hM' j hj]; omega
      unfold lawQuantTurns_j1
      rw [qDown_eq 65 (by decide), qDown_eq 65 (by decide), qUp_eq 65 (by decide), qUp_eq 65 (by decide)]
      rw [show inB M (-16777216) 16777216 = inB b (-16777216) 16777216 from hi1 16777216, show inB M (-1023) 1023 = inB b (-1023) 1023 from hi1 1023]
      have key : ∀ (x y u v : (Nat → Int) × Int), x.2 = y.2 → u.2 = v.2 → (∀ i, i < 64 → x.1 i = - y.1 i) → (∀ i, i < 64 → u.1 i = - v.1 i) → (∀ i, i < 64 → -260865000 ≤ y.1 i ∧ y.1 i ≤ 260865000) → (∀ i, i < 64 → -260865000 ≤ v.1 i ∧ v.1 i ≤ 260865000) →
          lawQuantTurns_l1 65 x y u v 65 0 = some true := by
        intro x y u v e1 e2 f1 f2 b1 b2
        rw [loop_pass 64 (lawQuantTurns_l1 65 x y u v) (some true) ?_ ?_ 65 (by decide)]
        · intro k
          rw [lawQuantTurns_l1.eq_2, if_neg (by omega)]
          unfold lawQuantTurns_j2
          rw [if_pos e1, if_pos e2, ha]; rfl
        · intro k i hi
          rw [lawQuantTurns_l1.eq_2, if_pos (by omega), if_pos (by omega)]
          simp only [Int.toNat_natCast]
          have q1 := f1 i hi
          have q2 := f2 i hi
          have q3 := b1 i hi
          have q4 := b2 i hi
          rw [if_neg (by rw [w64_id (by omega) (by omega)]; omega), if_neg (by rw [w64_id (by omega) (by omega)]; omega), w64_succ (by omega)]
      have z1 : ∀ i, i < 64 → zf i = - zf i := fun _ _ => rfl
      have z2 : ∀ i, i < 64 → -260865000 ≤ zf i ∧ zf i ≤ 260865000 := fun _ _ => by unfold zf; omega
      by_cases h1 : inB s 1 255 = true
      · have d1 : ∀ i, i < 64 → (fun j => if j < 64 then downF b s j else b j) i = - (fun j => if j < 64 then downF M s j else M j) i := fun i hi => by
          simp only [if_pos hi, downF]
          rw [hM' i hi, rnd_neg, down_neg, Int.neg_neg]
        have d2 : ∀ i, i < 64 → -260865000 ≤ (fun j => if j < 64 then downF M s j else M j) i ∧ (fun j => if j < 64 then downF M s j else M j) i ≤ 260865000 := fun i hi => by
          simp only [if_pos hi, downF]
          have := down_clamp (rnd (M i) (s i))
          omega
        rw [if_pos h1, if_pos h1, if_pos h1, if_pos h1, if_pos h0, if_pos h0]
        by_cases h3 : inB b (-1023) 1023 = true
        · rw [if_pos h3, if_pos h3]
          simp only [Option.bind_some]
          refine key _ _ _ _ rfl rfl d1 (fun i hi => ?_) d2 (fun i hi => ?_)
          · simp only [if_pos hi, upF]
            rw [hM' i hi, Int.neg_mul, Int.neg_neg]
          · simp only [if_pos hi, upF]
            have a1 := inB_true.1 h1 i hi
            have a2 := inB_true.1 h3 i hi
            have := up_bd (x := M i) (by rw [hM' i hi]; omega) (by rw [hM' i hi]; omega) a1.1 a1.2
            omega
        · rw [if_neg h3, if_neg h3]
          simp only [Option.bind_some]
          exact key _ _ _ _ rfl rfl d1 z1 d2 z2
      · rw [if_neg h1, if_neg h1, if_neg h1, if_neg h1]
        simp only [Option.bind_some]
        exact key _ _ _ _ rfl rfl z1 z1 z2 z2
    · intro k f
      rw [lawQuantTurns_l2.eq_2, if_neg (by omega)]
    · intro k i f hi
      rw [lawQuantTurns_l2.eq_2, if_pos (by omega), if_pos (by omega)]
      simp only [Int.toNat_natCast]
      rw [w64_succ (by omega)]
  · rw [if_neg h0, ha]; rfl
end Go.Proofs.YtplfcapahmjmgaaDoor
