import Derived.Test.YtfpafpmcfkapkaaDoorHL
/-! Rows for columns: layer 10. -/
namespace Go.Proofs.YtfpafpmcfkapkaaDoor
open Go Go.RowKit K

def tr (j : Nat) : Nat := j % 8 * 8 + j / 8
def t2 (q : Nat) : Nat := q % 2 * 2 + q / 2
theorem ixt {i : Nat} (hi : i < 64) : w64 (w64 (Int.tmod (i : Int) 8 * 8) + w64 (Int.tdiv (i : Int) 8)) = ((tr i : Nat) : Int) := by
  unfold tr
  rw [Int.tmod_eq_emod_of_nonneg (by omega), Int.tdiv_eq_ediv_of_nonneg (by omega)]
  rw [w64_id (x := (i : Int) % 8 * 8) (by omega) (by omega), w64_id (x := (i : Int) / 8) (by omega) (by omega), w64_id (by omega) (by omega)]
  omega
theorem ixt2 {i : Nat} (hi : i < 4) : w64 (w64 (Int.tmod (i : Int) 2 * 2) + w64 (Int.tdiv (i : Int) 2)) = ((t2 i : Nat) : Int) := by
  unfold t2
  rw [Int.tmod_eq_emod_of_nonneg (by omega), Int.tdiv_eq_ediv_of_nonneg (by omega)]
  rw [w64_id (x := (i : Int) % 2 * 2) (by omega) (by omega), w64_id (x := (i : Int) / 2) (by omega) (by omega), w64_id (by omega) (by omega)]
  omega
theorem tr_lt {i : Nat} (hi : i < 64) : tr i < 64 := by unfold tr; omega
theorem tr_tr {i : Nat} (hi : i < 64) : tr (tr i) = i := by unfold tr; omega
theorem t2_lt {i : Nat} (hi : i < 4) : t2 i < 4 := by unfold t2; omega
theorem t2_t2 {i : Nat} (hi : i < 4) : t2 (t2 i) = i := by unfold t2; omega
def tt (j : Nat) : Nat := t2 (j / 64) * 64 + tr (j % 64)
theorem tt_lt {j : Nat} (hj : j < 256) : tt j < 256 := by
  have h1 := t2_lt (i := j / 64) (by omega)
  have h2 := tr_lt (i := j % 64) (by omega)
  unfold tt
  omega
theorem tt_tt {j : Nat} (hj : j < 256) : tt (tt j) = j := by
  have h1 := t2_lt (i := j / 64) (by omega)
  have h2 := tr_lt (i := j % 64) (by omega)
  have e1 : tt j / 64 = t2 (j / 64) := by unfold tt; omega
  have e2 : tt j % 64 = tr (j % 64) := by unfold tt; omega
  show t2 (tt j / 64) * 64 + tr (tt j % 64) = j
  rw [e1, e2, t2_t2 (by omega), tr_tr (by omega)]
  omega

theorem rF_tt {f g : Nat → Int} (hg : ∀ j, j < 256 → g j = f (tt j)) {j : Nat} (_ : j < 64) : rF g j = rF f (tr j) := by
  have e1 : tr j / 8 = j % 8 := by unfold tr; omega
  have e2 : tr j % 8 = j / 8 := by unfold tr; omega
  unfold rF
  rw [e1, e2, sumN_comm]
  refine sumN_congr fun p hp => sumN_congr fun q hq => ?_
  rw [sumN_comm]
  refine sumN_congr fun i hi => sumN_congr fun k hk => ?_
  unfold tF
  rw [hg _ (by omega), Int.mul_comm (partsF (32 * q + 4 * (j / 8) + k))]
  congr 2
  unfold tt t2 tr
  omega
theorem hF_tt {f g : Nat → Int} (hg : ∀ j, j < 256 → g j = f (tt j)) {j : Nat} (hj : j < 64) : hF f j = hF g (tr j) := by
  unfold hF
  rw [if_pos hj, if_pos (tr_lt hj), mF_eq, mF_eq, rF_tt hg (tr_lt hj), tr_tr hj]
theorem in4_tt {f g : Nat → Int} (hg : ∀ j, j < 256 → g j = f (tt j)) : in4 g = in4 f := by
  rw [Bool.eq_iff_iff, in4_true, in4_true]
  constructor
  · intro h j hj
    have := h (tt j) (tt_lt hj)
    rwa [hg _ (tt_lt hj), tt_tt hj] at this
  · intro h j hj
    rw [hg j hj]
    exact h _ (tt_lt hj)

def stF (f o : Nat → Int) (q i j : Nat) : Int := if j < 256 ∧ j / 64 = t2 q ∧ i ≤ tr (j % 64) then f (tt j) else o j
theorem HalfTurned_eq (f : Nat → Int) : lawHalfTurned 65 f = some true := by
  have ha := awake10_eq 65 (by decide)
  have haw : ((awake10 65).bind fun r => some r) = some true := by rw [ha]; rfl
  unfold lawHalfTurned
  have inner : ∀ (q : Nat), q < 4 → ∀ (cb : Int → (Nat → Int) → Option Bool) (d k i : Nat) (o : Nat → Int), i + d = 64 → d < k →
      lawHalfTurned_l3 65 cb f (q : Int) k (i : Int) o = cb ((q + 1 : Nat) : Int) (stF f o q i) := by
    intro q hq cb d
    induction d with
    | zero =>
      intro k i o hi hk
      obtain ⟨k, rfl⟩ : ∃ m, k = m + 1 := ⟨k - 1, by omega⟩
      have : i = 64 := by omega
      subst this
      rw [lawHalfTurned_l3.eq_2, if_neg (by omega)]
      unfold lawHalfTurned_j3
      rw [w64_succ (by omega)]
      refine congrArg (cb _) ?_
      funext j
      unfold stF
      rw [if_neg (fun h => by have := tr_lt (i := j % 64) (by omega); omega)]
    | succ d ih =>
      intro k i o hi hk
      obtain ⟨k, rfl⟩ : ∃ m, k = m + 1 := ⟨k - 1, by omega⟩
      have hti := tr_lt (i := i) (by omega)
      have htq := t2_lt hq
      rw [lawHalfTurned_l3.eq_2, if_pos (by omega), if_pos (by omega), ixt2 hq, ixt (by omega), if_pos (by omega), if_pos (by omega), w64_succ (by omega)]
      simp only [Int.toNat_natCast]
      rw [ih k (i + 1) _ (by omega) (by omega)]
      refine congrArg (cb _) ?_
      funext j
      unfold stF
      rw [upd_apply]
      by_cases hj : t2 q * 64 + tr i = j
      · have e1 : j / 64 = t2 q := by omega
        have e2 : j % 64 = tr i := by omega
        rw [e2, tr_tr (by omega), if_neg (by omega), if_pos hj, if_pos ⟨by omega, e1, Nat.le_refl _⟩]
        unfold shf tt
        rw [e1, e2, t2_t2 hq, tr_tr (by omega)]
      · rw [if_neg hj]
        by_cases h : j < 256 ∧ j / 64 = t2 q ∧ i + 1 ≤ tr (j % 64)
        · rw [if_pos h, if_pos ⟨h.1, h.2.1, by omega⟩]
        · rw [if_neg h, if_neg]
          intro h'
          by_cases he : tr (j % 64) = i
          · have := tr_tr (i := j % 64) (by omega)
            rw [he] at this
            omega
          · exact h ⟨h'.1, h'.2.1, by omega⟩
  have key : ∀ (d k i : Nat), i + d = 4 → d < k → lawHalfTurned_l2 65 f k (i : Int) (fun j => if j < 256 ∧ t2 (j / 64) < i then f (tt j) else zf j) = some true := by
    intro d
    induction d with
    | zero =>
      intro k i hi hk
      obtain ⟨k, rfl⟩ : ∃ m, k = m + 1 := ⟨k - 1, by omega⟩
      have : i = 4 := by omega
      subst this
      rw [lawHalfTurned_l2.eq_2, if_neg (by omega)]
      generalize hg : (fun j => if j < 256 ∧ t2 (j / 64) < 4 then f (tt j) else zf j) = g
      have hgf : ∀ j, j < 256 → g j = f (tt j) := fun j hj => by
        rw [← hg]; simp only [if_pos (show j < 256 ∧ t2 (j / 64) < 4 from ⟨hj, t2_lt (by omega)⟩)]
      have hs : ∃ r s, merge 65 f = some r ∧ merge 65 g = some s ∧ r.2 = s.2 ∧ ∀ j, j < 64 → r.1 j = s.1 (tr j) := by
        rw [merge_eq 65 (by decide), merge_eq 65 (by decide), in4_tt hgf]
        split
        · exact ⟨_, _, rfl, rfl, rfl, fun j hj => hF_tt hgf hj⟩
        · exact ⟨_, _, rfl, rfl, rfl, fun j _ => rfl⟩
      obtain ⟨r, s, h1, h2, h3, h4⟩ := hs
      unfold lawHalfTurned_j1
      rw [h1, h2]
      simp only [Option.bind_some]
      rw [loop_pass 64 (lawHalfTurned_l1 65 r s) (some true) ?_ ?_ 65 (by decide)]
      · intro k
        rw [lawHalfTurned_l1.eq_2, if_neg (by omega)]
        unfold lawHalfTurned_j2
        rw [if_pos h3, haw]
      · intro k i hi
        have := tr_lt hi
        rw [lawHalfTurned_l1.eq_2, if_pos (by omega), if_pos (by omega), ixt hi, if_pos (by omega)]
        simp only [Int.toNat_natCast]
        rw [if_neg (fun h => h (h4 i hi)), w64_succ (by omega)]
    | succ d ih =>
      intro k i hi hk
      obtain ⟨k, rfl⟩ : ∃ m, k = m + 1 := ⟨k - 1, by omega⟩
      rw [lawHalfTurned_l2.eq_2, if_pos (by omega), if_pos (by omega)]
      have := inner i (by omega) (lawHalfTurned_l2 65 f k) 64 65 0 (fun j => if j < 256 ∧ t2 (j / 64) < i then f (tt j) else zf j) (by omega) (by omega)
      refine Eq.trans this ?_
      have es : stF f (fun j => if j < 256 ∧ t2 (j / 64) < i then f (tt j) else zf j) i 0 = fun j => if j < 256 ∧ t2 (j / 64) < i + 1 then f (tt j) else zf j := by
        funext j
        unfold stF
        by_cases h : j < 256 ∧ j / 64 = t2 i ∧ 0 ≤ tr (j % 64)
        · rw [if_pos h, if_pos ⟨h.1, by rw [h.2.1, t2_t2 (by omega)]; omega⟩]
        · rw [if_neg h]
          show (if j < 256 ∧ t2 (j / 64) < i then f (tt j) else zf j) = _
          by_cases h' : j < 256 ∧ t2 (j / 64) < i
          · rw [if_pos h', if_pos ⟨h'.1, by omega⟩]
          · rw [if_neg h', if_neg]
            intro hh
            have e : t2 (j / 64) = i := by omega
            have := t2_t2 (i := j / 64) (by omega)
            rw [e] at this
            exact h ⟨hh.1, this.symm, Nat.zero_le _⟩
      rw [es]
      exact ih k (i + 1) (by omega) (by omega)
  have := key 4 65 0 (by omega) (by omega)
  have e0 : (fun j => if j < 256 ∧ t2 (j / 64) < 0 then f (tt j) else zf j) = zf := by
    funext j
    rw [if_neg (by omega)]
  rw [e0] at this
  exact this
end Go.Proofs.YtfpafpmcfkapkaaDoor
