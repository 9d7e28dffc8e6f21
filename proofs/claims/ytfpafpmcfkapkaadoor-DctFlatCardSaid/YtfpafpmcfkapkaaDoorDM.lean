import Derived.Test.YtfpafpmcfkapkaaDoorDL
/-! The laws of layer 9, plain. -/
namespace Go.Proofs.YtfpafpmcfkapkaaDoor
open Go Go.RowKit K

theorem wave_in {u x : Nat} (hu : u < 8) (hx : x < 8) (K : Nat) : wave K (u : Int) (x : Int) = some (wavesF (8 * u + x)) := by
  unfold wave
  rw [if_neg (by omega), if_neg (by omega), if_neg (by omega), if_neg (by omega), if_pos (by omega), if_pos (by omega)]
  simp only [Int.toNat_natCast]
  rw [Nat.mul_comm]
theorem wave_out {u x : Int} (h : ¬ ((0 ≤ u ∧ u < 8) ∧ 0 ≤ x ∧ x < 8)) (K : Nat) : wave K u x = some 0 := by
  unfold wave
  repeat' split
  all_goals first | rfl | omega

theorem DctForward_eq (b : Nat → Int) (u x : Int) : lawDctForward 65 b u x = some true := by
  have hs : ∃ r, fwd 65 b = some r ∧ rFwd 65 b = some r := by
    rw [fwd_eq 65 (by decide), rFwd_eq 65 (by decide)]
    split <;> exact ⟨_, rfl, rfl⟩
  obtain ⟨r, h1, h2⟩ := hs
  have key : ∀ v, wave 65 u x = some v → lawDctForward_j1 65 u x r r v = some true := fun v hv => by
    unfold lawDctForward_j1
    rw [if_pos (eqF_refl _ _), if_pos rfl, hv, Option.bind_some, if_pos rfl, awake9_eq 65 (by decide)]; rfl
  unfold lawDctForward
  rw [h1, h2]
  simp only [Option.bind_some]
  by_cases h : (0 ≤ u ∧ u < 8) ∧ 0 ≤ x ∧ x < 8
  · rw [if_pos h.1.1, if_pos h.1.2, if_pos h.2.1, if_pos h.2.2]
    obtain ⟨u', rfl⟩ := Int.eq_ofNat_of_zero_le h.1.1
    obtain ⟨x', rfl⟩ := Int.eq_ofNat_of_zero_le h.2.1
    have e : rWaves 65 = some wavesL := rfl
    rw [e, Option.bind_some, ix (by omega) (by omega), wavesL_length, if_pos (by omega)]
    refine key _ ?_
    rw [wave_in (by omega) (by omega), Int.toNat_natCast, getD_waves]
  · have := key 0 (wave_out h 65)
    repeat' split
    all_goals first | exact this | omega

theorem DctInverse_eq (b : Nat → Int) : lawDctInverse 65 b = some true := by
  have hs : ∃ r, invd 65 b = some r ∧ rInv 65 b = some r := by
    rw [invd_eq 65 (by decide), rInv_eq 65 (by decide)]
    split <;> exact ⟨_, rfl, rfl⟩
  obtain ⟨r, h1, h2⟩ := hs
  unfold lawDctInverse
  rw [h1, h2]
  simp only [Option.bind_some]
  rw [if_pos (eqF_refl _ _), if_pos trivial, awake9_eq 65 (by decide)]
  rfl

theorem DctFlat_eq (n : Int) (h1 : -32768 ≤ n) (h2 : n ≤ 32767) : lawDctFlat 65 n = some true := by
  have ha := awake9_eq 65 (by decide)
  unfold lawDctFlat
  rw [loop_upd0 64 (lawDctFlat_l1 65 n) (lawDctFlat_j1 65 n) (fun _ _ => n) ?_ ?_ 65 (by omega)]
  · unfold lawDctFlat_j1
    have hf : ∀ j, j < 64 → (fun j => if j < 64 then n else zf j) j = n := fun j hj => by simp only [if_pos hj]
    rw [fwd_eq 65 (by decide), inB_const n _ _ _ hf]
    by_cases h : -2048 ≤ n ∧ n ≤ 2047
    · rw [if_pos (by simp only [Bool.and_eq_true, decide_eq_true_eq]; exact h), Option.bind_some, if_neg (by omega), if_neg (by omega), if_pos, if_pos rfl, ha]
      · rfl
      · intro j hj
        rw [upd_apply]
        by_cases h0 : 0 = j
        · rw [if_pos h0]; rfl
        · rw [if_neg h0]
          show wF wavesF _ j = 0
          unfold wF
          rw [if_pos hj, dctF_b hf, dctF_const, ones j hj, if_neg (fun e => h0 e.symm), Int.mul_zero]
          decide +kernel
    · rw [if_neg (by simp only [Bool.and_eq_true, decide_eq_true_eq]; exact h), Option.bind_some]
      by_cases h' : n < -2048
      · rw [if_pos h', if_pos (eqF_refl _ _), if_pos rfl, ha]; rfl
      · rw [if_neg h', if_pos (by omega), if_pos (eqF_refl _ _), if_pos rfl, ha]; rfl
  · intro k f
    rw [lawDctFlat_l1.eq_2, if_neg (by omega)]
  · intro k i f hi
    rw [lawDctFlat_l1.eq_2, if_pos (by omega), if_pos (by omega)]
    simp only [Int.toNat_natCast]
    rw [w64_succ (by omega), w64_id (x := n) (by omega) (by omega)]

/-! ### turned about -/
theorem rnd0_zero {d : Int} (hd : 1 ≤ d) : rnd0 0 d = 0 := by
  unfold rnd0
  simp
  omega
theorem rnd_neg (n d : Int) : rnd (-n) d = - rnd n d := by
  unfold rnd
  by_cases hc : d < 1 ∨ d > 1152921504606846976 ∨ n > 1152921504606846976 ∨ n < -1152921504606846976
  · rw [if_pos hc, if_pos (by omega)]; rfl
  · rw [if_neg hc, if_neg (by omega)]
    by_cases h0 : n = 0
    · subst h0
      simp [rnd0_zero (show 1 ≤ d by omega)]
    · by_cases h1 : n < 0
      · rw [if_pos h1, if_neg (by omega)]; omega
      · rw [if_neg h1, if_pos (by omega), Int.neg_neg]
theorem rnd_bd (n d : Int) : -1152921504606846977 ≤ rnd n d ∧ rnd n d ≤ 1152921504606846977 := by
  unfold rnd
  split
  · omega
  · split
    · have := rnd0_bd (-n) d (by omega) (by omega) (by omega); omega
    · have := rnd0_bd n d (by omega) (by omega) (by omega); omega
theorem wF_bd (m b : Nat → Int) (j : Nat) : -1152921504606846977 ≤ wF m b j ∧ wF m b j ≤ 1152921504606846977 := by
  unfold wF
  split
  · exact rnd_bd _ _
  · omega
theorem dctF_neg (m b : Nat → Int) (j : Nat) : dctF m (fun i => - b i) j = - dctF m b j := by
  unfold dctF
  rw [← sumN_neg]
  refine sumN_congr fun p _ => ?_
  rw [← sumN_neg]
  refine sumN_congr fun q _ => ?_
  rw [Int.mul_neg]
theorem wF_neg {m b b' : Nat → Int} (h : ∀ j, j < 64 → b' j = - b j) {j : Nat} (hj : j < 64) : wF m b' j = - wF m b j := by
  unfold wF
  rw [if_pos hj, if_pos hj, dctF_b (b' := fun i => - b i) h, dctF_neg, rnd_neg]

theorem DctTurns_eq (b : Nat → Int) : lawDctTurns 65 b = some true := by
  have ha := awake9_eq 65 (by decide)
  unfold lawDctTurns
  rw [rIn_eq 65 (by decide), Option.bind_some]
  by_cases h : inB b (-2047) 2047 = true
  · rw [if_pos h]
    have hb := inB_true.1 h
    rw [loop_upd0 64 (lawDctTurns_l2 65 b) (lawDctTurns_j1 65 b) (fun j _ => w64 (0 - b j)) ?_ ?_ 65 (by omega)]
    · unfold lawDctTurns_j1
      generalize hg : (fun j => if j < 64 then w64 (0 - b j) else zf j) = g
      have hgb : ∀ j, j < 64 → g j = - b j := fun j hj => by
        have := hb j hj
        rw [← hg]; simp only [if_pos hj]
        rw [w64_id (by omega) (by omega)]; omega
      have i1 : inB b (-2048) 2047 = true := inB_true.2 fun j hj => by have := hb j hj; omega
      have i2 : inB g (-2048) 2047 = true := inB_true.2 fun j hj => by have := hb j hj; rw [hgb j hj]; omega
      have i3 : inB b (-1048576) 1048576 = true := inB_true.2 fun j hj => by have := hb j hj; omega
      have i4 : inB g (-1048576) 1048576 = true := inB_true.2 fun j hj => by have := hb j hj; rw [hgb j hj]; omega
      rw [fwd_eq 65 (by decide), fwd_eq 65 (by decide), invd_eq 65 (by decide), invd_eq 65 (by decide), if_pos i1, if_pos i2, if_pos i3, if_pos i4]
      simp only [Option.bind_some]
      rw [loop_pass 64 (lawDctTurns_l1 65 (wF wavesF b, 0) (wF wavesF g, 0) (wF turnF b, 0) (wF turnF g, 0)) (some true) ?_ ?_ 65 (by decide)]
      · intro k
        rw [lawDctTurns_l1.eq_2, if_neg (by omega)]
        unfold lawDctTurns_j2
        rw [ha]; rfl
      · intro k i hi
        rw [lawDctTurns_l1.eq_2, if_pos (by omega), if_pos (by omega)]
        simp only [Int.toNat_natCast]
        have e1 := wF_neg (m := wavesF) hgb hi
        have e2 := wF_neg (m := turnF) hgb hi
        have b1 := wF_bd wavesF b i
        have b2 := wF_bd turnF b i
        rw [if_neg (by rw [e1, w64_id (by omega) (by omega)]; omega), if_neg (by rw [e2, w64_id (by omega) (by omega)]; omega), w64_succ (by omega)]
    · intro k f
      rw [lawDctTurns_l2.eq_2, if_neg (by omega)]
    · intro k i f hi
      rw [lawDctTurns_l2.eq_2, if_pos (by omega), if_pos (by omega)]
      simp only [Int.toNat_natCast]
      rw [w64_succ (by omega)]
  · rw [if_neg h, ha]; rfl

/-! ### rows for columns -/
def tr (j : Nat) : Nat := j % 8 * 8 + j / 8
theorem ixt {i : Nat} (hi : i < 64) : w64 (w64 (Int.tmod (i : Int) 8 * 8) + w64 (Int.tdiv (i : Int) 8)) = ((tr i : Nat) : Int) := by
  unfold tr
  rw [Int.tmod_eq_emod_of_nonneg (by omega), Int.tdiv_eq_ediv_of_nonneg (by omega)]
  rw [w64_id (x := (i : Int) % 8 * 8) (by omega) (by omega), w64_id (x := (i : Int) / 8) (by omega) (by omega), w64_id (by omega) (by omega)]
  omega
theorem tr_lt {i : Nat} (hi : i < 64) : tr i < 64 := by unfold tr; omega
theorem tr_tr {i : Nat} (hi : i < 64) : tr (tr i) = i := by unfold tr; omega

theorem dctF_tr {m b g : Nat → Int} (hg : ∀ j, j < 64 → g j = b (tr j)) {j : Nat} (_ : j < 64) : dctF m g j = dctF m b (tr j) := by
  unfold dctF
  rw [sumN_comm]
  have e1 : tr j / 8 = j % 8 := by unfold tr; omega
  have e2 : tr j % 8 = j / 8 := by unfold tr; omega
  rw [e1, e2]
  refine sumN_congr fun p hp => sumN_congr fun q hq => ?_
  rw [hg _ (by omega), Int.mul_comm (m (8 * (j / 8) + q))]
  congr 2
  unfold tr
  omega
theorem wF_tr {m b g : Nat → Int} (hg : ∀ j, j < 64 → g j = b (tr j)) {j : Nat} (hj : j < 64) : wF m b j = wF m g (tr j) := by
  unfold wF
  rw [if_pos hj, if_pos (tr_lt hj), dctF_tr hg (tr_lt hj), tr_tr hj]
theorem inB_tr {b g : Nat → Int} (hg : ∀ j, j < 64 → g j = b (tr j)) (lo hi : Int) : inB g lo hi = inB b lo hi := by
  rw [Bool.eq_iff_iff, inB_true, inB_true]
  constructor
  · intro h j hj
    have := h (tr j) (tr_lt hj)
    rwa [hg _ (tr_lt hj), tr_tr hj] at this
  · intro h j hj
    rw [hg j hj]
    exact h _ (tr_lt hj)

theorem loop_tr (L : Nat → Int → (Nat → Int) → Option Bool) (J : (Nat → Int) → Option Bool) (b : Nat → Int)
    (h0 : ∀ k f, L (k + 1) 64 f = J f) (h1 : ∀ k (i : Nat) f, i < 64 → L (k + 1) (i : Int) f = L k ((i + 1 : Nat) : Int) (upd f (tr i) (b i))) :
    ∀ (d k i : Nat) (f : Nat → Int), i + d = 64 → d < k → L k (i : Int) f = J (fun j => if j < 64 ∧ i ≤ tr j then b (tr j) else f j) := by
  intro d
  induction d with
  | zero =>
    intro k i f hi hk
    obtain ⟨k, rfl⟩ : ∃ m, k = m + 1 := ⟨k - 1, by omega⟩
    have : i = 64 := by omega
    subst this
    refine (h0 k f).trans ?_
    congr 1
    funext j
    rw [if_neg (fun h => by have := tr_lt h.1; omega)]
  | succ d ih =>
    intro k i f hi hk
    obtain ⟨k, rfl⟩ : ∃ m, k = m + 1 := ⟨k - 1, by omega⟩
    rw [h1 k i f (by omega), ih k (i + 1) _ (by omega) (by omega)]
    congr 1
    funext j
    rw [upd_apply]
    by_cases hj : tr i = j
    · subst hj
      have hi' : i < 64 := by omega
      rw [tr_tr hi', if_neg (by omega), if_pos rfl, if_pos ⟨tr_lt hi', Nat.le_refl _⟩]
    · rw [if_neg hj]
      by_cases h : j < 64 ∧ i + 1 ≤ tr j
      · rw [if_pos h, if_pos ⟨h.1, by omega⟩]
      · rw [if_neg h, if_neg]
        intro h'
        by_cases he : tr j = i
        · rw [← he, tr_tr h'.1] at hj; exact hj rfl
        · exact h ⟨h'.1, by omega⟩

theorem fwd_tr {b g : Nat → Int} (hg : ∀ j, j < 64 → g j = b (tr j)) : ∃ r s, fwd 65 b = some r ∧ fwd 65 g = some s ∧ r.2 = s.2 ∧ ∀ j, j < 64 → r.1 j = s.1 (tr j) := by
  rw [fwd_eq 65 (by decide), fwd_eq 65 (by decide), inB_tr hg]
  split
  · exact ⟨_, _, rfl, rfl, rfl, fun j hj => wF_tr hg hj⟩
  · exact ⟨_, _, rfl, rfl, rfl, fun j _ => rfl⟩
theorem inv_tr {b g : Nat → Int} (hg : ∀ j, j < 64 → g j = b (tr j)) : ∃ r s, invd 65 b = some r ∧ invd 65 g = some s ∧ r.2 = s.2 ∧ ∀ j, j < 64 → r.1 j = s.1 (tr j) := by
  rw [invd_eq 65 (by decide), invd_eq 65 (by decide), inB_tr hg]
  split
  · exact ⟨_, _, rfl, rfl, rfl, fun j hj => wF_tr hg hj⟩
  · exact ⟨_, _, rfl, rfl, rfl, fun j _ => rfl⟩

theorem DctTurned_eq (b : Nat → Int) : lawDctTurned 65 b = some true := by
  have ha := awake9_eq 65 (by decide)
  unfold lawDctTurned
  have hl := loop_tr (lawDctTurned_l2 65 b) (lawDctTurned_j1 65 b) b (fun k f => by rw [lawDctTurned_l2.eq_2, if_neg (by omega)]) (fun k i f hi => by
    have := tr_lt hi
    rw [lawDctTurned_l2.eq_2, if_pos (by omega), if_pos (by omega), ixt hi, if_pos (by omega), w64_succ (by omega)]
    simp only [Int.toNat_natCast]) 64 65 0 zf (by omega) (by omega)
  refine Eq.trans hl ?_
  generalize hg : (fun j => if j < 64 ∧ 0 ≤ tr j then b (tr j) else zf j) = g
  have hg' : ∀ j, j < 64 → g j = b (tr j) := fun j hj => by
    rw [← hg]; simp only [if_pos (show j < 64 ∧ 0 ≤ tr j from ⟨hj, Nat.zero_le _⟩)]
  unfold lawDctTurned_j1
  obtain ⟨r, s, h1, h2, h3, h4⟩ := fwd_tr hg'
  obtain ⟨r', s', h1', h2', h3', h4'⟩ := inv_tr hg'
  rw [h1, h2, h1', h2']
  simp only [Option.bind_some]
  rw [loop_pass 64 (lawDctTurned_l1 65 r s r' s') (some true) ?_ ?_ 65 (by decide)]
  · intro k
    rw [lawDctTurned_l1.eq_2, if_neg (by omega)]
    unfold lawDctTurned_j2
    rw [if_pos h3, if_pos h3', ha]; rfl
  · intro k i hi
    have := tr_lt hi
    rw [lawDctTurned_l1.eq_2, if_pos (by omega), if_pos (by omega), ixt hi, if_pos (by omega)]
    simp only [Int.toNat_natCast]
    rw [if_neg (fun h => h (h4 i hi)), if_neg (fun h => h (h4' i hi)), w64_succ (by omega)]
end Go.Proofs.YtfpafpmcfkapkaaDoor
