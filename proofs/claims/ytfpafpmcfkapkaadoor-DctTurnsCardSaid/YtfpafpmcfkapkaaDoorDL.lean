import Derived.Test.YtfpafpmcfkapkaaDoorDP
/-! The document's sums, and the laws of layer 9. -/
namespace Go.Proofs.YtfpafpmcfkapkaaDoor
open Go Go.RowKit K

theorem getD_waves (n : Nat) : wavesL.getD n 0 = wavesF n := rfl
theorem wavesL_length : (wavesL.length : Int) = 64 := rfl

theorem tri_abs {a b c B : Int} (h1 : -4096 ≤ a) (h2 : a ≤ 4096) (h3 : -4096 ≤ b) (h4 : b ≤ 4096) (h5 : -B ≤ c) (h6 : c ≤ B) : (-16777216 ≤ a * b ∧ a * b ≤ 16777216) ∧ -(16777216 * B) ≤ a * b * c ∧ a * b * c ≤ 16777216 * B := by
  have h := mul_abs h1 h2 h3 h4
  have h' : -16777216 ≤ a * b ∧ a * b ≤ 16777216 := by omega
  exact ⟨h', mul_abs h'.1 h'.2 h5 h6⟩

theorem rSum_eq (K : Nat) (hK : 65 ≤ K) (b : Nat → Int) (hb : Bd 1048576 b) (back : Bool) {i k : Nat} (hi : i < 8) (hk : k < 8) :
    rSum K wavesL b (i : Int) (k : Int) back = some (rnd (dctF (cond back turnF wavesF) b (8 * i + k)) 67108864) := by
  have hw : ∀ j, j < 64 → -4096 ≤ wavesF j ∧ wavesF j ≤ 4096 := waves_bd
  have hM : ∀ j, j < 64 → -4096 ≤ (cond back turnF wavesF) j ∧ (cond back turnF wavesF) j ≤ 4096 := by
    cases back
    · exact waves_bd
    · exact turnF_bd
  have hterm : ∀ p, p < 8 → ∀ q, q < 8 → -(16777216 * 1048576) ≤ (cond back turnF wavesF) (8 * i + p) * (cond back turnF wavesF) (8 * k + q) * b (8 * p + q) ∧ (cond back turnF wavesF) (8 * i + p) * (cond back turnF wavesF) (8 * k + q) * b (8 * p + q) ≤ 16777216 * 1048576 := fun p hp q hq => by
    have h1 := hM (8 * i + p) (by omega)
    have h2 := hM (8 * k + q) (by omega)
    have h3 := hb (8 * p + q) (by omega)
    exact (tri_abs h1.1 h1.2 h2.1 h2.2 h3.1 h3.2).2
  have hrow : ∀ p, p < 8 → -140737488355328 ≤ sumN 8 (fun q => (cond back turnF wavesF) (8 * i + p) * (cond back turnF wavesF) (8 * k + q) * b (8 * p + q)) ∧ sumN 8 (fun q => (cond back turnF wavesF) (8 * i + p) * (cond back turnF wavesF) (8 * k + q) * b (8 * p + q)) ≤ 140737488355328 := fun p hp => by
    have := sumN_bd (n := 8) (T := 16777216 * 1048576) (hterm p hp)
    omega
  unfold rSum
  rw [loop_sum0 8 (rSum_l1 K wavesL b i k back) (rSum_j1 K) (fun p => sumN 8 fun q => (cond back turnF wavesF) (8 * i + p) * (cond back turnF wavesF) (8 * k + q) * b (8 * p + q)) 140737488355328 4503599627370496 0 (by omega) hrow ?_ ?_ K (by omega) (by omega) (by omega)]
  · unfold rSum_j1 dctF
    rw [show (8 * i + k) / 8 = i by omega, show (8 * i + k) % 8 = k by omega, Int.zero_add]
  · intro k' n
    rw [rSum_l1.eq_2, if_neg (by omega)]
  · intro k' p n hp h1 h2
    rw [rSum_l1.eq_2, if_pos (by omega)]
    rw [loop_sum0 8 (rSum_l2 K (rSum_l1 K wavesL b i k back k') wavesL b i k back p) (rSum_j2 K (rSum_l1 K wavesL b i k back k') p) (fun q => (cond back turnF wavesF) (8 * i + p) * (cond back turnF wavesF) (8 * k + q) * b (8 * p + q)) (16777216 * 1048576) 9007199254740992 n (by omega) (hterm p hp) ?_ ?_ K (by omega) (by omega) (by omega)]
    · unfold rSum_j2
      rw [w64_succ (by omega)]
    · intro k'' n
      rw [rSum_l2.eq_2, if_neg (by omega)]
    · intro k'' q n hq h3 h4
      have ht := hterm p hp q hq
      rw [rSum_l2.eq_2, if_pos (by omega), wavesL_length]
      unfold rSum_j3
      cases back
      · have e1 := hw (8 * i + p) (by omega)
        have e2 := hw (8 * k + q) (by omega)
        have e3 := hb (8 * p + q) (by omega)
        have e := tri_abs e1.1 e1.2 e2.1 e2.2 e3.1 e3.2
        rw [if_neg (by decide), ix hi hp, ix hk hq, ix hp hq, if_pos (by omega), if_pos (by omega), if_pos (by omega)]
        simp only [Int.toNat_natCast, getD_waves]
        rw [w64_id (x := wavesF (8 * i + p) * wavesF (8 * k + q)) (by omega) (by omega), w64_id (x := wavesF (8 * i + p) * wavesF (8 * k + q) * b (8 * p + q)) (by omega) (by omega)]
        simp only [cond_false] at ht ⊢
        rw [w64_id (by omega) (by omega), w64_succ (by omega)]
      · have e1 := hw (8 * p + i) (by omega)
        have e2 := hw (8 * q + k) (by omega)
        have e3 := hb (8 * p + q) (by omega)
        have e := tri_abs e1.1 e1.2 e2.1 e2.2 e3.1 e3.2
        have t1 : turnF (8 * i + p) = wavesF (8 * p + i) := by
          unfold turnF
          rw [show (8 * i + p) % 8 = p by omega, show (8 * i + p) / 8 = i by omega]
        have t2 : turnF (8 * k + q) = wavesF (8 * q + k) := by
          unfold turnF
          rw [show (8 * k + q) % 8 = q by omega, show (8 * k + q) / 8 = k by omega]
        rw [if_pos rfl, ix hp hi, ix hq hk, ix hp hq, if_pos (by omega), if_pos (by omega), if_pos (by omega)]
        simp only [Int.toNat_natCast, getD_waves]
        rw [w64_id (x := wavesF (8 * p + i) * wavesF (8 * q + k)) (by omega) (by omega), w64_id (x := wavesF (8 * p + i) * wavesF (8 * q + k) * b (8 * p + q)) (by omega) (by omega)]
        simp only [cond_true, t1, t2] at ht ⊢
        rw [w64_id (by omega) (by omega), w64_succ (by omega)]

theorem rAll_eq (K : Nat) (hK : 65 ≤ K) (b : Nat → Int) (hb : Bd 1048576 b) (back : Bool) : rAll K b back = some (wF (cond back turnF wavesF) b) := by
  unfold rAll
  have e : rWaves K = some wavesL := rfl
  rw [e, Option.bind_some, loop_rows0 8 (rAll_l1 K b back wavesL) (rAll_j1 K) (fun j => rnd (dctF (cond back turnF wavesF) b j) 67108864) ?_ ?_ K (by omega)]
  · rfl
  · intro k f
    rw [rAll_l1.eq_2, if_neg (by omega)]
  · intro k i f hi
    rw [rAll_l1.eq_2, if_pos (by omega)]
    rw [loop_row0 (8 * i) 8 (rAll_l2 K (rAll_l1 K b back wavesL k) b back wavesL (i : Int)) (rAll_j2 K (rAll_l1 K b back wavesL k) (i : Int)) (fun j => rnd (dctF (cond back turnF wavesF) b j) 67108864) ?_ ?_ K (by omega)]
    · unfold rAll_j2
      rw [w64_succ (by omega)]
    · intro k' f
      rw [rAll_l2.eq_2, if_neg (by omega)]
    · intro k' c f hc
      rw [rAll_l2.eq_2, if_pos (by omega), rSum_eq K hK b hb back hi hc, Option.bind_some, ix hi hc, if_pos (by omega), w64_succ (by omega), Int.toNat_natCast]

theorem rFwd_eq (K : Nat) (hK : 65 ≤ K) (b : Nat → Int) : rFwd K b = if inB b (-2048) 2047 = true then some (wF wavesF b, 0) else some (zf, 2) := by
  unfold rFwd
  rw [rIn_eq K hK, Option.bind_some]
  by_cases h : inB b (-2048) 2047 = true
  · rw [if_pos h, if_pos h]
    rw [rAll_eq K hK b (fun j hj => by have := inB_true.1 h j hj; omega) false, Option.bind_some]
    rfl
  · rw [if_neg h, if_neg h]
theorem rInv_eq (K : Nat) (hK : 65 ≤ K) (b : Nat → Int) : rInv K b = if inB b (-1048576) 1048576 = true then some (wF turnF b, 0) else some (zf, 2) := by
  unfold rInv
  rw [rIn_eq K hK, Option.bind_some]
  by_cases h : inB b (-1048576) 1048576 = true
  · rw [if_pos h, if_pos h]
    rw [rAll_eq K hK b (fun j hj => by have := inB_true.1 h j hj; omega) true, Option.bind_some]
    rfl
  · rw [if_neg h, if_neg h]

theorem inB_const (n lo hi : Int) (f : Nat → Int) (hf : ∀ j, j < 64 → f j = n) : inB f lo hi = (decide (lo ≤ n) && decide (n ≤ hi)) := by
  rw [Bool.eq_iff_iff, inB_true]
  simp only [Bool.and_eq_true, decide_eq_true_eq]
  constructor
  · intro h
    have := h 0 (by decide)
    rwa [hf 0 (by decide)] at this
  · intro h j hj
    rw [hf j hj]; exact h

theorem dctF_b {m b b' : Nat → Int} (h : ∀ j, j < 64 → b j = b' j) (j : Nat) : dctF m b j = dctF m b' j := by
  unfold dctF
  refine sumN_congr fun p hp => sumN_congr fun q hq => ?_
  rw [h _ (by omega)]
theorem dctF_const (m : Nat → Int) (n : Int) (j : Nat) : dctF m (fun _ => n) j = n * dctF m (fun _ => 1) j := by
  unfold dctF
  rw [sumN_mul]
  refine sumN_congr fun p _ => ?_
  rw [sumN_mul]
  refine sumN_congr fun q _ => ?_
  rw [Int.mul_one, Int.mul_comm]
theorem ones : ∀ j, j < 64 → dctF wavesF (fun _ => 1) j = if j = 0 then 536756224 else 0 := by
  unfold dctF sumN
  decide +kernel

theorem wave_17 (K : Nat) : wave K 1 7 = some (-4017) := by
  unfold wave
  rfl
theorem awake9_eq (K : Nat) (hK : 65 ≤ K) : awake9 K = some true := by
  unfold awake9
  rw [loop_upd0 64 (awake9_l1 K) (awake9_j1 K) (fun _ _ => 100) ?_ ?_ K (by omega)]
  · unfold awake9_j1
    have hf : ∀ j, j < 64 → (fun j => if j < 64 then (100 : Int) else zf j) j = 100 := fun j hj => by simp only [if_pos hj]
    rw [fwd_eq K hK, inB_const 100 _ _ _ hf, if_pos (by decide), Option.bind_some, if_pos, if_pos rfl, wave_17 K]
    · rfl
    · intro j hj
      show wF wavesF _ j = _
      unfold wF
      rw [if_pos hj, dctF_b hf, dctF_const, ones j hj, upd_apply]
      by_cases h : j = 0
      · subst h
        rw [if_pos rfl, if_pos rfl]
        decide +kernel
      · rw [if_neg h, if_neg (fun e => h e.symm)]
        show rnd (100 * 0) 67108864 = 0
        decide +kernel
  · intro k f
    rw [awake9_l1.eq_2, if_neg (by omega)]
  · intro k i f hi
    rw [awake9_l1.eq_2, if_pos (by omega), if_pos (by omega)]
    simp only [Int.toNat_natCast]
    rw [w64_succ (by omega)]
end Go.Proofs.YtfpafpmcfkapkaaDoor
