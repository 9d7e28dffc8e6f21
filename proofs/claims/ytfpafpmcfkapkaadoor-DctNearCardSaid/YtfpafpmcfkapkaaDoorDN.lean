import Derived.Test.YtfpafpmcfkapkaaDoorDM
/-! Forward and back: what is lost. -/
namespace Go.Proofs.YtfpafpmcfkapkaaDoor
open Go Go.RowKit K

theorem rnd0_near {n d : Int} (hd : 1 ≤ d) : 2 * (n - d * rnd0 n d) ≤ d ∧ -d ≤ 2 * (n - d * rnd0 n d) := by
  have h3 : 0 ≤ n % d := Int.emod_nonneg _ (by omega)
  have h4 : n % d < d := Int.emod_lt_of_pos _ (by omega)
  have h5 := Int.mul_ediv_add_emod n d
  unfold rnd0
  split
  · rw [Int.mul_add, Int.mul_one]; omega
  · omega
theorem rnd_near {n d : Int} (hn : -1152921504606846976 ≤ n) (hn2 : n ≤ 1152921504606846976) (hd : 1 ≤ d) (hd2 : d ≤ 1152921504606846976) : 2 * (n - d * rnd n d) ≤ d ∧ -d ≤ 2 * (n - d * rnd n d) := by
  unfold rnd
  rw [if_neg (by omega)]
  split
  · have := rnd0_near (n := -n) (d := d) hd
    rw [Int.mul_neg]
    omega
  · exact rnd0_near hd

def absI (a : Int) : Int := if 0 ≤ a then a else -a
theorem sumN_le {n : Nat} {s t : Nat → Int} (h : ∀ i, i < n → -(t i) ≤ s i ∧ s i ≤ t i) : -(sumN n t) ≤ sumN n s ∧ sumN n s ≤ sumN n t := by
  induction n with
  | zero => simp [sumN]
  | succ n ih =>
    have h1 := ih fun i hi => h i (by omega)
    have h2 := h n (by omega)
    simp only [sumN]
    omega
theorem mul_absI {c x B : Int} (h1 : -B ≤ x) (h2 : x ≤ B) : -(B * absI c) ≤ c * x ∧ c * x ≤ B * absI c := by
  have : -absI c ≤ c ∧ c ≤ absI c := by unfold absI; split <;> omega
  have := mul_abs this.1 this.2 h1 h2
  rw [Int.mul_comm (absI c)] at this
  exact this
/-- A sum of 64 products, bounded. -/
theorem sum2_bd (c : Nat → Nat → Int) (x : Nat → Int) (B : Int) (hx : Bd B x) :
    -(B * sumN 8 fun p => sumN 8 fun q => absI (c p q)) ≤ (sumN 8 fun p => sumN 8 fun q => c p q * x (8 * p + q)) ∧ (sumN 8 fun p => sumN 8 fun q => c p q * x (8 * p + q)) ≤ B * sumN 8 fun p => sumN 8 fun q => absI (c p q) := by
  rw [sumN_mul]
  refine sumN_le fun p hp => ?_
  rw [sumN_mul]
  refine sumN_le fun q hq => ?_
  have := hx (8 * p + q) (by omega)
  exact mul_absI this.1 this.2

def MM (j : Nat) : Int := sumN 8 fun p => turnF (8 * (j / 8) + p) * wavesF (8 * p + j % 8)

theorem swap4 (F : Nat → Nat → Nat → Nat → Int) : (sumN 8 fun p => sumN 8 fun q => sumN 8 fun u => sumN 8 fun v => F p q u v) = sumN 8 fun u => sumN 8 fun v => sumN 8 fun p => sumN 8 fun q => F p q u v := by
  have h1 : (sumN 8 fun p => sumN 8 fun q => sumN 8 fun u => sumN 8 fun v => F p q u v) = sumN 8 fun p => sumN 8 fun u => sumN 8 fun v => sumN 8 fun q => F p q u v := by
    refine sumN_congr fun p _ => ?_
    rw [sumN_comm]
    refine sumN_congr fun u _ => ?_
    rw [sumN_comm]
  rw [h1, sumN_comm]
  refine sumN_congr fun u _ => ?_
  rw [sumN_comm]

theorem dct_twice (b : Nat → Int) {j : Nat} (_ : j < 64) : dctF turnF (dctF wavesF b) j = dctF MM b j := by
  have hL : dctF turnF (dctF wavesF b) j = sumN 8 fun p => sumN 8 fun q => sumN 8 fun u => sumN 8 fun v => turnF (8 * (j / 8) + p) * turnF (8 * (j % 8) + q) * (wavesF (8 * p + u) * wavesF (8 * q + v) * b (8 * u + v)) := by
    show (sumN 8 fun p => sumN 8 fun q => _) = _
    refine sumN_congr fun p hp => sumN_congr fun q hq => ?_
    unfold dctF
    rw [show (8 * p + q) / 8 = p by omega, show (8 * p + q) % 8 = q by omega, sumN_mul]
    refine sumN_congr fun u _ => ?_
    rw [sumN_mul]
  have hR : dctF MM b j = sumN 8 fun u => sumN 8 fun v => sumN 8 fun p => sumN 8 fun q => turnF (8 * (j / 8) + p) * turnF (8 * (j % 8) + q) * (wavesF (8 * p + u) * wavesF (8 * q + v) * b (8 * u + v)) := by
    show (sumN 8 fun u => sumN 8 fun v => _) = _
    refine sumN_congr fun u hu => sumN_congr fun v hv => ?_
    unfold MM
    rw [show (8 * (j / 8) + u) / 8 = j / 8 by omega, show (8 * (j / 8) + u) % 8 = u by omega, show (8 * (j % 8) + v) / 8 = j % 8 by omega, show (8 * (j % 8) + v) % 8 = v by omega]
    rw [Int.mul_comm (sumN 8 _) (sumN 8 _), Int.mul_comm (sumN 8 _ * sumN 8 _), ← Int.mul_assoc, sumN_mul]
    refine sumN_congr fun p _ => ?_
    rw [Int.mul_comm, ← Int.mul_assoc, sumN_mul]
    refine sumN_congr fun q _ => ?_
    simp only [Int.mul_assoc, Int.mul_comm, Int.mul_left_comm]
  rw [hL, hR, swap4]

theorem lossM : ∀ j, j < 64 → (sumN 8 fun p => sumN 8 fun q => absI (MM (8 * (j / 8) + p) * MM (8 * (j % 8) + q) - if 8 * p + q = j then 4503599627370496 else 0)) ≤ 10000000000000 := by
  unfold MM absI sumN
  decide +kernel
theorem lossT : ∀ j, j < 64 → (sumN 8 fun p => sumN 8 fun q => absI (turnF (8 * (j / 8) + p) * turnF (8 * (j % 8) + q))) ≤ 470000000 := by
  unfold absI sumN
  decide +kernel

theorem sumN_one (f : Nat → Int) (k n : Nat) : sumN n (fun i => if i = k then f i else 0) = if k < n then f k else 0 := by
  induction n with
  | zero => rfl
  | succ n ih =>
    simp only [sumN]
    rw [ih]
    by_cases h : n = k
    · subst h
      rw [if_neg (by omega), if_pos rfl, if_pos (by omega)]; omega
    · rw [if_neg h]
      by_cases h' : k < n
      · rw [if_pos h', if_pos (by omega)]; omega
      · rw [if_neg h', if_neg (by omega)]; omega
theorem sum_delta (C : Int) (b : Nat → Int) {j : Nat} (hj : j < 64) : (sumN 8 fun p => sumN 8 fun q => (if 8 * p + q = j then C else 0) * b (8 * p + q)) = C * b j := by
  have h : (sumN 8 fun p => sumN 8 fun q => (if 8 * p + q = j then C else 0) * b (8 * p + q)) = sumN 8 fun p => if p = j / 8 then C * b j else 0 := by
    refine sumN_congr fun p _ => ?_
    have h2 : (sumN 8 fun q => (if 8 * p + q = j then C else 0) * b (8 * p + q)) = sumN 8 fun q => if q = j % 8 then (if p = j / 8 then C * b j else 0) else 0 := by
      refine sumN_congr fun q hq => ?_
      by_cases h : 8 * p + q = j
      · rw [if_pos h, if_pos (by omega), if_pos (by omega), h]
      · rw [if_neg h, Int.zero_mul]
        by_cases h' : q = j % 8
        · rw [if_pos h', if_neg (by omega)]
        · rw [if_neg h']
    rw [h2, sumN_one, if_pos (by omega)]
  rw [h, sumN_one, if_pos (by omega)]
theorem dctF_add (m x y : Nat → Int) (j : Nat) : dctF m (fun i => x i + y i) j = dctF m x j + dctF m y j := by
  unfold dctF
  rw [← sumN_add]
  refine sumN_congr fun p _ => ?_
  rw [← sumN_add]
  refine sumN_congr fun q _ => ?_
  rw [Int.mul_add]
theorem dctF_smul (m x : Nat → Int) (c : Int) (j : Nat) : dctF m (fun i => c * x i) j = c * dctF m x j := by
  unfold dctF
  rw [sumN_mul]
  refine sumN_congr fun p _ => ?_
  rw [sumN_mul]
  refine sumN_congr fun q _ => ?_
  rw [Int.mul_left_comm]
theorem dctF_bd {m b : Nat → Int} {B : Int} (hm : Bd 4096 m) (hb : Bd B b) {j : Nat} (hj : j < 64) : -(64 * (16777216 * B)) ≤ dctF m b j ∧ dctF m b j ≤ 64 * (16777216 * B) := by
  have h := sumN_bd (n := 8) (t := fun p => sumN 8 fun q => m (8 * (j / 8) + p) * m (8 * (j % 8) + q) * b (8 * p + q)) (T := 8 * (16777216 * B)) fun p hp => by
    have h := sumN_bd (n := 8) (t := fun q => m (8 * (j / 8) + p) * m (8 * (j % 8) + q) * b (8 * p + q)) (T := 16777216 * B) fun q hq => by
      have h1 := hm (8 * (j / 8) + p) (by omega)
      have h2 := hm (8 * (j % 8) + q) (by omega)
      have h3 := hb (8 * p + q) (by omega)
      exact (tri_abs h1.1 h1.2 h2.1 h2.2 h3.1 h3.2).2
    exact h
  unfold dctF
  omega

/-- What a rounded number is off by. -/
theorem off_by {n : Int} (h1 : -1152921504606846976 ≤ n) (h2 : n ≤ 1152921504606846976) : ∃ r, n = 67108864 * rnd n 67108864 + r ∧ -33554432 ≤ r ∧ r ≤ 33554432 := by
  have := rnd_near h1 h2 (show (1 : Int) ≤ 67108864 by omega) (by omega)
  exact ⟨n - 67108864 * rnd n 67108864, by omega, by omega, by omega⟩

theorem near (b : Nat → Int) (hb : Bd 128 b) : (Bd 1048576 (wF wavesF b)) ∧ ∀ j, j < 64 → -4 ≤ b j - wF turnF (wF wavesF b) j ∧ b j - wF turnF (wF wavesF b) j ≤ 4 := by
  generalize hf : wF wavesF b = f
  have hr : ∀ j, ∃ r, j < 64 → (dctF wavesF b j = 67108864 * f j + r ∧ -33554432 ≤ r ∧ r ≤ 33554432) := fun j => by
    by_cases hj : j < 64
    · have hd := dctF_bd waves_bd hb hj
      obtain ⟨r, h1, h2, h3⟩ := off_by (n := dctF wavesF b j) (by omega) (by omega)
      refine ⟨r, fun _ => ⟨?_, h2, h3⟩⟩
      rw [← hf]
      unfold wF
      rw [if_pos hj]
      exact h1
    · exact ⟨0, fun h => absurd h hj⟩
  obtain ⟨r, hr⟩ : ∃ r : Nat → Int, ∀ j, j < 64 → (dctF wavesF b j = 67108864 * f j + r j ∧ -33554432 ≤ r j ∧ r j ≤ 33554432) := ⟨fun j => (hr j).choose, fun j hj => (hr j).choose_spec hj⟩
  have hfb : Bd 4096 f := fun j hj => by
    have hd := dctF_bd waves_bd hb hj
    have := hr j hj
    omega
  refine ⟨fun j hj => by have := hfb j hj; omega, fun j hj => ?_⟩
  have hd := dctF_bd turnF_bd hfb hj
  obtain ⟨s, h1, h2, h3⟩ := off_by (n := dctF turnF f j) (by omega) (by omega)
  have hg : wF turnF f j = rnd (dctF turnF f j) 67108864 := by
    unfold wF
    rw [if_pos hj]
  rw [hg]
  have e1 : dctF turnF (dctF wavesF b) j = 67108864 * dctF turnF f j + dctF turnF r j := by
    rw [dctF_b (b' := fun i => 67108864 * f i + r i) (fun i hi => (hr i hi).1), dctF_add, dctF_smul]
  rw [dct_twice b hj] at e1
  have hT := sum2_bd (fun p q => turnF (8 * (j / 8) + p) * turnF (8 * (j % 8) + q)) r 33554432 (fun i hi => (hr i hi).2)
  have lT := lossT j hj
  have e2 : dctF turnF r j = sumN 8 fun p => sumN 8 fun q => turnF (8 * (j / 8) + p) * turnF (8 * (j % 8) + q) * r (8 * p + q) := rfl
  rw [← e2] at hT
  have hM := sum2_bd (fun p q => MM (8 * (j / 8) + p) * MM (8 * (j % 8) + q) - if 8 * p + q = j then 4503599627370496 else 0) b 128 hb
  have lM := lossM j hj
  have e3 : dctF MM b j = (sumN 8 fun p => sumN 8 fun q => (MM (8 * (j / 8) + p) * MM (8 * (j % 8) + q) - if 8 * p + q = j then 4503599627370496 else 0) * b (8 * p + q)) + 4503599627370496 * b j := by
    rw [← sum_delta 4503599627370496 b hj, ← sumN_add]
    unfold dctF
    refine sumN_congr fun p _ => ?_
    rw [← sumN_add]
    refine sumN_congr fun q _ => ?_
    rw [Int.sub_mul]; omega
  generalize (sumN 8 fun p => sumN 8 fun q => (MM (8 * (j / 8) + p) * MM (8 * (j % 8) + q) - if 8 * p + q = j then 4503599627370496 else 0) * b (8 * p + q)) = A at hM e3
  generalize (sumN 8 fun p => sumN 8 fun q => absI (MM (8 * (j / 8) + p) * MM (8 * (j % 8) + q) - if 8 * p + q = j then 4503599627370496 else 0)) = A' at hM lM
  generalize (sumN 8 fun p => sumN 8 fun q => absI (turnF (8 * (j / 8) + p) * turnF (8 * (j % 8) + q))) = T' at hT lT
  generalize rnd (dctF turnF f j) 67108864 = g at h1 ⊢
  generalize dctF turnF f j = F at h1 e1
  generalize dctF turnF r j = R at hT e1
  generalize dctF MM b j = D at e1 e3
  omega

theorem DctNear_eq (b : Nat → Int) : lawDctNear 65 b = some true := by
  have ha := awake9_eq 65 (by decide)
  unfold lawDctNear
  rw [rIn_eq 65 (by decide), Option.bind_some]
  by_cases h : inB b (-128) 127 = true
  · rw [if_pos h]
    have hb := inB_true.1 h
    obtain ⟨n1, n2⟩ := near b fun j hj => by have := hb j hj; omega
    have i1 : inB b (-2048) 2047 = true := inB_true.2 fun j hj => by have := hb j hj; omega
    rw [fwd_eq 65 (by decide), if_pos i1, Option.bind_some]
    have i2 : inB (wF wavesF b) (-1048576) 1048576 = true := inB_true.2 fun j hj => n1 j hj
    simp only
    rw [invd_eq 65 (by decide), if_pos i2, Option.bind_some]
    rw [loop_pass 64 (lawDctNear_l1 65 b (wF wavesF b, 0) (wF turnF (wF wavesF b), 0)) (some true) ?_ ?_ 65 (by decide)]
    · intro k
      rw [lawDctNear_l1.eq_2, if_neg (by omega)]
      unfold lawDctNear_j1
      rw [if_pos rfl, if_pos rfl, ha]; rfl
    · intro k i hi
      rw [lawDctNear_l1.eq_2, if_pos (by omega), if_pos (by omega)]
      simp only [Int.toNat_natCast]
      have := n2 i hi
      rw [if_neg (by rw [w64_id (by omega) (by omega)]; omega), if_neg (by rw [w64_id (by omega) (by omega)]; omega), w64_succ (by omega)]
  · rw [if_neg h, ha]; rfl
end Go.Proofs.YtfpafpmcfkapkaaDoor
