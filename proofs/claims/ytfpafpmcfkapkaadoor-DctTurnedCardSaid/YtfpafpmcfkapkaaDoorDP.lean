import Derived.Test.YtfpafpmcfkapkaaDoorP0
import Derived.Test.YtfpafpmcfkapkaaDoorT5
/-! Sums, rows, and the two passes: plain. -/
namespace Go.Proofs.YtfpafpmcfkapkaaDoor
open Go Go.RowKit K

/-! ### sums -/
def sumN : Nat → (Nat → Int) → Int
  | 0, _ => 0
  | n + 1, t => sumN n t + t n
theorem sumN_congr {n : Nat} {s t : Nat → Int} (h : ∀ i, i < n → s i = t i) : sumN n s = sumN n t := by
  induction n with
  | zero => rfl
  | succ n ih => unfold sumN; rw [ih fun i hi => h i (by omega), h n (by omega)]
theorem sumN_mul (a : Int) (n : Nat) (t : Nat → Int) : a * sumN n t = sumN n fun i => a * t i := by
  induction n with
  | zero => simp [sumN]
  | succ n ih => unfold sumN; rw [Int.mul_add, ih]
theorem sumN_add (n : Nat) (s t : Nat → Int) : sumN n (fun i => s i + t i) = sumN n s + sumN n t := by
  induction n with
  | zero => rfl
  | succ n ih => simp only [sumN]; rw [ih]; omega
theorem sumN_neg (n : Nat) (t : Nat → Int) : sumN n (fun i => - t i) = - sumN n t := by
  induction n with
  | zero => rfl
  | succ n ih => simp only [sumN]; rw [ih]; omega
theorem sumN_zero (n : Nat) : sumN n (fun _ => 0) = 0 := by
  induction n with
  | zero => rfl
  | succ n ih => unfold sumN; rw [ih]; rfl
theorem sumN_comm (n m : Nat) (f : Nat → Nat → Int) : sumN n (fun p => sumN m fun q => f p q) = sumN m fun q => sumN n fun p => f p q := by
  induction n with
  | zero => simp only [sumN]; rw [sumN_zero]
  | succ n ih => simp only [sumN]; rw [ih, ← sumN_add]
theorem sumN_bd {n : Nat} {t : Nat → Int} {T : Int} (h : ∀ i, i < n → -T ≤ t i ∧ t i ≤ T) : -(n * T) ≤ sumN n t ∧ sumN n t ≤ n * T := by
  induction n with
  | zero => simp [sumN]
  | succ n ih =>
    have h1 := ih fun i hi => h i (by omega)
    have h2 := h n (by omega)
    have h3 : ((n + 1 : Nat) : Int) * T = n * T + T := by rw [Int.natCast_succ, Int.add_mul, Int.one_mul]
    unfold sumN
    omega

/-- A loop that adds. -/
theorem loop_sum {R : Type} (N : Nat) (L : Nat → Int → Int → Option R) (J : Int → Option R) (t : Nat → Int) (T B : Int)
    (ht : ∀ i, i < N → -T ≤ t i ∧ t i ≤ T) (h0 : ∀ k n, L (k + 1) n (N : Int) = J n)
    (h1 : ∀ k (i : Nat) n, i < N → -B ≤ n → n ≤ B → L (k + 1) n (i : Int) = L k (n + t i) ((i + 1 : Nat) : Int)) :
    ∀ (d k i : Nat) (n : Int), i + d = N → d < k → -B + d * T ≤ n → n ≤ B - d * T → 0 ≤ T → ∃ r, r = n + (sumN N t - sumN i t) ∧ L k n (i : Int) = J r := by
  intro d
  induction d with
  | zero =>
    intro k i n hi hk _ _ _
    obtain ⟨k, rfl⟩ : ∃ m, k = m + 1 := ⟨k - 1, by omega⟩
    have : i = N := by omega
    subst this
    exact ⟨n, by omega, h0 k n⟩
  | succ d ih =>
    intro k i n hi hk h2 h3 hT
    obtain ⟨k, rfl⟩ : ∃ m, k = m + 1 := ⟨k - 1, by omega⟩
    have hd : ((d + 1 : Nat) : Int) * T = d * T + T := by rw [Int.natCast_succ, Int.add_mul, Int.one_mul]
    have hdT : 0 ≤ (d : Int) * T := Int.mul_nonneg (by omega) hT
    have hti := ht i (by omega)
    obtain ⟨r, hr, hL⟩ := ih k (i + 1) (n + t i) (by omega) (by omega) (by omega) (by omega) hT
    refine ⟨r, ?_, ?_⟩
    · rw [hr]; simp only [sumN]; omega
    · rw [h1 k i n (by omega) (by omega) (by omega), hL]
theorem loop_sum0 {R : Type} (N : Nat) (L : Nat → Int → Int → Option R) (J : Int → Option R) (t : Nat → Int) (T B n : Int) (hT : 0 ≤ T)
    (ht : ∀ i, i < N → -T ≤ t i ∧ t i ≤ T) (h0 : ∀ k n, L (k + 1) n (N : Int) = J n)
    (h1 : ∀ k (i : Nat) n, i < N → -B ≤ n → n ≤ B → L (k + 1) n (i : Int) = L k (n + t i) ((i + 1 : Nat) : Int)) (k : Nat) (hk : N < k)
    (hn1 : -B + N * T ≤ n) (hn2 : n ≤ B - N * T) : L k n 0 = J (n + sumN N t) := by
  obtain ⟨r, hr, h⟩ := loop_sum N L J t T B ht h0 h1 N k 0 n (by omega) hk hn1 hn2 hT
  have : r = n + sumN N t := by rw [hr]; simp [sumN]
  rw [← this]; exact h

/-- A loop that fills a row. -/
theorem loop_row {α R : Type} (c N : Nat) (L : Nat → Int → (Nat → α) → Option R) (J : (Nat → α) → Option R) (g : Nat → α)
    (h0 : ∀ k f, L (k + 1) (N : Int) f = J f) (h1 : ∀ k (i : Nat) f, i < N → L (k + 1) (i : Int) f = L k ((i + 1 : Nat) : Int) (upd f (c + i) (g (c + i)))) :
    ∀ (d k i : Nat) (f : Nat → α), i + d = N → d < k → L k (i : Int) f = J (fun j => if c + i ≤ j ∧ j < c + N then g j else f j) := by
  intro d
  induction d with
  | zero =>
    intro k i f hi hk
    obtain ⟨k, rfl⟩ : ∃ m, k = m + 1 := ⟨k - 1, by omega⟩
    have : i = N := by omega
    subst this
    rw [h0]
    congr 1
    funext j
    rw [if_neg (by omega)]
  | succ d ih =>
    intro k i f hi hk
    obtain ⟨k, rfl⟩ : ∃ m, k = m + 1 := ⟨k - 1, by omega⟩
    rw [h1 k i f (by omega), ih k (i + 1) _ (by omega) (by omega)]
    congr 1
    funext j
    rw [upd_apply]
    by_cases hj : c + i = j
    · subst hj
      rw [if_neg (by omega), if_pos rfl, if_pos (by omega)]
    · rw [if_neg hj]
      by_cases h : c + (i + 1) ≤ j ∧ j < c + N
      · rw [if_pos h, if_pos (by omega)]
      · rw [if_neg h, if_neg (by omega)]
theorem loop_row0 {α R : Type} (c N : Nat) (L : Nat → Int → (Nat → α) → Option R) (J : (Nat → α) → Option R) (g : Nat → α)
    (h0 : ∀ k f, L (k + 1) (N : Int) f = J f) (h1 : ∀ k (i : Nat) f, i < N → L (k + 1) (i : Int) f = L k ((i + 1 : Nat) : Int) (upd f (c + i) (g (c + i)))) (k : Nat) (hk : N < k) (f : Nat → α) :
    L k 0 f = J (fun j => if c ≤ j ∧ j < c + N then g j else f j) := loop_row c N L J g h0 h1 N k 0 f (by omega) hk

/-- A loop that fills row after row, 8 each. -/
theorem loop_rows {α R : Type} (N : Nat) (L : Nat → Int → (Nat → α) → Option R) (J : (Nat → α) → Option R) (g : Nat → α)
    (h0 : ∀ k f, L (k + 1) (N : Int) f = J f) (h1 : ∀ k (i : Nat) f, i < N → L (k + 1) (i : Int) f = L k ((i + 1 : Nat) : Int) (fun j => if 8 * i ≤ j ∧ j < 8 * i + 8 then g j else f j)) :
    ∀ (d k i : Nat) (f : Nat → α), i + d = N → d < k → L k (i : Int) f = J (fun j => if 8 * i ≤ j ∧ j < 8 * N then g j else f j) := by
  intro d
  induction d with
  | zero =>
    intro k i f hi hk
    obtain ⟨k, rfl⟩ : ∃ m, k = m + 1 := ⟨k - 1, by omega⟩
    have : i = N := by omega
    subst this
    rw [h0]
    congr 1
    funext j
    rw [if_neg (by omega)]
  | succ d ih =>
    intro k i f hi hk
    obtain ⟨k, rfl⟩ : ∃ m, k = m + 1 := ⟨k - 1, by omega⟩
    rw [h1 k i f (by omega), ih k (i + 1) _ (by omega) (by omega)]
    congr 1
    funext j
    by_cases h : 8 * (i + 1) ≤ j ∧ j < 8 * N
    · rw [if_pos h, if_pos (by omega)]
    · rw [if_neg h]
      by_cases h' : 8 * i ≤ j ∧ j < 8 * i + 8
      · rw [if_pos h', if_pos (by omega)]
      · rw [if_neg h', if_neg (by omega)]
theorem loop_rows0 {α R : Type} (N : Nat) (L : Nat → Int → (Nat → α) → Option R) (J : (Nat → α) → Option R) (g : Nat → α)
    (h0 : ∀ k f, L (k + 1) (N : Int) f = J f) (h1 : ∀ k (i : Nat) f, i < N → L (k + 1) (i : Int) f = L k ((i + 1 : Nat) : Int) (fun j => if 8 * i ≤ j ∧ j < 8 * i + 8 then g j else f j)) (k : Nat) (hk : N < k) (f : Nat → α) :
    L k 0 f = J (fun j => if j < 8 * N then g j else f j) := by
  refine (loop_rows N L J g h0 h1 N k 0 f (by omega) hk).trans ?_
  congr 1
  funext j
  by_cases h : j < 8 * N
  · rw [if_pos h, if_pos ⟨by omega, h⟩]
  · rw [if_neg h, if_neg (by omega)]

theorem ix {i k : Nat} (hi : i < 8) (hk : k < 8) : w64 (w64 (8 * (i : Int)) + (k : Int)) = ((8 * i + k : Nat) : Int) := by
  rw [w64_id (x := 8 * (i : Int)) (by omega) (by omega), w64_id (by omega) (by omega)]; omega

theorem mul_abs {a b A B : Int} (h1 : -A ≤ a) (h2 : a ≤ A) (h3 : -B ≤ b) (h4 : b ≤ B) : -(A * B) ≤ a * b ∧ a * b ≤ A * B := by
  have hA : 0 ≤ A := by omega
  have key : ∀ x y : Int, 0 ≤ x → x ≤ A → 0 ≤ y → y ≤ B → 0 ≤ x * y ∧ x * y ≤ A * B := fun x y hx hx2 hy hy2 => ⟨Int.mul_nonneg hx hy, Int.mul_le_mul hx2 hy2 hy hA⟩
  by_cases ha : 0 ≤ a <;> by_cases hb : 0 ≤ b
  · have := key a b ha h2 hb h4; omega
  · have := key a (-b) ha h2 (by omega) (by omega); rw [Int.mul_neg] at this; omega
  · have := key (-a) b (by omega) (by omega) hb h4; rw [Int.neg_mul] at this; omega
  · have := key (-a) (-b) (by omega) (by omega) (by omega) (by omega); rw [Int.neg_mul_neg] at this; omega

/-! ### one pass -/
def Bd (B : Int) (f : Nat → Int) : Prop := ∀ j, j < 64 → -B ≤ f j ∧ f j ≤ B
def passF (m b : Nat → Int) (j : Nat) : Int := sumN 8 fun p => m (8 * (j / 8) + p) * b (8 * (j % 8) + p)

theorem passF_bd {A B : Int} {m b : Nat → Int} (hm : Bd A m) (hb : Bd B b) : ∀ j, j < 64 → -(8 * (A * B)) ≤ passF m b j ∧ passF m b j ≤ 8 * (A * B) := fun j hj => by
  have := sumN_bd (n := 8) (t := fun p => m (8 * (j / 8) + p) * b (8 * (j % 8) + p)) (T := A * B) fun p hp => by
    have h1 := hm (8 * (j / 8) + p) (by omega)
    have h2 := hb (8 * (j % 8) + p) (by omega)
    exact mul_abs h1.1 h1.2 h2.1 h2.2
  exact this

theorem pass_eq (K : Nat) (hK : 65 ≤ K) (m b : Nat → Int) (B : Int) (hB : B ≤ 70368744177664) (hB0 : 0 ≤ B) (hm : Bd 4096 m) (hb : Bd B b) :
    pass K m b = some (fun j => if j < 64 then passF m b j else 0) := by
  unfold pass
  rw [loop_rows0 8 (pass_l1 K m b) (pass_j1 K) (passF m b) ?_ ?_ K (by omega)]
  · rfl
  · intro k f
    rw [pass_l1.eq_2, if_neg (by omega)]
  · intro k i f hi
    rw [pass_l1.eq_2, if_pos (by omega)]
    rw [loop_row0 (8 * i) 8 (pass_l2 K (pass_l1 K m b k) m b (i : Int)) (pass_j2 K (pass_l1 K m b k) (i : Int)) (passF m b) ?_ ?_ K (by omega)]
    · unfold pass_j2
      rw [w64_succ (by omega)]
    · intro k' f
      rw [pass_l2.eq_2, if_neg (by omega)]
    · intro k' c f hc
      rw [pass_l2.eq_2, if_pos (by omega)]
      have hterm : ∀ q, q < 8 → -(4096 * B) ≤ m (8 * i + q) * b (8 * c + q) ∧ m (8 * i + q) * b (8 * c + q) ≤ 4096 * B := fun q hq => by
        have h1 := hm (8 * i + q) (by omega)
        have h2 := hb (8 * c + q) (by omega)
        exact mul_abs h1.1 h1.2 h2.1 h2.2
      rw [loop_sum0 8 (pass_l3 K (pass_l2 K (pass_l1 K m b k) m b (i : Int) k') m b (i : Int) (c : Int) f) (pass_j4 K (pass_l2 K (pass_l1 K m b k) m b (i : Int) k') (i : Int) (c : Int) f)
        (fun p => m (8 * i + p) * b (8 * c + p)) (4096 * B) 2305843009213693952 0 (by omega) hterm ?_ ?_ K (by omega) (by omega) (by omega)]
      · unfold pass_j4 pass_j3
        rw [ix hi hc, if_pos (by omega), w64_succ (by omega), Int.toNat_natCast]
        have : passF m b (8 * i + c) = 0 + sumN 8 fun p => m (8 * i + p) * b (8 * c + p) := by
          unfold passF
          rw [show (8 * i + c) / 8 = i by omega, show (8 * i + c) % 8 = c by omega]; omega
        rw [this]
      · intro k'' n
        rw [pass_l3.eq_2, if_neg (by omega)]
      · intro k'' p n hp h1 h2
        have ht := hterm p hp
        rw [pass_l3.eq_2, if_pos (by omega), if_pos (by omega), if_pos (by omega), ix hc hp, if_pos (by omega)]
        simp only [Int.toNat_natCast]
        rw [Nat.mul_comm i 8, w64_id (x := m (8 * i + p) * b (8 * c + p)) (by omega) (by omega), w64_id (by omega) (by omega), w64_succ (by omega)]

/-! ### both -/
def dctF (m b : Nat → Int) (j : Nat) : Int := sumN 8 fun p => sumN 8 fun q => m (8 * (j / 8) + p) * m (8 * (j % 8) + q) * b (8 * p + q)

theorem dctF_eq {m b g : Nat → Int} (hg : ∀ j, j < 64 → g j = passF m b j) {j : Nat} (_ : j < 64) : passF m g j = dctF m b j := by
  unfold passF dctF
  refine sumN_congr fun p hp => ?_
  rw [hg _ (by omega)]
  unfold passF
  rw [sumN_mul]
  refine sumN_congr fun q hq => ?_
  rw [show (8 * (j % 8) + p) / 8 = j % 8 by omega, show (8 * (j % 8) + p) % 8 = p by omega, Int.mul_assoc]

theorem passF_bd' {m b : Nat → Int} (hm : Bd 4096 m) (hb : Bd 1048576 b) : Bd 34359738368 (fun j => if j < 64 then passF m b j else 0) := fun j hj => by
  simp only [if_pos hj]
  have := passF_bd hm hb j hj
  omega

theorem both_eq (K : Nat) (hK : 65 ≤ K) (m b : Nat → Int) (hm : Bd 4096 m) (hb : Bd 1048576 b) : both K m b = some (fun j => if j < 64 then rnd (dctF m b j) 67108864 else 0) := by
  unfold both
  rw [pass_eq K hK m b 1048576 (by omega) (by omega) hm hb, Option.bind_some, pass_eq K hK m _ 34359738368 (by omega) (by omega) hm (passF_bd' hm hb), Option.bind_some]
  generalize hg : (fun j => if j < 64 then passF m b j else 0) = g
  have hg' : ∀ j, j < 64 → g j = passF m b j := fun j hj => by rw [← hg]; simp only [if_pos hj]
  rw [loop_upd0 64 (both_l1 K fun j => if j < 64 then passF m g j else 0) (both_j1 K) (fun j _ => rnd (dctF m b j) 67108864) ?_ ?_ K (by omega)]
  · unfold both_j1
    congr 1
    funext j
    by_cases hj : j < 64
    · rw [if_pos hj, if_pos hj]
    · rw [if_neg hj, if_neg hj, if_neg hj]
  · intro k f
    rw [both_l1.eq_2, if_neg (by omega)]
  · intro k i f hi
    rw [both_l1.eq_2, if_pos (by omega), if_pos (by omega)]
    simp only [Int.toNat_natCast]
    rw [if_pos hi, dctF_eq hg' hi, w64_succ (by omega)]

/-! ### the waves, and their turn -/
theorem waves_bd : Bd 4096 wavesF := by unfold Bd wavesF wavesL lf; decide
def turnF (j : Nat) : Int := wavesF (8 * (j % 8) + j / 8)
theorem turnF_bd : Bd 4096 turnF := fun j hj => waves_bd _ (by omega)

def colF (f : Nat → Int) (m : Nat → Int) (n : Nat) (j : Nat) : Int := if j < 64 ∧ j % 8 < n then m (8 * (j % 8) + j / 8) else f j
theorem turned_eq (K : Nat) (hK : 65 ≤ K) (m : Nat → Int) : turned K m = some (colF zf m 8) := by
  unfold turned
  have key : ∀ (d k i : Nat), i + d = 8 → d < k → turned_l1 K m k (i : Int) (colF zf m i) = some (colF zf m 8) := by
    intro d
    induction d with
    | zero =>
      intro k i hi hk
      obtain ⟨k, rfl⟩ : ∃ m, k = m + 1 := ⟨k - 1, by omega⟩
      have : i = 8 := by omega
      subst this
      rw [turned_l1.eq_2, if_neg (by omega)]; rfl
    | succ d ih =>
      intro k i hi hk
      obtain ⟨k, rfl⟩ : ∃ m, k = m + 1 := ⟨k - 1, by omega⟩
      rw [turned_l1.eq_2, if_pos (by omega)]
      have inner : ∀ (d' k' c : Nat) (f : Nat → Int), c + d' = 8 → d' < k' → turned_l2 K (turned_l1 K m k) m (i : Int) k' (c : Int) f =
          turned_j2 K (turned_l1 K m k) (i : Int) (fun j => if j < 64 ∧ j % 8 = i ∧ c ≤ j / 8 then m (8 * i + j / 8) else f j) := by
        intro d'
        induction d' with
        | zero =>
          intro k' c f hc hk'
          obtain ⟨k', rfl⟩ : ∃ m, k' = m + 1 := ⟨k' - 1, by omega⟩
          have : c = 8 := by omega
          subst this
          rw [turned_l2.eq_2, if_neg (by omega)]
          congr 1
          funext j
          rw [if_neg (by omega)]
        | succ d' ih' =>
          intro k' c f hc hk'
          obtain ⟨k', rfl⟩ : ∃ m, k' = m + 1 := ⟨k' - 1, by omega⟩
          rw [turned_l2.eq_2, if_pos (by omega), if_pos (by omega), if_pos (by omega), w64_succ (by omega), ih' k' (c + 1) _ (by omega) (by omega)]
          simp only [Int.toNat_natCast]
          congr 1
          funext j
          rw [upd_apply]
          by_cases hj : c * 8 + i = j
          · subst hj
            rw [if_neg (by omega), if_pos rfl, if_pos (by omega)]
            congr 1
            omega
          · rw [if_neg hj]
            by_cases h : j < 64 ∧ j % 8 = i ∧ c + 1 ≤ j / 8
            · rw [if_pos h, if_pos (by omega)]
            · rw [if_neg h, if_neg (by omega)]
      have := inner 8 K 0 (colF zf m i) (by omega) (by omega)
      refine this.trans ?_
      unfold turned_j2
      rw [w64_succ (by omega)]
      have e : (fun j => if j < 64 ∧ j % 8 = i ∧ 0 ≤ j / 8 then m (8 * i + j / 8) else colF zf m i j) = colF zf m (i + 1) := by
        funext j
        unfold colF
        by_cases h : j < 64 ∧ j % 8 = i
        · rw [if_pos ⟨h.1, h.2, by omega⟩, if_pos ⟨h.1, by omega⟩, h.2]
        · rw [if_neg (fun hh => h ⟨hh.1, hh.2.1⟩)]
          by_cases h' : j < 64 ∧ j % 8 < i
          · rw [if_pos h', if_pos ⟨h'.1, by omega⟩]
          · rw [if_neg h', if_neg (fun hh => h' ⟨hh.1, by omega⟩)]
      rw [e]
      exact ih k (i + 1) (by omega) (by omega)
  have e0 : colF zf m 0 = zf := by
    funext j
    unfold colF
    rw [if_neg (by omega)]
  have := key 8 K 0 (by omega) (by omega)
  rw [e0] at this
  exact this
theorem col_turn {j : Nat} (hj : j < 64) : colF zf wavesF 8 j = turnF j := by
  unfold colF turnF
  rw [if_pos ⟨hj, by omega⟩]
theorem col_bd : Bd 4096 (colF zf wavesF 8) := fun j hj => by rw [col_turn hj]; exact turnF_bd j hj
theorem dctF_m {m m' b : Nat → Int} (h : ∀ j, j < 64 → m j = m' j) {j : Nat} (hj : j < 64) : dctF m b j = dctF m' b j := by
  unfold dctF
  refine sumN_congr fun p hp => sumN_congr fun q hq => ?_
  rw [h _ (by omega), h _ (by omega)]

/-! ### within -/
def inB (b : Nat → Int) (lo hi : Int) : Bool := allB 64 fun j => decide (lo ≤ b j) && decide (b j ≤ hi)
theorem inB_true {b : Nat → Int} {lo hi : Int} : inB b lo hi = true ↔ ∀ j, j < 64 → lo ≤ b j ∧ b j ≤ hi := by
  unfold inB
  rw [allB_true]
  simp
theorem dWithin_eq (K : Nat) (hK : 65 ≤ K) (b : Nat → Int) (lo hi : Int) : dWithin K b lo hi = some (inB b lo hi) := by
  unfold dWithin
  rw [loop_all0 64 (dWithin_l1 K b lo hi) (some true) (some false) (fun j => decide (lo ≤ b j) && decide (b j ≤ hi)) ?_ ?_ ?_ K (by omega)]
  · unfold inB
    cases allB 64 _ <;> rfl
  · intro k
    rw [dWithin_l1.eq_2, if_neg (by omega)]; rfl
  · intro k i hi' hp
    simp only [Bool.and_eq_true, decide_eq_true_eq] at hp
    rw [dWithin_l1.eq_2, if_pos (by omega), if_pos (by omega)]
    simp only [Int.toNat_natCast]
    rw [if_neg (by omega), if_neg (by omega), w64_succ (by omega)]
  · intro k i hi' hp
    rw [dWithin_l1.eq_2, if_pos (by omega), if_pos (by omega)]
    simp only [Int.toNat_natCast]
    by_cases h : b i < lo
    · rw [if_pos h]
    · rw [if_neg h, if_pos]
      rw [Bool.eq_false_iff] at hp
      simp only [ne_eq, Bool.and_eq_true, decide_eq_true_eq] at hp
      omega
theorem rIn_eq (K : Nat) (hK : 65 ≤ K) (b : Nat → Int) (lo hi : Int) : rIn K b lo hi = some (inB b lo hi) := by
  unfold rIn
  rw [loop_all0 64 (rIn_l1 K b lo hi) (some true) (some false) (fun j => decide (lo ≤ b j) && decide (b j ≤ hi)) ?_ ?_ ?_ K (by omega)]
  · unfold inB
    cases allB 64 _ <;> rfl
  · intro k
    rw [rIn_l1.eq_2, if_neg (by omega)]; rfl
  · intro k i hi' hp
    simp only [Bool.and_eq_true, decide_eq_true_eq] at hp
    rw [rIn_l1.eq_2, if_pos (by omega), if_pos (by omega)]
    simp only [Int.toNat_natCast]
    rw [if_neg (by omega), if_neg (by omega), w64_succ (by omega)]
  · intro k i hi' hp
    rw [rIn_l1.eq_2, if_pos (by omega), if_pos (by omega)]
    simp only [Int.toNat_natCast]
    by_cases h : b i < lo
    · rw [if_pos h]
    · rw [if_neg h, if_pos]
      rw [Bool.eq_false_iff] at hp
      simp only [ne_eq, Bool.and_eq_true, decide_eq_true_eq] at hp
      omega

def wF (m b : Nat → Int) (j : Nat) : Int := if j < 64 then rnd (dctF m b j) 67108864 else 0
theorem fwd_eq (K : Nat) (hK : 65 ≤ K) (b : Nat → Int) : fwd K b = if inB b (-2048) 2047 = true then some (wF wavesF b, 0) else some (zf, 2) := by
  unfold fwd
  rw [dWithin_eq K hK, Option.bind_some]
  by_cases h : inB b (-2048) 2047 = true
  · rw [if_pos h, if_pos h]
    rw [both_eq K hK wavesF b waves_bd (fun j hj => by have := inB_true.1 h j hj; omega), Option.bind_some]
    rfl
  · rw [if_neg h, if_neg h]
theorem invd_eq (K : Nat) (hK : 65 ≤ K) (b : Nat → Int) : invd K b = if inB b (-1048576) 1048576 = true then some (wF turnF b, 0) else some (zf, 2) := by
  unfold invd
  rw [dWithin_eq K hK, Option.bind_some]
  by_cases h : inB b (-1048576) 1048576 = true
  · rw [if_pos h, if_pos h]
    rw [turned_eq K hK, Option.bind_some, both_eq K hK _ b col_bd (fun j hj => by have := inB_true.1 h j hj; omega), Option.bind_some]
    have : (fun j => if j < 64 then rnd (dctF (colF zf wavesF 8) b j) 67108864 else 0) = wF turnF b := by
      funext j
      unfold wF
      by_cases hj : j < 64
      · rw [if_pos hj, if_pos hj, dctF_m (fun j hj => col_turn hj) hj]
      · rw [if_neg hj, if_neg hj]
    rw [this]
  · rw [if_neg h, if_neg h]
end Go.Proofs.YtfpafpmcfkapkaaDoor
