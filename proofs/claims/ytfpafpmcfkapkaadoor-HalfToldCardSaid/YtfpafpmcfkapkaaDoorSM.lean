import Derived.Test.YtfpafpmcfkapkaaDoorP0
/-! Sums; loops that add; loops that fill rows and columns: plain. -/
namespace Go.Proofs.YtfpafpmcfkapkaaDoor
open Go Go.RowKit K

/-! ### sums -/
def sumN : Nat → (Nat → Int) → Int
  | 0, _ => 0
  | n + 1, t => sumN n t + t n
theorem sumN_congr {n : Nat} {s t : Nat → Int} (h : ∀ i, i < n → s i = t i) : sumN n s = sumN n t := by
  induction n with
  | zero => rfl
  | succ n ih => unfold sumN; rw [ih fun i hi => h i (by omega), h n (by omega)]
theorem sumN_mul (a : Int) (n : Nat) (t : Nat → Int) : a * sumN n t = sumN n fun i => a * t i := by
  induction n with
  | zero => simp [sumN]
  | succ n ih => unfold sumN; rw [Int.mul_add, ih]
theorem sumN_add (n : Nat) (s t : Nat → Int) : sumN n (fun i => s i + t i) = sumN n s + sumN n t := by
  induction n with
  | zero => rfl
  | succ n ih => simp only [sumN]; rw [ih]; omega
theorem sumN_neg (n : Nat) (t : Nat → Int) : sumN n (fun i => - t i) = - sumN n t := by
  induction n with
  | zero => rfl
  | succ n ih => simp only [sumN]; rw [ih]; omega
theorem sumN_zero (n : Nat) : sumN n (fun _ => 0) = 0 := by
  induction n with
  | zero => rfl
  | succ n ih => unfold sumN; rw [ih]; rfl
theorem sumN_comm (n m : Nat) (f : Nat → Nat → Int) : sumN n (fun p => sumN m fun q => f p q) = sumN m fun q => sumN n fun p => f p q := by
  induction n with
  | zero => simp only [sumN]; rw [sumN_zero]
  | succ n ih => simp only [sumN]; rw [ih, ← sumN_add]
theorem sumN_bd {n : Nat} {t : Nat → Int} {T : Int} (h : ∀ i, i < n → -T ≤ t i ∧ t i ≤ T) : -(n * T) ≤ sumN n t ∧ sumN n t ≤ n * T := by
  induction n with
  | zero => simp [sumN]
  | succ n ih =>
    have h1 := ih fun i hi => h i (by omega)
    have h2 := h n (by omega)
    have h3 : ((n + 1 : Nat) : Int) * T = n * T + T := by rw [Int.natCast_succ, Int.add_mul, Int.one_mul]
    unfold sumN
    omega

/-- A loop that adds. -/
theorem loop_sum {R : Type} (N : Nat) (L : Nat → Int → Int → Option R) (J : Int → Option R) (t : Nat → Int) (T B : Int)
    (ht : ∀ i, i < N → -T ≤ t i ∧ t i ≤ T) (h0 : ∀ k n, L (k + 1) n (N : Int) = J n)
    (h1 : ∀ k (i : Nat) n, i < N → -B ≤ n → n ≤ B → L (k + 1) n (i : Int) = L k (n + t i) ((i + 1 : Nat) : Int)) :
    ∀ (d k i : Nat) (n : Int), i + d = N → d < k → -B + d * T ≤ n → n ≤ B - d * T → 0 ≤ T → ∃ r, r = n + (sumN N t - sumN i t) ∧ L k n (i : Int) = J r := by
  intro d
  induction d with
  | zero =>
    intro k i n hi hk _ _ _
    obtain ⟨k, rfl⟩ : ∃ m, k = m + 1 := ⟨k - 1, by omega⟩
    have : i = N := by omega
    subst this
    exact ⟨n, by omega, h0 k n⟩
  | succ d ih =>
    intro k i n hi hk h2 h3 hT
    obtain ⟨k, rfl⟩ : ∃ m, k = m + 1 := ⟨k - 1, by omega⟩
    have hd : ((d + 1 : Nat) : Int) * T = d * T + T := by rw [Int.natCast_succ, Int.add_mul, Int.one_mul]
    have hdT : 0 ≤ (d : Int) * T := Int.mul_nonneg (by omega) hT
    have hti := ht i (by omega)
    obtain ⟨r, hr, hL⟩ := ih k (i + 1) (n + t i) (by omega) (by omega) (by omega) (by omega) hT
    refine ⟨r, ?_, ?_⟩
    · rw [hr]; simp only [sumN]; omega
    · rw [h1 k i n (by omega) (by omega) (by omega), hL]
theorem loop_sum0 {R : Type} (N : Nat) (L : Nat → Int → Int → Option R) (J : Int → Option R) (t : Nat → Int) (T B n : Int) (hT : 0 ≤ T)
    (ht : ∀ i, i < N → -T ≤ t i ∧ t i ≤ T) (h0 : ∀ k n, L (k + 1) n (N : Int) = J n)
    (h1 : ∀ k (i : Nat) n, i < N → -B ≤ n → n ≤ B → L (k + 1) n (i : Int) = L k (n + t i) ((i + 1 : Nat) : Int)) (k : Nat) (hk : N < k)
    (hn1 : -B + N * T ≤ n) (hn2 : n ≤ B - N * T) : L k n 0 = J (n + sumN N t) := by
  obtain ⟨r, hr, h⟩ := loop_sum N L J t T B ht h0 h1 N k 0 n (by omega) hk hn1 hn2 hT
  have : r = n + sumN N t := by rw [hr]; simp [sumN]
  rw [← this]; exact h

/-- A loop that fills a row. -/
theorem loop_row {α R : Type} (c N : Nat) (L : Nat → Int → (Nat → α) → Option R) (J : (Nat → α) → Option R) (g : Nat → α)
    (h0 : ∀ k f, L (k + 1) (N : Int) f = J f) (h1 : ∀ k (i : Nat) f, i < N → L (k + 1) (i : Int) f = L k ((i + 1 : Nat) : Int) (upd f (c + i) (g (c + i)))) :
    ∀ (d k i : Nat) (f : Nat → α), i + d = N → d < k → L k (i : Int) f = J (fun j => if c + i ≤ j ∧ j < c + N then g j else f j) := by
  intro d
  induction d with
  | zero =>
    intro k i f hi hk
    obtain ⟨k, rfl⟩ : ∃ m, k = m + 1 := ⟨k - 1, by omega⟩
    have : i = N := by omega
    subst this
    rw [h0]
    congr 1
    funext j
    rw [if_neg (by omega)]
  | succ d ih =>
    intro k i f hi hk
    obtain ⟨k, rfl⟩ : ∃ m, k = m + 1 := ⟨k - 1, by omega⟩
    rw [h1 k i f (by omega), ih k (i + 1) _ (by omega) (by omega)]
    congr 1
    funext j
    rw [upd_apply]
    by_cases hj : c + i = j
    · subst hj
      rw [if_neg (by omega), if_pos rfl, if_pos (by omega)]
    · rw [if_neg hj]
      by_cases h : c + (i + 1) ≤ j ∧ j < c + N
      · rw [if_pos h, if_pos (by omega)]
      · rw [if_neg h, if_neg (by omega)]
theorem loop_row0 {α R : Type} (c N : Nat) (L : Nat → Int → (Nat → α) → Option R) (J : (Nat → α) → Option R) (g : Nat → α)
    (h0 : ∀ k f, L (k + 1) (N : Int) f = J f) (h1 : ∀ k (i : Nat) f, i < N → L (k + 1) (i : Int) f = L k ((i + 1 : Nat) : Int) (upd f (c + i) (g (c + i)))) (k : Nat) (hk : N < k) (f : Nat → α) :
    L k 0 f = J (fun j => if c ≤ j ∧ j < c + N then g j else f j) := loop_row c N L J g h0 h1 N k 0 f (by omega) hk

/-- A loop that fills row after row, 8 each. -/
theorem loop_rows {α R : Type} (N : Nat) (L : Nat → Int → (Nat → α) → Option R) (J : (Nat → α) → Option R) (g : Nat → α)
    (h0 : ∀ k f, L (k + 1) (N : Int) f = J f) (h1 : ∀ k (i : Nat) f, i < N → L (k + 1) (i : Int) f = L k ((i + 1 : Nat) : Int) (fun j => if 8 * i ≤ j ∧ j < 8 * i + 8 then g j else f j)) :
    ∀ (d k i : Nat) (f : Nat → α), i + d = N → d < k → L k (i : Int) f = J (fun j => if 8 * i ≤ j ∧ j < 8 * N then g j else f j) := by
  intro d
  induction d with
  | zero =>
    intro k i f hi hk
    obtain ⟨k, rfl⟩ : ∃ m, k = m + 1 := ⟨k - 1, by omega⟩
    have : i = N := by omega
    subst this
    rw [h0]
    congr 1
    funext j
    rw [if_neg (by omega)]
  | succ d ih =>
    intro k i f hi hk
    obtain ⟨k, rfl⟩ : ∃ m, k = m + 1 := ⟨k - 1, by omega⟩
    rw [h1 k i f (by omega), ih k (i + 1) _ (by omega) (by omega)]
    congr 1
    funext j
    by_cases h : 8 * (i + 1) ≤ j ∧ j < 8 * N
    · rw [if_pos h, if_pos (by omega)]
    · rw [if_neg h]
      by_cases h' : 8 * i ≤ j ∧ j < 8 * i + 8
      · rw [if_pos h', if_pos (by omega)]
      · rw [if_neg h', if_neg (by omega)]
theorem loop_rows0 {α R : Type} (N : Nat) (L : Nat → Int → (Nat → α) → Option R) (J : (Nat → α) → Option R) (g : Nat → α)
    (h0 : ∀ k f, L (k + 1) (N : Int) f = J f) (h1 : ∀ k (i : Nat) f, i < N → L (k + 1) (i : Int) f = L k ((i + 1 : Nat) : Int) (fun j => if 8 * i ≤ j ∧ j < 8 * i + 8 then g j else f j)) (k : Nat) (hk : N < k) (f : Nat → α) :
    L k 0 f = J (fun j => if j < 8 * N then g j else f j) := by
  refine (loop_rows N L J g h0 h1 N k 0 f (by omega) hk).trans ?_
  congr 1
  funext j
  by_cases h : j < 8 * N
  · rw [if_pos h, if_pos ⟨by omega, h⟩]
  · rw [if_neg h, if_neg (by omega)]

/-- A loop that fills row after row, 4 each. -/
theorem loop_rows4 {α R : Type} (N : Nat) (L : Nat → Int → (Nat → α) → Option R) (J : (Nat → α) → Option R) (g : Nat → α)
    (h0 : ∀ k f, L (k + 1) (N : Int) f = J f) (h1 : ∀ k (i : Nat) f, i < N → L (k + 1) (i : Int) f = L k ((i + 1 : Nat) : Int) (fun j => if 4 * i ≤ j ∧ j < 4 * i + 4 then g j else f j)) :
    ∀ (d k i : Nat) (f : Nat → α), i + d = N → d < k → L k (i : Int) f = J (fun j => if 4 * i ≤ j ∧ j < 4 * N then g j else f j) := by
  intro d
  induction d with
  | zero =>
    intro k i f hi hk
    obtain ⟨k, rfl⟩ : ∃ m, k = m + 1 := ⟨k - 1, by omega⟩
    have : i = N := by omega
    subst this
    rw [h0]
    congr 1
    funext j
    rw [if_neg (by omega)]
  | succ d ih =>
    intro k i f hi hk
    obtain ⟨k, rfl⟩ : ∃ m, k = m + 1 := ⟨k - 1, by omega⟩
    rw [h1 k i f (by omega), ih k (i + 1) _ (by omega) (by omega)]
    congr 1
    funext j
    by_cases h : 4 * (i + 1) ≤ j ∧ j < 4 * N
    · rw [if_pos h, if_pos (by omega)]
    · rw [if_neg h]
      by_cases h' : 4 * i ≤ j ∧ j < 4 * i + 4
      · rw [if_pos h', if_pos (by omega)]
      · rw [if_neg h', if_neg (by omega)]
theorem loop_rows40 {α R : Type} (N : Nat) (L : Nat → Int → (Nat → α) → Option R) (J : (Nat → α) → Option R) (g : Nat → α)
    (h0 : ∀ k f, L (k + 1) (N : Int) f = J f) (h1 : ∀ k (i : Nat) f, i < N → L (k + 1) (i : Int) f = L k ((i + 1 : Nat) : Int) (fun j => if 4 * i ≤ j ∧ j < 4 * i + 4 then g j else f j)) (k : Nat) (hk : N < k) (f : Nat → α) :
    L k 0 f = J (fun j => if j < 4 * N then g j else f j) := by
  refine (loop_rows4 N L J g h0 h1 N k 0 f (by omega) hk).trans ?_
  congr 1
  funext j
  by_cases h : j < 4 * N
  · rw [if_pos h, if_pos ⟨by omega, h⟩]
  · rw [if_neg h, if_neg (by omega)]

/-- A loop that fills a column of 8. -/
theorem loop_col {α R : Type} (v : Nat) (_ : v < 8) (L : Nat → Int → (Nat → α) → Option R) (J : (Nat → α) → Option R) (g : Nat → α)
    (h0 : ∀ k f, L (k + 1) 8 f = J f) (h1 : ∀ k (i : Nat) f, i < 8 → L (k + 1) (i : Int) f = L k ((i + 1 : Nat) : Int) (upd f (8 * i + v) (g (8 * i + v)))) :
    ∀ (d k i : Nat) (f : Nat → α), i + d = 8 → d < k → L k (i : Int) f = J (fun j => if j < 64 ∧ j % 8 = v ∧ i ≤ j / 8 then g j else f j) := by
  intro d
  induction d with
  | zero =>
    intro k i f hi hk
    obtain ⟨k, rfl⟩ : ∃ m, k = m + 1 := ⟨k - 1, by omega⟩
    have : i = 8 := by omega
    subst this
    refine (h0 k f).trans ?_
    congr 1
    funext j
    rw [if_neg (by omega)]
  | succ d ih =>
    intro k i f hi hk
    obtain ⟨k, rfl⟩ : ∃ m, k = m + 1 := ⟨k - 1, by omega⟩
    rw [h1 k i f (by omega), ih k (i + 1) _ (by omega) (by omega)]
    congr 1
    funext j
    rw [upd_apply]
    by_cases hj : 8 * i + v = j
    · subst hj
      rw [if_neg (by omega), if_pos rfl, if_pos (by omega)]
    · rw [if_neg hj]
      by_cases h : j < 64 ∧ j % 8 = v ∧ i + 1 ≤ j / 8
      · rw [if_pos h, if_pos (by omega)]
      · rw [if_neg h, if_neg (by omega)]
/-- A loop that fills column after column. -/
theorem loop_cols {α R : Type} (L : Nat → Int → (Nat → α) → Option R) (J : (Nat → α) → Option R) (g : Nat → α)
    (h0 : ∀ k f, L (k + 1) 8 f = J f) (h1 : ∀ k (i : Nat) f, i < 8 → L (k + 1) (i : Int) f = L k ((i + 1 : Nat) : Int) (fun j => if j < 64 ∧ j % 8 = i ∧ 0 ≤ j / 8 then g j else f j)) :
    ∀ (d k i : Nat) (f : Nat → α), i + d = 8 → d < k → L k (i : Int) f = J (fun j => if j < 64 ∧ i ≤ j % 8 then g j else f j) := by
  intro d
  induction d with
  | zero =>
    intro k i f hi hk
    obtain ⟨k, rfl⟩ : ∃ m, k = m + 1 := ⟨k - 1, by omega⟩
    have : i = 8 := by omega
    subst this
    refine (h0 k f).trans ?_
    congr 1
    funext j
    rw [if_neg (by omega)]
  | succ d ih =>
    intro k i f hi hk
    obtain ⟨k, rfl⟩ : ∃ m, k = m + 1 := ⟨k - 1, by omega⟩
    rw [h1 k i f (by omega), ih k (i + 1) _ (by omega) (by omega)]
    congr 1
    funext j
    by_cases h : j < 64 ∧ i + 1 ≤ j % 8
    · rw [if_pos h, if_pos (by omega)]
    · rw [if_neg h]
      by_cases h' : j < 64 ∧ j % 8 = i ∧ 0 ≤ j / 8
      · rw [if_pos h', if_pos (by omega)]
      · rw [if_neg h', if_neg (by omega)]

theorem ix {i k : Nat} (hi : i < 8) (hk : k < 8) : w64 (w64 (8 * (i : Int)) + (k : Int)) = ((8 * i + k : Nat) : Int) := by
  rw [w64_id (x := 8 * (i : Int)) (by omega) (by omega), w64_id (by omega) (by omega)]; omega

theorem mul_abs {a b A B : Int} (h1 : -A ≤ a) (h2 : a ≤ A) (h3 : -B ≤ b) (h4 : b ≤ B) : -(A * B) ≤ a * b ∧ a * b ≤ A * B := by
  have hA : 0 ≤ A := by omega
  have key : ∀ x y : Int, 0 ≤ x → x ≤ A → 0 ≤ y → y ≤ B → 0 ≤ x * y ∧ x * y ≤ A * B := fun x y hx hx2 hy hy2 => ⟨Int.mul_nonneg hx hy, Int.mul_le_mul hx2 hy2 hy hA⟩
  by_cases ha : 0 ≤ a <;> by_cases hb : 0 ≤ b
  · have := key a b ha h2 hb h4; omega
  · have := key a (-b) ha h2 (by omega) (by omega); rw [Int.mul_neg] at this; omega
  · have := key (-a) b (by omega) (by omega) hb h4; rw [Int.neg_mul] at this; omega
  · have := key (-a) (-b) (by omega) (by omega) (by omega) (by omega); rw [Int.neg_mul_neg] at this; omega

/-! ### one pass -/
def Bd (B : Int) (f : Nat → Int) : Prop := ∀ j, j < 64 → -B ≤ f j ∧ f j ≤ B

def inB (b : Nat → Int) (lo hi : Int) : Bool := allB 64 fun j => decide (lo ≤ b j) && decide (b j ≤ hi)
theorem inB_true {b : Nat → Int} {lo hi : Int} : inB b lo hi = true ↔ ∀ j, j < 64 → lo ≤ b j ∧ b j ≤ hi := by
  unfold inB
  rw [allB_true]
  simp
end Go.Proofs.YtfpafpmcfkapkaaDoor
