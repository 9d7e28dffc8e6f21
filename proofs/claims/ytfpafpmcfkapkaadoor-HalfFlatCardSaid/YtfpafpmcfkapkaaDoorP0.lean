import Derived.Test.YtfpafpmcfkapkaaDoorK3
/-! Plain lemmas on the printed models: loops that turn an array, loops that look at it. -/
namespace Go.Proofs.YtfpafpmcfkapkaaDoor
open Go Go.RowKit K

theorem w64_succ {i : Nat} (h : i < 4611686018427387904) : w64 ((i : Int) + 1) = ((i + 1 : Nat) : Int) := by
  rw [w64_id (by omega) (by omega)]; omega

/-- A loop that turns cell after cell of an array. -/
theorem loop_upd {α R : Type} (N : Nat) (L : Nat → Int → (Nat → α) → Option R) (J : (Nat → α) → Option R) (g : Nat → α → α)
    (h0 : ∀ k f, L (k + 1) (N : Int) f = J f) (h1 : ∀ k (i : Nat) f, i < N → L (k + 1) (i : Int) f = L k ((i + 1 : Nat) : Int) (upd f i (g i (f i)))) :
    ∀ (d k i : Nat) (f : Nat → α), i + d = N → d < k → L k (i : Int) f = J (fun j => if i ≤ j ∧ j < N then g j (f j) else f j) := by
  intro d
  induction d with
  | zero =>
    intro k i f hi hk
    obtain ⟨k, rfl⟩ : ∃ m, k = m + 1 := ⟨k - 1, by omega⟩
    have : i = N := by omega
    subst this
    rw [h0]
    congr 1
    funext j
    rw [if_neg (by omega)]
  | succ d ih =>
    intro k i f hi hk
    obtain ⟨k, rfl⟩ : ∃ m, k = m + 1 := ⟨k - 1, by omega⟩
    rw [h1 k i f (by omega), ih k (i + 1) _ (by omega) (by omega)]
    congr 1
    funext j
    rw [upd_apply]
    by_cases hj : i = j
    · subst hj
      rw [if_neg (by omega), if_pos rfl, if_pos (by omega)]
    · rw [if_neg hj]
      by_cases h : i + 1 ≤ j ∧ j < N
      · rw [if_pos h, if_pos (by omega)]
      · rw [if_neg h, if_neg (by omega)]

theorem loop_upd0 {α R : Type} (N : Nat) (L : Nat → Int → (Nat → α) → Option R) (J : (Nat → α) → Option R) (g : Nat → α → α)
    (h0 : ∀ k f, L (k + 1) (N : Int) f = J f) (h1 : ∀ k (i : Nat) f, i < N → L (k + 1) (i : Int) f = L k ((i + 1 : Nat) : Int) (upd f i (g i (f i)))) (k : Nat) (hk : N < k) (f : Nat → α) :
    L k 0 f = J (fun j => if j < N then g j (f j) else f j) := by
  have := loop_upd N L J g h0 h1 N k 0 f (by omega) hk
  refine Eq.trans this ?_
  congr 1
  funext j
  by_cases h : j < N
  · rw [if_pos h, if_pos ⟨Nat.zero_le _, h⟩]
  · rw [if_neg h, if_neg (by omega)]

/-- A loop that looks at each number and ends early where one does not please. -/
theorem loop_all {R : Type} (N : Nat) (L : Nat → Int → Option R) (J F : Option R) (p : Nat → Bool)
    (h0 : ∀ k, L (k + 1) (N : Int) = J) (h1 : ∀ k (i : Nat), i < N → p i = true → L (k + 1) (i : Int) = L k ((i + 1 : Nat) : Int)) (h2 : ∀ k (i : Nat), i < N → p i = false → L (k + 1) (i : Int) = F) :
    ∀ (d k i : Nat), i + d = N → d < k → L k (i : Int) = cond ((List.range' i d).all p) J F := by
  intro d
  induction d with
  | zero =>
    intro k i hi hk
    obtain ⟨k, rfl⟩ : ∃ m, k = m + 1 := ⟨k - 1, by omega⟩
    have : i = N := by omega
    subst this
    rw [h0]; rfl
  | succ d ih =>
    intro k i hi hk
    obtain ⟨k, rfl⟩ : ∃ m, k = m + 1 := ⟨k - 1, by omega⟩
    rw [List.range'_succ, List.all_cons]
    cases hp : p i with
    | true => rw [h1 k i (by omega) hp, ih k (i + 1) (by omega) (by omega)]; rfl
    | false => rw [h2 k i (by omega) hp]; rfl

def allB (N : Nat) (p : Nat → Bool) : Bool := (List.range' 0 N).all p
theorem allB_true {N : Nat} {p : Nat → Bool} : allB N p = true ↔ ∀ j, j < N → p j = true := by
  unfold allB
  simp [List.all_eq_true, List.mem_range'_1]
theorem loop_all0 {R : Type} (N : Nat) (L : Nat → Int → Option R) (J F : Option R) (p : Nat → Bool)
    (h0 : ∀ k, L (k + 1) (N : Int) = J) (h1 : ∀ k (i : Nat), i < N → p i = true → L (k + 1) (i : Int) = L k ((i + 1 : Nat) : Int)) (h2 : ∀ k (i : Nat), i < N → p i = false → L (k + 1) (i : Int) = F)
    (k : Nat) (hk : N < k) : L k 0 = cond (allB N p) J F := loop_all N L J F p h0 h1 h2 N k 0 (by omega) hk

/-- .. where all please. -/
theorem loop_pass {R : Type} (N : Nat) (L : Nat → Int → Option R) (J : Option R)
    (h0 : ∀ k, L (k + 1) (N : Int) = J) (h1 : ∀ k (i : Nat), i < N → L (k + 1) (i : Int) = L k ((i + 1 : Nat) : Int)) (k : Nat) (hk : N < k) : L k 0 = J := by
  have := loop_all0 N L J J (fun _ => true) h0 (fun k i hi _ => h1 k i hi) (fun _ _ _ h => by cases h) k hk
  rw [this]
  cases allB N fun _ => true <;> rfl

theorem eqF_of {n : Nat} {f g : Nat → Int} (h : ∀ i, i < n → f i = g i) : eqF n f g := h
theorem eqF_refl (n : Nat) (f : Nat → Int) : eqF n f f := fun _ _ => rfl
end Go.Proofs.YtfpafpmcfkapkaaDoor
