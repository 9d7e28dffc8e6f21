import Derived.Test.YtfpafpmcfkapkaaDoorHL
import Derived.Test.YtfpafpmcfkapkaaDoorH5
/-! Four blocks that are told by steps. -/
namespace Go.Proofs.YtfpafpmcfkapkaaDoor
open Go Go.RowKit K

theorem within_eq (K : Nat) (hK : 65 ≤ K) (b : Nat → Int) (lo hi : Int) : within K b lo hi = some (inB b lo hi) := by
  unfold within
  rw [loop_all0 64 (within_l1 K b lo hi) (some true) (some false) (fun j => decide (lo ≤ b j) && decide (b j ≤ hi)) ?_ ?_ ?_ K (by omega)]
  · unfold inB
    cases allB 64 _ <;> rfl
  · intro k
    rw [within_l1.eq_2, if_neg (by omega)]; rfl
  · intro k i hi' hp
    simp only [Bool.and_eq_true, decide_eq_true_eq] at hp
    rw [within_l1.eq_2, if_pos (by omega), if_pos (by omega)]
    simp only [Int.toNat_natCast]
    rw [if_neg (by omega), if_neg (by omega), w64_succ (by omega)]
  · intro k i hi' hp
    rw [within_l1.eq_2, if_pos (by omega), if_pos (by omega)]
    simp only [Int.toNat_natCast]
    by_cases h : b i < lo
    · rw [if_pos h]
    · rw [if_neg h, if_pos]
      rw [Bool.eq_false_iff] at hp
      simp only [ne_eq, Bool.and_eq_true, decide_eq_true_eq] at hp
      omega

theorem qRight_eq (K : Nat) (hK : 65 ≤ K) (b : Nat → Int) : qRight K b = some (inB b 1 255) := by
  unfold qRight
  rw [within_eq K hK]; rfl

theorem mul_bd {a b A B : Int} (h1 : 0 ≤ a) (h2 : a ≤ A) (h3 : 0 ≤ b) (h4 : b ≤ B) : 0 ≤ a * b ∧ a * b ≤ A * B :=
  ⟨Int.mul_nonneg h1 h3, Int.mul_le_mul h2 h4 h3 (by omega)⟩

/-! ### down and up -/
def downF (b s : Nat → Int) (j : Nat) : Int := imin (imax (rnd (b j) (s j)) (-1023)) 1023
def upF (b s : Nat → Int) (j : Nat) : Int := b j * s j

theorem qDown_eq (K : Nat) (hK : 65 ≤ K) (b s : Nat → Int) : qDown K b s =
    if inB s 1 255 = true then (if inB b (-16777216) 16777216 = true then some ((fun j => if j < 64 then downF b s j else b j), 0) else some (zf, 2)) else some (zf, 1) := by
  unfold qDown
  rw [qRight_eq K hK, within_eq K hK]
  simp only [Option.bind_some]
  split
  · split
    · let J : (Nat → Int) → Option ((Nat → Int) × Int) := qDown_j1 K
      rw [loop_upd0 64 (qDown_l1 K b s) J (fun j _ => downF b s j) ?_ ?_ K (by omega)]
      · rfl
      · intro k f
        rw [qDown_l1.eq_2, if_neg (by omega)]
      · intro k i f hi
        rw [qDown_l1.eq_2, if_pos (by omega), if_pos (by omega)]
        simp only [Int.toNat_natCast]
        rw [w64_succ (by omega)]
        rfl
    · rfl
  · rfl

theorem imin_imax (x : Int) : imin (imax x (-1023)) 1023 = (if (if 1023 < x then 1023 else x) < -1023 then -1023 else (if 1023 < x then 1023 else x)) := by
  unfold imin imax
  repeat' split
  all_goals omega

theorem rDown_eq (K : Nat) (hK : 65 ≤ K) (b s : Nat → Int) : rDown K b s =
    if inB s 1 255 = true then (if inB b (-16777216) 16777216 = true then some ((fun j => if j < 64 then downF b s j else 0), 0) else some (zf, 2)) else some (zf, 1) := by
  unfold rDown
  rw [rIn_eq K hK, rIn_eq K hK]
  simp only [Option.bind_some]
  split
  · split
    · let J : (Nat → Int) → Option ((Nat → Int) × Int) := rDown_j1 K
      rw [loop_upd0 64 (rDown_l1 K b s) J (fun j _ => downF b s j) ?_ ?_ K (by omega)]
      · rfl
      · intro k f
        rw [rDown_l1.eq_2, if_neg (by omega)]
      · intro k i f hi
        rw [rDown_l1.eq_2, if_pos (by omega), if_pos (by omega)]
        simp only [Int.toNat_natCast]
        unfold rDown_j2 rDown_j3
        rw [w64_succ (by omega)]
        unfold downF
        rw [imin_imax]
        repeat' split
        all_goals first | rfl | omega
    · rfl
  · rfl

theorem up_bd {x y : Int} (h1 : -1023 ≤ x) (h2 : x ≤ 1023) (h3 : 1 ≤ y) (h4 : y ≤ 255) : -260865 ≤ x * y ∧ x * y ≤ 260865 := by
  by_cases h : 0 ≤ x
  · have := mul_bd h h2 (by omega : (0 : Int) ≤ y) h4
    omega
  · have := mul_bd (by omega : (0 : Int) ≤ -x) (by omega : -x ≤ 1023) (by omega : (0 : Int) ≤ y) h4
    rw [Int.neg_mul] at this
    omega

theorem qUp_eq (K : Nat) (hK : 65 ≤ K) (b s : Nat → Int) : qUp K b s =
    if inB s 1 255 = true then (if inB b (-1023) 1023 = true then some ((fun j => if j < 64 then upF b s j else b j), 0) else some (zf, 2)) else some (zf, 1) := by
  unfold qUp
  rw [qRight_eq K hK, within_eq K hK]
  simp only [Option.bind_some]
  by_cases h1 : inB s 1 255 = true
  · rw [if_pos h1, if_pos h1]
    by_cases h2 : inB b (-1023) 1023 = true
    · rw [if_pos h2, if_pos h2]
      let J : (Nat → Int) → Option ((Nat → Int) × Int) := qUp_j1 K
      rw [loop_upd0 64 (qUp_l1 K s) J (fun j x => w64 (x * s j)) ?_ ?_ K (by omega)]
      · show some _ = some _
        congr 2
        funext j
        by_cases hj : j < 64
        · rw [if_pos hj, if_pos hj]
          have a1 := inB_true.1 h1 j hj
          have a2 := inB_true.1 h2 j hj
          have := up_bd a2.1 a2.2 a1.1 a1.2
          exact w64_id (by omega) (by omega)
        · rw [if_neg hj, if_neg hj]
      · intro k f
        rw [qUp_l1.eq_2, if_neg (by omega)]
      · intro k i f hi
        rw [qUp_l1.eq_2, if_pos (by omega), if_pos (by omega)]
        simp only [Int.toNat_natCast]
        rw [w64_succ (by omega)]
    · rw [if_neg h2, if_neg h2]
  · rw [if_neg h1, if_neg h1]

theorem rUp_eq (K : Nat) (hK : 65 ≤ K) (b s : Nat → Int) : rUp K b s =
    if inB s 1 255 = true then (if inB b (-1023) 1023 = true then some ((fun j => if j < 64 then upF b s j else 0), 0) else some (zf, 2)) else some (zf, 1) := by
  unfold rUp
  rw [rIn_eq K hK, rIn_eq K hK]
  simp only [Option.bind_some]
  by_cases h1 : inB s 1 255 = true
  · rw [if_pos h1, if_pos h1]
    by_cases h2 : inB b (-1023) 1023 = true
    · rw [if_pos h2, if_pos h2]
      let J : (Nat → Int) → Option ((Nat → Int) × Int) := rUp_j1 K
      rw [loop_upd0 64 (rUp_l1 K b s) J (fun j _ => w64 (b j * s j)) ?_ ?_ K (by omega)]
      · show some _ = some _
        congr 2
        funext j
        by_cases hj : j < 64
        · rw [if_pos hj, if_pos hj]
          have a1 := inB_true.1 h1 j hj
          have a2 := inB_true.1 h2 j hj
          have := up_bd a2.1 a2.2 a1.1 a1.2
          exact w64_id (by omega) (by omega)
        · rw [if_neg hj, if_neg hj]; rfl
      · intro k f
        rw [rUp_l1.eq_2, if_neg (by omega)]
      · intro k i f hi
        rw [rUp_l1.eq_2, if_pos (by omega), if_pos (by omega)]
        simp only [Int.toNat_natCast]
        rw [w64_succ (by omega)]
    · rw [if_neg h2, if_neg h2]
  · rw [if_neg h1, if_neg h1]

/-! ### told -/
theorem inB_congr {f g : Nat → Int} (h : ∀ j, j < 64 → f j = g j) (lo hi : Int) : inB f lo hi = inB g lo hi := by
  rw [Bool.eq_iff_iff, inB_true, inB_true]
  exact ⟨fun hh j hj => by rw [← h j hj]; exact hh j hj, fun hh j hj => by rw [h j hj]; exact hh j hj⟩
theorem in4_congr {f g : Nat → Int} (h : ∀ j, j < 256 → f j = g j) : in4 f = in4 g := by
  rw [Bool.eq_iff_iff, in4_true, in4_true]
  exact ⟨fun hh j hj => by rw [← h j hj]; exact hh j hj, fun hh j hj => by rw [h j hj]; exact hh j hj⟩
theorem wrt_at {α : Type} (f : Nat → α) (k m : Nat) (g : Nat → α) (j : Nat) : wrt f k m g j = if k ≤ j ∧ j < k + m then g (j - k) else f j := by
  unfold wrt
  by_cases h : k ≤ j ∧ j < k + m
  · rw [if_pos h, show (Nat.ble k j && Nat.blt j (k + m)) = true by simp [Nat.blt_eq, h.1, h.2], cond_true]
  · rw [if_neg h, show (Nat.ble k j && Nat.blt j (k + m)) = false by
      rw [Bool.eq_false_iff]; simp only [ne_eq, Bool.and_eq_true, Nat.ble_eq, Nat.blt_eq]; exact h, cond_false]

theorem told_same (f s : Nat → Int) : ∀ (d k i : Nat) (g g' : Nat → Int), i + d = 4 → d < k → (∀ j, j < i * 64 → g j = g' j) →
    ∃ r r', told_l1 65 f s k (i : Int) g = some r ∧ rTold_l1 65 f s k (i : Int) g' = some r' ∧ r.2 = r'.2 ∧ eqF 64 r.1 r'.1 := by
  intro d
  induction d with
  | zero =>
    intro k i g g' hi hk hg
    obtain ⟨k, rfl⟩ : ∃ m, k = m + 1 := ⟨k - 1, by omega⟩
    have : i = 4 := by omega
    subst this
    rw [told_l1.eq_2, rTold_l1.eq_2, if_neg (by omega), if_neg (by omega)]
    unfold told_j1 rTold_j1
    have hh : hF g = hF g' := hF_congr fun b i k hb hi hk => hg _ (by omega)
    have hi4 : in4 g = in4 g' := in4_congr fun j hj => hg j (by omega)
    rw [merge_eq 65 (by decide), rMerge_eq 65 (by decide), hi4, hh]
    by_cases h : in4 g' = true
    · rw [if_pos h]
      simp only [Option.bind_some]
      rw [if_neg (fun h => h trivial), if_neg (fun h => h trivial), qDown_eq 65 (by decide), rDown_eq 65 (by decide)]
      by_cases h1 : inB s 1 255 = true
      · rw [if_pos h1, if_pos h1]
        by_cases h2 : inB (hF g') (-16777216) 16777216 = true
        · rw [if_pos h2, if_pos h2]
          exact ⟨_, _, rfl, rfl, rfl, fun j hj => by simp only [if_pos hj]⟩
        · rw [if_neg h2, if_neg h2]
          exact ⟨_, _, rfl, rfl, rfl, eqF_refl _ _⟩
      · rw [if_neg h1, if_neg h1]
        exact ⟨_, _, rfl, rfl, rfl, eqF_refl _ _⟩
    · rw [if_neg h]
      simp only [Option.bind_some]
      rw [if_pos (by decide), if_pos (by decide)]
      exact ⟨_, _, rfl, rfl, rfl, eqF_refl _ _⟩
  | succ d ih =>
    intro k i g g' hi hk hg
    obtain ⟨k, rfl⟩ : ∃ m, k = m + 1 := ⟨k - 1, by omega⟩
    rw [told_l1.eq_2, rTold_l1.eq_2, if_pos (by omega), if_pos (by omega), if_pos (by omega), if_pos (by omega), Int.toNat_natCast, qUp_eq 65 (by decide), rUp_eq 65 (by decide)]
    by_cases h1 : inB s 1 255 = true
    · rw [if_pos h1, if_pos h1]
      by_cases h2 : inB (shf f (i * 64)) (-1023) 1023 = true
      · rw [if_pos h2, if_pos h2]
        simp only [Option.bind_some]
        rw [if_neg (fun h => h trivial), if_neg (fun h => h trivial), w64_succ (by omega)]
        refine ih k (i + 1) _ _ (by omega) (by omega) fun j hj => ?_
        rw [wrt_at, wrt_at]
        by_cases hj' : i * 64 ≤ j ∧ j < i * 64 + 64
        · rw [if_pos hj', if_pos hj', if_pos (by omega), if_pos (by omega)]
        · rw [if_neg hj', if_neg hj']
          exact hg j (by omega)
      · rw [if_neg h2, if_neg h2]
        simp only [Option.bind_some]
        rw [if_pos (by decide), if_pos (by decide)]
        exact ⟨_, _, rfl, rfl, rfl, eqF_refl _ _⟩
    · rw [if_neg h1, if_neg h1]
      simp only [Option.bind_some]
      rw [if_pos (by decide), if_pos (by decide)]
      exact ⟨_, _, rfl, rfl, rfl, eqF_refl _ _⟩

theorem HalfTold_eq (f s : Nat → Int) : lawHalfTold 65 f s = some true := by
  unfold lawHalfTold told rTold
  obtain ⟨r, r', h1, h2, h3, h4⟩ := told_same f s 4 65 0 f zf (by omega) (by omega) (fun j hj => by omega)
  have h1' : told_l1 65 f s 65 0 f = some r := h1
  have h2' : rTold_l1 65 f s 65 0 zf = some r' := h2
  rw [h1', h2']
  simp only [Option.bind_some]
  rw [if_pos h4, if_pos h3, awake10_eq 65 (by decide)]
  rfl

/-! ### all alike -/
theorem told_up (f s : Nat → Int) (hs : inB s 1 255 = true) : ∀ (d k i : Nat) (g : Nat → Int), i + d = 4 → d < k → (∀ q, q < 4 → inB (shf f (q * 64)) (-1023) 1023 = true) → (∀ j, j < i * 64 → g j = f j * s (j % 64)) →
    ∃ g', told_l1 65 f s k (i : Int) g = told_j1 65 s g' ∧ ∀ j, j < 256 → g' j = f j * s (j % 64) := by
  intro d
  induction d with
  | zero =>
    intro k i g hi hk _ hg
    obtain ⟨k, rfl⟩ : ∃ m, k = m + 1 := ⟨k - 1, by omega⟩
    have : i = 4 := by omega
    subst this
    rw [told_l1.eq_2, if_neg (by omega)]
    exact ⟨g, rfl, fun j hj => hg j (by omega)⟩
  | succ d ih =>
    intro k i g hi hk hq hg
    obtain ⟨k, rfl⟩ : ∃ m, k = m + 1 := ⟨k - 1, by omega⟩
    rw [told_l1.eq_2, if_pos (by omega), if_pos (by omega), Int.toNat_natCast, qUp_eq 65 (by decide), if_pos hs, if_pos (hq i (by omega))]
    simp only [Option.bind_some]
    rw [if_neg (fun h => h trivial), w64_succ (by omega)]
    refine ih k (i + 1) _ (by omega) (by omega) hq fun j hj => ?_
    rw [wrt_at]
    by_cases hj' : i * 64 ≤ j ∧ j < i * 64 + 64
    · rw [if_pos hj', if_pos (by omega)]
      unfold upF shf
      rw [show i * 64 + (j - i * 64) = j by omega, show j - i * 64 = j % 64 by omega]
    · rw [if_neg hj']
      exact hg j (by omega)

def eF (j : Nat) : Int := if j % 64 = 0 then 1 else 0
theorem mF_smul (X : Int) (f : Nat → Int) (j : Nat) : mF (fun i => X * f i) j = X * mF f j := by
  unfold mF acF
  rw [sumN_mul]
  refine sumN_congr fun p _ => ?_
  rw [sumN_mul]
  refine sumN_congr fun i _ => ?_
  rw [Int.mul_left_comm X]
  congr 1
  rw [sumN_mul]
  refine sumN_congr fun q _ => ?_
  rw [sumN_mul]
  refine sumN_congr fun k _ => ?_
  rw [Int.mul_left_comm]
theorem mF_eF : ∀ j, j < 64 → mF eF j = if j = 0 then 33547264 else 0 := by
  unfold mF acF sumN
  decide +kernel

theorem rnd0_near {n d : Int} (hd : 1 ≤ d) : 2 * (n - d * rnd0 n d) ≤ d ∧ -d ≤ 2 * (n - d * rnd0 n d) := by
  have h3 : 0 ≤ n % d := Int.emod_nonneg _ (by omega)
  have h4 : n % d < d := Int.emod_lt_of_pos _ (by omega)
  have h5 := Int.mul_ediv_add_emod n d
  unfold rnd0
  split
  · rw [Int.mul_add, Int.mul_one]; omega
  · omega
theorem rnd_near {n d : Int} (hn : -1152921504606846976 ≤ n) (hn2 : n ≤ 1152921504606846976) (hd : 1 ≤ d) (hd2 : d ≤ 1152921504606846976) : 2 * (n - d * rnd n d) ≤ d ∧ -d ≤ 2 * (n - d * rnd n d) := by
  unfold rnd
  rw [if_neg (by omega)]
  split
  · have := rnd0_near (n := -n) (d := d) hd
    rw [Int.mul_neg]
    omega
  · exact rnd0_near hd

theorem flat_rnd {n s : Int} (h1 : -1023 ≤ n) (h2 : n ≤ 1023) (h3 : 1 ≤ s) (h4 : s ≤ 255) : (-300000 ≤ rnd (n * s * 33547264) 33554432 ∧ rnd (n * s * 33547264) 33554432 ≤ 300000) ∧ rnd (rnd (n * s * 33547264) 33554432) s = n := by
  have hX := up_bd h1 h2 h3 h4
  have hXs : -(1023 * s) ≤ n * s ∧ n * s ≤ 1023 * s := by
    have a := Int.mul_le_mul_of_nonneg_right h2 (show 0 ≤ s by omega)
    have b := Int.mul_le_mul_of_nonneg_right h1 (show 0 ≤ s by omega)
    omega
  have hh := rnd_near (n := n * s * 33547264) (d := 33554432) (by omega) (by omega) (by omega) (by omega)
  generalize rnd (n * s * 33547264) 33554432 = h at hh ⊢
  refine ⟨by omega, ?_⟩
  have hg := rnd_near (n := h) (d := s) (by omega) (by omega) h3 (by omega)
  generalize rnd h s = g at hg ⊢
  by_cases e : g = n
  · exact e
  · exfalso
    by_cases hs1 : s = 1
    · subst hs1
      omega
    · by_cases hp : 1 ≤ n - g
      · have a := Int.mul_le_mul_of_nonneg_left hp (show 0 ≤ s by omega)
        rw [Int.mul_sub, Int.mul_comm s n] at a
        omega
      · have a := Int.mul_le_mul_of_nonneg_left (show n - g ≤ -1 by omega) (show 0 ≤ s by omega)
        rw [Int.mul_sub, Int.mul_comm s n] at a
        omega

theorem HalfFlat_eq (n : Int) (s : Nat → Int) : lawHalfFlat 65 n s = some true := by
  have ha := awake10_eq 65 (by decide)
  have haw : ((awake10 65).bind fun r => some r) = some true := by rw [ha]; rfl
  unfold lawHalfFlat
  by_cases h1 : n < -1023
  · rw [if_pos h1, haw]
  · rw [if_neg h1]
    by_cases h2 : 1023 < n
    · rw [if_pos h2, haw]
    · rw [if_neg h2, rIn_eq 65 (by decide), Option.bind_some]
      by_cases h3 : inB s 1 255 = true
      · rw [if_pos h3]
        generalize hf : (wrt (wrt (wrt (wrt zf 0 64 (upd zf 0 n)) 64 64 (upd zf 0 n)) 128 64 (upd zf 0 n)) 192 64 (upd zf 0 n)) = f
        have hfe : ∀ j, j < 256 → f j = if j % 64 = 0 then n else 0 := fun j hj => by
          rw [← hf]
          simp only [wrt_at, upd_apply]
          by_cases e : j % 64 = 0
          · rw [if_pos e]
            repeat' split
            all_goals first | rfl | omega
          · rw [if_neg e]
            repeat' split
            all_goals first | rfl | omega
        have hb : ∀ q, q < 4 → inB (shf f (q * 64)) (-1023) 1023 = true := fun q hq => inB_true.2 fun j hj => by
          unfold shf
          rw [hfe _ (by omega)]
          split <;> omega
        obtain ⟨g, e1, e2⟩ := told_up f s h3 4 65 0 f (by omega) (by omega) hb (fun j hj => by omega)
        have s0 := inB_true.1 h3 0 (by decide)
        have hX := up_bd (by omega) (by omega) s0.1 s0.2 (x := n)
        have hfl := flat_rnd (n := n) (s := s 0) (by omega) (by omega) s0.1 s0.2
        have hge : ∀ j, j < 256 → g j = n * s 0 * eF j := fun j hj => by
          rw [e2 j hj, hfe j hj]
          unfold eF
          by_cases e : j % 64 = 0
          · rw [if_pos e, if_pos e, e, Int.mul_one]
          · rw [if_neg e, if_neg e, Int.mul_zero, Int.zero_mul]
        have hin : in4 g = true := in4_true.2 fun j hj => by
          rw [hge j hj]
          unfold eF
          split
          · rw [Int.mul_one]; omega
          · rw [Int.mul_zero]; omega
        have hhF : ∀ j, j < 64 → hF g j = if j = 0 then rnd (n * s 0 * 33547264) 33554432 else 0 := fun j hj => by
          unfold hF
          rw [if_pos hj, mF_congr (g := fun i => n * s 0 * eF i) (fun b i k hb hi hk => hge _ (by omega)), mF_smul, mF_eF j hj]
          by_cases e : j = 0
          · rw [if_pos e, if_pos e]
          · rw [if_neg e, if_neg e, Int.mul_zero]
            decide +kernel
        have hr : inB (hF g) (-16777216) 16777216 = true := inB_true.2 fun j hj => by
          rw [hhF j hj]
          split <;> omega
        have e1' : told 65 f s = told_j1 65 s g := e1
        rw [e1']
        unfold told_j1
        rw [merge_eq 65 (by decide), if_pos hin]
        simp only [Option.bind_some]
        rw [if_neg (fun h => h trivial), qDown_eq 65 (by decide), if_pos h3, if_pos hr]
        simp only [Option.bind_some]
        have hd : (if 0 < 64 then downF (hF g) s 0 else hF g 0) = n := by
          rw [if_pos (by decide)]
          unfold downF
          rw [hhF 0 (by decide), if_pos rfl, hfl.2]
          unfold imin imax
          repeat' split
          all_goals omega
        rw [if_pos hd, if_pos trivial, haw]
      · rw [if_neg h3, haw]
end Go.Proofs.YtfpafpmcfkapkaaDoor
