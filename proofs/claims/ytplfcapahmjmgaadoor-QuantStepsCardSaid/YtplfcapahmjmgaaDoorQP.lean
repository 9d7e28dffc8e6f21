import Derived.Test.YtplfcapahmjmgaaDoorP0
import Derived.Test.YtplfcapahmjmgaaDoorT1
namespace Go.Proofs.YtplfcapahmjmgaaDoor
open Go Go.RowKit K

def inB (b : Nat → Int) (lo hi : Int) : Bool := allB 64 fun j => decide (lo ≤ b j) && decide (b j ≤ hi)
theorem inB_true {b : Nat → Int} {lo hi : Int} : inB b lo hi = true ↔ ∀ j, j < 64 → lo ≤ b j ∧ b j ≤ hi := by
  unfold inB
  rw [allB_true]
  simp

theorem within_eq (K : Nat) (hK : 65 ≤ K) (b : Nat → Int) (lo hi : Int) : within K b lo hi = some (inB b lo hi) := by
  unfold within
  rw [loop_all0 64 (within_l1 K b lo hi) (some true) (some false) (fun j => decide (lo ≤ b j) && decide (b j ≤ hi)) ?_ ?_ ?_ K (by omega)]
  · unfold inB
    cases allB 64 _ <;> rfl
  · intro k
    rw [within_l1.eq_2, if_neg (by omega)]; rfl
  · intro k i hi' hp
    simp only [Bool.and_eq_true, decide_eq_true_eq] at hp
    rw [within_l1.eq_2, if_pos (by omega), if_pos (by omega)]
    simp only [Int.toNat_natCast]
    rw [if_neg (by omega), if_neg (by omega), w64_succ (by omega)]
  · intro k i hi' hp
    rw [within_l1.eq_2, if_pos (by omega), if_pos (by omega)]
    simp only [Int.toNat_natCast]
    by_cases h : b i < lo
    · rw [if_pos h]
    · rw [if_neg h, if_pos]
      rw [Bool.eq_false_iff] at hp
      simp only [ne_eq, Bool.and_eq_true, decide_eq_true_eq] at hp
      omega

theorem rIn_eq (K : Nat) (hK : 65 ≤ K) (b : Nat → Int) (lo hi : Int) : rIn K b lo hi = some (inB b lo hi) := by
  unfold rIn
  rw [loop_all0 64 (rIn_l1 K b lo hi) (some true) (some false) (fun j => decide (lo ≤ b j) && decide (b j ≤ hi)) ?_ ?_ ?_ K (by omega)]
  · unfold inB
    cases allB 64 _ <;> rfl
  · intro k
    rw [rIn_l1.eq_2, if_neg (by omega)]; rfl
  · intro k i hi' hp
    simp only [Bool.and_eq_true, decide_eq_true_eq] at hp
    rw [rIn_l1.eq_2, if_pos (by omega), if_pos (by omega)]
    simp only [Int.toNat_natCast]
    rw [if_neg (by omega), if_neg (by omega), w64_succ (by omega)]
  · intro k i hi' hp
    rw [rIn_l1.eq_2, if_pos (by omega), if_pos (by omega)]
    simp only [Int.toNat_natCast]
    by_cases h : b i < lo
    · rw [if_pos h]
    · rw [if_neg h, if_pos]
      rw [Bool.eq_false_iff] at hp
      simp only [ne_eq, Bool.and_eq_true, decide_eq_true_eq] at hp
      omega

theorem qRight_eq (K : Nat) (hK : 65 ≤ K) (b : Nat → Int) : qRight K b = some (inB b 1 255) := by
  unfold qRight
  rw [within_eq K hK]; rfl

/-! ### steps -/
def baseF (c : Bool) : Nat → Int := cond c tintedF brightF
def scaleF (q : Int) : Int := if q < 50 then Int.tdiv 5000 q else 200 - 2 * q
def stepF (c : Bool) (q : Int) (j : Nat) : Int := imin (imax (Int.tdiv (baseF c j * scaleF q + 50) 100) 1) 255
def stepsF (c : Bool) (q : Int) : Nat → Int := fun j => if j < 64 then stepF c q j else baseF c j

theorem base_bd (c : Bool) : ∀ j, j < 64 → 10 ≤ baseF c j ∧ baseF c j ≤ 121 := by
  cases c <;> (unfold baseF brightF tintedF lf; decide)

theorem scale_bd {q : Int} (h1 : 1 ≤ q) (h2 : q ≤ 100) : 0 ≤ scaleF q ∧ scaleF q ≤ 5000 := by
  unfold scaleF
  split
  · rw [Int.tdiv_eq_ediv_of_nonneg (by omega)]
    exact ⟨Int.ediv_nonneg (by omega) (by omega), Int.ediv_le_self _ (by omega)⟩
  · omega

theorem mul_bd {a b A B : Int} (h1 : 0 ≤ a) (h2 : a ≤ A) (h3 : 0 ≤ b) (h4 : b ≤ B) : 0 ≤ a * b ∧ a * b ≤ A * B :=
  ⟨Int.mul_nonneg h1 h3, Int.mul_le_mul h2 h4 h3 (by omega)⟩

theorem steps_l1 (K : Nat) (hK : 65 ≤ K) (c : Bool) (q : Int) (h1 : 1 ≤ q) (h2 : q ≤ 100) : qSteps_j1 K c (scaleF q) = some (stepsF c q, 0) := by
  have hs := scale_bd h1 h2
  have key : ∀ f : Nat → Int, f = baseF c → qSteps_j2 K (scaleF q) f = some (stepsF c q, 0) := by
    intro f hf
    unfold qSteps_j2
    rw [loop_upd0 64 (qSteps_l1 K (scaleF q)) (qSteps_j3 K) (fun j x => imin (imax (w64 (Int.tdiv (w64 ((w64 (x * scaleF q)) + 50)) 100)) 1) 255) ?_ ?_ K (by omega)]
    · unfold qSteps_j3 stepsF
      congr 2
      funext j
      by_cases hj : j < 64
      · rw [if_pos hj, if_pos hj, hf]
        have hb := base_bd c j hj
        have hm := mul_bd (by omega : (0 : Int) ≤ baseF c j) hb.2 hs.1 hs.2
        unfold stepF
        rw [w64_id (x := baseF c j * scaleF q) (by omega) (by omega), w64_id (x := baseF c j * scaleF q + 50) (by omega) (by omega)]
        rw [Int.tdiv_eq_ediv_of_nonneg (by omega), w64_id (by omega) (by omega)]
      · rw [if_neg hj, if_neg hj, hf]
    · intro k f
      rw [qSteps_l1.eq_2, if_neg (by omega)]
    · intro k i f hi
      rw [qSteps_l1.eq_2, if_pos (by omega), if_pos (by omega)]
      simp only [Int.toNat_natCast]
      rw [w64_succ (by omega)]
  unfold qSteps_j1
  cases c
  · rw [if_neg (by decide)]; exact key _ rfl
  · rw [if_pos rfl]; exact key _ rfl

theorem qSteps_eq (K : Nat) (hK : 65 ≤ K) (c : Bool) (q : Int) : qSteps K c q = if 1 ≤ q ∧ q ≤ 100 then some (stepsF c q, 0) else some (zf, 2) := by
  unfold qSteps
  by_cases h1 : q < 1
  · rw [if_pos h1, if_neg (by omega)]
  · by_cases h2 : 100 < q
    · rw [if_neg h1, if_pos h2, if_neg (by omega)]
    · have hs := scale_bd (q := q) (by omega) (by omega)
      have := steps_l1 K hK c q (by omega) (by omega)
      rw [if_neg h1, if_neg h2]
      by_cases h3 : q < 50
      · rw [if_pos h3, if_pos (show q ≠ 0 by omega), if_pos (by omega)]
        unfold scaleF at this hs
        rw [if_pos h3] at this hs
        rw [w64_id (by omega) (by omega)]
        exact this
      · rw [if_neg h3, if_pos (by omega)]
        unfold scaleF at this
        rw [if_neg h3] at this
        rw [w64_id (x := 2 * q) (by omega) (by omega), w64_id (by omega) (by omega)]
        exact this

theorem awake8_eq (K : Nat) (hK : 65 ≤ K) : awake8 K = some true := by
  unfold awake8
  rw [qSteps_eq K hK, qSteps_eq K hK, if_pos (by decide), if_neg (by decide)]
  simp only [Option.bind_some]
  rw [if_pos (by decide), if_pos (by decide)]
  rfl

/-! ### down and up -/
def downF (b s : Nat → Int) (j : Nat) : Int := imin (imax (rnd (b j) (s j)) (-1023)) 1023
def upF (b s : Nat → Int) (j : Nat) : Int := b j * s j

theorem qDown_eq (K : Nat) (hK : 65 ≤ K) (b s : Nat → Int) : qDown K b s =
    if inB s 1 255 = true then (if inB b (-16777216) 16777216 = true then some ((fun j => if j < 64 then downF b s j else b j), 0) else some (zf, 2)) else some (zf, 1) := by
  unfold qDown
  rw [qRight_eq K hK, within_eq K hK]
  simp only [Option.bind_some]
  split
  · split
    · let J : (Nat → Int) → Option ((Nat → Int) × Int) := qDown_j1 K
      rw [loop_upd0 64 (qDown_l1 K b s) J (fun j _ => downF b s j) ?_ ?_ K (by omega)]
      · rfl
      · intro k f
        rw [qDown_l1.eq_2, if_neg (by omega)]
      · intro k i f hi
        rw [qDown_l1.eq_2, if_pos (by omega), if_pos (by omega)]
        simp only [Int.toNat_natCast]
        rw [w64_succ (by omega)]
        rfl
    · rfl
  · rfl

theorem imin_imax (x : Int) : imin (imax x (-1023)) 1023 = (if (if 1023 < x then 1023 else x) < -1023 then -1023 else (if 1023 < x then 1023 else x)) := by
  unfold imin imax
  repeat' split
  all_goals omega

theorem rDown_eq (K : Nat) (hK : 65 ≤ K) (b s : Nat → Int) : rDown K b s =
    if inB s 1 255 = true then (if inB b (-16777216) 16777216 = true then some ((fun j => if j < 64 then downF b s j else 0), 0) else some (zf, 2)) else some (zf, 1) := by
  unfold rDown
  rw [rIn_eq K hK, rIn_eq K hK]
  simp only [Option.bind_some]
  split
  · split
    · let J : (Nat → Int) → Option ((Nat → Int) × Int) := rDown_j1 K
      rw [loop_upd0 64 (rDown_l1 K b s) J (fun j _ => downF b s j) ?_ ?_ K (by omega)]
      · rfl
      · intro k f
        rw [rDown_l1.eq_2, if_neg (by omega)]
      · intro k i f hi
        rw [rDown_l1.eq_2, if_pos (by omega), if_pos (by omega)]
        simp only [Int.toNat_natCast]
        unfold rDown_j2 rDown_j3
        rw [w64_succ (by omega)]
        unfold downF
        rw [imin_imax]
        repeat' split
        all_goals first | rfl | omega
    · rfl
  · rfl

theorem up_bd {x y : Int} (h1 : -1023 ≤ x) (h2 : x ≤ 1023) (h3 : 1 ≤ y) (h4 : y ≤ 255) : -260865 ≤ x * y ∧ x * y ≤ 260865 := by
  by_cases h : 0 ≤ x
  · have := mul_bd h h2 (by omega : (0 : Int) ≤ y) h4
    omega
  · have := mul_bd (by omega : (0 : Int) ≤ -x) (by omega : -x ≤ 1023) (by omega : (0 : Int) ≤ y) h4
    rw [Int.neg_mul] at this
    omega

theorem qUp_eq (K : Nat) (hK : 65 ≤ K) (b s : Nat → Int) : qUp K b s =
    if inB s 1 255 = true then (if inB b (-1023) 1023 = true then some ((fun j => if j < 64 then upF b s j else b j), 0) else some (zf, 2)) else some (zf, 1) := by
  unfold qUp
  rw [qRight_eq K hK, within_eq K hK]
  simp only [Option.bind_some]
  by_cases h1 : inB s 1 255 = true
  · rw [if_pos h1, if_pos h1]
    by_cases h2 : inB b (-1023) 1023 = true
    · rw [if_pos h2, if_pos h2]
      let J : (Nat → Int) → Option ((Nat → Int) × Int) := qUp_j1 K
      rw [loop_upd0 64 (qUp_l1 K s) J (fun j x => w64 (x * s j)) ?_ ?_ K (by omega)]
      · show some _ = some _
        congr 2
        funext j
        by_cases hj : j < 64
        · rw [if_pos hj, if_pos hj]
          have a1 := inB_true.1 h1 j hj
          have a2 := inB_true.1 h2 j hj
          have := up_bd a2.1 a2.2 a1.1 a1.2
          exact w64_id (by omega) (by omega)
        · rw [if_neg hj, if_neg hj]
      · intro k f
        rw [qUp_l1.eq_2, if_neg (by omega)]
      · intro k i f hi
        rw [qUp_l1.eq_2, if_pos (by omega), if_pos (by omega)]
        simp only [Int.toNat_natCast]
        rw [w64_succ (by omega)]
    · rw [if_neg h2, if_neg h2]
  · rw [if_neg h1, if_neg h1]

theorem rUp_eq (K : Nat) (hK : 65 ≤ K) (b s : Nat → Int) : rUp K b s =
    if inB s 1 255 = true then (if inB b (-1023) 1023 = true then some ((fun j => if j < 64 then upF b s j else 0), 0) else some (zf, 2)) else some (zf, 1) := by
  unfold rUp
  rw [rIn_eq K hK, rIn_eq K hK]
  simp only [Option.bind_some]
  by_cases h1 : inB s 1 255 = true
  · rw [if_pos h1, if_pos h1]
    by_cases h2 : inB b (-1023) 1023 = true
    · rw [if_pos h2, if_pos h2]
      let J : (Nat → Int) → Option ((Nat → Int) × Int) := rUp_j1 K
      rw [loop_upd0 64 (rUp_l1 K b s) J (fun j _ => w64 (b j * s j)) ?_ ?_ K (by omega)]
      · show some _ = some _
        congr 2
        funext j
        by_cases hj : j < 64
        · rw [if_pos hj, if_pos hj]
          have a1 := inB_true.1 h1 j hj
          have a2 := inB_true.1 h2 j hj
          have := up_bd a2.1 a2.2 a1.1 a1.2
          exact w64_id (by omega) (by omega)
        · rw [if_neg hj, if_neg hj]; rfl
      · intro k f
        rw [rUp_l1.eq_2, if_neg (by omega)]
      · intro k i f hi
        rw [rUp_l1.eq_2, if_pos (by omega), if_pos (by omega)]
        simp only [Int.toNat_natCast]
        rw [w64_succ (by omega)]
    · rw [if_neg h2, if_neg h2]
  · rw [if_neg h1, if_neg h1]
end Go.Proofs.YtplfcapahmjmgaaDoor
