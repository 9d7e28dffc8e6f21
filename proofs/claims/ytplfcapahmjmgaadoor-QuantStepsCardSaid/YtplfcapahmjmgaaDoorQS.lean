import Derived.Test.YtplfcapahmjmgaaDoorQP
import Derived.Test.YtplfcapahmjmgaaDoorT2
/-! The document's steps. -/
namespace Go.Proofs.YtplfcapahmjmgaaDoor
open Go Go.RowKit K

def baseL (c : Bool) : List Int := cond c [17, 18, 24, 47, 99, 99, 99, 99, 18, 21, 26, 66, 99, 99, 99, 99, 24, 26, 56, 99, 99, 99, 99, 99, 47, 66, 99, 99, 99, 99, 99, 99, 99, 99, 99, 99, 99, 99, 99, 99, 99, 99, 99, 99, 99, 99, 99, 99, 99, 99, 99, 99, 99, 99, 99, 99, 99, 99, 99, 99, 99, 99, 99, 99]
  [16, 11, 10, 16, 24, 40, 51, 61, 12, 12, 14, 19, 26, 58, 60, 55, 14, 13, 16, 24, 40, 57, 69, 56, 14, 17, 22, 29, 51, 87, 80, 62, 18, 22, 37, 56, 68, 109, 103, 77, 24, 35, 55, 64, 81, 104, 113, 92, 49, 64, 78, 87, 103, 121, 120, 101, 72, 92, 95, 98, 112, 100, 103, 99]
theorem rBase_eq (c : Bool) : rBase 65 c = some (baseL c) := by
  cases c
  · rfl
  · decide +kernel
theorem baseL_length (c : Bool) : ((baseL c).length : Int) = 64 := by cases c <;> rfl
theorem baseL_getD (c : Bool) (j : Nat) : (baseL c).getD j 0 = baseF c j := by cases c <;> rfl

theorem upd_upd (f : Nat → Int) (i : Nat) (x y : Int) : upd (upd f i x) i y = upd f i y := by
  funext j
  simp only [upd_apply]
  by_cases h : i = j
  · rw [if_pos h, if_pos h]
  · rw [if_neg h, if_neg h, if_neg h]
theorem upd_at (f : Nat → Int) (i : Nat) (x : Int) : upd f i x i = x := by rw [upd_apply, if_pos rfl]

theorem rSteps_eq (c : Bool) (q : Int) : rSteps 65 c q = if 1 ≤ q ∧ q ≤ 100 then some ((fun j => if j < 64 then stepF c q j else zf j), 0) else some (zf, 2) := by
  unfold rSteps
  by_cases h1 : q < 1
  · rw [if_pos h1, if_neg (by omega)]
  · by_cases h2 : 100 < q
    · rw [if_neg h1, if_pos h2, if_neg (by omega)]
    · have hs := scale_bd (q := q) (by omega) (by omega)
      rw [if_neg h1, if_neg h2, if_pos (by omega), rBase_eq, Option.bind_some]
      rw [loop_upd0 64 (rSteps_l1 65 q (baseL c)) (rSteps_j1 65) (fun j _ => stepF c q j) ?_ ?_ 65 (by omega)]
      · rfl
      · intro k f
        rw [rSteps_l1.eq_2, if_neg (by omega)]
      · intro k i f hi
        have key : rSteps_j3 65 (rSteps_l1 65 q (baseL c) k) (baseL c) (i : Int) f (scaleF q) = rSteps_l1 65 q (baseL c) k ((i + 1 : Nat) : Int) (upd f i (stepF c q i)) := by
          have hb := base_bd c i hi
          have hm := mul_bd (by omega : (0 : Int) ≤ baseF c i) hb.2 hs.1 hs.2
          unfold rSteps_j3 rSteps_j4 rSteps_j2
          rw [baseL_length, if_pos (by omega), if_pos (by omega)]
          simp only [Int.toNat_natCast, baseL_getD, upd_at, upd_upd]
          have e : w64 (Int.tdiv (w64 (w64 (baseF c i * scaleF q) + 50)) 100) = Int.tdiv (baseF c i * scaleF q + 50) 100 := by
            rw [w64_id (x := baseF c i * scaleF q) (by omega) (by omega), w64_id (x := baseF c i * scaleF q + 50) (by omega) (by omega)]
            rw [Int.tdiv_eq_ediv_of_nonneg (by omega), w64_id (by omega) (by omega)]
          simp only [e]
          rw [w64_succ (by omega)]
          unfold stepF
          generalize Int.tdiv (baseF c i * scaleF q + 50) 100 = x
          by_cases hx : x < 1
          · have v : imin (imax x 1) 255 = 1 := by unfold imin imax; repeat' split <;> omega
            rw [if_pos hx, if_neg (by decide), v]
          · rw [if_neg hx]
            by_cases hx2 : 255 < x
            · have v : imin (imax x 1) 255 = 255 := by unfold imin imax; repeat' split <;> omega
              rw [if_pos hx2, v]
            · have v : imin (imax x 1) 255 = x := by unfold imin imax; repeat' split <;> omega
              rw [if_neg hx2, v]
        rw [rSteps_l1.eq_2, if_pos (by omega)]
        unfold scaleF at key hs
        by_cases h3 : q < 50
        · rw [if_pos h3] at key hs ⊢
          rw [if_pos (show q ≠ 0 by omega), w64_id (by omega) (by omega)]
          exact key
        · rw [if_neg h3] at key ⊢
          rw [w64_id (x := 2 * q) (by omega) (by omega), w64_id (by omega) (by omega)]
          exact key

theorem step_bd (c : Bool) (q : Int) (j : Nat) : 1 ≤ stepF c q j ∧ stepF c q j ≤ 255 := by
  unfold stepF imin imax
  generalize Int.tdiv (baseF c j * scaleF q + 50) 100 = x
  repeat' split
  all_goals omega

theorem QuantSteps_eq (c : Bool) (q : Int) (o : Nat → Int) : lawQuantSteps 65 c q o = some true := by
  have ha := awake8_eq 65 (by decide)
  unfold lawQuantSteps
  rw [qSteps_eq 65 (by decide), rSteps_eq]
  by_cases h : 1 ≤ q ∧ q ≤ 100
  · rw [if_pos h, if_pos h]
    simp only [Option.bind_some]
    have i1 : inB (stepsF c q) 1 255 = true := inB_true.2 fun j hj => by unfold stepsF; rw [if_pos hj]; exact step_bd c q j
    have e1 : eqF 64 (stepsF c q) fun j => if j < 64 then stepF c q j else zf j := fun j hj => by unfold stepsF; simp only [if_pos hj]
    rw [if_pos e1, if_pos trivial, qRight_eq 65 (by decide), i1, Option.bind_some, if_pos rfl, if_pos trivial, qRight_eq 65 (by decide), rIn_eq 65 (by decide)]
    simp only [Option.bind_some, ha]
    by_cases h2 : inB o 1 255 = true
    · rw [if_pos h2, if_pos h2]
    · rw [if_neg h2, if_neg h2]
  · rw [if_neg h, if_neg h]
    simp only [Option.bind_some]
    have i1 : inB zf 1 255 = false := by decide
    rw [if_pos (eqF_refl _ _), if_pos trivial, qRight_eq 65 (by decide), i1, Option.bind_some, if_neg (by decide), if_neg (by decide), qRight_eq 65 (by decide), rIn_eq 65 (by decide)]
    simp only [Option.bind_some, ha]
    by_cases h2 : inB o 1 255 = true
    · rw [if_pos h2, if_pos h2]
    · rw [if_neg h2, if_neg h2]
end Go.Proofs.YtplfcapahmjmgaaDoor
