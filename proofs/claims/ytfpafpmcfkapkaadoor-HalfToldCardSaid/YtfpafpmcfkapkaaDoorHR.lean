import Derived.Test.YtfpafpmcfkapkaaDoorHP
/-! The document's four blocks as one; what is in range. -/
namespace Go.Proofs.YtfpafpmcfkapkaaDoor
open Go Go.RowKit K

theorem getD_parts (n : Nat) : partsL.getD n 0 = partsF n := rfl
theorem partsL_length : (partsL.length : Int) = 64 := rfl
theorem ix3 {p u i : Nat} (hp : p < 2) (hu : u < 8) (hi : i < 4) : w64 (w64 (w64 (32 * (p : Int)) + w64 (4 * (u : Int))) + (i : Int)) = ((32 * p + 4 * u + i : Nat) : Int) := by
  rw [w64_id (x := 32 * (p : Int)) (by omega) (by omega), w64_id (x := 4 * (u : Int)) (by omega) (by omega), w64_id (x := 32 * (p : Int) + 4 * (u : Int)) (by omega) (by omega), w64_id (by omega) (by omega)]; omega

def tF (f : Nat → Int) (u v p q i k : Nat) : Int := partsF (32 * p + 4 * u + i) * partsF (32 * q + 4 * v + k) * f (64 * (2 * p + q) + (8 * i + k))
def rF (f : Nat → Int) (j : Nat) : Int := sumN 2 fun p => sumN 2 fun q => sumN 4 fun i => sumN 4 fun k => tF f (j / 8) (j % 8) p q i k

theorem mF_eq (f : Nat → Int) (j : Nat) : mF f j = rF f j := by
  unfold mF rF
  refine sumN_congr fun p _ => ?_
  rw [sumN_comm]
  refine sumN_congr fun i _ => ?_
  unfold acF
  rw [sumN_mul]
  refine sumN_congr fun q _ => ?_
  rw [sumN_mul]
  refine sumN_congr fun k _ => ?_
  unfold tF
  rw [Int.mul_assoc]

section
variable {f : Nat → Int} (hf : Bf f) {u v p q i k : Nat} (hu : u < 8) (hv : v < 8) (hp : p < 2) (hq : q < 2) (hi : i < 4) (hk : k < 4)
include hf hu hv hp hq hi hk in
theorem t_bd : (-16777216 ≤ partsF (32 * p + 4 * u + i) * partsF (32 * q + 4 * v + k) ∧ partsF (32 * p + 4 * u + i) * partsF (32 * q + 4 * v + k) ≤ 16777216) ∧ -17592186044416 ≤ tF f u v p q i k ∧ tF f u v p q i k ≤ 17592186044416 := by
  have h1 := parts_bd (32 * p + 4 * u + i) (by omega)
  have h2 := parts_bd (32 * q + 4 * v + k) (by omega)
  have h3 := hf (64 * (2 * p + q) + (8 * i + k)) (by omega)
  have h := mul_abs h1.1 h1.2 h2.1 h2.2
  have h' : -16777216 ≤ partsF (32 * p + 4 * u + i) * partsF (32 * q + 4 * v + k) ∧ partsF (32 * p + 4 * u + i) * partsF (32 * q + 4 * v + k) ≤ 16777216 := by omega
  have h4 := mul_abs h'.1 h'.2 h3.1 h3.2
  unfold tF
  exact ⟨h', by omega, by omega⟩
include hf hu hv hp hq hi in
theorem t1_bd : -70368744177664 ≤ (sumN 4 fun k => tF f u v p q i k) ∧ (sumN 4 fun k => tF f u v p q i k) ≤ 70368744177664 := by
  have := sumN_bd (n := 4) (t := fun k => tF f u v p q i k) (T := 17592186044416) fun k hk => (t_bd hf hu hv hp hq hi hk).2
  omega
include hf hu hv hp hq in
theorem t2_bd : -281474976710656 ≤ (sumN 4 fun i => sumN 4 fun k => tF f u v p q i k) ∧ (sumN 4 fun i => sumN 4 fun k => tF f u v p q i k) ≤ 281474976710656 := by
  have := sumN_bd (n := 4) (t := fun i => sumN 4 fun k => tF f u v p q i k) (T := 70368744177664) fun i hi => t1_bd hf hu hv hp hq hi
  omega
include hf hu hv hp in
theorem t3_bd : -562949953421312 ≤ (sumN 2 fun q => sumN 4 fun i => sumN 4 fun k => tF f u v p q i k) ∧ (sumN 2 fun q => sumN 4 fun i => sumN 4 fun k => tF f u v p q i k) ≤ 562949953421312 := by
  have := sumN_bd (n := 2) (t := fun q => sumN 4 fun i => sumN 4 fun k => tF f u v p q i k) (T := 281474976710656) fun q hq => t2_bd hf hu hv hp hq
  omega
end

theorem ref_one (K : Nat) (hK : 65 ≤ K) (f : Nat → Int) (hf : Bf f) (cb : Int → (Nat → Int) → Option ((Nat → Int) × Int)) {u v : Nat} (hu : u < 8) (hv : v < 8) (o : Nat → Int) :
    rMerge_l3 K cb f partsL (u : Int) (v : Int) o K 0 0 = cb ((v + 1 : Nat) : Int) (upd o (8 * u + v) (rnd (rF f (8 * u + v)) 33554432)) := by
  rw [loop_sum0 2 (rMerge_l3 K cb f partsL u v o) (rMerge_j5 K cb u v o) (fun p => sumN 2 fun q => sumN 4 fun i => sumN 4 fun k => tF f u v p q i k) 562949953421312 1125899906842624 0 (by omega) (fun p hp => t3_bd hf hu hv hp) ?_ ?_ K (by omega) (by omega) (by omega)]
  · unfold rMerge_j5 rMerge_j4
    rw [ix hu hv, if_pos (by omega), w64_succ (by omega), Int.toNat_natCast, Int.zero_add]
    unfold rF
    rw [show (8 * u + v) / 8 = u by omega, show (8 * u + v) % 8 = v by omega]
  · intro k n
    rw [rMerge_l3.eq_2, if_neg (by omega)]
  · intro k1 p n hp h1 h2
    rw [rMerge_l3.eq_2, if_pos (by omega)]
    rw [loop_sum0 2 (rMerge_l4 K (rMerge_l3 K cb f partsL u v o k1) f partsL u v p) (rMerge_j6 K (rMerge_l3 K cb f partsL u v o k1) p) (fun q => sumN 4 fun i => sumN 4 fun k => tF f u v p q i k) 281474976710656 2251799813685248 n (by omega) (fun q hq => t2_bd hf hu hv hp hq) ?_ ?_ K (by omega) (by omega) (by omega)]
    · unfold rMerge_j6
      rw [w64_succ (by omega)]
    · intro k n
      rw [rMerge_l4.eq_2, if_neg (by omega)]
    · intro k2 q n hq h3 h4
      rw [rMerge_l4.eq_2, if_pos (by omega)]
      rw [loop_sum0 4 (rMerge_l5 K (rMerge_l4 K (rMerge_l3 K cb f partsL u v o k1) f partsL u v p k2) f partsL u v p q) (rMerge_j7 K (rMerge_l4 K (rMerge_l3 K cb f partsL u v o k1) f partsL u v p k2) q) (fun i => sumN 4 fun k => tF f u v p q i k) 70368744177664 4503599627370496 n (by omega) (fun i hi => t1_bd hf hu hv hp hq hi) ?_ ?_ K (by omega) (by omega) (by omega)]
      · unfold rMerge_j7
        rw [w64_succ (by omega)]
      · intro k n
        rw [rMerge_l5.eq_2, if_neg (by omega)]
      · intro k3 i n hi h5 h6
        rw [rMerge_l5.eq_2, if_pos (by omega)]
        rw [loop_sum0 4 (rMerge_l6 K (rMerge_l5 K (rMerge_l4 K (rMerge_l3 K cb f partsL u v o k1) f partsL u v p k2) f partsL u v p q k3) f partsL u v p q i) (rMerge_j8 K (rMerge_l5 K (rMerge_l4 K (rMerge_l3 K cb f partsL u v o k1) f partsL u v p k2) f partsL u v p q k3) i) (fun k => tF f u v p q i k) 17592186044416 9007199254740992 n (by omega) (fun k hk => (t_bd hf hu hv hp hq hi hk).2) ?_ ?_ K (by omega) (by omega) (by omega)]
        · unfold rMerge_j8
          rw [w64_succ (by omega)]
        · intro k n
          rw [rMerge_l6.eq_2, if_neg (by omega)]
        · intro k4 k n hk h7 h8
          have ht := t_bd hf hu hv hp hq hi hk
          rw [rMerge_l6.eq_2, if_pos (by omega), partsL_length, ix3 hp hu hi, ix3 hq hv hk, ix2 (by omega) (by omega), ix (by omega) (by omega), if_pos (by omega), if_pos (by omega), if_pos (by omega), if_pos (by omega)]
          simp only [Int.toNat_natCast, getD_parts]
          rw [show (2 * p + q) * 64 + (8 * i + k) = 64 * (2 * p + q) + (8 * i + k) by omega]
          rw [w64_id (x := partsF (32 * p + 4 * u + i) * partsF (32 * q + 4 * v + k)) (by omega) (by omega)]
          show rMerge_l6 _ _ _ _ _ _ _ _ _ _ (w64 (n + w64 (tF f u v p q i k))) _ = _
          rw [w64_id (x := tF f u v p q i k) (by omega) (by omega), w64_id (by omega) (by omega), w64_succ (by omega)]

theorem rMerge_j1_eq (K : Nat) (hK : 65 ≤ K) (f : Nat → Int) (hf : Bf f) : rMerge_j1 K f = some (hF f, 0) := by
  unfold rMerge_j1
  have e : rParts K = some partsL := rfl
  rw [e, Option.bind_some, loop_rows0 8 (rMerge_l1 K f partsL) (rMerge_j2 K) (fun j => rnd (rF f j) 33554432) ?_ ?_ K (by omega)]
  · unfold rMerge_j2
    congr 2
    funext j
    unfold hF
    by_cases hj : j < 64
    · rw [if_pos hj, if_pos (by omega), mF_eq]
    · rw [if_neg hj, if_neg (by omega)]; rfl
  · intro k o
    rw [rMerge_l1.eq_2, if_neg (by omega)]
  · intro k u o hu
    rw [rMerge_l1.eq_2, if_pos (by omega)]
    rw [loop_row0 (8 * u) 8 (rMerge_l2 K (rMerge_l1 K f partsL k) f partsL u) (rMerge_j3 K (rMerge_l1 K f partsL k) u) (fun j => rnd (rF f j) 33554432) ?_ ?_ K (by omega)]
    · unfold rMerge_j3
      rw [w64_succ (by omega)]
    · intro k' o'
      rw [rMerge_l2.eq_2, if_neg (by omega)]
    · intro k' v o' hv
      rw [rMerge_l2.eq_2, if_pos (by omega)]
      exact ref_one K hK f hf _ hu hv o'

/-! ### in range -/
def in4 (f : Nat → Int) : Bool := allB 4 fun i => inB (shf f (i * 64)) (-1048576) 1048576
theorem in4_true {f : Nat → Int} : in4 f = true ↔ Bf f := by
  unfold in4
  rw [allB_true]
  constructor
  · intro h j hj
    have := inB_true.1 (h (j / 64) (by omega)) (j % 64) (by omega)
    unfold shf at this
    rwa [show j / 64 * 64 + j % 64 = j by omega] at this
  · intro h i hi
    exact inB_true.2 fun j hj => h (i * 64 + j) (by omega)

theorem merge_eq (K : Nat) (hK : 65 ≤ K) (f : Nat → Int) : merge K f = if in4 f = true then some (hF f, 0) else some (zf, 2) := by
  unfold merge
  rw [loop_all0 4 (merge_l7 K f) (merge_j1 K f) (some (zf, 2)) (fun i => inB (shf f (i * 64)) (-1048576) 1048576) ?_ ?_ ?_ K (by omega)]
  · by_cases h : in4 f = true
    · rw [if_pos h]
      unfold in4 at h
      rw [h, cond_true, merge_j1_eq K hK f (in4_true.1 h)]
    · rw [if_neg h]
      unfold in4 at h
      rw [Bool.not_eq_true] at h
      rw [h, cond_false]
  · intro k
    rw [merge_l7.eq_2, if_neg (by omega)]
  all_goals
    intro k i hi hp
    rw [merge_l7.eq_2, if_pos (by omega), if_pos (by omega)]
    rw [loop_all0 64 (merge_l8 K (merge_l7 K f k) f i) (merge_j9 K (merge_l7 K f k) i) (some (zf, 2)) (fun j => decide (-1048576 ≤ shf f (i * 64) j) && decide (shf f (i * 64) j ≤ 1048576)) ?_ ?_ ?_ K (by omega)]
    · unfold inB at hp
      rw [hp]
      first
        | (unfold merge_j9; rw [w64_succ (by omega)]; rfl)
        | rfl
    · intro k'
      rw [merge_l8.eq_2, if_neg (by omega)]
    · intro k' j hj hp'
      simp only [Bool.and_eq_true, decide_eq_true_eq] at hp'
      rw [merge_l8.eq_2, if_pos (by omega), if_pos (by omega)]
      simp only [Int.toNat_natCast]
      rw [if_neg (by omega), if_neg (by omega), w64_succ (by omega)]
    · intro k' j hj hp'
      rw [merge_l8.eq_2, if_pos (by omega), if_pos (by omega)]
      simp only [Int.toNat_natCast]
      by_cases h : shf f (i * 64) j < -1048576
      · rw [if_pos h]
      · rw [if_neg h, if_pos]
        rw [Bool.eq_false_iff] at hp'
        simp only [ne_eq, Bool.and_eq_true, decide_eq_true_eq] at hp'
        omega

theorem rMerge_eq (K : Nat) (hK : 65 ≤ K) (f : Nat → Int) : rMerge K f = if in4 f = true then some (hF f, 0) else some (zf, 2) := by
  unfold rMerge
  rw [loop_all0 4 (rMerge_l7 K f) (rMerge_j1 K f) (some (zf, 2)) (fun i => inB (shf f (i * 64)) (-1048576) 1048576) ?_ ?_ ?_ K (by omega)]
  · by_cases h : in4 f = true
    · rw [if_pos h]
      unfold in4 at h
      rw [h, cond_true, rMerge_j1_eq K hK f (in4_true.1 h)]
    · rw [if_neg h]
      unfold in4 at h
      rw [Bool.not_eq_true] at h
      rw [h, cond_false]
  · intro k
    rw [rMerge_l7.eq_2, if_neg (by omega)]
  · intro k i hi hp
    rw [rMerge_l7.eq_2, if_pos (by omega), if_pos (by omega)]
    simp only [Int.toNat_natCast]
    rw [rIn_eq K hK, hp, Option.bind_some, if_pos rfl, w64_succ (by omega)]
  · intro k i hi hp
    rw [rMerge_l7.eq_2, if_pos (by omega), if_pos (by omega)]
    simp only [Int.toNat_natCast]
    rw [rIn_eq K hK, hp, Option.bind_some, if_neg (by decide)]

theorem awake10_eq (K : Nat) (hK : 65 ≤ K) : awake10 K = some true := by
  unfold awake10
  rw [merge_eq K hK, if_pos (by decide +kernel), Option.bind_some, if_pos, if_pos rfl]
  · rfl
  · unfold eqF hF mF acF sumN
    decide +kernel
end Go.Proofs.YtfpafpmcfkapkaaDoor
