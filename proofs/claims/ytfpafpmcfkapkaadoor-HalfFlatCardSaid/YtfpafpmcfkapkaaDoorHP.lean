import Derived.Test.YtfpafpmcfkapkaaDoorSM
import Derived.Test.YtfpafpmcfkapkaaDoorH3
/-! Four blocks as one: plain. -/
namespace Go.Proofs.YtfpafpmcfkapkaaDoor
open Go Go.RowKit K

theorem rIn_eq (K : Nat) (hK : 65 ≤ K) (b : Nat → Int) (lo hi : Int) : rIn K b lo hi = some (inB b lo hi) := by
  unfold rIn
  rw [loop_all0 64 (rIn_l1 K b lo hi) (some true) (some false) (fun j => decide (lo ≤ b j) && decide (b j ≤ hi)) ?_ ?_ ?_ K (by omega)]
  · unfold inB
    cases allB 64 _ <;> rfl
  · intro k
    rw [rIn_l1.eq_2, if_neg (by omega)]; rfl
  · intro k i hi' hp
    simp only [Bool.and_eq_true, decide_eq_true_eq] at hp
    rw [rIn_l1.eq_2, if_pos (by omega), if_pos (by omega)]
    simp only [Int.toNat_natCast]
    rw [if_neg (by omega), if_neg (by omega), w64_succ (by omega)]
  · intro k i hi' hp
    rw [rIn_l1.eq_2, if_pos (by omega), if_pos (by omega)]
    simp only [Int.toNat_natCast]
    by_cases h : b i < lo
    · rw [if_pos h]
    · rw [if_neg h, if_pos]
      rw [Bool.eq_false_iff] at hp
      simp only [ne_eq, Bool.and_eq_true, decide_eq_true_eq] at hp
      omega


theorem parts_bd : Bd 4096 partsF := by unfold Bd partsF partsL lf; decide
def Bf (f : Nat → Int) : Prop := ∀ j, j < 256 → -1048576 ≤ f j ∧ f j ≤ 1048576
def acF (f : Nat → Int) (p i v : Nat) : Int := sumN 2 fun q => sumN 4 fun k => partsF (32 * q + 4 * v + k) * f (64 * (2 * p + q) + (8 * i + k))
def mF (f : Nat → Int) (j : Nat) : Int := sumN 2 fun p => sumN 4 fun i => partsF (32 * p + 4 * (j / 8) + i) * acF f p i (j % 8)

theorem ac_term {f : Nat → Int} (hf : Bf f) {p i v q k : Nat} (hp : p < 2) (hi : i < 4) (hv : v < 8) (hq : q < 2) (hk : k < 4) :
    -4294967296 ≤ partsF (32 * q + 4 * v + k) * f (64 * (2 * p + q) + (8 * i + k)) ∧ partsF (32 * q + 4 * v + k) * f (64 * (2 * p + q) + (8 * i + k)) ≤ 4294967296 := by
  have h1 := parts_bd (32 * q + 4 * v + k) (by omega)
  have h2 := hf (64 * (2 * p + q) + (8 * i + k)) (by omega)
  have := mul_abs h1.1 h1.2 h2.1 h2.2
  omega
theorem ac_row {f : Nat → Int} (hf : Bf f) {p i v q : Nat} (hp : p < 2) (hi : i < 4) (hv : v < 8) (hq : q < 2) :
    -17179869184 ≤ (sumN 4 fun k => partsF (32 * q + 4 * v + k) * f (64 * (2 * p + q) + (8 * i + k))) ∧ (sumN 4 fun k => partsF (32 * q + 4 * v + k) * f (64 * (2 * p + q) + (8 * i + k))) ≤ 17179869184 := by
  have := sumN_bd (n := 4) (t := fun k => partsF (32 * q + 4 * v + k) * f (64 * (2 * p + q) + (8 * i + k))) (T := 4294967296) fun k hk => ac_term hf hp hi hv hq hk
  omega
theorem ac_bd {f : Nat → Int} (hf : Bf f) {p i v : Nat} (hp : p < 2) (hi : i < 4) (hv : v < 8) : -34359738368 ≤ acF f p i v ∧ acF f p i v ≤ 34359738368 := by
  have := sumN_bd (n := 2) (t := fun q => sumN 4 fun k => partsF (32 * q + 4 * v + k) * f (64 * (2 * p + q) + (8 * i + k))) (T := 17179869184) fun q hq => ac_row hf hp hi hv hq
  unfold acF
  omega

theorem ix2 {i k : Nat} (hi : i < 8) (hk : k < 8) : w64 (w64 (2 * (i : Int)) + (k : Int)) = ((2 * i + k : Nat) : Int) := by
  rw [w64_id (x := 2 * (i : Int)) (by omega) (by omega), w64_id (by omega) (by omega)]; omega

theorem across_eq (K : Nat) (hK : 65 ≤ K) (f : Nat → Int) (hf : Bf f) {p i v : Nat} (hp : p < 2) (hi : i < 4) (hv : v < 8) : across K f (p : Int) (i : Int) (v : Int) = some (acF f p i v) := by
  unfold across
  rw [loop_sum0 2 (across_l1 K p i v f) (across_j1 K) (fun q => sumN 4 fun k => partsF (32 * q + 4 * v + k) * f (64 * (2 * p + q) + (8 * i + k))) 17179869184 4503599627370496 0 (by omega) (fun q hq => ac_row hf hp hi hv hq) ?_ ?_ K (by omega) (by omega) (by omega)]
  · unfold across_j1 acF
    rw [Int.zero_add]
  · intro k n
    rw [across_l1.eq_2, if_neg (by omega)]
  · intro k' q n hq h1 h2
    rw [across_l1.eq_2, if_pos (by omega)]
    rw [loop_sum0 4 (across_l2 K (across_l1 K p i v f k') p i v f q) (across_j2 K (across_l1 K p i v f k') q) (fun k => partsF (32 * q + 4 * v + k) * f (64 * (2 * p + q) + (8 * i + k))) 4294967296 9007199254740992 n (by omega) (fun k hk => ac_term hf hp hi hv hq hk) ?_ ?_ K (by omega) (by omega) (by omega)]
    · unfold across_j2
      rw [w64_succ (by omega)]
    · intro k'' n
      rw [across_l2.eq_2, if_neg (by omega)]
    · intro k'' k n hk h3 h4
      have ht := ac_term hf hp hi hv hq hk
      rw [across_l2.eq_2, if_pos (by omega), if_pos (by omega), if_pos (by omega), if_pos (by omega), ix2 (by omega) (by omega), ix (by omega) (by omega), if_pos (by omega), if_pos (by omega)]
      simp only [Int.toNat_natCast]
      rw [show q * 32 + v * 4 + k = 32 * q + 4 * v + k by omega, show (2 * p + q) * 64 + (8 * i + k) = 64 * (2 * p + q) + (8 * i + k) by omega]
      rw [w64_id (x := partsF (32 * q + 4 * v + k) * f (64 * (2 * p + q) + (8 * i + k))) (by omega) (by omega), w64_id (by omega) (by omega), w64_succ (by omega)]

/-! ### the columns, and the sums of them -/
theorem m_term {f : Nat → Int} (hf : Bf f) {u v p i : Nat} (hu : u < 8) (hv : v < 8) (hp : p < 2) (hi : i < 4) :
    -140737488355328 ≤ partsF (32 * p + 4 * u + i) * acF f p i v ∧ partsF (32 * p + 4 * u + i) * acF f p i v ≤ 140737488355328 := by
  have h1 := parts_bd (32 * p + 4 * u + i) (by omega)
  have h2 := ac_bd hf hp hi hv
  have := mul_abs h1.1 h1.2 h2.1 h2.2
  omega
theorem m_row {f : Nat → Int} (hf : Bf f) {u v p : Nat} (hu : u < 8) (hv : v < 8) (hp : p < 2) :
    -562949953421312 ≤ (sumN 4 fun i => partsF (32 * p + 4 * u + i) * acF f p i v) ∧ (sumN 4 fun i => partsF (32 * p + 4 * u + i) * acF f p i v) ≤ 562949953421312 := by
  have := sumN_bd (n := 4) (t := fun i => partsF (32 * p + 4 * u + i) * acF f p i v) (T := 140737488355328) fun i hi => m_term hf hu hv hp hi
  omega

theorem merge_col (K : Nat) (hK : 65 ≤ K) (f : Nat → Int) (hf : Bf f) (cb : Int → (Nat → Int) → Option ((Nat → Int) × Int)) {u v : Nat} (hu : u < 8) (hv : v < 8) (o c : Nat → Int) (hc : ∀ p, p < 2 → ∀ i, i < 4 → c (4 * p + i) = acF f p i v) :
    merge_l3 K cb c (u : Int) o (v : Int) K 0 0 = cb ((u + 1 : Nat) : Int) (upd o (8 * u + v) (rnd (mF f (8 * u + v)) 33554432)) := by
  rw [loop_sum0 2 (merge_l3 K cb c u o v) (merge_j6 K cb u o v) (fun p => sumN 4 fun i => partsF (32 * p + 4 * u + i) * acF f p i v) 562949953421312 4611686018427387904 0 (by omega) (fun p hp => m_row hf hu hv hp) ?_ ?_ K (by omega) (by omega) (by omega)]
  · unfold merge_j6 merge_j5
    rw [ix hu hv, if_pos (by omega), w64_succ (by omega), Int.toNat_natCast, Int.zero_add]
    unfold mF
    rw [show (8 * u + v) / 8 = u by omega, show (8 * u + v) % 8 = v by omega]
  · intro k n
    rw [merge_l3.eq_2, if_neg (by omega)]
  · intro k' p n hp h1 h2
    rw [merge_l3.eq_2, if_pos (by omega), if_pos (by omega)]
    rw [loop_sum0 4 (merge_l4 K (merge_l3 K cb c u o v k') c u p) (merge_j7 K (merge_l3 K cb c u o v k') p) (fun i => partsF (32 * p + 4 * u + i) * acF f p i v) 140737488355328 6917529027641081856 n (by omega) (fun i hi => m_term hf hu hv hp hi) ?_ ?_ K (by omega) (by omega) (by omega)]
    · unfold merge_j7
      rw [w64_succ (by omega)]
    · intro k'' n
      rw [merge_l4.eq_2, if_neg (by omega)]
    · intro k'' i n hi h3 h4
      have ht := m_term hf hu hv hp hi
      rw [merge_l4.eq_2, if_pos (by omega), if_pos (by omega), if_pos (by omega)]
      unfold shf
      simp only [Int.toNat_natCast]
      rw [show p * 32 + u * 4 + i = 32 * p + 4 * u + i by omega, show p * 4 + i = 4 * p + i by omega, hc p hp i hi]
      rw [w64_id (x := partsF (32 * p + 4 * u + i) * acF f p i v) (by omega) (by omega), w64_id (by omega) (by omega), w64_succ (by omega)]

def hF (f : Nat → Int) (j : Nat) : Int := if j < 64 then rnd (mF f j) 33554432 else 0
theorem merge_j1_eq (K : Nat) (hK : 65 ≤ K) (f : Nat → Int) (hf : Bf f) : merge_j1 K f = some (hF f, 0) := by
  unfold merge_j1
  have hl := loop_cols (merge_l1 K f) (merge_j2 K) (fun j => rnd (mF f j) 33554432) (fun k o => by rw [merge_l1.eq_2, if_neg (by omega)]) (fun k v o hv => by
    rw [merge_l1.eq_2, if_pos (by omega)]
    rw [loop_rows40 2 (merge_l5 K (merge_l1 K f k) f o v) (merge_j4 K (merge_l1 K f k) o v) (fun j => acF f (j / 4) (j % 4) v) ?_ ?_ K (by omega)]
    · unfold merge_j4
      have := loop_col v hv (merge_l2 K (merge_l1 K f k) (fun j => if j < 4 * 2 then acF f (j / 4) (j % 4) v else zf j) v) (merge_j3 K (merge_l1 K f k) v) (fun j => rnd (mF f j) 33554432)
        (fun k' o' => by rw [merge_l2.eq_2, if_neg (by omega)]) (fun k' u o' hu => by
          rw [merge_l2.eq_2, if_pos (by omega)]
          exact merge_col K hK f hf _ hu hv o' _ (fun p hp i hi => by
            rw [if_pos (by omega), show (4 * p + i) / 4 = p by omega, show (4 * p + i) % 4 = i by omega])) 8 K 0 o (by omega) (by omega)
      refine this.trans ?_
      unfold merge_j3
      rw [w64_succ (by omega)]
    · intro k' c
      rw [merge_l5.eq_2, if_neg (by omega)]
    · intro k' p c hp
      rw [merge_l5.eq_2, if_pos (by omega)]
      rw [loop_row0 (4 * p) 4 (merge_l6 K (merge_l5 K (merge_l1 K f k) f o v k') f p v) (merge_j8 K (merge_l5 K (merge_l1 K f k) f o v k') p) (fun j => acF f (j / 4) (j % 4) v) ?_ ?_ K (by omega)]
      · unfold merge_j8
        rw [w64_succ (by omega)]
      · intro k'' c'
        rw [merge_l6.eq_2, if_neg (by omega)]
      · intro k'' i c' hi
        rw [merge_l6.eq_2, if_pos (by omega), across_eq K hK f hf hp hi hv, Option.bind_some, if_pos (by omega), if_pos (by omega), w64_succ (by omega)]
        simp only [Int.toNat_natCast]
        rw [show (4 * p + i) / 4 = p by omega, show (4 * p + i) % 4 = i by omega, show p * 4 + i = 4 * p + i by omega]) 8 K 0 zf (by omega) (by omega)
  refine Eq.trans hl ?_
  unfold merge_j2
  congr 2
  funext j
  unfold hF
  by_cases hj : j < 64
  · rw [if_pos hj, if_pos ⟨hj, Nat.zero_le _⟩]
  · rw [if_neg hj, if_neg (fun h => hj h.1)]; rfl
end Go.Proofs.YtfpafpmcfkapkaaDoor
