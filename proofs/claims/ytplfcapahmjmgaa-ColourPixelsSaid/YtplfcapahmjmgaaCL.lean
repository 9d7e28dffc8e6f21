import Derived.Test.YtplfcapahmjmgaaP0
import Derived.Test.YtplfcapahmjmgaaT1
namespace Go.Proofs.Ytplfcapahmjmgaa
open Go Go.RowKit K

theorem rnd0_near {n d : Int} (_ : 0 ≤ n) (hd : 1 ≤ d) : 2 * (n - d * rnd0 n d) ≤ d ∧ -d ≤ 2 * (n - d * rnd0 n d) := by
  have h3 : 0 ≤ n % d := Int.emod_nonneg _ (by omega)
  have h4 : n % d < d := Int.emod_lt_of_pos _ (by omega)
  have h5 := Int.mul_ediv_add_emod n d
  unfold rnd0
  split
  · rw [Int.mul_add, Int.mul_one]; omega
  · omega
theorem rnd_near {n d : Int} (hn : -1152921504606846976 ≤ n) (hn2 : n ≤ 1152921504606846976) (hd : 1 ≤ d) (hd2 : d ≤ 1152921504606846976) : 2 * (n - d * rnd n d) ≤ d ∧ -d ≤ 2 * (n - d * rnd n d) := by
  unfold rnd
  rw [if_neg (by omega)]
  split
  · have := rnd0_near (n := -n) (d := d) (by omega) hd
    rw [Int.mul_neg]
    omega
  · exact rnd0_near (by omega) hd
def by16 (n : Int) : Int := rnd n 65536
theorem by16_near {n : Int} (hn : -1152921504606846976 ≤ n) (hn2 : n ≤ 1152921504606846976) : 2 * (n - 65536 * by16 n) ≤ 65536 ∧ -65536 ≤ 2 * (n - 65536 * by16 n) :=
  rnd_near hn hn2 (by decide) (by decide)
def clamp (x : Int) : Int := imin (imax x 0) 255
theorem clamp_bd (x : Int) : 0 ≤ clamp x ∧ clamp x ≤ 255 := by
  unfold clamp imin imax
  repeat' split
  all_goals omega
theorem clamp_id {x : Int} (h : 0 ≤ x) (h' : x ≤ 255) : clamp x = x := by
  unfold clamp imin imax
  repeat' split
  all_goals omega
theorem clamp_mono {x y : Int} (h : x ≤ y) : clamp x ≤ clamp y := by
  unfold clamp imin imax
  repeat' split
  all_goals omega
theorem byteOf_eq (K : Nat) (n : Int) : byteOf K n = some (clamp n) := rfl
theorem rCut_eq (K : Nat) (n : Int) : rCut K n = some (clamp n) := by
  unfold rCut clamp imin imax
  repeat' split
  all_goals first | rfl | omega | (congr 1; omega)
theorem rBy_eq (K : Nat) (n : Int) : rBy K n = some (by16 n) := rfl
def byteB (n : Int) : Bool := decide (0 ≤ n) && decide (n ≤ 255)
theorem byteB_true {n : Int} : byteB n = true ↔ 0 ≤ n ∧ n ≤ 255 := by unfold byteB; simp
theorem rIn11_eq (K : Nat) (n : Int) : rIn11 K n = some (byteB n) := by
  unfold rIn11 byteB
  by_cases h : 0 ≤ n
  · rw [if_pos h]; simp [h]
  · rw [if_neg h]; simp [h]
theorem clamp_ne {n : Int} : n = clamp n ↔ byteB n = true := by
  rw [byteB_true]
  constructor
  · intro h; have := clamp_bd n; omega
  · intro h; exact (clamp_id h.1 h.2).symm

theorem cRight_eq (a b c : Int) : cRight 8 (lf [a, b, c]) = some (byteB a && byteB b && byteB c) := by
  unfold cRight
  rw [loop_all0 3 (cRight_l1 8 (lf [a, b, c])) (some true) (some false) (fun j => byteB (lf [a, b, c] j)) ?_ ?_ ?_ 8 (by decide)]
  · have : allB 3 (fun j => byteB (lf [a, b, c] j)) = (byteB a && (byteB b && (byteB c && true))) := rfl
    rw [this]
    cases byteB a <;> cases byteB b <;> cases byteB c <;> rfl
  · intro k
    rw [cRight_l1.eq_2, if_neg (by omega)]; rfl
  · intro k i hi hp
    rw [cRight_l1.eq_2, if_pos (by omega), if_pos (by omega)]
    simp only [Int.toNat_natCast, byteOf_eq, Option.bind_some]
    rw [if_neg (fun h => h (clamp_ne.2 hp)), w64_succ (by omega)]
  · intro k i hi hp
    rw [cRight_l1.eq_2, if_pos (by omega), if_pos (by omega)]
    simp only [Int.toNat_natCast, byteOf_eq, Option.bind_some]
    rw [if_pos (fun h => by rw [clamp_ne.1 h] at hp; cases hp)]

def inC (a b c : Int) : Prop := (0 ≤ a ∧ a ≤ 255) ∧ (0 ≤ b ∧ b ≤ 255) ∧ (0 ≤ c ∧ c ≤ 255)
theorem inC_iff {a b c : Int} : (byteB a && byteB b && byteB c) = true ↔ inC a b c := by
  rw [Bool.and_eq_true, Bool.and_eq_true, byteB_true, byteB_true, byteB_true]
  unfold inC
  exact and_assoc

theorem cOf_in {r g b : Int} (h : inC r g b) :
    cOf 8 r g b = some (clamp (by16 (19595 * r + 38470 * g + 7471 * b)), clamp (128 + by16 (32768 * b - 11059 * r - 21709 * g)), clamp (128 + by16 (32768 * r - 27439 * g - 5329 * b)), 0) := by
  have hr := inC_iff.2 h
  obtain ⟨h1, h2, h3⟩ := h
  unfold cOf
  rw [cRight_eq, hr]
  simp only [Option.bind_some, if_true, byteOf_eq]
  have e1 : w64 ((w64 ((w64 (19595 * r)) + (w64 (38470 * g)))) + (w64 (7471 * b))) = 19595 * r + 38470 * g + 7471 * b := by
    rw [w64_id (x := 19595 * r) (by omega) (by omega), w64_id (x := 38470 * g) (by omega) (by omega), w64_id (x := 7471 * b) (by omega) (by omega), w64_id (x := 19595 * r + 38470 * g) (by omega) (by omega), w64_id (by omega) (by omega)]
  have e2 : w64 ((w64 ((w64 (32768 * b)) - (w64 (11059 * r)))) - (w64 (21709 * g))) = 32768 * b - 11059 * r - 21709 * g := by
    rw [w64_id (x := 32768 * b) (by omega) (by omega), w64_id (x := 11059 * r) (by omega) (by omega), w64_id (x := 21709 * g) (by omega) (by omega), w64_id (x := 32768 * b - 11059 * r) (by omega) (by omega), w64_id (by omega) (by omega)]
  have e3 : w64 ((w64 ((w64 (32768 * r)) - (w64 (27439 * g)))) - (w64 (5329 * b))) = 32768 * r - 27439 * g - 5329 * b := by
    rw [w64_id (x := 32768 * r) (by omega) (by omega), w64_id (x := 27439 * g) (by omega) (by omega), w64_id (x := 5329 * b) (by omega) (by omega), w64_id (x := 32768 * r - 27439 * g) (by omega) (by omega), w64_id (by omega) (by omega)]
  rw [e1, e2, e3]
  have n2 := by16_near (n := 32768 * b - 11059 * r - 21709 * g) (by omega) (by omega)
  have n3 := by16_near (n := 32768 * r - 27439 * g - 5329 * b) (by omega) (by omega)
  unfold by16 at n2 n3 ⊢
  rw [w64_id (x := 128 + _) (by omega) (by omega), w64_id (x := 128 + _) (by omega) (by omega)]
theorem cOf_out {r g b : Int} (h : ¬ inC r g b) : cOf 8 r g b = some (0, 0, 0, 2) := by
  have hr : ¬ (byteB r && byteB g && byteB b) = true := fun e => h (inC_iff.1 e)
  unfold cOf
  rw [cRight_eq]
  simp only [Option.bind_some, hr, if_false, Bool.false_eq_true]

theorem cPixel_in {y cb cr : Int} (h : inC y cb cr) : cPixel 8 y cb cr = some (clamp (y + by16 (91881 * (cr - 128))), clamp (y - by16 (22554 * (cb - 128) + 46802 * (cr - 128))), clamp (y + by16 (116130 * (cb - 128))), 0) := by
  have hr := inC_iff.2 h
  obtain ⟨h1, h2, h3⟩ := h
  unfold cPixel
  rw [cRight_eq, hr]
  simp only [Option.bind_some, if_true, byteOf_eq]
  rw [w64_id (x := cr - 128) (by omega) (by omega), w64_id (x := cb - 128) (by omega) (by omega)]
  rw [w64_id (x := 91881 * (cr - 128)) (by omega) (by omega), w64_id (x := 22554 * (cb - 128)) (by omega) (by omega), w64_id (x := 46802 * (cr - 128)) (by omega) (by omega), w64_id (x := 116130 * (cb - 128)) (by omega) (by omega)]
  rw [w64_id (x := 22554 * (cb - 128) + 46802 * (cr - 128)) (by omega) (by omega)]
  have n1 := by16_near (n := 91881 * (cr - 128)) (by omega) (by omega)
  have n2 := by16_near (n := 22554 * (cb - 128) + 46802 * (cr - 128)) (by omega) (by omega)
  have n3 := by16_near (n := 116130 * (cb - 128)) (by omega) (by omega)
  unfold by16 at n1 n2 n3 ⊢
  rw [w64_id (x := y + _) (by omega) (by omega), w64_id (x := y - _) (by omega) (by omega), w64_id (x := y + _) (by omega) (by omega)]
theorem cPixel_out {r g b : Int} (h : ¬ inC r g b) : cPixel 8 r g b = some (0, 0, 0, 2) := by
  have hr : ¬ (byteB r && byteB g && byteB b) = true := fun e => h (inC_iff.1 e)
  unfold cPixel
  rw [cRight_eq]
  simp only [Option.bind_some, hr, if_false, Bool.false_eq_true]

theorem awake11_eq : awake11 8 = some true := by
  unfold awake11
  rw [cOf_in (by unfold inC; omega)]
  rfl

theorem by16_mono {n m : Int} (h : n ≤ m) (hn : -1152921504606846976 ≤ n) (hm : m ≤ 1152921504606846976) : by16 n ≤ by16 m := by
  by_cases e : n = m
  · subst e; omega
  · have h1 := by16_near (n := n) hn (by omega)
    have h2 := by16_near (n := m) (by omega) hm
    omega

theorem ColourBrighter_eq (a b c d e f : Int) : lawColourBrighter 8 a b c d e f = some true := by
  unfold lawColourBrighter
  rw [awake11_eq]
  simp only [Option.bind_some]
  by_cases h1 : inC a b c
  · by_cases h2 : inC d e f
    · rw [cOf_in h1, cOf_in h2]
      simp only [Option.bind_some]
      rw [if_neg (by decide), if_neg (by decide)]
      by_cases c1 : d < a
      · rw [if_pos c1]
      · rw [if_neg c1]
        by_cases c2 : e < b
        · rw [if_pos c2]
        · rw [if_neg c2]
          by_cases c3 : f < c
          · rw [if_pos c3]
          · rw [if_neg c3, if_pos]
            obtain ⟨p1, p2, p3⟩ := h1
            obtain ⟨q1, q2, q3⟩ := h2
            exact clamp_mono (by16_mono (by omega) (by omega) (by omega))
    · rw [cOf_in h1, cOf_out h2]
      simp only [Option.bind_some]
      rw [if_neg (by decide), if_pos (by decide)]
  · rw [cOf_out h1]
    by_cases h2 : inC d e f
    · rw [cOf_in h2]
      simp only [Option.bind_some]
      rw [if_pos (by decide)]
    · rw [cOf_out h2]
      simp only [Option.bind_some]
      rw [if_pos (by decide)]

theorem ColourPixels_eq (a b c : Int) : lawColourPixels 8 a b c = some true := by
  unfold lawColourPixels
  have h : rPixel 8 a b c = cPixel 8 a b c := by
    unfold rPixel cPixel
    rw [cRight_eq]
    simp only [rIn11_eq, rBy_eq, rCut_eq, byteOf_eq, Option.bind_some]
    cases byteB a <;> cases byteB b <;> cases byteB c <;> rfl
  rw [h, awake11_eq]
  by_cases h1 : inC a b c
  · rw [cPixel_in h1]
    simp only [Option.bind_some, if_true]
  · rw [cPixel_out h1]
    simp only [Option.bind_some, if_true]

theorem by16_zero : by16 0 = 0 := by decide
theorem by16_whole {n : Int} (h : 0 ≤ n) (h' : n ≤ 255) : by16 (65536 * n) = n := by
  have := by16_near (n := 65536 * n) (by omega) (by omega)
  omega
theorem ColourGrey_eq (n : Int) (h0 : IntKind.u8.min ≤ n) (h1 : n ≤ IntKind.u8.max) : lawColourGrey 8 n = some true := by
  have h0' : 0 ≤ n := h0
  have h1' : n ≤ 255 := h1
  unfold lawColourGrey
  rw [w64_id (x := n) (by omega) (by omega), cOf_in (by unfold inC; omega), awake11_eq]
  simp only [Option.bind_some]
  rw [show 19595 * n + 38470 * n + 7471 * n = 65536 * n by omega, show 32768 * n - 11059 * n - 21709 * n = 0 by omega, show 32768 * n - 27439 * n - 5329 * n = 0 by omega, by16_whole h0' h1', by16_zero, clamp_id h0' h1', clamp_id (by decide) (by decide)]
  rw [cPixel_in (by unfold inC; omega)]
  simp only [Option.bind_some]
  rw [show (91881 * (128 + 0 - 128) : Int) = 0 by decide, show (22554 * (128 + 0 - 128) + 46802 * (128 + 0 - 128) : Int) = 0 by decide, show (116130 * (128 + 0 - 128) : Int) = 0 by decide, by16_zero, Int.add_zero, Int.sub_zero, clamp_id h0' h1']
  simp [clamp_id h0' h1']

theorem ColourBounds_eq (a b c d e f : Int) : lawColourBounds 8 a b c d e f = some true := by
  have k1 : ∃ y u v o, cOf 8 a b c = some (y, u, v, o) ∧ inC y u v ∧ (o = 0 ∨ [y, u, v] = [0, 0, 0]) := by
    by_cases h : inC a b c
    · exact ⟨_, _, _, _, cOf_in h, ⟨clamp_bd _, clamp_bd _, clamp_bd _⟩, .inl rfl⟩
    · exact ⟨_, _, _, _, cOf_out h, by unfold inC; omega, .inr rfl⟩
  have k2 : ∃ y u v o, cPixel 8 d e f = some (y, u, v, o) ∧ inC y u v ∧ (o = 0 ∨ [y, u, v] = [0, 0, 0]) := by
    by_cases h : inC d e f
    · exact ⟨_, _, _, _, cPixel_in h, ⟨clamp_bd _, clamp_bd _, clamp_bd _⟩, .inl rfl⟩
    · exact ⟨_, _, _, _, cPixel_out h, by unfold inC; omega, .inr rfl⟩
  obtain ⟨y, u, v, o, e1, i1, o1⟩ := k1
  obtain ⟨y', u', v', o', e2, i2, o2⟩ := k2
  unfold lawColourBounds
  rw [e1, e2, awake11_eq]
  simp only [Option.bind_some, rIn11_eq]
  have b1 := i1
  have b2 := i2
  unfold inC at b1 b2
  rw [byteB_true.2 b1.1, byteB_true.2 b1.2.1, byteB_true.2 b1.2.2, byteB_true.2 b2.1, byteB_true.2 b2.2.1, byteB_true.2 b2.2.2, cPixel_in i1, cOf_in i2]
  simp only [Option.bind_some, if_true]
  rcases o1 with rfl | o1
  · rw [if_pos rfl]
    rcases o2 with rfl | o2
    · rw [if_pos rfl]
    · by_cases z : o' = 0
      · rw [if_pos z]
      · rw [if_neg z, if_pos o2]
  · by_cases z : o = 0
    · rw [if_pos z]
      rcases o2 with rfl | o2
      · rw [if_pos rfl]
      · by_cases z : o' = 0
        · rw [if_pos z]
        · rw [if_neg z, if_pos o2]
    · rw [if_neg z, if_pos o1]
      rcases o2 with rfl | o2
      · rw [if_pos rfl]
      · by_cases z : o' = 0
        · rw [if_pos z]
        · rw [if_neg z, if_pos o2]
end Go.Proofs.Ytplfcapahmjmgaa
