import Derived.Test.YtfpafpmcfkapkaaDoorProg
import Derived.Test.YtfpafpmcfkapkaaDoorK3
import Derived.Deep.QuietTactic
import Derived.BigQuiet
import Derived.Lib.Hide
namespace Go.Proofs.YtfpafpmcfkapkaaDoor
open Go Go.RowKit K

def rnd0 (n d : Int) : Int := if d - n % d ≤ n % d then n / d + 1 else n / d
def rnd (n d : Int) : Int :=
  if d < 1 ∨ d > 1152921504606846976 ∨ n > 1152921504606846976 ∨ n < -1152921504606846976 then 0
  else if n < 0 then - rnd0 (-n) d else rnd0 n d

theorem ret_int {k : IntKind} {a b : Int} (h : a = b) : Ending.returned (.int k a) = .returned (.int k b) := by rw [h]
theorem below_drewN (w : World) (m : Nat) : Below w.heap.size w (w.drewN m) := ⟨rfl, rfl, rfl, Nat.le_refl _, fun _ _ => rfl⟩

theorem rnd0_bd (n d : Int) (hn : 0 ≤ n) (hn2 : n ≤ 1152921504606846976) (hd : 1 ≤ d) : 0 ≤ rnd0 n d ∧ rnd0 n d ≤ 1152921504606846977 := by
  have h1 : 0 ≤ n / d := Int.ediv_nonneg hn (by omega)
  have h2 : n / d ≤ n := Int.ediv_le_self _ hn
  unfold rnd0
  split <;> omega

theorem round_pos (n d : Int) (w : World) (hn : 0 ≤ n) (hn2 : n ≤ 1152921504606846976) (hd : 1 ≤ d) (hd2 : d ≤ 1152921504606846976) :
    Calls Tryd.prog 34 #[.int .i64 n, .int .i64 d] w fun e w' => e = .returned (.int .i64 (rnd0 n d)) ∧ ∃ m, w.drewN m = w' := by
  have h1 : 0 ≤ n / d := Int.ediv_nonneg hn (by omega)
  have h2 : n / d ≤ n := Int.ediv_le_self _ hn
  have h3 : 0 ≤ n % d := Int.emod_nonneg _ (by omega)
  have h4 : n % d < d := Int.emod_lt_of_pos _ (by omega)
  go_enter Tryd.func34, Tryd.ntmps34
  go_wp2
  go_quiet (fail)
  go_wp2
  · go_ret
    exact ⟨ret_int (by unfold rnd0; rw [if_pos (by assumption)]), _, rfl⟩
  · go_ret
    exact ⟨ret_int (by unfold rnd0; rw [if_neg (by omega)]), _, rfl⟩

theorem round_any (n d : Int) (w : World) :
    Calls Tryd.prog 34 #[.int .i64 n, .int .i64 d] w fun e w' => e = .returned (.int .i64 (rnd n d)) ∧ ∃ m, w.drewN m = w' := by
  by_cases hc : d < 1 ∨ d > 1152921504606846976 ∨ n > 1152921504606846976 ∨ n < -1152921504606846976
  · have he : rnd n d = 0 := by unfold rnd; rw [if_pos hc]
    rw [he]
    go_enter Tryd.func34, Tryd.ntmps34
    go_wp2
    all_goals go_ret
    all_goals exact ⟨rfl, 0, rfl⟩
  · by_cases hn : n < 0
    · have he : rnd n d = - rnd0 (-n) d := by unfold rnd; rw [if_neg hc, if_pos hn]
      rw [he]
      have hb := rnd0_bd (-n) d (by omega) (by omega) (by omega)
      go_enter Tryd.func34, Tryd.ntmps34
      go_wp2_with (go_at_call 34; refine (round_pos _ _ _ (by omega) (by omega) (by omega) (by omega)).mono ?_; rintro e w' ⟨rfl, m, rfl⟩)
      go_ret
      exact ⟨rfl, _, rfl⟩
    · have he : rnd n d = rnd0 n d := by unfold rnd; rw [if_neg hc, if_neg hn]
      rw [he]
      exact round_pos n d w (by omega) (by omega) (by omega) (by omega)

theorem c_Round (n d : Int) (w : World) : Calls Tryd.prog 34 #[.int .i64 n, .int .i64 d] w fun e w' => e = .returned (.int .i64 (rnd n d)) ∧ Below w.heap.size w w' :=
  (round_any n d w).mono fun _ _ ⟨he, m, hw⟩ => ⟨he, hw ▸ below_drewN w m⟩

theorem rround_pos (n d : Int) (w : World) (hn : 0 ≤ n) (hn2 : n ≤ 1152921504606846976) (hd : 1 ≤ d) (hd2 : d ≤ 1152921504606846976) :
    Calls Tryd.prog 35 #[.int .i64 n, .int .i64 d] w fun e w' => e = .returned (.int .i64 (rnd0 n d)) ∧ w = w' := by
  have h1 : 0 ≤ n / d := Int.ediv_nonneg hn (by omega)
  have h2 : n / d ≤ n := Int.ediv_le_self _ hn
  have h3 : 0 ≤ n % d := Int.emod_nonneg _ (by omega)
  have h4 : n % d < d := Int.emod_lt_of_pos _ (by omega)
  have h5 : n / d * d + n % d = n := by rw [Int.mul_comm]; exact Int.mul_ediv_add_emod n d
  have h6 : (n / d + 1) * d = n / d * d + d := by rw [Int.add_mul, Int.one_mul]
  have h7 : 0 ≤ n / d * d := Int.mul_nonneg h1 (by omega)
  obtain ⟨q, hq⟩ : ∃ q, n / d = q := ⟨_, rfl⟩
  obtain ⟨p, hp⟩ : ∃ p, q * d = p := ⟨_, rfl⟩
  rw [hq, hp] at h5 h6 h7
  have HR : Hid (rnd0 n d = if d - n % d ≤ n % d then q + 1 else q) := by rw [← hq]; rfl
  rw [hq] at h1 h2
  have hp' : Hid (n - p = n % d) := by show n - p = n % d; omega
  have hd' : Hid (p + d - n = d - n % d) := by show p + d - n = d - n % d; omega
  have hp0 : 0 ≤ p := by omega
  have hp1 : p ≤ n := by omega
  clear h5
  by_cases hlt : d - n % d ≤ n % d
  · have he : Hid (rnd0 n d = q + 1) := by have := HR.out; rw [if_pos hlt] at this; exact this
    have ht : p + d - n ≤ n - p := by rw [hp'.out, hd'.out]; exact hlt
    clear hlt HR
    go_enter Tryd.func35, Tryd.ntmps35
    go_wp2
    go_ret
    first | exact ⟨ret_int he.out.symm, rfl⟩ | exact ⟨ret_int (by rw [hq]; exact he.out.symm), rfl⟩
  · have he : Hid (rnd0 n d = q) := by have := HR.out; rw [if_neg hlt] at this; exact this
    have ht : n - p < p + d - n := by rw [hp'.out, hd'.out]; omega
    clear hlt HR
    go_enter Tryd.func35, Tryd.ntmps35
    go_wp2
    go_ret
    first | exact ⟨ret_int he.out.symm, rfl⟩ | exact ⟨ret_int (by rw [hq]; exact he.out.symm), rfl⟩

theorem rround_any (n d : Int) (w : World) :
    Calls Tryd.prog 35 #[.int .i64 n, .int .i64 d] w fun e w' => e = .returned (.int .i64 (rnd n d)) ∧ w = w' := by
  by_cases hc : d < 1 ∨ d > 1152921504606846976 ∨ n > 1152921504606846976 ∨ n < -1152921504606846976
  · have he : rnd n d = 0 := by unfold rnd; rw [if_pos hc]
    rw [he]
    go_enter Tryd.func35, Tryd.ntmps35
    go_wp2
    all_goals go_ret
    all_goals exact ⟨rfl, rfl⟩
  · by_cases hn : n < 0
    · have he : rnd n d = - rnd0 (-n) d := by unfold rnd; rw [if_neg hc, if_pos hn]
      rw [he]
      have hb := rnd0_bd (-n) d (by omega) (by omega) (by omega)
      go_enter Tryd.func35, Tryd.ntmps35
      go_wp2_with (go_at_call 35; refine (rround_pos _ _ _ (by omega) (by omega) (by omega) (by omega)).mono ?_; rintro e w' ⟨rfl, rfl⟩)
      go_ret
      exact ⟨rfl, rfl⟩
    · have he : rnd n d = rnd0 n d := by unfold rnd; rw [if_neg hc, if_neg hn]
      rw [he]
      exact rround_pos n d w (by omega) (by omega) (by omega) (by omega)

theorem c_rRound (n d : Int) (w : World) : Calls Tryd.prog 35 #[.int .i64 n, .int .i64 d] w fun e w' => e = .returned (.int .i64 (rnd n d)) ∧ Below w.heap.size w w' :=
  (rround_any n d w).mono fun _ _ ⟨he, hw⟩ => ⟨he, hw ▸ Below.refl _ _⟩
end Go.Proofs.YtfpafpmcfkapkaaDoor
