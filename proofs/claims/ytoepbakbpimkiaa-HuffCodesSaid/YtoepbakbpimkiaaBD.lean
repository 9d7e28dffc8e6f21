import Derived.Test.YtoepbakbpimkiaaBP
import Derived.Test.YtoepbakbpimkiaaGbitsReaderBit
import Derived.Test.YtoepbakbpimkiaaGref04ReaderBit
/-! Plain: a reader of bits. -/
namespace Go.Proofs.Ytoepbakbpimkiaa
open Go Go.RowKit K

/-- The next bit: it, the error, the place, what is left of the byte. -/
def nxt (d : List Int) (i : Nat) : List Int → Int × Int × Nat × List Int
  | b :: r => (b, 0, i, r)
  | [] => match d.drop i with
    | [] => (0, 3, i, [])
    | x :: t => if x = 255 then (match t with
        | [] => (0, 3, i, [])
        | y :: _ => if y = 0 then (x / 2 ^ 7 % 2, 0, i + 2, dig x 7) else (0, 7, i, []))
      else (x / 2 ^ 7 % 2, 0, i + 1, dig x 7)
/-- The program's reader stands at a place, with some bits left. -/
def RI (d : List Int) (a p l : Int) (i : Nat) (r : List Int) : Prop :=
  a = (i : Int) ∧ i ≤ d.length ∧ 0 ≤ p ∧ p < 256 ∧ ∃ n : Nat, n ≤ 8 ∧ l = (n : Int) ∧ r = dig p n
theorem RI.nil (d : List Int) : RI d 0 0 0 0 [] := ⟨rfl, by omega, by omega, by omega, 0, by omega, rfl, rfl⟩
theorem RI.bits {d : List Int} {a p l : Int} {i : Nat} {r : List Int} (h : RI d a p l i r) : Bits r := by
  obtain ⟨_, _, _, _, n, _, _, rfl⟩ := h; exact dig_bits _ _
theorem RI.left {d : List Int} {a p l : Int} {i : Nat} {r : List Int} (h : RI d a p l i r) : l = (r.length : Int) ∧ r.length ≤ 8 := by
  obtain ⟨_, _, _, _, n, hn, rfl, rfl⟩ := h; rw [dig_len]; exact ⟨rfl, hn⟩
def Bytes (d : List Int) : Prop := (∀ x ∈ d, Byt x) ∧ d.length ≤ 1000000
theorem Bytes.at {d : List Int} (h : Bytes d) {i : Nat} {x : Int} {t : List Int} (e : d.drop i = x :: t) : Byt x :=
  h.1 x (List.mem_of_mem_drop (i := i) (by rw [e]; simp))
theorem getD_drop {d : List Int} {i : Nat} {x : Int} {t : List Int} (e : d.drop i = x :: t) : d.getD i 0 = x ∧ i < d.length ∧ d.length = i + 1 + t.length := by
  have hl : (d.drop i).length = t.length + 1 := by rw [e]; rfl
  rw [List.length_drop] at hl
  have hi : i < d.length := by omega
  rw [List.drop_eq_getElem_cons hi] at e
  injection e with e1 e2
  exact ⟨by rw [List.getD_eq_getElem?_getD, List.getElem?_eq_getElem hi]; exact e1, hi, by omega⟩
theorem getD_drop2 {d : List Int} {i : Nat} {x y : Int} {t : List Int} (e : d.drop i = x :: y :: t) : d.getD (i + 1) 0 = y ∧ i + 1 < d.length ∧ d.length = i + 2 + t.length := by
  have e2 : d.drop (i + 1) = y :: t := by rw [← List.drop_drop, e]; rfl
  obtain ⟨h1, h2, h3⟩ := getD_drop e2
  exact ⟨h1, h2, by omega⟩
theorem drop_nil {d : List Int} {i : Nat} (e : d.drop i = []) : d.length ≤ i := by
  have : (d.drop i).length = 0 := by rw [e]; rfl
  rw [List.length_drop] at this; omega

theorem bit_last (K' : Nat) {p : Int} {n : Nat} (h0 : 0 ≤ p) (h1 : p < 256) (hn : n < 8) (i : Int) :
    bits_Reader_Bit_j1 K' i p ((n + 1 : Nat) : Int) = some (p / 2 ^ n % 2, 0, i, p, (n : Int)) := by
  unfold bits_Reader_Bit_j1
  rw [w64_id (by omega) (by omega), if_pos (by omega), show ((n + 1 : Nat) : Int) - 1 = (n : Int) by omega, bit_at h0 (by omega) (by omega) (by omega), Int.toNat_natCast]
theorem w64_byt {x : Int} (h : Byt x) : w64 x = x := w64_id (by unfold Byt at h; omega) (by unfold Byt at h; omega)
theorem nxt_end {d : List Int} {i : Nat} (e : d.drop i = []) : nxt d i [] = (0, 3, i, []) := by simp only [nxt, e]
theorem nxt_cut {d : List Int} {i : Nat} (e : d.drop i = [255]) : nxt d i [] = (0, 3, i, []) := by simp only [nxt, e, if_true]
theorem nxt_mark {d t : List Int} {i : Nat} {y : Int} (e : d.drop i = 255 :: y :: t) (h : ¬ y = 0) : nxt d i [] = (0, 7, i, []) := by simp only [nxt, e, if_true, h, if_false]
theorem nxt_stuff {d t : List Int} {i : Nat} (e : d.drop i = 255 :: 0 :: t) : nxt d i [] = (255 / 2 ^ 7 % 2, 0, i + 2, dig 255 7) := by simp only [nxt, e, if_true]
theorem nxt_plain {d t : List Int} {i : Nat} {x : Int} (e : d.drop i = x :: t) (h : ¬ x = 255) : nxt d i [] = (x / 2 ^ 7 % 2, 0, i + 1, dig x 7) := by simp only [nxt, e, h, if_false]
theorem drop_cases (d : List Int) (i : Nat) : d.drop i = [] ∨ d.drop i = [255] ∨ (∃ y t, d.drop i = 255 :: y :: t ∧ ¬ y = 0) ∨ (∃ t, d.drop i = 255 :: 0 :: t) ∨ (∃ x t, d.drop i = x :: t ∧ ¬ x = 255) := by
  match d.drop i with
  | [] => exact .inl rfl
  | x :: t =>
    by_cases h : x = 255
    · subst h
      match t with
      | [] => exact .inr (.inl rfl)
      | y :: t =>
        by_cases h : y = 0
        · subst h; exact .inr (.inr (.inr (.inl ⟨_, rfl⟩)))
        · exact .inr (.inr (.inl ⟨_, _, rfl, h⟩))
    · exact .inr (.inr (.inr (.inr ⟨_, _, rfl, h⟩)))
theorem bit_p (K : Nat) {d : List Int} {a p l : Int} {i : Nat} {r : List Int} (hd : Bytes d) (h : RI d a p l i r) :
    ∃ p' l', bits_Reader_Bit K a p l d = some ((nxt d i r).1, (nxt d i r).2.1, (((nxt d i r).2.2.1 : Nat) : Int), p', l') ∧
      RI d (((nxt d i r).2.2.1 : Nat) : Int) p' l' (nxt d i r).2.2.1 (nxt d i r).2.2.2 := by
  obtain ⟨rfl, hi, h0, h1, n, hn, rfl, rfl⟩ := h
  have hlen := hd.2
  unfold bits_Reader_Bit
  match n with
  | n + 1 =>
    rw [if_neg (by omega), bit_last K h0 h1 (by omega)]
    rw [dig_cons]
    exact ⟨_, _, rfl, rfl, hi, h0, h1, n, by omega, rfl, rfl⟩
  | 0 =>
    rw [if_pos (by rfl)]
    unfold bits_Reader_next
    rw [show dig p 0 = [] from rfl]
    rcases drop_cases d i with e | e | ⟨y, t, e, hy⟩ | ⟨t, e⟩ | ⟨x, t, e, h255⟩
    · rw [if_pos (by have := drop_nil e; omega), some_bind, nxt_end e]
      exact ⟨_, _, rfl, rfl, hi, h0, h1, 0, by omega, rfl, rfl⟩
    · obtain ⟨e1, e2, e3⟩ := getD_drop e
      rw [List.length_nil] at e3
      rw [if_neg (by omega), if_pos (by omega)]
      simp only [Int.toNat_natCast]
      rw [if_pos e1, w64_id (x := (i : Int) + 1) (by omega) (by omega), if_pos (by omega), some_bind, nxt_cut e]
      exact ⟨_, _, rfl, rfl, hi, h0, h1, 0, by omega, rfl, rfl⟩
    · obtain ⟨e1, e2, e3⟩ := getD_drop e
      obtain ⟨f1, f2, f3⟩ := getD_drop2 e
      rw [if_neg (by omega), if_pos (by omega)]
      simp only [Int.toNat_natCast]
      rw [if_pos e1, w64_id (x := (i : Int) + 1) (by omega) (by omega), if_neg (by omega), if_pos (by omega), show ((i : Int) + 1).toNat = i + 1 by omega, if_pos (by rw [f1]; exact hy), some_bind, nxt_mark e hy]
      exact ⟨_, _, rfl, rfl, hi, h0, h1, 0, by omega, rfl, rfl⟩
    · obtain ⟨e1, e2, e3⟩ := getD_drop e
      obtain ⟨f1, f2, f3⟩ := getD_drop2 e
      rw [if_neg (by omega), if_pos (by omega)]
      simp only [Int.toNat_natCast]
      rw [if_pos e1, w64_id (x := (i : Int) + 1) (by omega) (by omega), if_neg (by omega), if_pos (by omega), show ((i : Int) + 1).toNat = i + 1 by omega, if_neg (by rw [f1]; omega)]
      unfold bits_Reader_next_j1
      rw [if_pos (by omega)]
      simp only [Int.toNat_natCast]
      rw [e1, some_bind, w64_id (by omega) (by omega), w64_id (by omega) (by omega), nxt_stuff e]
      simp only [not_true, if_false]
      rw [show (8 : Int) = ((7 + 1 : Nat) : Int) from rfl, bit_last K (by omega) (by omega) (by omega)]
      exact ⟨_, _, rfl, rfl, by show i + 2 ≤ _; omega, by omega, by omega, 7, by omega, rfl, rfl⟩
    · obtain ⟨e1, e2, e3⟩ := getD_drop e
      have hb := hd.at e
      have hb' : 0 ≤ x ∧ x ≤ 255 := hb
      rw [if_neg (by omega), if_pos (by omega)]
      simp only [Int.toNat_natCast]
      rw [if_neg (by rw [e1]; exact h255)]
      unfold bits_Reader_next_j1
      rw [if_pos (by omega)]
      simp only [Int.toNat_natCast]
      rw [e1, some_bind, w64_id (by omega) (by omega), w64_byt hb, nxt_plain e h255]
      simp only [not_true, if_false]
      rw [show (8 : Int) = ((7 + 1 : Nat) : Int) from rfl, bit_last K hb'.1 (by omega) (by omega)]
      exact ⟨_, _, rfl, rfl, by show i + 1 ≤ _; omega, hb'.1, by omega, 7, by omega, rfl, rfl⟩
theorem rbit_p (K : Nat) (hK : 60 < K) {d : List Int} {i : Nat} {r : List Int} (hd : Bytes d) (hi : i ≤ d.length) (hr : r.length ≤ 8) :
    ref04_Reader_Bit K d (i : Int) r = some ((((nxt d i r).2.2.1 : Nat) : Int), (nxt d i r).1, (nxt d i r).2.1, (nxt d i r).2.2.2) := by
  have hlen := hd.2
  unfold ref04_Reader_Bit
  match r, hr with
  | b :: r, hr =>
    rw [if_pos (by rw [List.length_cons]; omega), if_pos (by rw [List.length_cons]; omega), if_pos (by rw [List.length_cons]; omega)]
    rfl
  | [], _ =>
    rw [if_neg (by simp)]
    have hdd : ∀ x : Int, Byt x → ref04_Digits K (w64 x) 8 = some ((x / 2 ^ 7 % 2) :: dig x 7) := by
      intro x hx
      have hx' : 0 ≤ x ∧ x ≤ 255 := hx
      rw [w64_byt hx, digits_eq K (by omega) (by omega) hK hx'.1 (by omega), show (8 : Int).toNat = 7 + 1 from rfl, dig_cons]
    have hl1 : ∀ x : Int, (1 : Int) ≤ (((x / 2 ^ 7 % 2) :: dig x 7).length : Int) := by intro x; rw [List.length_cons, dig_len]; decide
    have hl0 : ∀ x : Int, (0 : Int) < (((x / 2 ^ 7 % 2) :: dig x 7).length : Int) := by intro x; rw [List.length_cons, dig_len]; decide
    rcases drop_cases d i with e | e | ⟨y, t, e, hy⟩ | ⟨t, e⟩ | ⟨x, t, e, h255⟩
    · rw [if_pos (by have := drop_nil e; omega), nxt_end e]
    · obtain ⟨e1, e2, e3⟩ := getD_drop e
      rw [List.length_nil] at e3
      rw [if_neg (by omega), if_pos (by omega)]
      simp only [Int.toNat_natCast, e1]
      rw [hdd 255 (by simp [Byt]), some_bind, if_neg (by omega), w64_id (x := (i : Int) + 1) (by omega) (by omega), if_pos (by omega), nxt_cut e]
    · obtain ⟨e1, e2, e3⟩ := getD_drop e
      obtain ⟨f1, f2, f3⟩ := getD_drop2 e
      have hy : Byt y := hd.1 y (List.mem_of_mem_drop (i := i) (by rw [e]; simp))
      have hy' : 0 ≤ y ∧ y ≤ 255 := hy
      rw [if_neg (by omega), if_pos (by omega)]
      simp only [Int.toNat_natCast, e1]
      rw [hdd 255 (by simp [Byt]), some_bind, if_neg (by omega), w64_id (x := (i : Int) + 1) (by omega) (by omega), if_neg (by omega), if_pos (by omega), show ((i : Int) + 1).toNat = i + 1 by omega, if_pos (by rw [f1]; omega), nxt_mark e (by omega)]
    · obtain ⟨e1, e2, e3⟩ := getD_drop e
      obtain ⟨f1, f2, f3⟩ := getD_drop2 e
      rw [if_neg (by omega), if_pos (by omega)]
      simp only [Int.toNat_natCast, e1]
      rw [hdd 255 (by simp [Byt]), some_bind, if_neg (by omega), w64_id (x := (i : Int) + 1) (by omega) (by omega), if_neg (by omega), if_pos (by omega), show ((i : Int) + 1).toNat = i + 1 by omega, if_neg (by rw [f1]; omega),
        if_pos (hl1 255), if_pos (hl0 255), w64_id (by omega) (by omega), nxt_stuff e]
      rfl
    · obtain ⟨e1, e2, e3⟩ := getD_drop e
      have hb := hd.at e
      have hb' : 0 ≤ x ∧ x ≤ 255 := hb
      rw [if_neg (by omega), if_pos (by omega)]
      simp only [Int.toNat_natCast, e1]
      rw [hdd x hb, some_bind, if_pos (by omega), if_pos (hl1 x), if_pos (hl0 x), w64_id (by omega) (by omega), nxt_plain e h255]
      rfl
theorem nxt_bit {d : List Int} {i : Nat} {r : List Int} (h : Bits r) : IsBit (nxt d i r).1 := by
  match r, h with
  | b :: r, h => exact h b (by simp)
  | [], _ =>
    rcases drop_cases d i with e | e | ⟨y, t, e, hy⟩ | ⟨t, e⟩ | ⟨x, t, e, h255⟩
    · rw [nxt_end e]; exact .inl rfl
    · rw [nxt_cut e]; exact .inl rfl
    · rw [nxt_mark e hy]; exact .inl rfl
    · rw [nxt_stuff e]; exact dig_bit 7 _
    · rw [nxt_plain e h255]; exact dig_bit 7 _
theorem nxt_rem {d : List Int} {i : Nat} {r : List Int} (h : Bits r) : Bits (nxt d i r).2.2.2 := by
  match r, h with
  | b :: r, h => exact fun x hx => h x (by simp; exact .inr hx)
  | [], _ =>
    rcases drop_cases d i with e | e | ⟨y, t, e, hy⟩ | ⟨t, e⟩ | ⟨x, t, e, h255⟩
    · rw [nxt_end e]; exact Bits.nil
    · rw [nxt_cut e]; exact Bits.nil
    · rw [nxt_mark e hy]; exact Bits.nil
    · rw [nxt_stuff e]; exact dig_bits 7 _
    · rw [nxt_plain e h255]; exact dig_bits 7 _
theorem nxt_len {d : List Int} {i : Nat} {r : List Int} (hi : i ≤ d.length) (hr : r.length ≤ 8) : (nxt d i r).2.2.1 ≤ d.length ∧ (nxt d i r).2.2.2.length ≤ 8 := by
  match r, hr with
  | b :: r, h => exact ⟨hi, by simp at h; show r.length ≤ 8; omega⟩
  | [], _ =>
    rcases drop_cases d i with e | e | ⟨y, t, e, hy⟩ | ⟨t, e⟩ | ⟨x, t, e, h255⟩
    · rw [nxt_end e]; exact ⟨hi, by simp⟩
    · rw [nxt_cut e]; exact ⟨hi, by simp⟩
    · rw [nxt_mark e hy]; exact ⟨hi, by simp⟩
    · obtain ⟨f1, f2, f3⟩ := getD_drop2 e
      rw [nxt_stuff e]; exact ⟨by show i + 2 ≤ _; omega, by show (dig _ _).length ≤ _; rw [dig_len]; omega⟩
    · obtain ⟨e1, e2, e3⟩ := getD_drop e
      rw [nxt_plain e h255]; exact ⟨by show i + 1 ≤ _; omega, by show (dig _ _).length ≤ _; rw [dig_len]; omega⟩
/-! ### reading what was put -/
/-- Ahead stand some bits, and behind them a tail. -/
def Rd (d : List Int) (i : Nat) (r l t : List Int) : Prop := ∃ q, d.drop i = enc q ++ t ∧ q.length % 8 = 0 ∧ Bits q ∧ l = r ++ q
theorem Rd.start {m t : List Int} (h : Bits m) (h8 : m.length % 8 = 0) : Rd (enc m ++ t) 0 [] m t := ⟨m, rfl, h8, h, rfl⟩
theorem Rd.step {d : List Int} {i : Nat} {r l t : List Int} {b : Int} (h : Rd d i r (b :: l) t) : (nxt d i r).1 = b ∧ (nxt d i r).2.1 = 0 ∧ Rd d (nxt d i r).2.2.1 (nxt d i r).2.2.2 l t := by
  obtain ⟨q, h1, h2, h3, h4⟩ := h
  match r, h4 with
  | x :: r, h4 =>
    injection h4 with h5 h6
    exact ⟨h5.symm, rfl, q, h1, h2, h3, h6⟩
  | [], h4 =>
    rw [List.nil_append] at h4
    obtain ⟨c, q', rfl, hc, hq, _⟩ := split8 h2 (by rw [← h4]; simp)
    rw [enc_cons hc] at h1
    have hn := num_bd c h3.left
    rw [hc] at hn
    have hdig := dig_num c h3.left
    rw [hc, dig_cons] at hdig
    rw [← hdig, List.cons_append] at h4
    injection h4 with h5 h6
    have hD : List.drop i d = byteOf (num c) ++ (enc q' ++ t) := by rw [h1, List.append_assoc]
    unfold byteOf at hD
    split at hD
    · rename_i h255
      rw [h255] at h5 h6
      rw [nxt_stuff (d := d) (i := i) (t := enc q' ++ t) hD]
      refine ⟨h5.symm, rfl, q', ?_, hq, h3.right, h6⟩
      show List.drop (i + 2) d = _
      rw [← List.drop_drop, hD]; rfl
    · rename_i h255
      rw [nxt_plain (d := d) (i := i) (t := enc q' ++ t) hD h255]
      refine ⟨h5.symm, rfl, q', ?_, hq, h3.right, h6⟩
      show List.drop (i + 1) d = _
      rw [← List.drop_drop, hD]; rfl
theorem Rd.over {d : List Int} {i : Nat} {r l t : List Int} (h : Rd d i r l t) (hl : l.length < 8) : r = l ∧ d.drop i = t := by
  obtain ⟨q, h1, h2, h3, rfl⟩ := h
  rw [List.length_append] at hl
  obtain rfl : q = [] := List.eq_nil_of_length_eq_zero (by omega)
  exact ⟨by simp, by simpa [enc_nil] using h1⟩
end Go.Proofs.Ytoepbakbpimkiaa
