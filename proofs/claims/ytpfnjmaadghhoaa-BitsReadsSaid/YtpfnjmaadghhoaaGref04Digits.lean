import Derived.Test.YtpfnjmaadghhoaaN8
import Derived.Test.YtpfnjmaadghhoaaProg
set_option maxRecDepth 100000
set_option maxHeartbeats 1000000
namespace Go.Proofs.Ytpfnjmaadghhoaa
open Go Go.RowKit K

def ref04_Digits_j1 (_ : Nat) (v5 : (List Int)) : Option ((List Int)) :=
  some v5

def ref04_Digits_l1 (K : Nat) (a1_count : Int) : Nat → Int → (List Int) → Int →  Option ((List Int))
  | 0, _, _, _ => none
  | k1 + 1, v11, v13, v15 =>
    (if v15 < a1_count then (if ([(Int.tmod v11 2)] : List Int).length + v13.length ≤ 17592186044416 then (ref04_Digits_l1 K a1_count k1) (w64 (Int.tdiv v11 2)) (([(Int.tmod v11 2)] : List Int) ++ v13) (w64 (v15 + 1)) else none) else ref04_Digits_j1 K v13)

def ref04_Digits (K : Nat) (a0_value : Int) (a1_count : Int) : Option ((List Int)) :=
  ref04_Digits_l1 K a1_count K a0_value ([] : List Int) 0

theorem c_ref04_Digits (K : Nat) (a0_value : Int) (a1_count : Int)  (r : (List Int)) (w0 : World) (S : Own) (hM0 : Mem w0 S [] w0) (hm : ref04_Digits K a0_value a1_count = some r) : Calls Try.prog 28 #[.int .i64 a0_value, .int .i64 a1_count] w0 fun e w' => ∃ u : Value, e = .returned (u) ∧ Mem w0 S [.row u 3 1 r.length (ec e1 r)] w' := by
  unfold ref04_Digits at hm
  refine calls_CW (n := 20) w0 S [] Try.func28 rfl rfl rfl hM0 ?_
  refine CW.seq ?_
  refine CW.region ?_
  refine RW.yi (.slice none 0 0) rfl rfl (Yi.pv _ rfl) ?_
  refine RW.nil ?_
  refine EW.next ?_
  refine CW.seq ?_
  refine CW.region ?_
  refine RW.yi (.slice none 0 0) rfl rfl (Yi.pv _ rfl) ?_
  refine RW.nil ?_
  refine EW.next ?_
  refine CW.join (fun a w => ∃ (v5 : (List Int)) (s6 : Value), St 20 [(5, s6)] a ∧ Mem w0 S [.row s6 3 1 v5.length (ec e1 v5)] w ∧ ref04_Digits_j1 K v5 = some r) ?_ ?_
  · refine CW.seq ?_
    refine CW.region ?_
    refine RW.yi (.int .i64 0) rfl rfl (Yi.pv _ rfl) ?_
    refine RW.nil ?_
    refine EW.next ?_
    refine CW.block ?_
    refine CW.loop (fun k a w => ∃ (v11 : Int) (v13 : (List Int)) (v15 : Int) (s14 : Value), St 20 [(0, .int .i64 v11), (1, .int .i64 a1_count), (5, s14), (6, .int .i64 v15)] a ∧ Mem w0 S [.row s14 3 1 v13.length (ec e1 v13)] w ∧ ref04_Digits_l1 K a1_count k v11 v13 v15 = some r) K ?_ ?_ ?_
    · rintro a w ⟨_, _, _, _, _, _, hm⟩
      rw [ref04_Digits_l1.eq_1] at hm
      cases hm
    · exact fun a w hs hM => ⟨a0_value, ([] : List Int), 0, (.slice none 0 0), hs.sub ⟨rfl, rfl, rfl, rfl, trivial⟩, ((hM.nilRow 3 1).pick [0] rfl rfl), hm⟩
    · rintro k1 a w ⟨v11, v13, v15, s14, hs, hM, hm⟩
      rw [ref04_Digits_l1.eq_2] at hm
      refine CW.enter hs hM ?_
      refine CW.seq ?_
      refine CW.seq ?_
      refine CW.region ?_
      refine RW.yi (.int .i64 v15) rfl rfl (Yi.pv _ rfl) ?_
      refine RW.yi (.int .i64 a1_count) rfl rfl (Yi.pv _ rfl) ?_
      refine RW.yi (.bool (decide (v15 < a1_count))) rfl rfl (Yi.pv _ rfl) ?_
      refine RW.nil ?_
      refine EW.next ?_
      refine CW.fork 9 (v15 < a1_count) rfl (fun h21 => ?_) (fun h21 => ?_)
      · replace hm := (if_pos h21).symm.trans hm
        refine CW.cond_true rfl ?_
        refine CW.skip ?_
        refine EW.next ?_
        refine CW.seq ?_
        refine CW.block ?_
        refine CW.seq ?_
        refine CW.region ?_
        refine RW.yi (.int .i64 v11) rfl rfl (Yi.pv _ rfl) ?_
        refine RW.yi (.int .i64 (Int.tmod v11 2)) rfl rfl (Yi.rem rfl rfl (by decide)) ?_
        refine RW.buildS (e := 3) (sz := 1) (vs := [.int .i64 (Int.tmod v11 2)]) ((ec e1 ([(Int.tmod v11 2)] : List Int)).toArray) rfl rfl rfl rfl rfl (by decide) (fun _ => by kernel_rfl) (fun s22 => ?_)
        refine RW.yi (s14) rfl rfl (Yi.pv _ rfl) ?_
        obtain ⟨g24, hm⟩ := of_guard hm
        refine RW.app (i := 0) (e := 3) (sz := 1) (by_ := 8) (z := .int .i64 0) (m := ([(Int.tmod v11 2)] : List Int).length) (mx := v13.length) (m' := (([(Int.tmod v11 2)] : List Int) ++ v13).length) (cs := ec e1 ([(Int.tmod v11 2)] : List Int)) (news := ec e1 v13) (cs' := ec e1 (([(Int.tmod v11 2)] : List Int) ++ v13)) rfl rfl Try.underlying26 (by kernel_rfl) rfl (by decide) (by decide) rfl rfl rfl (rdW 1 rfl) (ec_one e1_is _) (by omega) (ec_append _ _ _) (by simp only [List.length_append]) (fun s25 => ?_)
        refine RW.yi (s25) rfl rfl (Yi.pv _ rfl) ?_
        refine RW.nil ?_
        refine EW.next ?_
        refine CW.region ?_
        refine RW.yi (.int .i64 v11) rfl rfl (Yi.pv _ rfl) ?_
        refine RW.yi (.int .i64 (w64 (Int.tdiv v11 2))) rfl rfl (Yi.quo rfl rfl (by decide)) ?_
        refine RW.yi (.int .i64 (w64 (Int.tdiv v11 2))) rfl rfl (Yi.pv _ rfl) ?_
        refine RW.nil ?_
        refine EW.bln ?_
        refine EW.next ?_
        refine CW.region ?_
        refine RW.yi (.int .i64 v15) rfl rfl (Yi.pv _ rfl) ?_
        refine RW.yi (.int .i64 (w64 (v15 + 1))) rfl rfl (Yi.pv _ rfl) ?_
        refine RW.yi (.int .i64 (w64 (v15 + 1))) rfl rfl (Yi.pv _ rfl) ?_
        refine RW.nil ?_
        refine EW.thn ?_
        exact fun a w hs hM => ⟨(w64 (Int.tdiv v11 2)), (([(Int.tmod v11 2)] : List Int) ++ v13), (w64 (v15 + 1)), s25, hs.sub ⟨rfl, rfl, rfl, rfl, trivial⟩, (hM.pick [0] rfl rfl), hm⟩
      · replace hm := (if_neg h21).symm.trans hm
        refine CW.cond_false rfl ?_
        refine CW.exit ?_
        refine EW.thx ?_
        refine EW.thx ?_
        refine EW.blx ?_
        refine EW.thn ?_
        exact fun a w hs hM => ⟨v13, s14, hs.sub ⟨rfl, trivial⟩, (hM.pick [0] rfl rfl), hm⟩
  · rintro a w ⟨v5, s6, hs, hM, hm⟩
    unfold ref04_Digits_j1 at hm
    refine CW.enter hs hM ?_
    refine CW.seq ?_
    refine CW.region ?_
    refine RW.yi (s6) rfl rfl (Yi.pv _ rfl) ?_
    refine RW.yi (s6) rfl rfl (Yi.pv _ rfl) ?_
    refine RW.nil ?_
    refine EW.next ?_
    refine CW.ret ?_
    obtain rfl := Option.some.inj hm
    exact EW.done (rs := [.tmp 4]) rfl (.tmp (t := 4) (v := s6) rfl .nil) (fun _ hM => ⟨(s6), rfl, (hM.pick [0] rfl rfl)⟩)

end Go.Proofs.Ytpfnjmaadghhoaa
