import Derived.Test.YtoepbakbpimkiaaN8
import Derived.Test.YtoepbakbpimkiaaProg
set_option maxRecDepth 100000
set_option maxHeartbeats 1000000
namespace Go.Proofs.Ytoepbakbpimkiaa
open Go Go.RowKit K

def ref04_Power_j1 (_ : Nat) (v2 : Int) : Option (Int) :=
  some v2

def ref04_Power_l1 (K : Nat) (a0_n : Int) : Nat → Int → Int →  Option (Int)
  | 0, _, _ => none
  | k1 + 1, v5, v6 =>
    (if v6 < a0_n then (ref04_Power_l1 K a0_n k1) (w64 (v5 * 2)) (w64 (v6 + 1)) else ref04_Power_j1 K v5)

def ref04_Power (K : Nat) (a0_n : Int) : Option (Int) :=
  ref04_Power_l1 K a0_n K 1 0

theorem c_ref04_Power (K : Nat) (a0_n : Int)  (r : Int) (w0 : World) (S : Own) (hM0 : Mem w0 S [] w0) (hm : ref04_Power K a0_n = some r) : Calls Try.prog 27 #[.int .i64 a0_n] w0 fun e w' => ∃ _u : Unit, e = .returned (.int .i64 r) ∧ Mem w0 S [] w' := by
  unfold ref04_Power at hm
  refine calls_CW (n := 13) w0 S [] Try.func27 rfl rfl rfl hM0 ?_
  refine CW.seq ?_
  refine CW.region ?_
  refine RW.yi (.int .i64 0) rfl rfl (Yi.pv _ rfl) ?_
  refine RW.nil ?_
  refine EW.next ?_
  refine CW.seq ?_
  refine CW.region ?_
  refine RW.yi (.int .i64 1) rfl rfl (Yi.pv _ rfl) ?_
  refine RW.nil ?_
  refine EW.next ?_
  refine CW.join (fun a w => ∃ (v2 : Int), St 13 [(3, .int .i64 v2)] a ∧ Mem w0 S [] w ∧ ref04_Power_j1 K v2 = some r) ?_ ?_
  · refine CW.seq ?_
    refine CW.region ?_
    refine RW.yi (.int .i64 0) rfl rfl (Yi.pv _ rfl) ?_
    refine RW.nil ?_
    refine EW.next ?_
    refine CW.block ?_
    refine CW.loop (fun k a w => ∃ (v5 : Int) (v6 : Int), St 13 [(0, .int .i64 a0_n), (3, .int .i64 v5), (4, .int .i64 v6)] a ∧ Mem w0 S [] w ∧ ref04_Power_l1 K a0_n k v5 v6 = some r) K ?_ ?_ ?_
    · rintro a w ⟨_, _, _, _, hm⟩
      rw [ref04_Power_l1.eq_1] at hm
      cases hm
    · exact fun a w hs hM => ⟨1, 0, hs.sub ⟨rfl, rfl, rfl, trivial⟩, (hM.pick [] rfl rfl), hm⟩
    · rintro k1 a w ⟨v5, v6, hs, hM, hm⟩
      rw [ref04_Power_l1.eq_2] at hm
      refine CW.enter hs hM ?_
      refine CW.seq ?_
      refine CW.seq ?_
      refine CW.region ?_
      refine RW.yi (.int .i64 v6) rfl rfl (Yi.pv _ rfl) ?_
      refine RW.yi (.int .i64 a0_n) rfl rfl (Yi.pv _ rfl) ?_
      refine RW.yi (.bool (decide (v6 < a0_n))) rfl rfl (Yi.pv _ rfl) ?_
      refine RW.nil ?_
      refine EW.next ?_
      refine CW.fork 7 (v6 < a0_n) rfl (fun h9 => ?_) (fun h9 => ?_)
      · replace hm := (if_pos h9).symm.trans hm
        refine CW.cond_true rfl ?_
        refine CW.skip ?_
        refine EW.next ?_
        refine CW.seq ?_
        refine CW.block ?_
        refine CW.region ?_
        refine RW.yi (.int .i64 v5) rfl rfl (Yi.pv _ rfl) ?_
        refine RW.yi (.int .i64 (w64 (v5 * 2))) rfl rfl (Yi.pv _ rfl) ?_
        refine RW.yi (.int .i64 (w64 (v5 * 2))) rfl rfl (Yi.pv _ rfl) ?_
        refine RW.nil ?_
        refine EW.bln ?_
        refine EW.next ?_
        refine CW.region ?_
        refine RW.yi (.int .i64 v6) rfl rfl (Yi.pv _ rfl) ?_
        refine RW.yi (.int .i64 (w64 (v6 + 1))) rfl rfl (Yi.pv _ rfl) ?_
        refine RW.yi (.int .i64 (w64 (v6 + 1))) rfl rfl (Yi.pv _ rfl) ?_
        refine RW.nil ?_
        refine EW.thn ?_
        exact fun a w hs hM => ⟨(w64 (v5 * 2)), (w64 (v6 + 1)), hs.sub ⟨rfl, rfl, rfl, trivial⟩, (hM.pick [] rfl rfl), hm⟩
      · replace hm := (if_neg h9).symm.trans hm
        refine CW.cond_false rfl ?_
        refine CW.exit ?_
        refine EW.thx ?_
        refine EW.thx ?_
        refine EW.blx ?_
        refine EW.thn ?_
        exact fun a w hs hM => ⟨v5, hs.sub ⟨rfl, trivial⟩, (hM.pick [] rfl rfl), hm⟩
  · rintro a w ⟨v2, hs, hM, hm⟩
    unfold ref04_Power_j1 at hm
    refine CW.enter hs hM ?_
    refine CW.seq ?_
    refine CW.region ?_
    refine RW.yi (.int .i64 v2) rfl rfl (Yi.pv _ rfl) ?_
    refine RW.yi (.int .i64 v2) rfl rfl (Yi.pv _ rfl) ?_
    refine RW.nil ?_
    refine EW.next ?_
    refine CW.ret ?_
    obtain rfl := Option.some.inj hm
    exact EW.done (rs := [.tmp 2]) rfl (.tmp (t := 2) (v := .int .i64 v2) rfl .nil) (fun _ hM => ⟨(), rfl, (hM.pick [] rfl rfl)⟩)

end Go.Proofs.Ytoepbakbpimkiaa
