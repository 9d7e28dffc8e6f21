import Derived.Test.YtoepbakbpimkiaaN8
import Derived.Test.YtoepbakbpimkiaaProg
set_option maxRecDepth 100000
set_option maxHeartbeats 1000000
namespace Go.Proofs.Ytoepbakbpimkiaa
open Go Go.RowKit K

def bits_NewReader (_ : Nat) (a0_b : (List Int)) : Option (Unit) :=
  (if ([] : List Int).length + a0_b.length ≤ 140737488355328 then some () else none)

theorem c_bits_NewReader (K : Nat) (a0_b : (List Int)) (sa0_b : Value) (r : Unit) (w0 : World) (S : Own) (hM0 : Mem w0 S [ro sa0_b 1 a0_b.length (ec eb a0_b)] w0) (hm : bits_NewReader K a0_b = some r) : Calls Try.prog 18 #[sa0_b] w0 fun e w' => ∃ u : Nat × Value, e = .returned (.pointer (some ⟨u.1, 0, none⟩)) ∧ Mem w0 S [.blk u.1 74 (#[.int .i64 0, .int .i64 0, .int .i64 0, u.2]), .row u.2 5 1 (([] : List Int) ++ a0_b).length (ec eb (([] : List Int) ++ a0_b))] w' := by
  unfold bits_NewReader at hm
  refine calls_CW (n := 8) w0 S [ro sa0_b 1 a0_b.length (ec eb a0_b)] Try.func18 rfl rfl rfl hM0 ?_
  refine CW.seq ?_
  refine CW.region ?_
  refine RW.yi (.pointer none) rfl rfl (Yi.pv _ rfl) ?_
  refine RW.nil ?_
  refine EW.next ?_
  refine CW.seq ?_
  refine CW.region ?_
  refine RW.buildS (e := 5) (sz := 1) (vs := []) ((ec eb ([] : List Int)).toArray) rfl rfl rfl rfl rfl (by decide) (fun _ => by kernel_rfl) (fun s4 => ?_)
  refine RW.yi (sa0_b) rfl rfl (Yi.pv _ rfl) ?_
  obtain ⟨g6, hm⟩ := of_guard hm
  refine RW.app (i := 0) (e := 5) (sz := 1) (by_ := 1) (z := .int .u8 0) (m := ([] : List Int).length) (mx := a0_b.length) (m' := (([] : List Int) ++ a0_b).length) (cs := ec eb ([] : List Int)) (news := ec eb a0_b) (cs' := ec eb (([] : List Int) ++ a0_b)) rfl rfl Try.underlying44 (by kernel_rfl) rfl (by decide) (by decide) rfl rfl rfl (rdF 1 rfl) (ec_one eb_is _) (by omega) (ec_append _ _ _) (by simp only [List.length_append]) (fun s7 => ?_)
  refine RW.yi (.agg #[.int .i64 0, .int .i64 0, .int .i64 0, s7]) rfl rfl (Yi.buildM (vs := [s7]) _ rfl rfl (fun w hM => by have e0 := rd_slice ((rdW 0 rfl) w hM); revert e0; generalize s7 = x0; rintro ⟨_, _, _, rfl⟩; show _ = _; kernel_rfl)) ?_
  refine RW.box (v := .agg #[.int .i64 0, .int .i64 0, .int .i64 0, s7]) rfl rfl rfl (fun b8 => ?_)
  refine RW.yi (.pointer (some ⟨b8, 0, none⟩)) rfl rfl (Yi.pv _ rfl) ?_
  refine RW.nil ?_
  refine EW.next ?_
  refine CW.ret ?_
  obtain rfl := Option.some.inj hm
  exact EW.done (rs := [.tmp 2]) rfl (.tmp (t := 2) (v := .pointer (some ⟨b8, 0, none⟩)) rfl .nil) (fun _ hM => ⟨(b8, s7), rfl, (hM.pick [0, 1] rfl rfl)⟩)

end Go.Proofs.Ytoepbakbpimkiaa
