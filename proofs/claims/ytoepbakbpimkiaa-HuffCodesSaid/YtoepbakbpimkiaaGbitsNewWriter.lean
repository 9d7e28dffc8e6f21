import Derived.Test.YtoepbakbpimkiaaN8
import Derived.Test.YtoepbakbpimkiaaProg
set_option maxRecDepth 100000
set_option maxHeartbeats 1000000
namespace Go.Proofs.Ytoepbakbpimkiaa
open Go Go.RowKit K

def bits_NewWriter (_ : Nat)  : Option (Unit) :=
  some ()

theorem c_bits_NewWriter (K : Nat)   (r : Unit) (w0 : World) (S : Own) (hM0 : Mem w0 S [] w0) (hm : bits_NewWriter K  = some r) : Calls Try.prog 22 #[] w0 fun e w' => ∃ u : Nat, e = .returned (.pointer (some ⟨u, 0, none⟩)) ∧ Mem w0 S [.blk u 81 (#[.slice none 0 0, .int .i64 0, .int .i64 0, .int .i64 0])] w' := by
  unfold bits_NewWriter at hm
  refine calls_CW (n := 3) w0 S [] Try.func22 rfl rfl rfl hM0 ?_
  refine CW.seq ?_
  refine CW.region ?_
  refine RW.yi (.pointer none) rfl rfl (Yi.pv _ rfl) ?_
  refine RW.nil ?_
  refine EW.next ?_
  refine CW.seq ?_
  refine CW.region ?_
  refine RW.yi (.agg #[.slice none 0 0, .int .i64 0, .int .i64 0, .int .i64 0]) rfl rfl (Yi.build (vs := []) _ rfl rfl (fun _ => by kernel_rfl)) ?_
  refine RW.box (v := .agg #[.slice none 0 0, .int .i64 0, .int .i64 0, .int .i64 0]) rfl rfl rfl (fun b2 => ?_)
  refine RW.yi (.pointer (some ⟨b2, 0, none⟩)) rfl rfl (Yi.pv _ rfl) ?_
  refine RW.nil ?_
  refine EW.next ?_
  refine CW.ret ?_
  obtain rfl := Option.some.inj hm
  exact EW.done (rs := [.tmp 0]) rfl (.tmp (t := 0) (v := .pointer (some ⟨b2, 0, none⟩)) rfl .nil) (fun _ hM => ⟨(b2), rfl, (hM.pick [0] rfl rfl)⟩)

end Go.Proofs.Ytoepbakbpimkiaa
