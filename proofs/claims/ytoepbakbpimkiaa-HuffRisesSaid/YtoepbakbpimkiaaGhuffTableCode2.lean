import Derived.Test.YtoepbakbpimkiaaN8
import Derived.Test.YtoepbakbpimkiaaProg
set_option maxRecDepth 100000
set_option maxHeartbeats 1000000
namespace Go.Proofs.Ytoepbakbpimkiaa
open Go Go.RowKit K

def huff_Table_Code_2 (_ : Nat) (a1_value : Int) : Option (Unit) :=
  some ()

theorem c_huff_Table_Code_2 (K : Nat) (a1_value : Int)  (r : Unit) (w0 : World) (S : Own) (hM0 : Mem w0 S [] w0) (hm : huff_Table_Code_2 K a1_value = some r) : Calls Try.prog 13 #[.pointer none, .int .i64 a1_value] w0 fun e w' => ∃ _u : Unit, e = .returned (.tuple #[.int .i64 0, .int .i64 0, .bool false]) ∧ Mem w0 S [] w' := by
  unfold huff_Table_Code_2 at hm
  refine calls_CW (n := 38) w0 S [] Try.func13 rfl rfl rfl hM0 ?_
  refine CW.seq ?_
  refine CW.region ?_
  refine RW.yi (.int .i64 0) rfl rfl (Yi.pv _ rfl) ?_
  refine RW.yi (.int .i64 0) rfl rfl (Yi.pv _ rfl) ?_
  refine RW.yi (.bool false) rfl rfl (Yi.pv _ rfl) ?_
  refine RW.nil ?_
  refine EW.next ?_
  refine CW.seq ?_
  refine CW.seq ?_
  refine CW.region ?_
  refine RW.yi (.pointer none) rfl rfl (Yi.pv _ rfl) ?_
  refine RW.yi (.bool true) rfl rfl (Yi.eqNil true rfl rfl Try.underlying27 (.inl ⟨rfl, rfl⟩)) ?_
  refine RW.yi (.bool true) rfl rfl (Yi.pv _ rfl) ?_
  refine RW.pass rfl rfl ?_
  refine RW.pass rfl rfl ?_
  refine RW.yi (.bool true) rfl rfl (Yi.pv _ rfl) ?_
  refine RW.yi (.bool true) rfl rfl (Yi.pv _ rfl) ?_
  refine RW.pass rfl rfl ?_
  refine RW.pass rfl rfl ?_
  refine RW.yi (.bool true) rfl rfl (Yi.pv _ rfl) ?_
  refine RW.yi (.bool true) rfl rfl (Yi.pv _ rfl) ?_
  refine RW.pass rfl rfl ?_
  refine RW.pass rfl rfl ?_
  refine RW.pass rfl rfl ?_
  refine RW.pass rfl rfl ?_
  refine RW.pass rfl rfl ?_
  refine RW.pass rfl rfl ?_
  refine RW.pass rfl rfl ?_
  refine RW.pass rfl rfl ?_
  refine RW.yi (.bool true) rfl rfl (Yi.pv _ rfl) ?_
  refine RW.nil ?_
  refine EW.next ?_
  refine CW.cond_true rfl ?_
  refine CW.seq ?_
  refine CW.region ?_
  refine RW.yi (.int .i64 0) rfl rfl (Yi.pv _ rfl) ?_
  refine RW.yi (.int .i64 0) rfl rfl (Yi.pv _ rfl) ?_
  refine RW.yi (.bool false) rfl rfl (Yi.pv _ rfl) ?_
  refine RW.nil ?_
  refine EW.next ?_
  refine CW.ret ?_
  refine EW.thr ?_
  obtain rfl := Option.some.inj hm
  exact EW.done (rs := [.tmp 4, .tmp 5, .tmp 6]) rfl (.tmp (t := 4) (v := .int .i64 0) rfl (.tmp (t := 5) (v := .int .i64 0) rfl (.tmp (t := 6) (v := .bool false) rfl .nil))) (fun _ hM => ⟨(), rfl, (hM.pick [] rfl rfl)⟩)

end Go.Proofs.Ytoepbakbpimkiaa
