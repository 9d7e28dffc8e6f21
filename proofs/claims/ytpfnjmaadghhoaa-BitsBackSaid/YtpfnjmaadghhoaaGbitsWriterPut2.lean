import Derived.Test.YtpfnjmaadghhoaaN7
import Derived.Test.YtpfnjmaadghhoaaProg
set_option maxRecDepth 100000
set_option maxHeartbeats 1000000
namespace Go.Proofs.Ytpfnjmaadghhoaa
open Go Go.RowKit K

def bits_Writer_Put_2 (_ : Nat) (a1_value : Int) (a2_count : Int) : Option (Unit) :=
  some ()

theorem c_bits_Writer_Put_2 (K : Nat) (a1_value : Int) (a2_count : Int)  (r : Unit) (w0 : World) (S : Own) (hM0 : Mem w0 S [] w0) (hm : bits_Writer_Put_2 K a1_value a2_count = some r) : Calls Try.prog 13 #[.pointer none, .int .i64 a1_value, .int .i64 a2_count] w0 fun e w' => ∃ _u : Unit, e = .returned (.int .i64 3) ∧ Mem w0 S [] w' := by
  unfold bits_Writer_Put_2 at hm
  refine calls_CW (n := 48) w0 S [] Try.func13 rfl rfl rfl hM0 ?_
  refine CW.seq ?_
  refine CW.region ?_
  refine RW.yi (.int .i64 0) rfl rfl (Yi.pv _ rfl) ?_
  refine RW.nil ?_
  refine EW.next ?_
  refine CW.seq ?_
  refine CW.seq ?_
  refine CW.region ?_
  refine RW.yi (.pointer none) rfl rfl (Yi.pv _ rfl) ?_
  refine RW.yi (.bool true) rfl rfl (Yi.eqNil true rfl rfl Try.underlying24 (.inl ⟨rfl, rfl⟩)) ?_
  refine RW.nil ?_
  refine EW.next ?_
  refine CW.cond_true rfl ?_
  refine CW.seq ?_
  refine CW.region ?_
  refine RW.yi (.int .i64 3) rfl rfl (Yi.pv _ rfl) ?_
  refine RW.nil ?_
  refine EW.next ?_
  refine CW.ret ?_
  refine EW.thr ?_
  obtain rfl := Option.some.inj hm
  exact EW.done (rs := [.tmp 6]) rfl (.tmp (t := 6) (v := .int .i64 3) rfl .nil) (fun _ hM => ⟨(), rfl, (hM.pick [] rfl rfl)⟩)

end Go.Proofs.Ytpfnjmaadghhoaa
