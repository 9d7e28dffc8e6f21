import Derived.Test.YtpfnjmaadghhoaaN7
import Derived.Test.YtpfnjmaadghhoaaProg
set_option maxRecDepth 100000
set_option maxHeartbeats 1000000
namespace Go.Proofs.Ytpfnjmaadghhoaa
open Go Go.RowKit K

def bits_Reader_Bit_2 (_ : Nat)  : Option (Unit) :=
  some ()

theorem c_bits_Reader_Bit_2 (K : Nat)   (r : Unit) (w0 : World) (S : Own) (hM0 : Mem w0 S [] w0) (hm : bits_Reader_Bit_2 K  = some r) : Calls Try.prog 18 #[.pointer none] w0 fun e w' => ∃ _u : Unit, e = .returned (.tuple #[.int .i64 0, .int .i64 3]) ∧ Mem w0 S [] w' := by
  unfold bits_Reader_Bit_2 at hm
  refine calls_CW (n := 39) w0 S [] Try.func18 rfl rfl rfl hM0 ?_
  refine CW.seq ?_
  refine CW.region ?_
  refine RW.yi (.int .i64 0) rfl rfl (Yi.pv _ rfl) ?_
  refine RW.yi (.int .i64 0) rfl rfl (Yi.pv _ rfl) ?_
  refine RW.nil ?_
  refine EW.next ?_
  refine CW.seq ?_
  refine CW.seq ?_
  refine CW.region ?_
  refine RW.yi (.pointer none) rfl rfl (Yi.pv _ rfl) ?_
  refine RW.yi (.bool true) rfl rfl (Yi.eqNil true rfl rfl Try.underlying38 (.inl ⟨rfl, rfl⟩)) ?_
  refine RW.nil ?_
  refine EW.next ?_
  refine CW.cond_true rfl ?_
  refine CW.seq ?_
  refine CW.region ?_
  refine RW.yi (.int .i64 0) rfl rfl (Yi.pv _ rfl) ?_
  refine RW.yi (.int .i64 3) rfl rfl (Yi.pv _ rfl) ?_
  refine RW.nil ?_
  refine EW.next ?_
  refine CW.ret ?_
  refine EW.thr ?_
  obtain rfl := Option.some.inj hm
  exact EW.done (rs := [.tmp 2, .tmp 3]) rfl (.tmp (t := 2) (v := .int .i64 0) rfl (.tmp (t := 3) (v := .int .i64 3) rfl .nil)) (fun _ hM => ⟨(), rfl, (hM.pick [] rfl rfl)⟩)

end Go.Proofs.Ytpfnjmaadghhoaa
