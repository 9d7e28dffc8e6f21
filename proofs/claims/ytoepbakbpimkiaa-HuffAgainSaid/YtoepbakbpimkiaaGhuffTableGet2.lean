import Derived.Test.YtoepbakbpimkiaaN8
import Derived.Test.YtoepbakbpimkiaaProg
set_option maxRecDepth 100000
set_option maxHeartbeats 1000000
namespace Go.Proofs.Ytoepbakbpimkiaa
open Go Go.RowKit K

def huff_Table_Get_2 (_ : Nat) (a1_r_0 : Int) (a1_r_1 : Int) (a1_r_2 : Int) (a1_r_3 : (List Int)) : Option (Unit) :=
  some ()

theorem c_huff_Table_Get_2 (K : Nat) (a1_r_0 : Int) (a1_r_1 : Int) (a1_r_2 : Int) (a1_r_3 : (List Int)) (ba1_r : Nat) (sa1_r_3 : Value) (r : Unit) (w0 : World) (S : Own) (hM0 : Mem w0 S [.blk ba1_r 74 (#[.int .i64 a1_r_0, .int .i64 a1_r_1, .int .i64 a1_r_2, sa1_r_3]), .row sa1_r_3 5 1 a1_r_3.length (ec eb a1_r_3)] w0) (hm : huff_Table_Get_2 K a1_r_0 a1_r_1 a1_r_2 a1_r_3 = some r) : Calls Try.prog 19 #[.pointer none, .pointer (some ⟨ba1_r, 0, none⟩)] w0 fun e w' => ∃ _u : Unit, e = .returned (.tuple #[.int .i64 0, .int .i64 6]) ∧ Mem w0 S [.blk ba1_r 74 (#[.int .i64 a1_r_0, .int .i64 a1_r_1, .int .i64 a1_r_2, sa1_r_3]), .row sa1_r_3 5 1 a1_r_3.length (ec eb a1_r_3)] w' := by
  unfold huff_Table_Get_2 at hm
  refine calls_CW (n := 45) w0 S [.blk ba1_r 74 (#[.int .i64 a1_r_0, .int .i64 a1_r_1, .int .i64 a1_r_2, sa1_r_3]), .row sa1_r_3 5 1 a1_r_3.length (ec eb a1_r_3)] Try.func19 rfl rfl rfl hM0 ?_
  refine CW.seq ?_
  refine CW.region ?_
  refine RW.yi (.int .i64 0) rfl rfl (Yi.pv _ rfl) ?_
  refine RW.yi (.int .i64 0) rfl rfl (Yi.pv _ rfl) ?_
  refine RW.nil ?_
  refine EW.next ?_
  refine CW.seq ?_
  refine CW.seq ?_
  refine CW.region ?_
  refine RW.yi (.pointer none) rfl rfl (Yi.pv _ rfl) ?_
  refine RW.yi (.bool true) rfl rfl (Yi.eqNil true rfl rfl Try.underlying27 (.inl ⟨rfl, rfl⟩)) ?_
  refine RW.nil ?_
  refine EW.next ?_
  refine CW.cond_true rfl ?_
  refine CW.seq ?_
  refine CW.region ?_
  refine RW.yi (.int .i64 0) rfl rfl (Yi.pv _ rfl) ?_
  refine RW.yi (.int .i64 6) rfl rfl (Yi.pv _ rfl) ?_
  refine RW.nil ?_
  refine EW.next ?_
  refine CW.ret ?_
  refine EW.thr ?_
  obtain rfl := Option.some.inj hm
  exact EW.done (rs := [.tmp 4, .tmp 5]) rfl (.tmp (t := 4) (v := .int .i64 0) rfl (.tmp (t := 5) (v := .int .i64 6) rfl .nil)) (fun _ hM => ⟨(), rfl, (hM.pick [0, 1] rfl rfl)⟩)

end Go.Proofs.Ytoepbakbpimkiaa
