import Derived.Test.YtoepbakbpimkiaaN8
import Derived.Test.YtoepbakbpimkiaaProg
import Derived.Test.YtoepbakbpimkiaaGhuffTableCode2
set_option maxRecDepth 100000
set_option maxHeartbeats 1000000
namespace Go.Proofs.Ytoepbakbpimkiaa
open Go Go.RowKit K

def huff_Table_Put (K : Nat) (a1_w_0 : (List Int)) (a1_w_1 : Int) (a1_w_2 : Int) (a1_w_3 : Int) (a2_value : Int) : Option (Unit) :=
  ((huff_Table_Code_2 K a2_value).bind fun r1 => some ())

theorem c_huff_Table_Put (K : Nat) (a1_w_0 : (List Int)) (a1_w_1 : Int) (a1_w_2 : Int) (a1_w_3 : Int) (a2_value : Int) (ba1_w : Nat) (sa1_w_0 : Value) (r : Unit) (w0 : World) (S : Own) (hM0 : Mem w0 S [.blk ba1_w 81 (#[sa1_w_0, .int .i64 a1_w_1, .int .i64 a1_w_2, .int .i64 a1_w_3]), .row sa1_w_0 5 1 a1_w_0.length (ec eb a1_w_0)] w0) (hm : huff_Table_Put K a1_w_0 a1_w_1 a1_w_2 a1_w_3 a2_value = some r) : Calls Try.prog 23 #[.pointer none, .pointer (some ⟨ba1_w, 0, none⟩), .int .i64 a2_value] w0 fun e w' => ∃ _u : Unit, e = .returned (.int .i64 6) ∧ Mem w0 S [.blk ba1_w 81 (#[sa1_w_0, .int .i64 a1_w_1, .int .i64 a1_w_2, .int .i64 a1_w_3]), .row sa1_w_0 5 1 a1_w_0.length (ec eb a1_w_0)] w' := by
  unfold huff_Table_Put at hm
  refine calls_CW (n := 23) w0 S [.blk ba1_w 81 (#[sa1_w_0, .int .i64 a1_w_1, .int .i64 a1_w_2, .int .i64 a1_w_3]), .row sa1_w_0 5 1 a1_w_0.length (ec eb a1_w_0)] Try.func23 rfl rfl rfl hM0 ?_
  refine CW.seq ?_
  refine CW.region ?_
  refine RW.yi (.int .i64 0) rfl rfl (Yi.pv _ rfl) ?_
  refine RW.nil ?_
  refine EW.next ?_
  refine CW.seq ?_
  refine CW.region ?_
  refine RW.yi (.pointer none) rfl rfl (Yi.pv _ rfl) ?_
  refine RW.yi (.int .i64 a2_value) rfl rfl (Yi.pv _ rfl) ?_
  obtain ⟨r1, hr1, hm⟩ := of_bind hm
  refine RW.ca (.tuple #[.int .i64 0, .int .i64 0, .bool false]) rfl rfl (Ca.call (cs := []) [] rfl rfl Try.call13 (fun w hM => lent0) (fun w S' hM => (c_huff_Table_Code_2 K a2_value r1 w S' hM hr1).mono (fun _ _ h => by obtain ⟨_, h1, h2⟩ := h; exact ⟨h1, h2⟩))) ?_
  refine RW.yi (.tuple #[.int .i64 0, .int .i64 0, .bool false]) rfl rfl (Yi.pv _ rfl) ?_
  refine RW.yi (.int .i64 0) rfl rfl (Yi.pv _ rfl) ?_
  refine RW.yi (.int .i64 0) rfl rfl (Yi.pv _ rfl) ?_
  refine RW.yi (.bool false) rfl rfl (Yi.pv _ rfl) ?_
  refine RW.yi (.int .i64 0) rfl rfl (Yi.pv _ rfl) ?_
  refine RW.yi (.int .i64 0) rfl rfl (Yi.pv _ rfl) ?_
  refine RW.yi (.bool false) rfl rfl (Yi.pv _ rfl) ?_
  refine RW.nil ?_
  refine EW.next ?_
  refine CW.seq ?_
  refine CW.seq ?_
  refine CW.region ?_
  refine RW.yi (.bool false) rfl rfl (Yi.pv _ rfl) ?_
  refine RW.yi (.bool true) rfl rfl (Yi.pv _ rfl) ?_
  refine RW.nil ?_
  refine EW.next ?_
  refine CW.cond_true rfl ?_
  refine CW.seq ?_
  refine CW.region ?_
  refine RW.yi (.int .i64 6) rfl rfl (Yi.pv _ rfl) ?_
  refine RW.nil ?_
  refine EW.next ?_
  refine CW.ret ?_
  refine EW.thr ?_
  obtain rfl := Option.some.inj hm
  exact EW.done (rs := [.tmp 6]) rfl (.tmp (t := 6) (v := .int .i64 6) rfl .nil) (fun _ hM => ⟨(), rfl, (hM.pick [0, 1] rfl rfl)⟩)

end Go.Proofs.Ytoepbakbpimkiaa
