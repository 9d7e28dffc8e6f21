import Derived.Test.YtoepbakbpimkiaaN8
import Derived.Test.YtoepbakbpimkiaaProg
set_option maxRecDepth 100000
set_option maxHeartbeats 1000000
namespace Go.Proofs.Ytoepbakbpimkiaa
open Go Go.RowKit K

def bits_Writer_Count (_ : Nat) (a0_w_0 : (List Int)) (a0_w_1 : Int) (a0_w_2 : Int) (a0_w_3 : Int) : Option (Unit) :=
  some ()

theorem c_bits_Writer_Count (K : Nat) (a0_w_0 : (List Int)) (a0_w_1 : Int) (a0_w_2 : Int) (a0_w_3 : Int) (ba0_w : Nat) (sa0_w_0 : Value) (r : Unit) (w0 : World) (S : Own) (hM0 : Mem w0 S [.blk ba0_w 81 (#[sa0_w_0, .int .i64 a0_w_1, .int .i64 a0_w_2, .int .i64 a0_w_3]), .row sa0_w_0 5 1 a0_w_0.length (ec eb a0_w_0)] w0) (hm : bits_Writer_Count K a0_w_0 a0_w_1 a0_w_2 a0_w_3 = some r) : Calls Try.prog 24 #[.pointer (some ⟨ba0_w, 0, none⟩)] w0 fun e w' => ∃ _u : Unit, e = .returned (.int .i64 a0_w_3) ∧ Mem w0 S [.blk ba0_w 81 (#[sa0_w_0, .int .i64 a0_w_1, .int .i64 a0_w_2, .int .i64 a0_w_3]), .row sa0_w_0 5 1 a0_w_0.length (ec eb a0_w_0)] w' := by
  unfold bits_Writer_Count at hm
  refine calls_CW (n := 9) w0 S [.blk ba0_w 81 (#[sa0_w_0, .int .i64 a0_w_1, .int .i64 a0_w_2, .int .i64 a0_w_3]), .row sa0_w_0 5 1 a0_w_0.length (ec eb a0_w_0)] Try.func24 rfl rfl rfl hM0 ?_
  refine CW.seq ?_
  refine CW.region ?_
  refine RW.yi (.int .i64 0) rfl rfl (Yi.pv _ rfl) ?_
  refine RW.nil ?_
  refine EW.next ?_
  refine CW.seq ?_
  refine CW.seq ?_
  refine CW.region ?_
  refine RW.yi (.pointer (some ⟨ba0_w, 0, none⟩)) rfl rfl (Yi.pv _ rfl) ?_
  refine RW.yi (.bool false) rfl rfl (Yi.eqNil false rfl rfl Try.underlying55 (.inr ⟨rfl, rfl⟩)) ?_
  refine RW.nil ?_
  refine EW.next ?_
  refine CW.cond_false rfl ?_
  refine CW.skip ?_
  refine EW.next ?_
  refine CW.seq ?_
  refine CW.region ?_
  refine RW.yi (.pointer (some ⟨ba0_w, 0, none⟩)) rfl rfl (Yi.pv _ rfl) ?_
  refine RW.yi (.pointer (some ⟨ba0_w, 0, none⟩)) rfl rfl (Yi.nilCheck rfl (fun h => by cases h) (fun h => by cases h) (fun h => by cases h) (fun _ _ _ h => by cases h)) ?_
  refine RW.yi (.pointer (some ⟨ba0_w, 3, none⟩)) rfl rfl (Yi.fieldAddr (j := 1) Try.underlying81 rfl Try.sizeOf3 rfl) ?_
  refine RW.yi (.int .i64 a0_w_3) rfl rfl (Yi.load1 (i := 0) _ rfl rfl Try.isAgg3 rfl) ?_
  refine RW.yi (.int .i64 a0_w_3) rfl rfl (Yi.pv _ rfl) ?_
  refine RW.nil ?_
  refine EW.next ?_
  refine CW.ret ?_
  obtain rfl := Option.some.inj hm
  exact EW.done (rs := [.tmp 2]) rfl (.tmp (t := 2) (v := .int .i64 a0_w_3) rfl .nil) (fun _ hM => ⟨(), rfl, (hM.pick [0, 1] rfl rfl)⟩)

end Go.Proofs.Ytoepbakbpimkiaa
