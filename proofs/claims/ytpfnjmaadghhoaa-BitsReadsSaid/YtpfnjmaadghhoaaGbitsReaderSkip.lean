import Derived.Test.YtpfnjmaadghhoaaN7
import Derived.Test.YtpfnjmaadghhoaaProg
set_option maxRecDepth 100000
set_option maxHeartbeats 1000000
namespace Go.Proofs.Ytpfnjmaadghhoaa
open Go Go.RowKit K

def bits_Reader_Skip (_ : Nat) (a0_r_0 : Int) (a0_r_1 : Int) (a0_r_2 : Int) (a0_r_3 : (List Int)) : Option (Unit) :=
  some ()

theorem c_bits_Reader_Skip (K : Nat) (a0_r_0 : Int) (a0_r_1 : Int) (a0_r_2 : Int) (a0_r_3 : (List Int)) (ba0_r : Nat) (sa0_r_3 : Value) (r : Unit) (w0 : World) (S : Own) (hM0 : Mem w0 S [.blk ba0_r 67 (#[.int .i64 a0_r_0, .int .i64 a0_r_1, .int .i64 a0_r_2, sa0_r_3]), .row sa0_r_3 5 1 a0_r_3.length (ec eb a0_r_3)] w0) (hm : bits_Reader_Skip K a0_r_0 a0_r_1 a0_r_2 a0_r_3 = some r) : Calls Try.prog 22 #[.pointer (some ⟨ba0_r, 0, none⟩)] w0 fun e w' => ∃ _u : Unit, e = .returned (.int .i64 a0_r_2) ∧ Mem w0 S [.blk ba0_r 67 (#[.int .i64 a0_r_0, .int .i64 a0_r_1, .int .i64 0, sa0_r_3]), .row sa0_r_3 5 1 a0_r_3.length (ec eb a0_r_3)] w' := by
  unfold bits_Reader_Skip at hm
  refine calls_CW (n := 16) w0 S [.blk ba0_r 67 (#[.int .i64 a0_r_0, .int .i64 a0_r_1, .int .i64 a0_r_2, sa0_r_3]), .row sa0_r_3 5 1 a0_r_3.length (ec eb a0_r_3)] Try.func22 rfl rfl rfl hM0 ?_
  refine CW.seq ?_
  refine CW.region ?_
  refine RW.yi (.int .i64 0) rfl rfl (Yi.pv _ rfl) ?_
  refine RW.nil ?_
  refine EW.next ?_
  refine CW.seq ?_
  refine CW.seq ?_
  refine CW.region ?_
  refine RW.yi (.pointer (some ⟨ba0_r, 0, none⟩)) rfl rfl (Yi.pv _ rfl) ?_
  refine RW.yi (.bool false) rfl rfl (Yi.eqNil false rfl rfl Try.underlying38 (.inr ⟨rfl, rfl⟩)) ?_
  refine RW.nil ?_
  refine EW.next ?_
  refine CW.cond_false rfl ?_
  refine CW.skip ?_
  refine EW.next ?_
  refine CW.seq ?_
  refine CW.region ?_
  refine RW.yi (.pointer (some ⟨ba0_r, 0, none⟩)) rfl rfl (Yi.pv _ rfl) ?_
  refine RW.yi (.pointer (some ⟨ba0_r, 0, none⟩)) rfl rfl (Yi.nilCheck rfl (fun h => by cases h) (fun h => by cases h) (fun h => by cases h) (fun _ _ _ h => by cases h)) ?_
  refine RW.yi (.pointer (some ⟨ba0_r, 0, none⟩)) rfl rfl (Yi.fieldAddr (j := 0) Try.underlying67 rfl Try.sizeOf65 rfl) ?_
  refine RW.yi (.pointer (some ⟨ba0_r, 2, none⟩)) rfl rfl (Yi.fieldAddr (j := 2) Try.underlying65 rfl Try.sizeOf3 rfl) ?_
  refine RW.yi (.int .i64 a0_r_2) rfl rfl (Yi.load1 (i := 0) _ rfl rfl Try.isAgg3 rfl) ?_
  refine RW.yi (.int .i64 a0_r_2) rfl rfl (Yi.pv _ rfl) ?_
  refine RW.nil ?_
  refine EW.next ?_
  refine CW.seq ?_
  refine CW.region ?_
  refine RW.yi (.pointer (some ⟨ba0_r, 0, none⟩)) rfl rfl (Yi.pv _ rfl) ?_
  refine RW.yi (.pointer (some ⟨ba0_r, 0, none⟩)) rfl rfl (Yi.nilCheck rfl (fun h => by cases h) (fun h => by cases h) (fun h => by cases h) (fun _ _ _ h => by cases h)) ?_
  refine RW.yi (.pointer (some ⟨ba0_r, 0, none⟩)) rfl rfl (Yi.fieldAddr (j := 0) Try.underlying67 rfl Try.sizeOf65 rfl) ?_
  refine RW.yi (.pointer (some ⟨ba0_r, 2, none⟩)) rfl rfl (Yi.fieldAddr (j := 2) Try.underlying65 rfl Try.sizeOf3 rfl) ?_
  refine RW.store1 (i := 0) (cs' := #[.int .i64 a0_r_0, .int .i64 a0_r_1, .int .i64 0, sa0_r_3]) rfl rfl rfl rfl Try.sizeOf3 rfl rfl (Nat.le_of_ble_eq_true rfl) rfl ?_
  refine RW.nil ?_
  refine EW.next ?_
  refine CW.seq ?_
  refine CW.region ?_
  refine RW.yi (.int .i64 a0_r_2) rfl rfl (Yi.pv _ rfl) ?_
  refine RW.yi (.int .i64 a0_r_2) rfl rfl (Yi.pv _ rfl) ?_
  refine RW.nil ?_
  refine EW.next ?_
  refine CW.ret ?_
  obtain rfl := Option.some.inj hm
  exact EW.done (rs := [.tmp 2]) rfl (.tmp (t := 2) (v := .int .i64 a0_r_2) rfl .nil) (fun _ hM => ⟨(), rfl, (hM.pick [0, 1] rfl rfl)⟩)

end Go.Proofs.Ytpfnjmaadghhoaa
