import Derived.Test.YtoepbakbpimkiaaN8
import Derived.Test.YtoepbakbpimkiaaProg
import Derived.Test.YtoepbakbpimkiaaGbitstailflush
set_option maxRecDepth 100000
set_option maxHeartbeats 1000000
namespace Go.Proofs.Ytoepbakbpimkiaa
open Go Go.RowKit K

def bits_tail_push (K : Nat) (a0_t_0 : (List Int)) (a0_t_1 : Int) (a0_t_2 : Int) (a0_t_3 : Int) (a1_bit : Int) : Option (Int × Int × (List Int)) :=
  (if (w64 (a0_t_2 + 1)) = 8 then ((bits_tail_flush K a0_t_0 (bitI .or .i64 (shlI .i64 a0_t_1 1) a1_bit) (w64 (a0_t_2 + 1)) a0_t_3).bind fun r12 => some (0, 0, r12)) else some ((bitI .or .i64 (shlI .i64 a0_t_1 1) a1_bit), (w64 (a0_t_2 + 1)), a0_t_0))

theorem c_bits_tail_push (K : Nat) (a0_t_0 : (List Int)) (a0_t_1 : Int) (a0_t_2 : Int) (a0_t_3 : Int) (a1_bit : Int) (ba0_t : Nat) (sa0_t_0 : Value) (r : Int × Int × (List Int)) (w0 : World) (S : Own) (hM0 : Mem w0 S [.blk ba0_t 81 (#[sa0_t_0, .int .i64 a0_t_1, .int .i64 a0_t_2, .int .i64 a0_t_3]), .row sa0_t_0 5 1 a0_t_0.length (ec eb a0_t_0)] w0) (hm : bits_tail_push K a0_t_0 a0_t_1 a0_t_2 a0_t_3 a1_bit = some r) : Calls Try.prog 31 #[.pointer (some ⟨ba0_t, 0, none⟩), .int .i64 a1_bit] w0 fun e w' => ∃ u : Value, e = .returned (.tuple #[]) ∧ Mem w0 S [.blk ba0_t 81 (#[u, .int .i64 r.1, .int .i64 r.2.1, .int .i64 a0_t_3]), .row u 5 1 r.2.2.length (ec eb r.2.2)] w' := by
  unfold bits_tail_push at hm
  refine calls_CW (n := 28) w0 S [.blk ba0_t 81 (#[sa0_t_0, .int .i64 a0_t_1, .int .i64 a0_t_2, .int .i64 a0_t_3]), .row sa0_t_0 5 1 a0_t_0.length (ec eb a0_t_0)] Try.func31 rfl rfl rfl hM0 ?_
  refine CW.seq ?_
  refine CW.region ?_
  refine RW.yi (.pointer (some ⟨ba0_t, 0, none⟩)) rfl rfl (Yi.pv _ rfl) ?_
  refine RW.yi (.pointer (some ⟨ba0_t, 0, none⟩)) rfl rfl (Yi.pv _ rfl) ?_
  refine RW.yi (.pointer (some ⟨ba0_t, 0, none⟩)) rfl rfl (Yi.nilCheck rfl (fun h => by cases h) (fun h => by cases h) (fun h => by cases h) (fun _ _ _ h => by cases h)) ?_
  refine RW.yi (.pointer (some ⟨ba0_t, 1, none⟩)) rfl rfl (Yi.fieldAddr (j := 1) Try.underlying79 rfl Try.sizeOf3 rfl) ?_
  refine RW.yi (.int .i64 a0_t_1) rfl rfl (Yi.load1 (i := 0) _ rfl rfl Try.isAgg3 rfl) ?_
  refine RW.yi (.int .i64 (shlI .i64 a0_t_1 1)) rfl rfl (Yi.shl rfl rfl (by decide)) ?_
  refine RW.yi (.int .i64 a1_bit) rfl rfl (Yi.pv _ rfl) ?_
  refine RW.yi (.int .i64 (bitI .or .i64 (shlI .i64 a0_t_1 1) a1_bit)) rfl rfl (Yi.bits rfl rfl (by simp)) ?_
  refine RW.yi (.pointer (some ⟨ba0_t, 0, none⟩)) rfl rfl (Yi.nilCheck rfl (fun h => by cases h) (fun h => by cases h) (fun h => by cases h) (fun _ _ _ h => by cases h)) ?_
  refine RW.yi (.pointer (some ⟨ba0_t, 1, none⟩)) rfl rfl (Yi.fieldAddr (j := 1) Try.underlying79 rfl Try.sizeOf3 rfl) ?_
  refine RW.store1 (i := 0) (cs' := #[sa0_t_0, .int .i64 (bitI .or .i64 (shlI .i64 a0_t_1 1) a1_bit), .int .i64 a0_t_2, .int .i64 a0_t_3]) rfl rfl rfl rfl Try.sizeOf3 rfl rfl (Nat.le_of_ble_eq_true rfl) rfl ?_
  refine RW.nil ?_
  refine EW.next ?_
  refine CW.seq ?_
  refine CW.region ?_
  refine RW.yi (.pointer (some ⟨ba0_t, 0, none⟩)) rfl rfl (Yi.pv _ rfl) ?_
  refine RW.yi (.pointer (some ⟨ba0_t, 0, none⟩)) rfl rfl (Yi.nilCheck rfl (fun h => by cases h) (fun h => by cases h) (fun h => by cases h) (fun _ _ _ h => by cases h)) ?_
  refine RW.yi (.pointer (some ⟨ba0_t, 2, none⟩)) rfl rfl (Yi.fieldAddr (j := 2) Try.underlying79 rfl Try.sizeOf3 rfl) ?_
  refine RW.yi (.int .i64 a0_t_2) rfl rfl (Yi.load1 (i := 0) _ rfl rfl Try.isAgg3 rfl) ?_
  refine RW.yi (.int .i64 (w64 (a0_t_2 + 1))) rfl rfl (Yi.pv _ rfl) ?_
  refine RW.yi (.pointer (some ⟨ba0_t, 0, none⟩)) rfl rfl (Yi.nilCheck rfl (fun h => by cases h) (fun h => by cases h) (fun h => by cases h) (fun _ _ _ h => by cases h)) ?_
  refine RW.yi (.pointer (some ⟨ba0_t, 2, none⟩)) rfl rfl (Yi.fieldAddr (j := 2) Try.underlying79 rfl Try.sizeOf3 rfl) ?_
  refine RW.store1 (i := 0) (cs' := #[sa0_t_0, .int .i64 (bitI .or .i64 (shlI .i64 a0_t_1 1) a1_bit), .int .i64 (w64 (a0_t_2 + 1)), .int .i64 a0_t_3]) rfl rfl rfl rfl Try.sizeOf3 rfl rfl (Nat.le_of_ble_eq_true rfl) rfl ?_
  refine RW.nil ?_
  refine EW.next ?_
  refine CW.seq ?_
  refine CW.region ?_
  refine RW.yi (.pointer (some ⟨ba0_t, 0, none⟩)) rfl rfl (Yi.pv _ rfl) ?_
  refine RW.yi (.pointer (some ⟨ba0_t, 0, none⟩)) rfl rfl (Yi.nilCheck rfl (fun h => by cases h) (fun h => by cases h) (fun h => by cases h) (fun _ _ _ h => by cases h)) ?_
  refine RW.yi (.pointer (some ⟨ba0_t, 2, none⟩)) rfl rfl (Yi.fieldAddr (j := 2) Try.underlying79 rfl Try.sizeOf3 rfl) ?_
  refine RW.yi (.int .i64 (w64 (a0_t_2 + 1))) rfl rfl (Yi.load1 (i := 0) _ rfl rfl Try.isAgg3 rfl) ?_
  refine RW.yi (.bool (decide ((w64 (a0_t_2 + 1)) = 8))) rfl rfl (Yi.pv _ rfl) ?_
  refine RW.nil ?_
  refine EW.next ?_
  refine CW.fork 25 ((w64 (a0_t_2 + 1)) = 8) rfl (fun h11 => ?_) (fun h11 => ?_)
  · replace hm := (if_pos h11).symm.trans hm
    refine CW.cond_true rfl ?_
    refine CW.region ?_
    refine RW.yi (.pointer (some ⟨ba0_t, 0, none⟩)) rfl rfl (Yi.pv _ rfl) ?_
    obtain ⟨r12, hr12, hm⟩ := of_bind hm
    refine RW.callM (cs := []) [.blk ba0_t 81 (#[sa0_t_0, .int .i64 (bitI .or .i64 (shlI .i64 a0_t_1 1) a1_bit), .int .i64 (w64 (a0_t_2 + 1)), .int .i64 a0_t_3]), .row sa0_t_0 5 1 a0_t_0.length (ec eb a0_t_0)] [] [] [0, 1] (fun (u13 : Value) => [.blk ba0_t 81 (#[u13, .int .i64 0, .int .i64 0, .int .i64 a0_t_3]), .row u13 5 1 r12.length (ec eb r12)]) (fun (u13 : Value) => .tuple #[]) rfl rfl rfl rfl Try.call34 rfl rfl rfl (fun w hM => lent0) (.inl fun _ => rfl) (fun w S' hM => c_bits_tail_flush K a0_t_0 (bitI .or .i64 (shlI .i64 a0_t_1 1) a1_bit) (w64 (a0_t_2 + 1)) a0_t_3 ba0_t sa0_t_0 r12 w S' hM hr12) (fun u13 => ?_)
    refine RW.nil ?_
    obtain rfl := Option.some.inj hm
    exact EW.done' (rs := []) rfl .nil (fun _ hM => ⟨(u13), rfl, (hM.pick [0, 1] rfl rfl)⟩)
  · replace hm := (if_neg h11).symm.trans hm
    refine CW.cond_false rfl ?_
    refine CW.skip ?_
    obtain rfl := Option.some.inj hm
    exact EW.done' (rs := []) rfl .nil (fun _ hM => ⟨(sa0_t_0), rfl, (hM.pick [0, 1] rfl rfl)⟩)

end Go.Proofs.Ytoepbakbpimkiaa
