import Derived.Test.YtpfnjmaadghhoaaN7
import Derived.Test.YtpfnjmaadghhoaaProg
import Derived.Test.YtpfnjmaadghhoaaGbitsReadernext
set_option maxRecDepth 100000
set_option maxHeartbeats 1000000
namespace Go.Proofs.Ytpfnjmaadghhoaa
open Go Go.RowKit K

def bits_Reader_Bit_j1 (_ : Nat) (v17 : Int) (v18 : Int) (v19 : Int) : Option (Int × Int × Int × Int × Int) :=
  (if 0 ≤ (w64 (v19 - 1)) then some ((bitI .and .i64 (shrI .i64 v18 (w64 (v19 - 1))) 1), 0, v17, v18, (w64 (v19 - 1))) else none)

def bits_Reader_Bit (K : Nat) (a0_r_0 : Int) (a0_r_1 : Int) (a0_r_2 : Int) (a0_r_3 : (List Int)) : Option (Int × Int × Int × Int × Int) :=
  (if a0_r_2 = 0 then ((bits_Reader_next K a0_r_0 a0_r_1 a0_r_2 a0_r_3).bind fun r23 => (if ¬ r23.1 = 0 then some (0, r23.1, r23.2.1, r23.2.2.1, r23.2.2.2) else bits_Reader_Bit_j1 K r23.2.1 r23.2.2.1 r23.2.2.2)) else bits_Reader_Bit_j1 K a0_r_0 a0_r_1 a0_r_2)

theorem c_bits_Reader_Bit (K : Nat) (a0_r_0 : Int) (a0_r_1 : Int) (a0_r_2 : Int) (a0_r_3 : (List Int)) (ba0_r : Nat) (sa0_r_3 : Value) (r : Int × Int × Int × Int × Int) (w0 : World) (S : Own) (hM0 : Mem w0 S [.blk ba0_r 67 (#[.int .i64 a0_r_0, .int .i64 a0_r_1, .int .i64 a0_r_2, sa0_r_3]), .row sa0_r_3 5 1 a0_r_3.length (ec eb a0_r_3)] w0) (hm : bits_Reader_Bit K a0_r_0 a0_r_1 a0_r_2 a0_r_3 = some r) : Calls Try.prog 18 #[.pointer (some ⟨ba0_r, 0, none⟩)] w0 fun e w' => ∃ _u : Unit, e = .returned (.tuple #[.int .i64 r.1, .int .i64 r.2.1]) ∧ Mem w0 S [.blk ba0_r 67 (#[.int .i64 r.2.2.1, .int .i64 r.2.2.2.1, .int .i64 r.2.2.2.2, sa0_r_3]), .row sa0_r_3 5 1 a0_r_3.length (ec eb a0_r_3)] w' := by
  unfold bits_Reader_Bit at hm
  refine calls_CW (n := 39) w0 S [.blk ba0_r 67 (#[.int .i64 a0_r_0, .int .i64 a0_r_1, .int .i64 a0_r_2, sa0_r_3]), .row sa0_r_3 5 1 a0_r_3.length (ec eb a0_r_3)] Try.func18 rfl rfl rfl hM0 ?_
  refine CW.seq ?_
  refine CW.region ?_
  refine RW.yi (.int .i64 0) rfl rfl (Yi.pv _ rfl) ?_
  refine RW.yi (.int .i64 0) rfl rfl (Yi.pv _ rfl) ?_
  refine RW.nil ?_
  refine EW.next ?_
  refine CW.seq ?_
  refine CW.seq ?_
  refine CW.region ?_
  refine RW.yi (.pointer (some ⟨ba0_r, 0, none⟩)) rfl rfl (Yi.pv _ rfl) ?_
  refine RW.yi (.bool false) rfl rfl (Yi.eqNil false rfl rfl Try.underlying38 (.inr ⟨rfl, rfl⟩)) ?_
  refine RW.nil ?_
  refine EW.next ?_
  refine CW.cond_false rfl ?_
  refine CW.skip ?_
  refine EW.next ?_
  refine CW.join (fun a w => ∃ (v17 : Int) (v18 : Int) (v19 : Int), St 39 [(0, .pointer (some ⟨ba0_r, 0, none⟩))] a ∧ Mem w0 S [.blk ba0_r 67 (#[.int .i64 v17, .int .i64 v18, .int .i64 v19, sa0_r_3]), .row sa0_r_3 5 1 a0_r_3.length (ec eb a0_r_3)] w ∧ bits_Reader_Bit_j1 K v17 v18 v19 = some r) ?_ ?_
  · refine CW.seq ?_
    refine CW.region ?_
    refine RW.yi (.pointer (some ⟨ba0_r, 0, none⟩)) rfl rfl (Yi.pv _ rfl) ?_
    refine RW.yi (.pointer (some ⟨ba0_r, 0, none⟩)) rfl rfl (Yi.nilCheck rfl (fun h => by cases h) (fun h => by cases h) (fun h => by cases h) (fun _ _ _ h => by cases h)) ?_
    refine RW.yi (.pointer (some ⟨ba0_r, 0, none⟩)) rfl rfl (Yi.fieldAddr (j := 0) Try.underlying67 rfl Try.sizeOf65 rfl) ?_
    refine RW.yi (.pointer (some ⟨ba0_r, 2, none⟩)) rfl rfl (Yi.fieldAddr (j := 2) Try.underlying65 rfl Try.sizeOf3 rfl) ?_
    refine RW.yi (.int .i64 a0_r_2) rfl rfl (Yi.load1 (i := 0) _ rfl rfl Try.isAgg3 rfl) ?_
    refine RW.yi (.bool (decide (a0_r_2 = 0))) rfl rfl (Yi.pv _ rfl) ?_
    refine RW.nil ?_
    refine EW.next ?_
    refine CW.fork 12 (a0_r_2 = 0) rfl (fun h22 => ?_) (fun h22 => ?_)
    · replace hm := (if_pos h22).symm.trans hm
      refine CW.cond_true rfl ?_
      refine CW.seq ?_
      refine CW.region ?_
      refine RW.yi (.pointer (some ⟨ba0_r, 0, none⟩)) rfl rfl (Yi.pv _ rfl) ?_
      obtain ⟨r23, hr23, hm⟩ := of_bind hm
      refine RW.callM (cs := []) [.blk ba0_r 67 (#[.int .i64 a0_r_0, .int .i64 a0_r_1, .int .i64 a0_r_2, sa0_r_3]), .row sa0_r_3 5 1 a0_r_3.length (ec eb a0_r_3)] [] [] [0, 1] (fun (_ : Unit) => [.blk ba0_r 67 (#[.int .i64 r23.2.1, .int .i64 r23.2.2.1, .int .i64 r23.2.2.2, sa0_r_3]), .row sa0_r_3 5 1 a0_r_3.length (ec eb a0_r_3)]) (fun (_ : Unit) => .int .i64 r23.1) rfl rfl rfl rfl Try.call30 rfl rfl rfl (fun w hM => lent0) (.inl fun _ => rfl) (fun w S' hM => c_bits_Reader_next K a0_r_0 a0_r_1 a0_r_2 a0_r_3 ba0_r sa0_r_3 r23 w S' hM hr23) (fun _ => ?_)
      refine RW.yi (.int .i64 r23.1) rfl rfl (Yi.pv _ rfl) ?_
      refine RW.nil ?_
      refine EW.next ?_
      refine CW.seq ?_
      refine CW.region ?_
      refine RW.yi (.int .i64 r23.1) rfl rfl (Yi.pv _ rfl) ?_
      refine RW.yi (.bool (decide (¬ r23.1 = 0))) rfl rfl (Yi.pv _ rfl) ?_
      refine RW.nil ?_
      refine EW.next ?_
      refine CW.fork 16 (¬ r23.1 = 0) rfl (fun h26 => ?_) (fun h26 => ?_)
      · replace hm := (if_pos h26).symm.trans hm
        refine CW.cond_true rfl ?_
        refine CW.seq ?_
        refine CW.region ?_
        refine RW.yi (.int .i64 r23.1) rfl rfl (Yi.pv _ rfl) ?_
        refine RW.yi (.int .i64 0) rfl rfl (Yi.pv _ rfl) ?_
        refine RW.yi (.int .i64 r23.1) rfl rfl (Yi.pv _ rfl) ?_
        refine RW.nil ?_
        refine EW.next ?_
        refine CW.ret ?_
        refine EW.thr ?_
        obtain rfl := Option.some.inj hm
        exact EW.done (rs := [.tmp 2, .tmp 3]) rfl (.tmp (t := 2) (v := .int .i64 0) rfl (.tmp (t := 3) (v := .int .i64 r23.1) rfl .nil)) (fun _ hM => ⟨(), rfl, (hM.pick [0, 1] rfl rfl)⟩)
      · replace hm := (if_neg h26).symm.trans hm
        refine CW.cond_false rfl ?_
        refine CW.skip ?_
        refine EW.thn ?_
        exact fun a w hs hM => ⟨r23.2.1, r23.2.2.1, r23.2.2.2, hs.sub ⟨rfl, trivial⟩, (hM.pick [0, 1] rfl rfl), hm⟩
    · replace hm := (if_neg h22).symm.trans hm
      refine CW.cond_false rfl ?_
      refine CW.skip ?_
      refine EW.thn ?_
      exact fun a w hs hM => ⟨a0_r_0, a0_r_1, a0_r_2, hs.sub ⟨rfl, trivial⟩, (hM.pick [0, 1] rfl rfl), hm⟩
  · rintro a w ⟨v17, v18, v19, hs, hM, hm⟩
    unfold bits_Reader_Bit_j1 at hm
    refine CW.enter hs hM ?_
    refine CW.seq ?_
    refine CW.region ?_
    refine RW.yi (.pointer (some ⟨ba0_r, 0, none⟩)) rfl rfl (Yi.pv _ rfl) ?_
    refine RW.yi (.pointer (some ⟨ba0_r, 0, none⟩)) rfl rfl (Yi.nilCheck rfl (fun h => by cases h) (fun h => by cases h) (fun h => by cases h) (fun _ _ _ h => by cases h)) ?_
    refine RW.yi (.pointer (some ⟨ba0_r, 0, none⟩)) rfl rfl (Yi.fieldAddr (j := 0) Try.underlying67 rfl Try.sizeOf65 rfl) ?_
    refine RW.yi (.pointer (some ⟨ba0_r, 2, none⟩)) rfl rfl (Yi.fieldAddr (j := 2) Try.underlying65 rfl Try.sizeOf3 rfl) ?_
    refine RW.yi (.int .i64 v19) rfl rfl (Yi.load1 (i := 0) _ rfl rfl Try.isAgg3 rfl) ?_
    refine RW.yi (.int .i64 (w64 (v19 - 1))) rfl rfl (Yi.pv _ rfl) ?_
    refine RW.yi (.pointer (some ⟨ba0_r, 0, none⟩)) rfl rfl (Yi.nilCheck rfl (fun h => by cases h) (fun h => by cases h) (fun h => by cases h) (fun _ _ _ h => by cases h)) ?_
    refine RW.yi (.pointer (some ⟨ba0_r, 0, none⟩)) rfl rfl (Yi.fieldAddr (j := 0) Try.underlying67 rfl Try.sizeOf65 rfl) ?_
    refine RW.yi (.pointer (some ⟨ba0_r, 2, none⟩)) rfl rfl (Yi.fieldAddr (j := 2) Try.underlying65 rfl Try.sizeOf3 rfl) ?_
    refine RW.store1 (i := 0) (cs' := #[.int .i64 v17, .int .i64 v18, .int .i64 (w64 (v19 - 1)), sa0_r_3]) rfl rfl rfl rfl Try.sizeOf3 rfl rfl (Nat.le_of_ble_eq_true rfl) rfl ?_
    refine RW.nil ?_
    refine EW.next ?_
    refine CW.seq ?_
    refine CW.draws (by kernel_rfl) (by kernel_rfl) ?_
    refine QW.yi (.pointer (some ⟨ba0_r, 0, none⟩)) rfl rfl (Yi.pv _ rfl) ?_
    refine QW.yi (.pointer (some ⟨ba0_r, 0, none⟩)) rfl rfl (Yi.nilCheck rfl (fun h => by cases h) (fun h => by cases h) (fun h => by cases h) (fun _ _ _ h => by cases h)) ?_
    refine QW.yi (.pointer (some ⟨ba0_r, 0, none⟩)) rfl rfl (Yi.fieldAddr (j := 0) Try.underlying67 rfl Try.sizeOf65 rfl) ?_
    refine QW.yi (.pointer (some ⟨ba0_r, 1, none⟩)) rfl rfl (Yi.fieldAddr (j := 1) Try.underlying65 rfl Try.sizeOf3 rfl) ?_
    refine QW.yi (.int .i64 v18) rfl rfl (Yi.load1 (i := 0) _ rfl rfl Try.isAgg3 rfl) ?_
    refine QW.yi (.pointer (some ⟨ba0_r, 0, none⟩)) rfl rfl (Yi.pv _ rfl) ?_
    refine QW.yi (.pointer (some ⟨ba0_r, 0, none⟩)) rfl rfl (Yi.nilCheck rfl (fun h => by cases h) (fun h => by cases h) (fun h => by cases h) (fun _ _ _ h => by cases h)) ?_
    refine QW.yi (.pointer (some ⟨ba0_r, 0, none⟩)) rfl rfl (Yi.fieldAddr (j := 0) Try.underlying67 rfl Try.sizeOf65 rfl) ?_
    refine QW.yi (.pointer (some ⟨ba0_r, 2, none⟩)) rfl rfl (Yi.fieldAddr (j := 2) Try.underlying65 rfl Try.sizeOf3 rfl) ?_
    refine QW.yi (.int .i64 (w64 (v19 - 1))) rfl rfl (Yi.load1 (i := 0) _ rfl rfl Try.isAgg3 rfl) ?_
    obtain ⟨g21, hm⟩ := of_guard hm
    refine QW.yi (.int .i64 (shrI .i64 v18 (w64 (v19 - 1)))) rfl rfl (Yi.shr rfl rfl g21) ?_
    refine QW.yi (.int .i64 (bitI .and .i64 (shrI .i64 v18 (w64 (v19 - 1))) 1)) rfl rfl (Yi.bits rfl rfl (by simp)) ?_
    refine QW.yi (.int .i64 (bitI .and .i64 (shrI .i64 v18 (w64 (v19 - 1))) 1)) rfl rfl (Yi.pv _ rfl) ?_
    refine QW.yi (.int .i64 0) rfl rfl (Yi.pv _ rfl) ?_
    refine QW.nil ?_
    refine EW.next ?_
    refine CW.ret ?_
    obtain rfl := Option.some.inj hm
    exact EW.done (rs := [.tmp 2, .tmp 3]) rfl (.tmp (t := 2) (v := .int .i64 (bitI .and .i64 (shrI .i64 v18 (w64 (v19 - 1))) 1)) rfl (.tmp (t := 3) (v := .int .i64 0) rfl .nil)) (fun _ hM => ⟨(), rfl, (hM.pick [0, 1] rfl rfl)⟩)

end Go.Proofs.Ytpfnjmaadghhoaa
