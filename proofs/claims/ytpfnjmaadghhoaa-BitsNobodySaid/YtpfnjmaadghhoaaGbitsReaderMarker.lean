import Derived.Test.YtpfnjmaadghhoaaN7
import Derived.Test.YtpfnjmaadghhoaaProg
import Derived.Test.YtpfnjmaadghhoaaGbitsReaderSkip
set_option maxRecDepth 100000
set_option maxHeartbeats 1000000
namespace Go.Proofs.Ytpfnjmaadghhoaa
open Go Go.RowKit K

def bits_Reader_Marker (K : Nat) (a0_0 : Int) (a0_1 : Int) (a0_2 : Int) (a0_3 : (List Int)) : Option (Int × Int × Int × Int) :=
  (if (w64 ((a0_3.length : Int) - a0_0)) < 2 then some (0, 3, a0_0, a0_2) else (if 0 ≤ (w64 (a0_0 + 1)) ∧ (w64 (a0_0 + 1)) < (a0_3.length : Int) then (if 0 ≤ a0_0 ∧ a0_0 < (a0_3.length : Int) then (if ¬ (a0_3.getD a0_0.toNat 0) = 255 then some (0, 4, a0_0, a0_2) else (if (w64 ((a0_3.getD ((w64 (a0_0 + 1)).toNat) 0))) = 0 then some (0, 4, a0_0, a0_2) else (if (w64 ((a0_3.getD ((w64 (a0_0 + 1)).toNat) 0))) = 255 then some (0, 4, a0_0, a0_2) else ((bits_Reader_Skip K a0_0 a0_1 a0_2 a0_3).bind fun r20 => some ((w64 ((a0_3.getD ((w64 (a0_0 + 1)).toNat) 0))), 0, (w64 (a0_0 + 2)), 0))))) else none) else none))

theorem c_bits_Reader_Marker (K : Nat) (a0_0 : Int) (a0_1 : Int) (a0_2 : Int) (a0_3 : (List Int)) (ba0 : Nat) (sa0_3 : Value) (r : Int × Int × Int × Int) (w0 : World) (S : Own) (hM0 : Mem w0 S [.blk ba0 67 (#[.int .i64 a0_0, .int .i64 a0_1, .int .i64 a0_2, sa0_3]), .row sa0_3 5 1 a0_3.length (ec eb a0_3)] w0) (hm : bits_Reader_Marker K a0_0 a0_1 a0_2 a0_3 = some r) : Calls Try.prog 19 #[.pointer (some ⟨ba0, 0, none⟩)] w0 fun e w' => ∃ _u : Unit, e = .returned (.tuple #[.int .i64 r.1, .int .i64 r.2.1]) ∧ Mem w0 S [.blk ba0 67 (#[.int .i64 r.2.2.1, .int .i64 a0_1, .int .i64 r.2.2.2, sa0_3]), .row sa0_3 5 1 a0_3.length (ec eb a0_3)] w' := by
  unfold bits_Reader_Marker at hm
  refine calls_CW (n := 66) w0 S [.blk ba0 67 (#[.int .i64 a0_0, .int .i64 a0_1, .int .i64 a0_2, sa0_3]), .row sa0_3 5 1 a0_3.length (ec eb a0_3)] Try.func19 rfl rfl rfl hM0 ?_
  refine CW.seq ?_
  refine CW.region ?_
  refine RW.yi (.int .i64 0) rfl rfl (Yi.pv _ rfl) ?_
  refine RW.yi (.int .i64 0) rfl rfl (Yi.pv _ rfl) ?_
  refine RW.nil ?_
  refine EW.next ?_
  refine CW.seq ?_
  refine CW.seq ?_
  refine CW.draws (by kernel_rfl) (by kernel_rfl) ?_
  refine QW.yi (.pointer (some ⟨ba0, 0, none⟩)) rfl rfl (Yi.pv _ rfl) ?_
  refine QW.yi (.bool false) rfl rfl (Yi.eqNil false rfl rfl Try.underlying38 (.inr ⟨rfl, rfl⟩)) ?_
  refine QW.yi (.bool false) rfl rfl (Yi.pv _ rfl) ?_
  refine QW.yi (.pointer (some ⟨ba0, 0, none⟩)) rfl rfl (Yi.pv _ rfl) ?_
  refine QW.yi (.pointer (some ⟨ba0, 0, none⟩)) rfl rfl (Yi.nilCheck rfl (fun h => by cases h) (fun h => by cases h) (fun h => by cases h) (fun _ _ _ h => by cases h)) ?_
  refine QW.yi (.pointer (some ⟨ba0, 3, none⟩)) rfl rfl (Yi.fieldAddr (j := 1) Try.underlying67 rfl Try.sizeOf34 rfl) ?_
  refine QW.yi (sa0_3) rfl rfl (Yi.load1 (i := 0) _ rfl rfl Try.isAgg34 rfl) ?_
  refine QW.yi (.int .i64 (a0_3.length : Int)) rfl rfl (Yi.lenS (cs := ec eb a0_3) (m := a0_3.length) Try.underlying34 rfl (rdW 1 rfl)) ?_
  refine QW.yi (.pointer (some ⟨ba0, 0, none⟩)) rfl rfl (Yi.pv _ rfl) ?_
  refine QW.yi (.pointer (some ⟨ba0, 0, none⟩)) rfl rfl (Yi.nilCheck rfl (fun h => by cases h) (fun h => by cases h) (fun h => by cases h) (fun _ _ _ h => by cases h)) ?_
  refine QW.yi (.pointer (some ⟨ba0, 0, none⟩)) rfl rfl (Yi.fieldAddr (j := 0) Try.underlying67 rfl Try.sizeOf65 rfl) ?_
  refine QW.yi (.pointer (some ⟨ba0, 0, none⟩)) rfl rfl (Yi.fieldAddr (j := 0) Try.underlying65 rfl Try.sizeOf3 rfl) ?_
  refine QW.yi (.int .i64 a0_0) rfl rfl (Yi.load1 (i := 0) _ rfl rfl Try.isAgg3 rfl) ?_
  refine QW.yi (.int .i64 (w64 ((a0_3.length : Int) - a0_0))) rfl rfl (Yi.pv _ rfl) ?_
  refine QW.yi (.bool (decide ((w64 ((a0_3.length : Int) - a0_0)) < 2))) rfl rfl (Yi.pv _ rfl) ?_
  refine QW.yi (.bool (decide ((w64 ((a0_3.length : Int) - a0_0)) < 2))) rfl rfl (Yi.pv _ rfl) ?_
  refine QW.nil ?_
  refine EW.next ?_
  refine CW.fork 20 ((w64 ((a0_3.length : Int) - a0_0)) < 2) rfl (fun h14 => ?_) (fun h14 => ?_)
  · replace hm := (if_pos h14).symm.trans hm
    refine CW.cond_true rfl ?_
    refine CW.seq ?_
    refine CW.region ?_
    refine RW.yi (.int .i64 0) rfl rfl (Yi.pv _ rfl) ?_
    refine RW.yi (.int .i64 3) rfl rfl (Yi.pv _ rfl) ?_
    refine RW.nil ?_
    refine EW.next ?_
    refine CW.ret ?_
    refine EW.thr ?_
    obtain rfl := Option.some.inj hm
    exact EW.done (rs := [.tmp 2, .tmp 3]) rfl (.tmp (t := 2) (v := .int .i64 0) rfl (.tmp (t := 3) (v := .int .i64 3) rfl .nil)) (fun _ hM => ⟨(), rfl, (hM.pick [0, 1] rfl rfl)⟩)
  · replace hm := (if_neg h14).symm.trans hm
    refine CW.cond_false rfl ?_
    refine CW.skip ?_
    refine EW.next ?_
    refine CW.seq ?_
    refine CW.draws (by kernel_rfl) (by kernel_rfl) ?_
    refine QW.yi (.pointer (some ⟨ba0, 0, none⟩)) rfl rfl (Yi.pv _ rfl) ?_
    refine QW.yi (.pointer (some ⟨ba0, 0, none⟩)) rfl rfl (Yi.nilCheck rfl (fun h => by cases h) (fun h => by cases h) (fun h => by cases h) (fun _ _ _ h => by cases h)) ?_
    refine QW.yi (.pointer (some ⟨ba0, 3, none⟩)) rfl rfl (Yi.fieldAddr (j := 1) Try.underlying67 rfl Try.sizeOf34 rfl) ?_
    refine QW.yi (sa0_3) rfl rfl (Yi.load1 (i := 0) _ rfl rfl Try.isAgg34 rfl) ?_
    refine QW.yi (.pointer (some ⟨ba0, 0, none⟩)) rfl rfl (Yi.pv _ rfl) ?_
    refine QW.yi (.pointer (some ⟨ba0, 0, none⟩)) rfl rfl (Yi.nilCheck rfl (fun h => by cases h) (fun h => by cases h) (fun h => by cases h) (fun _ _ _ h => by cases h)) ?_
    refine QW.yi (.pointer (some ⟨ba0, 0, none⟩)) rfl rfl (Yi.fieldAddr (j := 0) Try.underlying67 rfl Try.sizeOf65 rfl) ?_
    refine QW.yi (.pointer (some ⟨ba0, 0, none⟩)) rfl rfl (Yi.fieldAddr (j := 0) Try.underlying65 rfl Try.sizeOf3 rfl) ?_
    refine QW.yi (.int .i64 a0_0) rfl rfl (Yi.load1 (i := 0) _ rfl rfl Try.isAgg3 rfl) ?_
    refine QW.yi (.int .i64 (w64 (a0_0 + 1))) rfl rfl (Yi.pv _ rfl) ?_
    obtain ⟨g15, hm⟩ := of_guard hm
    refine QW.yi (.pointer (some (eaddr sa0_3 1 ((w64 (a0_0 + 1)).toNat) 0))) rfl rfl (Yi.idxS (m := a0_3.length) Try.underlying34 Try.sizeOf5 rfl rfl (rdW 1 rfl) g15.1 g15.2) ?_
    refine QW.yi (.int .u8 (a0_3.getD ((w64 (a0_0 + 1)).toNat) 0)) rfl rfl (Yi.loadS (m := a0_3.length) (cs := ec eb a0_3) _ rfl (rdW 1 rfl) Try.isAgg5 (by omega) (by omega) (by rw [ec_get (d := 0) eb_is (by omega) (by decide)]; rfl)) ?_
    refine QW.yi (.int .i64 (w64 ((a0_3.getD ((w64 (a0_0 + 1)).toNat) 0)))) rfl rfl (Yi.conv ⟨_, Try.underlying5⟩ Try.underlying3 rfl) ?_
    refine QW.yi (.int .i64 (w64 ((a0_3.getD ((w64 (a0_0 + 1)).toNat) 0)))) rfl rfl (Yi.pv _ rfl) ?_
    refine QW.nil ?_
    refine EW.next ?_
    refine CW.seq ?_
    refine CW.seq ?_
    refine CW.draws (by kernel_rfl) (by kernel_rfl) ?_
    refine QW.yi (.pointer (some ⟨ba0, 0, none⟩)) rfl rfl (Yi.pv _ rfl) ?_
    refine QW.yi (.pointer (some ⟨ba0, 0, none⟩)) rfl rfl (Yi.nilCheck rfl (fun h => by cases h) (fun h => by cases h) (fun h => by cases h) (fun _ _ _ h => by cases h)) ?_
    refine QW.yi (.pointer (some ⟨ba0, 3, none⟩)) rfl rfl (Yi.fieldAddr (j := 1) Try.underlying67 rfl Try.sizeOf34 rfl) ?_
    refine QW.yi (sa0_3) rfl rfl (Yi.load1 (i := 0) _ rfl rfl Try.isAgg34 rfl) ?_
    refine QW.yi (.pointer (some ⟨ba0, 0, none⟩)) rfl rfl (Yi.pv _ rfl) ?_
    refine QW.yi (.pointer (some ⟨ba0, 0, none⟩)) rfl rfl (Yi.nilCheck rfl (fun h => by cases h) (fun h => by cases h) (fun h => by cases h) (fun _ _ _ h => by cases h)) ?_
    refine QW.yi (.pointer (some ⟨ba0, 0, none⟩)) rfl rfl (Yi.fieldAddr (j := 0) Try.underlying67 rfl Try.sizeOf65 rfl) ?_
    refine QW.yi (.pointer (some ⟨ba0, 0, none⟩)) rfl rfl (Yi.fieldAddr (j := 0) Try.underlying65 rfl Try.sizeOf3 rfl) ?_
    refine QW.yi (.int .i64 a0_0) rfl rfl (Yi.load1 (i := 0) _ rfl rfl Try.isAgg3 rfl) ?_
    obtain ⟨g16, hm⟩ := of_guard hm
    refine QW.yi (.pointer (some (eaddr sa0_3 1 a0_0.toNat 0))) rfl rfl (Yi.idxS (m := a0_3.length) Try.underlying34 Try.sizeOf5 rfl rfl (rdW 1 rfl) g16.1 g16.2) ?_
    refine QW.yi (.int .u8 (a0_3.getD a0_0.toNat 0)) rfl rfl (Yi.loadS (m := a0_3.length) (cs := ec eb a0_3) _ rfl (rdW 1 rfl) Try.isAgg5 (by omega) (by omega) (by rw [ec_get (d := 0) eb_is (by omega) (by decide)]; rfl)) ?_
    refine QW.yi (.bool (decide (¬ (a0_3.getD a0_0.toNat 0) = 255))) rfl rfl (Yi.pv _ rfl) ?_
    refine QW.yi (.bool (decide (¬ (a0_3.getD a0_0.toNat 0) = 255))) rfl rfl (Yi.pv _ rfl) ?_
    refine QW.fork 46 (¬ (a0_3.getD a0_0.toNat 0) = 255) rfl (fun h17 => ?_) (fun h17 => ?_)
    · replace hm := (if_pos h17).symm.trans hm
      refine QW.pass rfl rfl ?_
      refine QW.pass rfl rfl ?_
      refine QW.yi (.bool true) rfl rfl (Yi.pv _ rfl) ?_
      refine QW.yi (.bool true) rfl rfl (Yi.pv _ rfl) ?_
      refine QW.pass rfl rfl ?_
      refine QW.pass rfl rfl ?_
      refine QW.yi (.bool true) rfl rfl (Yi.pv _ rfl) ?_
      refine QW.nil ?_
      refine EW.next ?_
      refine CW.cond_true rfl ?_
      refine CW.seq ?_
      refine CW.region ?_
      refine RW.yi (.int .i64 0) rfl rfl (Yi.pv _ rfl) ?_
      refine RW.yi (.int .i64 4) rfl rfl (Yi.pv _ rfl) ?_
      refine RW.nil ?_
      refine EW.next ?_
      refine CW.ret ?_
      refine EW.thr ?_
      obtain rfl := Option.some.inj hm
      exact EW.done (rs := [.tmp 2, .tmp 3]) rfl (.tmp (t := 2) (v := .int .i64 0) rfl (.tmp (t := 3) (v := .int .i64 4) rfl .nil)) (fun _ hM => ⟨(), rfl, (hM.pick [0, 1] rfl rfl)⟩)
    · replace hm := (if_neg h17).symm.trans hm
      refine QW.yi (.int .i64 (w64 ((a0_3.getD ((w64 (a0_0 + 1)).toNat) 0)))) rfl rfl (Yi.pv _ rfl) ?_
      refine QW.yi (.bool (decide ((w64 ((a0_3.getD ((w64 (a0_0 + 1)).toNat) 0))) = 0))) rfl rfl (Yi.pv _ rfl) ?_
      refine QW.yi (.bool (decide ((w64 ((a0_3.getD ((w64 (a0_0 + 1)).toNat) 0))) = 0))) rfl rfl (Yi.pv _ rfl) ?_
      refine QW.yi (.bool (decide ((w64 ((a0_3.getD ((w64 (a0_0 + 1)).toNat) 0))) = 0))) rfl rfl (Yi.pv _ rfl) ?_
      refine QW.fork 50 ((w64 ((a0_3.getD ((w64 (a0_0 + 1)).toNat) 0))) = 0) rfl (fun h18 => ?_) (fun h18 => ?_)
      · replace hm := (if_pos h18).symm.trans hm
        refine QW.pass rfl rfl ?_
        refine QW.pass rfl rfl ?_
        refine QW.yi (.bool true) rfl rfl (Yi.pv _ rfl) ?_
        refine QW.nil ?_
        refine EW.next ?_
        refine CW.cond_true rfl ?_
        refine CW.seq ?_
        refine CW.region ?_
        refine RW.yi (.int .i64 0) rfl rfl (Yi.pv _ rfl) ?_
        refine RW.yi (.int .i64 4) rfl rfl (Yi.pv _ rfl) ?_
        refine RW.nil ?_
        refine EW.next ?_
        refine CW.ret ?_
        refine EW.thr ?_
        obtain rfl := Option.some.inj hm
        exact EW.done (rs := [.tmp 2, .tmp 3]) rfl (.tmp (t := 2) (v := .int .i64 0) rfl (.tmp (t := 3) (v := .int .i64 4) rfl .nil)) (fun _ hM => ⟨(), rfl, (hM.pick [0, 1] rfl rfl)⟩)
      · replace hm := (if_neg h18).symm.trans hm
        refine QW.yi (.int .i64 (w64 ((a0_3.getD ((w64 (a0_0 + 1)).toNat) 0)))) rfl rfl (Yi.pv _ rfl) ?_
        refine QW.yi (.bool (decide ((w64 ((a0_3.getD ((w64 (a0_0 + 1)).toNat) 0))) = 255))) rfl rfl (Yi.pv _ rfl) ?_
        refine QW.yi (.bool (decide ((w64 ((a0_3.getD ((w64 (a0_0 + 1)).toNat) 0))) = 255))) rfl rfl (Yi.pv _ rfl) ?_
        refine QW.nil ?_
        refine EW.next ?_
        refine CW.fork 53 ((w64 ((a0_3.getD ((w64 (a0_0 + 1)).toNat) 0))) = 255) rfl (fun h19 => ?_) (fun h19 => ?_)
        · replace hm := (if_pos h19).symm.trans hm
          refine CW.cond_true rfl ?_
          refine CW.seq ?_
          refine CW.region ?_
          refine RW.yi (.int .i64 0) rfl rfl (Yi.pv _ rfl) ?_
          refine RW.yi (.int .i64 4) rfl rfl (Yi.pv _ rfl) ?_
          refine RW.nil ?_
          refine EW.next ?_
          refine CW.ret ?_
          refine EW.thr ?_
          obtain rfl := Option.some.inj hm
          exact EW.done (rs := [.tmp 2, .tmp 3]) rfl (.tmp (t := 2) (v := .int .i64 0) rfl (.tmp (t := 3) (v := .int .i64 4) rfl .nil)) (fun _ hM => ⟨(), rfl, (hM.pick [0, 1] rfl rfl)⟩)
        · replace hm := (if_neg h19).symm.trans hm
          refine CW.cond_false rfl ?_
          refine CW.skip ?_
          refine EW.next ?_
          refine CW.seq ?_
          refine CW.region ?_
          refine RW.yi (.pointer (some ⟨ba0, 0, none⟩)) rfl rfl (Yi.pv _ rfl) ?_
          obtain ⟨r20, hr20, hm⟩ := of_bind hm
          refine RW.callM (cs := []) [.blk ba0 67 (#[.int .i64 a0_0, .int .i64 a0_1, .int .i64 a0_2, sa0_3]), .row sa0_3 5 1 a0_3.length (ec eb a0_3)] [] [] [0, 1] (fun (_ : Unit) => [.blk ba0 67 (#[.int .i64 a0_0, .int .i64 a0_1, .int .i64 0, sa0_3]), .row sa0_3 5 1 a0_3.length (ec eb a0_3)]) (fun (_ : Unit) => .int .i64 a0_2) rfl rfl rfl rfl Try.call22 rfl rfl rfl (fun w hM => lent0) (.inl fun _ => rfl) (fun w S' hM => c_bits_Reader_Skip K a0_0 a0_1 a0_2 a0_3 ba0 sa0_3 r20 w S' hM hr20) (fun _ => ?_)
          refine RW.nil ?_
          refine EW.next ?_
          refine CW.seq ?_
          refine CW.region ?_
          refine RW.yi (.pointer (some ⟨ba0, 0, none⟩)) rfl rfl (Yi.pv _ rfl) ?_
          refine RW.yi (.pointer (some ⟨ba0, 0, none⟩)) rfl rfl (Yi.nilCheck rfl (fun h => by cases h) (fun h => by cases h) (fun h => by cases h) (fun _ _ _ h => by cases h)) ?_
          refine RW.yi (.pointer (some ⟨ba0, 0, none⟩)) rfl rfl (Yi.fieldAddr (j := 0) Try.underlying67 rfl Try.sizeOf65 rfl) ?_
          refine RW.yi (.pointer (some ⟨ba0, 0, none⟩)) rfl rfl (Yi.fieldAddr (j := 0) Try.underlying65 rfl Try.sizeOf3 rfl) ?_
          refine RW.yi (.int .i64 a0_0) rfl rfl (Yi.load1 (i := 0) _ rfl rfl Try.isAgg3 rfl) ?_
          refine RW.yi (.int .i64 (w64 (a0_0 + 2))) rfl rfl (Yi.pv _ rfl) ?_
          refine RW.yi (.pointer (some ⟨ba0, 0, none⟩)) rfl rfl (Yi.nilCheck rfl (fun h => by cases h) (fun h => by cases h) (fun h => by cases h) (fun _ _ _ h => by cases h)) ?_
          refine RW.yi (.pointer (some ⟨ba0, 0, none⟩)) rfl rfl (Yi.fieldAddr (j := 0) Try.underlying67 rfl Try.sizeOf65 rfl) ?_
          refine RW.yi (.pointer (some ⟨ba0, 0, none⟩)) rfl rfl (Yi.fieldAddr (j := 0) Try.underlying65 rfl Try.sizeOf3 rfl) ?_
          refine RW.store1 (i := 0) (cs' := #[.int .i64 (w64 (a0_0 + 2)), .int .i64 a0_1, .int .i64 0, sa0_3]) rfl rfl rfl rfl Try.sizeOf3 rfl rfl (Nat.le_of_ble_eq_true rfl) rfl ?_
          refine RW.nil ?_
          refine EW.next ?_
          refine CW.seq ?_
          refine CW.region ?_
          refine RW.yi (.int .i64 (w64 ((a0_3.getD ((w64 (a0_0 + 1)).toNat) 0)))) rfl rfl (Yi.pv _ rfl) ?_
          refine RW.yi (.int .i64 (w64 ((a0_3.getD ((w64 (a0_0 + 1)).toNat) 0)))) rfl rfl (Yi.pv _ rfl) ?_
          refine RW.yi (.int .i64 0) rfl rfl (Yi.pv _ rfl) ?_
          refine RW.nil ?_
          refine EW.next ?_
          refine CW.ret ?_
          obtain rfl := Option.some.inj hm
          exact EW.done (rs := [.tmp 2, .tmp 3]) rfl (.tmp (t := 2) (v := .int .i64 (w64 ((a0_3.getD ((w64 (a0_0 + 1)).toNat) 0)))) rfl (.tmp (t := 3) (v := .int .i64 0) rfl .nil)) (fun _ hM => ⟨(), rfl, (hM.pick [0, 1] rfl rfl)⟩)

end Go.Proofs.Ytpfnjmaadghhoaa
