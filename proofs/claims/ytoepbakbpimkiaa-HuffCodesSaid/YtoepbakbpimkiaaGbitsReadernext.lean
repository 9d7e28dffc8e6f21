import Derived.Test.YtoepbakbpimkiaaN8
import Derived.Test.YtoepbakbpimkiaaProg
set_option maxRecDepth 100000
set_option maxHeartbeats 1000000
namespace Go.Proofs.Ytoepbakbpimkiaa
open Go Go.RowKit K

def bits_Reader_next_j1 (_ : Nat) (a0_0 : Int) (a0_3 : (List Int)) (v19 : Int) : Option (Int × Int × Int × Int) :=
  (if 0 ≤ a0_0 ∧ a0_0 < (a0_3.length : Int) then some (0, (w64 (a0_0 + v19)), (w64 ((a0_3.getD a0_0.toNat 0))), 8) else none)

def bits_Reader_next (K : Nat) (a0_0 : Int) (a0_1 : Int) (a0_2 : Int) (a0_3 : (List Int)) : Option (Int × Int × Int × Int) :=
  (if (a0_3.length : Int) ≤ a0_0 then some (3, a0_0, a0_1, a0_2) else (if 0 ≤ a0_0 ∧ a0_0 < (a0_3.length : Int) then (if (a0_3.getD a0_0.toNat 0) = 255 then (if (a0_3.length : Int) ≤ (w64 (a0_0 + 1)) then some (3, a0_0, a0_1, a0_2) else (if 0 ≤ (w64 (a0_0 + 1)) ∧ (w64 (a0_0 + 1)) < (a0_3.length : Int) then (if ¬ (a0_3.getD ((w64 (a0_0 + 1)).toNat) 0) = 0 then some (7, a0_0, a0_1, a0_2) else bits_Reader_next_j1 K a0_0 a0_3 2) else none)) else bits_Reader_next_j1 K a0_0 a0_3 1) else none))

theorem c_bits_Reader_next (K : Nat) (a0_0 : Int) (a0_1 : Int) (a0_2 : Int) (a0_3 : (List Int)) (ba0 : Nat) (sa0_3 : Value) (r : Int × Int × Int × Int) (w0 : World) (S : Own) (hM0 : Mem w0 S [.blk ba0 74 (#[.int .i64 a0_0, .int .i64 a0_1, .int .i64 a0_2, sa0_3]), .row sa0_3 5 1 a0_3.length (ec eb a0_3)] w0) (hm : bits_Reader_next K a0_0 a0_1 a0_2 a0_3 = some r) : Calls Try.prog 32 #[.pointer (some ⟨ba0, 0, none⟩)] w0 fun e w' => ∃ _u : Unit, e = .returned (.int .i64 r.1) ∧ Mem w0 S [.blk ba0 74 (#[.int .i64 r.2.1, .int .i64 r.2.2.1, .int .i64 r.2.2.2, sa0_3]), .row sa0_3 5 1 a0_3.length (ec eb a0_3)] w' := by
  unfold bits_Reader_next at hm
  refine calls_CW (n := 82) w0 S [.blk ba0 74 (#[.int .i64 a0_0, .int .i64 a0_1, .int .i64 a0_2, sa0_3]), .row sa0_3 5 1 a0_3.length (ec eb a0_3)] Try.func32 rfl rfl rfl hM0 ?_
  refine CW.seq ?_
  refine CW.region ?_
  refine RW.yi (.int .i64 0) rfl rfl (Yi.pv _ rfl) ?_
  refine RW.nil ?_
  refine EW.next ?_
  refine CW.seq ?_
  refine CW.seq ?_
  refine CW.draws (by kernel_rfl) (by kernel_rfl) ?_
  refine QW.yi (.pointer (some ⟨ba0, 0, none⟩)) rfl rfl (Yi.pv _ rfl) ?_
  refine QW.yi (.pointer (some ⟨ba0, 0, none⟩)) rfl rfl (Yi.nilCheck rfl (fun h => by cases h) (fun h => by cases h) (fun h => by cases h) (fun _ _ _ h => by cases h)) ?_
  refine QW.yi (.pointer (some ⟨ba0, 0, none⟩)) rfl rfl (Yi.fieldAddr (j := 0) Try.underlying74 rfl Try.sizeOf72 rfl) ?_
  refine QW.yi (.pointer (some ⟨ba0, 0, none⟩)) rfl rfl (Yi.fieldAddr (j := 0) Try.underlying72 rfl Try.sizeOf3 rfl) ?_
  refine QW.yi (.int .i64 a0_0) rfl rfl (Yi.load1 (i := 0) _ rfl rfl Try.isAgg3 rfl) ?_
  refine QW.yi (.pointer (some ⟨ba0, 0, none⟩)) rfl rfl (Yi.pv _ rfl) ?_
  refine QW.yi (.pointer (some ⟨ba0, 0, none⟩)) rfl rfl (Yi.nilCheck rfl (fun h => by cases h) (fun h => by cases h) (fun h => by cases h) (fun _ _ _ h => by cases h)) ?_
  refine QW.yi (.pointer (some ⟨ba0, 3, none⟩)) rfl rfl (Yi.fieldAddr (j := 1) Try.underlying74 rfl Try.sizeOf44 rfl) ?_
  refine QW.yi (sa0_3) rfl rfl (Yi.load1 (i := 0) _ rfl rfl Try.isAgg44 rfl) ?_
  refine QW.yi (.int .i64 (a0_3.length : Int)) rfl rfl (Yi.lenS (cs := ec eb a0_3) (m := a0_3.length) Try.underlying44 rfl (rdW 1 rfl)) ?_
  refine QW.yi (.bool (decide ((a0_3.length : Int) ≤ a0_0))) rfl rfl (Yi.pv _ rfl) ?_
  refine QW.nil ?_
  refine EW.next ?_
  refine CW.fork 14 ((a0_3.length : Int) ≤ a0_0) rfl (fun h17 => ?_) (fun h17 => ?_)
  · replace hm := (if_pos h17).symm.trans hm
    refine CW.cond_true rfl ?_
    refine CW.seq ?_
    refine CW.region ?_
    refine RW.yi (.int .i64 3) rfl rfl (Yi.pv _ rfl) ?_
    refine RW.nil ?_
    refine EW.next ?_
    refine CW.ret ?_
    refine EW.thr ?_
    obtain rfl := Option.some.inj hm
    exact EW.done (rs := [.tmp 2]) rfl (.tmp (t := 2) (v := .int .i64 3) rfl .nil) (fun _ hM => ⟨(), rfl, (hM.pick [0, 1] rfl rfl)⟩)
  · replace hm := (if_neg h17).symm.trans hm
    refine CW.cond_false rfl ?_
    refine CW.skip ?_
    refine EW.next ?_
    refine CW.seq ?_
    refine CW.region ?_
    refine RW.yi (.int .i64 1) rfl rfl (Yi.pv _ rfl) ?_
    refine RW.nil ?_
    refine EW.next ?_
    refine CW.join (fun a w => ∃ (v19 : Int), St 82 [(0, .pointer (some ⟨ba0, 0, none⟩)), (3, .int .i64 v19)] a ∧ Mem w0 S [.blk ba0 74 (#[.int .i64 a0_0, .int .i64 a0_1, .int .i64 a0_2, sa0_3]), .row sa0_3 5 1 a0_3.length (ec eb a0_3)] w ∧ bits_Reader_next_j1 K a0_0 a0_3 v19 = some r) ?_ ?_
    · refine CW.seq ?_
      refine CW.draws (by kernel_rfl) (by kernel_rfl) ?_
      refine QW.yi (.pointer (some ⟨ba0, 0, none⟩)) rfl rfl (Yi.pv _ rfl) ?_
      refine QW.yi (.pointer (some ⟨ba0, 0, none⟩)) rfl rfl (Yi.nilCheck rfl (fun h => by cases h) (fun h => by cases h) (fun h => by cases h) (fun _ _ _ h => by cases h)) ?_
      refine QW.yi (.pointer (some ⟨ba0, 3, none⟩)) rfl rfl (Yi.fieldAddr (j := 1) Try.underlying74 rfl Try.sizeOf44 rfl) ?_
      refine QW.yi (sa0_3) rfl rfl (Yi.load1 (i := 0) _ rfl rfl Try.isAgg44 rfl) ?_
      refine QW.yi (.pointer (some ⟨ba0, 0, none⟩)) rfl rfl (Yi.pv _ rfl) ?_
      refine QW.yi (.pointer (some ⟨ba0, 0, none⟩)) rfl rfl (Yi.nilCheck rfl (fun h => by cases h) (fun h => by cases h) (fun h => by cases h) (fun _ _ _ h => by cases h)) ?_
      refine QW.yi (.pointer (some ⟨ba0, 0, none⟩)) rfl rfl (Yi.fieldAddr (j := 0) Try.underlying74 rfl Try.sizeOf72 rfl) ?_
      refine QW.yi (.pointer (some ⟨ba0, 0, none⟩)) rfl rfl (Yi.fieldAddr (j := 0) Try.underlying72 rfl Try.sizeOf3 rfl) ?_
      refine QW.yi (.int .i64 a0_0) rfl rfl (Yi.load1 (i := 0) _ rfl rfl Try.isAgg3 rfl) ?_
      obtain ⟨g22, hm⟩ := of_guard hm
      refine QW.yi (.pointer (some (eaddr sa0_3 1 a0_0.toNat 0))) rfl rfl (Yi.idxS (m := a0_3.length) Try.underlying44 Try.sizeOf5 rfl rfl (rdW 1 rfl) g22.1 g22.2) ?_
      refine QW.yi (.int .u8 (a0_3.getD a0_0.toNat 0)) rfl rfl (Yi.loadS (m := a0_3.length) (cs := ec eb a0_3) _ rfl (rdW 1 rfl) Try.isAgg5 (by omega) (by omega) (by rw [ec_get (d := 0) eb_is (by omega) (by decide)]; rfl)) ?_
      refine QW.yi (.bool (decide ((a0_3.getD a0_0.toNat 0) = 255))) rfl rfl (Yi.pv _ rfl) ?_
      refine QW.nil ?_
      refine EW.next ?_
      refine CW.fork 26 ((a0_3.getD a0_0.toNat 0) = 255) rfl (fun h23 => ?_) (fun h23 => ?_)
      · replace hm := (if_pos h23).symm.trans hm
        refine CW.cond_true rfl ?_
        refine CW.seq ?_
        refine CW.seq ?_
        refine CW.draws (by kernel_rfl) (by kernel_rfl) ?_
        refine QW.yi (.pointer (some ⟨ba0, 0, none⟩)) rfl rfl (Yi.pv _ rfl) ?_
        refine QW.yi (.pointer (some ⟨ba0, 0, none⟩)) rfl rfl (Yi.nilCheck rfl (fun h => by cases h) (fun h => by cases h) (fun h => by cases h) (fun _ _ _ h => by cases h)) ?_
        refine QW.yi (.pointer (some ⟨ba0, 0, none⟩)) rfl rfl (Yi.fieldAddr (j := 0) Try.underlying74 rfl Try.sizeOf72 rfl) ?_
        refine QW.yi (.pointer (some ⟨ba0, 0, none⟩)) rfl rfl (Yi.fieldAddr (j := 0) Try.underlying72 rfl Try.sizeOf3 rfl) ?_
        refine QW.yi (.int .i64 a0_0) rfl rfl (Yi.load1 (i := 0) _ rfl rfl Try.isAgg3 rfl) ?_
        refine QW.yi (.int .i64 (w64 (a0_0 + 1))) rfl rfl (Yi.pv _ rfl) ?_
        refine QW.yi (.pointer (some ⟨ba0, 0, none⟩)) rfl rfl (Yi.pv _ rfl) ?_
        refine QW.yi (.pointer (some ⟨ba0, 0, none⟩)) rfl rfl (Yi.nilCheck rfl (fun h => by cases h) (fun h => by cases h) (fun h => by cases h) (fun _ _ _ h => by cases h)) ?_
        refine QW.yi (.pointer (some ⟨ba0, 3, none⟩)) rfl rfl (Yi.fieldAddr (j := 1) Try.underlying74 rfl Try.sizeOf44 rfl) ?_
        refine QW.yi (sa0_3) rfl rfl (Yi.load1 (i := 0) _ rfl rfl Try.isAgg44 rfl) ?_
        refine QW.yi (.int .i64 (a0_3.length : Int)) rfl rfl (Yi.lenS (cs := ec eb a0_3) (m := a0_3.length) Try.underlying44 rfl (rdW 1 rfl)) ?_
        refine QW.yi (.bool (decide ((a0_3.length : Int) ≤ (w64 (a0_0 + 1))))) rfl rfl (Yi.pv _ rfl) ?_
        refine QW.nil ?_
        refine EW.next ?_
        refine CW.fork 38 ((a0_3.length : Int) ≤ (w64 (a0_0 + 1))) rfl (fun h24 => ?_) (fun h24 => ?_)
        · replace hm := (if_pos h24).symm.trans hm
          refine CW.cond_true rfl ?_
          refine CW.seq ?_
          refine CW.region ?_
          refine RW.yi (.int .i64 3) rfl rfl (Yi.pv _ rfl) ?_
          refine RW.nil ?_
          refine EW.next ?_
          refine CW.ret ?_
          refine EW.thr ?_
          refine EW.thr ?_
          obtain rfl := Option.some.inj hm
          exact EW.done (rs := [.tmp 2]) rfl (.tmp (t := 2) (v := .int .i64 3) rfl .nil) (fun _ hM => ⟨(), rfl, (hM.pick [0, 1] rfl rfl)⟩)
        · replace hm := (if_neg h24).symm.trans hm
          refine CW.cond_false rfl ?_
          refine CW.skip ?_
          refine EW.next ?_
          refine CW.seq ?_
          refine CW.seq ?_
          refine CW.draws (by kernel_rfl) (by kernel_rfl) ?_
          refine QW.yi (.pointer (some ⟨ba0, 0, none⟩)) rfl rfl (Yi.pv _ rfl) ?_
          refine QW.yi (.pointer (some ⟨ba0, 0, none⟩)) rfl rfl (Yi.nilCheck rfl (fun h => by cases h) (fun h => by cases h) (fun h => by cases h) (fun _ _ _ h => by cases h)) ?_
          refine QW.yi (.pointer (some ⟨ba0, 3, none⟩)) rfl rfl (Yi.fieldAddr (j := 1) Try.underlying74 rfl Try.sizeOf44 rfl) ?_
          refine QW.yi (sa0_3) rfl rfl (Yi.load1 (i := 0) _ rfl rfl Try.isAgg44 rfl) ?_
          refine QW.yi (.pointer (some ⟨ba0, 0, none⟩)) rfl rfl (Yi.pv _ rfl) ?_
          refine QW.yi (.pointer (some ⟨ba0, 0, none⟩)) rfl rfl (Yi.nilCheck rfl (fun h => by cases h) (fun h => by cases h) (fun h => by cases h) (fun _ _ _ h => by cases h)) ?_
          refine QW.yi (.pointer (some ⟨ba0, 0, none⟩)) rfl rfl (Yi.fieldAddr (j := 0) Try.underlying74 rfl Try.sizeOf72 rfl) ?_
          refine QW.yi (.pointer (some ⟨ba0, 0, none⟩)) rfl rfl (Yi.fieldAddr (j := 0) Try.underlying72 rfl Try.sizeOf3 rfl) ?_
          refine QW.yi (.int .i64 a0_0) rfl rfl (Yi.load1 (i := 0) _ rfl rfl Try.isAgg3 rfl) ?_
          refine QW.yi (.int .i64 (w64 (a0_0 + 1))) rfl rfl (Yi.pv _ rfl) ?_
          obtain ⟨g25, hm⟩ := of_guard hm
          refine QW.yi (.pointer (some (eaddr sa0_3 1 ((w64 (a0_0 + 1)).toNat) 0))) rfl rfl (Yi.idxS (m := a0_3.length) Try.underlying44 Try.sizeOf5 rfl rfl (rdW 1 rfl) g25.1 g25.2) ?_
          refine QW.yi (.int .u8 (a0_3.getD ((w64 (a0_0 + 1)).toNat) 0)) rfl rfl (Yi.loadS (m := a0_3.length) (cs := ec eb a0_3) _ rfl (rdW 1 rfl) Try.isAgg5 (by omega) (by omega) (by rw [ec_get (d := 0) eb_is (by omega) (by decide)]; rfl)) ?_
          refine QW.yi (.bool (decide (¬ (a0_3.getD ((w64 (a0_0 + 1)).toNat) 0) = 0))) rfl rfl (Yi.pv _ rfl) ?_
          refine QW.nil ?_
          refine EW.next ?_
          refine CW.fork 51 (¬ (a0_3.getD ((w64 (a0_0 + 1)).toNat) 0) = 0) rfl (fun h26 => ?_) (fun h26 => ?_)
          · replace hm := (if_pos h26).symm.trans hm
            refine CW.cond_true rfl ?_
            refine CW.seq ?_
            refine CW.region ?_
            refine RW.yi (.int .i64 7) rfl rfl (Yi.pv _ rfl) ?_
            refine RW.nil ?_
            refine EW.next ?_
            refine CW.ret ?_
            refine EW.thr ?_
            refine EW.thr ?_
            obtain rfl := Option.some.inj hm
            exact EW.done (rs := [.tmp 2]) rfl (.tmp (t := 2) (v := .int .i64 7) rfl .nil) (fun _ hM => ⟨(), rfl, (hM.pick [0, 1] rfl rfl)⟩)
          · replace hm := (if_neg h26).symm.trans hm
            refine CW.cond_false rfl ?_
            refine CW.skip ?_
            refine EW.next ?_
            refine CW.region ?_
            refine RW.yi (.int .i64 2) rfl rfl (Yi.pv _ rfl) ?_
            refine RW.nil ?_
            refine EW.thn ?_
            exact fun a w hs hM => ⟨2, hs.sub ⟨rfl, rfl, trivial⟩, (hM.pick [0, 1] rfl rfl), hm⟩
      · replace hm := (if_neg h23).symm.trans hm
        refine CW.cond_false rfl ?_
        refine CW.skip ?_
        refine EW.thn ?_
        exact fun a w hs hM => ⟨1, hs.sub ⟨rfl, rfl, trivial⟩, (hM.pick [0, 1] rfl rfl), hm⟩
    · rintro a w ⟨v19, hs, hM, hm⟩
      unfold bits_Reader_next_j1 at hm
      refine CW.enter hs hM ?_
      refine CW.seq ?_
      obtain ⟨g20, hm⟩ := of_guard hm
      refine CW.held (m := 22) [.row sa0_3 5 1 a0_3.length (ec eb a0_3)] (by kernel_rfl) (by kernel_rfl) (by kernel_rfl) (fun A21 hA21 hns => ?_)
      have hA21_1111111111111111111111 : A21 0 #[true, true, true, true, true, true, true, true, true, true, true, true, true, true, true, true, true, true, true, true, true, true] [(0, .pointer (some ⟨ba0, 0, none⟩)), (3, .int .i64 v19)] [.blk ba0 74 (#[.int .i64 a0_0, .int .i64 (w64 ((a0_3.getD a0_0.toNat 0))), .int .i64 8, sa0_3]), .row sa0_3 5 1 a0_3.length (ec eb a0_3)] := by
        rw [hA21]
        refine AW.fin (by kernel_rfl) ?_
        refine EW.next ?_
        refine CW.seq ?_
        refine CW.region ?_
        refine RW.yi (.pointer (some ⟨ba0, 0, none⟩)) rfl rfl (Yi.pv _ rfl) ?_
        refine RW.yi (.pointer (some ⟨ba0, 0, none⟩)) rfl rfl (Yi.nilCheck rfl (fun h => by cases h) (fun h => by cases h) (fun h => by cases h) (fun _ _ _ h => by cases h)) ?_
        refine RW.yi (.pointer (some ⟨ba0, 0, none⟩)) rfl rfl (Yi.fieldAddr (j := 0) Try.underlying74 rfl Try.sizeOf72 rfl) ?_
        refine RW.yi (.pointer (some ⟨ba0, 0, none⟩)) rfl rfl (Yi.fieldAddr (j := 0) Try.underlying72 rfl Try.sizeOf3 rfl) ?_
        refine RW.yi (.int .i64 a0_0) rfl rfl (Yi.load1 (i := 0) _ rfl rfl Try.isAgg3 rfl) ?_
        refine RW.yi (.int .i64 v19) rfl rfl (Yi.pv _ rfl) ?_
        refine RW.yi (.int .i64 (w64 (a0_0 + v19))) rfl rfl (Yi.pv _ rfl) ?_
        refine RW.yi (.pointer (some ⟨ba0, 0, none⟩)) rfl rfl (Yi.nilCheck rfl (fun h => by cases h) (fun h => by cases h) (fun h => by cases h) (fun _ _ _ h => by cases h)) ?_
        refine RW.yi (.pointer (some ⟨ba0, 0, none⟩)) rfl rfl (Yi.fieldAddr (j := 0) Try.underlying74 rfl Try.sizeOf72 rfl) ?_
        refine RW.yi (.pointer (some ⟨ba0, 0, none⟩)) rfl rfl (Yi.fieldAddr (j := 0) Try.underlying72 rfl Try.sizeOf3 rfl) ?_
        refine RW.store1 (i := 0) (cs' := #[.int .i64 (w64 (a0_0 + v19)), .int .i64 (w64 ((a0_3.getD a0_0.toNat 0))), .int .i64 8, sa0_3]) rfl rfl rfl rfl Try.sizeOf3 rfl rfl (Nat.le_of_ble_eq_true rfl) rfl ?_
        refine RW.nil ?_
        refine EW.next ?_
        refine CW.seq ?_
        refine CW.region ?_
        refine RW.yi (.int .i64 0) rfl rfl (Yi.pv _ rfl) ?_
        refine RW.nil ?_
        refine EW.next ?_
        refine CW.ret ?_
        obtain rfl := Option.some.inj hm
        exact EW.done (rs := [.tmp 2]) rfl (.tmp (t := 2) (v := .int .i64 0) rfl .nil) (fun _ hM => ⟨(), rfl, (hM.pick [0, 1] rfl rfl)⟩)
      have hA21_1111111111111111111110 : A21 1 #[true, true, true, true, true, true, true, true, true, true, true, true, true, true, true, true, true, true, true, true, true, false] [(0, .pointer (some ⟨ba0, 0, none⟩)), (3, .int .i64 v19), (71, .pointer (some ⟨ba0, 2, none⟩))] [.blk ba0 74 (#[.int .i64 a0_0, .int .i64 (w64 ((a0_3.getD a0_0.toNat 0))), .int .i64 a0_2, sa0_3]), .row sa0_3 5 1 a0_3.length (ec eb a0_3)] := by
        rw [hA21]
        refine AW.step 21 [] (by kernel_rfl) ⟨⟨_, rfl, ?_⟩, trivial⟩
        · refine RW.store1 (i := 0) (cs' := #[.int .i64 a0_0, .int .i64 (w64 ((a0_3.getD a0_0.toNat 0))), .int .i64 8, sa0_3]) rfl rfl rfl rfl Try.sizeOf3 rfl rfl (Nat.le_of_ble_eq_true rfl) rfl ?_
          refine RW.nil ?_
          refine AW.on (done' := #[true, true, true, true, true, true, true, true, true, true, true, true, true, true, true, true, true, true, true, true, true, true]) rfl [1] rfl rfl ?_
          have ht := hA21_1111111111111111111111
          rw [hA21] at ht
          refine AW.to [0, 1] rfl rfl ?_ ht
          exact ⟨rfl, rfl, trivial⟩
      have hA21_1111111111111111100000 : A21 5 #[true, true, true, true, true, true, true, true, true, true, true, true, true, true, true, true, true, false, false, false, false, false] [(0, .pointer (some ⟨ba0, 0, none⟩)), (3, .int .i64 v19), (53, .pointer (some ⟨ba0, 0, none⟩)), (65, .int .i64 (w64 ((a0_3.getD a0_0.toNat 0)))), (68, .pointer (some ⟨ba0, 1, none⟩))] [.blk ba0 74 (#[.int .i64 a0_0, .int .i64 a0_1, .int .i64 a0_2, sa0_3]), .row sa0_3 5 1 a0_3.length (ec eb a0_3)] := by
        rw [hA21]
        refine AW.step 17 [] (by kernel_rfl) ⟨⟨_, rfl, ?_⟩, trivial⟩
        · refine RW.store1 (i := 0) (cs' := #[.int .i64 a0_0, .int .i64 (w64 ((a0_3.getD a0_0.toNat 0))), .int .i64 a0_2, sa0_3]) rfl rfl rfl rfl Try.sizeOf3 rfl rfl (Nat.le_of_ble_eq_true rfl) rfl ?_
          refine RW.nil ?_
          refine AW.on (done' := #[true, true, true, true, true, true, true, true, true, true, true, true, true, true, true, true, true, true, false, false, false, false]) rfl [1] rfl rfl ?_
          refine AW.take 18 (done' := #[true, true, true, true, true, true, true, true, true, true, true, true, true, true, true, true, true, true, true, false, false, false]) (.pointer (some ⟨ba0, 0, none⟩)) [1] hns rfl rfl rfl (by kernel_rfl) (by kernel_rfl) rfl rfl rfl (by kernel_rfl) (fun _ _ => Yi.nilCheck rfl (fun h => by cases h) (fun h => by cases h) (fun h => by cases h) (fun _ _ _ h => by cases h)) ?_
          refine AW.take 19 (done' := #[true, true, true, true, true, true, true, true, true, true, true, true, true, true, true, true, true, true, true, true, false, false]) (.pointer (some ⟨ba0, 0, none⟩)) [1] hns rfl rfl rfl (by kernel_rfl) (by kernel_rfl) rfl rfl rfl (by kernel_rfl) (fun _ _ => Yi.fieldAddr (j := 0) Try.underlying74 rfl Try.sizeOf72 rfl) ?_
          refine AW.take 20 (done' := #[true, true, true, true, true, true, true, true, true, true, true, true, true, true, true, true, true, true, true, true, true, false]) (.pointer (some ⟨ba0, 2, none⟩)) [1] hns rfl rfl rfl (by kernel_rfl) (by kernel_rfl) rfl rfl rfl (by kernel_rfl) (fun _ _ => Yi.fieldAddr (j := 2) Try.underlying72 rfl Try.sizeOf3 rfl) ?_
          have ht := hA21_1111111111111111111110
          rw [hA21] at ht
          refine AW.to [0, 1] rfl rfl ?_ ht
          exact ⟨rfl, rfl, rfl, trivial⟩
      have hA21_1111111111000000000000 : A21 12 #[true, true, true, true, true, true, true, true, true, true, false, false, false, false, false, false, false, false, false, false, false, false] [(0, .pointer (some ⟨ba0, 0, none⟩)), (3, .int .i64 v19), (52, .pointer (some ⟨ba0, 0, none⟩)), (53, .pointer (some ⟨ba0, 0, none⟩)), (57, sa0_3), (61, .pointer (some ⟨ba0, 0, none⟩))] [.blk ba0 74 (#[.int .i64 a0_0, .int .i64 a0_1, .int .i64 a0_2, sa0_3]), .row sa0_3 5 1 a0_3.length (ec eb a0_3)] := by
        rw [hA21]
        refine AW.step 10 [] (by kernel_rfl) ⟨⟨_, rfl, ?_⟩, trivial⟩
        · refine RW.yi (.int .i64 a0_0) rfl rfl (Yi.load1 (i := 0) _ rfl rfl Try.isAgg3 rfl) ?_
          refine RW.nil ?_
          refine AW.on (done' := #[true, true, true, true, true, true, true, true, true, true, true, false, false, false, false, false, false, false, false, false, false, false]) rfl [1] rfl rfl ?_
          refine AW.take 11 (done' := #[true, true, true, true, true, true, true, true, true, true, true, true, false, false, false, false, false, false, false, false, false, false]) (.pointer (some (eaddr sa0_3 1 a0_0.toNat 0))) [1] hns rfl rfl rfl (by kernel_rfl) (by kernel_rfl) rfl rfl rfl (by kernel_rfl) (fun _ _ => Yi.idxS (m := a0_3.length) Try.underlying44 Try.sizeOf5 rfl rfl (rdW 0 rfl) g20.1 g20.2) ?_
          refine AW.take 12 (done' := #[true, true, true, true, true, true, true, true, true, true, true, true, true, false, false, false, false, false, false, false, false, false]) (.int .u8 (a0_3.getD a0_0.toNat 0)) [1] hns rfl rfl rfl (by kernel_rfl) (by kernel_rfl) rfl rfl rfl (by kernel_rfl) (fun _ _ => Yi.loadS (m := a0_3.length) (cs := ec eb a0_3) _ rfl (rdW 0 rfl) Try.isAgg5 (by omega) (by omega) (by rw [ec_get (d := 0) eb_is (by omega) (by decide)]; rfl)) ?_
          refine AW.take 13 (done' := #[true, true, true, true, true, true, true, true, true, true, true, true, true, true, false, false, false, false, false, false, false, false]) (.int .i64 (w64 ((a0_3.getD a0_0.toNat 0)))) [1] hns rfl rfl rfl (by kernel_rfl) (by kernel_rfl) rfl rfl rfl (by kernel_rfl) (fun _ _ => Yi.conv ⟨_, Try.underlying5⟩ Try.underlying3 rfl) ?_
          refine AW.take 14 (done' := #[true, true, true, true, true, true, true, true, true, true, true, true, true, true, true, false, false, false, false, false, false, false]) (.pointer (some ⟨ba0, 0, none⟩)) [1] hns rfl rfl rfl (by kernel_rfl) (by kernel_rfl) rfl rfl rfl (by kernel_rfl) (fun _ _ => Yi.nilCheck rfl (fun h => by cases h) (fun h => by cases h) (fun h => by cases h) (fun _ _ _ h => by cases h)) ?_
          refine AW.take 15 (done' := #[true, true, true, true, true, true, true, true, true, true, true, true, true, true, true, true, false, false, false, false, false, false]) (.pointer (some ⟨ba0, 0, none⟩)) [1] hns rfl rfl rfl (by kernel_rfl) (by kernel_rfl) rfl rfl rfl (by kernel_rfl) (fun _ _ => Yi.fieldAddr (j := 0) Try.underlying74 rfl Try.sizeOf72 rfl) ?_
          refine AW.take 16 (done' := #[true, true, true, true, true, true, true, true, true, true, true, true, true, true, true, true, true, false, false, false, false, false]) (.pointer (some ⟨ba0, 1, none⟩)) [1] hns rfl rfl rfl (by kernel_rfl) (by kernel_rfl) rfl rfl rfl (by kernel_rfl) (fun _ _ => Yi.fieldAddr (j := 1) Try.underlying72 rfl Try.sizeOf3 rfl) ?_
          have ht := hA21_1111111111111111100000
          rw [hA21] at ht
          refine AW.to [0, 1] rfl rfl ?_ ht
          exact ⟨rfl, rfl, rfl, rfl, rfl, trivial⟩
      have hA21_1111101111100000000000 : A21 12 #[true, true, true, true, true, false, true, true, true, true, true, false, false, false, false, false, false, false, false, false, false, false] [(0, .pointer (some ⟨ba0, 0, none⟩)), (3, .int .i64 v19), (52, .pointer (some ⟨ba0, 0, none⟩)), (53, .pointer (some ⟨ba0, 0, none⟩)), (56, .pointer (some ⟨ba0, 3, none⟩)), (62, .int .i64 a0_0)] [.blk ba0 74 (#[.int .i64 a0_0, .int .i64 a0_1, .int .i64 a0_2, sa0_3]), .row sa0_3 5 1 a0_3.length (ec eb a0_3)] := by
        rw [hA21]
        refine AW.step 5 [] (by kernel_rfl) ⟨⟨_, rfl, ?_⟩, trivial⟩
        · refine RW.yi (sa0_3) rfl rfl (Yi.load1 (i := 0) _ rfl rfl Try.isAgg44 rfl) ?_
          refine RW.nil ?_
          refine AW.on (done' := #[true, true, true, true, true, true, true, true, true, true, true, false, false, false, false, false, false, false, false, false, false, false]) rfl [1] rfl rfl ?_
          refine AW.take 11 (done' := #[true, true, true, true, true, true, true, true, true, true, true, true, false, false, false, false, false, false, false, false, false, false]) (.pointer (some (eaddr sa0_3 1 a0_0.toNat 0))) [1] hns rfl rfl rfl (by kernel_rfl) (by kernel_rfl) rfl rfl rfl (by kernel_rfl) (fun _ _ => Yi.idxS (m := a0_3.length) Try.underlying44 Try.sizeOf5 rfl rfl (rdW 0 rfl) g20.1 g20.2) ?_
          refine AW.take 12 (done' := #[true, true, true, true, true, true, true, true, true, true, true, true, true, false, false, false, false, false, false, false, false, false]) (.int .u8 (a0_3.getD a0_0.toNat 0)) [1] hns rfl rfl rfl (by kernel_rfl) (by kernel_rfl) rfl rfl rfl (by kernel_rfl) (fun _ _ => Yi.loadS (m := a0_3.length) (cs := ec eb a0_3) _ rfl (rdW 0 rfl) Try.isAgg5 (by omega) (by omega) (by rw [ec_get (d := 0) eb_is (by omega) (by decide)]; rfl)) ?_
          refine AW.take 13 (done' := #[true, true, true, true, true, true, true, true, true, true, true, true, true, true, false, false, false, false, false, false, false, false]) (.int .i64 (w64 ((a0_3.getD a0_0.toNat 0)))) [1] hns rfl rfl rfl (by kernel_rfl) (by kernel_rfl) rfl rfl rfl (by kernel_rfl) (fun _ _ => Yi.conv ⟨_, Try.underlying5⟩ Try.underlying3 rfl) ?_
          refine AW.take 14 (done' := #[true, true, true, true, true, true, true, true, true, true, true, true, true, true, true, false, false, false, false, false, false, false]) (.pointer (some ⟨ba0, 0, none⟩)) [1] hns rfl rfl rfl (by kernel_rfl) (by kernel_rfl) rfl rfl rfl (by kernel_rfl) (fun _ _ => Yi.nilCheck rfl (fun h => by cases h) (fun h => by cases h) (fun h => by cases h) (fun _ _ _ h => by cases h)) ?_
          refine AW.take 15 (done' := #[true, true, true, true, true, true, true, true, true, true, true, true, true, true, true, true, false, false, false, false, false, false]) (.pointer (some ⟨ba0, 0, none⟩)) [1] hns rfl rfl rfl (by kernel_rfl) (by kernel_rfl) rfl rfl rfl (by kernel_rfl) (fun _ _ => Yi.fieldAddr (j := 0) Try.underlying74 rfl Try.sizeOf72 rfl) ?_
          refine AW.take 16 (done' := #[true, true, true, true, true, true, true, true, true, true, true, true, true, true, true, true, true, false, false, false, false, false]) (.pointer (some ⟨ba0, 1, none⟩)) [1] hns rfl rfl rfl (by kernel_rfl) (by kernel_rfl) rfl rfl rfl (by kernel_rfl) (fun _ _ => Yi.fieldAddr (j := 1) Try.underlying72 rfl Try.sizeOf3 rfl) ?_
          have ht := hA21_1111111111111111100000
          rw [hA21] at ht
          refine AW.to [0, 1] rfl rfl ?_ ht
          exact ⟨rfl, rfl, rfl, rfl, rfl, trivial⟩
      have hA21_1111101111000000000000 : A21 13 #[true, true, true, true, true, false, true, true, true, true, false, false, false, false, false, false, false, false, false, false, false, false] [(0, .pointer (some ⟨ba0, 0, none⟩)), (3, .int .i64 v19), (52, .pointer (some ⟨ba0, 0, none⟩)), (53, .pointer (some ⟨ba0, 0, none⟩)), (56, .pointer (some ⟨ba0, 3, none⟩)), (61, .pointer (some ⟨ba0, 0, none⟩))] [.blk ba0 74 (#[.int .i64 a0_0, .int .i64 a0_1, .int .i64 a0_2, sa0_3]), .row sa0_3 5 1 a0_3.length (ec eb a0_3)] := by
        rw [hA21]
        refine AW.step 5 [10] (by kernel_rfl) ⟨⟨_, rfl, ?_⟩, ⟨_, rfl, ?_⟩, trivial⟩
        · refine RW.yi (sa0_3) rfl rfl (Yi.load1 (i := 0) _ rfl rfl Try.isAgg44 rfl) ?_
          refine RW.nil ?_
          refine AW.on (done' := #[true, true, true, true, true, true, true, true, true, true, false, false, false, false, false, false, false, false, false, false, false, false]) rfl [1] rfl rfl ?_
          have ht := hA21_1111111111000000000000
          rw [hA21] at ht
          refine AW.to [0, 1] rfl rfl ?_ ht
          exact ⟨rfl, rfl, rfl, rfl, rfl, rfl, trivial⟩
        · refine RW.yi (.int .i64 a0_0) rfl rfl (Yi.load1 (i := 0) _ rfl rfl Try.isAgg3 rfl) ?_
          refine RW.nil ?_
          refine AW.on (done' := #[true, true, true, true, true, false, true, true, true, true, true, false, false, false, false, false, false, false, false, false, false, false]) rfl [1] rfl rfl ?_
          have ht := hA21_1111101111100000000000
          rw [hA21] at ht
          refine AW.to [0, 1] rfl rfl ?_ ht
          exact ⟨rfl, rfl, rfl, rfl, rfl, rfl, trivial⟩
      rw [hA21]
      refine AW.take 0 (done' := #[true, false, false, false, false, false, false, false, false, false, false, false, false, false, false, false, false, false, false, false, false, false]) (.pointer (some ⟨ba0, 0, none⟩)) [1] hns rfl rfl rfl (by kernel_rfl) (by kernel_rfl) rfl rfl rfl (by kernel_rfl) (fun _ _ => Yi.pv _ rfl) ?_
      refine AW.take 1 (done' := #[true, true, false, false, false, false, false, false, false, false, false, false, false, false, false, false, false, false, false, false, false, false]) (.pointer (some ⟨ba0, 0, none⟩)) [1] hns rfl rfl rfl (by kernel_rfl) (by kernel_rfl) rfl rfl rfl (by kernel_rfl) (fun _ _ => Yi.pv _ rfl) ?_
      refine AW.take 2 (done' := #[true, true, true, false, false, false, false, false, false, false, false, false, false, false, false, false, false, false, false, false, false, false]) (.pointer (some ⟨ba0, 0, none⟩)) [1] hns rfl rfl rfl (by kernel_rfl) (by kernel_rfl) rfl rfl rfl (by kernel_rfl) (fun _ _ => Yi.pv _ rfl) ?_
      refine AW.take 3 (done' := #[true, true, true, true, false, false, false, false, false, false, false, false, false, false, false, false, false, false, false, false, false, false]) (.pointer (some ⟨ba0, 0, none⟩)) [1] hns rfl rfl rfl (by kernel_rfl) (by kernel_rfl) rfl rfl rfl (by kernel_rfl) (fun _ _ => Yi.nilCheck rfl (fun h => by cases h) (fun h => by cases h) (fun h => by cases h) (fun _ _ _ h => by cases h)) ?_
      refine AW.take 4 (done' := #[true, true, true, true, true, false, false, false, false, false, false, false, false, false, false, false, false, false, false, false, false, false]) (.pointer (some ⟨ba0, 3, none⟩)) [1] hns rfl rfl rfl (by kernel_rfl) (by kernel_rfl) rfl rfl rfl (by kernel_rfl) (fun _ _ => Yi.fieldAddr (j := 1) Try.underlying74 rfl Try.sizeOf44 rfl) ?_
      refine AW.take 6 (done' := #[true, true, true, true, true, false, true, false, false, false, false, false, false, false, false, false, false, false, false, false, false, false]) (.pointer (some ⟨ba0, 0, none⟩)) [1] hns rfl rfl rfl (by kernel_rfl) (by kernel_rfl) rfl rfl rfl (by kernel_rfl) (fun _ _ => Yi.pv _ rfl) ?_
      refine AW.take 7 (done' := #[true, true, true, true, true, false, true, true, false, false, false, false, false, false, false, false, false, false, false, false, false, false]) (.pointer (some ⟨ba0, 0, none⟩)) [1] hns rfl rfl rfl (by kernel_rfl) (by kernel_rfl) rfl rfl rfl (by kernel_rfl) (fun _ _ => Yi.nilCheck rfl (fun h => by cases h) (fun h => by cases h) (fun h => by cases h) (fun _ _ _ h => by cases h)) ?_
      refine AW.take 8 (done' := #[true, true, true, true, true, false, true, true, true, false, false, false, false, false, false, false, false, false, false, false, false, false]) (.pointer (some ⟨ba0, 0, none⟩)) [1] hns rfl rfl rfl (by kernel_rfl) (by kernel_rfl) rfl rfl rfl (by kernel_rfl) (fun _ _ => Yi.fieldAddr (j := 0) Try.underlying74 rfl Try.sizeOf72 rfl) ?_
      refine AW.take 9 (done' := #[true, true, true, true, true, false, true, true, true, true, false, false, false, false, false, false, false, false, false, false, false, false]) (.pointer (some ⟨ba0, 0, none⟩)) [1] hns rfl rfl rfl (by kernel_rfl) (by kernel_rfl) rfl rfl rfl (by kernel_rfl) (fun _ _ => Yi.fieldAddr (j := 0) Try.underlying72 rfl Try.sizeOf3 rfl) ?_
      have ht := hA21_1111101111000000000000
      rw [hA21] at ht
      refine AW.to [0, 1] rfl rfl ?_ ht
      exact ⟨rfl, rfl, rfl, rfl, rfl, rfl, trivial⟩

end Go.Proofs.Ytoepbakbpimkiaa
