import Derived.Test.YtpfnjmaadghhoaaN7
import Derived.Test.YtpfnjmaadghhoaaProg
import Derived.Test.YtpfnjmaadghhoaaGbitsReaderBit
set_option maxRecDepth 100000
set_option maxHeartbeats 1000000
namespace Go.Proofs.Ytpfnjmaadghhoaa
open Go Go.RowKit K

def bits_Reader_Get_j1 (_ : Nat) (v22 : Int) (v23 : Int) (v24 : Int) (v25 : Int) (v26 : Int) : Option (Int × Int × Int × Int × Int) :=
  some (v22, v23, v24, v25, v26)

def bits_Reader_Get_l1 (K : Nat) (a0_r_0 : Int) (a0_r_1 : Int) (a0_r_2 : Int) (a0_r_3 : (List Int)) (a1_count : Int) : Nat → Int → Int → Int → Int → Int → Int →  Option (Int × Int × Int × Int × Int)
  | 0, _, _, _, _, _, _ => none
  | k1 + 1, v34, v35, v36, v38, v39, v40 =>
    (if v40 < a1_count then ((bits_Reader_Bit K v34 v35 v36 a0_r_3).bind fun r49 => (if ¬ r49.2.1 = 0 then bits_Reader_Get_j1 K 0 r49.2.1 a0_r_0 a0_r_1 a0_r_2 else (bits_Reader_Get_l1 K a0_r_0 a0_r_1 a0_r_2 a0_r_3 a1_count k1) r49.2.2.1 r49.2.2.2.1 r49.2.2.2.2 (bitI .or .i64 (shlI .i64 v38 1) r49.1) r49.2.1 (w64 (v40 + 1)))) else bits_Reader_Get_j1 K v38 v39 v34 v35 v36)

def bits_Reader_Get (K : Nat) (a0_r_0 : Int) (a0_r_1 : Int) (a0_r_2 : Int) (a0_r_3 : (List Int)) (a1_count : Int) : Option (Int × Int × Int × Int × Int) :=
  (if a1_count < 0 then some (0, 2, a0_r_0, a0_r_1, a0_r_2) else (if 24 < a1_count then some (0, 2, a0_r_0, a0_r_1, a0_r_2) else bits_Reader_Get_l1 K a0_r_0 a0_r_1 a0_r_2 a0_r_3 a1_count K a0_r_0 a0_r_1 a0_r_2 0 0 0))

theorem c_bits_Reader_Get (K : Nat) (a0_r_0 : Int) (a0_r_1 : Int) (a0_r_2 : Int) (a0_r_3 : (List Int)) (a1_count : Int) (ba0_r : Nat) (sa0_r_3 : Value) (r : Int × Int × Int × Int × Int) (w0 : World) (S : Own) (hM0 : Mem w0 S [.blk ba0_r 67 (#[.int .i64 a0_r_0, .int .i64 a0_r_1, .int .i64 a0_r_2, sa0_r_3]), .row sa0_r_3 5 1 a0_r_3.length (ec eb a0_r_3)] w0) (hm : bits_Reader_Get K a0_r_0 a0_r_1 a0_r_2 a0_r_3 a1_count = some r) : Calls Try.prog 21 #[.pointer (some ⟨ba0_r, 0, none⟩), .int .i64 a1_count] w0 fun e w' => ∃ _u : Unit, e = .returned (.tuple #[.int .i64 r.1, .int .i64 r.2.1]) ∧ Mem w0 S [.blk ba0_r 67 (#[.int .i64 r.2.2.1, .int .i64 r.2.2.2.1, .int .i64 r.2.2.2.2, sa0_r_3]), .row sa0_r_3 5 1 a0_r_3.length (ec eb a0_r_3)] w' := by
  unfold bits_Reader_Get at hm
  refine calls_CW (n := 43) w0 S [.blk ba0_r 67 (#[.int .i64 a0_r_0, .int .i64 a0_r_1, .int .i64 a0_r_2, sa0_r_3]), .row sa0_r_3 5 1 a0_r_3.length (ec eb a0_r_3)] Try.func21 rfl rfl rfl hM0 ?_
  refine CW.seq ?_
  refine CW.region ?_
  refine RW.yi (.int .i64 0) rfl rfl (Yi.pv _ rfl) ?_
  refine RW.yi (.int .i64 0) rfl rfl (Yi.pv _ rfl) ?_
  refine RW.nil ?_
  refine EW.next ?_
  refine CW.scope ?_
  refine CW.seq ?_
  refine CW.seq ?_
  refine CW.region ?_
  refine RW.yi (.pointer (some ⟨ba0_r, 0, none⟩)) rfl rfl (Yi.pv _ rfl) ?_
  refine RW.yi (.bool false) rfl rfl (Yi.eqNil false rfl rfl Try.underlying38 (.inr ⟨rfl, rfl⟩)) ?_
  refine RW.nil ?_
  refine EW.next ?_
  refine CW.cond_false rfl ?_
  refine CW.skip ?_
  refine EW.next ?_
  refine CW.seq ?_
  refine CW.seq ?_
  refine CW.region ?_
  refine RW.yi (.int .i64 a1_count) rfl rfl (Yi.pv _ rfl) ?_
  refine RW.yi (.bool (decide (a1_count < 0))) rfl rfl (Yi.pv _ rfl) ?_
  refine RW.yi (.bool (decide (a1_count < 0))) rfl rfl (Yi.pv _ rfl) ?_
  refine RW.fork 14 (a1_count < 0) rfl (fun h13 => ?_) (fun h13 => ?_)
  · replace hm := (if_pos h13).symm.trans hm
    refine RW.pass rfl rfl ?_
    refine RW.pass rfl rfl ?_
    refine RW.yi (.bool true) rfl rfl (Yi.pv _ rfl) ?_
    refine RW.nil ?_
    refine EW.next ?_
    refine CW.cond_true rfl ?_
    refine CW.seq ?_
    refine CW.region ?_
    refine RW.yi (.int .i64 0) rfl rfl (Yi.pv _ rfl) ?_
    refine RW.yi (.int .i64 2) rfl rfl (Yi.pv _ rfl) ?_
    refine RW.nil ?_
    refine EW.next ?_
    refine CW.ret ?_
    refine EW.thr ?_
    refine EW.ngr ?_
    obtain rfl := Option.some.inj hm
    exact EW.done (rs := [.tmp 4, .tmp 5]) rfl (.tmp (t := 4) (v := .int .i64 0) rfl (.tmp (t := 5) (v := .int .i64 2) rfl .nil)) (fun _ hM => ⟨(), rfl, (hM.pick [0, 1] rfl rfl)⟩)
  · replace hm := (if_neg h13).symm.trans hm
    refine RW.yi (.int .i64 a1_count) rfl rfl (Yi.pv _ rfl) ?_
    refine RW.yi (.bool (decide (24 < a1_count))) rfl rfl (Yi.pv _ rfl) ?_
    refine RW.yi (.bool (decide (24 < a1_count))) rfl rfl (Yi.pv _ rfl) ?_
    refine RW.nil ?_
    refine EW.next ?_
    refine CW.fork 17 (24 < a1_count) rfl (fun h14 => ?_) (fun h14 => ?_)
    · replace hm := (if_pos h14).symm.trans hm
      refine CW.cond_true rfl ?_
      refine CW.seq ?_
      refine CW.region ?_
      refine RW.yi (.int .i64 0) rfl rfl (Yi.pv _ rfl) ?_
      refine RW.yi (.int .i64 2) rfl rfl (Yi.pv _ rfl) ?_
      refine RW.nil ?_
      refine EW.next ?_
      refine CW.ret ?_
      refine EW.thr ?_
      refine EW.ngr ?_
      obtain rfl := Option.some.inj hm
      exact EW.done (rs := [.tmp 4, .tmp 5]) rfl (.tmp (t := 4) (v := .int .i64 0) rfl (.tmp (t := 5) (v := .int .i64 2) rfl .nil)) (fun _ hM => ⟨(), rfl, (hM.pick [0, 1] rfl rfl)⟩)
    · replace hm := (if_neg h14).symm.trans hm
      refine CW.cond_false rfl ?_
      refine CW.skip ?_
      refine EW.next ?_
      refine CW.seq ?_
      refine CW.region ?_
      refine RW.yi (.pointer (some ⟨ba0_r, 0, none⟩)) rfl rfl (Yi.pv _ rfl) ?_
      refine RW.yi (.pointer (some ⟨ba0_r, 0, none⟩)) rfl rfl (Yi.nilCheck rfl (fun h => by cases h) (fun h => by cases h) (fun h => by cases h) (fun _ _ _ h => by cases h)) ?_
      refine RW.yi (.pointer (some ⟨ba0_r, 0, none⟩)) rfl rfl (Yi.fieldAddr (j := 0) Try.underlying67 rfl Try.sizeOf65 rfl) ?_
      refine RW.yi (.agg #[.int .i64 a0_r_0, .int .i64 a0_r_1, .int .i64 a0_r_2]) rfl rfl (Yi.to (Yi.loadA (i := 0) (j := 0) (m := 3) (cs := #[.int .i64 a0_r_0, .int .i64 a0_r_1, .int .i64 a0_r_2, sa0_r_3]) rfl rfl Try.isAgg65 Try.sizeOf65 (Nat.le_of_ble_eq_true rfl)) rfl) ?_
      refine RW.alloc (z := .agg #[.int .i64 0, .int .i64 0, .int .i64 0]) (#[.int .i64 0, .int .i64 0, .int .i64 0]) rfl rfl (fun _ => by kernel_rfl) rfl (fun b15 => ?_)
      refine RW.storeW (i := 0) (cs' := #[.int .i64 a0_r_0, .int .i64 a0_r_1, .int .i64 a0_r_2]) rfl rfl rfl rfl (by kernel_rfl) rfl (by kernel_rfl) ?_
      refine RW.yi (.int .i64 0) rfl rfl (Yi.pv _ rfl) ?_
      refine RW.nil ?_
      refine EW.next ?_
      refine CW.seq ?_
      refine CW.region ?_
      refine RW.yi (.int .i64 0) rfl rfl (Yi.pv _ rfl) ?_
      refine RW.nil ?_
      refine EW.next ?_
      refine CW.seq ?_
      refine CW.label ?_
      refine EW.next ?_
      refine CW.join (fun a w => ∃ (v22 : Int) (v23 : Int) (v24 : Int) (v25 : Int) (v26 : Int), St 43 [(7, .int .i64 v22), (8, .int .i64 v23)] a ∧ Mem w0 S [.blk ba0_r 67 (#[.int .i64 v24, .int .i64 v25, .int .i64 v26, sa0_r_3]), .row sa0_r_3 5 1 a0_r_3.length (ec eb a0_r_3)] w ∧ bits_Reader_Get_j1 K v22 v23 v24 v25 v26 = some r) ?_ ?_
      · refine CW.seq ?_
        refine CW.region ?_
        refine RW.yi (.int .i64 a1_count) rfl rfl (Yi.pv _ rfl) ?_
        refine RW.yi (.int .i64 0) rfl rfl (Yi.pv _ rfl) ?_
        refine RW.nil ?_
        refine EW.next ?_
        refine CW.block ?_
        refine CW.loop (fun k a w => ∃ (v34 : Int) (v35 : Int) (v36 : Int) (v38 : Int) (v39 : Int) (v40 : Int), St 43 [(0, .pointer (some ⟨ba0_r, 0, none⟩)), (6, .pointer (some ⟨b15, 0, none⟩)), (7, .int .i64 v38), (8, .int .i64 v39), (22, .int .i64 a1_count), (23, .int .i64 v40)] a ∧ Mem w0 S [.blk ba0_r 67 (#[.int .i64 v34, .int .i64 v35, .int .i64 v36, sa0_r_3]), .row sa0_r_3 5 1 a0_r_3.length (ec eb a0_r_3), .blk b15 65 (#[.int .i64 a0_r_0, .int .i64 a0_r_1, .int .i64 a0_r_2])] w ∧ bits_Reader_Get_l1 K a0_r_0 a0_r_1 a0_r_2 a0_r_3 a1_count k v34 v35 v36 v38 v39 v40 = some r) K ?_ ?_ ?_
        · rintro a w ⟨_, _, _, _, _, _, _, _, hm⟩
          rw [bits_Reader_Get_l1.eq_1] at hm
          cases hm
        · exact fun a w hs hM => ⟨a0_r_0, a0_r_1, a0_r_2, 0, 0, 0, hs.sub ⟨rfl, rfl, rfl, rfl, rfl, rfl, trivial⟩, (hM.pick [1, 2, 0] rfl rfl), hm⟩
        · rintro k1 a w ⟨v34, v35, v36, v38, v39, v40, hs, hM, hm⟩
          rw [bits_Reader_Get_l1.eq_2] at hm
          refine CW.enter hs hM ?_
          refine CW.seq ?_
          refine CW.region ?_
          refine RW.yi (.bool (decide (v40 < a1_count))) rfl rfl (Yi.pv _ rfl) ?_
          refine RW.nil ?_
          refine EW.next ?_
          refine CW.seq ?_
          refine CW.fork 24 (v40 < a1_count) rfl (fun h48 => ?_) (fun h48 => ?_)
          · replace hm := (if_pos h48).symm.trans hm
            refine CW.cond_true rfl ?_
            refine CW.skip ?_
            refine EW.next ?_
            refine CW.seq ?_
            refine CW.block ?_
            refine CW.seq ?_
            refine CW.region ?_
            refine RW.yi (.int .i64 0) rfl rfl (Yi.pv _ rfl) ?_
            refine RW.nil ?_
            refine EW.next ?_
            refine CW.seq ?_
            refine CW.seq ?_
            refine CW.region ?_
            refine RW.yi (.pointer (some ⟨ba0_r, 0, none⟩)) rfl rfl (Yi.pv _ rfl) ?_
            obtain ⟨r49, hr49, hm⟩ := of_bind hm
            refine RW.callM (cs := []) [.blk ba0_r 67 (#[.int .i64 v34, .int .i64 v35, .int .i64 v36, sa0_r_3]), .row sa0_r_3 5 1 a0_r_3.length (ec eb a0_r_3)] [.blk b15 65 (#[.int .i64 a0_r_0, .int .i64 a0_r_1, .int .i64 a0_r_2])] [] [0, 1, 2] (fun (_ : Unit) => [.blk ba0_r 67 (#[.int .i64 r49.2.2.1, .int .i64 r49.2.2.2.1, .int .i64 r49.2.2.2.2, sa0_r_3]), .row sa0_r_3 5 1 a0_r_3.length (ec eb a0_r_3)]) (fun (_ : Unit) => .tuple #[.int .i64 r49.1, .int .i64 r49.2.1]) rfl rfl rfl rfl Try.call18 rfl rfl rfl (fun w hM => lent0) (.inl fun _ => rfl) (fun w S' hM => c_bits_Reader_Bit K v34 v35 v36 a0_r_3 ba0_r sa0_r_3 r49 w S' hM hr49) (fun _ => ?_)
            refine RW.yi (.tuple #[.int .i64 r49.1, .int .i64 r49.2.1]) rfl rfl (Yi.pv _ rfl) ?_
            refine RW.yi (.int .i64 r49.1) rfl rfl (Yi.pv _ rfl) ?_
            refine RW.yi (.int .i64 r49.2.1) rfl rfl (Yi.pv _ rfl) ?_
            refine RW.yi (.int .i64 r49.1) rfl rfl (Yi.pv _ rfl) ?_
            refine RW.yi (.int .i64 r49.2.1) rfl rfl (Yi.pv _ rfl) ?_
            refine RW.nil ?_
            refine EW.next ?_
            refine CW.seq ?_
            refine CW.region ?_
            refine RW.yi (.int .i64 r49.2.1) rfl rfl (Yi.pv _ rfl) ?_
            refine RW.yi (.bool (decide (¬ r49.2.1 = 0))) rfl rfl (Yi.pv _ rfl) ?_
            refine RW.nil ?_
            refine EW.next ?_
            refine CW.fork 31 (¬ r49.2.1 = 0) rfl (fun h52 => ?_) (fun h52 => ?_)
            · replace hm := (if_pos h52).symm.trans hm
              refine CW.cond_true rfl ?_
              refine CW.seq ?_
              refine CW.region ?_
              refine RW.yi (.pointer (some ⟨ba0_r, 0, none⟩)) rfl rfl (Yi.pv _ rfl) ?_
              refine RW.yi (.agg #[.int .i64 a0_r_0, .int .i64 a0_r_1, .int .i64 a0_r_2]) rfl rfl (Yi.loadW (i := 2) rfl rfl Try.isAgg65 Try.sizeOf65) ?_
              refine RW.yi (.pointer (some ⟨ba0_r, 0, none⟩)) rfl rfl (Yi.nilCheck rfl (fun h => by cases h) (fun h => by cases h) (fun h => by cases h) (fun _ _ _ h => by cases h)) ?_
              refine RW.yi (.pointer (some ⟨ba0_r, 0, none⟩)) rfl rfl (Yi.fieldAddr (j := 0) Try.underlying67 rfl Try.sizeOf65 rfl) ?_
              refine RW.conv1 (fun w hM => ones_cat (ps := [p1 (.int .i64 a0_r_0), p1 (.int .i64 a0_r_1), p1 (.int .i64 a0_r_2)]) (ones_cons (fun _ => rfl) (ones_cons (fun _ => rfl) (ones_cons (fun _ => rfl) ones_nil)))) (fun hone => ?_)
              refine RW.storeQ (i := 0) (m := 3) (cs' := #[.int .i64 a0_r_0, .int .i64 a0_r_1, .int .i64 a0_r_2, sa0_r_3]) rfl rfl rfl rfl Try.sizeOf65 rfl (Nat.le_of_ble_eq_true rfl) hone (fun c' hs hget => (cat_spl (A := []) (X := [p1 (.int .i64 r49.2.2.1), p1 (.int .i64 r49.2.2.2.1), p1 (.int .i64 r49.2.2.2.2)]) (B := [p1 (sa0_r_3)]) (Y := [p1 (.int .i64 a0_r_0), p1 (.int .i64 a0_r_1), p1 (.int .i64 a0_r_2)]) rfl hs (by first | exact hget | (rw [cat_one]; exact hget)))) ?_
              refine RW.yi (.int .i64 0) rfl rfl (Yi.pv _ rfl) ?_
              refine RW.nil ?_
              refine EW.next ?_
              refine CW.exit ?_
              refine EW.thx ?_
              refine EW.bly rfl ?_
              refine EW.thx ?_
              refine EW.thx ?_
              refine EW.blx ?_
              refine EW.thn ?_
              exact fun a w hs hM => ⟨0, r49.2.1, a0_r_0, a0_r_1, a0_r_2, hs.sub ⟨rfl, rfl, trivial⟩, (hM.pick [0, 1] rfl rfl), hm⟩
            · replace hm := (if_neg h52).symm.trans hm
              refine CW.cond_false rfl ?_
              refine CW.skip ?_
              refine EW.next ?_
              refine CW.region ?_
              refine RW.yi (.int .i64 v38) rfl rfl (Yi.pv _ rfl) ?_
              refine RW.yi (.int .i64 (shlI .i64 v38 1)) rfl rfl (Yi.shl rfl rfl (by decide)) ?_
              refine RW.yi (.int .i64 r49.1) rfl rfl (Yi.pv _ rfl) ?_
              refine RW.yi (.int .i64 (bitI .or .i64 (shlI .i64 v38 1) r49.1)) rfl rfl (Yi.bits rfl rfl (by simp)) ?_
              refine RW.yi (.int .i64 (bitI .or .i64 (shlI .i64 v38 1) r49.1)) rfl rfl (Yi.pv _ rfl) ?_
              refine RW.nil ?_
              refine EW.bln ?_
              refine EW.next ?_
              refine CW.region ?_
              refine RW.yi (.int .i64 (w64 (v40 + 1))) rfl rfl (Yi.pv _ rfl) ?_
              refine RW.yi (.int .i64 (w64 (v40 + 1))) rfl rfl (Yi.pv _ rfl) ?_
              refine RW.nil ?_
              refine EW.thn ?_
              exact fun a w hs hM => ⟨r49.2.2.1, r49.2.2.2.1, r49.2.2.2.2, (bitI .or .i64 (shlI .i64 v38 1) r49.1), r49.2.1, (w64 (v40 + 1)), hs.sub ⟨rfl, rfl, rfl, rfl, rfl, rfl, trivial⟩, (hM.pick [0, 1, 2] rfl rfl), hm⟩
          · replace hm := (if_neg h48).symm.trans hm
            refine CW.cond_false rfl ?_
            refine CW.exit ?_
            refine EW.thx ?_
            refine EW.thx ?_
            refine EW.blx ?_
            refine EW.thn ?_
            exact fun a w hs hM => ⟨v38, v39, v34, v35, v36, hs.sub ⟨rfl, rfl, trivial⟩, (hM.pick [0, 1] rfl rfl), hm⟩
      · rintro a w ⟨v22, v23, v24, v25, v26, hs, hM, hm⟩
        unfold bits_Reader_Get_j1 at hm
        refine CW.enter hs hM ?_
        refine CW.seq ?_
        refine CW.region ?_
        refine RW.yi (.int .i64 v22) rfl rfl (Yi.pv _ rfl) ?_
        refine RW.yi (.int .i64 v23) rfl rfl (Yi.pv _ rfl) ?_
        refine RW.yi (.int .i64 v22) rfl rfl (Yi.pv _ rfl) ?_
        refine RW.yi (.int .i64 v23) rfl rfl (Yi.pv _ rfl) ?_
        refine RW.nil ?_
        refine EW.next ?_
        refine CW.ret ?_
        refine EW.ngr ?_
        obtain rfl := Option.some.inj hm
        exact EW.done (rs := [.tmp 4, .tmp 5]) rfl (.tmp (t := 4) (v := .int .i64 v22) rfl (.tmp (t := 5) (v := .int .i64 v23) rfl .nil)) (fun _ hM => ⟨(), rfl, (hM.pick [0, 1] rfl rfl)⟩)

end Go.Proofs.Ytpfnjmaadghhoaa
