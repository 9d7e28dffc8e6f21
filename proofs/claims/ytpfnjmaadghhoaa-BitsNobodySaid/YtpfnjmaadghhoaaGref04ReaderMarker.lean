import Derived.Test.YtpfnjmaadghhoaaN7
import Derived.Test.YtpfnjmaadghhoaaProg
set_option maxRecDepth 100000
set_option maxHeartbeats 1000000
namespace Go.Proofs.Ytpfnjmaadghhoaa
open Go Go.RowKit K

def ref04_Reader_Marker (_ : Nat) (a0_r_0 : (List Int)) (a0_r_1 : Int) (a0_r_2 : (List Int)) : Option (Int × Int × Int × (List Int)) :=
  (if (w64 ((a0_r_0.length : Int) - a0_r_1)) < 2 then some (a0_r_1, 0, 3, a0_r_2) else (if 0 ≤ (w64 (a0_r_1 + 1)) ∧ (w64 (a0_r_1 + 1)) < (a0_r_0.length : Int) then (if 0 ≤ a0_r_1 ∧ a0_r_1 < (a0_r_0.length : Int) then (if (a0_r_0.getD a0_r_1.toNat 0) < 255 then some (a0_r_1, 0, 4, a0_r_2) else (if (w64 ((a0_r_0.getD ((w64 (a0_r_1 + 1)).toNat) 0))) = 0 then some (a0_r_1, 0, 4, a0_r_2) else (if (w64 ((a0_r_0.getD ((w64 (a0_r_1 + 1)).toNat) 0))) = 255 then some (a0_r_1, 0, 4, a0_r_2) else some ((w64 (a0_r_1 + 2)), (w64 ((a0_r_0.getD ((w64 (a0_r_1 + 1)).toNat) 0))), 0, ([] : List Int))))) else none) else none))

theorem c_ref04_Reader_Marker (K : Nat) (a0_r_0 : (List Int)) (a0_r_1 : Int) (a0_r_2 : (List Int)) (sa0_r_0 : Value) (sa0_r_2 : Value) (r : Int × Int × Int × (List Int)) (w0 : World) (S : Own) (hM0 : Mem w0 S [ro sa0_r_0 1 a0_r_0.length (ec eb a0_r_0), ro sa0_r_2 1 a0_r_2.length (ec e1 a0_r_2)] w0) (hm : ref04_Reader_Marker K a0_r_0 a0_r_1 a0_r_2 = some r) : Calls Try.prog 26 #[.agg #[sa0_r_0, .int .i64 a0_r_1, sa0_r_2]] w0 fun e w' => ∃ u : Value, e = .returned (.tuple #[.agg #[sa0_r_0, .int .i64 r.1, u], .int .i64 r.2.1, .int .i64 r.2.2.1]) ∧ Mem w0 S [ro u 1 r.2.2.2.length (ec e1 r.2.2.2)] w' := by
  unfold ref04_Reader_Marker at hm
  refine calls_CW (n := 45) w0 S [ro sa0_r_0 1 a0_r_0.length (ec eb a0_r_0), ro sa0_r_2 1 a0_r_2.length (ec e1 a0_r_2)] Try.func26 rfl rfl rfl hM0 ?_
  refine CW.seq ?_
  refine CW.region ?_
  refine RW.box (v := .agg #[sa0_r_0, .int .i64 a0_r_1, sa0_r_2]) rfl rfl rfl (fun b16 => ?_)
  refine RW.alloc (z := .agg #[.slice none 0 0, .int .i64 0, .slice none 0 0]) (#[.slice none 0 0, .int .i64 0, .slice none 0 0]) rfl rfl (fun _ => by kernel_rfl) rfl (fun b17 => ?_)
  refine RW.yi (.int .i64 0) rfl rfl (Yi.pv _ rfl) ?_
  refine RW.yi (.int .i64 0) rfl rfl (Yi.pv _ rfl) ?_
  refine RW.nil ?_
  refine EW.next ?_
  refine CW.seq ?_
  refine CW.seq ?_
  refine CW.region ?_
  refine RW.yi (.pointer (some ⟨b16, 0, none⟩)) rfl rfl (Yi.fieldAddr (j := 0) Try.underlying50 rfl Try.sizeOf34 rfl) ?_
  refine RW.yi (sa0_r_0) rfl rfl (Yi.load1 (i := 1) _ rfl rfl Try.isAgg34 rfl) ?_
  refine RW.yi (.int .i64 (a0_r_0.length : Int)) rfl rfl (Yi.lenS (cs := ec eb a0_r_0) (m := a0_r_0.length) Try.underlying34 rfl (rdF 2 rfl)) ?_
  refine RW.yi (.pointer (some ⟨b16, 1, none⟩)) rfl rfl (Yi.fieldAddr (j := 1) Try.underlying50 rfl Try.sizeOf3 rfl) ?_
  refine RW.yi (.int .i64 a0_r_1) rfl rfl (Yi.load1 (i := 1) _ rfl rfl Try.isAgg3 rfl) ?_
  refine RW.yi (.int .i64 (w64 ((a0_r_0.length : Int) - a0_r_1))) rfl rfl (Yi.pv _ rfl) ?_
  refine RW.yi (.bool (decide ((w64 ((a0_r_0.length : Int) - a0_r_1)) < 2))) rfl rfl (Yi.pv _ rfl) ?_
  refine RW.nil ?_
  refine EW.next ?_
  refine CW.fork 12 ((w64 ((a0_r_0.length : Int) - a0_r_1)) < 2) rfl (fun h18 => ?_) (fun h18 => ?_)
  · replace hm := (if_pos h18).symm.trans hm
    refine CW.cond_true rfl ?_
    refine CW.seq ?_
    refine CW.region ?_
    refine RW.yi (.agg #[sa0_r_0, .int .i64 a0_r_1, sa0_r_2]) rfl rfl (Yi.loadW (i := 1) rfl rfl Try.isAgg50 Try.sizeOf50) ?_
    refine RW.conv1 (fun w hM => ones_cat (ps := [p1 (sa0_r_0), p1 (.int .i64 a0_r_1), p1 (sa0_r_2)]) (ones_cons (fun _ => (rd_one ((rdF 2 rfl) w hM)).2) (ones_cons (fun _ => rfl) (ones_cons (fun _ => (rd_one ((rdF 3 rfl) w hM)).2) ones_nil)))) (fun hone => ?_)
    refine RW.storeQ (i := 0) (m := 3) (cs' := #[sa0_r_0, .int .i64 a0_r_1, sa0_r_2]) rfl rfl rfl rfl Try.sizeOf50 rfl (Nat.le_of_ble_eq_true rfl) hone (fun c' hs hget => (cat_spl (A := []) (X := [p1 (.slice none 0 0), p1 (.int .i64 0), p1 (.slice none 0 0)]) (B := []) (Y := [p1 (sa0_r_0), p1 (.int .i64 a0_r_1), p1 (sa0_r_2)]) rfl hs (by first | exact hget | (rw [cat_one]; exact hget)))) ?_
    refine RW.yi (.int .i64 0) rfl rfl (Yi.pv _ rfl) ?_
    refine RW.yi (.int .i64 3) rfl rfl (Yi.pv _ rfl) ?_
    refine RW.nil ?_
    refine EW.next ?_
    refine CW.ret ?_
    refine EW.thr ?_
    obtain rfl := Option.some.inj hm
    exact EW.done (rs := [.cell 2 50, .tmp 3, .tmp 4]) rfl (.cellW (i := 0) (cs := #[sa0_r_0, .int .i64 a0_r_1, sa0_r_2]) rfl rfl Try.isAgg50 Try.sizeOf50 (.tmp (t := 3) (v := .int .i64 0) rfl (.tmp (t := 4) (v := .int .i64 3) rfl .nil))) (fun _ hM => ⟨(sa0_r_2), rfl, (hM.pick [3] rfl rfl)⟩)
  · replace hm := (if_neg h18).symm.trans hm
    refine CW.cond_false rfl ?_
    refine CW.skip ?_
    refine EW.next ?_
    refine CW.seq ?_
    refine CW.region ?_
    refine RW.yi (.pointer (some ⟨b16, 0, none⟩)) rfl rfl (Yi.fieldAddr (j := 0) Try.underlying50 rfl Try.sizeOf34 rfl) ?_
    refine RW.yi (sa0_r_0) rfl rfl (Yi.load1 (i := 1) _ rfl rfl Try.isAgg34 rfl) ?_
    refine RW.yi (.pointer (some ⟨b16, 1, none⟩)) rfl rfl (Yi.fieldAddr (j := 1) Try.underlying50 rfl Try.sizeOf3 rfl) ?_
    refine RW.yi (.int .i64 a0_r_1) rfl rfl (Yi.load1 (i := 1) _ rfl rfl Try.isAgg3 rfl) ?_
    refine RW.yi (.int .i64 (w64 (a0_r_1 + 1))) rfl rfl (Yi.pv _ rfl) ?_
    obtain ⟨g19, hm⟩ := of_guard hm
    refine RW.yi (.pointer (some (eaddr sa0_r_0 1 ((w64 (a0_r_1 + 1)).toNat) 0))) rfl rfl (Yi.idxS (m := a0_r_0.length) Try.underlying34 Try.sizeOf5 rfl rfl (rdF 2 rfl) g19.1 g19.2) ?_
    refine RW.yi (.int .u8 (a0_r_0.getD ((w64 (a0_r_1 + 1)).toNat) 0)) rfl rfl (Yi.loadS (m := a0_r_0.length) (cs := ec eb a0_r_0) _ rfl (rdF 2 rfl) Try.isAgg5 (by omega) (by omega) (by rw [ec_get (d := 0) eb_is (by omega) (by decide)]; rfl)) ?_
    refine RW.yi (.int .i64 (w64 ((a0_r_0.getD ((w64 (a0_r_1 + 1)).toNat) 0)))) rfl rfl (Yi.conv ⟨_, Try.underlying5⟩ Try.underlying3 rfl) ?_
    refine RW.yi (.int .i64 (w64 ((a0_r_0.getD ((w64 (a0_r_1 + 1)).toNat) 0)))) rfl rfl (Yi.pv _ rfl) ?_
    refine RW.nil ?_
    refine EW.next ?_
    refine CW.seq ?_
    refine CW.seq ?_
    refine CW.region ?_
    refine RW.yi (.pointer (some ⟨b16, 0, none⟩)) rfl rfl (Yi.fieldAddr (j := 0) Try.underlying50 rfl Try.sizeOf34 rfl) ?_
    refine RW.yi (sa0_r_0) rfl rfl (Yi.load1 (i := 1) _ rfl rfl Try.isAgg34 rfl) ?_
    refine RW.yi (.pointer (some ⟨b16, 1, none⟩)) rfl rfl (Yi.fieldAddr (j := 1) Try.underlying50 rfl Try.sizeOf3 rfl) ?_
    refine RW.yi (.int .i64 a0_r_1) rfl rfl (Yi.load1 (i := 1) _ rfl rfl Try.isAgg3 rfl) ?_
    obtain ⟨g20, hm⟩ := of_guard hm
    refine RW.yi (.pointer (some (eaddr sa0_r_0 1 a0_r_1.toNat 0))) rfl rfl (Yi.idxS (m := a0_r_0.length) Try.underlying34 Try.sizeOf5 rfl rfl (rdF 2 rfl) g20.1 g20.2) ?_
    refine RW.yi (.int .u8 (a0_r_0.getD a0_r_1.toNat 0)) rfl rfl (Yi.loadS (m := a0_r_0.length) (cs := ec eb a0_r_0) _ rfl (rdF 2 rfl) Try.isAgg5 (by omega) (by omega) (by rw [ec_get (d := 0) eb_is (by omega) (by decide)]; rfl)) ?_
    refine RW.yi (.bool (decide ((a0_r_0.getD a0_r_1.toNat 0) < 255))) rfl rfl (Yi.pv _ rfl) ?_
    refine RW.yi (.bool (decide ((a0_r_0.getD a0_r_1.toNat 0) < 255))) rfl rfl (Yi.pv _ rfl) ?_
    refine RW.fork 29 ((a0_r_0.getD a0_r_1.toNat 0) < 255) rfl (fun h21 => ?_) (fun h21 => ?_)
    · replace hm := (if_pos h21).symm.trans hm
      refine RW.pass rfl rfl ?_
      refine RW.pass rfl rfl ?_
      refine RW.yi (.bool true) rfl rfl (Yi.pv _ rfl) ?_
      refine RW.yi (.bool true) rfl rfl (Yi.pv _ rfl) ?_
      refine RW.pass rfl rfl ?_
      refine RW.pass rfl rfl ?_
      refine RW.yi (.bool true) rfl rfl (Yi.pv _ rfl) ?_
      refine RW.nil ?_
      refine EW.next ?_
      refine CW.cond_true rfl ?_
      refine CW.seq ?_
      refine CW.region ?_
      refine RW.yi (.agg #[sa0_r_0, .int .i64 a0_r_1, sa0_r_2]) rfl rfl (Yi.loadW (i := 1) rfl rfl Try.isAgg50 Try.sizeOf50) ?_
      refine RW.conv1 (fun w hM => ones_cat (ps := [p1 (sa0_r_0), p1 (.int .i64 a0_r_1), p1 (sa0_r_2)]) (ones_cons (fun _ => (rd_one ((rdF 2 rfl) w hM)).2) (ones_cons (fun _ => rfl) (ones_cons (fun _ => (rd_one ((rdF 3 rfl) w hM)).2) ones_nil)))) (fun hone => ?_)
      refine RW.storeQ (i := 0) (m := 3) (cs' := #[sa0_r_0, .int .i64 a0_r_1, sa0_r_2]) rfl rfl rfl rfl Try.sizeOf50 rfl (Nat.le_of_ble_eq_true rfl) hone (fun c' hs hget => (cat_spl (A := []) (X := [p1 (.slice none 0 0), p1 (.int .i64 0), p1 (.slice none 0 0)]) (B := []) (Y := [p1 (sa0_r_0), p1 (.int .i64 a0_r_1), p1 (sa0_r_2)]) rfl hs (by first | exact hget | (rw [cat_one]; exact hget)))) ?_
      refine RW.yi (.int .i64 0) rfl rfl (Yi.pv _ rfl) ?_
      refine RW.yi (.int .i64 4) rfl rfl (Yi.pv _ rfl) ?_
      refine RW.nil ?_
      refine EW.next ?_
      refine CW.ret ?_
      refine EW.thr ?_
      obtain rfl := Option.some.inj hm
      exact EW.done (rs := [.cell 2 50, .tmp 3, .tmp 4]) rfl (.cellW (i := 0) (cs := #[sa0_r_0, .int .i64 a0_r_1, sa0_r_2]) rfl rfl Try.isAgg50 Try.sizeOf50 (.tmp (t := 3) (v := .int .i64 0) rfl (.tmp (t := 4) (v := .int .i64 4) rfl .nil))) (fun _ hM => ⟨(sa0_r_2), rfl, (hM.pick [3] rfl rfl)⟩)
    · replace hm := (if_neg h21).symm.trans hm
      refine RW.yi (.int .i64 (w64 ((a0_r_0.getD ((w64 (a0_r_1 + 1)).toNat) 0)))) rfl rfl (Yi.pv _ rfl) ?_
      refine RW.yi (.bool (decide ((w64 ((a0_r_0.getD ((w64 (a0_r_1 + 1)).toNat) 0))) = 0))) rfl rfl (Yi.pv _ rfl) ?_
      refine RW.yi (.bool (decide ((w64 ((a0_r_0.getD ((w64 (a0_r_1 + 1)).toNat) 0))) = 0))) rfl rfl (Yi.pv _ rfl) ?_
      refine RW.yi (.bool (decide ((w64 ((a0_r_0.getD ((w64 (a0_r_1 + 1)).toNat) 0))) = 0))) rfl rfl (Yi.pv _ rfl) ?_
      refine RW.fork 33 ((w64 ((a0_r_0.getD ((w64 (a0_r_1 + 1)).toNat) 0))) = 0) rfl (fun h22 => ?_) (fun h22 => ?_)
      · replace hm := (if_pos h22).symm.trans hm
        refine RW.pass rfl rfl ?_
        refine RW.pass rfl rfl ?_
        refine RW.yi (.bool true) rfl rfl (Yi.pv _ rfl) ?_
        refine RW.nil ?_
        refine EW.next ?_
        refine CW.cond_true rfl ?_
        refine CW.seq ?_
        refine CW.region ?_
        refine RW.yi (.agg #[sa0_r_0, .int .i64 a0_r_1, sa0_r_2]) rfl rfl (Yi.loadW (i := 1) rfl rfl Try.isAgg50 Try.sizeOf50) ?_
        refine RW.conv1 (fun w hM => ones_cat (ps := [p1 (sa0_r_0), p1 (.int .i64 a0_r_1), p1 (sa0_r_2)]) (ones_cons (fun _ => (rd_one ((rdF 2 rfl) w hM)).2) (ones_cons (fun _ => rfl) (ones_cons (fun _ => (rd_one ((rdF 3 rfl) w hM)).2) ones_nil)))) (fun hone => ?_)
        refine RW.storeQ (i := 0) (m := 3) (cs' := #[sa0_r_0, .int .i64 a0_r_1, sa0_r_2]) rfl rfl rfl rfl Try.sizeOf50 rfl (Nat.le_of_ble_eq_true rfl) hone (fun c' hs hget => (cat_spl (A := []) (X := [p1 (.slice none 0 0), p1 (.int .i64 0), p1 (.slice none 0 0)]) (B := []) (Y := [p1 (sa0_r_0), p1 (.int .i64 a0_r_1), p1 (sa0_r_2)]) rfl hs (by first | exact hget | (rw [cat_one]; exact hget)))) ?_
        refine RW.yi (.int .i64 0) rfl rfl (Yi.pv _ rfl) ?_
        refine RW.yi (.int .i64 4) rfl rfl (Yi.pv _ rfl) ?_
        refine RW.nil ?_
        refine EW.next ?_
        refine CW.ret ?_
        refine EW.thr ?_
        obtain rfl := Option.some.inj hm
        exact EW.done (rs := [.cell 2 50, .tmp 3, .tmp 4]) rfl (.cellW (i := 0) (cs := #[sa0_r_0, .int .i64 a0_r_1, sa0_r_2]) rfl rfl Try.isAgg50 Try.sizeOf50 (.tmp (t := 3) (v := .int .i64 0) rfl (.tmp (t := 4) (v := .int .i64 4) rfl .nil))) (fun _ hM => ⟨(sa0_r_2), rfl, (hM.pick [3] rfl rfl)⟩)
      · replace hm := (if_neg h22).symm.trans hm
        refine RW.yi (.int .i64 (w64 ((a0_r_0.getD ((w64 (a0_r_1 + 1)).toNat) 0)))) rfl rfl (Yi.pv _ rfl) ?_
        refine RW.yi (.bool (decide ((w64 ((a0_r_0.getD ((w64 (a0_r_1 + 1)).toNat) 0))) = 255))) rfl rfl (Yi.pv _ rfl) ?_
        refine RW.yi (.bool (decide ((w64 ((a0_r_0.getD ((w64 (a0_r_1 + 1)).toNat) 0))) = 255))) rfl rfl (Yi.pv _ rfl) ?_
        refine RW.nil ?_
        refine EW.next ?_
        refine CW.fork 36 ((w64 ((a0_r_0.getD ((w64 (a0_r_1 + 1)).toNat) 0))) = 255) rfl (fun h23 => ?_) (fun h23 => ?_)
        · replace hm := (if_pos h23).symm.trans hm
          refine CW.cond_true rfl ?_
          refine CW.seq ?_
          refine CW.region ?_
          refine RW.yi (.agg #[sa0_r_0, .int .i64 a0_r_1, sa0_r_2]) rfl rfl (Yi.loadW (i := 1) rfl rfl Try.isAgg50 Try.sizeOf50) ?_
          refine RW.conv1 (fun w hM => ones_cat (ps := [p1 (sa0_r_0), p1 (.int .i64 a0_r_1), p1 (sa0_r_2)]) (ones_cons (fun _ => (rd_one ((rdF 2 rfl) w hM)).2) (ones_cons (fun _ => rfl) (ones_cons (fun _ => (rd_one ((rdF 3 rfl) w hM)).2) ones_nil)))) (fun hone => ?_)
          refine RW.storeQ (i := 0) (m := 3) (cs' := #[sa0_r_0, .int .i64 a0_r_1, sa0_r_2]) rfl rfl rfl rfl Try.sizeOf50 rfl (Nat.le_of_ble_eq_true rfl) hone (fun c' hs hget => (cat_spl (A := []) (X := [p1 (.slice none 0 0), p1 (.int .i64 0), p1 (.slice none 0 0)]) (B := []) (Y := [p1 (sa0_r_0), p1 (.int .i64 a0_r_1), p1 (sa0_r_2)]) rfl hs (by first | exact hget | (rw [cat_one]; exact hget)))) ?_
          refine RW.yi (.int .i64 0) rfl rfl (Yi.pv _ rfl) ?_
          refine RW.yi (.int .i64 4) rfl rfl (Yi.pv _ rfl) ?_
          refine RW.nil ?_
          refine EW.next ?_
          refine CW.ret ?_
          refine EW.thr ?_
          obtain rfl := Option.some.inj hm
          exact EW.done (rs := [.cell 2 50, .tmp 3, .tmp 4]) rfl (.cellW (i := 0) (cs := #[sa0_r_0, .int .i64 a0_r_1, sa0_r_2]) rfl rfl Try.isAgg50 Try.sizeOf50 (.tmp (t := 3) (v := .int .i64 0) rfl (.tmp (t := 4) (v := .int .i64 4) rfl .nil))) (fun _ hM => ⟨(sa0_r_2), rfl, (hM.pick [3] rfl rfl)⟩)
        · replace hm := (if_neg h23).symm.trans hm
          refine CW.cond_false rfl ?_
          refine CW.skip ?_
          refine EW.next ?_
          refine CW.seq ?_
          refine CW.region ?_
          refine RW.yi (.pointer (some ⟨b16, 0, none⟩)) rfl rfl (Yi.fieldAddr (j := 0) Try.underlying50 rfl Try.sizeOf34 rfl) ?_
          refine RW.yi (sa0_r_0) rfl rfl (Yi.load1 (i := 1) _ rfl rfl Try.isAgg34 rfl) ?_
          refine RW.yi (.pointer (some ⟨b16, 1, none⟩)) rfl rfl (Yi.fieldAddr (j := 1) Try.underlying50 rfl Try.sizeOf3 rfl) ?_
          refine RW.yi (.int .i64 a0_r_1) rfl rfl (Yi.load1 (i := 1) _ rfl rfl Try.isAgg3 rfl) ?_
          refine RW.yi (.int .i64 (w64 (a0_r_1 + 2))) rfl rfl (Yi.pv _ rfl) ?_
          refine RW.yi (.agg #[sa0_r_0, .int .i64 (w64 (a0_r_1 + 2)), .slice none 0 0]) rfl rfl (Yi.buildM (vs := [sa0_r_0, .int .i64 (w64 (a0_r_1 + 2)), .slice none 0 0]) _ rfl rfl (fun w hM => by have e0 := rd_slice ((rdF 2 rfl) w hM); revert e0; generalize sa0_r_0 = x0; rintro ⟨_, _, _, rfl⟩; show _ = _; kernel_rfl)) ?_
          refine RW.yi (.int .i64 (w64 ((a0_r_0.getD ((w64 (a0_r_1 + 1)).toNat) 0)))) rfl rfl (Yi.pv _ rfl) ?_
          refine RW.conv1 (fun w hM => ones_cat (ps := [p1 (sa0_r_0), p1 (.int .i64 (w64 (a0_r_1 + 2))), p1 (.slice none 0 0)]) (ones_cons (fun _ => (rd_one ((rdF 2 rfl) w hM)).2) (ones_cons (fun _ => rfl) (ones_cons (fun _ => rfl) ones_nil)))) (fun hone => ?_)
          refine RW.storeQ (i := 0) (m := 3) (cs' := #[sa0_r_0, .int .i64 (w64 (a0_r_1 + 2)), .slice none 0 0]) rfl rfl rfl rfl Try.sizeOf50 rfl (Nat.le_of_ble_eq_true rfl) hone (fun c' hs hget => (cat_spl (A := []) (X := [p1 (.slice none 0 0), p1 (.int .i64 0), p1 (.slice none 0 0)]) (B := []) (Y := [p1 (sa0_r_0), p1 (.int .i64 (w64 (a0_r_1 + 2))), p1 (.slice none 0 0)]) rfl hs (by first | exact hget | (rw [cat_one]; exact hget)))) ?_
          refine RW.yi (.int .i64 (w64 ((a0_r_0.getD ((w64 (a0_r_1 + 1)).toNat) 0)))) rfl rfl (Yi.pv _ rfl) ?_
          refine RW.yi (.int .i64 0) rfl rfl (Yi.pv _ rfl) ?_
          refine RW.nil ?_
          refine EW.next ?_
          refine CW.ret ?_
          obtain rfl := Option.some.inj hm
          exact EW.done (rs := [.cell 2 50, .tmp 3, .tmp 4]) rfl (.cellW (i := 0) (cs := #[sa0_r_0, .int .i64 (w64 (a0_r_1 + 2)), .slice none 0 0]) rfl rfl Try.isAgg50 Try.sizeOf50 (.tmp (t := 3) (v := .int .i64 (w64 ((a0_r_0.getD ((w64 (a0_r_1 + 1)).toNat) 0)))) rfl (.tmp (t := 4) (v := .int .i64 0) rfl .nil))) (fun _ hM => ⟨((.slice none 0 0)), rfl, ((hM.nilRo 1).pick [0] rfl rfl)⟩)

end Go.Proofs.Ytpfnjmaadghhoaa
