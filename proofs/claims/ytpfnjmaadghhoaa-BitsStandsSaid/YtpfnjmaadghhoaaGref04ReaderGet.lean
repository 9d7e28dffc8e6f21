import Derived.Test.YtpfnjmaadghhoaaN7
import Derived.Test.YtpfnjmaadghhoaaProg
import Derived.Test.YtpfnjmaadghhoaaGref04ReaderBit
set_option maxRecDepth 100000
set_option maxHeartbeats 1000000
namespace Go.Proofs.Ytpfnjmaadghhoaa
open Go Go.RowKit K

def ref04_Reader_Get_j1 (_ : Nat) (v24 : Int) (v25 : (List Int)) (v27 : Int) : Option (Int × Int × Int × (List Int)) :=
  some (v24, v27, 0, v25)

def ref04_Reader_Get_l1 (K : Nat) (a0_r_0 : (List Int)) (a0_r_1 : Int) (a0_r_2 : (List Int)) (a1_count : Int) : Nat → Int → (List Int) → Int → Int →  Option (Int × Int × Int × (List Int))
  | 0, _, _, _, _ => none
  | k1 + 1, v32, v34, v36, v37 =>
    (if v37 < a1_count then ((ref04_Reader_Bit K a0_r_0 v32 v34).bind fun r45 => (if ¬ r45.2.2.1 = 0 then some (a0_r_1, 0, r45.2.2.1, a0_r_2) else (ref04_Reader_Get_l1 K a0_r_0 a0_r_1 a0_r_2 a1_count k1) r45.1 r45.2.2.2 (w64 ((w64 (v36 * 2)) + r45.2.1)) (w64 (v37 + 1)))) else ref04_Reader_Get_j1 K v32 v34 v36)

def ref04_Reader_Get (K : Nat) (a0_r_0 : (List Int)) (a0_r_1 : Int) (a0_r_2 : (List Int)) (a1_count : Int) : Option (Int × Int × Int × (List Int)) :=
  (if a1_count < 0 then some (a0_r_1, 0, 2, a0_r_2) else (if 24 < a1_count then some (a0_r_1, 0, 2, a0_r_2) else ref04_Reader_Get_l1 K a0_r_0 a0_r_1 a0_r_2 a1_count K a0_r_1 a0_r_2 0 0))

theorem c_ref04_Reader_Get (K : Nat) (a0_r_0 : (List Int)) (a0_r_1 : Int) (a0_r_2 : (List Int)) (a1_count : Int) (sa0_r_0 : Value) (sa0_r_2 : Value) (r : Int × Int × Int × (List Int)) (w0 : World) (S : Own) (hM0 : Mem w0 S [ro sa0_r_0 1 a0_r_0.length (ec eb a0_r_0), ro sa0_r_2 1 a0_r_2.length (ec e1 a0_r_2)] w0) (hm : ref04_Reader_Get K a0_r_0 a0_r_1 a0_r_2 a1_count = some r) : Calls Try.prog 24 #[.agg #[sa0_r_0, .int .i64 a0_r_1, sa0_r_2], .int .i64 a1_count] w0 fun e w' => ∃ u : Value, e = .returned (.tuple #[.agg #[sa0_r_0, .int .i64 r.1, u], .int .i64 r.2.1, .int .i64 r.2.2.1]) ∧ Mem w0 S [ro u 1 r.2.2.2.length (ec e1 r.2.2.2)] w' := by
  unfold ref04_Reader_Get at hm
  refine calls_CW (n := 43) w0 S [ro sa0_r_0 1 a0_r_0.length (ec eb a0_r_0), ro sa0_r_2 1 a0_r_2.length (ec e1 a0_r_2)] Try.func24 rfl rfl rfl hM0 ?_
  refine CW.seq ?_
  refine CW.region ?_
  refine RW.box (v := .agg #[sa0_r_0, .int .i64 a0_r_1, sa0_r_2]) rfl rfl rfl (fun b19 => ?_)
  refine RW.alloc (z := .agg #[.slice none 0 0, .int .i64 0, .slice none 0 0]) (#[.slice none 0 0, .int .i64 0, .slice none 0 0]) rfl rfl (fun _ => by kernel_rfl) rfl (fun b20 => ?_)
  refine RW.yi (.int .i64 0) rfl rfl (Yi.pv _ rfl) ?_
  refine RW.yi (.int .i64 0) rfl rfl (Yi.pv _ rfl) ?_
  refine RW.nil ?_
  refine EW.next ?_
  refine CW.seq ?_
  refine CW.seq ?_
  refine CW.region ?_
  refine RW.yi (.int .i64 a1_count) rfl rfl (Yi.pv _ rfl) ?_
  refine RW.yi (.bool (decide (a1_count < 0))) rfl rfl (Yi.pv _ rfl) ?_
  refine RW.yi (.bool (decide (a1_count < 0))) rfl rfl (Yi.pv _ rfl) ?_
  refine RW.fork 15 (a1_count < 0) rfl (fun h21 => ?_) (fun h21 => ?_)
  · replace hm := (if_pos h21).symm.trans hm
    refine RW.pass rfl rfl ?_
    refine RW.pass rfl rfl ?_
    refine RW.yi (.bool true) rfl rfl (Yi.pv _ rfl) ?_
    refine RW.nil ?_
    refine EW.next ?_
    refine CW.cond_true rfl ?_
    refine CW.seq ?_
    refine CW.region ?_
    refine RW.yi (.agg #[sa0_r_0, .int .i64 a0_r_1, sa0_r_2]) rfl rfl (Yi.loadW (i := 1) rfl rfl Try.isAgg50 Try.sizeOf50) ?_
    refine RW.conv1 (fun w hM => ones_cat (ps := [p1 (sa0_r_0), p1 (.int .i64 a0_r_1), p1 (sa0_r_2)]) (ones_cons (fun _ => (rd_one ((rdF 2 rfl) w hM)).2) (ones_cons (fun _ => rfl) (ones_cons (fun _ => (rd_one ((rdF 3 rfl) w hM)).2) ones_nil)))) (fun hone => ?_)
    refine RW.storeQ (i := 0) (m := 3) (cs' := #[sa0_r_0, .int .i64 a0_r_1, sa0_r_2]) rfl rfl rfl rfl Try.sizeOf50 rfl (Nat.le_of_ble_eq_true rfl) hone (fun c' hs hget => (cat_spl (A := []) (X := [p1 (.slice none 0 0), p1 (.int .i64 0), p1 (.slice none 0 0)]) (B := []) (Y := [p1 (sa0_r_0), p1 (.int .i64 a0_r_1), p1 (sa0_r_2)]) rfl hs (by first | exact hget | (rw [cat_one]; exact hget)))) ?_
    refine RW.yi (.int .i64 0) rfl rfl (Yi.pv _ rfl) ?_
    refine RW.yi (.int .i64 2) rfl rfl (Yi.pv _ rfl) ?_
    refine RW.nil ?_
    refine EW.next ?_
    refine CW.ret ?_
    refine EW.thr ?_
    obtain rfl := Option.some.inj hm
    exact EW.done (rs := [.cell 4 50, .tmp 5, .tmp 6]) rfl (.cellW (i := 0) (cs := #[sa0_r_0, .int .i64 a0_r_1, sa0_r_2]) rfl rfl Try.isAgg50 Try.sizeOf50 (.tmp (t := 5) (v := .int .i64 0) rfl (.tmp (t := 6) (v := .int .i64 2) rfl .nil))) (fun _ hM => ⟨(sa0_r_2), rfl, (hM.pick [3] rfl rfl)⟩)
  · replace hm := (if_neg h21).symm.trans hm
    refine RW.yi (.int .i64 a1_count) rfl rfl (Yi.pv _ rfl) ?_
    refine RW.yi (.bool (decide (24 < a1_count))) rfl rfl (Yi.pv _ rfl) ?_
    refine RW.yi (.bool (decide (24 < a1_count))) rfl rfl (Yi.pv _ rfl) ?_
    refine RW.nil ?_
    refine EW.next ?_
    refine CW.fork 18 (24 < a1_count) rfl (fun h22 => ?_) (fun h22 => ?_)
    · replace hm := (if_pos h22).symm.trans hm
      refine CW.cond_true rfl ?_
      refine CW.seq ?_
      refine CW.region ?_
      refine RW.yi (.agg #[sa0_r_0, .int .i64 a0_r_1, sa0_r_2]) rfl rfl (Yi.loadW (i := 1) rfl rfl Try.isAgg50 Try.sizeOf50) ?_
      refine RW.conv1 (fun w hM => ones_cat (ps := [p1 (sa0_r_0), p1 (.int .i64 a0_r_1), p1 (sa0_r_2)]) (ones_cons (fun _ => (rd_one ((rdF 2 rfl) w hM)).2) (ones_cons (fun _ => rfl) (ones_cons (fun _ => (rd_one ((rdF 3 rfl) w hM)).2) ones_nil)))) (fun hone => ?_)
      refine RW.storeQ (i := 0) (m := 3) (cs' := #[sa0_r_0, .int .i64 a0_r_1, sa0_r_2]) rfl rfl rfl rfl Try.sizeOf50 rfl (Nat.le_of_ble_eq_true rfl) hone (fun c' hs hget => (cat_spl (A := []) (X := [p1 (.slice none 0 0), p1 (.int .i64 0), p1 (.slice none 0 0)]) (B := []) (Y := [p1 (sa0_r_0), p1 (.int .i64 a0_r_1), p1 (sa0_r_2)]) rfl hs (by first | exact hget | (rw [cat_one]; exact hget)))) ?_
      refine RW.yi (.int .i64 0) rfl rfl (Yi.pv _ rfl) ?_
      refine RW.yi (.int .i64 2) rfl rfl (Yi.pv _ rfl) ?_
      refine RW.nil ?_
      refine EW.next ?_
      refine CW.ret ?_
      refine EW.thr ?_
      obtain rfl := Option.some.inj hm
      exact EW.done (rs := [.cell 4 50, .tmp 5, .tmp 6]) rfl (.cellW (i := 0) (cs := #[sa0_r_0, .int .i64 a0_r_1, sa0_r_2]) rfl rfl Try.isAgg50 Try.sizeOf50 (.tmp (t := 5) (v := .int .i64 0) rfl (.tmp (t := 6) (v := .int .i64 2) rfl .nil))) (fun _ hM => ⟨(sa0_r_2), rfl, (hM.pick [3] rfl rfl)⟩)
    · replace hm := (if_neg h22).symm.trans hm
      refine CW.cond_false rfl ?_
      refine CW.skip ?_
      refine EW.next ?_
      refine CW.seq ?_
      refine CW.region ?_
      refine RW.yi (.agg #[sa0_r_0, .int .i64 a0_r_1, sa0_r_2]) rfl rfl (Yi.loadW (i := 1) rfl rfl Try.isAgg50 Try.sizeOf50) ?_
      refine RW.alloc (z := .agg #[.slice none 0 0, .int .i64 0, .slice none 0 0]) (#[.slice none 0 0, .int .i64 0, .slice none 0 0]) rfl rfl (fun _ => by kernel_rfl) rfl (fun b23 => ?_)
      refine RW.conv1 (fun w hM => ones_cat (ps := [p1 (sa0_r_0), p1 (.int .i64 a0_r_1), p1 (sa0_r_2)]) (ones_cons (fun _ => (rd_one ((rdF 3 rfl) w hM)).2) (ones_cons (fun _ => rfl) (ones_cons (fun _ => (rd_one ((rdF 4 rfl) w hM)).2) ones_nil)))) (fun hone => ?_)
      refine RW.storeQ (i := 0) (m := 3) (cs' := #[sa0_r_0, .int .i64 a0_r_1, sa0_r_2]) rfl rfl rfl rfl Try.sizeOf50 rfl (Nat.le_of_ble_eq_true rfl) hone (fun c' hs hget => (cat_spl (A := []) (X := [p1 (.slice none 0 0), p1 (.int .i64 0), p1 (.slice none 0 0)]) (B := []) (Y := [p1 (sa0_r_0), p1 (.int .i64 a0_r_1), p1 (sa0_r_2)]) rfl hs (by first | exact hget | (rw [cat_one]; exact hget)))) ?_
      refine RW.nil ?_
      refine EW.next ?_
      refine CW.seq ?_
      refine CW.region ?_
      refine RW.yi (.int .i64 0) rfl rfl (Yi.pv _ rfl) ?_
      refine RW.nil ?_
      refine EW.next ?_
      refine CW.join (fun a w => ∃ (v24 : Int) (v25 : (List Int)) (v27 : Int) (s26 : Value), St 43 [(4, .pointer (some ⟨b20, 0, none⟩)), (7, .pointer (some ⟨b23, 0, none⟩)), (8, .int .i64 v27)] a ∧ Mem w0 S [.blk b20 50 (#[.slice none 0 0, .int .i64 0, .slice none 0 0]), .blk b23 50 (#[sa0_r_0, .int .i64 v24, s26]), ro sa0_r_0 1 a0_r_0.length (ec eb a0_r_0), ro s26 1 v25.length (ec e1 v25)] w ∧ ref04_Reader_Get_j1 K v24 v25 v27 = some r) ?_ ?_
      · refine CW.seq ?_
        refine CW.region ?_
        refine RW.yi (.int .i64 0) rfl rfl (Yi.pv _ rfl) ?_
        refine RW.nil ?_
        refine EW.next ?_
        refine CW.block ?_
        refine CW.loop (fun k a w => ∃ (v32 : Int) (v34 : (List Int)) (v36 : Int) (v37 : Int) (s35 : Value), St 43 [(1, .int .i64 a1_count), (2, .pointer (some ⟨b19, 0, none⟩)), (4, .pointer (some ⟨b20, 0, none⟩)), (7, .pointer (some ⟨b23, 0, none⟩)), (8, .int .i64 v36), (9, .int .i64 v37)] a ∧ Mem w0 S [.blk b19 50 (#[sa0_r_0, .int .i64 a0_r_1, sa0_r_2]), ro sa0_r_0 1 a0_r_0.length (ec eb a0_r_0), ro sa0_r_2 1 a0_r_2.length (ec e1 a0_r_2), .blk b20 50 (#[.slice none 0 0, .int .i64 0, .slice none 0 0]), .blk b23 50 (#[sa0_r_0, .int .i64 v32, s35]), ro s35 1 v34.length (ec e1 v34)] w ∧ ref04_Reader_Get_l1 K a0_r_0 a0_r_1 a0_r_2 a1_count k v32 v34 v36 v37 = some r) K ?_ ?_ ?_
        · rintro a w ⟨_, _, _, _, _, _, _, hm⟩
          rw [ref04_Reader_Get_l1.eq_1] at hm
          cases hm
        · exact fun a w hs hM => ⟨a0_r_1, a0_r_2, 0, 0, sa0_r_2, hs.sub ⟨rfl, rfl, rfl, rfl, rfl, rfl, trivial⟩, (hM.pick [2, 3, 4, 1, 0, 4] rfl rfl), hm⟩
        · rintro k1 a w ⟨v32, v34, v36, v37, s35, hs, hM, hm⟩
          rw [ref04_Reader_Get_l1.eq_2] at hm
          refine CW.enter hs hM ?_
          refine CW.seq ?_
          refine CW.seq ?_
          refine CW.region ?_
          refine RW.yi (.int .i64 v37) rfl rfl (Yi.pv _ rfl) ?_
          refine RW.yi (.int .i64 a1_count) rfl rfl (Yi.pv _ rfl) ?_
          refine RW.yi (.bool (decide (v37 < a1_count))) rfl rfl (Yi.pv _ rfl) ?_
          refine RW.nil ?_
          refine EW.next ?_
          refine CW.fork 23 (v37 < a1_count) rfl (fun h44 => ?_) (fun h44 => ?_)
          · replace hm := (if_pos h44).symm.trans hm
            refine CW.cond_true rfl ?_
            refine CW.skip ?_
            refine EW.next ?_
            refine CW.seq ?_
            refine CW.block ?_
            refine CW.seq ?_
            refine CW.region ?_
            refine RW.yi (.agg #[sa0_r_0, .int .i64 v32, s35]) rfl rfl (Yi.loadW (i := 4) rfl rfl Try.isAgg50 Try.sizeOf50) ?_
            obtain ⟨r45, hr45, hm⟩ := of_bind hm
            refine RW.callM (cs := []) [] [.blk b19 50 (#[sa0_r_0, .int .i64 a0_r_1, sa0_r_2]), ro sa0_r_0 1 a0_r_0.length (ec eb a0_r_0), ro sa0_r_2 1 a0_r_2.length (ec e1 a0_r_2), .blk b20 50 (#[.slice none 0 0, .int .i64 0, .slice none 0 0]), .blk b23 50 (#[sa0_r_0, .int .i64 v32, s35]), ro s35 1 v34.length (ec e1 v34)] [ro sa0_r_0 1 a0_r_0.length (ec eb a0_r_0), ro s35 1 v34.length (ec e1 v34)] [0, 1, 2, 3, 4, 5] (fun (u46 : Value) => [ro u46 1 r45.2.2.2.length (ec e1 r45.2.2.2)]) (fun (u46 : Value) => .tuple #[.agg #[sa0_r_0, .int .i64 r45.1, u46], .int .i64 r45.2.1, .int .i64 r45.2.2.1]) rfl rfl rfl rfl Try.call23 rfl rfl rfl (fun w hM => lentF (A := []) hM 1 rfl (lentF (A := []) hM 5 rfl (lent0))) (.inr (lentFF 1 rfl (lentFF 5 rfl (lentF0)))) (fun w S' hM => c_ref04_Reader_Bit K a0_r_0 v32 v34 sa0_r_0 s35 r45 w S' hM hr45) (fun u46 => ?_)
            refine RW.yi (.tuple #[.agg #[sa0_r_0, .int .i64 r45.1, u46], .int .i64 r45.2.1, .int .i64 r45.2.2.1]) rfl rfl (Yi.pv _ rfl) ?_
            refine RW.yi (.agg #[sa0_r_0, .int .i64 r45.1, u46]) rfl rfl (Yi.pv _ rfl) ?_
            refine RW.yi (.int .i64 r45.2.1) rfl rfl (Yi.pv _ rfl) ?_
            refine RW.yi (.int .i64 r45.2.2.1) rfl rfl (Yi.pv _ rfl) ?_
            refine RW.alloc (z := .agg #[.slice none 0 0, .int .i64 0, .slice none 0 0]) (#[.slice none 0 0, .int .i64 0, .slice none 0 0]) rfl rfl (fun _ => by kernel_rfl) rfl (fun b48 => ?_)
            refine RW.conv1 (fun w hM => ones_cat (ps := [p1 (sa0_r_0), p1 (.int .i64 r45.1), p1 (u46)]) (ones_cons (fun _ => (rd_one ((rdF 3 rfl) w hM)).2) (ones_cons (fun _ => rfl) (ones_cons (fun _ => (rd_one ((rdF 1 rfl) w hM)).2) ones_nil)))) (fun hone => ?_)
            refine RW.storeQ (i := 0) (m := 3) (cs' := #[sa0_r_0, .int .i64 r45.1, u46]) rfl rfl rfl rfl Try.sizeOf50 rfl (Nat.le_of_ble_eq_true rfl) hone (fun c' hs hget => (cat_spl (A := []) (X := [p1 (.slice none 0 0), p1 (.int .i64 0), p1 (.slice none 0 0)]) (B := []) (Y := [p1 (sa0_r_0), p1 (.int .i64 r45.1), p1 (u46)]) rfl hs (by first | exact hget | (rw [cat_one]; exact hget)))) ?_
            refine RW.yi (.int .i64 r45.2.1) rfl rfl (Yi.pv _ rfl) ?_
            refine RW.yi (.int .i64 r45.2.2.1) rfl rfl (Yi.pv _ rfl) ?_
            refine RW.nil ?_
            refine EW.next ?_
            refine CW.seq ?_
            refine CW.seq ?_
            refine CW.region ?_
            refine RW.yi (.int .i64 r45.2.2.1) rfl rfl (Yi.pv _ rfl) ?_
            refine RW.yi (.bool (decide (¬ r45.2.2.1 = 0))) rfl rfl (Yi.pv _ rfl) ?_
            refine RW.nil ?_
            refine EW.next ?_
            refine CW.fork 33 (¬ r45.2.2.1 = 0) rfl (fun h49 => ?_) (fun h49 => ?_)
            · replace hm := (if_pos h49).symm.trans hm
              refine CW.cond_true rfl ?_
              refine CW.seq ?_
              refine CW.region ?_
              refine RW.yi (.agg #[sa0_r_0, .int .i64 a0_r_1, sa0_r_2]) rfl rfl (Yi.loadW (i := 2) rfl rfl Try.isAgg50 Try.sizeOf50) ?_
              refine RW.yi (.int .i64 r45.2.2.1) rfl rfl (Yi.pv _ rfl) ?_
              refine RW.conv1 (fun w hM => ones_cat (ps := [p1 (sa0_r_0), p1 (.int .i64 a0_r_1), p1 (sa0_r_2)]) (ones_cons (fun _ => (rd_one ((rdF 3 rfl) w hM)).2) (ones_cons (fun _ => rfl) (ones_cons (fun _ => (rd_one ((rdF 4 rfl) w hM)).2) ones_nil)))) (fun hone => ?_)
              refine RW.storeQ (i := 5) (m := 3) (cs' := #[sa0_r_0, .int .i64 a0_r_1, sa0_r_2]) rfl rfl rfl rfl Try.sizeOf50 rfl (Nat.le_of_ble_eq_true rfl) hone (fun c' hs hget => (cat_spl (A := []) (X := [p1 (.slice none 0 0), p1 (.int .i64 0), p1 (.slice none 0 0)]) (B := []) (Y := [p1 (sa0_r_0), p1 (.int .i64 a0_r_1), p1 (sa0_r_2)]) rfl hs (by first | exact hget | (rw [cat_one]; exact hget)))) ?_
              refine RW.yi (.int .i64 0) rfl rfl (Yi.pv _ rfl) ?_
              refine RW.yi (.int .i64 r45.2.2.1) rfl rfl (Yi.pv _ rfl) ?_
              refine RW.nil ?_
              refine EW.next ?_
              refine CW.ret ?_
              refine EW.thr ?_
              refine EW.blr ?_
              refine EW.thr ?_
              refine EW.thr ?_
              refine EW.blr ?_
              refine EW.thr ?_
              obtain rfl := Option.some.inj hm
              exact EW.done (rs := [.cell 4 50, .tmp 5, .tmp 6]) rfl (.cellW (i := 5) (cs := #[sa0_r_0, .int .i64 a0_r_1, sa0_r_2]) rfl rfl Try.isAgg50 Try.sizeOf50 (.tmp (t := 5) (v := .int .i64 0) rfl (.tmp (t := 6) (v := .int .i64 r45.2.2.1) rfl .nil))) (fun _ hM => ⟨(sa0_r_2), rfl, (hM.pick [4] rfl rfl)⟩)
            · replace hm := (if_neg h49).symm.trans hm
              refine CW.cond_false rfl ?_
              refine CW.skip ?_
              refine EW.next ?_
              refine CW.seq ?_
              refine CW.region ?_
              refine RW.yi (.agg #[sa0_r_0, .int .i64 r45.1, u46]) rfl rfl (Yi.loadW (i := 0) rfl rfl Try.isAgg50 Try.sizeOf50) ?_
              refine RW.conv1 (fun w hM => ones_cat (ps := [p1 (sa0_r_0), p1 (.int .i64 r45.1), p1 (u46)]) (ones_cons (fun _ => (rd_one ((rdF 3 rfl) w hM)).2) (ones_cons (fun _ => rfl) (ones_cons (fun _ => (rd_one ((rdF 1 rfl) w hM)).2) ones_nil)))) (fun hone => ?_)
              refine RW.storeQ (i := 6) (m := 3) (cs' := #[sa0_r_0, .int .i64 r45.1, u46]) rfl rfl rfl rfl Try.sizeOf50 rfl (Nat.le_of_ble_eq_true rfl) hone (fun c' hs hget => (cat_spl (A := []) (X := [p1 (sa0_r_0), p1 (.int .i64 v32), p1 (s35)]) (B := []) (Y := [p1 (sa0_r_0), p1 (.int .i64 r45.1), p1 (u46)]) rfl hs (by first | exact hget | (rw [cat_one]; exact hget)))) ?_
              refine RW.nil ?_
              refine EW.next ?_
              refine CW.region ?_
              refine RW.yi (.int .i64 v36) rfl rfl (Yi.pv _ rfl) ?_
              refine RW.yi (.int .i64 (w64 (v36 * 2))) rfl rfl (Yi.pv _ rfl) ?_
              refine RW.yi (.int .i64 r45.2.1) rfl rfl (Yi.pv _ rfl) ?_
              refine RW.yi (.int .i64 (w64 ((w64 (v36 * 2)) + r45.2.1))) rfl rfl (Yi.pv _ rfl) ?_
              refine RW.yi (.int .i64 (w64 ((w64 (v36 * 2)) + r45.2.1))) rfl rfl (Yi.pv _ rfl) ?_
              refine RW.nil ?_
              refine EW.bln ?_
              refine EW.next ?_
              refine CW.region ?_
              refine RW.yi (.int .i64 v37) rfl rfl (Yi.pv _ rfl) ?_
              refine RW.yi (.int .i64 (w64 (v37 + 1))) rfl rfl (Yi.pv _ rfl) ?_
              refine RW.yi (.int .i64 (w64 (v37 + 1))) rfl rfl (Yi.pv _ rfl) ?_
              refine RW.nil ?_
              refine EW.thn ?_
              exact fun a w hs hM => ⟨r45.1, r45.2.2.2, (w64 ((w64 (v36 * 2)) + r45.2.1)), (w64 (v37 + 1)), u46, hs.sub ⟨rfl, rfl, rfl, rfl, rfl, rfl, trivial⟩, (hM.pick [2, 3, 4, 5, 6, 1] rfl rfl), hm⟩
          · replace hm := (if_neg h44).symm.trans hm
            refine CW.cond_false rfl ?_
            refine CW.exit ?_
            refine EW.thx ?_
            refine EW.thx ?_
            refine EW.blx ?_
            refine EW.thn ?_
            exact fun a w hs hM => ⟨v32, v34, v36, s35, hs.sub ⟨rfl, rfl, rfl, trivial⟩, (hM.pick [3, 4, 1, 5] rfl rfl), hm⟩
      · rintro a w ⟨v24, v25, v27, s26, hs, hM, hm⟩
        unfold ref04_Reader_Get_j1 at hm
        refine CW.enter hs hM ?_
        refine CW.seq ?_
        refine CW.region ?_
        refine RW.yi (.agg #[sa0_r_0, .int .i64 v24, s26]) rfl rfl (Yi.loadW (i := 1) rfl rfl Try.isAgg50 Try.sizeOf50) ?_
        refine RW.yi (.int .i64 v27) rfl rfl (Yi.pv _ rfl) ?_
        refine RW.conv1 (fun w hM => ones_cat (ps := [p1 (sa0_r_0), p1 (.int .i64 v24), p1 (s26)]) (ones_cons (fun _ => (rd_one ((rdF 2 rfl) w hM)).2) (ones_cons (fun _ => rfl) (ones_cons (fun _ => (rd_one ((rdF 3 rfl) w hM)).2) ones_nil)))) (fun hone => ?_)
        refine RW.storeQ (i := 0) (m := 3) (cs' := #[sa0_r_0, .int .i64 v24, s26]) rfl rfl rfl rfl Try.sizeOf50 rfl (Nat.le_of_ble_eq_true rfl) hone (fun c' hs hget => (cat_spl (A := []) (X := [p1 (.slice none 0 0), p1 (.int .i64 0), p1 (.slice none 0 0)]) (B := []) (Y := [p1 (sa0_r_0), p1 (.int .i64 v24), p1 (s26)]) rfl hs (by first | exact hget | (rw [cat_one]; exact hget)))) ?_
        refine RW.yi (.int .i64 v27) rfl rfl (Yi.pv _ rfl) ?_
        refine RW.yi (.int .i64 0) rfl rfl (Yi.pv _ rfl) ?_
        refine RW.nil ?_
        refine EW.next ?_
        refine CW.ret ?_
        obtain rfl := Option.some.inj hm
        exact EW.done (rs := [.cell 4 50, .tmp 5, .tmp 6]) rfl (.cellW (i := 0) (cs := #[sa0_r_0, .int .i64 v24, s26]) rfl rfl Try.isAgg50 Try.sizeOf50 (.tmp (t := 5) (v := .int .i64 v27) rfl (.tmp (t := 6) (v := .int .i64 0) rfl .nil))) (fun _ hM => ⟨(s26), rfl, (hM.pick [3] rfl rfl)⟩)

end Go.Proofs.Ytpfnjmaadghhoaa
