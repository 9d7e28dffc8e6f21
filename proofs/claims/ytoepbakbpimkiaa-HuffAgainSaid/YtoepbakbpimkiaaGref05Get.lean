import Derived.Test.YtoepbakbpimkiaaN8
import Derived.Test.YtoepbakbpimkiaaProg
import Derived.Test.YtoepbakbpimkiaaGref04ReaderBit
set_option maxRecDepth 100000
set_option maxHeartbeats 1000000
namespace Go.Proofs.Ytoepbakbpimkiaa
open Go Go.RowKit K

def ref05_Get_j1 (_ : Nat) (v20 : Int) (v22 : (List Int)) : Option (Int × Int × Int × (List Int)) :=
  some (v20, 0, 6, v22)

def ref05_Get_j2 (_ : Nat) (cb_ref05_Get_l1 : Int → (List Int) → Int → Int → Option (Int × Int × Int × (List Int))) (v33 : Int) (v41 : Int) (v43 : (List Int)) (v45 : Int) : Option (Int × Int × Int × (List Int)) :=
  cb_ref05_Get_l1 v41 v43 v45 (w64 (v33 + 1))

def ref05_Get_j3 (_ : Nat) (cb_ref05_Get_l2 : Int → Option (Int × Int × Int × (List Int))) (v52 : Int) : Option (Int × Int × Int × (List Int)) :=
  cb_ref05_Get_l2 (w64 (v52 + 1))

def ref05_Get_l2 (K : Nat) (cb_ref05_Get_l1 : Int → (List Int) → Int → Int → Option (Int × Int × Int × (List Int))) (a0_l : (List (Int × Int × Int))) (v32 : Int) (v33 : Int) (r46 : (Int × Int × Int × (List Int))) : Nat → Int →  Option (Int × Int × Int × (List Int))
  | 0, _ => none
  | k2 + 1, v52 =>
    (if v52 < (a0_l.length : Int) then (if 0 ≤ v52 ∧ v52 < (a0_l.length : Int) then (if (a0_l.getD v52.toNat (0, 0, 0)).2.1 = (w64 ((w64 (v32 * 2)) + r46.2.1)) then (if (a0_l.getD v52.toNat (0, 0, 0)).2.2 = v33 then some (r46.1, ((a0_l.getD v52.toNat (0, 0, 0)).1), 0, r46.2.2.2) else ref05_Get_j3 K (ref05_Get_l2 K cb_ref05_Get_l1 a0_l v32 v33 r46 k2) v52) else ref05_Get_j3 K (ref05_Get_l2 K cb_ref05_Get_l1 a0_l v32 v33 r46 k2) v52) else none) else ref05_Get_j2 K cb_ref05_Get_l1 v33 r46.1 r46.2.2.2 (w64 ((w64 (v32 * 2)) + r46.2.1)))

def ref05_Get_l1 (K : Nat) (a0_l : (List (Int × Int × Int))) (a1_r_0 : (List Int)) : Nat → Int → (List Int) → Int → Int →  Option (Int × Int × Int × (List Int))
  | 0, _, _, _, _ => none
  | k1 + 1, v28, v30, v32, v33 =>
    (if v33 ≤ 16 then ((ref04_Reader_Bit K a1_r_0 v28 v30).bind fun r46 => (if ¬ r46.2.2.1 = 0 then some (v28, 0, r46.2.2.1, v30) else ref05_Get_l2 K (ref05_Get_l1 K a0_l a1_r_0 k1) a0_l v32 v33 r46 K 0)) else ref05_Get_j1 K v28 v30)

def ref05_Get (K : Nat) (a0_l : (List (Int × Int × Int))) (a1_r_0 : (List Int)) (a1_r_1 : Int) (a1_r_2 : (List Int)) : Option (Int × Int × Int × (List Int)) :=
  ref05_Get_l1 K a0_l a1_r_0 K a1_r_1 a1_r_2 0 1

theorem c_ref05_Get (K : Nat) (a0_l : (List (Int × Int × Int))) (a1_r_0 : (List Int)) (a1_r_1 : Int) (a1_r_2 : (List Int)) (sa0_l : Value) (sa1_r_0 : Value) (sa1_r_2 : Value) (r : Int × Int × Int × (List Int)) (w0 : World) (S : Own) (hM0 : Mem w0 S [ro sa0_l 3 a0_l.length (ec e3 a0_l), ro sa1_r_0 1 a1_r_0.length (ec eb a1_r_0), ro sa1_r_2 1 a1_r_2.length (ec e1 a1_r_2)] w0) (hm : ref05_Get K a0_l a1_r_0 a1_r_1 a1_r_2 = some r) : Calls Try.prog 20 #[sa0_l, .agg #[sa1_r_0, .int .i64 a1_r_1, sa1_r_2]] w0 fun e w' => ∃ u : Value, e = .returned (.tuple #[.agg #[sa1_r_0, .int .i64 r.1, u], .int .i64 r.2.1, .int .i64 r.2.2.1]) ∧ Mem w0 S [ro u 1 r.2.2.2.length (ec e1 r.2.2.2)] w' := by
  unfold ref05_Get at hm
  refine calls_CW (n := 61) w0 S [ro sa0_l 3 a0_l.length (ec e3 a0_l), ro sa1_r_0 1 a1_r_0.length (ec eb a1_r_0), ro sa1_r_2 1 a1_r_2.length (ec e1 a1_r_2)] Try.func20 rfl rfl rfl hM0 ?_
  refine CW.seq ?_
  refine CW.region ?_
  refine RW.box (v := .agg #[sa1_r_0, .int .i64 a1_r_1, sa1_r_2]) rfl rfl rfl (fun b18 => ?_)
  refine RW.alloc (z := .agg #[.slice none 0 0, .int .i64 0, .slice none 0 0]) (#[.slice none 0 0, .int .i64 0, .slice none 0 0]) rfl rfl (fun _ => by kernel_rfl) rfl (fun b19 => ?_)
  refine RW.yi (.int .i64 0) rfl rfl (Yi.pv _ rfl) ?_
  refine RW.yi (.int .i64 0) rfl rfl (Yi.pv _ rfl) ?_
  refine RW.nil ?_
  refine EW.next ?_
  refine CW.seq ?_
  refine CW.region ?_
  refine RW.yi (.int .i64 0) rfl rfl (Yi.pv _ rfl) ?_
  refine RW.nil ?_
  refine EW.next ?_
  refine CW.join (fun a w => ∃ (v20 : Int) (v22 : (List Int)) (s23 : Value), St 61 [(3, .pointer (some ⟨b18, 0, none⟩)), (4, .pointer (some ⟨b19, 0, none⟩))] a ∧ Mem w0 S [.blk b18 48 (#[sa1_r_0, .int .i64 v20, s23]), ro sa1_r_0 1 a1_r_0.length (ec eb a1_r_0), ro s23 1 v22.length (ec e1 v22), .blk b19 48 (#[.slice none 0 0, .int .i64 0, .slice none 0 0])] w ∧ ref05_Get_j1 K v20 v22 = some r) ?_ ?_
  · refine CW.seq ?_
    refine CW.region ?_
    refine RW.yi (.int .i64 1) rfl rfl (Yi.pv _ rfl) ?_
    refine RW.nil ?_
    refine EW.next ?_
    refine CW.block ?_
    refine CW.loop (fun k a w => ∃ (v28 : Int) (v30 : (List Int)) (v32 : Int) (v33 : Int) (s31 : Value), St 61 [(0, sa0_l), (3, .pointer (some ⟨b18, 0, none⟩)), (4, .pointer (some ⟨b19, 0, none⟩)), (7, .int .i64 v32), (8, .int .i64 v33)] a ∧ Mem w0 S [ro sa0_l 3 a0_l.length (ec e3 a0_l), .blk b18 48 (#[sa1_r_0, .int .i64 v28, s31]), ro sa1_r_0 1 a1_r_0.length (ec eb a1_r_0), ro s31 1 v30.length (ec e1 v30), .blk b19 48 (#[.slice none 0 0, .int .i64 0, .slice none 0 0])] w ∧ ref05_Get_l1 K a0_l a1_r_0 k v28 v30 v32 v33 = some r) K ?_ ?_ ?_
    · rintro a w ⟨_, _, _, _, _, _, _, hm⟩
      rw [ref05_Get_l1.eq_1] at hm
      cases hm
    · exact fun a w hs hM => ⟨a1_r_1, a1_r_2, 0, 1, sa1_r_2, hs.sub ⟨rfl, rfl, rfl, rfl, rfl, trivial⟩, (hM.pick [2, 1, 3, 4, 0] rfl rfl), hm⟩
    · rintro k1 a w ⟨v28, v30, v32, v33, s31, hs, hM, hm⟩
      rw [ref05_Get_l1.eq_2] at hm
      refine CW.enter hs hM ?_
      refine CW.seq ?_
      refine CW.seq ?_
      refine CW.region ?_
      refine RW.yi (.int .i64 v33) rfl rfl (Yi.pv _ rfl) ?_
      refine RW.yi (.bool (decide (v33 ≤ 16))) rfl rfl (Yi.pv _ rfl) ?_
      refine RW.nil ?_
      refine EW.next ?_
      refine CW.fork 14 (v33 ≤ 16) rfl (fun h40 => ?_) (fun h40 => ?_)
      · replace hm := (if_pos h40).symm.trans hm
        refine CW.cond_true rfl ?_
        refine CW.skip ?_
        refine EW.next ?_
        refine CW.join (fun a w => ∃ (v41 : Int) (v43 : (List Int)) (v45 : Int) (s44 : Value), St 61 [(0, sa0_l), (3, .pointer (some ⟨b18, 0, none⟩)), (4, .pointer (some ⟨b19, 0, none⟩)), (7, .int .i64 v45), (8, .int .i64 v33)] a ∧ Mem w0 S [ro sa0_l 3 a0_l.length (ec e3 a0_l), .blk b18 48 (#[sa1_r_0, .int .i64 v41, s44]), ro sa1_r_0 1 a1_r_0.length (ec eb a1_r_0), ro s44 1 v43.length (ec e1 v43), .blk b19 48 (#[.slice none 0 0, .int .i64 0, .slice none 0 0])] w ∧ ref05_Get_j2 K (ref05_Get_l1 K a0_l a1_r_0 k1) v33 v41 v43 v45 = some r) ?_ ?_
        · refine CW.block ?_
          refine CW.seq ?_
          refine CW.region ?_
          refine RW.yi (.agg #[sa1_r_0, .int .i64 v28, s31]) rfl rfl (Yi.loadW (i := 1) rfl rfl Try.isAgg48 Try.sizeOf48) ?_
          obtain ⟨r46, hr46, hm⟩ := of_bind hm
          refine RW.callM (cs := []) [] [ro sa0_l 3 a0_l.length (ec e3 a0_l), .blk b18 48 (#[sa1_r_0, .int .i64 v28, s31]), ro sa1_r_0 1 a1_r_0.length (ec eb a1_r_0), ro s31 1 v30.length (ec e1 v30), .blk b19 48 (#[.slice none 0 0, .int .i64 0, .slice none 0 0])] [ro sa1_r_0 1 a1_r_0.length (ec eb a1_r_0), ro s31 1 v30.length (ec e1 v30)] [0, 1, 2, 3, 4] (fun (u47 : Value) => [ro u47 1 r46.2.2.2.length (ec e1 r46.2.2.2)]) (fun (u47 : Value) => .tuple #[.agg #[sa1_r_0, .int .i64 r46.1, u47], .int .i64 r46.2.1, .int .i64 r46.2.2.1]) rfl rfl rfl rfl Try.call29 rfl rfl rfl (fun w hM => lentF (A := []) hM 2 rfl (lentF (A := []) hM 3 rfl (lent0))) (.inr (lentFF 2 rfl (lentFF 3 rfl (lentF0)))) (fun w S' hM => c_ref04_Reader_Bit K a1_r_0 v28 v30 sa1_r_0 s31 r46 w S' hM hr46) (fun u47 => ?_)
          refine RW.yi (.tuple #[.agg #[sa1_r_0, .int .i64 r46.1, u47], .int .i64 r46.2.1, .int .i64 r46.2.2.1]) rfl rfl (Yi.pv _ rfl) ?_
          refine RW.yi (.agg #[sa1_r_0, .int .i64 r46.1, u47]) rfl rfl (Yi.pv _ rfl) ?_
          refine RW.yi (.int .i64 r46.2.1) rfl rfl (Yi.pv _ rfl) ?_
          refine RW.yi (.int .i64 r46.2.2.1) rfl rfl (Yi.pv _ rfl) ?_
          refine RW.alloc (z := .agg #[.slice none 0 0, .int .i64 0, .slice none 0 0]) (#[.slice none 0 0, .int .i64 0, .slice none 0 0]) rfl rfl (fun _ => by kernel_rfl) rfl (fun b49 => ?_)
          refine RW.conv1 (fun w hM => ones_cat (ps := [p1 (sa1_r_0), p1 (.int .i64 r46.1), p1 (u47)]) (ones_cons (fun _ => (rd_one ((rdF 4 rfl) w hM)).2) (ones_cons (fun _ => rfl) (ones_cons (fun _ => (rd_one ((rdF 1 rfl) w hM)).2) ones_nil)))) (fun hone => ?_)
          refine RW.storeQ (i := 0) (m := 3) (cs' := #[sa1_r_0, .int .i64 r46.1, u47]) rfl rfl rfl rfl Try.sizeOf48 rfl (Nat.le_of_ble_eq_true rfl) hone (fun c' hs hget => (cat_spl (A := []) (X := [p1 (.slice none 0 0), p1 (.int .i64 0), p1 (.slice none 0 0)]) (B := []) (Y := [p1 (sa1_r_0), p1 (.int .i64 r46.1), p1 (u47)]) rfl hs (by first | exact hget | (rw [cat_one]; exact hget)))) ?_
          refine RW.yi (.int .i64 r46.2.1) rfl rfl (Yi.pv _ rfl) ?_
          refine RW.yi (.int .i64 r46.2.2.1) rfl rfl (Yi.pv _ rfl) ?_
          refine RW.nil ?_
          refine EW.next ?_
          refine CW.seq ?_
          refine CW.seq ?_
          refine CW.region ?_
          refine RW.yi (.int .i64 r46.2.2.1) rfl rfl (Yi.pv _ rfl) ?_
          refine RW.yi (.bool (decide (¬ r46.2.2.1 = 0))) rfl rfl (Yi.pv _ rfl) ?_
          refine RW.nil ?_
          refine EW.next ?_
          refine CW.fork 24 (¬ r46.2.2.1 = 0) rfl (fun h50 => ?_) (fun h50 => ?_)
          · replace hm := (if_pos h50).symm.trans hm
            refine CW.cond_true rfl ?_
            refine CW.seq ?_
            refine CW.region ?_
            refine RW.yi (.agg #[sa1_r_0, .int .i64 v28, s31]) rfl rfl (Yi.loadW (i := 3) rfl rfl Try.isAgg48 Try.sizeOf48) ?_
            refine RW.yi (.int .i64 r46.2.2.1) rfl rfl (Yi.pv _ rfl) ?_
            refine RW.conv1 (fun w hM => ones_cat (ps := [p1 (sa1_r_0), p1 (.int .i64 v28), p1 (s31)]) (ones_cons (fun _ => (rd_one ((rdF 4 rfl) w hM)).2) (ones_cons (fun _ => rfl) (ones_cons (fun _ => (rd_one ((rdF 5 rfl) w hM)).2) ones_nil)))) (fun hone => ?_)
            refine RW.storeQ (i := 6) (m := 3) (cs' := #[sa1_r_0, .int .i64 v28, s31]) rfl rfl rfl rfl Try.sizeOf48 rfl (Nat.le_of_ble_eq_true rfl) hone (fun c' hs hget => (cat_spl (A := []) (X := [p1 (.slice none 0 0), p1 (.int .i64 0), p1 (.slice none 0 0)]) (B := []) (Y := [p1 (sa1_r_0), p1 (.int .i64 v28), p1 (s31)]) rfl hs (by first | exact hget | (rw [cat_one]; exact hget)))) ?_
            refine RW.yi (.int .i64 0) rfl rfl (Yi.pv _ rfl) ?_
            refine RW.yi (.int .i64 r46.2.2.1) rfl rfl (Yi.pv _ rfl) ?_
            refine RW.nil ?_
            refine EW.next ?_
            refine CW.ret ?_
            refine EW.thr ?_
            refine EW.blr ?_
            refine EW.thr ?_
            refine EW.thr ?_
            refine EW.blr ?_
            refine EW.thr ?_
            obtain rfl := Option.some.inj hm
            exact EW.done (rs := [.cell 4 48, .tmp 5, .tmp 6]) rfl (.cellW (i := 6) (cs := #[sa1_r_0, .int .i64 v28, s31]) rfl rfl Try.isAgg48 Try.sizeOf48 (.tmp (t := 5) (v := .int .i64 0) rfl (.tmp (t := 6) (v := .int .i64 r46.2.2.1) rfl .nil))) (fun _ hM => ⟨(s31), rfl, (hM.pick [5] rfl rfl)⟩)
          · replace hm := (if_neg h50).symm.trans hm
            refine CW.cond_false rfl ?_
            refine CW.skip ?_
            refine EW.next ?_
            refine CW.seq ?_
            refine CW.region ?_
            refine RW.yi (.agg #[sa1_r_0, .int .i64 r46.1, u47]) rfl rfl (Yi.loadW (i := 0) rfl rfl Try.isAgg48 Try.sizeOf48) ?_
            refine RW.conv1 (fun w hM => ones_cat (ps := [p1 (sa1_r_0), p1 (.int .i64 r46.1), p1 (u47)]) (ones_cons (fun _ => (rd_one ((rdF 4 rfl) w hM)).2) (ones_cons (fun _ => rfl) (ones_cons (fun _ => (rd_one ((rdF 1 rfl) w hM)).2) ones_nil)))) (fun hone => ?_)
            refine RW.storeQ (i := 3) (m := 3) (cs' := #[sa1_r_0, .int .i64 r46.1, u47]) rfl rfl rfl rfl Try.sizeOf48 rfl (Nat.le_of_ble_eq_true rfl) hone (fun c' hs hget => (cat_spl (A := []) (X := [p1 (sa1_r_0), p1 (.int .i64 v28), p1 (s31)]) (B := []) (Y := [p1 (sa1_r_0), p1 (.int .i64 r46.1), p1 (u47)]) rfl hs (by first | exact hget | (rw [cat_one]; exact hget)))) ?_
            refine RW.nil ?_
            refine EW.next ?_
            refine CW.seq ?_
            refine CW.region ?_
            refine RW.yi (.int .i64 v32) rfl rfl (Yi.pv _ rfl) ?_
            refine RW.yi (.int .i64 (w64 (v32 * 2))) rfl rfl (Yi.pv _ rfl) ?_
            refine RW.yi (.int .i64 r46.2.1) rfl rfl (Yi.pv _ rfl) ?_
            refine RW.yi (.int .i64 (w64 ((w64 (v32 * 2)) + r46.2.1))) rfl rfl (Yi.pv _ rfl) ?_
            refine RW.yi (.int .i64 (w64 ((w64 (v32 * 2)) + r46.2.1))) rfl rfl (Yi.pv _ rfl) ?_
            refine RW.nil ?_
            refine EW.next ?_
            refine CW.seq ?_
            refine CW.region ?_
            refine RW.yi (.int .i64 0) rfl rfl (Yi.pv _ rfl) ?_
            refine RW.nil ?_
            refine EW.next ?_
            refine CW.block ?_
            refine CW.loop (fun k a w => ∃ (v52 : Int), St 61 [(0, sa0_l), (3, .pointer (some ⟨b18, 0, none⟩)), (4, .pointer (some ⟨b19, 0, none⟩)), (7, .int .i64 (w64 ((w64 (v32 * 2)) + r46.2.1))), (8, .int .i64 v33), (12, .int .i64 v52)] a ∧ Mem w0 S [ro sa0_l 3 a0_l.length (ec e3 a0_l), .blk b18 48 (#[sa1_r_0, .int .i64 r46.1, u47]), ro sa1_r_0 1 a1_r_0.length (ec eb a1_r_0), ro u47 1 r46.2.2.2.length (ec e1 r46.2.2.2), .blk b19 48 (#[.slice none 0 0, .int .i64 0, .slice none 0 0])] w ∧ ref05_Get_l2 K (ref05_Get_l1 K a0_l a1_r_0 k1) a0_l v32 v33 r46 k v52 = some r) K ?_ ?_ ?_
            · rintro a w ⟨_, _, _, hm⟩
              rw [ref05_Get_l2.eq_1] at hm
              cases hm
            · exact fun a w hs hM => ⟨0, hs.sub ⟨rfl, rfl, rfl, rfl, rfl, rfl, trivial⟩, (hM.pick [2, 3, 4, 1, 6] rfl rfl), hm⟩
            · rintro k2 a w ⟨v52, hs, hM, hm⟩
              rw [ref05_Get_l2.eq_2] at hm
              refine CW.enter hs hM ?_
              refine CW.seq ?_
              refine CW.seq ?_
              refine CW.region ?_
              refine RW.yi (.int .i64 v52) rfl rfl (Yi.pv _ rfl) ?_
              refine RW.yi (sa0_l) rfl rfl (Yi.pv _ rfl) ?_
              refine RW.yi (.int .i64 (a0_l.length : Int)) rfl rfl (Yi.lenS (cs := ec e3 a0_l) (m := a0_l.length) Try.underlying35 rfl (rdF 0 rfl)) ?_
              refine RW.yi (.bool (decide (v52 < (a0_l.length : Int)))) rfl rfl (Yi.pv _ rfl) ?_
              refine RW.nil ?_
              refine EW.next ?_
              refine CW.fork 35 (v52 < (a0_l.length : Int)) rfl (fun h54 => ?_) (fun h54 => ?_)
              · replace hm := (if_pos h54).symm.trans hm
                refine CW.cond_true rfl ?_
                refine CW.skip ?_
                refine EW.next ?_
                refine CW.join (fun a w => St 61 [(0, sa0_l), (3, .pointer (some ⟨b18, 0, none⟩)), (4, .pointer (some ⟨b19, 0, none⟩)), (7, .int .i64 (w64 ((w64 (v32 * 2)) + r46.2.1))), (8, .int .i64 v33), (12, .int .i64 v52)] a ∧ Mem w0 S [ro sa0_l 3 a0_l.length (ec e3 a0_l), .blk b18 48 (#[sa1_r_0, .int .i64 r46.1, u47]), ro sa1_r_0 1 a1_r_0.length (ec eb a1_r_0), ro u47 1 r46.2.2.2.length (ec e1 r46.2.2.2), .blk b19 48 (#[.slice none 0 0, .int .i64 0, .slice none 0 0])] w ∧ ref05_Get_j3 K (ref05_Get_l2 K (ref05_Get_l1 K a0_l a1_r_0 k1) a0_l v32 v33 r46 k2) v52 = some r) ?_ ?_
                · refine CW.block ?_
                  refine CW.seq ?_
                  refine CW.region ?_
                  refine RW.yi (sa0_l) rfl rfl (Yi.pv _ rfl) ?_
                  refine RW.yi (.int .i64 v52) rfl rfl (Yi.pv _ rfl) ?_
                  obtain ⟨g55, hm⟩ := of_guard hm
                  refine RW.yi (.pointer (some (eaddr sa0_l 3 v52.toNat 0))) rfl rfl (Yi.idxS (m := a0_l.length) Try.underlying35 Try.sizeOf39 rfl rfl (rdF 0 rfl) g55.1 g55.2) ?_
                  refine RW.yi (.pointer (some (eaddr sa0_l 3 v52.toNat 1))) rfl rfl (Yi.fieldE (j := 1) Try.underlying39 rfl Try.sizeOf3 rfl) ?_
                  refine RW.yi (.int .i64 ((a0_l.getD v52.toNat (0, 0, 0)).2.1)) rfl rfl (Yi.loadS (m := a0_l.length) (cs := ec e3 a0_l) _ rfl (rdF 0 rfl) Try.isAgg3 (by omega) (by omega) (by rw [ec_get (d := (0, 0, 0)) e3_is (by omega) (by decide)]; rfl)) ?_
                  refine RW.yi (.int .i64 (w64 ((w64 (v32 * 2)) + r46.2.1))) rfl rfl (Yi.pv _ rfl) ?_
                  refine RW.yi (.bool (decide ((a0_l.getD v52.toNat (0, 0, 0)).2.1 = (w64 ((w64 (v32 * 2)) + r46.2.1))))) rfl rfl (Yi.pv _ rfl) ?_
                  refine RW.yi (.bool (decide ((a0_l.getD v52.toNat (0, 0, 0)).2.1 = (w64 ((w64 (v32 * 2)) + r46.2.1))))) rfl rfl (Yi.pv _ rfl) ?_
                  refine RW.fork 45 ((a0_l.getD v52.toNat (0, 0, 0)).2.1 = (w64 ((w64 (v32 * 2)) + r46.2.1))) rfl (fun h56 => ?_) (fun h56 => ?_)
                  · replace hm := (if_pos h56).symm.trans hm
                    refine RW.yi (sa0_l) rfl rfl (Yi.pv _ rfl) ?_
                    refine RW.yi (.int .i64 v52) rfl rfl (Yi.pv _ rfl) ?_
                    refine RW.yi (.pointer (some (eaddr sa0_l 3 v52.toNat 0))) rfl rfl (Yi.idxS (m := a0_l.length) Try.underlying35 Try.sizeOf39 rfl rfl (rdF 0 rfl) g55.1 g55.2) ?_
                    refine RW.yi (.pointer (some (eaddr sa0_l 3 v52.toNat 2))) rfl rfl (Yi.fieldE (j := 2) Try.underlying39 rfl Try.sizeOf3 rfl) ?_
                    refine RW.yi (.int .i64 ((a0_l.getD v52.toNat (0, 0, 0)).2.2)) rfl rfl (Yi.loadS (m := a0_l.length) (cs := ec e3 a0_l) _ rfl (rdF 0 rfl) Try.isAgg3 (by omega) (by omega) (by rw [ec_get (d := (0, 0, 0)) e3_is (by omega) (by decide)]; rfl)) ?_
                    refine RW.yi (.int .i64 v33) rfl rfl (Yi.pv _ rfl) ?_
                    refine RW.yi (.bool (decide ((a0_l.getD v52.toNat (0, 0, 0)).2.2 = v33))) rfl rfl (Yi.pv _ rfl) ?_
                    refine RW.yi (.bool (decide ((a0_l.getD v52.toNat (0, 0, 0)).2.2 = v33))) rfl rfl (Yi.pv _ rfl) ?_
                    refine RW.nil ?_
                    refine EW.next ?_
                    refine CW.fork 53 ((a0_l.getD v52.toNat (0, 0, 0)).2.2 = v33) rfl (fun h57 => ?_) (fun h57 => ?_)
                    · replace hm := (if_pos h57).symm.trans hm
                      refine CW.cond_true rfl ?_
                      refine CW.seq ?_
                      refine CW.held (m := 9) [ro sa0_l 3 a0_l.length (ec e3 a0_l), .blk b18 48 (#[sa1_r_0, .int .i64 r46.1, u47]), ro sa1_r_0 1 a1_r_0.length (ec eb a1_r_0), ro u47 1 r46.2.2.2.length (ec e1 r46.2.2.2)] (by kernel_rfl) (by kernel_rfl) (by kernel_rfl) (fun A58 hA58 hns => ?_)
                      have hA58_111111111 : A58 0 #[true, true, true, true, true, true, true, true, true] [(4, .pointer (some ⟨b19, 0, none⟩)), (5, .int .i64 ((a0_l.getD v52.toNat (0, 0, 0)).1)), (6, .int .i64 0)] [ro sa0_l 3 a0_l.length (ec e3 a0_l), .blk b18 48 (#[sa1_r_0, .int .i64 r46.1, u47]), ro sa1_r_0 1 a1_r_0.length (ec eb a1_r_0), ro u47 1 r46.2.2.2.length (ec e1 r46.2.2.2), .blk b19 48 (#[sa1_r_0, .int .i64 r46.1, u47])] := by
                        rw [hA58]
                        refine AW.fin (by kernel_rfl) ?_
                        refine EW.next ?_
                        refine CW.ret ?_
                        refine EW.blr ?_
                        refine EW.thr ?_
                        refine EW.thr ?_
                        refine EW.blr ?_
                        refine EW.blr ?_
                        refine EW.thr ?_
                        refine EW.thr ?_
                        refine EW.blr ?_
                        refine EW.thr ?_
                        obtain rfl := Option.some.inj hm
                        exact EW.done (rs := [.cell 4 48, .tmp 5, .tmp 6]) rfl (.cellW (i := 4) (cs := #[sa1_r_0, .int .i64 r46.1, u47]) rfl rfl Try.isAgg48 Try.sizeOf48 (.tmp (t := 5) (v := .int .i64 ((a0_l.getD v52.toNat (0, 0, 0)).1)) rfl (.tmp (t := 6) (v := .int .i64 0) rfl .nil))) (fun _ hM => ⟨(u47), rfl, (hM.pick [3] rfl rfl)⟩)
                      have hA58_111111000 : A58 3 #[true, true, true, true, true, true, false, false, false] [(4, .pointer (some ⟨b19, 0, none⟩)), (54, .agg #[sa1_r_0, .int .i64 r46.1, u47]), (59, .int .i64 ((a0_l.getD v52.toNat (0, 0, 0)).1))] [ro sa0_l 3 a0_l.length (ec e3 a0_l), .blk b18 48 (#[sa1_r_0, .int .i64 r46.1, u47]), ro sa1_r_0 1 a1_r_0.length (ec eb a1_r_0), ro u47 1 r46.2.2.2.length (ec e1 r46.2.2.2), .blk b19 48 (#[.slice none 0 0, .int .i64 0, .slice none 0 0])] := by
                        rw [hA58]
                        refine AW.step 6 [] (by kernel_rfl) ⟨⟨_, rfl, ?_⟩, trivial⟩
                        · refine RW.conv1 (fun w hM => ones_cat (ps := [p1 (sa1_r_0), p1 (.int .i64 r46.1), p1 (u47)]) (ones_cons (fun _ => (rd_one ((rdF 2 rfl) w hM)).2) (ones_cons (fun _ => rfl) (ones_cons (fun _ => (rd_one ((rdF 3 rfl) w hM)).2) ones_nil)))) (fun hone => ?_)
                          refine RW.storeQ (i := 4) (m := 3) (cs' := #[sa1_r_0, .int .i64 r46.1, u47]) rfl rfl rfl rfl Try.sizeOf48 rfl (Nat.le_of_ble_eq_true rfl) hone (fun c' hs hget => (cat_spl (A := []) (X := [p1 (.slice none 0 0), p1 (.int .i64 0), p1 (.slice none 0 0)]) (B := []) (Y := [p1 (sa1_r_0), p1 (.int .i64 r46.1), p1 (u47)]) rfl hs (by first | exact hget | (rw [cat_one]; exact hget)))) ?_
                          refine RW.nil ?_
                          refine AW.on (done' := #[true, true, true, true, true, true, true, false, false]) rfl [0, 1, 2, 3] rfl rfl ?_
                          refine AW.take 7 (done' := #[true, true, true, true, true, true, true, true, false]) (.int .i64 ((a0_l.getD v52.toNat (0, 0, 0)).1)) [0, 1, 2, 3] hns rfl rfl rfl (by kernel_rfl) (by kernel_rfl) rfl rfl rfl (by kernel_rfl) (fun _ _ => Yi.pv _ rfl) ?_
                          refine AW.take 8 (done' := #[true, true, true, true, true, true, true, true, true]) (.int .i64 0) [0, 1, 2, 3] hns rfl rfl rfl (by kernel_rfl) (by kernel_rfl) rfl rfl rfl (by kernel_rfl) (fun _ _ => Yi.pv _ rfl) ?_
                          have ht := hA58_111111111
                          rw [hA58] at ht
                          refine AW.to [0, 1, 2, 3, 4] rfl rfl ?_ ht
                          exact ⟨rfl, rfl, rfl, trivial⟩
                      rw [hA58]
                      refine AW.take 0 (done' := #[true, false, false, false, false, false, false, false, false]) (.agg #[sa1_r_0, .int .i64 r46.1, u47]) [0, 1, 2, 3] hns rfl rfl rfl (by kernel_rfl) (by kernel_rfl) rfl rfl rfl (by kernel_rfl) (fun _ _ => Yi.loadW (i := 1) rfl rfl Try.isAgg48 Try.sizeOf48) ?_
                      refine AW.take 1 (done' := #[true, true, false, false, false, false, false, false, false]) (sa0_l) [0, 1, 2, 3] hns rfl rfl rfl (by kernel_rfl) (by kernel_rfl) rfl rfl rfl (by kernel_rfl) (fun _ _ => Yi.pv _ rfl) ?_
                      refine AW.take 2 (done' := #[true, true, true, false, false, false, false, false, false]) (.int .i64 v52) [0, 1, 2, 3] hns rfl rfl rfl (by kernel_rfl) (by kernel_rfl) rfl rfl rfl (by kernel_rfl) (fun _ _ => Yi.pv _ rfl) ?_
                      refine AW.take 3 (done' := #[true, true, true, true, false, false, false, false, false]) (.pointer (some (eaddr sa0_l 3 v52.toNat 0))) [0, 1, 2, 3] hns rfl rfl rfl (by kernel_rfl) (by kernel_rfl) rfl rfl rfl (by kernel_rfl) (fun _ _ => Yi.idxS (m := a0_l.length) Try.underlying35 Try.sizeOf39 rfl rfl (rdF 0 rfl) g55.1 g55.2) ?_
                      refine AW.take 4 (done' := #[true, true, true, true, true, false, false, false, false]) (.pointer (some (eaddr sa0_l 3 v52.toNat 0))) [0, 1, 2, 3] hns rfl rfl rfl (by kernel_rfl) (by kernel_rfl) rfl rfl rfl (by kernel_rfl) (fun _ _ => Yi.fieldE (j := 0) Try.underlying39 rfl Try.sizeOf3 rfl) ?_
                      refine AW.take 5 (done' := #[true, true, true, true, true, true, false, false, false]) (.int .i64 ((a0_l.getD v52.toNat (0, 0, 0)).1)) [0, 1, 2, 3] hns rfl rfl rfl (by kernel_rfl) (by kernel_rfl) rfl rfl rfl (by kernel_rfl) (fun _ _ => Yi.loadS (m := a0_l.length) (cs := ec e3 a0_l) _ rfl (rdF 0 rfl) Try.isAgg3 (by omega) (by omega) (by rw [ec_get (d := (0, 0, 0)) e3_is (by omega) (by decide)]; rfl)) ?_
                      have ht := hA58_111111000
                      rw [hA58] at ht
                      refine AW.to [0, 1, 2, 3, 4] rfl rfl ?_ ht
                      exact ⟨rfl, rfl, rfl, trivial⟩
                    · replace hm := (if_neg h57).symm.trans hm
                      refine CW.cond_false rfl ?_
                      refine CW.skip ?_
                      refine EW.bln ?_
                      refine EW.thn ?_
                      exact fun a w hs hM => ⟨hs.sub ⟨rfl, rfl, rfl, rfl, rfl, rfl, trivial⟩, (hM.pick [0, 1, 2, 3, 4] rfl rfl), hm⟩
                  · replace hm := (if_neg h56).symm.trans hm
                    refine RW.pass rfl rfl ?_
                    refine RW.pass rfl rfl ?_
                    refine RW.pass rfl rfl ?_
                    refine RW.pass rfl rfl ?_
                    refine RW.pass rfl rfl ?_
                    refine RW.pass rfl rfl ?_
                    refine RW.pass rfl rfl ?_
                    refine RW.yi (.bool false) rfl rfl (Yi.pv _ rfl) ?_
                    refine RW.nil ?_
                    refine EW.next ?_
                    refine CW.cond_false rfl ?_
                    refine CW.skip ?_
                    refine EW.bln ?_
                    refine EW.thn ?_
                    exact fun a w hs hM => ⟨hs.sub ⟨rfl, rfl, rfl, rfl, rfl, rfl, trivial⟩, (hM.pick [0, 1, 2, 3, 4] rfl rfl), hm⟩
                · rintro a w ⟨hs, hM, hm⟩
                  unfold ref05_Get_j3 at hm
                  refine CW.enter hs hM ?_
                  refine CW.region ?_
                  refine RW.yi (.int .i64 v52) rfl rfl (Yi.pv _ rfl) ?_
                  refine RW.yi (.int .i64 (w64 (v52 + 1))) rfl rfl (Yi.pv _ rfl) ?_
                  refine RW.yi (.int .i64 (w64 (v52 + 1))) rfl rfl (Yi.pv _ rfl) ?_
                  refine RW.nil ?_
                  refine EW.thn ?_
                  exact fun a w hs hM => ⟨(w64 (v52 + 1)), hs.sub ⟨rfl, rfl, rfl, rfl, rfl, rfl, trivial⟩, (hM.pick [0, 1, 2, 3, 4] rfl rfl), hm⟩
              · replace hm := (if_neg h54).symm.trans hm
                refine CW.cond_false rfl ?_
                refine CW.exit ?_
                refine EW.thx ?_
                refine EW.thx ?_
                refine EW.blx ?_
                refine EW.bln ?_
                refine EW.thn ?_
                exact fun a w hs hM => ⟨r46.1, r46.2.2.2, (w64 ((w64 (v32 * 2)) + r46.2.1)), u47, hs.sub ⟨rfl, rfl, rfl, rfl, rfl, trivial⟩, (hM.pick [0, 1, 2, 3, 4] rfl rfl), hm⟩
        · rintro a w ⟨v41, v43, v45, s44, hs, hM, hm⟩
          unfold ref05_Get_j2 at hm
          refine CW.enter hs hM ?_
          refine CW.region ?_
          refine RW.yi (.int .i64 v33) rfl rfl (Yi.pv _ rfl) ?_
          refine RW.yi (.int .i64 (w64 (v33 + 1))) rfl rfl (Yi.pv _ rfl) ?_
          refine RW.yi (.int .i64 (w64 (v33 + 1))) rfl rfl (Yi.pv _ rfl) ?_
          refine RW.nil ?_
          refine EW.thn ?_
          exact fun a w hs hM => ⟨v41, v43, v45, (w64 (v33 + 1)), s44, hs.sub ⟨rfl, rfl, rfl, rfl, rfl, trivial⟩, (hM.pick [0, 1, 2, 3, 4] rfl rfl), hm⟩
      · replace hm := (if_neg h40).symm.trans hm
        refine CW.cond_false rfl ?_
        refine CW.exit ?_
        refine EW.thx ?_
        refine EW.thx ?_
        refine EW.blx ?_
        refine EW.thn ?_
        exact fun a w hs hM => ⟨v28, v30, s31, hs.sub ⟨rfl, rfl, trivial⟩, (hM.pick [1, 2, 3, 4] rfl rfl), hm⟩
  · rintro a w ⟨v20, v22, s23, hs, hM, hm⟩
    unfold ref05_Get_j1 at hm
    refine CW.enter hs hM ?_
    refine CW.seq ?_
    refine CW.region ?_
    refine RW.yi (.agg #[sa1_r_0, .int .i64 v20, s23]) rfl rfl (Yi.loadW (i := 0) rfl rfl Try.isAgg48 Try.sizeOf48) ?_
    refine RW.conv1 (fun w hM => ones_cat (ps := [p1 (sa1_r_0), p1 (.int .i64 v20), p1 (s23)]) (ones_cons (fun _ => (rd_one ((rdF 1 rfl) w hM)).2) (ones_cons (fun _ => rfl) (ones_cons (fun _ => (rd_one ((rdF 2 rfl) w hM)).2) ones_nil)))) (fun hone => ?_)
    refine RW.storeQ (i := 3) (m := 3) (cs' := #[sa1_r_0, .int .i64 v20, s23]) rfl rfl rfl rfl Try.sizeOf48 rfl (Nat.le_of_ble_eq_true rfl) hone (fun c' hs hget => (cat_spl (A := []) (X := [p1 (.slice none 0 0), p1 (.int .i64 0), p1 (.slice none 0 0)]) (B := []) (Y := [p1 (sa1_r_0), p1 (.int .i64 v20), p1 (s23)]) rfl hs (by first | exact hget | (rw [cat_one]; exact hget)))) ?_
    refine RW.yi (.int .i64 0) rfl rfl (Yi.pv _ rfl) ?_
    refine RW.yi (.int .i64 6) rfl rfl (Yi.pv _ rfl) ?_
    refine RW.nil ?_
    refine EW.next ?_
    refine CW.ret ?_
    obtain rfl := Option.some.inj hm
    exact EW.done (rs := [.cell 4 48, .tmp 5, .tmp 6]) rfl (.cellW (i := 3) (cs := #[sa1_r_0, .int .i64 v20, s23]) rfl rfl Try.isAgg48 Try.sizeOf48 (.tmp (t := 5) (v := .int .i64 0) rfl (.tmp (t := 6) (v := .int .i64 6) rfl .nil))) (fun _ hM => ⟨(s23), rfl, (hM.pick [2] rfl rfl)⟩)

end Go.Proofs.Ytoepbakbpimkiaa
