import Derived.Test.YtoepbakbpimkiaaN8
import Derived.Test.YtoepbakbpimkiaaProg
import Derived.Test.YtoepbakbpimkiaaGbitsReaderBit
set_option maxRecDepth 100000
set_option maxHeartbeats 1000000
namespace Go.Proofs.Ytoepbakbpimkiaa
open Go Go.RowKit K

def huff_Table_Get_j1 (_ : Nat) (v19 : Int) (v20 : Int) (v21 : Int) : Option (Int × Int × Int × Int × Int) :=
  some (0, 6, v19, v20, v21)

def huff_Table_Get_l1 (K : Nat) (a0_t_3 : (List MEnt)) (a1_r_3 : (List Int)) : Nat → Int → Int → Int → Int → Int → Int →  Option (Int × Int × Int × Int × Int)
  | 0, _, _, _, _, _, _ => none
  | k1 + 1, v25, v26, v27, v29, v30, v31 =>
    (if v31 < 16 then ((bits_Reader_Bit K v25 v26 v27 a1_r_3).bind fun r40 => (if ¬ r40.2.1 = 0 then some (0, r40.2.1, r40.2.2.1, r40.2.2.2.1, r40.2.2.2.2) else (if ((mfind a0_t_3 ((bitI .or .i64 (shlI .i64 v29 1) r40.1), (w64 (v30 + 1)))).isSome) = true then some (((mfind a0_t_3 ((bitI .or .i64 (shlI .i64 v29 1) r40.1), (w64 (v30 + 1)))).getD 0), 0, r40.2.2.1, r40.2.2.2.1, r40.2.2.2.2) else (huff_Table_Get_l1 K a0_t_3 a1_r_3 k1) r40.2.2.1 r40.2.2.2.1 r40.2.2.2.2 (bitI .or .i64 (shlI .i64 v29 1) r40.1) (w64 (v30 + 1)) (w64 (v31 + 1))))) else huff_Table_Get_j1 K v25 v26 v27)

def huff_Table_Get (K : Nat) (a0_t_0 : (Nat → Int)) (a0_t_1 : (List Int)) (a0_t_2 : (Nat → Int)) (a0_t_3 : (List MEnt)) (a1_r_0 : Int) (a1_r_1 : Int) (a1_r_2 : Int) (a1_r_3 : (List Int)) : Option (Int × Int × Int × Int × Int) :=
  huff_Table_Get_l1 K a0_t_3 a1_r_3 K a1_r_0 a1_r_1 a1_r_2 0 0 0

theorem c_huff_Table_Get (K : Nat) (a0_t_0 : (Nat → Int)) (a0_t_1 : (List Int)) (a0_t_2 : (Nat → Int)) (a0_t_3 : (List MEnt)) (a1_r_0 : Int) (a1_r_1 : Int) (a1_r_2 : Int) (a1_r_3 : (List Int)) (ba0_t : Nat) (sa0_t_1 : Value) (ba0_t_3 : Nat) (ba1_r : Nat) (sa1_r_3 : Value) (r : Int × Int × Int × Int × Int) (w0 : World) (S : Own) (hM0 : Mem w0 S [.blk ba0_t 67 (cat [(16, (iv a0_t_0)), p1 (sa0_t_1), (512, (iv a0_t_2)), p1 (.map (some ba0_t_3))]), .row sa0_t_1 3 1 a0_t_1.length (ec e1 a0_t_1), mpE ba0_t_3 a0_t_3, .blk ba1_r 74 (#[.int .i64 a1_r_0, .int .i64 a1_r_1, .int .i64 a1_r_2, sa1_r_3]), .row sa1_r_3 5 1 a1_r_3.length (ec eb a1_r_3)] w0) (hm : huff_Table_Get K a0_t_0 a0_t_1 a0_t_2 a0_t_3 a1_r_0 a1_r_1 a1_r_2 a1_r_3 = some r) : Calls Try.prog 19 #[.pointer (some ⟨ba0_t, 0, none⟩), .pointer (some ⟨ba1_r, 0, none⟩)] w0 fun e w' => ∃ _u : Unit, e = .returned (.tuple #[.int .i64 r.1, .int .i64 r.2.1]) ∧ Mem w0 S [.blk ba0_t 67 (cat [(16, (iv a0_t_0)), p1 (sa0_t_1), (512, (iv a0_t_2)), p1 (.map (some ba0_t_3))]), .row sa0_t_1 3 1 a0_t_1.length (ec e1 a0_t_1), mpE ba0_t_3 a0_t_3, .blk ba1_r 74 (#[.int .i64 r.2.2.1, .int .i64 r.2.2.2.1, .int .i64 r.2.2.2.2, sa1_r_3]), .row sa1_r_3 5 1 a1_r_3.length (ec eb a1_r_3)] w' := by
  unfold huff_Table_Get at hm
  refine calls_CW (n := 45) w0 S [.blk ba0_t 67 (cat [(16, (iv a0_t_0)), p1 (sa0_t_1), (512, (iv a0_t_2)), p1 (.map (some ba0_t_3))]), .row sa0_t_1 3 1 a0_t_1.length (ec e1 a0_t_1), mpE ba0_t_3 a0_t_3, .blk ba1_r 74 (#[.int .i64 a1_r_0, .int .i64 a1_r_1, .int .i64 a1_r_2, sa1_r_3]), .row sa1_r_3 5 1 a1_r_3.length (ec eb a1_r_3)] Try.func19 rfl rfl rfl hM0 ?_
  refine CW.seq ?_
  refine CW.region ?_
  refine RW.yi (.int .i64 0) rfl rfl (Yi.pv _ rfl) ?_
  refine RW.yi (.int .i64 0) rfl rfl (Yi.pv _ rfl) ?_
  refine RW.nil ?_
  refine EW.next ?_
  refine CW.seq ?_
  refine CW.seq ?_
  refine CW.region ?_
  refine RW.yi (.pointer (some ⟨ba0_t, 0, none⟩)) rfl rfl (Yi.pv _ rfl) ?_
  refine RW.yi (.bool false) rfl rfl (Yi.eqNil false rfl rfl Try.underlying27 (.inr ⟨rfl, rfl⟩)) ?_
  refine RW.nil ?_
  refine EW.next ?_
  refine CW.cond_false rfl ?_
  refine CW.skip ?_
  refine EW.next ?_
  refine CW.seq ?_
  refine CW.region ?_
  refine RW.yi (.agg #[.int .i64 0, .int .i64 0]) rfl rfl (Yi.build (vs := []) _ rfl rfl (fun _ => by kernel_rfl)) ?_
  refine RW.alloc (z := .agg #[.int .i64 0, .int .i64 0]) (#[.int .i64 0, .int .i64 0]) rfl rfl (fun _ => by kernel_rfl) rfl (fun b18 => ?_)
  refine RW.storeW (i := 0) (cs' := #[.int .i64 0, .int .i64 0]) rfl rfl rfl rfl (by kernel_rfl) rfl (by kernel_rfl) ?_
  refine RW.nil ?_
  refine EW.next ?_
  refine CW.join (fun a w => ∃ (v19 : Int) (v20 : Int) (v21 : Int), St 45 [] a ∧ Mem w0 S [.blk ba0_t 67 (cat [(16, (iv a0_t_0)), p1 (sa0_t_1), (512, (iv a0_t_2)), p1 (.map (some ba0_t_3))]), .row sa0_t_1 3 1 a0_t_1.length (ec e1 a0_t_1), mpE ba0_t_3 a0_t_3, .blk ba1_r 74 (#[.int .i64 v19, .int .i64 v20, .int .i64 v21, sa1_r_3]), .row sa1_r_3 5 1 a1_r_3.length (ec eb a1_r_3)] w ∧ huff_Table_Get_j1 K v19 v20 v21 = some r) ?_ ?_
  · refine CW.seq ?_
    refine CW.region ?_
    refine RW.yi (.int .i64 0) rfl rfl (Yi.pv _ rfl) ?_
    refine RW.nil ?_
    refine EW.next ?_
    refine CW.block ?_
    refine CW.loop (fun k a w => ∃ (v25 : Int) (v26 : Int) (v27 : Int) (v29 : Int) (v30 : Int) (v31 : Int), St 45 [(0, .pointer (some ⟨ba0_t, 0, none⟩)), (1, .pointer (some ⟨ba1_r, 0, none⟩)), (6, .pointer (some ⟨b18, 0, none⟩)), (14, .int .i64 v31)] a ∧ Mem w0 S [.blk ba0_t 67 (cat [(16, (iv a0_t_0)), p1 (sa0_t_1), (512, (iv a0_t_2)), p1 (.map (some ba0_t_3))]), .row sa0_t_1 3 1 a0_t_1.length (ec e1 a0_t_1), mpE ba0_t_3 a0_t_3, .blk ba1_r 74 (#[.int .i64 v25, .int .i64 v26, .int .i64 v27, sa1_r_3]), .row sa1_r_3 5 1 a1_r_3.length (ec eb a1_r_3), .blk b18 64 (#[.int .i64 v29, .int .i64 v30])] w ∧ huff_Table_Get_l1 K a0_t_3 a1_r_3 k v25 v26 v27 v29 v30 v31 = some r) K ?_ ?_ ?_
    · rintro a w ⟨_, _, _, _, _, _, _, _, hm⟩
      rw [huff_Table_Get_l1.eq_1] at hm
      cases hm
    · exact fun a w hs hM => ⟨a1_r_0, a1_r_1, a1_r_2, 0, 0, 0, hs.sub ⟨rfl, rfl, rfl, rfl, trivial⟩, (hM.pick [1, 2, 3, 4, 5, 0] rfl rfl), hm⟩
    · rintro k1 a w ⟨v25, v26, v27, v29, v30, v31, hs, hM, hm⟩
      rw [huff_Table_Get_l1.eq_2] at hm
      refine CW.enter hs hM ?_
      refine CW.seq ?_
      refine CW.region ?_
      refine RW.yi (.bool (decide (v31 < 16))) rfl rfl (Yi.pv _ rfl) ?_
      refine RW.nil ?_
      refine EW.next ?_
      refine CW.seq ?_
      refine CW.fork 15 (v31 < 16) rfl (fun h39 => ?_) (fun h39 => ?_)
      · replace hm := (if_pos h39).symm.trans hm
        refine CW.cond_true rfl ?_
        refine CW.skip ?_
        refine EW.next ?_
        refine CW.seq ?_
        refine CW.block ?_
        refine CW.seq ?_
        refine CW.region ?_
        refine RW.yi (.pointer (some ⟨ba1_r, 0, none⟩)) rfl rfl (Yi.pv _ rfl) ?_
        obtain ⟨r40, hr40, hm⟩ := of_bind hm
        refine RW.callM (cs := []) [.blk ba1_r 74 (#[.int .i64 v25, .int .i64 v26, .int .i64 v27, sa1_r_3]), .row sa1_r_3 5 1 a1_r_3.length (ec eb a1_r_3)] [.blk ba0_t 67 (cat [(16, (iv a0_t_0)), p1 (sa0_t_1), (512, (iv a0_t_2)), p1 (.map (some ba0_t_3))]), .row sa0_t_1 3 1 a0_t_1.length (ec e1 a0_t_1), mpE ba0_t_3 a0_t_3, .blk b18 64 (#[.int .i64 v29, .int .i64 v30])] [] [3, 4, 0, 1, 2, 5] (fun (_ : Unit) => [.blk ba1_r 74 (#[.int .i64 r40.2.2.1, .int .i64 r40.2.2.2.1, .int .i64 r40.2.2.2.2, sa1_r_3]), .row sa1_r_3 5 1 a1_r_3.length (ec eb a1_r_3)]) (fun (_ : Unit) => .tuple #[.int .i64 r40.1, .int .i64 r40.2.1]) rfl rfl rfl rfl Try.call28 rfl rfl rfl (fun w hM => lent0) (.inl fun _ => rfl) (fun w S' hM => c_bits_Reader_Bit K v25 v26 v27 a1_r_3 ba1_r sa1_r_3 r40 w S' hM hr40) (fun _ => ?_)
        refine RW.yi (.tuple #[.int .i64 r40.1, .int .i64 r40.2.1]) rfl rfl (Yi.pv _ rfl) ?_
        refine RW.yi (.int .i64 r40.1) rfl rfl (Yi.pv _ rfl) ?_
        refine RW.yi (.int .i64 r40.2.1) rfl rfl (Yi.pv _ rfl) ?_
        refine RW.yi (.int .i64 r40.1) rfl rfl (Yi.pv _ rfl) ?_
        refine RW.yi (.int .i64 r40.2.1) rfl rfl (Yi.pv _ rfl) ?_
        refine RW.nil ?_
        refine EW.next ?_
        refine CW.seq ?_
        refine CW.seq ?_
        refine CW.region ?_
        refine RW.yi (.int .i64 r40.2.1) rfl rfl (Yi.pv _ rfl) ?_
        refine RW.yi (.bool (decide (¬ r40.2.1 = 0))) rfl rfl (Yi.pv _ rfl) ?_
        refine RW.nil ?_
        refine EW.next ?_
        refine CW.fork 22 (¬ r40.2.1 = 0) rfl (fun h43 => ?_) (fun h43 => ?_)
        · replace hm := (if_pos h43).symm.trans hm
          refine CW.cond_true rfl ?_
          refine CW.seq ?_
          refine CW.region ?_
          refine RW.yi (.int .i64 r40.2.1) rfl rfl (Yi.pv _ rfl) ?_
          refine RW.yi (.int .i64 0) rfl rfl (Yi.pv _ rfl) ?_
          refine RW.yi (.int .i64 r40.2.1) rfl rfl (Yi.pv _ rfl) ?_
          refine RW.nil ?_
          refine EW.next ?_
          refine CW.ret ?_
          refine EW.thr ?_
          refine EW.blr ?_
          refine EW.thr ?_
          refine EW.thr ?_
          refine EW.blr ?_
          refine EW.thr ?_
          obtain rfl := Option.some.inj hm
          exact EW.done (rs := [.tmp 4, .tmp 5]) rfl (.tmp (t := 4) (v := .int .i64 0) rfl (.tmp (t := 5) (v := .int .i64 r40.2.1) rfl .nil)) (fun _ hM => ⟨(), rfl, (hM.pick [2, 3, 4, 0, 1] rfl rfl)⟩)
        · replace hm := (if_neg h43).symm.trans hm
          refine CW.cond_false rfl ?_
          refine CW.skip ?_
          refine EW.next ?_
          refine CW.seq ?_
          refine CW.region ?_
          refine RW.yi (.pointer (some ⟨b18, 0, none⟩)) rfl rfl (Yi.fieldAddr (j := 0) Try.underlying64 rfl Try.sizeOf3 rfl) ?_
          refine RW.yi (.int .i64 v29) rfl rfl (Yi.load1 (i := 5) _ rfl rfl Try.isAgg3 rfl) ?_
          refine RW.yi (.int .i64 (shlI .i64 v29 1)) rfl rfl (Yi.shl rfl rfl (by decide)) ?_
          refine RW.yi (.int .i64 r40.1) rfl rfl (Yi.pv _ rfl) ?_
          refine RW.yi (.int .i64 (bitI .or .i64 (shlI .i64 v29 1) r40.1)) rfl rfl (Yi.bits rfl rfl (by simp)) ?_
          refine RW.yi (.pointer (some ⟨b18, 1, none⟩)) rfl rfl (Yi.fieldAddr (j := 1) Try.underlying64 rfl Try.sizeOf3 rfl) ?_
          refine RW.yi (.int .i64 v30) rfl rfl (Yi.load1 (i := 5) _ rfl rfl Try.isAgg3 rfl) ?_
          refine RW.yi (.int .i64 (w64 (v30 + 1))) rfl rfl (Yi.pv _ rfl) ?_
          refine RW.yi (.agg #[.int .i64 (bitI .or .i64 (shlI .i64 v29 1) r40.1), .int .i64 (w64 (v30 + 1))]) rfl rfl (Yi.build (vs := [.int .i64 (bitI .or .i64 (shlI .i64 v29 1) r40.1), .int .i64 (w64 (v30 + 1))]) _ rfl rfl (fun _ => by kernel_rfl)) ?_
          refine RW.storeW (i := 5) (cs' := #[.int .i64 (bitI .or .i64 (shlI .i64 v29 1) r40.1), .int .i64 (w64 (v30 + 1))]) rfl rfl rfl rfl (by kernel_rfl) rfl (by kernel_rfl) ?_
          refine RW.nil ?_
          refine EW.next ?_
          refine CW.seq ?_
          refine CW.draws (by kernel_rfl) (by kernel_rfl) ?_
          refine QW.yi (.pointer (some ⟨ba0_t, 0, none⟩)) rfl rfl (Yi.pv _ rfl) ?_
          refine QW.yi (.pointer (some ⟨ba0_t, 0, none⟩)) rfl rfl (Yi.nilCheck rfl (fun h => by cases h) (fun h => by cases h) (fun h => by cases h) (fun _ _ _ h => by cases h)) ?_
          refine QW.yi (.pointer (some ⟨ba0_t, 529, none⟩)) rfl rfl (Yi.fieldAddr (j := 2) Try.underlying67 rfl Try.sizeOf62 rfl) ?_
          refine QW.yi (.map (some ba0_t_3)) rfl rfl (Yi.load1 (i := 2) _ rfl rfl Try.isAgg62 (cat_get1 (ps := [(16, (iv a0_t_0)), p1 (sa0_t_1), (512, (iv a0_t_2)), p1 (.map (some ba0_t_3))]) 3 rfl rfl)) ?_
          refine QW.yi (.agg #[.int .i64 (bitI .or .i64 (shlI .i64 v29 1) r40.1), .int .i64 (w64 (v30 + 1))]) rfl rfl (Yi.loadW (i := 5) rfl rfl Try.isAgg64 Try.sizeOf64) ?_
          refine QW.yi (.tuple #[.int .i64 ((mfind a0_t_3 ((bitI .or .i64 (shlI .i64 v29 1) r40.1), (w64 (v30 + 1)))).getD 0), .bool ((mfind a0_t_3 ((bitI .or .i64 (shlI .i64 v29 1) r40.1), (w64 (v30 + 1)))).isSome)]) rfl rfl (Yi.lookup (i := 4) Try.underlying62 Try.underlying64 Try.stoodInHeld64 (by kernel_rfl) rfl (fun _ => by kernel_rfl) rfl rfl rfl) ?_
          refine QW.yi (.tuple #[.int .i64 ((mfind a0_t_3 ((bitI .or .i64 (shlI .i64 v29 1) r40.1), (w64 (v30 + 1)))).getD 0), .bool ((mfind a0_t_3 ((bitI .or .i64 (shlI .i64 v29 1) r40.1), (w64 (v30 + 1)))).isSome)]) rfl rfl (Yi.pv _ rfl) ?_
          refine QW.yi (.int .i64 ((mfind a0_t_3 ((bitI .or .i64 (shlI .i64 v29 1) r40.1), (w64 (v30 + 1)))).getD 0)) rfl rfl (Yi.pv _ rfl) ?_
          refine QW.yi (.bool ((mfind a0_t_3 ((bitI .or .i64 (shlI .i64 v29 1) r40.1), (w64 (v30 + 1)))).isSome)) rfl rfl (Yi.pv _ rfl) ?_
          refine QW.yi (.int .i64 ((mfind a0_t_3 ((bitI .or .i64 (shlI .i64 v29 1) r40.1), (w64 (v30 + 1)))).getD 0)) rfl rfl (Yi.pv _ rfl) ?_
          refine QW.yi (.bool ((mfind a0_t_3 ((bitI .or .i64 (shlI .i64 v29 1) r40.1), (w64 (v30 + 1)))).isSome)) rfl rfl (Yi.pv _ rfl) ?_
          refine QW.nil ?_
          refine EW.next ?_
          refine CW.seq ?_
          refine CW.region ?_
          refine RW.yi (.bool ((mfind a0_t_3 ((bitI .or .i64 (shlI .i64 v29 1) r40.1), (w64 (v30 + 1)))).isSome)) rfl rfl (Yi.pv _ rfl) ?_
          refine RW.nil ?_
          refine EW.next ?_
          refine CW.forkB 42 (((mfind a0_t_3 ((bitI .or .i64 (shlI .i64 v29 1) r40.1), (w64 (v30 + 1)))).isSome)) rfl (fun h44 => ?_) (fun h44 => ?_)
          · replace hm := (if_pos h44).symm.trans hm
            refine CW.cond_true rfl ?_
            refine CW.seq ?_
            refine CW.region ?_
            refine RW.yi (.int .i64 ((mfind a0_t_3 ((bitI .or .i64 (shlI .i64 v29 1) r40.1), (w64 (v30 + 1)))).getD 0)) rfl rfl (Yi.pv _ rfl) ?_
            refine RW.yi (.int .i64 ((mfind a0_t_3 ((bitI .or .i64 (shlI .i64 v29 1) r40.1), (w64 (v30 + 1)))).getD 0)) rfl rfl (Yi.pv _ rfl) ?_
            refine RW.yi (.int .i64 0) rfl rfl (Yi.pv _ rfl) ?_
            refine RW.nil ?_
            refine EW.next ?_
            refine CW.ret ?_
            refine EW.blr ?_
            refine EW.thr ?_
            refine EW.thr ?_
            refine EW.blr ?_
            refine EW.thr ?_
            obtain rfl := Option.some.inj hm
            exact EW.done (rs := [.tmp 4, .tmp 5]) rfl (.tmp (t := 4) (v := .int .i64 ((mfind a0_t_3 ((bitI .or .i64 (shlI .i64 v29 1) r40.1), (w64 (v30 + 1)))).getD 0)) rfl (.tmp (t := 5) (v := .int .i64 0) rfl .nil)) (fun _ hM => ⟨(), rfl, (hM.pick [2, 3, 4, 0, 1] rfl rfl)⟩)
          · replace hm := (if_neg h44).symm.trans hm
            refine CW.cond_false rfl ?_
            refine CW.skip ?_
            refine EW.bln ?_
            refine EW.next ?_
            refine CW.region ?_
            refine RW.yi (.int .i64 (w64 (v31 + 1))) rfl rfl (Yi.pv _ rfl) ?_
            refine RW.yi (.int .i64 (w64 (v31 + 1))) rfl rfl (Yi.pv _ rfl) ?_
            refine RW.nil ?_
            refine EW.thn ?_
            exact fun a w hs hM => ⟨r40.2.2.1, r40.2.2.2.1, r40.2.2.2.2, (bitI .or .i64 (shlI .i64 v29 1) r40.1), (w64 (v30 + 1)), (w64 (v31 + 1)), hs.sub ⟨rfl, rfl, rfl, rfl, trivial⟩, (hM.pick [2, 3, 4, 0, 1, 5] rfl rfl), hm⟩
      · replace hm := (if_neg h39).symm.trans hm
        refine CW.cond_false rfl ?_
        refine CW.exit ?_
        refine EW.thx ?_
        refine EW.thx ?_
        refine EW.blx ?_
        refine EW.thn ?_
        exact fun a w hs hM => ⟨v25, v26, v27, hs.sub trivial, (hM.pick [0, 1, 2, 3, 4] rfl rfl), hm⟩
  · rintro a w ⟨v19, v20, v21, hs, hM, hm⟩
    unfold huff_Table_Get_j1 at hm
    refine CW.enter hs hM ?_
    refine CW.seq ?_
    refine CW.region ?_
    refine RW.yi (.int .i64 0) rfl rfl (Yi.pv _ rfl) ?_
    refine RW.yi (.int .i64 6) rfl rfl (Yi.pv _ rfl) ?_
    refine RW.nil ?_
    refine EW.next ?_
    refine CW.ret ?_
    obtain rfl := Option.some.inj hm
    exact EW.done (rs := [.tmp 4, .tmp 5]) rfl (.tmp (t := 4) (v := .int .i64 0) rfl (.tmp (t := 5) (v := .int .i64 6) rfl .nil)) (fun _ hM => ⟨(), rfl, (hM.pick [0, 1, 2, 3, 4] rfl rfl)⟩)

end Go.Proofs.Ytoepbakbpimkiaa
