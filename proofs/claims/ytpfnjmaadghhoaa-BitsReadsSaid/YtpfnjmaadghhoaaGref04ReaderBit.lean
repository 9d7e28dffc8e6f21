import Derived.Test.YtpfnjmaadghhoaaN7
import Derived.Test.YtpfnjmaadghhoaaProg
import Derived.Test.YtpfnjmaadghhoaaGref04Digits
set_option maxRecDepth 100000
set_option maxHeartbeats 1000000
namespace Go.Proofs.Ytpfnjmaadghhoaa
open Go Go.RowKit K

def ref04_Reader_Bit (K : Nat) (a0_0 : (List Int)) (a0_1 : Int) (a0_2 : (List Int)) : Option (Int × Int × Int × (List Int)) :=
  (if 0 < (a0_2.length : Int) then (if 1 ≤ (a0_2.length : Int) then (if 0 < (a0_2.length : Int) then some (a0_1, (a0_2.getD 0 0), 0, (a0_2.drop 1)) else none) else none) else (if (a0_0.length : Int) ≤ a0_1 then some (a0_1, 0, 3, a0_2) else (if 0 ≤ a0_1 ∧ a0_1 < (a0_0.length : Int) then ((ref04_Digits K (w64 ((a0_0.getD a0_1.toNat 0))) 8).bind fun r46 => (if (a0_0.getD a0_1.toNat 0) < 255 then (if 1 ≤ (r46.length : Int) then (if 0 < (r46.length : Int) then some ((w64 (a0_1 + 1)), (r46.getD 0 0), 0, (r46.drop 1)) else none) else none) else (if (a0_0.length : Int) ≤ (w64 (a0_1 + 1)) then some (a0_1, 0, 3, a0_2) else (if 0 ≤ (w64 (a0_1 + 1)) ∧ (w64 (a0_1 + 1)) < (a0_0.length : Int) then (if 0 < (a0_0.getD ((w64 (a0_1 + 1)).toNat) 0) then some (a0_1, 0, 7, a0_2) else (if 1 ≤ (r46.length : Int) then (if 0 < (r46.length : Int) then some ((w64 (a0_1 + 2)), (r46.getD 0 0), 0, (r46.drop 1)) else none) else none)) else none)))) else none)))

theorem c_ref04_Reader_Bit (K : Nat) (a0_0 : (List Int)) (a0_1 : Int) (a0_2 : (List Int)) (sa0_0 : Value) (sa0_2 : Value) (r : Int × Int × Int × (List Int)) (w0 : World) (S : Own) (hM0 : Mem w0 S [ro sa0_0 1 a0_0.length (ec eb a0_0), ro sa0_2 1 a0_2.length (ec e1 a0_2)] w0) (hm : ref04_Reader_Bit K a0_0 a0_1 a0_2 = some r) : Calls Try.prog 23 #[.agg #[sa0_0, .int .i64 a0_1, sa0_2]] w0 fun e w' => ∃ u : Value, e = .returned (.tuple #[.agg #[sa0_0, .int .i64 r.1, u], .int .i64 r.2.1, .int .i64 r.2.2.1]) ∧ Mem w0 S [ro u 1 r.2.2.2.length (ec e1 r.2.2.2)] w' := by
  unfold ref04_Reader_Bit at hm
  refine calls_CW (n := 83) w0 S [ro sa0_0 1 a0_0.length (ec eb a0_0), ro sa0_2 1 a0_2.length (ec e1 a0_2)] Try.func23 rfl rfl rfl hM0 ?_
  refine CW.seq ?_
  refine CW.region ?_
  refine RW.box (v := .agg #[sa0_0, .int .i64 a0_1, sa0_2]) rfl rfl rfl (fun b36 => ?_)
  refine RW.alloc (z := .agg #[.slice none 0 0, .int .i64 0, .slice none 0 0]) (#[.slice none 0 0, .int .i64 0, .slice none 0 0]) rfl rfl (fun _ => by kernel_rfl) rfl (fun b37 => ?_)
  refine RW.yi (.int .i64 0) rfl rfl (Yi.pv _ rfl) ?_
  refine RW.yi (.int .i64 0) rfl rfl (Yi.pv _ rfl) ?_
  refine RW.nil ?_
  refine EW.next ?_
  refine CW.seq ?_
  refine CW.seq ?_
  refine CW.region ?_
  refine RW.yi (.pointer (some ⟨b36, 2, none⟩)) rfl rfl (Yi.fieldAddr (j := 2) Try.underlying50 rfl Try.sizeOf26 rfl) ?_
  refine RW.yi (sa0_2) rfl rfl (Yi.load1 (i := 1) _ rfl rfl Try.isAgg26 rfl) ?_
  refine RW.yi (.int .i64 (a0_2.length : Int)) rfl rfl (Yi.lenS (cs := ec e1 a0_2) (m := a0_2.length) Try.underlying26 rfl (rdF 3 rfl)) ?_
  refine RW.yi (.bool (decide (0 < (a0_2.length : Int)))) rfl rfl (Yi.pv _ rfl) ?_
  refine RW.nil ?_
  refine EW.next ?_
  refine CW.fork 9 (0 < (a0_2.length : Int)) rfl (fun h38 => ?_) (fun h38 => ?_)
  · replace hm := (if_pos h38).symm.trans hm
    refine CW.cond_true rfl ?_
    refine CW.seq ?_
    obtain ⟨g39, hm⟩ := of_guard hm
    obtain ⟨g40, hm⟩ := of_guard hm
    refine CW.held (m := 15) [.blk b36 50 (#[sa0_0, .int .i64 a0_1, sa0_2]), ro sa0_0 1 a0_0.length (ec eb a0_0), ro sa0_2 1 a0_2.length (ec e1 a0_2)] (by kernel_rfl) (by kernel_rfl) (by kernel_rfl) (fun A42 hA42 hns => ?_)
    have hA42_111111111111111 : A42 0 #[true, true, true, true, true, true, true, true, true, true, true, true, true, true, true] [(2, .pointer (some ⟨b37, 0, none⟩)), (3, .int .i64 (a0_2.getD 0 0)), (4, .int .i64 0)] [ro (subS sa0_2 1 1 a0_2.length none) 1 (a0_2.drop 1).length (ec e1 (a0_2.drop 1)), .blk b37 50 (#[sa0_0, .int .i64 a0_1, subS sa0_2 1 1 a0_2.length none]), .blk b36 50 (#[sa0_0, .int .i64 a0_1, sa0_2]), ro sa0_0 1 a0_0.length (ec eb a0_0), ro sa0_2 1 a0_2.length (ec e1 a0_2)] := by
      rw [hA42]
      refine AW.fin (by kernel_rfl) ?_
      refine EW.next ?_
      refine CW.ret ?_
      refine EW.thr ?_
      obtain rfl := Option.some.inj hm
      exact EW.done (rs := [.cell 2 50, .tmp 3, .tmp 4]) rfl (.cellW (i := 1) (cs := #[sa0_0, .int .i64 a0_1, subS sa0_2 1 1 a0_2.length none]) rfl rfl Try.isAgg50 Try.sizeOf50 (.tmp (t := 3) (v := .int .i64 (a0_2.getD 0 0)) rfl (.tmp (t := 4) (v := .int .i64 0) rfl .nil))) (fun _ hM => ⟨((subS sa0_2 1 1 a0_2.length none)), rfl, (hM.pick [0] rfl rfl)⟩)
    have hA42_111111111111000 : A42 3 #[true, true, true, true, true, true, true, true, true, true, true, true, false, false, false] [(2, .pointer (some ⟨b37, 0, none⟩)), (3, .int .i64 0), (4, .int .i64 0), (17, .agg #[sa0_0, .int .i64 a0_1, subS sa0_2 1 1 a0_2.length none]), (21, .int .i64 (a0_2.getD 0 0))] [ro (subS sa0_2 1 1 a0_2.length none) 1 (a0_2.drop 1).length (ec e1 (a0_2.drop 1)), .blk b37 50 (#[.slice none 0 0, .int .i64 0, .slice none 0 0]), .blk b36 50 (#[sa0_0, .int .i64 a0_1, sa0_2]), ro sa0_0 1 a0_0.length (ec eb a0_0), ro sa0_2 1 a0_2.length (ec e1 a0_2)] := by
      rw [hA42]
      refine AW.step 12 [] (by kernel_rfl) ⟨⟨_, rfl, ?_⟩, trivial⟩
      · refine RW.conv1 (fun w hM => ones_cat (ps := [p1 (sa0_0), p1 (.int .i64 a0_1), p1 (subS sa0_2 1 1 a0_2.length none)]) (ones_cons (fun _ => (rd_one ((rdF 3 rfl) w hM)).2) (ones_cons (fun _ => rfl) (ones_cons (fun _ => (rd_one ((rdF 0 rfl) w hM)).2) ones_nil)))) (fun hone => ?_)
        refine RW.storeQ (i := 1) (m := 3) (cs' := #[sa0_0, .int .i64 a0_1, subS sa0_2 1 1 a0_2.length none]) rfl rfl rfl rfl Try.sizeOf50 rfl (Nat.le_of_ble_eq_true rfl) hone (fun c' hs hget => (cat_spl (A := []) (X := [p1 (.slice none 0 0), p1 (.int .i64 0), p1 (.slice none 0 0)]) (B := []) (Y := [p1 (sa0_0), p1 (.int .i64 a0_1), p1 (subS sa0_2 1 1 a0_2.length none)]) rfl hs (by first | exact hget | (rw [cat_one]; exact hget)))) ?_
        refine RW.nil ?_
        refine AW.on (done' := #[true, true, true, true, true, true, true, true, true, true, true, true, true, false, false]) rfl [2, 3, 4] rfl rfl ?_
        refine AW.take 13 (done' := #[true, true, true, true, true, true, true, true, true, true, true, true, true, true, false]) (.int .i64 (a0_2.getD 0 0)) [2, 3, 4] hns rfl rfl rfl (by kernel_rfl) (by kernel_rfl) rfl rfl rfl (by kernel_rfl) (fun _ _ => Yi.pv _ rfl) ?_
        refine AW.take 14 (done' := #[true, true, true, true, true, true, true, true, true, true, true, true, true, true, true]) (.int .i64 0) [2, 3, 4] hns rfl rfl rfl (by kernel_rfl) (by kernel_rfl) rfl rfl rfl (by kernel_rfl) (fun _ _ => Yi.pv _ rfl) ?_
        have ht := hA42_111111111111111
        rw [hA42] at ht
        refine AW.to [0, 1, 2, 3, 4] rfl rfl ?_ ht
        exact ⟨rfl, rfl, rfl, trivial⟩
    have hA42_111111101111000 : A42 4 #[true, true, true, true, true, true, true, false, true, true, true, true, false, false, false] [(2, .pointer (some ⟨b37, 0, none⟩)), (3, .int .i64 0), (4, .int .i64 0), (11, sa0_0), (13, .int .i64 a0_1), (16, subS sa0_2 1 1 a0_2.length none), (21, .int .i64 (a0_2.getD 0 0))] [ro (subS sa0_2 1 1 a0_2.length none) 1 (a0_2.drop 1).length (ec e1 (a0_2.drop 1)), .blk b37 50 (#[.slice none 0 0, .int .i64 0, .slice none 0 0]), .blk b36 50 (#[sa0_0, .int .i64 a0_1, sa0_2]), ro sa0_0 1 a0_0.length (ec eb a0_0), ro sa0_2 1 a0_2.length (ec e1 a0_2)] := by
      rw [hA42]
      refine AW.step 7 [] (by kernel_rfl) ⟨⟨_, rfl, ?_⟩, trivial⟩
      · refine RW.yi (.agg #[sa0_0, .int .i64 a0_1, subS sa0_2 1 1 a0_2.length none]) rfl rfl (Yi.buildM (vs := [sa0_0, .int .i64 a0_1, subS sa0_2 1 1 a0_2.length none]) _ rfl rfl (fun w hM => by have e0 := rd_slice ((rdF 3 rfl) w hM); have e1 := rd_slice ((rdF 0 rfl) w hM); revert e0 e1; generalize sa0_0 = x0; generalize (subS sa0_2 1 1 a0_2.length none) = x1; rintro ⟨_, _, _, rfl⟩ ⟨_, _, _, rfl⟩; show _ = _; kernel_rfl)) ?_
        refine RW.nil ?_
        refine AW.on (done' := #[true, true, true, true, true, true, true, true, true, true, true, true, false, false, false]) rfl [2, 3, 4] rfl rfl ?_
        have ht := hA42_111111111111000
        rw [hA42] at ht
        refine AW.to [0, 1, 2, 3, 4] rfl rfl ?_ ht
        exact ⟨rfl, rfl, rfl, rfl, rfl, trivial⟩
    have hA42_111111001111000 : A42 5 #[true, true, true, true, true, true, false, false, true, true, true, true, false, false, false] [(2, .pointer (some ⟨b37, 0, none⟩)), (3, .int .i64 0), (4, .int .i64 0), (11, sa0_0), (13, .int .i64 a0_1), (15, sa0_2), (21, .int .i64 (a0_2.getD 0 0))] [.blk b37 50 (#[.slice none 0 0, .int .i64 0, .slice none 0 0]), .blk b36 50 (#[sa0_0, .int .i64 a0_1, sa0_2]), ro sa0_0 1 a0_0.length (ec eb a0_0), ro sa0_2 1 a0_2.length (ec e1 a0_2)] := by
      rw [hA42]
      refine AW.step 6 [] (by kernel_rfl) ⟨⟨_, rfl, ?_⟩, trivial⟩
      · refine RW.yi ((subS sa0_2 1 1 a0_2.length none)) rfl rfl (Yi.slice (sz := 1) (m := a0_2.length) (l' := 1) (h' := a0_2.length) (m' := none) (v := sa0_2) (cs := ec e1 a0_2) Try.underlying26 Try.sizeOf3 rfl (rdF 3 rfl) (.inr ⟨_, _, _, rfl, rfl, rfl⟩) (.inl ⟨rfl, rfl, rfl⟩) (.inl ⟨rfl, rfl⟩) (by omega) (by omega) (fun _ h => by cases h)) ?_
        refine RW.conv (fun _ hM => hM.subRo 3 1 a0_2.length none rfl (by omega) (by omega) (fun _ h => by cases h) (k := (a0_2.drop 1).length) (cs' := ec e1 (a0_2.drop 1)) (by simp only [List.length_take, List.length_drop] <;> omega) (ec_subD e1_is a0_2 1)) ?_
        refine RW.nil ?_
        refine AW.on (done' := #[true, true, true, true, true, true, true, false, true, true, true, true, false, false, false]) rfl [2, 3, 4] rfl rfl ?_
        have ht := hA42_111111101111000
        rw [hA42] at ht
        refine AW.to [0, 1, 2, 3, 4] rfl rfl ?_ ht
        exact ⟨rfl, rfl, rfl, rfl, rfl, rfl, rfl, trivial⟩
    rw [hA42]
    refine AW.take 0 (done' := #[true, false, false, false, false, false, false, false, false, false, false, false, false, false, false]) (.pointer (some ⟨b36, 0, none⟩)) [1, 2, 3] hns rfl rfl rfl (by kernel_rfl) (by kernel_rfl) rfl rfl rfl (by kernel_rfl) (fun _ _ => Yi.fieldAddr (j := 0) Try.underlying50 rfl Try.sizeOf34 rfl) ?_
    refine AW.take 1 (done' := #[true, true, false, false, false, false, false, false, false, false, false, false, false, false, false]) (sa0_0) [1, 2, 3] hns rfl rfl rfl (by kernel_rfl) (by kernel_rfl) rfl rfl rfl (by kernel_rfl) (fun _ _ => Yi.load1 (i := 0) _ rfl rfl Try.isAgg34 rfl) ?_
    refine AW.take 2 (done' := #[true, true, true, false, false, false, false, false, false, false, false, false, false, false, false]) (.pointer (some ⟨b36, 1, none⟩)) [1, 2, 3] hns rfl rfl rfl (by kernel_rfl) (by kernel_rfl) rfl rfl rfl (by kernel_rfl) (fun _ _ => Yi.fieldAddr (j := 1) Try.underlying50 rfl Try.sizeOf3 rfl) ?_
    refine AW.take 3 (done' := #[true, true, true, true, false, false, false, false, false, false, false, false, false, false, false]) (.int .i64 a0_1) [1, 2, 3] hns rfl rfl rfl (by kernel_rfl) (by kernel_rfl) rfl rfl rfl (by kernel_rfl) (fun _ _ => Yi.load1 (i := 0) _ rfl rfl Try.isAgg3 rfl) ?_
    refine AW.take 4 (done' := #[true, true, true, true, true, false, false, false, false, false, false, false, false, false, false]) (.pointer (some ⟨b36, 2, none⟩)) [1, 2, 3] hns rfl rfl rfl (by kernel_rfl) (by kernel_rfl) rfl rfl rfl (by kernel_rfl) (fun _ _ => Yi.fieldAddr (j := 2) Try.underlying50 rfl Try.sizeOf26 rfl) ?_
    refine AW.take 5 (done' := #[true, true, true, true, true, true, false, false, false, false, false, false, false, false, false]) (sa0_2) [1, 2, 3] hns rfl rfl rfl (by kernel_rfl) (by kernel_rfl) rfl rfl rfl (by kernel_rfl) (fun _ _ => Yi.load1 (i := 0) _ rfl rfl Try.isAgg26 rfl) ?_
    refine AW.take 8 (done' := #[true, true, true, true, true, true, false, false, true, false, false, false, false, false, false]) (.pointer (some ⟨b36, 2, none⟩)) [1, 2, 3] hns rfl rfl rfl (by kernel_rfl) (by kernel_rfl) rfl rfl rfl (by kernel_rfl) (fun _ _ => Yi.fieldAddr (j := 2) Try.underlying50 rfl Try.sizeOf26 rfl) ?_
    refine AW.take 9 (done' := #[true, true, true, true, true, true, false, false, true, true, false, false, false, false, false]) (sa0_2) [1, 2, 3] hns rfl rfl rfl (by kernel_rfl) (by kernel_rfl) rfl rfl rfl (by kernel_rfl) (fun _ _ => Yi.load1 (i := 0) _ rfl rfl Try.isAgg26 rfl) ?_
    refine AW.take 10 (done' := #[true, true, true, true, true, true, false, false, true, true, true, false, false, false, false]) (.pointer (some (eaddr sa0_2 1 0 0))) [1, 2, 3] hns rfl rfl rfl (by kernel_rfl) (by kernel_rfl) rfl rfl rfl (by kernel_rfl) (fun _ _ => Yi.idxS (m := a0_2.length) Try.underlying26 Try.sizeOf3 rfl rfl (rdF 2 rfl) (by decide) g40) ?_
    refine AW.take 11 (done' := #[true, true, true, true, true, true, false, false, true, true, true, true, false, false, false]) (.int .i64 (a0_2.getD 0 0)) [1, 2, 3] hns rfl rfl rfl (by kernel_rfl) (by kernel_rfl) rfl rfl rfl (by kernel_rfl) (fun _ _ => Yi.loadS (m := a0_2.length) (cs := ec e1 a0_2) _ rfl (rdF 2 rfl) Try.isAgg3 (by omega) (by omega) (by rw [ec_get (d := 0) e1_is (by omega) (by decide)]; rfl)) ?_
    have ht := hA42_111111001111000
    rw [hA42] at ht
    refine AW.to [0, 1, 2, 3] rfl rfl ?_ ht
    exact ⟨rfl, rfl, rfl, rfl, rfl, rfl, rfl, trivial⟩
  · replace hm := (if_neg h38).symm.trans hm
    refine CW.cond_false rfl ?_
    refine CW.skip ?_
    refine EW.next ?_
    refine CW.seq ?_
    refine CW.seq ?_
    refine CW.region ?_
    refine RW.yi (.pointer (some ⟨b36, 1, none⟩)) rfl rfl (Yi.fieldAddr (j := 1) Try.underlying50 rfl Try.sizeOf3 rfl) ?_
    refine RW.yi (.int .i64 a0_1) rfl rfl (Yi.load1 (i := 1) _ rfl rfl Try.isAgg3 rfl) ?_
    refine RW.yi (.pointer (some ⟨b36, 0, none⟩)) rfl rfl (Yi.fieldAddr (j := 0) Try.underlying50 rfl Try.sizeOf34 rfl) ?_
    refine RW.yi (sa0_0) rfl rfl (Yi.load1 (i := 1) _ rfl rfl Try.isAgg34 rfl) ?_
    refine RW.yi (.int .i64 (a0_0.length : Int)) rfl rfl (Yi.lenS (cs := ec eb a0_0) (m := a0_0.length) Try.underlying34 rfl (rdF 2 rfl)) ?_
    refine RW.yi (.bool (decide ((a0_0.length : Int) ≤ a0_1))) rfl rfl (Yi.pv _ rfl) ?_
    refine RW.nil ?_
    refine EW.next ?_
    refine CW.fork 27 ((a0_0.length : Int) ≤ a0_1) rfl (fun h44 => ?_) (fun h44 => ?_)
    · replace hm := (if_pos h44).symm.trans hm
      refine CW.cond_true rfl ?_
      refine CW.seq ?_
      refine CW.region ?_
      refine RW.yi (.agg #[sa0_0, .int .i64 a0_1, sa0_2]) rfl rfl (Yi.loadW (i := 1) rfl rfl Try.isAgg50 Try.sizeOf50) ?_
      refine RW.conv1 (fun w hM => ones_cat (ps := [p1 (sa0_0), p1 (.int .i64 a0_1), p1 (sa0_2)]) (ones_cons (fun _ => (rd_one ((rdF 2 rfl) w hM)).2) (ones_cons (fun _ => rfl) (ones_cons (fun _ => (rd_one ((rdF 3 rfl) w hM)).2) ones_nil)))) (fun hone => ?_)
      refine RW.storeQ (i := 0) (m := 3) (cs' := #[sa0_0, .int .i64 a0_1, sa0_2]) rfl rfl rfl rfl Try.sizeOf50 rfl (Nat.le_of_ble_eq_true rfl) hone (fun c' hs hget => (cat_spl (A := []) (X := [p1 (.slice none 0 0), p1 (.int .i64 0), p1 (.slice none 0 0)]) (B := []) (Y := [p1 (sa0_0), p1 (.int .i64 a0_1), p1 (sa0_2)]) rfl hs (by first | exact hget | (rw [cat_one]; exact hget)))) ?_
      refine RW.yi (.int .i64 0) rfl rfl (Yi.pv _ rfl) ?_
      refine RW.yi (.int .i64 3) rfl rfl (Yi.pv _ rfl) ?_
      refine RW.nil ?_
      refine EW.next ?_
      refine CW.ret ?_
      refine EW.thr ?_
      obtain rfl := Option.some.inj hm
      exact EW.done (rs := [.cell 2 50, .tmp 3, .tmp 4]) rfl (.cellW (i := 0) (cs := #[sa0_0, .int .i64 a0_1, sa0_2]) rfl rfl Try.isAgg50 Try.sizeOf50 (.tmp (t := 3) (v := .int .i64 0) rfl (.tmp (t := 4) (v := .int .i64 3) rfl .nil))) (fun _ hM => ⟨(sa0_2), rfl, (hM.pick [3] rfl rfl)⟩)
    · replace hm := (if_neg h44).symm.trans hm
      refine CW.cond_false rfl ?_
      refine CW.skip ?_
      refine EW.next ?_
      refine CW.seq ?_
      refine CW.region ?_
      refine RW.yi (.pointer (some ⟨b36, 0, none⟩)) rfl rfl (Yi.fieldAddr (j := 0) Try.underlying50 rfl Try.sizeOf34 rfl) ?_
      refine RW.yi (sa0_0) rfl rfl (Yi.load1 (i := 1) _ rfl rfl Try.isAgg34 rfl) ?_
      refine RW.yi (.pointer (some ⟨b36, 1, none⟩)) rfl rfl (Yi.fieldAddr (j := 1) Try.underlying50 rfl Try.sizeOf3 rfl) ?_
      refine RW.yi (.int .i64 a0_1) rfl rfl (Yi.load1 (i := 1) _ rfl rfl Try.isAgg3 rfl) ?_
      obtain ⟨g45, hm⟩ := of_guard hm
      refine RW.yi (.pointer (some (eaddr sa0_0 1 a0_1.toNat 0))) rfl rfl (Yi.idxS (m := a0_0.length) Try.underlying34 Try.sizeOf5 rfl rfl (rdF 2 rfl) g45.1 g45.2) ?_
      refine RW.yi (.int .u8 (a0_0.getD a0_1.toNat 0)) rfl rfl (Yi.loadS (m := a0_0.length) (cs := ec eb a0_0) _ rfl (rdF 2 rfl) Try.isAgg5 (by omega) (by omega) (by rw [ec_get (d := 0) eb_is (by omega) (by decide)]; rfl)) ?_
      refine RW.yi (.int .i64 (w64 ((a0_0.getD a0_1.toNat 0)))) rfl rfl (Yi.conv ⟨_, Try.underlying5⟩ Try.underlying3 rfl) ?_
      obtain ⟨r46, hr46, hm⟩ := of_bind hm
      refine RW.callM (cs := []) [] [.blk b37 50 (#[.slice none 0 0, .int .i64 0, .slice none 0 0]), .blk b36 50 (#[sa0_0, .int .i64 a0_1, sa0_2]), ro sa0_0 1 a0_0.length (ec eb a0_0), ro sa0_2 1 a0_2.length (ec e1 a0_2)] [] [0, 1, 2, 3] (fun (u47 : Value) => [.row u47 3 1 r46.length (ec e1 r46)]) (fun (u47 : Value) => u47) rfl rfl rfl rfl Try.call28 rfl rfl rfl (fun w hM => lent0) (.inl fun _ => rfl) (fun w S' hM => c_ref04_Digits K (w64 ((a0_0.getD a0_1.toNat 0))) 8 r46 w S' hM hr46) (fun u47 => ?_)
      refine RW.yi (u47) rfl rfl (Yi.pv _ rfl) ?_
      refine RW.nil ?_
      refine EW.next ?_
      refine CW.seq ?_
      refine CW.seq ?_
      refine CW.region ?_
      refine RW.yi (.pointer (some ⟨b36, 0, none⟩)) rfl rfl (Yi.fieldAddr (j := 0) Try.underlying50 rfl Try.sizeOf34 rfl) ?_
      refine RW.yi (sa0_0) rfl rfl (Yi.load1 (i := 2) _ rfl rfl Try.isAgg34 rfl) ?_
      refine RW.yi (.pointer (some ⟨b36, 1, none⟩)) rfl rfl (Yi.fieldAddr (j := 1) Try.underlying50 rfl Try.sizeOf3 rfl) ?_
      refine RW.yi (.int .i64 a0_1) rfl rfl (Yi.load1 (i := 2) _ rfl rfl Try.isAgg3 rfl) ?_
      refine RW.yi (.pointer (some (eaddr sa0_0 1 a0_1.toNat 0))) rfl rfl (Yi.idxS (m := a0_0.length) Try.underlying34 Try.sizeOf5 rfl rfl (rdF 3 rfl) g45.1 g45.2) ?_
      refine RW.yi (.int .u8 (a0_0.getD a0_1.toNat 0)) rfl rfl (Yi.loadS (m := a0_0.length) (cs := ec eb a0_0) _ rfl (rdF 3 rfl) Try.isAgg5 (by omega) (by omega) (by rw [ec_get (d := 0) eb_is (by omega) (by decide)]; rfl)) ?_
      refine RW.yi (.bool (decide ((a0_0.getD a0_1.toNat 0) < 255))) rfl rfl (Yi.pv _ rfl) ?_
      refine RW.nil ?_
      refine EW.next ?_
      refine CW.fork 43 ((a0_0.getD a0_1.toNat 0) < 255) rfl (fun h49 => ?_) (fun h49 => ?_)
      · replace hm := (if_pos h49).symm.trans hm
        refine CW.cond_true rfl ?_
        refine CW.seq ?_
        obtain ⟨g50, hm⟩ := of_guard hm
        obtain ⟨g51, hm⟩ := of_guard hm
        refine CW.held (m := 14) [.blk b36 50 (#[sa0_0, .int .i64 a0_1, sa0_2]), ro sa0_0 1 a0_0.length (ec eb a0_0), ro sa0_2 1 a0_2.length (ec e1 a0_2)] (by kernel_rfl) (by kernel_rfl) (by kernel_rfl) (fun A53 hA53 hns => ?_)
        have hA53_11111111111111 : A53 0 #[true, true, true, true, true, true, true, true, true, true, true, true, true, true] [(2, .pointer (some ⟨b37, 0, none⟩)), (3, .int .i64 (r46.getD 0 0)), (4, .int .i64 0)] [ro (subS u47 1 1 r46.length none) 1 (r46.drop 1).length (ec e1 (r46.drop 1)), ro u47 1 r46.length (ec e1 r46), .blk b37 50 (#[sa0_0, .int .i64 (w64 (a0_1 + 1)), subS u47 1 1 r46.length none]), .blk b36 50 (#[sa0_0, .int .i64 a0_1, sa0_2]), ro sa0_0 1 a0_0.length (ec eb a0_0), ro sa0_2 1 a0_2.length (ec e1 a0_2)] := by
          rw [hA53]
          refine AW.fin (by kernel_rfl) ?_
          refine EW.next ?_
          refine CW.ret ?_
          refine EW.thr ?_
          obtain rfl := Option.some.inj hm
          exact EW.done (rs := [.cell 2 50, .tmp 3, .tmp 4]) rfl (.cellW (i := 2) (cs := #[sa0_0, .int .i64 (w64 (a0_1 + 1)), subS u47 1 1 r46.length none]) rfl rfl Try.isAgg50 Try.sizeOf50 (.tmp (t := 3) (v := .int .i64 (r46.getD 0 0)) rfl (.tmp (t := 4) (v := .int .i64 0) rfl .nil))) (fun _ hM => ⟨((subS u47 1 1 r46.length none)), rfl, (hM.pick [0] rfl rfl)⟩)
        have hA53_11111111111000 : A53 3 #[true, true, true, true, true, true, true, true, true, true, true, false, false, false] [(2, .pointer (some ⟨b37, 0, none⟩)), (3, .int .i64 0), (4, .int .i64 0), (51, .agg #[sa0_0, .int .i64 (w64 (a0_1 + 1)), subS u47 1 1 r46.length none]), (54, .int .i64 (r46.getD 0 0))] [ro (subS u47 1 1 r46.length none) 1 (r46.drop 1).length (ec e1 (r46.drop 1)), ro u47 1 r46.length (ec e1 r46), .blk b37 50 (#[.slice none 0 0, .int .i64 0, .slice none 0 0]), .blk b36 50 (#[sa0_0, .int .i64 a0_1, sa0_2]), ro sa0_0 1 a0_0.length (ec eb a0_0), ro sa0_2 1 a0_2.length (ec e1 a0_2)] := by
          rw [hA53]
          refine AW.step 11 [] (by kernel_rfl) ⟨⟨_, rfl, ?_⟩, trivial⟩
          · refine RW.conv1 (fun w hM => ones_cat (ps := [p1 (sa0_0), p1 (.int .i64 (w64 (a0_1 + 1))), p1 (subS u47 1 1 r46.length none)]) (ones_cons (fun _ => (rd_one ((rdF 4 rfl) w hM)).2) (ones_cons (fun _ => rfl) (ones_cons (fun _ => (rd_one ((rdF 0 rfl) w hM)).2) ones_nil)))) (fun hone => ?_)
            refine RW.storeQ (i := 2) (m := 3) (cs' := #[sa0_0, .int .i64 (w64 (a0_1 + 1)), subS u47 1 1 r46.length none]) rfl rfl rfl rfl Try.sizeOf50 rfl (Nat.le_of_ble_eq_true rfl) hone (fun c' hs hget => (cat_spl (A := []) (X := [p1 (.slice none 0 0), p1 (.int .i64 0), p1 (.slice none 0 0)]) (B := []) (Y := [p1 (sa0_0), p1 (.int .i64 (w64 (a0_1 + 1))), p1 (subS u47 1 1 r46.length none)]) rfl hs (by first | exact hget | (rw [cat_one]; exact hget)))) ?_
            refine RW.nil ?_
            refine AW.on (done' := #[true, true, true, true, true, true, true, true, true, true, true, true, false, false]) rfl [3, 4, 5] rfl rfl ?_
            refine AW.take 12 (done' := #[true, true, true, true, true, true, true, true, true, true, true, true, true, false]) (.int .i64 (r46.getD 0 0)) [3, 4, 5] hns rfl rfl rfl (by kernel_rfl) (by kernel_rfl) rfl rfl rfl (by kernel_rfl) (fun _ _ => Yi.pv _ rfl) ?_
            refine AW.take 13 (done' := #[true, true, true, true, true, true, true, true, true, true, true, true, true, true]) (.int .i64 0) [3, 4, 5] hns rfl rfl rfl (by kernel_rfl) (by kernel_rfl) rfl rfl rfl (by kernel_rfl) (fun _ _ => Yi.pv _ rfl) ?_
            have ht := hA53_11111111111111
            rw [hA53] at ht
            refine AW.to [0, 1, 2, 3, 4, 5] rfl rfl ?_ ht
            exact ⟨rfl, rfl, rfl, trivial⟩
        have hA53_11111111110100 : A53 3 #[true, true, true, true, true, true, true, true, true, true, false, true, false, false] [(2, .pointer (some ⟨b37, 0, none⟩)), (3, .int .i64 0), (4, .int .i64 0), (53, .pointer (some (eaddr u47 1 0 0)))] [ro (subS u47 1 1 r46.length none) 1 (r46.drop 1).length (ec e1 (r46.drop 1)), ro u47 1 r46.length (ec e1 r46), .blk b37 50 (#[sa0_0, .int .i64 (w64 (a0_1 + 1)), subS u47 1 1 r46.length none]), .blk b36 50 (#[sa0_0, .int .i64 a0_1, sa0_2]), ro sa0_0 1 a0_0.length (ec eb a0_0), ro sa0_2 1 a0_2.length (ec e1 a0_2)] := by
          rw [hA53]
          refine AW.step 10 [] (by kernel_rfl) ⟨⟨_, rfl, ?_⟩, trivial⟩
          · refine RW.yi (.int .i64 (r46.getD 0 0)) rfl rfl (Yi.loadS (m := r46.length) (cs := ec e1 r46) _ rfl (rdF 1 rfl) Try.isAgg3 (by omega) (by omega) (by rw [ec_get (d := 0) e1_is (by omega) (by decide)]; rfl)) ?_
            refine RW.nil ?_
            refine AW.on (done' := #[true, true, true, true, true, true, true, true, true, true, true, true, false, false]) rfl [3, 4, 5] rfl rfl ?_
            refine AW.take 12 (done' := #[true, true, true, true, true, true, true, true, true, true, true, true, true, false]) (.int .i64 (r46.getD 0 0)) [3, 4, 5] hns rfl rfl rfl (by kernel_rfl) (by kernel_rfl) rfl rfl rfl (by kernel_rfl) (fun _ _ => Yi.pv _ rfl) ?_
            refine AW.take 13 (done' := #[true, true, true, true, true, true, true, true, true, true, true, true, true, true]) (.int .i64 0) [3, 4, 5] hns rfl rfl rfl (by kernel_rfl) (by kernel_rfl) rfl rfl rfl (by kernel_rfl) (fun _ _ => Yi.pv _ rfl) ?_
            have ht := hA53_11111111111111
            rw [hA53] at ht
            refine AW.to [0, 1, 2, 3, 4, 5] rfl rfl ?_ ht
            exact ⟨rfl, rfl, rfl, trivial⟩
        have hA53_11111111110000 : A53 4 #[true, true, true, true, true, true, true, true, true, true, false, false, false, false] [(2, .pointer (some ⟨b37, 0, none⟩)), (3, .int .i64 0), (4, .int .i64 0), (51, .agg #[sa0_0, .int .i64 (w64 (a0_1 + 1)), subS u47 1 1 r46.length none]), (53, .pointer (some (eaddr u47 1 0 0)))] [ro (subS u47 1 1 r46.length none) 1 (r46.drop 1).length (ec e1 (r46.drop 1)), ro u47 1 r46.length (ec e1 r46), .blk b37 50 (#[.slice none 0 0, .int .i64 0, .slice none 0 0]), .blk b36 50 (#[sa0_0, .int .i64 a0_1, sa0_2]), ro sa0_0 1 a0_0.length (ec eb a0_0), ro sa0_2 1 a0_2.length (ec e1 a0_2)] := by
          rw [hA53]
          refine AW.step 10 [11] (by kernel_rfl) ⟨⟨_, rfl, ?_⟩, ⟨_, rfl, ?_⟩, trivial⟩
          · refine RW.yi (.int .i64 (r46.getD 0 0)) rfl rfl (Yi.loadS (m := r46.length) (cs := ec e1 r46) _ rfl (rdF 1 rfl) Try.isAgg3 (by omega) (by omega) (by rw [ec_get (d := 0) e1_is (by omega) (by decide)]; rfl)) ?_
            refine RW.nil ?_
            refine AW.on (done' := #[true, true, true, true, true, true, true, true, true, true, true, false, false, false]) rfl [3, 4, 5] rfl rfl ?_
            have ht := hA53_11111111111000
            rw [hA53] at ht
            refine AW.to [0, 1, 2, 3, 4, 5] rfl rfl ?_ ht
            exact ⟨rfl, rfl, rfl, rfl, rfl, trivial⟩
          · refine RW.conv1 (fun w hM => ones_cat (ps := [p1 (sa0_0), p1 (.int .i64 (w64 (a0_1 + 1))), p1 (subS u47 1 1 r46.length none)]) (ones_cons (fun _ => (rd_one ((rdF 4 rfl) w hM)).2) (ones_cons (fun _ => rfl) (ones_cons (fun _ => (rd_one ((rdF 0 rfl) w hM)).2) ones_nil)))) (fun hone => ?_)
            refine RW.storeQ (i := 2) (m := 3) (cs' := #[sa0_0, .int .i64 (w64 (a0_1 + 1)), subS u47 1 1 r46.length none]) rfl rfl rfl rfl Try.sizeOf50 rfl (Nat.le_of_ble_eq_true rfl) hone (fun c' hs hget => (cat_spl (A := []) (X := [p1 (.slice none 0 0), p1 (.int .i64 0), p1 (.slice none 0 0)]) (B := []) (Y := [p1 (sa0_0), p1 (.int .i64 (w64 (a0_1 + 1))), p1 (subS u47 1 1 r46.length none)]) rfl hs (by first | exact hget | (rw [cat_one]; exact hget)))) ?_
            refine RW.nil ?_
            refine AW.on (done' := #[true, true, true, true, true, true, true, true, true, true, false, true, false, false]) rfl [3, 4, 5] rfl rfl ?_
            have ht := hA53_11111111110100
            rw [hA53] at ht
            refine AW.to [0, 1, 2, 3, 4, 5] rfl rfl ?_ ht
            exact ⟨rfl, rfl, rfl, rfl, trivial⟩
        have hA53_11111111100100 : A53 4 #[true, true, true, true, true, true, true, true, true, false, false, true, false, false] [(2, .pointer (some ⟨b37, 0, none⟩)), (3, .int .i64 0), (4, .int .i64 0), (52, u47)] [ro (subS u47 1 1 r46.length none) 1 (r46.drop 1).length (ec e1 (r46.drop 1)), ro u47 1 r46.length (ec e1 r46), .blk b37 50 (#[sa0_0, .int .i64 (w64 (a0_1 + 1)), subS u47 1 1 r46.length none]), .blk b36 50 (#[sa0_0, .int .i64 a0_1, sa0_2]), ro sa0_0 1 a0_0.length (ec eb a0_0), ro sa0_2 1 a0_2.length (ec e1 a0_2)] := by
          rw [hA53]
          refine AW.step 9 [] (by kernel_rfl) ⟨⟨_, rfl, ?_⟩, trivial⟩
          · refine RW.yi (.pointer (some (eaddr u47 1 0 0))) rfl rfl (Yi.idxS (m := r46.length) Try.underlying26 Try.sizeOf3 rfl rfl (rdF 1 rfl) (by decide) g51) ?_
            refine RW.nil ?_
            refine AW.on (done' := #[true, true, true, true, true, true, true, true, true, true, false, true, false, false]) rfl [3, 4, 5] rfl rfl ?_
            have ht := hA53_11111111110100
            rw [hA53] at ht
            refine AW.to [0, 1, 2, 3, 4, 5] rfl rfl ?_ ht
            exact ⟨rfl, rfl, rfl, rfl, trivial⟩
        have hA53_11111111100000 : A53 5 #[true, true, true, true, true, true, true, true, true, false, false, false, false, false] [(2, .pointer (some ⟨b37, 0, none⟩)), (3, .int .i64 0), (4, .int .i64 0), (51, .agg #[sa0_0, .int .i64 (w64 (a0_1 + 1)), subS u47 1 1 r46.length none]), (52, u47)] [ro (subS u47 1 1 r46.length none) 1 (r46.drop 1).length (ec e1 (r46.drop 1)), ro u47 1 r46.length (ec e1 r46), .blk b37 50 (#[.slice none 0 0, .int .i64 0, .slice none 0 0]), .blk b36 50 (#[sa0_0, .int .i64 a0_1, sa0_2]), ro sa0_0 1 a0_0.length (ec eb a0_0), ro sa0_2 1 a0_2.length (ec e1 a0_2)] := by
          rw [hA53]
          refine AW.step 9 [11] (by kernel_rfl) ⟨⟨_, rfl, ?_⟩, ⟨_, rfl, ?_⟩, trivial⟩
          · refine RW.yi (.pointer (some (eaddr u47 1 0 0))) rfl rfl (Yi.idxS (m := r46.length) Try.underlying26 Try.sizeOf3 rfl rfl (rdF 1 rfl) (by decide) g51) ?_
            refine RW.nil ?_
            refine AW.on (done' := #[true, true, true, true, true, true, true, true, true, true, false, false, false, false]) rfl [3, 4, 5] rfl rfl ?_
            have ht := hA53_11111111110000
            rw [hA53] at ht
            refine AW.to [0, 1, 2, 3, 4, 5] rfl rfl ?_ ht
            exact ⟨rfl, rfl, rfl, rfl, rfl, trivial⟩
          · refine RW.conv1 (fun w hM => ones_cat (ps := [p1 (sa0_0), p1 (.int .i64 (w64 (a0_1 + 1))), p1 (subS u47 1 1 r46.length none)]) (ones_cons (fun _ => (rd_one ((rdF 4 rfl) w hM)).2) (ones_cons (fun _ => rfl) (ones_cons (fun _ => (rd_one ((rdF 0 rfl) w hM)).2) ones_nil)))) (fun hone => ?_)
            refine RW.storeQ (i := 2) (m := 3) (cs' := #[sa0_0, .int .i64 (w64 (a0_1 + 1)), subS u47 1 1 r46.length none]) rfl rfl rfl rfl Try.sizeOf50 rfl (Nat.le_of_ble_eq_true rfl) hone (fun c' hs hget => (cat_spl (A := []) (X := [p1 (.slice none 0 0), p1 (.int .i64 0), p1 (.slice none 0 0)]) (B := []) (Y := [p1 (sa0_0), p1 (.int .i64 (w64 (a0_1 + 1))), p1 (subS u47 1 1 r46.length none)]) rfl hs (by first | exact hget | (rw [cat_one]; exact hget)))) ?_
            refine RW.nil ?_
            refine AW.on (done' := #[true, true, true, true, true, true, true, true, true, false, false, true, false, false]) rfl [3, 4, 5] rfl rfl ?_
            have ht := hA53_11111111100100
            rw [hA53] at ht
            refine AW.to [0, 1, 2, 3, 4, 5] rfl rfl ?_ ht
            exact ⟨rfl, rfl, rfl, rfl, trivial⟩
        have hA53_11111110111000 : A53 4 #[true, true, true, true, true, true, true, false, true, true, true, false, false, false] [(2, .pointer (some ⟨b37, 0, none⟩)), (3, .int .i64 0), (4, .int .i64 0), (45, sa0_0), (48, .int .i64 (w64 (a0_1 + 1))), (50, subS u47 1 1 r46.length none), (54, .int .i64 (r46.getD 0 0))] [ro (subS u47 1 1 r46.length none) 1 (r46.drop 1).length (ec e1 (r46.drop 1)), ro u47 1 r46.length (ec e1 r46), .blk b37 50 (#[.slice none 0 0, .int .i64 0, .slice none 0 0]), .blk b36 50 (#[sa0_0, .int .i64 a0_1, sa0_2]), ro sa0_0 1 a0_0.length (ec eb a0_0), ro sa0_2 1 a0_2.length (ec e1 a0_2)] := by
          rw [hA53]
          refine AW.step 7 [] (by kernel_rfl) ⟨⟨_, rfl, ?_⟩, trivial⟩
          · refine RW.yi (.agg #[sa0_0, .int .i64 (w64 (a0_1 + 1)), subS u47 1 1 r46.length none]) rfl rfl (Yi.buildM (vs := [sa0_0, .int .i64 (w64 (a0_1 + 1)), subS u47 1 1 r46.length none]) _ rfl rfl (fun w hM => by have e0 := rd_slice ((rdF 4 rfl) w hM); have e1 := rd_slice ((rdF 0 rfl) w hM); revert e0 e1; generalize sa0_0 = x0; generalize (subS u47 1 1 r46.length none) = x1; rintro ⟨_, _, _, rfl⟩ ⟨_, _, _, rfl⟩; show _ = _; kernel_rfl)) ?_
            refine RW.nil ?_
            refine AW.on (done' := #[true, true, true, true, true, true, true, true, true, true, true, false, false, false]) rfl [3, 4, 5] rfl rfl ?_
            have ht := hA53_11111111111000
            rw [hA53] at ht
            refine AW.to [0, 1, 2, 3, 4, 5] rfl rfl ?_ ht
            exact ⟨rfl, rfl, rfl, rfl, rfl, trivial⟩
        have hA53_11111110110000 : A53 5 #[true, true, true, true, true, true, true, false, true, true, false, false, false, false] [(2, .pointer (some ⟨b37, 0, none⟩)), (3, .int .i64 0), (4, .int .i64 0), (45, sa0_0), (48, .int .i64 (w64 (a0_1 + 1))), (50, subS u47 1 1 r46.length none), (53, .pointer (some (eaddr u47 1 0 0)))] [ro (subS u47 1 1 r46.length none) 1 (r46.drop 1).length (ec e1 (r46.drop 1)), ro u47 1 r46.length (ec e1 r46), .blk b37 50 (#[.slice none 0 0, .int .i64 0, .slice none 0 0]), .blk b36 50 (#[sa0_0, .int .i64 a0_1, sa0_2]), ro sa0_0 1 a0_0.length (ec eb a0_0), ro sa0_2 1 a0_2.length (ec e1 a0_2)] := by
          rw [hA53]
          refine AW.step 7 [10] (by kernel_rfl) ⟨⟨_, rfl, ?_⟩, ⟨_, rfl, ?_⟩, trivial⟩
          · refine RW.yi (.agg #[sa0_0, .int .i64 (w64 (a0_1 + 1)), subS u47 1 1 r46.length none]) rfl rfl (Yi.buildM (vs := [sa0_0, .int .i64 (w64 (a0_1 + 1)), subS u47 1 1 r46.length none]) _ rfl rfl (fun w hM => by have e0 := rd_slice ((rdF 4 rfl) w hM); have e1 := rd_slice ((rdF 0 rfl) w hM); revert e0 e1; generalize sa0_0 = x0; generalize (subS u47 1 1 r46.length none) = x1; rintro ⟨_, _, _, rfl⟩ ⟨_, _, _, rfl⟩; show _ = _; kernel_rfl)) ?_
            refine RW.nil ?_
            refine AW.on (done' := #[true, true, true, true, true, true, true, true, true, true, false, false, false, false]) rfl [3, 4, 5] rfl rfl ?_
            have ht := hA53_11111111110000
            rw [hA53] at ht
            refine AW.to [0, 1, 2, 3, 4, 5] rfl rfl ?_ ht
            exact ⟨rfl, rfl, rfl, rfl, rfl, trivial⟩
          · refine RW.yi (.int .i64 (r46.getD 0 0)) rfl rfl (Yi.loadS (m := r46.length) (cs := ec e1 r46) _ rfl (rdF 1 rfl) Try.isAgg3 (by omega) (by omega) (by rw [ec_get (d := 0) e1_is (by omega) (by decide)]; rfl)) ?_
            refine RW.nil ?_
            refine AW.on (done' := #[true, true, true, true, true, true, true, false, true, true, true, false, false, false]) rfl [3, 4, 5] rfl rfl ?_
            have ht := hA53_11111110111000
            rw [hA53] at ht
            refine AW.to [0, 1, 2, 3, 4, 5] rfl rfl ?_ ht
            exact ⟨rfl, rfl, rfl, rfl, rfl, rfl, rfl, trivial⟩
        have hA53_11111110100000 : A53 6 #[true, true, true, true, true, true, true, false, true, false, false, false, false, false] [(2, .pointer (some ⟨b37, 0, none⟩)), (3, .int .i64 0), (4, .int .i64 0), (45, sa0_0), (48, .int .i64 (w64 (a0_1 + 1))), (50, subS u47 1 1 r46.length none), (52, u47)] [ro (subS u47 1 1 r46.length none) 1 (r46.drop 1).length (ec e1 (r46.drop 1)), ro u47 1 r46.length (ec e1 r46), .blk b37 50 (#[.slice none 0 0, .int .i64 0, .slice none 0 0]), .blk b36 50 (#[sa0_0, .int .i64 a0_1, sa0_2]), ro sa0_0 1 a0_0.length (ec eb a0_0), ro sa0_2 1 a0_2.length (ec e1 a0_2)] := by
          rw [hA53]
          refine AW.step 7 [9] (by kernel_rfl) ⟨⟨_, rfl, ?_⟩, ⟨_, rfl, ?_⟩, trivial⟩
          · refine RW.yi (.agg #[sa0_0, .int .i64 (w64 (a0_1 + 1)), subS u47 1 1 r46.length none]) rfl rfl (Yi.buildM (vs := [sa0_0, .int .i64 (w64 (a0_1 + 1)), subS u47 1 1 r46.length none]) _ rfl rfl (fun w hM => by have e0 := rd_slice ((rdF 4 rfl) w hM); have e1 := rd_slice ((rdF 0 rfl) w hM); revert e0 e1; generalize sa0_0 = x0; generalize (subS u47 1 1 r46.length none) = x1; rintro ⟨_, _, _, rfl⟩ ⟨_, _, _, rfl⟩; show _ = _; kernel_rfl)) ?_
            refine RW.nil ?_
            refine AW.on (done' := #[true, true, true, true, true, true, true, true, true, false, false, false, false, false]) rfl [3, 4, 5] rfl rfl ?_
            have ht := hA53_11111111100000
            rw [hA53] at ht
            refine AW.to [0, 1, 2, 3, 4, 5] rfl rfl ?_ ht
            exact ⟨rfl, rfl, rfl, rfl, rfl, trivial⟩
          · refine RW.yi (.pointer (some (eaddr u47 1 0 0))) rfl rfl (Yi.idxS (m := r46.length) Try.underlying26 Try.sizeOf3 rfl rfl (rdF 1 rfl) (by decide) g51) ?_
            refine RW.nil ?_
            refine AW.on (done' := #[true, true, true, true, true, true, true, false, true, true, false, false, false, false]) rfl [3, 4, 5] rfl rfl ?_
            have ht := hA53_11111110110000
            rw [hA53] at ht
            refine AW.to [0, 1, 2, 3, 4, 5] rfl rfl ?_ ht
            exact ⟨rfl, rfl, rfl, rfl, rfl, rfl, rfl, trivial⟩
        have hA53_11111100111000 : A53 5 #[true, true, true, true, true, true, false, false, true, true, true, false, false, false] [(2, .pointer (some ⟨b37, 0, none⟩)), (3, .int .i64 0), (4, .int .i64 0), (45, sa0_0), (48, .int .i64 (w64 (a0_1 + 1))), (49, u47), (54, .int .i64 (r46.getD 0 0))] [.row u47 3 1 r46.length (ec e1 r46), .blk b37 50 (#[.slice none 0 0, .int .i64 0, .slice none 0 0]), .blk b36 50 (#[sa0_0, .int .i64 a0_1, sa0_2]), ro sa0_0 1 a0_0.length (ec eb a0_0), ro sa0_2 1 a0_2.length (ec e1 a0_2)] := by
          rw [hA53]
          refine AW.step 6 [] (by kernel_rfl) ⟨⟨_, rfl, ?_⟩, trivial⟩
          · refine RW.conv (fun _ hM => hM.freeze 0 rfl) ?_
            refine RW.yi ((subS u47 1 1 r46.length none)) rfl rfl (Yi.slice (sz := 1) (m := r46.length) (l' := 1) (h' := r46.length) (m' := none) (v := u47) (cs := ec e1 r46) Try.underlying26 Try.sizeOf3 rfl (rdF 0 rfl) (.inr ⟨_, _, _, rfl, rfl, rfl⟩) (.inl ⟨rfl, rfl, rfl⟩) (.inl ⟨rfl, rfl⟩) (by omega) (by omega) (fun _ h => by cases h)) ?_
            refine RW.conv (fun _ hM => hM.subRo 0 1 r46.length none rfl (by omega) (by omega) (fun _ h => by cases h) (k := (r46.drop 1).length) (cs' := ec e1 (r46.drop 1)) (by simp only [List.length_take, List.length_drop] <;> omega) (ec_subD e1_is r46 1)) ?_
            refine RW.nil ?_
            refine AW.on (done' := #[true, true, true, true, true, true, true, false, true, true, true, false, false, false]) rfl [3, 4, 5] rfl rfl ?_
            have ht := hA53_11111110111000
            rw [hA53] at ht
            refine AW.to [0, 1, 2, 3, 4, 5] rfl rfl ?_ ht
            exact ⟨rfl, rfl, rfl, rfl, rfl, rfl, rfl, trivial⟩
        have hA53_11111100110000 : A53 6 #[true, true, true, true, true, true, false, false, true, true, false, false, false, false] [(2, .pointer (some ⟨b37, 0, none⟩)), (3, .int .i64 0), (4, .int .i64 0), (45, sa0_0), (48, .int .i64 (w64 (a0_1 + 1))), (49, u47), (53, .pointer (some (eaddr u47 1 0 0)))] [.row u47 3 1 r46.length (ec e1 r46), .blk b37 50 (#[.slice none 0 0, .int .i64 0, .slice none 0 0]), .blk b36 50 (#[sa0_0, .int .i64 a0_1, sa0_2]), ro sa0_0 1 a0_0.length (ec eb a0_0), ro sa0_2 1 a0_2.length (ec e1 a0_2)] := by
          rw [hA53]
          refine AW.step 6 [10] (by kernel_rfl) ⟨⟨_, rfl, ?_⟩, ⟨_, rfl, ?_⟩, trivial⟩
          · refine RW.conv (fun _ hM => hM.freeze 0 rfl) ?_
            refine RW.yi ((subS u47 1 1 r46.length none)) rfl rfl (Yi.slice (sz := 1) (m := r46.length) (l' := 1) (h' := r46.length) (m' := none) (v := u47) (cs := ec e1 r46) Try.underlying26 Try.sizeOf3 rfl (rdF 0 rfl) (.inr ⟨_, _, _, rfl, rfl, rfl⟩) (.inl ⟨rfl, rfl, rfl⟩) (.inl ⟨rfl, rfl⟩) (by omega) (by omega) (fun _ h => by cases h)) ?_
            refine RW.conv (fun _ hM => hM.subRo 0 1 r46.length none rfl (by omega) (by omega) (fun _ h => by cases h) (k := (r46.drop 1).length) (cs' := ec e1 (r46.drop 1)) (by simp only [List.length_take, List.length_drop] <;> omega) (ec_subD e1_is r46 1)) ?_
            refine RW.nil ?_
            refine AW.on (done' := #[true, true, true, true, true, true, true, false, true, true, false, false, false, false]) rfl [3, 4, 5] rfl rfl ?_
            have ht := hA53_11111110110000
            rw [hA53] at ht
            refine AW.to [0, 1, 2, 3, 4, 5] rfl rfl ?_ ht
            exact ⟨rfl, rfl, rfl, rfl, rfl, rfl, rfl, trivial⟩
          · refine RW.yi (.int .i64 (r46.getD 0 0)) rfl rfl (Yi.loadS (m := r46.length) (cs := ec e1 r46) _ rfl (rdW 0 rfl) Try.isAgg3 (by omega) (by omega) (by rw [ec_get (d := 0) e1_is (by omega) (by decide)]; rfl)) ?_
            refine RW.nil ?_
            refine AW.on (done' := #[true, true, true, true, true, true, false, false, true, true, true, false, false, false]) rfl [2, 3, 4] rfl rfl ?_
            have ht := hA53_11111100111000
            rw [hA53] at ht
            refine AW.to [0, 1, 2, 3, 4] rfl rfl ?_ ht
            exact ⟨rfl, rfl, rfl, rfl, rfl, rfl, rfl, trivial⟩
        have hA53_11111100100000 : A53 7 #[true, true, true, true, true, true, false, false, true, false, false, false, false, false] [(2, .pointer (some ⟨b37, 0, none⟩)), (3, .int .i64 0), (4, .int .i64 0), (45, sa0_0), (48, .int .i64 (w64 (a0_1 + 1))), (49, u47), (52, u47)] [.row u47 3 1 r46.length (ec e1 r46), .blk b37 50 (#[.slice none 0 0, .int .i64 0, .slice none 0 0]), .blk b36 50 (#[sa0_0, .int .i64 a0_1, sa0_2]), ro sa0_0 1 a0_0.length (ec eb a0_0), ro sa0_2 1 a0_2.length (ec e1 a0_2)] := by
          rw [hA53]
          refine AW.step 6 [9] (by kernel_rfl) ⟨⟨_, rfl, ?_⟩, ⟨_, rfl, ?_⟩, trivial⟩
          · refine RW.conv (fun _ hM => hM.freeze 0 rfl) ?_
            refine RW.yi ((subS u47 1 1 r46.length none)) rfl rfl (Yi.slice (sz := 1) (m := r46.length) (l' := 1) (h' := r46.length) (m' := none) (v := u47) (cs := ec e1 r46) Try.underlying26 Try.sizeOf3 rfl (rdF 0 rfl) (.inr ⟨_, _, _, rfl, rfl, rfl⟩) (.inl ⟨rfl, rfl, rfl⟩) (.inl ⟨rfl, rfl⟩) (by omega) (by omega) (fun _ h => by cases h)) ?_
            refine RW.conv (fun _ hM => hM.subRo 0 1 r46.length none rfl (by omega) (by omega) (fun _ h => by cases h) (k := (r46.drop 1).length) (cs' := ec e1 (r46.drop 1)) (by simp only [List.length_take, List.length_drop] <;> omega) (ec_subD e1_is r46 1)) ?_
            refine RW.nil ?_
            refine AW.on (done' := #[true, true, true, true, true, true, true, false, true, false, false, false, false, false]) rfl [3, 4, 5] rfl rfl ?_
            have ht := hA53_11111110100000
            rw [hA53] at ht
            refine AW.to [0, 1, 2, 3, 4, 5] rfl rfl ?_ ht
            exact ⟨rfl, rfl, rfl, rfl, rfl, rfl, rfl, trivial⟩
          · refine RW.yi (.pointer (some (eaddr u47 1 0 0))) rfl rfl (Yi.idxS (m := r46.length) Try.underlying26 Try.sizeOf3 rfl rfl (rdW 0 rfl) (by decide) g51) ?_
            refine RW.nil ?_
            refine AW.on (done' := #[true, true, true, true, true, true, false, false, true, true, false, false, false, false]) rfl [2, 3, 4] rfl rfl ?_
            have ht := hA53_11111100110000
            rw [hA53] at ht
            refine AW.to [0, 1, 2, 3, 4] rfl rfl ?_ ht
            exact ⟨rfl, rfl, rfl, rfl, rfl, rfl, rfl, trivial⟩
        rw [hA53]
        refine AW.take 0 (done' := #[true, false, false, false, false, false, false, false, false, false, false, false, false, false]) (.pointer (some ⟨b36, 0, none⟩)) [2, 3, 4] hns rfl rfl rfl (by kernel_rfl) (by kernel_rfl) rfl rfl rfl (by kernel_rfl) (fun _ _ => Yi.fieldAddr (j := 0) Try.underlying50 rfl Try.sizeOf34 rfl) ?_
        refine AW.take 1 (done' := #[true, true, false, false, false, false, false, false, false, false, false, false, false, false]) (sa0_0) [2, 3, 4] hns rfl rfl rfl (by kernel_rfl) (by kernel_rfl) rfl rfl rfl (by kernel_rfl) (fun _ _ => Yi.load1 (i := 0) _ rfl rfl Try.isAgg34 rfl) ?_
        refine AW.take 2 (done' := #[true, true, true, false, false, false, false, false, false, false, false, false, false, false]) (.pointer (some ⟨b36, 1, none⟩)) [2, 3, 4] hns rfl rfl rfl (by kernel_rfl) (by kernel_rfl) rfl rfl rfl (by kernel_rfl) (fun _ _ => Yi.fieldAddr (j := 1) Try.underlying50 rfl Try.sizeOf3 rfl) ?_
        refine AW.take 3 (done' := #[true, true, true, true, false, false, false, false, false, false, false, false, false, false]) (.int .i64 a0_1) [2, 3, 4] hns rfl rfl rfl (by kernel_rfl) (by kernel_rfl) rfl rfl rfl (by kernel_rfl) (fun _ _ => Yi.load1 (i := 0) _ rfl rfl Try.isAgg3 rfl) ?_
        refine AW.take 4 (done' := #[true, true, true, true, true, false, false, false, false, false, false, false, false, false]) (.int .i64 (w64 (a0_1 + 1))) [2, 3, 4] hns rfl rfl rfl (by kernel_rfl) (by kernel_rfl) rfl rfl rfl (by kernel_rfl) (fun _ _ => Yi.pv _ rfl) ?_
        refine AW.take 5 (done' := #[true, true, true, true, true, true, false, false, false, false, false, false, false, false]) (u47) [2, 3, 4] hns rfl rfl rfl (by kernel_rfl) (by kernel_rfl) rfl rfl rfl (by kernel_rfl) (fun _ _ => Yi.pv _ rfl) ?_
        refine AW.take 8 (done' := #[true, true, true, true, true, true, false, false, true, false, false, false, false, false]) (u47) [2, 3, 4] hns rfl rfl rfl (by kernel_rfl) (by kernel_rfl) rfl rfl rfl (by kernel_rfl) (fun _ _ => Yi.pv _ rfl) ?_
        have ht := hA53_11111100100000
        rw [hA53] at ht
        refine AW.to [0, 1, 2, 3, 4] rfl rfl ?_ ht
        exact ⟨rfl, rfl, rfl, rfl, rfl, rfl, rfl, trivial⟩
      · replace hm := (if_neg h49).symm.trans hm
        refine CW.cond_false rfl ?_
        refine CW.skip ?_
        refine EW.next ?_
        refine CW.seq ?_
        refine CW.seq ?_
        refine CW.region ?_
        refine RW.yi (.pointer (some ⟨b36, 1, none⟩)) rfl rfl (Yi.fieldAddr (j := 1) Try.underlying50 rfl Try.sizeOf3 rfl) ?_
        refine RW.yi (.int .i64 a0_1) rfl rfl (Yi.load1 (i := 2) _ rfl rfl Try.isAgg3 rfl) ?_
        refine RW.yi (.int .i64 (w64 (a0_1 + 1))) rfl rfl (Yi.pv _ rfl) ?_
        refine RW.yi (.pointer (some ⟨b36, 0, none⟩)) rfl rfl (Yi.fieldAddr (j := 0) Try.underlying50 rfl Try.sizeOf34 rfl) ?_
        refine RW.yi (sa0_0) rfl rfl (Yi.load1 (i := 2) _ rfl rfl Try.isAgg34 rfl) ?_
        refine RW.yi (.int .i64 (a0_0.length : Int)) rfl rfl (Yi.lenS (cs := ec eb a0_0) (m := a0_0.length) Try.underlying34 rfl (rdF 3 rfl)) ?_
        refine RW.yi (.bool (decide ((a0_0.length : Int) ≤ (w64 (a0_1 + 1))))) rfl rfl (Yi.pv _ rfl) ?_
        refine RW.nil ?_
        refine EW.next ?_
        refine CW.fork 61 ((a0_0.length : Int) ≤ (w64 (a0_1 + 1))) rfl (fun h57 => ?_) (fun h57 => ?_)
        · replace hm := (if_pos h57).symm.trans hm
          refine CW.cond_true rfl ?_
          refine CW.seq ?_
          refine CW.region ?_
          refine RW.yi (.agg #[sa0_0, .int .i64 a0_1, sa0_2]) rfl rfl (Yi.loadW (i := 2) rfl rfl Try.isAgg50 Try.sizeOf50) ?_
          refine RW.conv1 (fun w hM => ones_cat (ps := [p1 (sa0_0), p1 (.int .i64 a0_1), p1 (sa0_2)]) (ones_cons (fun _ => (rd_one ((rdF 3 rfl) w hM)).2) (ones_cons (fun _ => rfl) (ones_cons (fun _ => (rd_one ((rdF 4 rfl) w hM)).2) ones_nil)))) (fun hone => ?_)
          refine RW.storeQ (i := 1) (m := 3) (cs' := #[sa0_0, .int .i64 a0_1, sa0_2]) rfl rfl rfl rfl Try.sizeOf50 rfl (Nat.le_of_ble_eq_true rfl) hone (fun c' hs hget => (cat_spl (A := []) (X := [p1 (.slice none 0 0), p1 (.int .i64 0), p1 (.slice none 0 0)]) (B := []) (Y := [p1 (sa0_0), p1 (.int .i64 a0_1), p1 (sa0_2)]) rfl hs (by first | exact hget | (rw [cat_one]; exact hget)))) ?_
          refine RW.yi (.int .i64 0) rfl rfl (Yi.pv _ rfl) ?_
          refine RW.yi (.int .i64 3) rfl rfl (Yi.pv _ rfl) ?_
          refine RW.nil ?_
          refine EW.next ?_
          refine CW.ret ?_
          refine EW.thr ?_
          obtain rfl := Option.some.inj hm
          exact EW.done (rs := [.cell 2 50, .tmp 3, .tmp 4]) rfl (.cellW (i := 1) (cs := #[sa0_0, .int .i64 a0_1, sa0_2]) rfl rfl Try.isAgg50 Try.sizeOf50 (.tmp (t := 3) (v := .int .i64 0) rfl (.tmp (t := 4) (v := .int .i64 3) rfl .nil))) (fun _ hM => ⟨(sa0_2), rfl, (hM.pick [4] rfl rfl)⟩)
        · replace hm := (if_neg h57).symm.trans hm
          refine CW.cond_false rfl ?_
          refine CW.skip ?_
          refine EW.next ?_
          refine CW.seq ?_
          refine CW.seq ?_
          refine CW.region ?_
          refine RW.yi (.pointer (some ⟨b36, 0, none⟩)) rfl rfl (Yi.fieldAddr (j := 0) Try.underlying50 rfl Try.sizeOf34 rfl) ?_
          refine RW.yi (sa0_0) rfl rfl (Yi.load1 (i := 2) _ rfl rfl Try.isAgg34 rfl) ?_
          refine RW.yi (.pointer (some ⟨b36, 1, none⟩)) rfl rfl (Yi.fieldAddr (j := 1) Try.underlying50 rfl Try.sizeOf3 rfl) ?_
          refine RW.yi (.int .i64 a0_1) rfl rfl (Yi.load1 (i := 2) _ rfl rfl Try.isAgg3 rfl) ?_
          refine RW.yi (.int .i64 (w64 (a0_1 + 1))) rfl rfl (Yi.pv _ rfl) ?_
          obtain ⟨g58, hm⟩ := of_guard hm
          refine RW.yi (.pointer (some (eaddr sa0_0 1 ((w64 (a0_1 + 1)).toNat) 0))) rfl rfl (Yi.idxS (m := a0_0.length) Try.underlying34 Try.sizeOf5 rfl rfl (rdF 3 rfl) g58.1 g58.2) ?_
          refine RW.yi (.int .u8 (a0_0.getD ((w64 (a0_1 + 1)).toNat) 0)) rfl rfl (Yi.loadS (m := a0_0.length) (cs := ec eb a0_0) _ rfl (rdF 3 rfl) Try.isAgg5 (by omega) (by omega) (by rw [ec_get (d := 0) eb_is (by omega) (by decide)]; rfl)) ?_
          refine RW.yi (.bool (decide (0 < (a0_0.getD ((w64 (a0_1 + 1)).toNat) 0)))) rfl rfl (Yi.pv _ rfl) ?_
          refine RW.nil ?_
          refine EW.next ?_
          refine CW.fork 70 (0 < (a0_0.getD ((w64 (a0_1 + 1)).toNat) 0)) rfl (fun h59 => ?_) (fun h59 => ?_)
          · replace hm := (if_pos h59).symm.trans hm
            refine CW.cond_true rfl ?_
            refine CW.seq ?_
            refine CW.region ?_
            refine RW.yi (.agg #[sa0_0, .int .i64 a0_1, sa0_2]) rfl rfl (Yi.loadW (i := 2) rfl rfl Try.isAgg50 Try.sizeOf50) ?_
            refine RW.conv1 (fun w hM => ones_cat (ps := [p1 (sa0_0), p1 (.int .i64 a0_1), p1 (sa0_2)]) (ones_cons (fun _ => (rd_one ((rdF 3 rfl) w hM)).2) (ones_cons (fun _ => rfl) (ones_cons (fun _ => (rd_one ((rdF 4 rfl) w hM)).2) ones_nil)))) (fun hone => ?_)
            refine RW.storeQ (i := 1) (m := 3) (cs' := #[sa0_0, .int .i64 a0_1, sa0_2]) rfl rfl rfl rfl Try.sizeOf50 rfl (Nat.le_of_ble_eq_true rfl) hone (fun c' hs hget => (cat_spl (A := []) (X := [p1 (.slice none 0 0), p1 (.int .i64 0), p1 (.slice none 0 0)]) (B := []) (Y := [p1 (sa0_0), p1 (.int .i64 a0_1), p1 (sa0_2)]) rfl hs (by first | exact hget | (rw [cat_one]; exact hget)))) ?_
            refine RW.yi (.int .i64 0) rfl rfl (Yi.pv _ rfl) ?_
            refine RW.yi (.int .i64 7) rfl rfl (Yi.pv _ rfl) ?_
            refine RW.nil ?_
            refine EW.next ?_
            refine CW.ret ?_
            refine EW.thr ?_
            obtain rfl := Option.some.inj hm
            exact EW.done (rs := [.cell 2 50, .tmp 3, .tmp 4]) rfl (.cellW (i := 1) (cs := #[sa0_0, .int .i64 a0_1, sa0_2]) rfl rfl Try.isAgg50 Try.sizeOf50 (.tmp (t := 3) (v := .int .i64 0) rfl (.tmp (t := 4) (v := .int .i64 7) rfl .nil))) (fun _ hM => ⟨(sa0_2), rfl, (hM.pick [4] rfl rfl)⟩)
          · replace hm := (if_neg h59).symm.trans hm
            refine CW.cond_false rfl ?_
            refine CW.skip ?_
            refine EW.next ?_
            refine CW.seq ?_
            obtain ⟨g60, hm⟩ := of_guard hm
            obtain ⟨g61, hm⟩ := of_guard hm
            refine CW.held (m := 14) [.blk b36 50 (#[sa0_0, .int .i64 a0_1, sa0_2]), ro sa0_0 1 a0_0.length (ec eb a0_0), ro sa0_2 1 a0_2.length (ec e1 a0_2)] (by kernel_rfl) (by kernel_rfl) (by kernel_rfl) (fun A63 hA63 hns => ?_)
            have hA63_11111111111111 : A63 0 #[true, true, true, true, true, true, true, true, true, true, true, true, true, true] [(2, .pointer (some ⟨b37, 0, none⟩)), (3, .int .i64 (r46.getD 0 0)), (4, .int .i64 0)] [ro (subS u47 1 1 r46.length none) 1 (r46.drop 1).length (ec e1 (r46.drop 1)), ro u47 1 r46.length (ec e1 r46), .blk b37 50 (#[sa0_0, .int .i64 (w64 (a0_1 + 2)), subS u47 1 1 r46.length none]), .blk b36 50 (#[sa0_0, .int .i64 a0_1, sa0_2]), ro sa0_0 1 a0_0.length (ec eb a0_0), ro sa0_2 1 a0_2.length (ec e1 a0_2)] := by
              rw [hA63]
              refine AW.fin (by kernel_rfl) ?_
              refine EW.next ?_
              refine CW.ret ?_
              obtain rfl := Option.some.inj hm
              exact EW.done (rs := [.cell 2 50, .tmp 3, .tmp 4]) rfl (.cellW (i := 2) (cs := #[sa0_0, .int .i64 (w64 (a0_1 + 2)), subS u47 1 1 r46.length none]) rfl rfl Try.isAgg50 Try.sizeOf50 (.tmp (t := 3) (v := .int .i64 (r46.getD 0 0)) rfl (.tmp (t := 4) (v := .int .i64 0) rfl .nil))) (fun _ hM => ⟨((subS u47 1 1 r46.length none)), rfl, (hM.pick [0] rfl rfl)⟩)
            have hA63_11111111111000 : A63 3 #[true, true, true, true, true, true, true, true, true, true, true, false, false, false] [(2, .pointer (some ⟨b37, 0, none⟩)), (3, .int .i64 0), (4, .int .i64 0), (79, .agg #[sa0_0, .int .i64 (w64 (a0_1 + 2)), subS u47 1 1 r46.length none]), (82, .int .i64 (r46.getD 0 0))] [ro (subS u47 1 1 r46.length none) 1 (r46.drop 1).length (ec e1 (r46.drop 1)), ro u47 1 r46.length (ec e1 r46), .blk b37 50 (#[.slice none 0 0, .int .i64 0, .slice none 0 0]), .blk b36 50 (#[sa0_0, .int .i64 a0_1, sa0_2]), ro sa0_0 1 a0_0.length (ec eb a0_0), ro sa0_2 1 a0_2.length (ec e1 a0_2)] := by
              rw [hA63]
              refine AW.step 11 [] (by kernel_rfl) ⟨⟨_, rfl, ?_⟩, trivial⟩
              · refine RW.conv1 (fun w hM => ones_cat (ps := [p1 (sa0_0), p1 (.int .i64 (w64 (a0_1 + 2))), p1 (subS u47 1 1 r46.length none)]) (ones_cons (fun _ => (rd_one ((rdF 4 rfl) w hM)).2) (ones_cons (fun _ => rfl) (ones_cons (fun _ => (rd_one ((rdF 0 rfl) w hM)).2) ones_nil)))) (fun hone => ?_)
                refine RW.storeQ (i := 2) (m := 3) (cs' := #[sa0_0, .int .i64 (w64 (a0_1 + 2)), subS u47 1 1 r46.length none]) rfl rfl rfl rfl Try.sizeOf50 rfl (Nat.le_of_ble_eq_true rfl) hone (fun c' hs hget => (cat_spl (A := []) (X := [p1 (.slice none 0 0), p1 (.int .i64 0), p1 (.slice none 0 0)]) (B := []) (Y := [p1 (sa0_0), p1 (.int .i64 (w64 (a0_1 + 2))), p1 (subS u47 1 1 r46.length none)]) rfl hs (by first | exact hget | (rw [cat_one]; exact hget)))) ?_
                refine RW.nil ?_
                refine AW.on (done' := #[true, true, true, true, true, true, true, true, true, true, true, true, false, false]) rfl [3, 4, 5] rfl rfl ?_
                refine AW.take 12 (done' := #[true, true, true, true, true, true, true, true, true, true, true, true, true, false]) (.int .i64 (r46.getD 0 0)) [3, 4, 5] hns rfl rfl rfl (by kernel_rfl) (by kernel_rfl) rfl rfl rfl (by kernel_rfl) (fun _ _ => Yi.pv _ rfl) ?_
                refine AW.take 13 (done' := #[true, true, true, true, true, true, true, true, true, true, true, true, true, true]) (.int .i64 0) [3, 4, 5] hns rfl rfl rfl (by kernel_rfl) (by kernel_rfl) rfl rfl rfl (by kernel_rfl) (fun _ _ => Yi.pv _ rfl) ?_
                have ht := hA63_11111111111111
                rw [hA63] at ht
                refine AW.to [0, 1, 2, 3, 4, 5] rfl rfl ?_ ht
                exact ⟨rfl, rfl, rfl, trivial⟩
            have hA63_11111111110100 : A63 3 #[true, true, true, true, true, true, true, true, true, true, false, true, false, false] [(2, .pointer (some ⟨b37, 0, none⟩)), (3, .int .i64 0), (4, .int .i64 0), (81, .pointer (some (eaddr u47 1 0 0)))] [ro (subS u47 1 1 r46.length none) 1 (r46.drop 1).length (ec e1 (r46.drop 1)), ro u47 1 r46.length (ec e1 r46), .blk b37 50 (#[sa0_0, .int .i64 (w64 (a0_1 + 2)), subS u47 1 1 r46.length none]), .blk b36 50 (#[sa0_0, .int .i64 a0_1, sa0_2]), ro sa0_0 1 a0_0.length (ec eb a0_0), ro sa0_2 1 a0_2.length (ec e1 a0_2)] := by
              rw [hA63]
              refine AW.step 10 [] (by kernel_rfl) ⟨⟨_, rfl, ?_⟩, trivial⟩
              · refine RW.yi (.int .i64 (r46.getD 0 0)) rfl rfl (Yi.loadS (m := r46.length) (cs := ec e1 r46) _ rfl (rdF 1 rfl) Try.isAgg3 (by omega) (by omega) (by rw [ec_get (d := 0) e1_is (by omega) (by decide)]; rfl)) ?_
                refine RW.nil ?_
                refine AW.on (done' := #[true, true, true, true, true, true, true, true, true, true, true, true, false, false]) rfl [3, 4, 5] rfl rfl ?_
                refine AW.take 12 (done' := #[true, true, true, true, true, true, true, true, true, true, true, true, true, false]) (.int .i64 (r46.getD 0 0)) [3, 4, 5] hns rfl rfl rfl (by kernel_rfl) (by kernel_rfl) rfl rfl rfl (by kernel_rfl) (fun _ _ => Yi.pv _ rfl) ?_
                refine AW.take 13 (done' := #[true, true, true, true, true, true, true, true, true, true, true, true, true, true]) (.int .i64 0) [3, 4, 5] hns rfl rfl rfl (by kernel_rfl) (by kernel_rfl) rfl rfl rfl (by kernel_rfl) (fun _ _ => Yi.pv _ rfl) ?_
                have ht := hA63_11111111111111
                rw [hA63] at ht
                refine AW.to [0, 1, 2, 3, 4, 5] rfl rfl ?_ ht
                exact ⟨rfl, rfl, rfl, trivial⟩
            have hA63_11111111110000 : A63 4 #[true, true, true, true, true, true, true, true, true, true, false, false, false, false] [(2, .pointer (some ⟨b37, 0, none⟩)), (3, .int .i64 0), (4, .int .i64 0), (79, .agg #[sa0_0, .int .i64 (w64 (a0_1 + 2)), subS u47 1 1 r46.length none]), (81, .pointer (some (eaddr u47 1 0 0)))] [ro (subS u47 1 1 r46.length none) 1 (r46.drop 1).length (ec e1 (r46.drop 1)), ro u47 1 r46.length (ec e1 r46), .blk b37 50 (#[.slice none 0 0, .int .i64 0, .slice none 0 0]), .blk b36 50 (#[sa0_0, .int .i64 a0_1, sa0_2]), ro sa0_0 1 a0_0.length (ec eb a0_0), ro sa0_2 1 a0_2.length (ec e1 a0_2)] := by
              rw [hA63]
              refine AW.step 10 [11] (by kernel_rfl) ⟨⟨_, rfl, ?_⟩, ⟨_, rfl, ?_⟩, trivial⟩
              · refine RW.yi (.int .i64 (r46.getD 0 0)) rfl rfl (Yi.loadS (m := r46.length) (cs := ec e1 r46) _ rfl (rdF 1 rfl) Try.isAgg3 (by omega) (by omega) (by rw [ec_get (d := 0) e1_is (by omega) (by decide)]; rfl)) ?_
                refine RW.nil ?_
                refine AW.on (done' := #[true, true, true, true, true, true, true, true, true, true, true, false, false, false]) rfl [3, 4, 5] rfl rfl ?_
                have ht := hA63_11111111111000
                rw [hA63] at ht
                refine AW.to [0, 1, 2, 3, 4, 5] rfl rfl ?_ ht
                exact ⟨rfl, rfl, rfl, rfl, rfl, trivial⟩
              · refine RW.conv1 (fun w hM => ones_cat (ps := [p1 (sa0_0), p1 (.int .i64 (w64 (a0_1 + 2))), p1 (subS u47 1 1 r46.length none)]) (ones_cons (fun _ => (rd_one ((rdF 4 rfl) w hM)).2) (ones_cons (fun _ => rfl) (ones_cons (fun _ => (rd_one ((rdF 0 rfl) w hM)).2) ones_nil)))) (fun hone => ?_)
                refine RW.storeQ (i := 2) (m := 3) (cs' := #[sa0_0, .int .i64 (w64 (a0_1 + 2)), subS u47 1 1 r46.length none]) rfl rfl rfl rfl Try.sizeOf50 rfl (Nat.le_of_ble_eq_true rfl) hone (fun c' hs hget => (cat_spl (A := []) (X := [p1 (.slice none 0 0), p1 (.int .i64 0), p1 (.slice none 0 0)]) (B := []) (Y := [p1 (sa0_0), p1 (.int .i64 (w64 (a0_1 + 2))), p1 (subS u47 1 1 r46.length none)]) rfl hs (by first | exact hget | (rw [cat_one]; exact hget)))) ?_
                refine RW.nil ?_
                refine AW.on (done' := #[true, true, true, true, true, true, true, true, true, true, false, true, false, false]) rfl [3, 4, 5] rfl rfl ?_
                have ht := hA63_11111111110100
                rw [hA63] at ht
                refine AW.to [0, 1, 2, 3, 4, 5] rfl rfl ?_ ht
                exact ⟨rfl, rfl, rfl, rfl, trivial⟩
            have hA63_11111111100100 : A63 4 #[true, true, true, true, true, true, true, true, true, false, false, true, false, false] [(2, .pointer (some ⟨b37, 0, none⟩)), (3, .int .i64 0), (4, .int .i64 0), (80, u47)] [ro (subS u47 1 1 r46.length none) 1 (r46.drop 1).length (ec e1 (r46.drop 1)), ro u47 1 r46.length (ec e1 r46), .blk b37 50 (#[sa0_0, .int .i64 (w64 (a0_1 + 2)), subS u47 1 1 r46.length none]), .blk b36 50 (#[sa0_0, .int .i64 a0_1, sa0_2]), ro sa0_0 1 a0_0.length (ec eb a0_0), ro sa0_2 1 a0_2.length (ec e1 a0_2)] := by
              rw [hA63]
              refine AW.step 9 [] (by kernel_rfl) ⟨⟨_, rfl, ?_⟩, trivial⟩
              · refine RW.yi (.pointer (some (eaddr u47 1 0 0))) rfl rfl (Yi.idxS (m := r46.length) Try.underlying26 Try.sizeOf3 rfl rfl (rdF 1 rfl) (by decide) g61) ?_
                refine RW.nil ?_
                refine AW.on (done' := #[true, true, true, true, true, true, true, true, true, true, false, true, false, false]) rfl [3, 4, 5] rfl rfl ?_
                have ht := hA63_11111111110100
                rw [hA63] at ht
                refine AW.to [0, 1, 2, 3, 4, 5] rfl rfl ?_ ht
                exact ⟨rfl, rfl, rfl, rfl, trivial⟩
            have hA63_11111111100000 : A63 5 #[true, true, true, true, true, true, true, true, true, false, false, false, false, false] [(2, .pointer (some ⟨b37, 0, none⟩)), (3, .int .i64 0), (4, .int .i64 0), (79, .agg #[sa0_0, .int .i64 (w64 (a0_1 + 2)), subS u47 1 1 r46.length none]), (80, u47)] [ro (subS u47 1 1 r46.length none) 1 (r46.drop 1).length (ec e1 (r46.drop 1)), ro u47 1 r46.length (ec e1 r46), .blk b37 50 (#[.slice none 0 0, .int .i64 0, .slice none 0 0]), .blk b36 50 (#[sa0_0, .int .i64 a0_1, sa0_2]), ro sa0_0 1 a0_0.length (ec eb a0_0), ro sa0_2 1 a0_2.length (ec e1 a0_2)] := by
              rw [hA63]
              refine AW.step 9 [11] (by kernel_rfl) ⟨⟨_, rfl, ?_⟩, ⟨_, rfl, ?_⟩, trivial⟩
              · refine RW.yi (.pointer (some (eaddr u47 1 0 0))) rfl rfl (Yi.idxS (m := r46.length) Try.underlying26 Try.sizeOf3 rfl rfl (rdF 1 rfl) (by decide) g61) ?_
                refine RW.nil ?_
                refine AW.on (done' := #[true, true, true, true, true, true, true, true, true, true, false, false, false, false]) rfl [3, 4, 5] rfl rfl ?_
                have ht := hA63_11111111110000
                rw [hA63] at ht
                refine AW.to [0, 1, 2, 3, 4, 5] rfl rfl ?_ ht
                exact ⟨rfl, rfl, rfl, rfl, rfl, trivial⟩
              · refine RW.conv1 (fun w hM => ones_cat (ps := [p1 (sa0_0), p1 (.int .i64 (w64 (a0_1 + 2))), p1 (subS u47 1 1 r46.length none)]) (ones_cons (fun _ => (rd_one ((rdF 4 rfl) w hM)).2) (ones_cons (fun _ => rfl) (ones_cons (fun _ => (rd_one ((rdF 0 rfl) w hM)).2) ones_nil)))) (fun hone => ?_)
                refine RW.storeQ (i := 2) (m := 3) (cs' := #[sa0_0, .int .i64 (w64 (a0_1 + 2)), subS u47 1 1 r46.length none]) rfl rfl rfl rfl Try.sizeOf50 rfl (Nat.le_of_ble_eq_true rfl) hone (fun c' hs hget => (cat_spl (A := []) (X := [p1 (.slice none 0 0), p1 (.int .i64 0), p1 (.slice none 0 0)]) (B := []) (Y := [p1 (sa0_0), p1 (.int .i64 (w64 (a0_1 + 2))), p1 (subS u47 1 1 r46.length none)]) rfl hs (by first | exact hget | (rw [cat_one]; exact hget)))) ?_
                refine RW.nil ?_
                refine AW.on (done' := #[true, true, true, true, true, true, true, true, true, false, false, true, false, false]) rfl [3, 4, 5] rfl rfl ?_
                have ht := hA63_11111111100100
                rw [hA63] at ht
                refine AW.to [0, 1, 2, 3, 4, 5] rfl rfl ?_ ht
                exact ⟨rfl, rfl, rfl, rfl, trivial⟩
            have hA63_11111110111000 : A63 4 #[true, true, true, true, true, true, true, false, true, true, true, false, false, false] [(2, .pointer (some ⟨b37, 0, none⟩)), (3, .int .i64 0), (4, .int .i64 0), (73, sa0_0), (76, .int .i64 (w64 (a0_1 + 2))), (78, subS u47 1 1 r46.length none), (82, .int .i64 (r46.getD 0 0))] [ro (subS u47 1 1 r46.length none) 1 (r46.drop 1).length (ec e1 (r46.drop 1)), ro u47 1 r46.length (ec e1 r46), .blk b37 50 (#[.slice none 0 0, .int .i64 0, .slice none 0 0]), .blk b36 50 (#[sa0_0, .int .i64 a0_1, sa0_2]), ro sa0_0 1 a0_0.length (ec eb a0_0), ro sa0_2 1 a0_2.length (ec e1 a0_2)] := by
              rw [hA63]
              refine AW.step 7 [] (by kernel_rfl) ⟨⟨_, rfl, ?_⟩, trivial⟩
              · refine RW.yi (.agg #[sa0_0, .int .i64 (w64 (a0_1 + 2)), subS u47 1 1 r46.length none]) rfl rfl (Yi.buildM (vs := [sa0_0, .int .i64 (w64 (a0_1 + 2)), subS u47 1 1 r46.length none]) _ rfl rfl (fun w hM => by have e0 := rd_slice ((rdF 4 rfl) w hM); have e1 := rd_slice ((rdF 0 rfl) w hM); revert e0 e1; generalize sa0_0 = x0; generalize (subS u47 1 1 r46.length none) = x1; rintro ⟨_, _, _, rfl⟩ ⟨_, _, _, rfl⟩; show _ = _; kernel_rfl)) ?_
                refine RW.nil ?_
                refine AW.on (done' := #[true, true, true, true, true, true, true, true, true, true, true, false, false, false]) rfl [3, 4, 5] rfl rfl ?_
                have ht := hA63_11111111111000
                rw [hA63] at ht
                refine AW.to [0, 1, 2, 3, 4, 5] rfl rfl ?_ ht
                exact ⟨rfl, rfl, rfl, rfl, rfl, trivial⟩
            have hA63_11111110110000 : A63 5 #[true, true, true, true, true, true, true, false, true, true, false, false, false, false] [(2, .pointer (some ⟨b37, 0, none⟩)), (3, .int .i64 0), (4, .int .i64 0), (73, sa0_0), (76, .int .i64 (w64 (a0_1 + 2))), (78, subS u47 1 1 r46.length none), (81, .pointer (some (eaddr u47 1 0 0)))] [ro (subS u47 1 1 r46.length none) 1 (r46.drop 1).length (ec e1 (r46.drop 1)), ro u47 1 r46.length (ec e1 r46), .blk b37 50 (#[.slice none 0 0, .int .i64 0, .slice none 0 0]), .blk b36 50 (#[sa0_0, .int .i64 a0_1, sa0_2]), ro sa0_0 1 a0_0.length (ec eb a0_0), ro sa0_2 1 a0_2.length (ec e1 a0_2)] := by
              rw [hA63]
              refine AW.step 7 [10] (by kernel_rfl) ⟨⟨_, rfl, ?_⟩, ⟨_, rfl, ?_⟩, trivial⟩
              · refine RW.yi (.agg #[sa0_0, .int .i64 (w64 (a0_1 + 2)), subS u47 1 1 r46.length none]) rfl rfl (Yi.buildM (vs := [sa0_0, .int .i64 (w64 (a0_1 + 2)), subS u47 1 1 r46.length none]) _ rfl rfl (fun w hM => by have e0 := rd_slice ((rdF 4 rfl) w hM); have e1 := rd_slice ((rdF 0 rfl) w hM); revert e0 e1; generalize sa0_0 = x0; generalize (subS u47 1 1 r46.length none) = x1; rintro ⟨_, _, _, rfl⟩ ⟨_, _, _, rfl⟩; show _ = _; kernel_rfl)) ?_
                refine RW.nil ?_
                refine AW.on (done' := #[true, true, true, true, true, true, true, true, true, true, false, false, false, false]) rfl [3, 4, 5] rfl rfl ?_
                have ht := hA63_11111111110000
                rw [hA63] at ht
                refine AW.to [0, 1, 2, 3, 4, 5] rfl rfl ?_ ht
                exact ⟨rfl, rfl, rfl, rfl, rfl, trivial⟩
              · refine RW.yi (.int .i64 (r46.getD 0 0)) rfl rfl (Yi.loadS (m := r46.length) (cs := ec e1 r46) _ rfl (rdF 1 rfl) Try.isAgg3 (by omega) (by omega) (by rw [ec_get (d := 0) e1_is (by omega) (by decide)]; rfl)) ?_
                refine RW.nil ?_
                refine AW.on (done' := #[true, true, true, true, true, true, true, false, true, true, true, false, false, false]) rfl [3, 4, 5] rfl rfl ?_
                have ht := hA63_11111110111000
                rw [hA63] at ht
                refine AW.to [0, 1, 2, 3, 4, 5] rfl rfl ?_ ht
                exact ⟨rfl, rfl, rfl, rfl, rfl, rfl, rfl, trivial⟩
            have hA63_11111110100000 : A63 6 #[true, true, true, true, true, true, true, false, true, false, false, false, false, false] [(2, .pointer (some ⟨b37, 0, none⟩)), (3, .int .i64 0), (4, .int .i64 0), (73, sa0_0), (76, .int .i64 (w64 (a0_1 + 2))), (78, subS u47 1 1 r46.length none), (80, u47)] [ro (subS u47 1 1 r46.length none) 1 (r46.drop 1).length (ec e1 (r46.drop 1)), ro u47 1 r46.length (ec e1 r46), .blk b37 50 (#[.slice none 0 0, .int .i64 0, .slice none 0 0]), .blk b36 50 (#[sa0_0, .int .i64 a0_1, sa0_2]), ro sa0_0 1 a0_0.length (ec eb a0_0), ro sa0_2 1 a0_2.length (ec e1 a0_2)] := by
              rw [hA63]
              refine AW.step 7 [9] (by kernel_rfl) ⟨⟨_, rfl, ?_⟩, ⟨_, rfl, ?_⟩, trivial⟩
              · refine RW.yi (.agg #[sa0_0, .int .i64 (w64 (a0_1 + 2)), subS u47 1 1 r46.length none]) rfl rfl (Yi.buildM (vs := [sa0_0, .int .i64 (w64 (a0_1 + 2)), subS u47 1 1 r46.length none]) _ rfl rfl (fun w hM => by have e0 := rd_slice ((rdF 4 rfl) w hM); have e1 := rd_slice ((rdF 0 rfl) w hM); revert e0 e1; generalize sa0_0 = x0; generalize (subS u47 1 1 r46.length none) = x1; rintro ⟨_, _, _, rfl⟩ ⟨_, _, _, rfl⟩; show _ = _; kernel_rfl)) ?_
                refine RW.nil ?_
                refine AW.on (done' := #[true, true, true, true, true, true, true, true, true, false, false, false, false, false]) rfl [3, 4, 5] rfl rfl ?_
                have ht := hA63_11111111100000
                rw [hA63] at ht
                refine AW.to [0, 1, 2, 3, 4, 5] rfl rfl ?_ ht
                exact ⟨rfl, rfl, rfl, rfl, rfl, trivial⟩
              · refine RW.yi (.pointer (some (eaddr u47 1 0 0))) rfl rfl (Yi.idxS (m := r46.length) Try.underlying26 Try.sizeOf3 rfl rfl (rdF 1 rfl) (by decide) g61) ?_
                refine RW.nil ?_
                refine AW.on (done' := #[true, true, true, true, true, true, true, false, true, true, false, false, false, false]) rfl [3, 4, 5] rfl rfl ?_
                have ht := hA63_11111110110000
                rw [hA63] at ht
                refine AW.to [0, 1, 2, 3, 4, 5] rfl rfl ?_ ht
                exact ⟨rfl, rfl, rfl, rfl, rfl, rfl, rfl, trivial⟩
            have hA63_11111100111000 : A63 5 #[true, true, true, true, true, true, false, false, true, true, true, false, false, false] [(2, .pointer (some ⟨b37, 0, none⟩)), (3, .int .i64 0), (4, .int .i64 0), (73, sa0_0), (76, .int .i64 (w64 (a0_1 + 2))), (77, u47), (82, .int .i64 (r46.getD 0 0))] [.row u47 3 1 r46.length (ec e1 r46), .blk b37 50 (#[.slice none 0 0, .int .i64 0, .slice none 0 0]), .blk b36 50 (#[sa0_0, .int .i64 a0_1, sa0_2]), ro sa0_0 1 a0_0.length (ec eb a0_0), ro sa0_2 1 a0_2.length (ec e1 a0_2)] := by
              rw [hA63]
              refine AW.step 6 [] (by kernel_rfl) ⟨⟨_, rfl, ?_⟩, trivial⟩
              · refine RW.conv (fun _ hM => hM.freeze 0 rfl) ?_
                refine RW.yi ((subS u47 1 1 r46.length none)) rfl rfl (Yi.slice (sz := 1) (m := r46.length) (l' := 1) (h' := r46.length) (m' := none) (v := u47) (cs := ec e1 r46) Try.underlying26 Try.sizeOf3 rfl (rdF 0 rfl) (.inr ⟨_, _, _, rfl, rfl, rfl⟩) (.inl ⟨rfl, rfl, rfl⟩) (.inl ⟨rfl, rfl⟩) (by omega) (by omega) (fun _ h => by cases h)) ?_
                refine RW.conv (fun _ hM => hM.subRo 0 1 r46.length none rfl (by omega) (by omega) (fun _ h => by cases h) (k := (r46.drop 1).length) (cs' := ec e1 (r46.drop 1)) (by simp only [List.length_take, List.length_drop] <;> omega) (ec_subD e1_is r46 1)) ?_
                refine RW.nil ?_
                refine AW.on (done' := #[true, true, true, true, true, true, true, false, true, true, true, false, false, false]) rfl [3, 4, 5] rfl rfl ?_
                have ht := hA63_11111110111000
                rw [hA63] at ht
                refine AW.to [0, 1, 2, 3, 4, 5] rfl rfl ?_ ht
                exact ⟨rfl, rfl, rfl, rfl, rfl, rfl, rfl, trivial⟩
            have hA63_11111100110000 : A63 6 #[true, true, true, true, true, true, false, false, true, true, false, false, false, false] [(2, .pointer (some ⟨b37, 0, none⟩)), (3, .int .i64 0), (4, .int .i64 0), (73, sa0_0), (76, .int .i64 (w64 (a0_1 + 2))), (77, u47), (81, .pointer (some (eaddr u47 1 0 0)))] [.row u47 3 1 r46.length (ec e1 r46), .blk b37 50 (#[.slice none 0 0, .int .i64 0, .slice none 0 0]), .blk b36 50 (#[sa0_0, .int .i64 a0_1, sa0_2]), ro sa0_0 1 a0_0.length (ec eb a0_0), ro sa0_2 1 a0_2.length (ec e1 a0_2)] := by
              rw [hA63]
              refine AW.step 6 [10] (by kernel_rfl) ⟨⟨_, rfl, ?_⟩, ⟨_, rfl, ?_⟩, trivial⟩
              · refine RW.conv (fun _ hM => hM.freeze 0 rfl) ?_
                refine RW.yi ((subS u47 1 1 r46.length none)) rfl rfl (Yi.slice (sz := 1) (m := r46.length) (l' := 1) (h' := r46.length) (m' := none) (v := u47) (cs := ec e1 r46) Try.underlying26 Try.sizeOf3 rfl (rdF 0 rfl) (.inr ⟨_, _, _, rfl, rfl, rfl⟩) (.inl ⟨rfl, rfl, rfl⟩) (.inl ⟨rfl, rfl⟩) (by omega) (by omega) (fun _ h => by cases h)) ?_
                refine RW.conv (fun _ hM => hM.subRo 0 1 r46.length none rfl (by omega) (by omega) (fun _ h => by cases h) (k := (r46.drop 1).length) (cs' := ec e1 (r46.drop 1)) (by simp only [List.length_take, List.length_drop] <;> omega) (ec_subD e1_is r46 1)) ?_
                refine RW.nil ?_
                refine AW.on (done' := #[true, true, true, true, true, true, true, false, true, true, false, false, false, false]) rfl [3, 4, 5] rfl rfl ?_
                have ht := hA63_11111110110000
                rw [hA63] at ht
                refine AW.to [0, 1, 2, 3, 4, 5] rfl rfl ?_ ht
                exact ⟨rfl, rfl, rfl, rfl, rfl, rfl, rfl, trivial⟩
              · refine RW.yi (.int .i64 (r46.getD 0 0)) rfl rfl (Yi.loadS (m := r46.length) (cs := ec e1 r46) _ rfl (rdW 0 rfl) Try.isAgg3 (by omega) (by omega) (by rw [ec_get (d := 0) e1_is (by omega) (by decide)]; rfl)) ?_
                refine RW.nil ?_
                refine AW.on (done' := #[true, true, true, true, true, true, false, false, true, true, true, false, false, false]) rfl [2, 3, 4] rfl rfl ?_
                have ht := hA63_11111100111000
                rw [hA63] at ht
                refine AW.to [0, 1, 2, 3, 4] rfl rfl ?_ ht
                exact ⟨rfl, rfl, rfl, rfl, rfl, rfl, rfl, trivial⟩
            have hA63_11111100100000 : A63 7 #[true, true, true, true, true, true, false, false, true, false, false, false, false, false] [(2, .pointer (some ⟨b37, 0, none⟩)), (3, .int .i64 0), (4, .int .i64 0), (73, sa0_0), (76, .int .i64 (w64 (a0_1 + 2))), (77, u47), (80, u47)] [.row u47 3 1 r46.length (ec e1 r46), .blk b37 50 (#[.slice none 0 0, .int .i64 0, .slice none 0 0]), .blk b36 50 (#[sa0_0, .int .i64 a0_1, sa0_2]), ro sa0_0 1 a0_0.length (ec eb a0_0), ro sa0_2 1 a0_2.length (ec e1 a0_2)] := by
              rw [hA63]
              refine AW.step 6 [9] (by kernel_rfl) ⟨⟨_, rfl, ?_⟩, ⟨_, rfl, ?_⟩, trivial⟩
              · refine RW.conv (fun _ hM => hM.freeze 0 rfl) ?_
                refine RW.yi ((subS u47 1 1 r46.length none)) rfl rfl (Yi.slice (sz := 1) (m := r46.length) (l' := 1) (h' := r46.length) (m' := none) (v := u47) (cs := ec e1 r46) Try.underlying26 Try.sizeOf3 rfl (rdF 0 rfl) (.inr ⟨_, _, _, rfl, rfl, rfl⟩) (.inl ⟨rfl, rfl, rfl⟩) (.inl ⟨rfl, rfl⟩) (by omega) (by omega) (fun _ h => by cases h)) ?_
                refine RW.conv (fun _ hM => hM.subRo 0 1 r46.length none rfl (by omega) (by omega) (fun _ h => by cases h) (k := (r46.drop 1).length) (cs' := ec e1 (r46.drop 1)) (by simp only [List.length_take, List.length_drop] <;> omega) (ec_subD e1_is r46 1)) ?_
                refine RW.nil ?_
                refine AW.on (done' := #[true, true, true, true, true, true, true, false, true, false, false, false, false, false]) rfl [3, 4, 5] rfl rfl ?_
                have ht := hA63_11111110100000
                rw [hA63] at ht
                refine AW.to [0, 1, 2, 3, 4, 5] rfl rfl ?_ ht
                exact ⟨rfl, rfl, rfl, rfl, rfl, rfl, rfl, trivial⟩
              · refine RW.yi (.pointer (some (eaddr u47 1 0 0))) rfl rfl (Yi.idxS (m := r46.length) Try.underlying26 Try.sizeOf3 rfl rfl (rdW 0 rfl) (by decide) g61) ?_
                refine RW.nil ?_
                refine AW.on (done' := #[true, true, true, true, true, true, false, false, true, true, false, false, false, false]) rfl [2, 3, 4] rfl rfl ?_
                have ht := hA63_11111100110000
                rw [hA63] at ht
                refine AW.to [0, 1, 2, 3, 4] rfl rfl ?_ ht
                exact ⟨rfl, rfl, rfl, rfl, rfl, rfl, rfl, trivial⟩
            rw [hA63]
            refine AW.take 0 (done' := #[true, false, false, false, false, false, false, false, false, false, false, false, false, false]) (.pointer (some ⟨b36, 0, none⟩)) [2, 3, 4] hns rfl rfl rfl (by kernel_rfl) (by kernel_rfl) rfl rfl rfl (by kernel_rfl) (fun _ _ => Yi.fieldAddr (j := 0) Try.underlying50 rfl Try.sizeOf34 rfl) ?_
            refine AW.take 1 (done' := #[true, true, false, false, false, false, false, false, false, false, false, false, false, false]) (sa0_0) [2, 3, 4] hns rfl rfl rfl (by kernel_rfl) (by kernel_rfl) rfl rfl rfl (by kernel_rfl) (fun _ _ => Yi.load1 (i := 0) _ rfl rfl Try.isAgg34 rfl) ?_
            refine AW.take 2 (done' := #[true, true, true, false, false, false, false, false, false, false, false, false, false, false]) (.pointer (some ⟨b36, 1, none⟩)) [2, 3, 4] hns rfl rfl rfl (by kernel_rfl) (by kernel_rfl) rfl rfl rfl (by kernel_rfl) (fun _ _ => Yi.fieldAddr (j := 1) Try.underlying50 rfl Try.sizeOf3 rfl) ?_
            refine AW.take 3 (done' := #[true, true, true, true, false, false, false, false, false, false, false, false, false, false]) (.int .i64 a0_1) [2, 3, 4] hns rfl rfl rfl (by kernel_rfl) (by kernel_rfl) rfl rfl rfl (by kernel_rfl) (fun _ _ => Yi.load1 (i := 0) _ rfl rfl Try.isAgg3 rfl) ?_
            refine AW.take 4 (done' := #[true, true, true, true, true, false, false, false, false, false, false, false, false, false]) (.int .i64 (w64 (a0_1 + 2))) [2, 3, 4] hns rfl rfl rfl (by kernel_rfl) (by kernel_rfl) rfl rfl rfl (by kernel_rfl) (fun _ _ => Yi.pv _ rfl) ?_
            refine AW.take 5 (done' := #[true, true, true, true, true, true, false, false, false, false, false, false, false, false]) (u47) [2, 3, 4] hns rfl rfl rfl (by kernel_rfl) (by kernel_rfl) rfl rfl rfl (by kernel_rfl) (fun _ _ => Yi.pv _ rfl) ?_
            refine AW.take 8 (done' := #[true, true, true, true, true, true, false, false, true, false, false, false, false, false]) (u47) [2, 3, 4] hns rfl rfl rfl (by kernel_rfl) (by kernel_rfl) rfl rfl rfl (by kernel_rfl) (fun _ _ => Yi.pv _ rfl) ?_
            have ht := hA63_11111100100000
            rw [hA63] at ht
            refine AW.to [0, 1, 2, 3, 4] rfl rfl ?_ ht
            exact ⟨rfl, rfl, rfl, rfl, rfl, rfl, rfl, trivial⟩

end Go.Proofs.Ytpfnjmaadghhoaa
