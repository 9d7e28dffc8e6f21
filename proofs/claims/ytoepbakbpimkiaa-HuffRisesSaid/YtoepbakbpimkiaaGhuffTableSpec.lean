import Derived.Test.YtoepbakbpimkiaaN8
import Derived.Test.YtoepbakbpimkiaaProg
import Derived.Test.YtoepbakbpimkiaaGslicesClone
set_option maxRecDepth 100000
set_option maxHeartbeats 1000000
namespace Go.Proofs.Ytoepbakbpimkiaa
open Go Go.RowKit K

def huff_Table_Spec (K : Nat) (a0_t_0 : (Nat → Int)) (a0_t_1 : (List Int)) (a0_t_2 : (Nat → Int)) (a0_t_3 : (List MEnt)) : Option ((List Int)) :=
  ((slices_Clone K a0_t_1).bind fun r5 => some r5)

theorem c_huff_Table_Spec (K : Nat) (a0_t_0 : (Nat → Int)) (a0_t_1 : (List Int)) (a0_t_2 : (Nat → Int)) (a0_t_3 : (List MEnt)) (ba0_t : Nat) (sa0_t_1 : Value) (ba0_t_3 : Nat) (r : (List Int)) (w0 : World) (S : Own) (hM0 : Mem w0 S [.blk ba0_t 67 (cat [(16, (iv a0_t_0)), p1 (sa0_t_1), (512, (iv a0_t_2)), p1 (.map (some ba0_t_3))]), .row sa0_t_1 3 1 a0_t_1.length (ec e1 a0_t_1), mpE ba0_t_3 a0_t_3] w0) (hm : huff_Table_Spec K a0_t_0 a0_t_1 a0_t_2 a0_t_3 = some r) : Calls Try.prog 17 #[.pointer (some ⟨ba0_t, 0, none⟩)] w0 fun e w' => ∃ u : Value, e = .returned (.agg (cat [(16, (iv a0_t_0)), p1 (u)])) ∧ Mem w0 S [.row u 3 1 r.length (ec e1 r), .blk ba0_t 67 (cat [(16, (iv a0_t_0)), p1 (sa0_t_1), (512, (iv a0_t_2)), p1 (.map (some ba0_t_3))]), .row sa0_t_1 3 1 a0_t_1.length (ec e1 a0_t_1), mpE ba0_t_3 a0_t_3] w' := by
  unfold huff_Table_Spec at hm
  refine calls_CW (n := 18) w0 S [.blk ba0_t 67 (cat [(16, (iv a0_t_0)), p1 (sa0_t_1), (512, (iv a0_t_2)), p1 (.map (some ba0_t_3))]), .row sa0_t_1 3 1 a0_t_1.length (ec e1 a0_t_1), mpE ba0_t_3 a0_t_3] Try.func17 rfl rfl rfl hM0 ?_
  refine CW.seq ?_
  refine CW.region ?_
  refine RW.alloc (z := .agg (cat [(16, (iv zf)), p1 (.slice none 0 0)])) (cat [(16, (iv zf)), p1 (.slice none 0 0)]) rfl rfl (fun _ => by kernel_rfl) rfl (fun b4 => ?_)
  refine RW.nil ?_
  refine EW.next ?_
  refine CW.seq ?_
  refine CW.seq ?_
  refine CW.region ?_
  refine RW.yi (.pointer (some ⟨ba0_t, 0, none⟩)) rfl rfl (Yi.pv _ rfl) ?_
  refine RW.yi (.bool false) rfl rfl (Yi.eqNil false rfl rfl Try.underlying27 (.inr ⟨rfl, rfl⟩)) ?_
  refine RW.nil ?_
  refine EW.next ?_
  refine CW.cond_false rfl ?_
  refine CW.skip ?_
  refine EW.next ?_
  refine CW.seq ?_
  obtain ⟨r5, hr5, hm⟩ := of_bind hm
  refine CW.held (m := 13) [.blk ba0_t 67 (cat [(16, (iv a0_t_0)), p1 (sa0_t_1), (512, (iv a0_t_2)), p1 (.map (some ba0_t_3))]), .row sa0_t_1 3 1 a0_t_1.length (ec e1 a0_t_1), mpE ba0_t_3 a0_t_3] (by kernel_rfl) (by kernel_rfl) (by kernel_rfl) (fun A8 hA8 hns => ?_)
  have hA8_1111111111111 : ∀ (u6 : Value), A8 0 #[true, true, true, true, true, true, true, true, true, true, true, true, true] [(2, .pointer (some ⟨b4, 0, none⟩))] [.row u6 3 1 r5.length (ec e1 r5), .blk b4 25 (cat [(16, (iv a0_t_0)), p1 (u6)]), .blk ba0_t 67 (cat [(16, (iv a0_t_0)), p1 (sa0_t_1), (512, (iv a0_t_2)), p1 (.map (some ba0_t_3))]), .row sa0_t_1 3 1 a0_t_1.length (ec e1 a0_t_1), mpE ba0_t_3 a0_t_3] := by
    intro u6
    rw [hA8]
    refine AW.fin (by kernel_rfl) ?_
    refine EW.next ?_
    refine CW.ret ?_
    obtain rfl := Option.some.inj hm
    exact EW.done (rs := [.cell 2 25]) rfl (.cellW (i := 1) (cs := cat [(16, (iv a0_t_0)), p1 (u6)]) rfl rfl Try.isAgg25 (by simp only [cat_size]; exact Try.sizeOf25) .nil) (fun _ hM => ⟨(u6), rfl, (hM.pick [0, 2, 3, 4] rfl rfl)⟩)
  have hA8_1111111111110 : ∀ (u9 : Value), A8 1 #[true, true, true, true, true, true, true, true, true, true, true, true, false] [(2, .pointer (some ⟨b4, 0, none⟩)), (17, .agg (cat [(16, (iv a0_t_0)), p1 (u9)]))] [.row u9 3 1 r5.length (ec e1 r5), .blk b4 25 (cat [(16, (iv zf)), p1 (.slice none 0 0)]), .blk ba0_t 67 (cat [(16, (iv a0_t_0)), p1 (sa0_t_1), (512, (iv a0_t_2)), p1 (.map (some ba0_t_3))]), .row sa0_t_1 3 1 a0_t_1.length (ec e1 a0_t_1), mpE ba0_t_3 a0_t_3] := by
    intro u9
    rw [hA8]
    refine AW.step 12 [] (by kernel_rfl) ⟨⟨_, rfl, ?_⟩, trivial⟩
    · refine RW.conv1 (fun w hM => ones_cat (ps := [(16, (iv a0_t_0)), p1 (u9)]) (ones_cons (fun _ => rfl) (ones_cons (fun _ => (rd_one ((rdW 0 rfl) w hM)).2) ones_nil))) (fun hone => ?_)
      refine RW.storeQ (i := 1) (m := 17) (cs' := cat [(16, (iv a0_t_0)), p1 (u9)]) rfl rfl rfl rfl Try.sizeOf25 (by rw [cat_size]; rfl) (by rw [cat_size]; show _ ≤ 17; omega) hone (fun c' hs hget => (cat_spl (A := []) (X := [(16, (iv zf)), p1 (.slice none 0 0)]) (B := []) (Y := [(16, (iv a0_t_0)), p1 (u9)]) rfl hs (by first | exact hget | (rw [cat_one]; exact hget)))) ?_
      refine RW.nil ?_
      refine AW.on (done' := #[true, true, true, true, true, true, true, true, true, true, true, true, true]) rfl [2, 3, 4] rfl rfl ?_
      have ht := hA8_1111111111111 u9
      rw [hA8] at ht
      refine AW.to [0, 1, 2, 3, 4] rfl rfl ?_ ht
      exact ⟨rfl, trivial⟩
  have hA8_1111111111100 : ∀ (u9 : Value), A8 2 #[true, true, true, true, true, true, true, true, true, true, true, false, false] [(2, .pointer (some ⟨b4, 0, none⟩)), (10, .agg (cf 16 (iv a0_t_0))), (16, u9)] [.row u9 3 1 r5.length (ec e1 r5), .blk b4 25 (cat [(16, (iv zf)), p1 (.slice none 0 0)]), .blk ba0_t 67 (cat [(16, (iv a0_t_0)), p1 (sa0_t_1), (512, (iv a0_t_2)), p1 (.map (some ba0_t_3))]), .row sa0_t_1 3 1 a0_t_1.length (ec e1 a0_t_1), mpE ba0_t_3 a0_t_3] := by
    intro u9
    rw [hA8]
    refine AW.step 11 [] (by kernel_rfl) ⟨⟨_, rfl, ?_⟩, trivial⟩
    · refine RW.yi (.agg (cat [(16, (iv a0_t_0)), p1 (u9)])) rfl rfl (Yi.buildM (vs := [.agg (cf 16 (iv a0_t_0)), u9]) _ rfl rfl (fun w hM => by have e0 := rd_slice ((rdW 0 rfl) w hM); revert e0; generalize u9 = x0; rintro ⟨_, _, _, rfl⟩; show _ = _; kernel_rfl)) ?_
      refine RW.nil ?_
      refine AW.on (done' := #[true, true, true, true, true, true, true, true, true, true, true, true, false]) rfl [2, 3, 4] rfl rfl ?_
      have ht := hA8_1111111111110 u9
      rw [hA8] at ht
      refine AW.to [0, 1, 2, 3, 4] rfl rfl ?_ ht
      exact ⟨rfl, rfl, trivial⟩
  have hA8_1111111111000 : A8 3 #[true, true, true, true, true, true, true, true, true, true, false, false, false] [(2, .pointer (some ⟨b4, 0, none⟩)), (10, .agg (cf 16 (iv a0_t_0))), (15, sa0_t_1)] [.blk b4 25 (cat [(16, (iv zf)), p1 (.slice none 0 0)]), .blk ba0_t 67 (cat [(16, (iv a0_t_0)), p1 (sa0_t_1), (512, (iv a0_t_2)), p1 (.map (some ba0_t_3))]), .row sa0_t_1 3 1 a0_t_1.length (ec e1 a0_t_1), mpE ba0_t_3 a0_t_3] := by
    rw [hA8]
    refine AW.step 10 [] (by kernel_rfl) ⟨⟨_, rfl, ?_⟩, trivial⟩
    · refine RW.callM (cs := []) [] [.blk b4 25 (cat [(16, (iv zf)), p1 (.slice none 0 0)]), .blk ba0_t 67 (cat [(16, (iv a0_t_0)), p1 (sa0_t_1), (512, (iv a0_t_2)), p1 (.map (some ba0_t_3))]), .row sa0_t_1 3 1 a0_t_1.length (ec e1 a0_t_1), mpE ba0_t_3 a0_t_3] [ro sa0_t_1 1 a0_t_1.length (ec e1 a0_t_1)] [0, 1, 2, 3] (fun (u9 : Value) => [.row u9 3 1 r5.length (ec e1 r5)]) (fun (u9 : Value) => u9) rfl rfl rfl rfl Try.call26 rfl rfl rfl (fun w hM => lentW (A := []) hM 2 rfl (lent0)) (.inl fun _ => rfl) (fun w S' hM => c_slices_Clone K a0_t_1 sa0_t_1 r5 w S' hM hr5) (fun u9 => ?_)
      refine RW.nil ?_
      refine AW.on (done' := #[true, true, true, true, true, true, true, true, true, true, true, false, false]) rfl [2, 3, 4] rfl rfl ?_
      have ht := hA8_1111111111100 u9
      rw [hA8] at ht
      refine AW.to [0, 1, 2, 3, 4] rfl rfl ?_ ht
      exact ⟨rfl, rfl, rfl, trivial⟩
  rw [hA8]
  refine AW.take 0 (done' := #[true, false, false, false, false, false, false, false, false, false, false, false, false]) (.pointer (some ⟨ba0_t, 0, none⟩)) [1, 2, 3] hns rfl rfl rfl (by kernel_rfl) (by kernel_rfl) rfl rfl rfl (by kernel_rfl) (fun _ _ => Yi.pv _ rfl) ?_
  refine AW.take 1 (done' := #[true, true, false, false, false, false, false, false, false, false, false, false, false]) (.pointer (some ⟨ba0_t, 0, none⟩)) [1, 2, 3] hns rfl rfl rfl (by kernel_rfl) (by kernel_rfl) rfl rfl rfl (by kernel_rfl) (fun _ _ => Yi.nilCheck rfl (fun h => by cases h) (fun h => by cases h) (fun h => by cases h) (fun _ _ _ h => by cases h)) ?_
  refine AW.take 2 (done' := #[true, true, true, false, false, false, false, false, false, false, false, false, false]) (.pointer (some ⟨ba0_t, 0, none⟩)) [1, 2, 3] hns rfl rfl rfl (by kernel_rfl) (by kernel_rfl) rfl rfl rfl (by kernel_rfl) (fun _ _ => Yi.fieldAddr (j := 0) Try.underlying67 rfl Try.sizeOf25 rfl) ?_
  refine AW.take 3 (done' := #[true, true, true, true, false, false, false, false, false, false, false, false, false]) (.pointer (some ⟨ba0_t, 0, none⟩)) [1, 2, 3] hns rfl rfl rfl (by kernel_rfl) (by kernel_rfl) rfl rfl rfl (by kernel_rfl) (fun _ _ => Yi.fieldAddr (j := 0) Try.underlying25 rfl Try.sizeOf22 rfl) ?_
  refine AW.take 4 (done' := #[true, true, true, true, true, false, false, false, false, false, false, false, false]) (.agg (cf 16 (iv a0_t_0))) [1, 2, 3] hns rfl rfl rfl (by kernel_rfl) (by kernel_rfl) rfl rfl rfl (by kernel_rfl) (fun _ _ => Yi.to (Yi.loadA (i := 0) (j := 0) (m := 16) (cs := cat [(16, (iv a0_t_0)), p1 (sa0_t_1), (512, (iv a0_t_2)), p1 (.map (some ba0_t_3))]) rfl rfl Try.isAgg22 Try.sizeOf22 (by rw [cat_size]; show _ ≤ 530; omega)) (congrArg Value.agg (Eq.trans (cat_part (ps := [(16, (iv a0_t_0)), p1 (sa0_t_1), (512, (iv a0_t_2)), p1 (.map (some ba0_t_3))]) (nn := 16) (i := 0) (m := 16) 0 rfl (by decide) rfl rfl) (by rw [shf_zero])))) ?_
  refine AW.take 5 (done' := #[true, true, true, true, true, true, false, false, false, false, false, false, false]) (.pointer (some ⟨ba0_t, 0, none⟩)) [1, 2, 3] hns rfl rfl rfl (by kernel_rfl) (by kernel_rfl) rfl rfl rfl (by kernel_rfl) (fun _ _ => Yi.pv _ rfl) ?_
  refine AW.take 6 (done' := #[true, true, true, true, true, true, true, false, false, false, false, false, false]) (.pointer (some ⟨ba0_t, 0, none⟩)) [1, 2, 3] hns rfl rfl rfl (by kernel_rfl) (by kernel_rfl) rfl rfl rfl (by kernel_rfl) (fun _ _ => Yi.nilCheck rfl (fun h => by cases h) (fun h => by cases h) (fun h => by cases h) (fun _ _ _ h => by cases h)) ?_
  refine AW.take 7 (done' := #[true, true, true, true, true, true, true, true, false, false, false, false, false]) (.pointer (some ⟨ba0_t, 0, none⟩)) [1, 2, 3] hns rfl rfl rfl (by kernel_rfl) (by kernel_rfl) rfl rfl rfl (by kernel_rfl) (fun _ _ => Yi.fieldAddr (j := 0) Try.underlying67 rfl Try.sizeOf25 rfl) ?_
  refine AW.take 8 (done' := #[true, true, true, true, true, true, true, true, true, false, false, false, false]) (.pointer (some ⟨ba0_t, 16, none⟩)) [1, 2, 3] hns rfl rfl rfl (by kernel_rfl) (by kernel_rfl) rfl rfl rfl (by kernel_rfl) (fun _ _ => Yi.fieldAddr (j := 1) Try.underlying25 rfl Try.sizeOf23 rfl) ?_
  refine AW.take 9 (done' := #[true, true, true, true, true, true, true, true, true, true, false, false, false]) (sa0_t_1) [1, 2, 3] hns rfl rfl rfl (by kernel_rfl) (by kernel_rfl) rfl rfl rfl (by kernel_rfl) (fun _ _ => Yi.load1 (i := 0) _ rfl rfl Try.isAgg23 (cat_get1 (ps := [(16, (iv a0_t_0)), p1 (sa0_t_1), (512, (iv a0_t_2)), p1 (.map (some ba0_t_3))]) 1 rfl rfl)) ?_
  have ht := hA8_1111111111000
  rw [hA8] at ht
  refine AW.to [0, 1, 2, 3] rfl rfl ?_ ht
  exact ⟨rfl, rfl, rfl, trivial⟩

end Go.Proofs.Ytoepbakbpimkiaa
