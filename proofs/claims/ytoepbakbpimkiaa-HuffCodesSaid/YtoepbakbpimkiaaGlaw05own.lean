import Derived.Test.YtoepbakbpimkiaaN8
import Derived.Test.YtoepbakbpimkiaaProg
set_option maxRecDepth 100000
set_option maxHeartbeats 1000000
namespace Go.Proofs.Ytoepbakbpimkiaa
open Go Go.RowKit K

def law05_own (_ : Nat) (a0_s_0 : (Nat → Int)) (a0_s_1 : (List Int)) : Option (Unit) :=
  (if ([] : List Int).length + a0_s_1.length ≤ 17592186044416 then some () else none)

theorem c_law05_own (K : Nat) (a0_s_0 : (Nat → Int)) (a0_s_1 : (List Int)) (sa0_s_1 : Value) (r : Unit) (w0 : World) (S : Own) (hM0 : Mem w0 S [ro sa0_s_1 1 a0_s_1.length (ec e1 a0_s_1)] w0) (hm : law05_own K a0_s_0 a0_s_1 = some r) : Calls Try.prog 12 #[.agg (cat [(16, (iv a0_s_0)), p1 (sa0_s_1)])] w0 fun e w' => ∃ u : Value, e = .returned (.agg (cat [(16, (iv a0_s_0)), p1 (u)])) ∧ Mem w0 S [.row u 3 1 (([] : List Int) ++ a0_s_1).length (ec e1 (([] : List Int) ++ a0_s_1))] w' := by
  unfold law05_own at hm
  refine calls_CW (n := 10) w0 S [ro sa0_s_1 1 a0_s_1.length (ec e1 a0_s_1)] Try.func12 rfl rfl rfl hM0 ?_
  refine CW.seq ?_
  refine CW.region ?_
  refine RW.box (v := .agg (cat [(16, (iv a0_s_0)), p1 (sa0_s_1)])) rfl rfl rfl (fun b3 => ?_)
  refine RW.alloc (z := .agg (cat [(16, (iv zf)), p1 (.slice none 0 0)])) (cat [(16, (iv zf)), p1 (.slice none 0 0)]) rfl rfl (fun _ => by kernel_rfl) rfl (fun b4 => ?_)
  refine RW.nil ?_
  refine EW.next ?_
  refine CW.seq ?_
  obtain ⟨g5, hm⟩ := of_guard hm
  refine CW.held (m := 8) [.blk b3 25 (cat [(16, (iv a0_s_0)), p1 (sa0_s_1)]), ro sa0_s_1 1 a0_s_1.length (ec e1 a0_s_1)] (by kernel_rfl) (by kernel_rfl) (by kernel_rfl) (fun A9 hA9 hns => ?_)
  have hA9_11111111 : ∀ (s6 : Value) (s8 : Value), A9 0 #[true, true, true, true, true, true, true, true] [(2, .pointer (some ⟨b4, 0, none⟩))] [.row s8 3 1 (([] : List Int) ++ a0_s_1).length (ec e1 (([] : List Int) ++ a0_s_1)), .blk b4 25 (cat [(16, (iv a0_s_0)), p1 (s8)]), .blk b3 25 (cat [(16, (iv a0_s_0)), p1 (sa0_s_1)]), ro sa0_s_1 1 a0_s_1.length (ec e1 a0_s_1)] := by
    intro s6 s8
    rw [hA9]
    refine AW.fin (by kernel_rfl) ?_
    refine EW.next ?_
    refine CW.ret ?_
    obtain rfl := Option.some.inj hm
    exact EW.done (rs := [.cell 2 25]) rfl (.cellW (i := 1) (cs := cat [(16, (iv a0_s_0)), p1 (s8)]) rfl rfl Try.isAgg25 (by simp only [cat_size]; exact Try.sizeOf25) .nil) (fun _ hM => ⟨(s8), rfl, (hM.pick [0] rfl rfl)⟩)
  have hA9_11111110 : ∀ (s10 : Value) (s12 : Value), A9 1 #[true, true, true, true, true, true, true, false] [(2, .pointer (some ⟨b4, 0, none⟩)), (9, .agg (cat [(16, (iv a0_s_0)), p1 (s12)]))] [.row s12 3 1 (([] : List Int) ++ a0_s_1).length (ec e1 (([] : List Int) ++ a0_s_1)), .blk b4 25 (cat [(16, (iv zf)), p1 (.slice none 0 0)]), .blk b3 25 (cat [(16, (iv a0_s_0)), p1 (sa0_s_1)]), ro sa0_s_1 1 a0_s_1.length (ec e1 a0_s_1)] := by
    intro s10 s12
    rw [hA9]
    refine AW.step 7 [] (by kernel_rfl) ⟨⟨_, rfl, ?_⟩, trivial⟩
    · refine RW.conv1 (fun w hM => ones_cat (ps := [(16, (iv a0_s_0)), p1 (s12)]) (ones_cons (fun _ => rfl) (ones_cons (fun _ => (rd_one ((rdW 0 rfl) w hM)).2) ones_nil))) (fun hone => ?_)
      refine RW.storeQ (i := 1) (m := 17) (cs' := cat [(16, (iv a0_s_0)), p1 (s12)]) rfl rfl rfl rfl Try.sizeOf25 (by rw [cat_size]; rfl) (by rw [cat_size]; show _ ≤ 17; omega) hone (fun c' hs hget => (cat_spl (A := []) (X := [(16, (iv zf)), p1 (.slice none 0 0)]) (B := []) (Y := [(16, (iv a0_s_0)), p1 (s12)]) rfl hs (by first | exact hget | (rw [cat_one]; exact hget)))) ?_
      refine RW.nil ?_
      refine AW.on (done' := #[true, true, true, true, true, true, true, true]) rfl [2, 3] rfl rfl ?_
      have ht := hA9_11111111 s10 s12
      rw [hA9] at ht
      refine AW.to [0, 1, 2, 3] rfl rfl ?_ ht
      exact ⟨rfl, trivial⟩
  have hA9_11111100 : ∀ (s10 : Value) (s12 : Value), A9 2 #[true, true, true, true, true, true, false, false] [(2, .pointer (some ⟨b4, 0, none⟩)), (4, .agg (cf 16 (iv a0_s_0))), (8, s12)] [.row s12 3 1 (([] : List Int) ++ a0_s_1).length (ec e1 (([] : List Int) ++ a0_s_1)), .blk b4 25 (cat [(16, (iv zf)), p1 (.slice none 0 0)]), .blk b3 25 (cat [(16, (iv a0_s_0)), p1 (sa0_s_1)]), ro sa0_s_1 1 a0_s_1.length (ec e1 a0_s_1)] := by
    intro s10 s12
    rw [hA9]
    refine AW.step 6 [] (by kernel_rfl) ⟨⟨_, rfl, ?_⟩, trivial⟩
    · refine RW.yi (.agg (cat [(16, (iv a0_s_0)), p1 (s12)])) rfl rfl (Yi.buildM (vs := [.agg (cf 16 (iv a0_s_0)), s12]) _ rfl rfl (fun w hM => by have e0 := rd_slice ((rdW 0 rfl) w hM); revert e0; generalize s12 = x0; rintro ⟨_, _, _, rfl⟩; show _ = _; kernel_rfl)) ?_
      refine RW.nil ?_
      refine AW.on (done' := #[true, true, true, true, true, true, true, false]) rfl [2, 3] rfl rfl ?_
      have ht := hA9_11111110 s10 s12
      rw [hA9] at ht
      refine AW.to [0, 1, 2, 3] rfl rfl ?_ ht
      exact ⟨rfl, rfl, trivial⟩
  have hA9_11111000 : ∀ (s10 : Value), A9 3 #[true, true, true, true, true, false, false, false] [(2, .pointer (some ⟨b4, 0, none⟩)), (4, .agg (cf 16 (iv a0_s_0))), (5, s10), (7, sa0_s_1)] [.row s10 3 1 ([] : List Int).length (ec e1 ([] : List Int)), .blk b4 25 (cat [(16, (iv zf)), p1 (.slice none 0 0)]), .blk b3 25 (cat [(16, (iv a0_s_0)), p1 (sa0_s_1)]), ro sa0_s_1 1 a0_s_1.length (ec e1 a0_s_1)] := by
    intro s10
    rw [hA9]
    refine AW.step 5 [] (by kernel_rfl) ⟨⟨_, rfl, ?_⟩, trivial⟩
    · refine RW.app (i := 0) (e := 3) (sz := 1) (by_ := 8) (z := .int .i64 0) (m := ([] : List Int).length) (mx := a0_s_1.length) (m' := (([] : List Int) ++ a0_s_1).length) (cs := ec e1 ([] : List Int)) (news := ec e1 a0_s_1) (cs' := ec e1 (([] : List Int) ++ a0_s_1)) rfl rfl Try.underlying23 (by kernel_rfl) rfl (by decide) (by decide) rfl rfl rfl (rdF 3 rfl) (ec_one e1_is _) (by omega) (ec_append _ _ _) (by simp only [List.length_append]) (fun s12 => ?_)
      refine RW.nil ?_
      refine AW.on (done' := #[true, true, true, true, true, true, false, false]) rfl [2, 3] rfl rfl ?_
      have ht := hA9_11111100 s10 s12
      rw [hA9] at ht
      refine AW.to [0, 1, 2, 3] rfl rfl ?_ ht
      exact ⟨rfl, rfl, rfl, trivial⟩
  have hA9_11011000 : A9 4 #[true, true, false, true, true, false, false, false] [(2, .pointer (some ⟨b4, 0, none⟩)), (4, .agg (cf 16 (iv a0_s_0))), (7, sa0_s_1)] [.blk b4 25 (cat [(16, (iv zf)), p1 (.slice none 0 0)]), .blk b3 25 (cat [(16, (iv a0_s_0)), p1 (sa0_s_1)]), ro sa0_s_1 1 a0_s_1.length (ec e1 a0_s_1)] := by
    rw [hA9]
    refine AW.step 2 [] (by kernel_rfl) ⟨⟨_, rfl, ?_⟩, trivial⟩
    · refine RW.buildS (e := 3) (sz := 1) (vs := []) ((ec e1 ([] : List Int)).toArray) rfl rfl rfl rfl rfl (by decide) (fun _ => by kernel_rfl) (fun s10 => ?_)
      refine RW.nil ?_
      refine AW.on (done' := #[true, true, true, true, true, false, false, false]) rfl [2, 3] rfl rfl ?_
      have ht := hA9_11111000 s10
      rw [hA9] at ht
      refine AW.to [0, 1, 2, 3] rfl rfl ?_ ht
      exact ⟨rfl, rfl, rfl, rfl, trivial⟩
  rw [hA9]
  refine AW.take 0 (done' := #[true, false, false, false, false, false, false, false]) (.pointer (some ⟨b3, 0, none⟩)) [1, 2] hns rfl rfl rfl (by kernel_rfl) (by kernel_rfl) rfl rfl rfl (by kernel_rfl) (fun _ _ => Yi.fieldAddr (j := 0) Try.underlying25 rfl Try.sizeOf22 rfl) ?_
  refine AW.take 1 (done' := #[true, true, false, false, false, false, false, false]) (.agg (cf 16 (iv a0_s_0))) [1, 2] hns rfl rfl rfl (by kernel_rfl) (by kernel_rfl) rfl rfl rfl (by kernel_rfl) (fun _ _ => Yi.to (Yi.loadA (i := 0) (j := 0) (m := 16) (cs := cat [(16, (iv a0_s_0)), p1 (sa0_s_1)]) rfl rfl Try.isAgg22 Try.sizeOf22 (by rw [cat_size]; show _ ≤ 17; omega)) (congrArg Value.agg (Eq.trans (cat_part (ps := [(16, (iv a0_s_0)), p1 (sa0_s_1)]) (nn := 16) (i := 0) (m := 16) 0 rfl (by decide) rfl rfl) (by rw [shf_zero])))) ?_
  refine AW.take 3 (done' := #[true, true, false, true, false, false, false, false]) (.pointer (some ⟨b3, 16, none⟩)) [1, 2] hns rfl rfl rfl (by kernel_rfl) (by kernel_rfl) rfl rfl rfl (by kernel_rfl) (fun _ _ => Yi.fieldAddr (j := 1) Try.underlying25 rfl Try.sizeOf23 rfl) ?_
  refine AW.take 4 (done' := #[true, true, false, true, true, false, false, false]) (sa0_s_1) [1, 2] hns rfl rfl rfl (by kernel_rfl) (by kernel_rfl) rfl rfl rfl (by kernel_rfl) (fun _ _ => Yi.load1 (i := 0) _ rfl rfl Try.isAgg23 (cat_get1 (ps := [(16, (iv a0_s_0)), p1 (sa0_s_1)]) 1 rfl rfl)) ?_
  have ht := hA9_11011000
  rw [hA9] at ht
  refine AW.to [0, 1, 2] rfl rfl ?_ ht
  exact ⟨rfl, rfl, rfl, trivial⟩

end Go.Proofs.Ytoepbakbpimkiaa
