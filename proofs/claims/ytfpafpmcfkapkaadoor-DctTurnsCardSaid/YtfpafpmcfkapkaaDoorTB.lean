import Derived.Test.YtfpafpmcfkapkaaDoorT0
import Derived.Test.YtfpafpmcfkapkaaDoorK5
set_option maxRecDepth 100000
namespace Go.Proofs.YtfpafpmcfkapkaaDoor
open Go Go.RowKit K
def both_j1 (_ : Nat)   (v7 : (Nat → Int)) : Option ((Nat → Int)) :=
  some v7

def both_l1 (K : Nat) (r5 : ((Nat → Int))) : Nat → Int → (Nat → Int) →  Option ((Nat → Int))
  | 0, _, _ => none
  | k1 + 1, v9, v10 =>
    (if v9 < 64 then (if 0 ≤ v9 ∧ v9 < 64 then (both_l1 K r5 k1) (w64 (v9 + 1)) (upd v10 v9.toNat (rnd (r5 v9.toNat) 67108864)) else none) else both_j1 K v10)

def both (K : Nat) (a0_m : (Nat → Int)) (a1_b : (Nat → Int)) : Option ((Nat → Int)) :=
  ((pass K a0_m a1_b).bind fun r4 => ((pass K a0_m r4).bind fun r5 => both_l1 K r5 K 0 r5))

theorem c_both (K : Nat) (a0_m : (Nat → Int)) (a1_b : (Nat → Int)) (r : (Nat → Int)) (w0 : World) (hm : both K a0_m a1_b = some r) : Calls Tryd.prog 31 #[.agg (cf 64 (iv a0_m)), .agg (cf 64 (iv a1_b))] w0 fun e w' => e = .returned (.agg (cf 64 (iv r))) ∧ Below w0.heap.size w0 w' := by
  unfold both at hm
  refine calls_CW (n := 24) w0 [] [] Tryd.func31 rfl rfl rfl (Mem.begin w0) ?_
  refine CW.seq ?_
  refine CW.region ?_
  refine RW.box (v := .agg (cf 64 (iv a0_m))) rfl rfl rfl (fun b1 => ?_)
  refine RW.box (v := .agg (cf 64 (iv a1_b))) rfl rfl rfl (fun b2 => ?_)
  refine RW.alloc (z := .agg (cf 64 (iv zf))) (cf 64 (iv zf)) rfl rfl (fun _ => by kernel_rfl) rfl (fun b3 => ?_)
  refine RW.nil ?_
  refine EW.next ?_
  refine CW.seq ?_
  obtain ⟨r4, hr4, hm⟩ := of_bind hm
  obtain ⟨r5, hr5, hm⟩ := of_bind hm
  refine CW.any' (m := 7) (by kernel_rfl) (by kernel_rfl) ?_
  refine AW.begin (fun A13 hA13 => ?_)
  have hA13_1111111 : ∀ b6 : Nat, A13 0 #[true, true, true, true, true, true, true] [(0, .agg (cf 64 (iv a0_m))), (1, .agg (cf 64 (iv a1_b))), (2, .pointer (some ⟨b1, 0, none⟩)), (3, .pointer (some ⟨b2, 0, none⟩)), (4, .pointer (some ⟨b3, 0, none⟩)), (5, .pointer (some ⟨b6, 0, none⟩)), (8, .agg (cf 64 (iv a0_m))), (9, .agg (cf 64 (iv a0_m))), (10, .agg (cf 64 (iv a1_b))), (11, .agg (cf 64 (iv r4))), (12, .agg (cf 64 (iv r5)))] [.blk b6 23 (cf 64 (iv r5)), .blk b3 23 (cf 64 (iv zf)), .blk b2 23 (cf 64 (iv a1_b)), .blk b1 46 (cf 64 (iv a0_m))] := by
    intro b6
    rw [hA13]
    refine AW.fin (by kernel_rfl) ?_
    refine EW.next ?_
    refine CW.join (fun a w => ∃ (v7 : (Nat → Int)), St 24 [(4, .pointer (some ⟨b3, 0, none⟩)), (5, .pointer (some ⟨b6, 0, none⟩))] a ∧ Mem w0 [] [.blk b6 23 (cf 64 (iv v7)), .blk b3 23 (cf 64 (iv zf))] w ∧ both_j1 K v7 = some r) ?_ ?_
    · refine CW.seq ?_
      refine CW.region ?_
      refine RW.yi (.agg (cf 64 (iv r5))) rfl rfl (Yi.loadW (i := 0) rfl rfl Tryd.isAgg23 Tryd.sizeOf23) ?_
      refine RW.yi (.int .i64 0) rfl rfl (Yi.pv _ rfl) ?_
      refine RW.nil ?_
      refine EW.next ?_
      refine CW.block ?_
      refine CW.loop (fun k a w => ∃ (v9 : Int) (v10 : (Nat → Int)), St 24 [(4, .pointer (some ⟨b3, 0, none⟩)), (5, .pointer (some ⟨b6, 0, none⟩)), (13, .agg (cf 64 (iv r5))), (14, .int .i64 v9)] a ∧ Mem w0 [] [.blk b6 23 (cf 64 (iv v10)), .blk b3 23 (cf 64 (iv zf))] w ∧ both_l1 K r5 k v9 v10 = some r) K ?_ ?_ ?_
      · rintro a w ⟨_, _, _, _, hm⟩
        rw [both_l1.eq_1] at hm
        cases hm
      · exact fun a w hs hM => ⟨0, r5, hs.sub ⟨rfl, rfl, rfl, rfl, trivial⟩, hM.sub (.cons_cons _ (.cons_cons _ (.cons _ (.cons _ .slnil)))), hm⟩
      · rintro k1 a w ⟨v9, v10, hs, hM, hm⟩
        rw [both_l1.eq_2] at hm
        refine CW.enter hs hM ?_
        refine CW.seq ?_
        refine CW.region ?_
        refine RW.yi (.bool (decide (v9 < 64))) rfl rfl (Yi.pv _ rfl) ?_
        refine RW.nil ?_
        refine EW.next ?_
        refine CW.seq ?_
        refine CW.fork 15 (v9 < 64) rfl (fun h11 => ?_) (fun h11 => ?_)
        · replace hm := (if_pos h11).symm.trans hm
          refine CW.cond_true rfl ?_
          refine CW.skip ?_
          refine EW.next ?_
          refine CW.seq ?_
          refine CW.block ?_
          refine CW.seq ?_
          refine CW.region ?_
          refine RW.yi (.int .i64 v9) rfl rfl (Yi.pv _ rfl) ?_
          obtain ⟨g12, hm⟩ := of_guard hm
          refine RW.yi (.int .i64 (r5 v9.toNat)) rfl rfl (Yi.index _ Tryd.underlying23 Tryd.sizeOf3 Tryd.isAgg3 rfl rfl g12.1 g12.2 (cf_get (by omega))) ?_
          refine RW.yi (.int .i64 v9) rfl rfl (Yi.pv _ rfl) ?_
          refine RW.yi (.int .i64 (r5 v9.toNat)) rfl rfl (Yi.pv _ rfl) ?_
          refine RW.nil ?_
          refine EW.next ?_
          refine CW.region ?_
          refine RW.yi (.int .i64 v9) rfl rfl (Yi.pv _ rfl) ?_
          refine RW.yi (.int .i64 (r5 v9.toNat)) rfl rfl (Yi.pv _ rfl) ?_
          refine RW.ca (.int .i64 (rnd (r5 v9.toNat) 67108864)) rfl rfl (Ca.call rfl rfl Tryd.call34 (fun w _ => c_Round (r5 v9.toNat) 67108864 w)) ?_
          refine RW.yi (.pointer (some ⟨b6, v9.toNat, none⟩)) rfl rfl (Yi.indexAddr' _ Tryd.underlying23 Tryd.sizeOf3 rfl rfl g12.1 g12.2 (by omega)) ?_
          refine RW.store1 (i := 0) (cs' := cf 64 (iv (upd v10 v9.toNat (rnd (r5 v9.toNat) 67108864)))) rfl rfl rfl rfl Tryd.sizeOf3 rfl rfl (by rw [cf_size]; omega) (by rw [cf_set, iv_upd]) ?_
          refine RW.nil ?_
          refine EW.bln ?_
          refine EW.next ?_
          refine CW.region ?_
          refine RW.yi (.int .i64 (w64 (v9 + 1))) rfl rfl (Yi.pv _ rfl) ?_
          refine RW.yi (.int .i64 (w64 (v9 + 1))) rfl rfl (Yi.pv _ rfl) ?_
          refine RW.nil ?_
          refine EW.thn ?_
          exact fun a w hs hM => ⟨(w64 (v9 + 1)), (upd v10 v9.toNat (rnd (r5 v9.toNat) 67108864)), hs.sub ⟨rfl, rfl, rfl, rfl, trivial⟩, hM.sub (.cons_cons _ (.cons_cons _ .slnil)), hm⟩
        · replace hm := (if_neg h11).symm.trans hm
          refine CW.cond_false rfl ?_
          refine CW.exit ?_
          refine EW.thx ?_
          refine EW.thx ?_
          refine EW.blx ?_
          refine EW.thn ?_
          exact fun a w hs hM => ⟨v10, hs.sub ⟨rfl, rfl, trivial⟩, hM.sub (.cons_cons _ (.cons_cons _ .slnil)), hm⟩
    · rintro a w ⟨v7, hs, hM, hm⟩
      unfold both_j1 at hm
      refine CW.enter hs hM ?_
      refine CW.seq ?_
      refine CW.region ?_
      refine RW.yi (.agg (cf 64 (iv v7))) rfl rfl (Yi.loadW (i := 0) rfl rfl Tryd.isAgg23 Tryd.sizeOf23) ?_
      refine RW.storeW (i := 1) (cs' := cf 64 (iv v7)) rfl rfl rfl rfl (by rw [cf_size]; kernel_rfl) (by simp only [cf_size]) (iv_one _ _) ?_
      refine RW.nil ?_
      refine EW.next ?_
      refine CW.ret ?_
      obtain rfl := Option.some.inj hm
      exact EW.done (rs := [.cell 4 23]) rfl (.cellW (i := 1) rfl rfl Tryd.isAgg23 Tryd.sizeOf23 .nil) (fun _ hM => ⟨rfl, hM.below⟩)
  have hA13_1111110 : ∀ b24 : Nat, A13 1 #[true, true, true, true, true, true, false] [(0, .agg (cf 64 (iv a0_m))), (1, .agg (cf 64 (iv a1_b))), (2, .pointer (some ⟨b1, 0, none⟩)), (3, .pointer (some ⟨b2, 0, none⟩)), (4, .pointer (some ⟨b3, 0, none⟩)), (5, .pointer (some ⟨b24, 0, none⟩)), (8, .agg (cf 64 (iv a0_m))), (9, .agg (cf 64 (iv a0_m))), (10, .agg (cf 64 (iv a1_b))), (11, .agg (cf 64 (iv r4))), (12, .agg (cf 64 (iv r5)))] [.blk b24 23 (cf 64 (iv zf)), .blk b3 23 (cf 64 (iv zf)), .blk b2 23 (cf 64 (iv a1_b)), .blk b1 46 (cf 64 (iv a0_m))] := by
    intro b24
    rw [hA13]
    refine AW.step 6 [] (by kernel_rfl) ⟨⟨_, rfl, ?_⟩, trivial⟩
    · refine RW.storeW (i := 0) (cs' := cf 64 (iv r5)) rfl rfl rfl rfl (by rw [cf_size]; kernel_rfl) (by simp only [cf_size]) (iv_one _ _) ?_
      refine RW.nil ?_
      have ht := hA13_1111111 b24
      rw [hA13] at ht
      refine AW.to rfl ?_ (fun _ hM => hM) ht
      exact fun _ hs => hs.sub ⟨rfl, rfl, rfl, rfl, rfl, rfl, rfl, rfl, rfl, rfl, rfl, trivial⟩
  have hA13_1111100 : A13 2 #[true, true, true, true, true, false, false] [(0, .agg (cf 64 (iv a0_m))), (1, .agg (cf 64 (iv a1_b))), (2, .pointer (some ⟨b1, 0, none⟩)), (3, .pointer (some ⟨b2, 0, none⟩)), (4, .pointer (some ⟨b3, 0, none⟩)), (8, .agg (cf 64 (iv a0_m))), (9, .agg (cf 64 (iv a0_m))), (10, .agg (cf 64 (iv a1_b))), (11, .agg (cf 64 (iv r4))), (12, .agg (cf 64 (iv r5)))] [.blk b3 23 (cf 64 (iv zf)), .blk b2 23 (cf 64 (iv a1_b)), .blk b1 46 (cf 64 (iv a0_m))] := by
    rw [hA13]
    refine AW.step 5 [] (by kernel_rfl) ⟨⟨_, rfl, ?_⟩, trivial⟩
    · refine RW.alloc (z := .agg (cf 64 (iv zf))) (cf 64 (iv zf)) rfl rfl (fun _ => by kernel_rfl) rfl (fun b24 => ?_)
      refine RW.nil ?_
      have ht := hA13_1111110 b24
      rw [hA13] at ht
      refine AW.to rfl ?_ (fun _ hM => hM) ht
      exact fun _ hs => hs.sub ⟨rfl, rfl, rfl, rfl, rfl, rfl, rfl, rfl, rfl, rfl, rfl, trivial⟩
  have hA13_1111010 : ∀ b23 : Nat, A13 2 #[true, true, true, true, false, true, false] [(0, .agg (cf 64 (iv a0_m))), (1, .agg (cf 64 (iv a1_b))), (2, .pointer (some ⟨b1, 0, none⟩)), (3, .pointer (some ⟨b2, 0, none⟩)), (4, .pointer (some ⟨b3, 0, none⟩)), (5, .pointer (some ⟨b23, 0, none⟩)), (8, .agg (cf 64 (iv a0_m))), (9, .agg (cf 64 (iv a0_m))), (10, .agg (cf 64 (iv a1_b))), (11, .agg (cf 64 (iv r4)))] [.blk b23 23 (cf 64 (iv zf)), .blk b3 23 (cf 64 (iv zf)), .blk b2 23 (cf 64 (iv a1_b)), .blk b1 46 (cf 64 (iv a0_m))] := by
    intro b23
    rw [hA13]
    refine AW.step 4 [] (by kernel_rfl) ⟨⟨_, rfl, ?_⟩, trivial⟩
    · refine RW.ca (.agg (cf 64 (iv r5))) rfl rfl (Ca.call rfl rfl Tryd.call41 (fun w _ => c_pass K a0_m r4 r5 w hr5)) ?_
      refine RW.nil ?_
      have ht := hA13_1111110 b23
      rw [hA13] at ht
      refine AW.to rfl ?_ (fun _ hM => hM) ht
      exact fun _ hs => hs.sub ⟨rfl, rfl, rfl, rfl, rfl, rfl, rfl, rfl, rfl, rfl, rfl, trivial⟩
  have hA13_1111000 : A13 3 #[true, true, true, true, false, false, false] [(0, .agg (cf 64 (iv a0_m))), (1, .agg (cf 64 (iv a1_b))), (2, .pointer (some ⟨b1, 0, none⟩)), (3, .pointer (some ⟨b2, 0, none⟩)), (4, .pointer (some ⟨b3, 0, none⟩)), (8, .agg (cf 64 (iv a0_m))), (9, .agg (cf 64 (iv a0_m))), (10, .agg (cf 64 (iv a1_b))), (11, .agg (cf 64 (iv r4)))] [.blk b3 23 (cf 64 (iv zf)), .blk b2 23 (cf 64 (iv a1_b)), .blk b1 46 (cf 64 (iv a0_m))] := by
    rw [hA13]
    refine AW.step 4 [5] (by kernel_rfl) ⟨⟨_, rfl, ?_⟩, ⟨_, rfl, ?_⟩, trivial⟩
    · refine RW.ca (.agg (cf 64 (iv r5))) rfl rfl (Ca.call rfl rfl Tryd.call41 (fun w _ => c_pass K a0_m r4 r5 w hr5)) ?_
      refine RW.nil ?_
      have ht := hA13_1111100
      rw [hA13] at ht
      refine AW.to rfl ?_ (fun _ hM => hM) ht
      exact fun _ hs => hs.sub ⟨rfl, rfl, rfl, rfl, rfl, rfl, rfl, rfl, rfl, rfl, trivial⟩
    · refine RW.alloc (z := .agg (cf 64 (iv zf))) (cf 64 (iv zf)) rfl rfl (fun _ => by kernel_rfl) rfl (fun b23 => ?_)
      refine RW.nil ?_
      have ht := hA13_1111010 b23
      rw [hA13] at ht
      refine AW.to rfl ?_ (fun _ hM => hM) ht
      exact fun _ hs => hs.sub ⟨rfl, rfl, rfl, rfl, rfl, rfl, rfl, rfl, rfl, rfl, trivial⟩
  have hA13_1110010 : ∀ b21 : Nat, A13 3 #[true, true, true, false, false, true, false] [(0, .agg (cf 64 (iv a0_m))), (1, .agg (cf 64 (iv a1_b))), (2, .pointer (some ⟨b1, 0, none⟩)), (3, .pointer (some ⟨b2, 0, none⟩)), (4, .pointer (some ⟨b3, 0, none⟩)), (5, .pointer (some ⟨b21, 0, none⟩)), (8, .agg (cf 64 (iv a0_m))), (9, .agg (cf 64 (iv a0_m))), (10, .agg (cf 64 (iv a1_b)))] [.blk b21 23 (cf 64 (iv zf)), .blk b3 23 (cf 64 (iv zf)), .blk b2 23 (cf 64 (iv a1_b)), .blk b1 46 (cf 64 (iv a0_m))] := by
    intro b21
    rw [hA13]
    refine AW.step 3 [] (by kernel_rfl) ⟨⟨_, rfl, ?_⟩, trivial⟩
    · refine RW.ca (.agg (cf 64 (iv r4))) rfl rfl (Ca.call rfl rfl Tryd.call41 (fun w _ => c_pass K a0_m a1_b r4 w hr4)) ?_
      refine RW.nil ?_
      have ht := hA13_1111010 b21
      rw [hA13] at ht
      refine AW.to rfl ?_ (fun _ hM => hM) ht
      exact fun _ hs => hs.sub ⟨rfl, rfl, rfl, rfl, rfl, rfl, rfl, rfl, rfl, rfl, trivial⟩
  have hA13_0111010 : ∀ b22 : Nat, A13 3 #[false, true, true, true, false, true, false] [(0, .agg (cf 64 (iv a0_m))), (1, .agg (cf 64 (iv a1_b))), (2, .pointer (some ⟨b1, 0, none⟩)), (3, .pointer (some ⟨b2, 0, none⟩)), (4, .pointer (some ⟨b3, 0, none⟩)), (5, .pointer (some ⟨b22, 0, none⟩)), (9, .agg (cf 64 (iv a0_m))), (10, .agg (cf 64 (iv a1_b))), (11, .agg (cf 64 (iv r4)))] [.blk b22 23 (cf 64 (iv zf)), .blk b3 23 (cf 64 (iv zf)), .blk b2 23 (cf 64 (iv a1_b)), .blk b1 46 (cf 64 (iv a0_m))] := by
    intro b22
    rw [hA13]
    refine AW.step 0 [] (by kernel_rfl) ⟨⟨_, rfl, ?_⟩, trivial⟩
    · refine RW.yi (.agg (cf 64 (iv a0_m))) rfl rfl (Yi.loadW (i := 3) rfl rfl Tryd.isAgg46 Tryd.sizeOf46) ?_
      refine RW.nil ?_
      have ht := hA13_1111010 b22
      rw [hA13] at ht
      refine AW.to rfl ?_ (fun _ hM => hM) ht
      exact fun _ hs => hs.sub ⟨rfl, rfl, rfl, rfl, rfl, rfl, rfl, rfl, rfl, rfl, trivial⟩
  have hA13_1110000 : A13 4 #[true, true, true, false, false, false, false] [(0, .agg (cf 64 (iv a0_m))), (1, .agg (cf 64 (iv a1_b))), (2, .pointer (some ⟨b1, 0, none⟩)), (3, .pointer (some ⟨b2, 0, none⟩)), (4, .pointer (some ⟨b3, 0, none⟩)), (8, .agg (cf 64 (iv a0_m))), (9, .agg (cf 64 (iv a0_m))), (10, .agg (cf 64 (iv a1_b)))] [.blk b3 23 (cf 64 (iv zf)), .blk b2 23 (cf 64 (iv a1_b)), .blk b1 46 (cf 64 (iv a0_m))] := by
    rw [hA13]
    refine AW.step 3 [5] (by kernel_rfl) ⟨⟨_, rfl, ?_⟩, ⟨_, rfl, ?_⟩, trivial⟩
    · refine RW.ca (.agg (cf 64 (iv r4))) rfl rfl (Ca.call rfl rfl Tryd.call41 (fun w _ => c_pass K a0_m a1_b r4 w hr4)) ?_
      refine RW.nil ?_
      have ht := hA13_1111000
      rw [hA13] at ht
      refine AW.to rfl ?_ (fun _ hM => hM) ht
      exact fun _ hs => hs.sub ⟨rfl, rfl, rfl, rfl, rfl, rfl, rfl, rfl, rfl, trivial⟩
    · refine RW.alloc (z := .agg (cf 64 (iv zf))) (cf 64 (iv zf)) rfl rfl (fun _ => by kernel_rfl) rfl (fun b21 => ?_)
      refine RW.nil ?_
      have ht := hA13_1110010 b21
      rw [hA13] at ht
      refine AW.to rfl ?_ (fun _ hM => hM) ht
      exact fun _ hs => hs.sub ⟨rfl, rfl, rfl, rfl, rfl, rfl, rfl, rfl, rfl, trivial⟩
  have hA13_1100010 : ∀ b18 : Nat, A13 4 #[true, true, false, false, false, true, false] [(0, .agg (cf 64 (iv a0_m))), (1, .agg (cf 64 (iv a1_b))), (2, .pointer (some ⟨b1, 0, none⟩)), (3, .pointer (some ⟨b2, 0, none⟩)), (4, .pointer (some ⟨b3, 0, none⟩)), (5, .pointer (some ⟨b18, 0, none⟩)), (8, .agg (cf 64 (iv a0_m))), (9, .agg (cf 64 (iv a0_m)))] [.blk b18 23 (cf 64 (iv zf)), .blk b3 23 (cf 64 (iv zf)), .blk b2 23 (cf 64 (iv a1_b)), .blk b1 46 (cf 64 (iv a0_m))] := by
    intro b18
    rw [hA13]
    refine AW.step 2 [] (by kernel_rfl) ⟨⟨_, rfl, ?_⟩, trivial⟩
    · refine RW.yi (.agg (cf 64 (iv a1_b))) rfl rfl (Yi.loadW (i := 2) rfl rfl Tryd.isAgg23 Tryd.sizeOf23) ?_
      refine RW.nil ?_
      have ht := hA13_1110010 b18
      rw [hA13] at ht
      refine AW.to rfl ?_ (fun _ hM => hM) ht
      exact fun _ hs => hs.sub ⟨rfl, rfl, rfl, rfl, rfl, rfl, rfl, rfl, rfl, trivial⟩
  have hA13_1010010 : ∀ b19 : Nat, A13 4 #[true, false, true, false, false, true, false] [(0, .agg (cf 64 (iv a0_m))), (1, .agg (cf 64 (iv a1_b))), (2, .pointer (some ⟨b1, 0, none⟩)), (3, .pointer (some ⟨b2, 0, none⟩)), (4, .pointer (some ⟨b3, 0, none⟩)), (5, .pointer (some ⟨b19, 0, none⟩)), (8, .agg (cf 64 (iv a0_m))), (10, .agg (cf 64 (iv a1_b)))] [.blk b19 23 (cf 64 (iv zf)), .blk b3 23 (cf 64 (iv zf)), .blk b2 23 (cf 64 (iv a1_b)), .blk b1 46 (cf 64 (iv a0_m))] := by
    intro b19
    rw [hA13]
    refine AW.step 1 [] (by kernel_rfl) ⟨⟨_, rfl, ?_⟩, trivial⟩
    · refine RW.yi (.agg (cf 64 (iv a0_m))) rfl rfl (Yi.loadW (i := 3) rfl rfl Tryd.isAgg46 Tryd.sizeOf46) ?_
      refine RW.nil ?_
      have ht := hA13_1110010 b19
      rw [hA13] at ht
      refine AW.to rfl ?_ (fun _ hM => hM) ht
      exact fun _ hs => hs.sub ⟨rfl, rfl, rfl, rfl, rfl, rfl, rfl, rfl, rfl, trivial⟩
  have hA13_0111000 : A13 4 #[false, true, true, true, false, false, false] [(0, .agg (cf 64 (iv a0_m))), (1, .agg (cf 64 (iv a1_b))), (2, .pointer (some ⟨b1, 0, none⟩)), (3, .pointer (some ⟨b2, 0, none⟩)), (4, .pointer (some ⟨b3, 0, none⟩)), (9, .agg (cf 64 (iv a0_m))), (10, .agg (cf 64 (iv a1_b))), (11, .agg (cf 64 (iv r4)))] [.blk b3 23 (cf 64 (iv zf)), .blk b2 23 (cf 64 (iv a1_b)), .blk b1 46 (cf 64 (iv a0_m))] := by
    rw [hA13]
    refine AW.step 0 [5] (by kernel_rfl) ⟨⟨_, rfl, ?_⟩, ⟨_, rfl, ?_⟩, trivial⟩
    · refine RW.yi (.agg (cf 64 (iv a0_m))) rfl rfl (Yi.loadW (i := 2) rfl rfl Tryd.isAgg46 Tryd.sizeOf46) ?_
      refine RW.nil ?_
      have ht := hA13_1111000
      rw [hA13] at ht
      refine AW.to rfl ?_ (fun _ hM => hM) ht
      exact fun _ hs => hs.sub ⟨rfl, rfl, rfl, rfl, rfl, rfl, rfl, rfl, rfl, trivial⟩
    · refine RW.alloc (z := .agg (cf 64 (iv zf))) (cf 64 (iv zf)) rfl rfl (fun _ => by kernel_rfl) rfl (fun b22 => ?_)
      refine RW.nil ?_
      have ht := hA13_0111010 b22
      rw [hA13] at ht
      refine AW.to rfl ?_ (fun _ hM => hM) ht
      exact fun _ hs => hs.sub ⟨rfl, rfl, rfl, rfl, rfl, rfl, rfl, rfl, rfl, trivial⟩
  have hA13_0110010 : ∀ b20 : Nat, A13 4 #[false, true, true, false, false, true, false] [(0, .agg (cf 64 (iv a0_m))), (1, .agg (cf 64 (iv a1_b))), (2, .pointer (some ⟨b1, 0, none⟩)), (3, .pointer (some ⟨b2, 0, none⟩)), (4, .pointer (some ⟨b3, 0, none⟩)), (5, .pointer (some ⟨b20, 0, none⟩)), (9, .agg (cf 64 (iv a0_m))), (10, .agg (cf 64 (iv a1_b)))] [.blk b20 23 (cf 64 (iv zf)), .blk b3 23 (cf 64 (iv zf)), .blk b2 23 (cf 64 (iv a1_b)), .blk b1 46 (cf 64 (iv a0_m))] := by
    intro b20
    rw [hA13]
    refine AW.step 0 [3] (by kernel_rfl) ⟨⟨_, rfl, ?_⟩, ⟨_, rfl, ?_⟩, trivial⟩
    · refine RW.yi (.agg (cf 64 (iv a0_m))) rfl rfl (Yi.loadW (i := 3) rfl rfl Tryd.isAgg46 Tryd.sizeOf46) ?_
      refine RW.nil ?_
      have ht := hA13_1110010 b20
      rw [hA13] at ht
      refine AW.to rfl ?_ (fun _ hM => hM) ht
      exact fun _ hs => hs.sub ⟨rfl, rfl, rfl, rfl, rfl, rfl, rfl, rfl, rfl, trivial⟩
    · refine RW.ca (.agg (cf 64 (iv r4))) rfl rfl (Ca.call rfl rfl Tryd.call41 (fun w _ => c_pass K a0_m a1_b r4 w hr4)) ?_
      refine RW.nil ?_
      have ht := hA13_0111010 b20
      rw [hA13] at ht
      refine AW.to rfl ?_ (fun _ hM => hM) ht
      exact fun _ hs => hs.sub ⟨rfl, rfl, rfl, rfl, rfl, rfl, rfl, rfl, rfl, trivial⟩
  have hA13_1100000 : A13 5 #[true, true, false, false, false, false, false] [(0, .agg (cf 64 (iv a0_m))), (1, .agg (cf 64 (iv a1_b))), (2, .pointer (some ⟨b1, 0, none⟩)), (3, .pointer (some ⟨b2, 0, none⟩)), (4, .pointer (some ⟨b3, 0, none⟩)), (8, .agg (cf 64 (iv a0_m))), (9, .agg (cf 64 (iv a0_m)))] [.blk b3 23 (cf 64 (iv zf)), .blk b2 23 (cf 64 (iv a1_b)), .blk b1 46 (cf 64 (iv a0_m))] := by
    rw [hA13]
    refine AW.step 2 [5] (by kernel_rfl) ⟨⟨_, rfl, ?_⟩, ⟨_, rfl, ?_⟩, trivial⟩
    · refine RW.yi (.agg (cf 64 (iv a1_b))) rfl rfl (Yi.loadW (i := 1) rfl rfl Tryd.isAgg23 Tryd.sizeOf23) ?_
      refine RW.nil ?_
      have ht := hA13_1110000
      rw [hA13] at ht
      refine AW.to rfl ?_ (fun _ hM => hM) ht
      exact fun _ hs => hs.sub ⟨rfl, rfl, rfl, rfl, rfl, rfl, rfl, rfl, trivial⟩
    · refine RW.alloc (z := .agg (cf 64 (iv zf))) (cf 64 (iv zf)) rfl rfl (fun _ => by kernel_rfl) rfl (fun b18 => ?_)
      refine RW.nil ?_
      have ht := hA13_1100010 b18
      rw [hA13] at ht
      refine AW.to rfl ?_ (fun _ hM => hM) ht
      exact fun _ hs => hs.sub ⟨rfl, rfl, rfl, rfl, rfl, rfl, rfl, rfl, trivial⟩
  have hA13_1010000 : A13 5 #[true, false, true, false, false, false, false] [(0, .agg (cf 64 (iv a0_m))), (1, .agg (cf 64 (iv a1_b))), (2, .pointer (some ⟨b1, 0, none⟩)), (3, .pointer (some ⟨b2, 0, none⟩)), (4, .pointer (some ⟨b3, 0, none⟩)), (8, .agg (cf 64 (iv a0_m))), (10, .agg (cf 64 (iv a1_b)))] [.blk b3 23 (cf 64 (iv zf)), .blk b2 23 (cf 64 (iv a1_b)), .blk b1 46 (cf 64 (iv a0_m))] := by
    rw [hA13]
    refine AW.step 1 [5] (by kernel_rfl) ⟨⟨_, rfl, ?_⟩, ⟨_, rfl, ?_⟩, trivial⟩
    · refine RW.yi (.agg (cf 64 (iv a0_m))) rfl rfl (Yi.loadW (i := 2) rfl rfl Tryd.isAgg46 Tryd.sizeOf46) ?_
      refine RW.nil ?_
      have ht := hA13_1110000
      rw [hA13] at ht
      refine AW.to rfl ?_ (fun _ hM => hM) ht
      exact fun _ hs => hs.sub ⟨rfl, rfl, rfl, rfl, rfl, rfl, rfl, rfl, trivial⟩
    · refine RW.alloc (z := .agg (cf 64 (iv zf))) (cf 64 (iv zf)) rfl rfl (fun _ => by kernel_rfl) rfl (fun b19 => ?_)
      refine RW.nil ?_
      have ht := hA13_1010010 b19
      rw [hA13] at ht
      refine AW.to rfl ?_ (fun _ hM => hM) ht
      exact fun _ hs => hs.sub ⟨rfl, rfl, rfl, rfl, rfl, rfl, rfl, rfl, trivial⟩
  have hA13_1000010 : ∀ b15 : Nat, A13 5 #[true, false, false, false, false, true, false] [(0, .agg (cf 64 (iv a0_m))), (1, .agg (cf 64 (iv a1_b))), (2, .pointer (some ⟨b1, 0, none⟩)), (3, .pointer (some ⟨b2, 0, none⟩)), (4, .pointer (some ⟨b3, 0, none⟩)), (5, .pointer (some ⟨b15, 0, none⟩)), (8, .agg (cf 64 (iv a0_m)))] [.blk b15 23 (cf 64 (iv zf)), .blk b3 23 (cf 64 (iv zf)), .blk b2 23 (cf 64 (iv a1_b)), .blk b1 46 (cf 64 (iv a0_m))] := by
    intro b15
    rw [hA13]
    refine AW.step 1 [2] (by kernel_rfl) ⟨⟨_, rfl, ?_⟩, ⟨_, rfl, ?_⟩, trivial⟩
    · refine RW.yi (.agg (cf 64 (iv a0_m))) rfl rfl (Yi.loadW (i := 3) rfl rfl Tryd.isAgg46 Tryd.sizeOf46) ?_
      refine RW.nil ?_
      have ht := hA13_1100010 b15
      rw [hA13] at ht
      refine AW.to rfl ?_ (fun _ hM => hM) ht
      exact fun _ hs => hs.sub ⟨rfl, rfl, rfl, rfl, rfl, rfl, rfl, rfl, trivial⟩
    · refine RW.yi (.agg (cf 64 (iv a1_b))) rfl rfl (Yi.loadW (i := 2) rfl rfl Tryd.isAgg23 Tryd.sizeOf23) ?_
      refine RW.nil ?_
      have ht := hA13_1010010 b15
      rw [hA13] at ht
      refine AW.to rfl ?_ (fun _ hM => hM) ht
      exact fun _ hs => hs.sub ⟨rfl, rfl, rfl, rfl, rfl, rfl, rfl, rfl, trivial⟩
  have hA13_0110000 : A13 5 #[false, true, true, false, false, false, false] [(0, .agg (cf 64 (iv a0_m))), (1, .agg (cf 64 (iv a1_b))), (2, .pointer (some ⟨b1, 0, none⟩)), (3, .pointer (some ⟨b2, 0, none⟩)), (4, .pointer (some ⟨b3, 0, none⟩)), (9, .agg (cf 64 (iv a0_m))), (10, .agg (cf 64 (iv a1_b)))] [.blk b3 23 (cf 64 (iv zf)), .blk b2 23 (cf 64 (iv a1_b)), .blk b1 46 (cf 64 (iv a0_m))] := by
    rw [hA13]
    refine AW.step 0 [3, 5] (by kernel_rfl) ⟨⟨_, rfl, ?_⟩, ⟨_, rfl, ?_⟩, ⟨_, rfl, ?_⟩, trivial⟩
    · refine RW.yi (.agg (cf 64 (iv a0_m))) rfl rfl (Yi.loadW (i := 2) rfl rfl Tryd.isAgg46 Tryd.sizeOf46) ?_
      refine RW.nil ?_
      have ht := hA13_1110000
      rw [hA13] at ht
      refine AW.to rfl ?_ (fun _ hM => hM) ht
      exact fun _ hs => hs.sub ⟨rfl, rfl, rfl, rfl, rfl, rfl, rfl, rfl, trivial⟩
    · refine RW.ca (.agg (cf 64 (iv r4))) rfl rfl (Ca.call rfl rfl Tryd.call41 (fun w _ => c_pass K a0_m a1_b r4 w hr4)) ?_
      refine RW.nil ?_
      have ht := hA13_0111000
      rw [hA13] at ht
      refine AW.to rfl ?_ (fun _ hM => hM) ht
      exact fun _ hs => hs.sub ⟨rfl, rfl, rfl, rfl, rfl, rfl, rfl, rfl, trivial⟩
    · refine RW.alloc (z := .agg (cf 64 (iv zf))) (cf 64 (iv zf)) rfl rfl (fun _ => by kernel_rfl) rfl (fun b20 => ?_)
      refine RW.nil ?_
      have ht := hA13_0110010 b20
      rw [hA13] at ht
      refine AW.to rfl ?_ (fun _ hM => hM) ht
      exact fun _ hs => hs.sub ⟨rfl, rfl, rfl, rfl, rfl, rfl, rfl, rfl, trivial⟩
  have hA13_0100010 : ∀ b16 : Nat, A13 5 #[false, true, false, false, false, true, false] [(0, .agg (cf 64 (iv a0_m))), (1, .agg (cf 64 (iv a1_b))), (2, .pointer (some ⟨b1, 0, none⟩)), (3, .pointer (some ⟨b2, 0, none⟩)), (4, .pointer (some ⟨b3, 0, none⟩)), (5, .pointer (some ⟨b16, 0, none⟩)), (9, .agg (cf 64 (iv a0_m)))] [.blk b16 23 (cf 64 (iv zf)), .blk b3 23 (cf 64 (iv zf)), .blk b2 23 (cf 64 (iv a1_b)), .blk b1 46 (cf 64 (iv a0_m))] := by
    intro b16
    rw [hA13]
    refine AW.step 0 [2] (by kernel_rfl) ⟨⟨_, rfl, ?_⟩, ⟨_, rfl, ?_⟩, trivial⟩
    · refine RW.yi (.agg (cf 64 (iv a0_m))) rfl rfl (Yi.loadW (i := 3) rfl rfl Tryd.isAgg46 Tryd.sizeOf46) ?_
      refine RW.nil ?_
      have ht := hA13_1100010 b16
      rw [hA13] at ht
      refine AW.to rfl ?_ (fun _ hM => hM) ht
      exact fun _ hs => hs.sub ⟨rfl, rfl, rfl, rfl, rfl, rfl, rfl, rfl, trivial⟩
    · refine RW.yi (.agg (cf 64 (iv a1_b))) rfl rfl (Yi.loadW (i := 2) rfl rfl Tryd.isAgg23 Tryd.sizeOf23) ?_
      refine RW.nil ?_
      have ht := hA13_0110010 b16
      rw [hA13] at ht
      refine AW.to rfl ?_ (fun _ hM => hM) ht
      exact fun _ hs => hs.sub ⟨rfl, rfl, rfl, rfl, rfl, rfl, rfl, rfl, trivial⟩
  have hA13_0010010 : ∀ b17 : Nat, A13 5 #[false, false, true, false, false, true, false] [(0, .agg (cf 64 (iv a0_m))), (1, .agg (cf 64 (iv a1_b))), (2, .pointer (some ⟨b1, 0, none⟩)), (3, .pointer (some ⟨b2, 0, none⟩)), (4, .pointer (some ⟨b3, 0, none⟩)), (5, .pointer (some ⟨b17, 0, none⟩)), (10, .agg (cf 64 (iv a1_b)))] [.blk b17 23 (cf 64 (iv zf)), .blk b3 23 (cf 64 (iv zf)), .blk b2 23 (cf 64 (iv a1_b)), .blk b1 46 (cf 64 (iv a0_m))] := by
    intro b17
    rw [hA13]
    refine AW.step 0 [1] (by kernel_rfl) ⟨⟨_, rfl, ?_⟩, ⟨_, rfl, ?_⟩, trivial⟩
    · refine RW.yi (.agg (cf 64 (iv a0_m))) rfl rfl (Yi.loadW (i := 3) rfl rfl Tryd.isAgg46 Tryd.sizeOf46) ?_
      refine RW.nil ?_
      have ht := hA13_1010010 b17
      rw [hA13] at ht
      refine AW.to rfl ?_ (fun _ hM => hM) ht
      exact fun _ hs => hs.sub ⟨rfl, rfl, rfl, rfl, rfl, rfl, rfl, rfl, trivial⟩
    · refine RW.yi (.agg (cf 64 (iv a0_m))) rfl rfl (Yi.loadW (i := 3) rfl rfl Tryd.isAgg46 Tryd.sizeOf46) ?_
      refine RW.nil ?_
      have ht := hA13_0110010 b17
      rw [hA13] at ht
      refine AW.to rfl ?_ (fun _ hM => hM) ht
      exact fun _ hs => hs.sub ⟨rfl, rfl, rfl, rfl, rfl, rfl, rfl, rfl, trivial⟩
  have hA13_1000000 : A13 6 #[true, false, false, false, false, false, false] [(0, .agg (cf 64 (iv a0_m))), (1, .agg (cf 64 (iv a1_b))), (2, .pointer (some ⟨b1, 0, none⟩)), (3, .pointer (some ⟨b2, 0, none⟩)), (4, .pointer (some ⟨b3, 0, none⟩)), (8, .agg (cf 64 (iv a0_m)))] [.blk b3 23 (cf 64 (iv zf)), .blk b2 23 (cf 64 (iv a1_b)), .blk b1 46 (cf 64 (iv a0_m))] := by
    rw [hA13]
    refine AW.step 1 [2, 5] (by kernel_rfl) ⟨⟨_, rfl, ?_⟩, ⟨_, rfl, ?_⟩, ⟨_, rfl, ?_⟩, trivial⟩
    · refine RW.yi (.agg (cf 64 (iv a0_m))) rfl rfl (Yi.loadW (i := 2) rfl rfl Tryd.isAgg46 Tryd.sizeOf46) ?_
      refine RW.nil ?_
      have ht := hA13_1100000
      rw [hA13] at ht
      refine AW.to rfl ?_ (fun _ hM => hM) ht
      exact fun _ hs => hs.sub ⟨rfl, rfl, rfl, rfl, rfl, rfl, rfl, trivial⟩
    · refine RW.yi (.agg (cf 64 (iv a1_b))) rfl rfl (Yi.loadW (i := 1) rfl rfl Tryd.isAgg23 Tryd.sizeOf23) ?_
      refine RW.nil ?_
      have ht := hA13_1010000
      rw [hA13] at ht
      refine AW.to rfl ?_ (fun _ hM => hM) ht
      exact fun _ hs => hs.sub ⟨rfl, rfl, rfl, rfl, rfl, rfl, rfl, trivial⟩
    · refine RW.alloc (z := .agg (cf 64 (iv zf))) (cf 64 (iv zf)) rfl rfl (fun _ => by kernel_rfl) rfl (fun b15 => ?_)
      refine RW.nil ?_
      have ht := hA13_1000010 b15
      rw [hA13] at ht
      refine AW.to rfl ?_ (fun _ hM => hM) ht
      exact fun _ hs => hs.sub ⟨rfl, rfl, rfl, rfl, rfl, rfl, rfl, trivial⟩
  have hA13_0100000 : A13 6 #[false, true, false, false, false, false, false] [(0, .agg (cf 64 (iv a0_m))), (1, .agg (cf 64 (iv a1_b))), (2, .pointer (some ⟨b1, 0, none⟩)), (3, .pointer (some ⟨b2, 0, none⟩)), (4, .pointer (some ⟨b3, 0, none⟩)), (9, .agg (cf 64 (iv a0_m)))] [.blk b3 23 (cf 64 (iv zf)), .blk b2 23 (cf 64 (iv a1_b)), .blk b1 46 (cf 64 (iv a0_m))] := by
    rw [hA13]
    refine AW.step 0 [2, 5] (by kernel_rfl) ⟨⟨_, rfl, ?_⟩, ⟨_, rfl, ?_⟩, ⟨_, rfl, ?_⟩, trivial⟩
    · refine RW.yi (.agg (cf 64 (iv a0_m))) rfl rfl (Yi.loadW (i := 2) rfl rfl Tryd.isAgg46 Tryd.sizeOf46) ?_
      refine RW.nil ?_
      have ht := hA13_1100000
      rw [hA13] at ht
      refine AW.to rfl ?_ (fun _ hM => hM) ht
      exact fun _ hs => hs.sub ⟨rfl, rfl, rfl, rfl, rfl, rfl, rfl, trivial⟩
    · refine RW.yi (.agg (cf 64 (iv a1_b))) rfl rfl (Yi.loadW (i := 1) rfl rfl Tryd.isAgg23 Tryd.sizeOf23) ?_
      refine RW.nil ?_
      have ht := hA13_0110000
      rw [hA13] at ht
      refine AW.to rfl ?_ (fun _ hM => hM) ht
      exact fun _ hs => hs.sub ⟨rfl, rfl, rfl, rfl, rfl, rfl, rfl, trivial⟩
    · refine RW.alloc (z := .agg (cf 64 (iv zf))) (cf 64 (iv zf)) rfl rfl (fun _ => by kernel_rfl) rfl (fun b16 => ?_)
      refine RW.nil ?_
      have ht := hA13_0100010 b16
      rw [hA13] at ht
      refine AW.to rfl ?_ (fun _ hM => hM) ht
      exact fun _ hs => hs.sub ⟨rfl, rfl, rfl, rfl, rfl, rfl, rfl, trivial⟩
  have hA13_0010000 : A13 6 #[false, false, true, false, false, false, false] [(0, .agg (cf 64 (iv a0_m))), (1, .agg (cf 64 (iv a1_b))), (2, .pointer (some ⟨b1, 0, none⟩)), (3, .pointer (some ⟨b2, 0, none⟩)), (4, .pointer (some ⟨b3, 0, none⟩)), (10, .agg (cf 64 (iv a1_b)))] [.blk b3 23 (cf 64 (iv zf)), .blk b2 23 (cf 64 (iv a1_b)), .blk b1 46 (cf 64 (iv a0_m))] := by
    rw [hA13]
    refine AW.step 0 [1, 5] (by kernel_rfl) ⟨⟨_, rfl, ?_⟩, ⟨_, rfl, ?_⟩, ⟨_, rfl, ?_⟩, trivial⟩
    · refine RW.yi (.agg (cf 64 (iv a0_m))) rfl rfl (Yi.loadW (i := 2) rfl rfl Tryd.isAgg46 Tryd.sizeOf46) ?_
      refine RW.nil ?_
      have ht := hA13_1010000
      rw [hA13] at ht
      refine AW.to rfl ?_ (fun _ hM => hM) ht
      exact fun _ hs => hs.sub ⟨rfl, rfl, rfl, rfl, rfl, rfl, rfl, trivial⟩
    · refine RW.yi (.agg (cf 64 (iv a0_m))) rfl rfl (Yi.loadW (i := 2) rfl rfl Tryd.isAgg46 Tryd.sizeOf46) ?_
      refine RW.nil ?_
      have ht := hA13_0110000
      rw [hA13] at ht
      refine AW.to rfl ?_ (fun _ hM => hM) ht
      exact fun _ hs => hs.sub ⟨rfl, rfl, rfl, rfl, rfl, rfl, rfl, trivial⟩
    · refine RW.alloc (z := .agg (cf 64 (iv zf))) (cf 64 (iv zf)) rfl rfl (fun _ => by kernel_rfl) rfl (fun b17 => ?_)
      refine RW.nil ?_
      have ht := hA13_0010010 b17
      rw [hA13] at ht
      refine AW.to rfl ?_ (fun _ hM => hM) ht
      exact fun _ hs => hs.sub ⟨rfl, rfl, rfl, rfl, rfl, rfl, rfl, trivial⟩
  have hA13_0000010 : ∀ b14 : Nat, A13 6 #[false, false, false, false, false, true, false] [(0, .agg (cf 64 (iv a0_m))), (1, .agg (cf 64 (iv a1_b))), (2, .pointer (some ⟨b1, 0, none⟩)), (3, .pointer (some ⟨b2, 0, none⟩)), (4, .pointer (some ⟨b3, 0, none⟩)), (5, .pointer (some ⟨b14, 0, none⟩))] [.blk b14 23 (cf 64 (iv zf)), .blk b3 23 (cf 64 (iv zf)), .blk b2 23 (cf 64 (iv a1_b)), .blk b1 46 (cf 64 (iv a0_m))] := by
    intro b14
    rw [hA13]
    refine AW.step 0 [1, 2] (by kernel_rfl) ⟨⟨_, rfl, ?_⟩, ⟨_, rfl, ?_⟩, ⟨_, rfl, ?_⟩, trivial⟩
    · refine RW.yi (.agg (cf 64 (iv a0_m))) rfl rfl (Yi.loadW (i := 3) rfl rfl Tryd.isAgg46 Tryd.sizeOf46) ?_
      refine RW.nil ?_
      have ht := hA13_1000010 b14
      rw [hA13] at ht
      refine AW.to rfl ?_ (fun _ hM => hM) ht
      exact fun _ hs => hs.sub ⟨rfl, rfl, rfl, rfl, rfl, rfl, rfl, trivial⟩
    · refine RW.yi (.agg (cf 64 (iv a0_m))) rfl rfl (Yi.loadW (i := 3) rfl rfl Tryd.isAgg46 Tryd.sizeOf46) ?_
      refine RW.nil ?_
      have ht := hA13_0100010 b14
      rw [hA13] at ht
      refine AW.to rfl ?_ (fun _ hM => hM) ht
      exact fun _ hs => hs.sub ⟨rfl, rfl, rfl, rfl, rfl, rfl, rfl, trivial⟩
    · refine RW.yi (.agg (cf 64 (iv a1_b))) rfl rfl (Yi.loadW (i := 2) rfl rfl Tryd.isAgg23 Tryd.sizeOf23) ?_
      refine RW.nil ?_
      have ht := hA13_0010010 b14
      rw [hA13] at ht
      refine AW.to rfl ?_ (fun _ hM => hM) ht
      exact fun _ hs => hs.sub ⟨rfl, rfl, rfl, rfl, rfl, rfl, rfl, trivial⟩
  have hA13_0000000 : A13 7 #[false, false, false, false, false, false, false] [(0, .agg (cf 64 (iv a0_m))), (1, .agg (cf 64 (iv a1_b))), (2, .pointer (some ⟨b1, 0, none⟩)), (3, .pointer (some ⟨b2, 0, none⟩)), (4, .pointer (some ⟨b3, 0, none⟩))] [.blk b3 23 (cf 64 (iv zf)), .blk b2 23 (cf 64 (iv a1_b)), .blk b1 46 (cf 64 (iv a0_m))] := by
    rw [hA13]
    refine AW.step 0 [1, 2, 5] (by kernel_rfl) ⟨⟨_, rfl, ?_⟩, ⟨_, rfl, ?_⟩, ⟨_, rfl, ?_⟩, ⟨_, rfl, ?_⟩, trivial⟩
    · refine RW.yi (.agg (cf 64 (iv a0_m))) rfl rfl (Yi.loadW (i := 2) rfl rfl Tryd.isAgg46 Tryd.sizeOf46) ?_
      refine RW.nil ?_
      have ht := hA13_1000000
      rw [hA13] at ht
      refine AW.to rfl ?_ (fun _ hM => hM) ht
      exact fun _ hs => hs.sub ⟨rfl, rfl, rfl, rfl, rfl, rfl, trivial⟩
    · refine RW.yi (.agg (cf 64 (iv a0_m))) rfl rfl (Yi.loadW (i := 2) rfl rfl Tryd.isAgg46 Tryd.sizeOf46) ?_
      refine RW.nil ?_
      have ht := hA13_0100000
      rw [hA13] at ht
      refine AW.to rfl ?_ (fun _ hM => hM) ht
      exact fun _ hs => hs.sub ⟨rfl, rfl, rfl, rfl, rfl, rfl, trivial⟩
    · refine RW.yi (.agg (cf 64 (iv a1_b))) rfl rfl (Yi.loadW (i := 1) rfl rfl Tryd.isAgg23 Tryd.sizeOf23) ?_
      refine RW.nil ?_
      have ht := hA13_0010000
      rw [hA13] at ht
      refine AW.to rfl ?_ (fun _ hM => hM) ht
      exact fun _ hs => hs.sub ⟨rfl, rfl, rfl, rfl, rfl, rfl, trivial⟩
    · refine RW.alloc (z := .agg (cf 64 (iv zf))) (cf 64 (iv zf)) rfl rfl (fun _ => by kernel_rfl) rfl (fun b14 => ?_)
      refine RW.nil ?_
      have ht := hA13_0000010 b14
      rw [hA13] at ht
      refine AW.to rfl ?_ (fun _ hM => hM) ht
      exact fun _ hs => hs.sub ⟨rfl, rfl, rfl, rfl, rfl, rfl, trivial⟩
  rw [hA13] at hA13_0000000 ⊢
  exact fun a w hs hM => hA13_0000000 a w (hs.sub ⟨rfl, rfl, rfl, rfl, rfl, trivial⟩) hM
end Go.Proofs.YtfpafpmcfkapkaaDoor