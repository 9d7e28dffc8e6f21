import Derived.Test.YtfpafpmcfkapkaaDoorT3
import Derived.Test.YtfpafpmcfkapkaaDoorK5
set_option maxRecDepth 100000
namespace Go.Proofs.YtfpafpmcfkapkaaDoor
open Go Go.RowKit K
def rAll_j1 (_ : Nat)   (v7 : (Nat → Int)) : Option ((Nat → Int)) :=
  some v7

def rAll_j2 (_ : Nat) (cb_rAll_l1 : Int → (Nat → Int) → Option ((Nat → Int))) (v9 : Int) (v12 : (Nat → Int)) : Option ((Nat → Int)) :=
  cb_rAll_l1 (w64 (v9 + 1)) v12

def rAll_l2 (K : Nat) (cb_rAll_l1 : Int → (Nat → Int) → Option ((Nat → Int))) (a0_b : (Nat → Int)) (a1_back : Bool) (r4 : ((List Int))) (v9 : Int) : Nat → Int → (Nat → Int) →  Option ((Nat → Int))
  | 0, _, _ => none
  | k2 + 1, v14, v15 =>
    (if v14 < 8 then ((rSum K r4 a0_b v9 v14 a1_back).bind fun r17 => (if 0 ≤ (w64 ((w64 (8 * v9)) + v14)) ∧ (w64 ((w64 (8 * v9)) + v14)) < 64 then (rAll_l2 K cb_rAll_l1 a0_b a1_back r4 v9 k2) (w64 (v14 + 1)) (upd v15 ((w64 ((w64 (8 * v9)) + v14)).toNat) r17) else none)) else rAll_j2 K cb_rAll_l1 v9 v15)

def rAll_l1 (K : Nat) (a0_b : (Nat → Int)) (a1_back : Bool) (r4 : ((List Int))) : Nat → Int → (Nat → Int) →  Option ((Nat → Int))
  | 0, _, _ => none
  | k1 + 1, v9, v10 =>
    (if v9 < 8 then rAll_l2 K (rAll_l1 K a0_b a1_back r4 k1) a0_b a1_back r4 v9 K 0 v10 else rAll_j1 K v10)

def rAll (K : Nat) (a0_b : (Nat → Int)) (a1_back : Bool) : Option ((Nat → Int)) :=
  ((rWaves K ).bind fun r4 => rAll_l1 K a0_b a1_back r4 K 0 zf)

theorem c_rAll (K : Nat) (a0_b : (Nat → Int)) (a1_back : Bool) (r : (Nat → Int)) (w0 : World) (hm : rAll K a0_b a1_back = some r) : Calls Tryd.prog 32 #[.agg (cf 64 (iv a0_b)), .bool a1_back] w0 fun e w' => e = .returned (.agg (cf 64 (iv r))) ∧ Below w0.heap.size w0 w' := by
  unfold rAll at hm
  refine calls_CW (n := 31) w0 [] [] Tryd.func32 rfl rfl rfl (Mem.begin w0) ?_
  refine CW.seq ?_
  refine CW.region ?_
  refine RW.box (v := .agg (cf 64 (iv a0_b))) rfl rfl rfl (fun b1 => ?_)
  refine RW.alloc (z := .agg (cf 64 (iv zf))) (cf 64 (iv zf)) rfl rfl (fun _ => by kernel_rfl) rfl (fun b2 => ?_)
  refine RW.nil ?_
  refine EW.next ?_
  refine CW.seq ?_
  refine CW.region ?_
  refine RW.yi (.agg (cf 64 (iv zf))) rfl rfl (Yi.build (vs := []) _ rfl rfl (fun _ => by kernel_rfl)) ?_
  refine RW.alloc (z := .agg (cf 64 (iv zf))) (cf 64 (iv zf)) rfl rfl (fun _ => by kernel_rfl) rfl (fun b3 => ?_)
  refine RW.storeW (i := 0) (cs' := cf 64 (iv zf)) rfl rfl rfl rfl (by rw [cf_size]; kernel_rfl) (by simp only [cf_size]) (iv_one _ _) ?_
  refine RW.nil ?_
  refine EW.next ?_
  refine CW.seq ?_
  refine CW.region ?_
  obtain ⟨r4, hr4, hm⟩ := of_bind hm
  refine RW.caS (fun s5 => s5) (e := 3) (sz := 1) (m := r4.length) (cs := ic r4) rfl rfl rfl rfl Tryd.call17 (fun w _ => c_rWaves K  r4 w hr4) (fun s5 => ?_)
  refine RW.yi (s5) rfl rfl (Yi.pv _ rfl) ?_
  refine RW.nil ?_
  refine EW.next ?_
  refine CW.join (fun a w => ∃ (v7 : (Nat → Int)), St 31 [(4, .pointer (some ⟨b2, 0, none⟩)), (5, .pointer (some ⟨b3, 0, none⟩))] a ∧ Mem w0 [] [.blk b3 23 (cf 64 (iv v7)), .blk b2 23 (cf 64 (iv zf))] w ∧ rAll_j1 K v7 = some r) ?_ ?_
  · refine CW.seq ?_
    refine CW.region ?_
    refine RW.yi (.int .i64 0) rfl rfl (Yi.pv _ rfl) ?_
    refine RW.nil ?_
    refine EW.next ?_
    refine CW.block ?_
    refine CW.loop (fun k a w => ∃ (v9 : Int) (v10 : (Nat → Int)), St 31 [(1, .bool a1_back), (2, .pointer (some ⟨b1, 0, none⟩)), (4, .pointer (some ⟨b2, 0, none⟩)), (5, .pointer (some ⟨b3, 0, none⟩)), (6, s5), (7, .int .i64 v9)] a ∧ Mem w0 [] [.row s5 3 1 r4.length (ic r4), .blk b3 23 (cf 64 (iv v10)), .blk b2 23 (cf 64 (iv zf)), .blk b1 23 (cf 64 (iv a0_b))] w ∧ rAll_l1 K a0_b a1_back r4 k v9 v10 = some r) K ?_ ?_ ?_
    · rintro a w ⟨_, _, _, _, hm⟩
      rw [rAll_l1.eq_1] at hm
      cases hm
    · exact fun a w hs hM => ⟨0, zf, hs.sub ⟨rfl, rfl, rfl, rfl, rfl, rfl, trivial⟩, hM.sub (.cons_cons _ (.cons_cons _ (.cons_cons _ (.cons_cons _ .slnil)))), hm⟩
    · rintro k1 a w ⟨v9, v10, hs, hM, hm⟩
      rw [rAll_l1.eq_2] at hm
      refine CW.enter hs hM ?_
      refine CW.seq ?_
      refine CW.seq ?_
      refine CW.region ?_
      refine RW.yi (.int .i64 v9) rfl rfl (Yi.pv _ rfl) ?_
      refine RW.yi (.bool (decide (v9 < 8))) rfl rfl (Yi.pv _ rfl) ?_
      refine RW.nil ?_
      refine EW.next ?_
      refine CW.fork 12 (v9 < 8) rfl (fun h11 => ?_) (fun h11 => ?_)
      · replace hm := (if_pos h11).symm.trans hm
        refine CW.cond_true rfl ?_
        refine CW.skip ?_
        refine EW.next ?_
        refine CW.join (fun a w => ∃ (v12 : (Nat → Int)), St 31 [(1, .bool a1_back), (2, .pointer (some ⟨b1, 0, none⟩)), (4, .pointer (some ⟨b2, 0, none⟩)), (5, .pointer (some ⟨b3, 0, none⟩)), (6, s5), (7, .int .i64 v9)] a ∧ Mem w0 [] [.row s5 3 1 r4.length (ic r4), .blk b3 23 (cf 64 (iv v12)), .blk b2 23 (cf 64 (iv zf)), .blk b1 23 (cf 64 (iv a0_b))] w ∧ rAll_j2 K (rAll_l1 K a0_b a1_back r4 k1) v9 v12 = some r) ?_ ?_
        · refine CW.block ?_
          refine CW.seq ?_
          refine CW.region ?_
          refine RW.yi (.int .i64 0) rfl rfl (Yi.pv _ rfl) ?_
          refine RW.nil ?_
          refine EW.next ?_
          refine CW.block ?_
          refine CW.loop (fun k a w => ∃ (v14 : Int) (v15 : (Nat → Int)), St 31 [(1, .bool a1_back), (2, .pointer (some ⟨b1, 0, none⟩)), (4, .pointer (some ⟨b2, 0, none⟩)), (5, .pointer (some ⟨b3, 0, none⟩)), (6, s5), (7, .int .i64 v9), (8, .int .i64 v14)] a ∧ Mem w0 [] [.row s5 3 1 r4.length (ic r4), .blk b3 23 (cf 64 (iv v15)), .blk b2 23 (cf 64 (iv zf)), .blk b1 23 (cf 64 (iv a0_b))] w ∧ rAll_l2 K (rAll_l1 K a0_b a1_back r4 k1) a0_b a1_back r4 v9 k v14 v15 = some r) K ?_ ?_ ?_
          · rintro a w ⟨_, _, _, _, hm⟩
            rw [rAll_l2.eq_1] at hm
            cases hm
          · exact fun a w hs hM => ⟨0, v10, hs.sub ⟨rfl, rfl, rfl, rfl, rfl, rfl, rfl, trivial⟩, hM.sub (.cons_cons _ (.cons_cons _ (.cons_cons _ (.cons_cons _ .slnil)))), hm⟩
          · rintro k2 a w ⟨v14, v15, hs, hM, hm⟩
            rw [rAll_l2.eq_2] at hm
            refine CW.enter hs hM ?_
            refine CW.seq ?_
            refine CW.seq ?_
            refine CW.region ?_
            refine RW.yi (.int .i64 v14) rfl rfl (Yi.pv _ rfl) ?_
            refine RW.yi (.bool (decide (v14 < 8))) rfl rfl (Yi.pv _ rfl) ?_
            refine RW.nil ?_
            refine EW.next ?_
            refine CW.fork 16 (v14 < 8) rfl (fun h16 => ?_) (fun h16 => ?_)
            · replace hm := (if_pos h16).symm.trans hm
              refine CW.cond_true rfl ?_
              refine CW.skip ?_
              refine EW.next ?_
              refine CW.seq ?_
              refine CW.block ?_
              refine CW.region ?_
              refine RW.yi (.int .i64 v9) rfl rfl (Yi.pv _ rfl) ?_
              refine RW.yi (.int .i64 (w64 (8 * v9))) rfl rfl (Yi.pv _ rfl) ?_
              refine RW.yi (.int .i64 v14) rfl rfl (Yi.pv _ rfl) ?_
              refine RW.yi (.int .i64 (w64 ((w64 (8 * v9)) + v14))) rfl rfl (Yi.pv _ rfl) ?_
              refine RW.yi (s5) rfl rfl (Yi.pv _ rfl) ?_
              refine RW.yi (.agg (cf 64 (iv a0_b))) rfl rfl (Yi.loadW (i := 3) rfl rfl Tryd.isAgg23 Tryd.sizeOf23) ?_
              refine RW.yi (.int .i64 v9) rfl rfl (Yi.pv _ rfl) ?_
              refine RW.yi (.int .i64 v14) rfl rfl (Yi.pv _ rfl) ?_
              refine RW.yi (.bool a1_back) rfl rfl (Yi.pv _ rfl) ?_
              obtain ⟨r17, hr17, hm⟩ := of_bind hm
              refine RW.ca (.int .i64 r17) rfl rfl (Ca.call rfl rfl Tryd.call42 (fun w hM => c_rSum K r4 a0_b v9 v14 a1_back s5 r17 w (hM.rd (i := 0) rfl) hr17)) ?_
              obtain ⟨g18, hm⟩ := of_guard hm
              refine RW.yi (.pointer (some ⟨b3, (w64 ((w64 (8 * v9)) + v14)).toNat, none⟩)) rfl rfl (Yi.indexAddr' _ Tryd.underlying23 Tryd.sizeOf3 rfl rfl g18.1 g18.2 (by omega)) ?_
              refine RW.store1 (i := 1) (cs' := cf 64 (iv (upd v15 ((w64 ((w64 (8 * v9)) + v14)).toNat) r17))) rfl rfl rfl rfl Tryd.sizeOf3 rfl rfl (by rw [cf_size]; omega) (by rw [cf_set, iv_upd]) ?_
              refine RW.nil ?_
              refine EW.bln ?_
              refine EW.next ?_
              refine CW.region ?_
              refine RW.yi (.int .i64 v14) rfl rfl (Yi.pv _ rfl) ?_
              refine RW.yi (.int .i64 (w64 (v14 + 1))) rfl rfl (Yi.pv _ rfl) ?_
              refine RW.yi (.int .i64 (w64 (v14 + 1))) rfl rfl (Yi.pv _ rfl) ?_
              refine RW.nil ?_
              refine EW.thn ?_
              exact fun a w hs hM => ⟨(w64 (v14 + 1)), (upd v15 ((w64 ((w64 (8 * v9)) + v14)).toNat) r17), hs.sub ⟨rfl, rfl, rfl, rfl, rfl, rfl, rfl, trivial⟩, hM.sub (.cons_cons _ (.cons_cons _ (.cons_cons _ (.cons_cons _ .slnil)))), hm⟩
            · replace hm := (if_neg h16).symm.trans hm
              refine CW.cond_false rfl ?_
              refine CW.exit ?_
              refine EW.thx ?_
              refine EW.thx ?_
              refine EW.blx ?_
              refine EW.bln ?_
              refine EW.thn ?_
              exact fun a w hs hM => ⟨v15, hs.sub ⟨rfl, rfl, rfl, rfl, rfl, rfl, trivial⟩, hM.sub (.cons_cons _ (.cons_cons _ (.cons_cons _ (.cons_cons _ .slnil)))), hm⟩
        · rintro a w ⟨v12, hs, hM, hm⟩
          unfold rAll_j2 at hm
          refine CW.enter hs hM ?_
          refine CW.region ?_
          refine RW.yi (.int .i64 v9) rfl rfl (Yi.pv _ rfl) ?_
          refine RW.yi (.int .i64 (w64 (v9 + 1))) rfl rfl (Yi.pv _ rfl) ?_
          refine RW.yi (.int .i64 (w64 (v9 + 1))) rfl rfl (Yi.pv _ rfl) ?_
          refine RW.nil ?_
          refine EW.thn ?_
          exact fun a w hs hM => ⟨(w64 (v9 + 1)), v12, hs.sub ⟨rfl, rfl, rfl, rfl, rfl, rfl, trivial⟩, hM.sub (.cons_cons _ (.cons_cons _ (.cons_cons _ (.cons_cons _ .slnil)))), hm⟩
      · replace hm := (if_neg h11).symm.trans hm
        refine CW.cond_false rfl ?_
        refine CW.exit ?_
        refine EW.thx ?_
        refine EW.thx ?_
        refine EW.blx ?_
        refine EW.thn ?_
        exact fun a w hs hM => ⟨v10, hs.sub ⟨rfl, rfl, trivial⟩, hM.sub (.cons _ (.cons_cons _ (.cons_cons _ (.cons _ .slnil)))), hm⟩
  · rintro a w ⟨v7, hs, hM, hm⟩
    unfold rAll_j1 at hm
    refine CW.enter hs hM ?_
    refine CW.seq ?_
    refine CW.region ?_
    refine RW.yi (.agg (cf 64 (iv v7))) rfl rfl (Yi.loadW (i := 0) rfl rfl Tryd.isAgg23 Tryd.sizeOf23) ?_
    refine RW.storeW (i := 1) (cs' := cf 64 (iv v7)) rfl rfl rfl rfl (by rw [cf_size]; kernel_rfl) (by simp only [cf_size]) (iv_one _ _) ?_
    refine RW.nil ?_
    refine EW.next ?_
    refine CW.ret ?_
    obtain rfl := Option.some.inj hm
    exact EW.done (rs := [.cell 4 23]) rfl (.cellW (i := 1) rfl rfl Tryd.isAgg23 Tryd.sizeOf23 .nil) (fun _ hM => ⟨rfl, hM.below⟩)
def rFwd (K : Nat) (a0_b : (Nat → Int)) : Option ((Nat → Int) × Int) :=
  ((rIn K a0_b (-2048) 2047).bind fun r3 => (if r3 = true then ((rAll K a0_b false).bind fun r5 => some (r5, 0)) else some (zf, 2)))

theorem c_rFwd (K : Nat) (a0_b : (Nat → Int)) (r : (Nat → Int) × Int) (w0 : World) (hm : rFwd K a0_b = some r) : Calls Tryd.prog 16 #[.agg (cf 64 (iv a0_b))] w0 fun e w' => e = .returned (.tuple #[.agg (cf 64 (iv r.1)), .int .i64 r.2]) ∧ Below w0.heap.size w0 w' := by
  unfold rFwd at hm
  refine calls_CW (n := 10) w0 [] [] Tryd.func16 rfl rfl rfl (Mem.begin w0) ?_
  refine CW.seq ?_
  refine CW.region ?_
  refine RW.box (v := .agg (cf 64 (iv a0_b))) rfl rfl rfl (fun b1 => ?_)
  refine RW.alloc (z := .agg (cf 64 (iv zf))) (cf 64 (iv zf)) rfl rfl (fun _ => by kernel_rfl) rfl (fun b2 => ?_)
  refine RW.yi (.int .i64 0) rfl rfl (Yi.pv _ rfl) ?_
  refine RW.nil ?_
  refine EW.next ?_
  refine CW.seq ?_
  refine CW.seq ?_
  refine CW.region ?_
  refine RW.yi (.agg (cf 64 (iv a0_b))) rfl rfl (Yi.loadW (i := 1) rfl rfl Tryd.isAgg23 Tryd.sizeOf23) ?_
  obtain ⟨r3, hr3, hm⟩ := of_bind hm
  refine RW.ca (.bool r3) rfl rfl (Ca.call rfl rfl Tryd.call25 (fun w _ => c_rIn K a0_b (-2048) 2047 r3 w hr3)) ?_
  refine RW.forkB 5 (r3) rfl (fun h4 => ?_) (fun h4 => ?_)
  · replace hm := (if_pos h4).symm.trans hm
    refine RW.yi (.bool false) rfl rfl (Yi.pv _ rfl) ?_
    refine RW.nil ?_
    refine EW.next ?_
    refine CW.cond_false rfl ?_
    refine CW.skip ?_
    refine EW.next ?_
    refine CW.seq ?_
    refine CW.region ?_
    refine RW.yi (.agg (cf 64 (iv a0_b))) rfl rfl (Yi.loadW (i := 1) rfl rfl Tryd.isAgg23 Tryd.sizeOf23) ?_
    obtain ⟨r5, hr5, hm⟩ := of_bind hm
    refine RW.ca (.agg (cf 64 (iv r5))) rfl rfl (Ca.call rfl rfl Tryd.call32 (fun w _ => c_rAll K a0_b false r5 w hr5)) ?_
    refine RW.storeW (i := 0) (cs' := cf 64 (iv r5)) rfl rfl rfl rfl (by rw [cf_size]; kernel_rfl) (by simp only [cf_size]) (iv_one _ _) ?_
    refine RW.yi (.int .i64 0) rfl rfl (Yi.pv _ rfl) ?_
    refine RW.nil ?_
    refine EW.next ?_
    refine CW.ret ?_
    obtain rfl := Option.some.inj hm
    exact EW.done (rs := [.cell 2 23, .tmp 3]) rfl (.cellW (i := 0) rfl rfl Tryd.isAgg23 Tryd.sizeOf23 (.tmp (t := 3) (v := .int .i64 0) rfl .nil)) (fun _ hM => ⟨rfl, hM.below⟩)
  · replace hm := (if_neg h4).symm.trans hm
    refine RW.yi (.bool true) rfl rfl (Yi.pv _ rfl) ?_
    refine RW.nil ?_
    refine EW.next ?_
    refine CW.cond_true rfl ?_
    refine CW.seq ?_
    refine CW.region ?_
    refine RW.yi (.agg (cf 64 (iv zf))) rfl rfl (Yi.build (vs := []) _ rfl rfl (fun _ => by kernel_rfl)) ?_
    refine RW.storeW (i := 0) (cs' := cf 64 (iv zf)) rfl rfl rfl rfl (by rw [cf_size]; kernel_rfl) (by simp only [cf_size]) (iv_one _ _) ?_
    refine RW.yi (.int .i64 2) rfl rfl (Yi.pv _ rfl) ?_
    refine RW.nil ?_
    refine EW.next ?_
    refine CW.ret ?_
    refine EW.thr ?_
    obtain rfl := Option.some.inj hm
    exact EW.done (rs := [.cell 2 23, .tmp 3]) rfl (.cellW (i := 0) rfl rfl Tryd.isAgg23 Tryd.sizeOf23 (.tmp (t := 3) (v := .int .i64 2) rfl .nil)) (fun _ hM => ⟨rfl, hM.below⟩)
def rInv (K : Nat) (a0_b : (Nat → Int)) : Option ((Nat → Int) × Int) :=
  ((rIn K a0_b (-1048576) 1048576).bind fun r3 => (if r3 = true then ((rAll K a0_b true).bind fun r5 => some (r5, 0)) else some (zf, 2)))

theorem c_rInv (K : Nat) (a0_b : (Nat → Int)) (r : (Nat → Int) × Int) (w0 : World) (hm : rInv K a0_b = some r) : Calls Tryd.prog 27 #[.agg (cf 64 (iv a0_b))] w0 fun e w' => e = .returned (.tuple #[.agg (cf 64 (iv r.1)), .int .i64 r.2]) ∧ Below w0.heap.size w0 w' := by
  unfold rInv at hm
  refine calls_CW (n := 10) w0 [] [] Tryd.func27 rfl rfl rfl (Mem.begin w0) ?_
  refine CW.seq ?_
  refine CW.region ?_
  refine RW.box (v := .agg (cf 64 (iv a0_b))) rfl rfl rfl (fun b1 => ?_)
  refine RW.alloc (z := .agg (cf 64 (iv zf))) (cf 64 (iv zf)) rfl rfl (fun _ => by kernel_rfl) rfl (fun b2 => ?_)
  refine RW.yi (.int .i64 0) rfl rfl (Yi.pv _ rfl) ?_
  refine RW.nil ?_
  refine EW.next ?_
  refine CW.seq ?_
  refine CW.seq ?_
  refine CW.region ?_
  refine RW.yi (.agg (cf 64 (iv a0_b))) rfl rfl (Yi.loadW (i := 1) rfl rfl Tryd.isAgg23 Tryd.sizeOf23) ?_
  obtain ⟨r3, hr3, hm⟩ := of_bind hm
  refine RW.ca (.bool r3) rfl rfl (Ca.call rfl rfl Tryd.call25 (fun w _ => c_rIn K a0_b (-1048576) 1048576 r3 w hr3)) ?_
  refine RW.forkB 5 (r3) rfl (fun h4 => ?_) (fun h4 => ?_)
  · replace hm := (if_pos h4).symm.trans hm
    refine RW.yi (.bool false) rfl rfl (Yi.pv _ rfl) ?_
    refine RW.nil ?_
    refine EW.next ?_
    refine CW.cond_false rfl ?_
    refine CW.skip ?_
    refine EW.next ?_
    refine CW.seq ?_
    refine CW.region ?_
    refine RW.yi (.agg (cf 64 (iv a0_b))) rfl rfl (Yi.loadW (i := 1) rfl rfl Tryd.isAgg23 Tryd.sizeOf23) ?_
    obtain ⟨r5, hr5, hm⟩ := of_bind hm
    refine RW.ca (.agg (cf 64 (iv r5))) rfl rfl (Ca.call rfl rfl Tryd.call32 (fun w _ => c_rAll K a0_b true r5 w hr5)) ?_
    refine RW.storeW (i := 0) (cs' := cf 64 (iv r5)) rfl rfl rfl rfl (by rw [cf_size]; kernel_rfl) (by simp only [cf_size]) (iv_one _ _) ?_
    refine RW.yi (.int .i64 0) rfl rfl (Yi.pv _ rfl) ?_
    refine RW.nil ?_
    refine EW.next ?_
    refine CW.ret ?_
    obtain rfl := Option.some.inj hm
    exact EW.done (rs := [.cell 2 23, .tmp 3]) rfl (.cellW (i := 0) rfl rfl Tryd.isAgg23 Tryd.sizeOf23 (.tmp (t := 3) (v := .int .i64 0) rfl .nil)) (fun _ hM => ⟨rfl, hM.below⟩)
  · replace hm := (if_neg h4).symm.trans hm
    refine RW.yi (.bool true) rfl rfl (Yi.pv _ rfl) ?_
    refine RW.nil ?_
    refine EW.next ?_
    refine CW.cond_true rfl ?_
    refine CW.seq ?_
    refine CW.region ?_
    refine RW.yi (.agg (cf 64 (iv zf))) rfl rfl (Yi.build (vs := []) _ rfl rfl (fun _ => by kernel_rfl)) ?_
    refine RW.storeW (i := 0) (cs' := cf 64 (iv zf)) rfl rfl rfl rfl (by rw [cf_size]; kernel_rfl) (by simp only [cf_size]) (iv_one _ _) ?_
    refine RW.yi (.int .i64 2) rfl rfl (Yi.pv _ rfl) ?_
    refine RW.nil ?_
    refine EW.next ?_
    refine CW.ret ?_
    refine EW.thr ?_
    obtain rfl := Option.some.inj hm
    exact EW.done (rs := [.cell 2 23, .tmp 3]) rfl (.cellW (i := 0) rfl rfl Tryd.isAgg23 Tryd.sizeOf23 (.tmp (t := 3) (v := .int .i64 2) rfl .nil)) (fun _ hM => ⟨rfl, hM.below⟩)
end Go.Proofs.YtfpafpmcfkapkaaDoor