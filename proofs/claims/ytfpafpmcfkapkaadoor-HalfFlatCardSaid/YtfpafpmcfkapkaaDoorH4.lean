import Derived.Test.YtfpafpmcfkapkaaDoorH3
import Derived.Test.YtfpafpmcfkapkaaDoorK5
set_option maxRecDepth 100000
namespace Go.Proofs.YtfpafpmcfkapkaaDoor
open Go Go.RowKit K
def within_j1 (_ : Nat)    : Option (Bool) :=
  some true

def within_l1 (K : Nat) (a0_b : (Nat → Int)) (a1_low : Int) (a2_high : Int) : Nat → Int →  Option (Bool)
  | 0, _ => none
  | k1 + 1, v2 =>
    (if v2 < 64 then (if 0 ≤ v2 ∧ v2 < 64 then (if (a0_b v2.toNat) < a1_low then some false else (if a2_high < (a0_b v2.toNat) then some false else (within_l1 K a0_b a1_low a2_high k1) (w64 (v2 + 1)))) else none) else within_j1 K)

def within (K : Nat) (a0_b : (Nat → Int)) (a1_low : Int) (a2_high : Int) : Option (Bool) :=
  within_l1 K a0_b a1_low a2_high K 0

theorem c_within (K : Nat) (a0_b : (Nat → Int)) (a1_low : Int) (a2_high : Int) (r : Bool) (w0 : World) (hm : within K a0_b a1_low a2_high = some r) : Calls Tryd.prog 44 #[.agg (cf 64 (iv a0_b)), .int .i64 a1_low, .int .i64 a2_high] w0 fun e w' => e = .returned (.bool r) ∧ Below w0.heap.size w0 w' := by
  unfold within at hm
  refine calls_CW (n := 22) w0 [] [] Tryd.func44 rfl rfl rfl (Mem.begin w0) ?_
  refine CW.seq ?_
  refine CW.region ?_
  refine RW.box (v := .agg (cf 64 (iv a0_b))) rfl rfl rfl (fun b1 => ?_)
  refine RW.yi (.bool false) rfl rfl (Yi.pv _ rfl) ?_
  refine RW.nil ?_
  refine EW.next ?_
  refine CW.join (fun a w => St 22 [] a ∧ Mem w0 [] [] w ∧ within_j1 K = some r) ?_ ?_
  · refine CW.seq ?_
    refine CW.region ?_
    refine RW.yi (.agg (cf 64 (iv a0_b))) rfl rfl (Yi.loadW (i := 0) rfl rfl Tryd.isAgg23 Tryd.sizeOf23) ?_
    refine RW.yi (.int .i64 0) rfl rfl (Yi.pv _ rfl) ?_
    refine RW.nil ?_
    refine EW.next ?_
    refine CW.block ?_
    refine CW.loop (fun k a w => ∃ (v2 : Int), St 22 [(1, .int .i64 a1_low), (2, .int .i64 a2_high), (9, .agg (cf 64 (iv a0_b))), (10, .int .i64 v2)] a ∧ Mem w0 [] [] w ∧ within_l1 K a0_b a1_low a2_high k v2 = some r) K ?_ ?_ ?_
    · rintro a w ⟨_, _, _, hm⟩
      rw [within_l1.eq_1] at hm
      cases hm
    · exact fun a w hs hM => ⟨0, hs.sub ⟨rfl, rfl, rfl, rfl, trivial⟩, hM.sub (.cons _ .slnil), hm⟩
    · rintro k1 a w ⟨v2, hs, hM, hm⟩
      rw [within_l1.eq_2] at hm
      refine CW.enter hs hM ?_
      refine CW.seq ?_
      refine CW.region ?_
      refine RW.yi (.bool (decide (v2 < 64))) rfl rfl (Yi.pv _ rfl) ?_
      refine RW.nil ?_
      refine EW.next ?_
      refine CW.seq ?_
      refine CW.fork 11 (v2 < 64) rfl (fun h3 => ?_) (fun h3 => ?_)
      · replace hm := (if_pos h3).symm.trans hm
        refine CW.cond_true rfl ?_
        refine CW.skip ?_
        refine EW.next ?_
        refine CW.seq ?_
        refine CW.block ?_
        refine CW.seq ?_
        refine CW.region ?_
        obtain ⟨g4, hm⟩ := of_guard hm
        refine RW.yi (.int .i64 (a0_b v2.toNat)) rfl rfl (Yi.index _ Tryd.underlying23 Tryd.sizeOf3 Tryd.isAgg3 rfl rfl g4.1 g4.2 (cf_get (by omega))) ?_
        refine RW.yi (.int .i64 (a0_b v2.toNat)) rfl rfl (Yi.pv _ rfl) ?_
        refine RW.nil ?_
        refine EW.next ?_
        refine CW.seq ?_
        refine CW.region ?_
        refine RW.yi (.int .i64 (a0_b v2.toNat)) rfl rfl (Yi.pv _ rfl) ?_
        refine RW.yi (.int .i64 a1_low) rfl rfl (Yi.pv _ rfl) ?_
        refine RW.yi (.bool (decide ((a0_b v2.toNat) < a1_low))) rfl rfl (Yi.pv _ rfl) ?_
        refine RW.yi (.bool (decide ((a0_b v2.toNat) < a1_low))) rfl rfl (Yi.pv _ rfl) ?_
        refine RW.fork 16 ((a0_b v2.toNat) < a1_low) rfl (fun h5 => ?_) (fun h5 => ?_)
        · replace hm := (if_pos h5).symm.trans hm
          refine RW.pass rfl rfl ?_
          refine RW.pass rfl rfl ?_
          refine RW.pass rfl rfl ?_
          refine RW.yi (.bool true) rfl rfl (Yi.pv _ rfl) ?_
          refine RW.nil ?_
          refine EW.next ?_
          refine CW.cond_true rfl ?_
          refine CW.seq ?_
          refine CW.region ?_
          refine RW.yi (.bool false) rfl rfl (Yi.pv _ rfl) ?_
          refine RW.nil ?_
          refine EW.next ?_
          refine CW.ret ?_
          refine EW.blr ?_
          refine EW.thr ?_
          refine EW.thr ?_
          refine EW.blr ?_
          refine EW.thr ?_
          obtain rfl := Option.some.inj hm
          exact EW.done (rs := [.tmp 6]) rfl (.tmp (t := 6) (v := .bool false) rfl .nil) (fun _ hM => ⟨rfl, hM.below⟩)
        · replace hm := (if_neg h5).symm.trans hm
          refine RW.yi (.int .i64 (a0_b v2.toNat)) rfl rfl (Yi.pv _ rfl) ?_
          refine RW.yi (.int .i64 a2_high) rfl rfl (Yi.pv _ rfl) ?_
          refine RW.yi (.bool (decide (a2_high < (a0_b v2.toNat)))) rfl rfl (Yi.pv _ rfl) ?_
          refine RW.yi (.bool (decide (a2_high < (a0_b v2.toNat)))) rfl rfl (Yi.pv _ rfl) ?_
          refine RW.nil ?_
          refine EW.next ?_
          refine CW.fork 20 (a2_high < (a0_b v2.toNat)) rfl (fun h6 => ?_) (fun h6 => ?_)
          · replace hm := (if_pos h6).symm.trans hm
            refine CW.cond_true rfl ?_
            refine CW.seq ?_
            refine CW.region ?_
            refine RW.yi (.bool false) rfl rfl (Yi.pv _ rfl) ?_
            refine RW.nil ?_
            refine EW.next ?_
            refine CW.ret ?_
            refine EW.blr ?_
            refine EW.thr ?_
            refine EW.thr ?_
            refine EW.blr ?_
            refine EW.thr ?_
            obtain rfl := Option.some.inj hm
            exact EW.done (rs := [.tmp 6]) rfl (.tmp (t := 6) (v := .bool false) rfl .nil) (fun _ hM => ⟨rfl, hM.below⟩)
          · replace hm := (if_neg h6).symm.trans hm
            refine CW.cond_false rfl ?_
            refine CW.skip ?_
            refine EW.bln ?_
            refine EW.next ?_
            refine CW.region ?_
            refine RW.yi (.int .i64 (w64 (v2 + 1))) rfl rfl (Yi.pv _ rfl) ?_
            refine RW.yi (.int .i64 (w64 (v2 + 1))) rfl rfl (Yi.pv _ rfl) ?_
            refine RW.nil ?_
            refine EW.thn ?_
            exact fun a w hs hM => ⟨(w64 (v2 + 1)), hs.sub ⟨rfl, rfl, rfl, rfl, trivial⟩, hM.sub .slnil, hm⟩
      · replace hm := (if_neg h3).symm.trans hm
        refine CW.cond_false rfl ?_
        refine CW.exit ?_
        refine EW.thx ?_
        refine EW.thx ?_
        refine EW.blx ?_
        refine EW.thn ?_
        exact fun a w hs hM => ⟨hs.sub trivial, hM.sub .slnil, hm⟩
  · rintro a w ⟨hs, hM, hm⟩
    unfold within_j1 at hm
    refine CW.enter hs hM ?_
    refine CW.seq ?_
    refine CW.region ?_
    refine RW.yi (.bool true) rfl rfl (Yi.pv _ rfl) ?_
    refine RW.nil ?_
    refine EW.next ?_
    refine CW.ret ?_
    obtain rfl := Option.some.inj hm
    exact EW.done (rs := [.tmp 6]) rfl (.tmp (t := 6) (v := .bool true) rfl .nil) (fun _ hM => ⟨rfl, hM.below⟩)
def qRight (K : Nat) (a0_steps : (Nat → Int)) : Option (Bool) :=
  ((within K a0_steps 1 255).bind fun r2 => some r2)

theorem c_qRight (K : Nat) (a0_steps : (Nat → Int)) (r : Bool) (w0 : World) (hm : qRight K a0_steps = some r) : Calls Tryd.prog 43 #[.agg (cf 64 (iv a0_steps))] w0 fun e w' => e = .returned (.bool r) ∧ Below w0.heap.size w0 w' := by
  unfold qRight at hm
  refine calls_CW (n := 5) w0 [] [] Tryd.func43 rfl rfl rfl (Mem.begin w0) ?_
  refine CW.seq ?_
  refine CW.region ?_
  refine RW.box (v := .agg (cf 64 (iv a0_steps))) rfl rfl rfl (fun b1 => ?_)
  refine RW.yi (.bool false) rfl rfl (Yi.pv _ rfl) ?_
  refine RW.nil ?_
  refine EW.next ?_
  refine CW.seq ?_
  refine CW.region ?_
  refine RW.yi (.agg (cf 64 (iv a0_steps))) rfl rfl (Yi.loadW (i := 0) rfl rfl Tryd.isAgg23 Tryd.sizeOf23) ?_
  obtain ⟨r2, hr2, hm⟩ := of_bind hm
  refine RW.ca (.bool r2) rfl rfl (Ca.call rfl rfl Tryd.call44 (fun w _ => c_within K a0_steps 1 255 r2 w hr2)) ?_
  refine RW.yi (.bool r2) rfl rfl (Yi.pv _ rfl) ?_
  refine RW.nil ?_
  refine EW.next ?_
  refine CW.ret ?_
  obtain rfl := Option.some.inj hm
  exact EW.done (rs := [.tmp 2]) rfl (.tmp (t := 2) (v := .bool r2) rfl .nil) (fun _ hM => ⟨rfl, hM.below⟩)
def qDown_j1 (_ : Nat)   (v8 : (Nat → Int)) : Option ((Nat → Int) × Int) :=
  some (v8, 0)

def qDown_l1 (K : Nat) (a0_b : (Nat → Int)) (a1_steps : (Nat → Int)) : Nat → Int → (Nat → Int) →  Option ((Nat → Int) × Int)
  | 0, _, _ => none
  | k1 + 1, v10, v11 =>
    (if v10 < 64 then (if 0 ≤ v10 ∧ v10 < 64 then (qDown_l1 K a0_b a1_steps k1) (w64 (v10 + 1)) (upd v11 v10.toNat (imin (imax (rnd (a0_b v10.toNat) (a1_steps v10.toNat)) (-1023)) 1023)) else none) else qDown_j1 K v11)

def qDown (K : Nat) (a0_b : (Nat → Int)) (a1_steps : (Nat → Int)) : Option ((Nat → Int) × Int) :=
  ((qRight K a1_steps).bind fun r4 => (if r4 = true then ((within K a0_b (-16777216) 16777216).bind fun r6 => (if r6 = true then qDown_l1 K a0_b a1_steps K 0 a0_b else some (zf, 2))) else some (zf, 1)))

theorem c_qDown (K : Nat) (a0_b : (Nat → Int)) (a1_steps : (Nat → Int)) (r : (Nat → Int) × Int) (w0 : World) (hm : qDown K a0_b a1_steps = some r) : Calls Tryd.prog 38 #[.agg (cf 64 (iv a0_b)), .agg (cf 64 (iv a1_steps))] w0 fun e w' => e = .returned (.tuple #[.agg (cf 64 (iv r.1)), .int .i64 r.2]) ∧ Below w0.heap.size w0 w' := by
  unfold qDown at hm
  refine calls_CW (n := 32) w0 [] [] Tryd.func38 rfl rfl rfl (Mem.begin w0) ?_
  refine CW.seq ?_
  refine CW.region ?_
  refine RW.box (v := .agg (cf 64 (iv a0_b))) rfl rfl rfl (fun b1 => ?_)
  refine RW.box (v := .agg (cf 64 (iv a1_steps))) rfl rfl rfl (fun b2 => ?_)
  refine RW.alloc (z := .agg (cf 64 (iv zf))) (cf 64 (iv zf)) rfl rfl (fun _ => by kernel_rfl) rfl (fun b3 => ?_)
  refine RW.yi (.int .i64 0) rfl rfl (Yi.pv _ rfl) ?_
  refine RW.nil ?_
  refine EW.next ?_
  refine CW.seq ?_
  refine CW.seq ?_
  refine CW.region ?_
  refine RW.yi (.agg (cf 64 (iv a1_steps))) rfl rfl (Yi.loadW (i := 1) rfl rfl Tryd.isAgg23 Tryd.sizeOf23) ?_
  obtain ⟨r4, hr4, hm⟩ := of_bind hm
  refine RW.ca (.bool r4) rfl rfl (Ca.call rfl rfl Tryd.call43 (fun w _ => c_qRight K a1_steps r4 w hr4)) ?_
  refine RW.forkB 9 (r4) rfl (fun h5 => ?_) (fun h5 => ?_)
  · replace hm := (if_pos h5).symm.trans hm
    refine RW.yi (.bool false) rfl rfl (Yi.pv _ rfl) ?_
    refine RW.nil ?_
    refine EW.next ?_
    refine CW.cond_false rfl ?_
    refine CW.skip ?_
    refine EW.next ?_
    refine CW.seq ?_
    refine CW.seq ?_
    refine CW.region ?_
    refine RW.yi (.agg (cf 64 (iv a0_b))) rfl rfl (Yi.loadW (i := 2) rfl rfl Tryd.isAgg23 Tryd.sizeOf23) ?_
    obtain ⟨r6, hr6, hm⟩ := of_bind hm
    refine RW.ca (.bool r6) rfl rfl (Ca.call rfl rfl Tryd.call44 (fun w _ => c_within K a0_b (-16777216) 16777216 r6 w hr6)) ?_
    refine RW.forkB 13 (r6) rfl (fun h7 => ?_) (fun h7 => ?_)
    · replace hm := (if_pos h7).symm.trans hm
      refine RW.yi (.bool false) rfl rfl (Yi.pv _ rfl) ?_
      refine RW.nil ?_
      refine EW.next ?_
      refine CW.cond_false rfl ?_
      refine CW.skip ?_
      refine EW.next ?_
      refine CW.join (fun a w => ∃ (v8 : (Nat → Int)), St 32 [(2, .pointer (some ⟨b1, 0, none⟩)), (4, .pointer (some ⟨b3, 0, none⟩))] a ∧ Mem w0 [] [.blk b3 23 (cf 64 (iv zf)), .blk b1 23 (cf 64 (iv v8))] w ∧ qDown_j1 K v8 = some r) ?_ ?_
      · refine CW.seq ?_
        refine CW.region ?_
        refine RW.yi (.agg (cf 64 (iv a0_b))) rfl rfl (Yi.loadW (i := 2) rfl rfl Tryd.isAgg23 Tryd.sizeOf23) ?_
        refine RW.yi (.int .i64 0) rfl rfl (Yi.pv _ rfl) ?_
        refine RW.nil ?_
        refine EW.next ?_
        refine CW.block ?_
        refine CW.loop (fun k a w => ∃ (v10 : Int) (v11 : (Nat → Int)), St 32 [(2, .pointer (some ⟨b1, 0, none⟩)), (3, .pointer (some ⟨b2, 0, none⟩)), (4, .pointer (some ⟨b3, 0, none⟩)), (16, .agg (cf 64 (iv a0_b))), (17, .int .i64 v10)] a ∧ Mem w0 [] [.blk b3 23 (cf 64 (iv zf)), .blk b2 23 (cf 64 (iv a1_steps)), .blk b1 23 (cf 64 (iv v11))] w ∧ qDown_l1 K a0_b a1_steps k v10 v11 = some r) K ?_ ?_ ?_
        · rintro a w ⟨_, _, _, _, hm⟩
          rw [qDown_l1.eq_1] at hm
          cases hm
        · exact fun a w hs hM => ⟨0, a0_b, hs.sub ⟨rfl, rfl, rfl, rfl, rfl, trivial⟩, hM.sub (.cons_cons _ (.cons_cons _ (.cons_cons _ .slnil))), hm⟩
        · rintro k1 a w ⟨v10, v11, hs, hM, hm⟩
          rw [qDown_l1.eq_2] at hm
          refine CW.enter hs hM ?_
          refine CW.seq ?_
          refine CW.region ?_
          refine RW.yi (.bool (decide (v10 < 64))) rfl rfl (Yi.pv _ rfl) ?_
          refine RW.nil ?_
          refine EW.next ?_
          refine CW.seq ?_
          refine CW.fork 18 (v10 < 64) rfl (fun h12 => ?_) (fun h12 => ?_)
          · replace hm := (if_pos h12).symm.trans hm
            refine CW.cond_true rfl ?_
            refine CW.skip ?_
            refine EW.next ?_
            refine CW.seq ?_
            refine CW.block ?_
            refine CW.seq ?_
            refine CW.region ?_
            refine RW.yi (.int .i64 v10) rfl rfl (Yi.pv _ rfl) ?_
            obtain ⟨g13, hm⟩ := of_guard hm
            refine RW.yi (.int .i64 (a0_b v10.toNat)) rfl rfl (Yi.index _ Tryd.underlying23 Tryd.sizeOf3 Tryd.isAgg3 rfl rfl g13.1 g13.2 (cf_get (by omega))) ?_
            refine RW.yi (.int .i64 v10) rfl rfl (Yi.pv _ rfl) ?_
            refine RW.yi (.int .i64 (a0_b v10.toNat)) rfl rfl (Yi.pv _ rfl) ?_
            refine RW.nil ?_
            refine EW.next ?_
            refine CW.region ?_
            refine RW.yi (.int .i64 v10) rfl rfl (Yi.pv _ rfl) ?_
            refine RW.yi (.int .i64 (a0_b v10.toNat)) rfl rfl (Yi.pv _ rfl) ?_
            refine RW.yi (.int .i64 v10) rfl rfl (Yi.pv _ rfl) ?_
            refine RW.yi (.pointer (some ⟨b2, v10.toNat, none⟩)) rfl rfl (Yi.indexAddr' _ Tryd.underlying23 Tryd.sizeOf3 rfl rfl g13.1 g13.2 (by omega)) ?_
            refine RW.yi (.int .i64 (a1_steps v10.toNat)) rfl rfl (Yi.load1 (i := 1) _ rfl rfl Tryd.isAgg3 (cf_get (by omega))) ?_
            refine RW.ca (.int .i64 (rnd (a0_b v10.toNat) (a1_steps v10.toNat))) rfl rfl (Ca.call rfl rfl Tryd.call34 (fun w _ => c_Round (a0_b v10.toNat) (a1_steps v10.toNat) w)) ?_
            refine RW.yi (.int .i64 (imax (rnd (a0_b v10.toNat) (a1_steps v10.toNat)) (-1023))) rfl rfl (Yi.max rfl rfl) ?_
            refine RW.yi (.int .i64 (imin (imax (rnd (a0_b v10.toNat) (a1_steps v10.toNat)) (-1023)) 1023)) rfl rfl (Yi.min rfl rfl) ?_
            refine RW.yi (.pointer (some ⟨b1, v10.toNat, none⟩)) rfl rfl (Yi.indexAddr' _ Tryd.underlying23 Tryd.sizeOf3 rfl rfl g13.1 g13.2 (by omega)) ?_
            refine RW.store1 (i := 2) (cs' := cf 64 (iv (upd v11 v10.toNat (imin (imax (rnd (a0_b v10.toNat) (a1_steps v10.toNat)) (-1023)) 1023)))) rfl rfl rfl rfl Tryd.sizeOf3 rfl rfl (by rw [cf_size]; omega) (by rw [cf_set, iv_upd]) ?_
            refine RW.nil ?_
            refine EW.bln ?_
            refine EW.next ?_
            refine CW.region ?_
            refine RW.yi (.int .i64 (w64 (v10 + 1))) rfl rfl (Yi.pv _ rfl) ?_
            refine RW.yi (.int .i64 (w64 (v10 + 1))) rfl rfl (Yi.pv _ rfl) ?_
            refine RW.nil ?_
            refine EW.thn ?_
            exact fun a w hs hM => ⟨(w64 (v10 + 1)), (upd v11 v10.toNat (imin (imax (rnd (a0_b v10.toNat) (a1_steps v10.toNat)) (-1023)) 1023)), hs.sub ⟨rfl, rfl, rfl, rfl, rfl, trivial⟩, hM.sub (.cons_cons _ (.cons_cons _ (.cons_cons _ .slnil))), hm⟩
          · replace hm := (if_neg h12).symm.trans hm
            refine CW.cond_false rfl ?_
            refine CW.exit ?_
            refine EW.thx ?_
            refine EW.thx ?_
            refine EW.blx ?_
            refine EW.thn ?_
            exact fun a w hs hM => ⟨v11, hs.sub ⟨rfl, rfl, trivial⟩, hM.sub (.cons_cons _ (.cons _ (.cons_cons _ .slnil))), hm⟩
      · rintro a w ⟨v8, hs, hM, hm⟩
        unfold qDown_j1 at hm
        refine CW.enter hs hM ?_
        refine CW.seq ?_
        refine CW.region ?_
        refine RW.yi (.agg (cf 64 (iv v8))) rfl rfl (Yi.loadW (i := 1) rfl rfl Tryd.isAgg23 Tryd.sizeOf23) ?_
        refine RW.storeW (i := 0) (cs' := cf 64 (iv v8)) rfl rfl rfl rfl (by rw [cf_size]; kernel_rfl) (by simp only [cf_size]) (iv_one _ _) ?_
        refine RW.yi (.int .i64 0) rfl rfl (Yi.pv _ rfl) ?_
        refine RW.nil ?_
        refine EW.next ?_
        refine CW.ret ?_
        obtain rfl := Option.some.inj hm
        exact EW.done (rs := [.cell 4 23, .tmp 5]) rfl (.cellW (i := 0) rfl rfl Tryd.isAgg23 Tryd.sizeOf23 (.tmp (t := 5) (v := .int .i64 0) rfl .nil)) (fun _ hM => ⟨rfl, hM.below⟩)
    · replace hm := (if_neg h7).symm.trans hm
      refine RW.yi (.bool true) rfl rfl (Yi.pv _ rfl) ?_
      refine RW.nil ?_
      refine EW.next ?_
      refine CW.cond_true rfl ?_
      refine CW.seq ?_
      refine CW.region ?_
      refine RW.yi (.agg (cf 64 (iv zf))) rfl rfl (Yi.build (vs := []) _ rfl rfl (fun _ => by kernel_rfl)) ?_
      refine RW.storeW (i := 0) (cs' := cf 64 (iv zf)) rfl rfl rfl rfl (by rw [cf_size]; kernel_rfl) (by simp only [cf_size]) (iv_one _ _) ?_
      refine RW.yi (.int .i64 2) rfl rfl (Yi.pv _ rfl) ?_
      refine RW.nil ?_
      refine EW.next ?_
      refine CW.ret ?_
      refine EW.thr ?_
      obtain rfl := Option.some.inj hm
      exact EW.done (rs := [.cell 4 23, .tmp 5]) rfl (.cellW (i := 0) rfl rfl Tryd.isAgg23 Tryd.sizeOf23 (.tmp (t := 5) (v := .int .i64 2) rfl .nil)) (fun _ hM => ⟨rfl, hM.below⟩)
  · replace hm := (if_neg h5).symm.trans hm
    refine RW.yi (.bool true) rfl rfl (Yi.pv _ rfl) ?_
    refine RW.nil ?_
    refine EW.next ?_
    refine CW.cond_true rfl ?_
    refine CW.seq ?_
    refine CW.region ?_
    refine RW.yi (.agg (cf 64 (iv zf))) rfl rfl (Yi.build (vs := []) _ rfl rfl (fun _ => by kernel_rfl)) ?_
    refine RW.storeW (i := 0) (cs' := cf 64 (iv zf)) rfl rfl rfl rfl (by rw [cf_size]; kernel_rfl) (by simp only [cf_size]) (iv_one _ _) ?_
    refine RW.yi (.int .i64 1) rfl rfl (Yi.pv _ rfl) ?_
    refine RW.nil ?_
    refine EW.next ?_
    refine CW.ret ?_
    refine EW.thr ?_
    obtain rfl := Option.some.inj hm
    exact EW.done (rs := [.cell 4 23, .tmp 5]) rfl (.cellW (i := 0) rfl rfl Tryd.isAgg23 Tryd.sizeOf23 (.tmp (t := 5) (v := .int .i64 1) rfl .nil)) (fun _ hM => ⟨rfl, hM.below⟩)
def qUp_j1 (_ : Nat)   (v8 : (Nat → Int)) : Option ((Nat → Int) × Int) :=
  some (v8, 0)

def qUp_l1 (K : Nat) (a1_steps : (Nat → Int)) : Nat → Int → (Nat → Int) →  Option ((Nat → Int) × Int)
  | 0, _, _ => none
  | k1 + 1, v10, v11 =>
    (if v10 < 64 then (if 0 ≤ v10 ∧ v10 < 64 then (qUp_l1 K a1_steps k1) (w64 (v10 + 1)) (upd v11 v10.toNat (w64 ((v11 v10.toNat) * (a1_steps v10.toNat)))) else none) else qUp_j1 K v11)

def qUp (K : Nat) (a0_b : (Nat → Int)) (a1_steps : (Nat → Int)) : Option ((Nat → Int) × Int) :=
  ((qRight K a1_steps).bind fun r4 => (if r4 = true then ((within K a0_b (-1023) 1023).bind fun r6 => (if r6 = true then qUp_l1 K a1_steps K 0 a0_b else some (zf, 2))) else some (zf, 1)))

theorem c_qUp (K : Nat) (a0_b : (Nat → Int)) (a1_steps : (Nat → Int)) (r : (Nat → Int) × Int) (w0 : World) (hm : qUp K a0_b a1_steps = some r) : Calls Tryd.prog 37 #[.agg (cf 64 (iv a0_b)), .agg (cf 64 (iv a1_steps))] w0 fun e w' => e = .returned (.tuple #[.agg (cf 64 (iv r.1)), .int .i64 r.2]) ∧ Below w0.heap.size w0 w' := by
  unfold qUp at hm
  refine calls_CW (n := 29) w0 [] [] Tryd.func37 rfl rfl rfl (Mem.begin w0) ?_
  refine CW.seq ?_
  refine CW.region ?_
  refine RW.box (v := .agg (cf 64 (iv a0_b))) rfl rfl rfl (fun b1 => ?_)
  refine RW.box (v := .agg (cf 64 (iv a1_steps))) rfl rfl rfl (fun b2 => ?_)
  refine RW.alloc (z := .agg (cf 64 (iv zf))) (cf 64 (iv zf)) rfl rfl (fun _ => by kernel_rfl) rfl (fun b3 => ?_)
  refine RW.yi (.int .i64 0) rfl rfl (Yi.pv _ rfl) ?_
  refine RW.nil ?_
  refine EW.next ?_
  refine CW.seq ?_
  refine CW.seq ?_
  refine CW.region ?_
  refine RW.yi (.agg (cf 64 (iv a1_steps))) rfl rfl (Yi.loadW (i := 1) rfl rfl Tryd.isAgg23 Tryd.sizeOf23) ?_
  obtain ⟨r4, hr4, hm⟩ := of_bind hm
  refine RW.ca (.bool r4) rfl rfl (Ca.call rfl rfl Tryd.call43 (fun w _ => c_qRight K a1_steps r4 w hr4)) ?_
  refine RW.forkB 9 (r4) rfl (fun h5 => ?_) (fun h5 => ?_)
  · replace hm := (if_pos h5).symm.trans hm
    refine RW.yi (.bool false) rfl rfl (Yi.pv _ rfl) ?_
    refine RW.nil ?_
    refine EW.next ?_
    refine CW.cond_false rfl ?_
    refine CW.skip ?_
    refine EW.next ?_
    refine CW.seq ?_
    refine CW.seq ?_
    refine CW.region ?_
    refine RW.yi (.agg (cf 64 (iv a0_b))) rfl rfl (Yi.loadW (i := 2) rfl rfl Tryd.isAgg23 Tryd.sizeOf23) ?_
    obtain ⟨r6, hr6, hm⟩ := of_bind hm
    refine RW.ca (.bool r6) rfl rfl (Ca.call rfl rfl Tryd.call44 (fun w _ => c_within K a0_b (-1023) 1023 r6 w hr6)) ?_
    refine RW.forkB 13 (r6) rfl (fun h7 => ?_) (fun h7 => ?_)
    · replace hm := (if_pos h7).symm.trans hm
      refine RW.yi (.bool false) rfl rfl (Yi.pv _ rfl) ?_
      refine RW.nil ?_
      refine EW.next ?_
      refine CW.cond_false rfl ?_
      refine CW.skip ?_
      refine EW.next ?_
      refine CW.join (fun a w => ∃ (v8 : (Nat → Int)), St 29 [(2, .pointer (some ⟨b1, 0, none⟩)), (4, .pointer (some ⟨b3, 0, none⟩))] a ∧ Mem w0 [] [.blk b3 23 (cf 64 (iv zf)), .blk b1 23 (cf 64 (iv v8))] w ∧ qUp_j1 K v8 = some r) ?_ ?_
      · refine CW.seq ?_
        refine CW.region ?_
        refine RW.yi (.agg (cf 64 (iv a1_steps))) rfl rfl (Yi.loadW (i := 1) rfl rfl Tryd.isAgg23 Tryd.sizeOf23) ?_
        refine RW.yi (.int .i64 0) rfl rfl (Yi.pv _ rfl) ?_
        refine RW.nil ?_
        refine EW.next ?_
        refine CW.block ?_
        refine CW.loop (fun k a w => ∃ (v10 : Int) (v11 : (Nat → Int)), St 29 [(2, .pointer (some ⟨b1, 0, none⟩)), (4, .pointer (some ⟨b3, 0, none⟩)), (16, .agg (cf 64 (iv a1_steps))), (17, .int .i64 v10)] a ∧ Mem w0 [] [.blk b3 23 (cf 64 (iv zf)), .blk b1 23 (cf 64 (iv v11))] w ∧ qUp_l1 K a1_steps k v10 v11 = some r) K ?_ ?_ ?_
        · rintro a w ⟨_, _, _, _, hm⟩
          rw [qUp_l1.eq_1] at hm
          cases hm
        · exact fun a w hs hM => ⟨0, a0_b, hs.sub ⟨rfl, rfl, rfl, rfl, trivial⟩, hM.sub (.cons_cons _ (.cons _ (.cons_cons _ .slnil))), hm⟩
        · rintro k1 a w ⟨v10, v11, hs, hM, hm⟩
          rw [qUp_l1.eq_2] at hm
          refine CW.enter hs hM ?_
          refine CW.seq ?_
          refine CW.region ?_
          refine RW.yi (.bool (decide (v10 < 64))) rfl rfl (Yi.pv _ rfl) ?_
          refine RW.nil ?_
          refine EW.next ?_
          refine CW.seq ?_
          refine CW.fork 18 (v10 < 64) rfl (fun h12 => ?_) (fun h12 => ?_)
          · replace hm := (if_pos h12).symm.trans hm
            refine CW.cond_true rfl ?_
            refine CW.skip ?_
            refine EW.next ?_
            refine CW.seq ?_
            refine CW.block ?_
            refine CW.seq ?_
            refine CW.region ?_
            refine RW.yi (.int .i64 v10) rfl rfl (Yi.pv _ rfl) ?_
            obtain ⟨g13, hm⟩ := of_guard hm
            refine RW.yi (.int .i64 (a1_steps v10.toNat)) rfl rfl (Yi.index _ Tryd.underlying23 Tryd.sizeOf3 Tryd.isAgg3 rfl rfl g13.1 g13.2 (cf_get (by omega))) ?_
            refine RW.yi (.int .i64 v10) rfl rfl (Yi.pv _ rfl) ?_
            refine RW.yi (.int .i64 (a1_steps v10.toNat)) rfl rfl (Yi.pv _ rfl) ?_
            refine RW.nil ?_
            refine EW.next ?_
            refine CW.region ?_
            refine RW.yi (.int .i64 v10) rfl rfl (Yi.pv _ rfl) ?_
            refine RW.yi (.pointer (some ⟨b1, v10.toNat, none⟩)) rfl rfl (Yi.indexAddr' _ Tryd.underlying23 Tryd.sizeOf3 rfl rfl g13.1 g13.2 (by omega)) ?_
            refine RW.yi (.int .i64 (v11 v10.toNat)) rfl rfl (Yi.load1 (i := 1) _ rfl rfl Tryd.isAgg3 (cf_get (by omega))) ?_
            refine RW.yi (.int .i64 (a1_steps v10.toNat)) rfl rfl (Yi.pv _ rfl) ?_
            refine RW.yi (.int .i64 (w64 ((v11 v10.toNat) * (a1_steps v10.toNat)))) rfl rfl (Yi.pv _ rfl) ?_
            refine RW.yi (.pointer (some ⟨b1, v10.toNat, none⟩)) rfl rfl (Yi.indexAddr' _ Tryd.underlying23 Tryd.sizeOf3 rfl rfl g13.1 g13.2 (by omega)) ?_
            refine RW.store1 (i := 1) (cs' := cf 64 (iv (upd v11 v10.toNat (w64 ((v11 v10.toNat) * (a1_steps v10.toNat)))))) rfl rfl rfl rfl Tryd.sizeOf3 rfl rfl (by rw [cf_size]; omega) (by rw [cf_set, iv_upd]) ?_
            refine RW.nil ?_
            refine EW.bln ?_
            refine EW.next ?_
            refine CW.region ?_
            refine RW.yi (.int .i64 (w64 (v10 + 1))) rfl rfl (Yi.pv _ rfl) ?_
            refine RW.yi (.int .i64 (w64 (v10 + 1))) rfl rfl (Yi.pv _ rfl) ?_
            refine RW.nil ?_
            refine EW.thn ?_
            exact fun a w hs hM => ⟨(w64 (v10 + 1)), (upd v11 v10.toNat (w64 ((v11 v10.toNat) * (a1_steps v10.toNat)))), hs.sub ⟨rfl, rfl, rfl, rfl, trivial⟩, hM.sub (.cons_cons _ (.cons_cons _ .slnil)), hm⟩
          · replace hm := (if_neg h12).symm.trans hm
            refine CW.cond_false rfl ?_
            refine CW.exit ?_
            refine EW.thx ?_
            refine EW.thx ?_
            refine EW.blx ?_
            refine EW.thn ?_
            exact fun a w hs hM => ⟨v11, hs.sub ⟨rfl, rfl, trivial⟩, hM.sub (.cons_cons _ (.cons_cons _ .slnil)), hm⟩
      · rintro a w ⟨v8, hs, hM, hm⟩
        unfold qUp_j1 at hm
        refine CW.enter hs hM ?_
        refine CW.seq ?_
        refine CW.region ?_
        refine RW.yi (.agg (cf 64 (iv v8))) rfl rfl (Yi.loadW (i := 1) rfl rfl Tryd.isAgg23 Tryd.sizeOf23) ?_
        refine RW.storeW (i := 0) (cs' := cf 64 (iv v8)) rfl rfl rfl rfl (by rw [cf_size]; kernel_rfl) (by simp only [cf_size]) (iv_one _ _) ?_
        refine RW.yi (.int .i64 0) rfl rfl (Yi.pv _ rfl) ?_
        refine RW.nil ?_
        refine EW.next ?_
        refine CW.ret ?_
        obtain rfl := Option.some.inj hm
        exact EW.done (rs := [.cell 4 23, .tmp 5]) rfl (.cellW (i := 0) rfl rfl Tryd.isAgg23 Tryd.sizeOf23 (.tmp (t := 5) (v := .int .i64 0) rfl .nil)) (fun _ hM => ⟨rfl, hM.below⟩)
    · replace hm := (if_neg h7).symm.trans hm
      refine RW.yi (.bool true) rfl rfl (Yi.pv _ rfl) ?_
      refine RW.nil ?_
      refine EW.next ?_
      refine CW.cond_true rfl ?_
      refine CW.seq ?_
      refine CW.region ?_
      refine RW.yi (.agg (cf 64 (iv zf))) rfl rfl (Yi.build (vs := []) _ rfl rfl (fun _ => by kernel_rfl)) ?_
      refine RW.storeW (i := 0) (cs' := cf 64 (iv zf)) rfl rfl rfl rfl (by rw [cf_size]; kernel_rfl) (by simp only [cf_size]) (iv_one _ _) ?_
      refine RW.yi (.int .i64 2) rfl rfl (Yi.pv _ rfl) ?_
      refine RW.nil ?_
      refine EW.next ?_
      refine CW.ret ?_
      refine EW.thr ?_
      obtain rfl := Option.some.inj hm
      exact EW.done (rs := [.cell 4 23, .tmp 5]) rfl (.cellW (i := 0) rfl rfl Tryd.isAgg23 Tryd.sizeOf23 (.tmp (t := 5) (v := .int .i64 2) rfl .nil)) (fun _ hM => ⟨rfl, hM.below⟩)
  · replace hm := (if_neg h5).symm.trans hm
    refine RW.yi (.bool true) rfl rfl (Yi.pv _ rfl) ?_
    refine RW.nil ?_
    refine EW.next ?_
    refine CW.cond_true rfl ?_
    refine CW.seq ?_
    refine CW.region ?_
    refine RW.yi (.agg (cf 64 (iv zf))) rfl rfl (Yi.build (vs := []) _ rfl rfl (fun _ => by kernel_rfl)) ?_
    refine RW.storeW (i := 0) (cs' := cf 64 (iv zf)) rfl rfl rfl rfl (by rw [cf_size]; kernel_rfl) (by simp only [cf_size]) (iv_one _ _) ?_
    refine RW.yi (.int .i64 1) rfl rfl (Yi.pv _ rfl) ?_
    refine RW.nil ?_
    refine EW.next ?_
    refine CW.ret ?_
    refine EW.thr ?_
    obtain rfl := Option.some.inj hm
    exact EW.done (rs := [.cell 4 23, .tmp 5]) rfl (.cellW (i := 0) rfl rfl Tryd.isAgg23 Tryd.sizeOf23 (.tmp (t := 5) (v := .int .i64 1) rfl .nil)) (fun _ hM => ⟨rfl, hM.below⟩)
def rDown_j1 (_ : Nat)   (v9 : (Nat → Int)) : Option ((Nat → Int) × Int) :=
  some (v9, 0)

def rDown_j3 (_ : Nat) (cb_rDown_l1 : Int → (Nat → Int) → Option ((Nat → Int) × Int)) (v12 : (Nat → Int)) (v11 : Int) (v16 : Int) : Option ((Nat → Int) × Int) :=
  cb_rDown_l1 (w64 (v11 + 1)) (upd v12 v11.toNat v16)

def rDown_j2 (K : Nat) (cb_rDown_l1 : Int → (Nat → Int) → Option ((Nat → Int) × Int)) (v12 : (Nat → Int)) (v11 : Int) (v15 : Int) : Option ((Nat → Int) × Int) :=
  (if v15 < (-1023) then rDown_j3 K cb_rDown_l1 v12 v11 (-1023) else rDown_j3 K cb_rDown_l1 v12 v11 v15)

def rDown_l1 (K : Nat) (a0_b : (Nat → Int)) (a1_steps : (Nat → Int)) : Nat → Int → (Nat → Int) →  Option ((Nat → Int) × Int)
  | 0, _, _ => none
  | k1 + 1, v11, v12 =>
    (if v11 < 64 then (if 0 ≤ v11 ∧ v11 < 64 then (if 1023 < (rnd (a0_b v11.toNat) (a1_steps v11.toNat)) then rDown_j2 K (rDown_l1 K a0_b a1_steps k1) v12 v11 1023 else rDown_j2 K (rDown_l1 K a0_b a1_steps k1) v12 v11 (rnd (a0_b v11.toNat) (a1_steps v11.toNat))) else none) else rDown_j1 K v12)

def rDown (K : Nat) (a0_b : (Nat → Int)) (a1_steps : (Nat → Int)) : Option ((Nat → Int) × Int) :=
  ((rIn K a1_steps 1 255).bind fun r5 => (if r5 = true then ((rIn K a0_b (-16777216) 16777216).bind fun r7 => (if r7 = true then rDown_l1 K a0_b a1_steps K 0 zf else some (zf, 2))) else some (zf, 1)))

theorem c_rDown (K : Nat) (a0_b : (Nat → Int)) (a1_steps : (Nat → Int)) (r : (Nat → Int) × Int) (w0 : World) (hm : rDown K a0_b a1_steps = some r) : Calls Tryd.prog 40 #[.agg (cf 64 (iv a0_b)), .agg (cf 64 (iv a1_steps))] w0 fun e w' => e = .returned (.tuple #[.agg (cf 64 (iv r.1)), .int .i64 r.2]) ∧ Below w0.heap.size w0 w' := by
  unfold rDown at hm
  refine calls_CW (n := 37) w0 [] [] Tryd.func40 rfl rfl rfl (Mem.begin w0) ?_
  refine CW.seq ?_
  refine CW.region ?_
  refine RW.box (v := .agg (cf 64 (iv a0_b))) rfl rfl rfl (fun b1 => ?_)
  refine RW.box (v := .agg (cf 64 (iv a1_steps))) rfl rfl rfl (fun b2 => ?_)
  refine RW.alloc (z := .agg (cf 64 (iv zf))) (cf 64 (iv zf)) rfl rfl (fun _ => by kernel_rfl) rfl (fun b3 => ?_)
  refine RW.yi (.int .i64 0) rfl rfl (Yi.pv _ rfl) ?_
  refine RW.nil ?_
  refine EW.next ?_
  refine CW.seq ?_
  refine CW.region ?_
  refine RW.yi (.agg (cf 64 (iv zf))) rfl rfl (Yi.build (vs := []) _ rfl rfl (fun _ => by kernel_rfl)) ?_
  refine RW.alloc (z := .agg (cf 64 (iv zf))) (cf 64 (iv zf)) rfl rfl (fun _ => by kernel_rfl) rfl (fun b4 => ?_)
  refine RW.storeW (i := 0) (cs' := cf 64 (iv zf)) rfl rfl rfl rfl (by rw [cf_size]; kernel_rfl) (by simp only [cf_size]) (iv_one _ _) ?_
  refine RW.nil ?_
  refine EW.next ?_
  refine CW.seq ?_
  refine CW.seq ?_
  refine CW.region ?_
  refine RW.yi (.agg (cf 64 (iv a1_steps))) rfl rfl (Yi.loadW (i := 2) rfl rfl Tryd.isAgg23 Tryd.sizeOf23) ?_
  obtain ⟨r5, hr5, hm⟩ := of_bind hm
  refine RW.ca (.bool r5) rfl rfl (Ca.call rfl rfl Tryd.call25 (fun w _ => c_rIn K a1_steps 1 255 r5 w hr5)) ?_
  refine RW.forkB 11 (r5) rfl (fun h6 => ?_) (fun h6 => ?_)
  · replace hm := (if_pos h6).symm.trans hm
    refine RW.yi (.bool false) rfl rfl (Yi.pv _ rfl) ?_
    refine RW.nil ?_
    refine EW.next ?_
    refine CW.cond_false rfl ?_
    refine CW.skip ?_
    refine EW.next ?_
    refine CW.seq ?_
    refine CW.seq ?_
    refine CW.region ?_
    refine RW.yi (.agg (cf 64 (iv a0_b))) rfl rfl (Yi.loadW (i := 3) rfl rfl Tryd.isAgg23 Tryd.sizeOf23) ?_
    obtain ⟨r7, hr7, hm⟩ := of_bind hm
    refine RW.ca (.bool r7) rfl rfl (Ca.call rfl rfl Tryd.call25 (fun w _ => c_rIn K a0_b (-16777216) 16777216 r7 w hr7)) ?_
    refine RW.forkB 15 (r7) rfl (fun h8 => ?_) (fun h8 => ?_)
    · replace hm := (if_pos h8).symm.trans hm
      refine RW.yi (.bool false) rfl rfl (Yi.pv _ rfl) ?_
      refine RW.nil ?_
      refine EW.next ?_
      refine CW.cond_false rfl ?_
      refine CW.skip ?_
      refine EW.next ?_
      refine CW.join (fun a w => ∃ (v9 : (Nat → Int)), St 37 [(4, .pointer (some ⟨b3, 0, none⟩)), (6, .pointer (some ⟨b4, 0, none⟩))] a ∧ Mem w0 [] [.blk b4 23 (cf 64 (iv v9)), .blk b3 23 (cf 64 (iv zf))] w ∧ rDown_j1 K v9 = some r) ?_ ?_
      · refine CW.seq ?_
        refine CW.region ?_
        refine RW.yi (.int .i64 0) rfl rfl (Yi.pv _ rfl) ?_
        refine RW.nil ?_
        refine EW.next ?_
        refine CW.block ?_
        refine CW.loop (fun k a w => ∃ (v11 : Int) (v12 : (Nat → Int)), St 37 [(2, .pointer (some ⟨b1, 0, none⟩)), (3, .pointer (some ⟨b2, 0, none⟩)), (4, .pointer (some ⟨b3, 0, none⟩)), (6, .pointer (some ⟨b4, 0, none⟩)), (7, .int .i64 v11)] a ∧ Mem w0 [] [.blk b4 23 (cf 64 (iv v12)), .blk b3 23 (cf 64 (iv zf)), .blk b2 23 (cf 64 (iv a1_steps)), .blk b1 23 (cf 64 (iv a0_b))] w ∧ rDown_l1 K a0_b a1_steps k v11 v12 = some r) K ?_ ?_ ?_
        · rintro a w ⟨_, _, _, _, hm⟩
          rw [rDown_l1.eq_1] at hm
          cases hm
        · exact fun a w hs hM => ⟨0, zf, hs.sub ⟨rfl, rfl, rfl, rfl, rfl, trivial⟩, hM.sub (.cons_cons _ (.cons_cons _ (.cons_cons _ (.cons_cons _ .slnil)))), hm⟩
        · rintro k1 a w ⟨v11, v12, hs, hM, hm⟩
          rw [rDown_l1.eq_2] at hm
          refine CW.enter hs hM ?_
          refine CW.seq ?_
          refine CW.seq ?_
          refine CW.region ?_
          refine RW.yi (.int .i64 v11) rfl rfl (Yi.pv _ rfl) ?_
          refine RW.yi (.bool (decide (v11 < 64))) rfl rfl (Yi.pv _ rfl) ?_
          refine RW.nil ?_
          refine EW.next ?_
          refine CW.fork 19 (v11 < 64) rfl (fun h13 => ?_) (fun h13 => ?_)
          · replace hm := (if_pos h13).symm.trans hm
            refine CW.cond_true rfl ?_
            refine CW.skip ?_
            refine EW.next ?_
            refine CW.seq ?_
            refine CW.block ?_
            refine CW.seq ?_
            refine CW.draws (by kernel_rfl) (by kernel_rfl) ?_
            refine QW.yi (.int .i64 v11) rfl rfl (Yi.pv _ rfl) ?_
            obtain ⟨g14, hm⟩ := of_guard hm
            refine QW.yi (.pointer (some ⟨b1, v11.toNat, none⟩)) rfl rfl (Yi.indexAddr' _ Tryd.underlying23 Tryd.sizeOf3 rfl rfl g14.1 g14.2 (by omega)) ?_
            refine QW.yi (.int .i64 (a0_b v11.toNat)) rfl rfl (Yi.load1 (i := 3) _ rfl rfl Tryd.isAgg3 (cf_get (by omega))) ?_
            refine QW.yi (.int .i64 v11) rfl rfl (Yi.pv _ rfl) ?_
            refine QW.yi (.pointer (some ⟨b2, v11.toNat, none⟩)) rfl rfl (Yi.indexAddr' _ Tryd.underlying23 Tryd.sizeOf3 rfl rfl g14.1 g14.2 (by omega)) ?_
            refine QW.yi (.int .i64 (a1_steps v11.toNat)) rfl rfl (Yi.load1 (i := 2) _ rfl rfl Tryd.isAgg3 (cf_get (by omega))) ?_
            refine QW.ca (.int .i64 (rnd (a0_b v11.toNat) (a1_steps v11.toNat))) rfl rfl (Ca.call rfl rfl Tryd.call35 (fun w _ => c_rRound (a0_b v11.toNat) (a1_steps v11.toNat) w)) ?_
            refine QW.yi (.int .i64 (rnd (a0_b v11.toNat) (a1_steps v11.toNat))) rfl rfl (Yi.pv _ rfl) ?_
            refine QW.nil ?_
            refine EW.next ?_
            refine CW.join (fun a w => ∃ (v15 : Int), St 37 [(2, .pointer (some ⟨b1, 0, none⟩)), (3, .pointer (some ⟨b2, 0, none⟩)), (4, .pointer (some ⟨b3, 0, none⟩)), (6, .pointer (some ⟨b4, 0, none⟩)), (7, .int .i64 v11), (8, .int .i64 v15)] a ∧ Mem w0 [] [.blk b4 23 (cf 64 (iv v12)), .blk b3 23 (cf 64 (iv zf)), .blk b2 23 (cf 64 (iv a1_steps)), .blk b1 23 (cf 64 (iv a0_b))] w ∧ rDown_j2 K (rDown_l1 K a0_b a1_steps k1) v12 v11 v15 = some r) ?_ ?_
            · refine CW.seq ?_
              refine CW.region ?_
              refine RW.yi (.int .i64 (rnd (a0_b v11.toNat) (a1_steps v11.toNat))) rfl rfl (Yi.pv _ rfl) ?_
              refine RW.yi (.bool (decide (1023 < (rnd (a0_b v11.toNat) (a1_steps v11.toNat))))) rfl rfl (Yi.pv _ rfl) ?_
              refine RW.nil ?_
              refine EW.next ?_
              refine CW.fork 30 (1023 < (rnd (a0_b v11.toNat) (a1_steps v11.toNat))) rfl (fun h18 => ?_) (fun h18 => ?_)
              · replace hm := (if_pos h18).symm.trans hm
                refine CW.cond_true rfl ?_
                refine CW.region ?_
                refine RW.yi (.int .i64 1023) rfl rfl (Yi.pv _ rfl) ?_
                refine RW.nil ?_
                refine EW.thn ?_
                exact fun a w hs hM => ⟨1023, hs.sub ⟨rfl, rfl, rfl, rfl, rfl, rfl, trivial⟩, hM.sub (.cons_cons _ (.cons_cons _ (.cons_cons _ (.cons_cons _ .slnil)))), hm⟩
              · replace hm := (if_neg h18).symm.trans hm
                refine CW.cond_false rfl ?_
                refine CW.skip ?_
                refine EW.thn ?_
                exact fun a w hs hM => ⟨(rnd (a0_b v11.toNat) (a1_steps v11.toNat)), hs.sub ⟨rfl, rfl, rfl, rfl, rfl, rfl, trivial⟩, hM.sub (.cons_cons _ (.cons_cons _ (.cons_cons _ (.cons_cons _ .slnil)))), hm⟩
            · rintro a w ⟨v15, hs, hM, hm⟩
              unfold rDown_j2 at hm
              refine CW.enter hs hM ?_
              refine CW.join (fun a w => ∃ (v16 : Int), St 37 [(2, .pointer (some ⟨b1, 0, none⟩)), (3, .pointer (some ⟨b2, 0, none⟩)), (4, .pointer (some ⟨b3, 0, none⟩)), (6, .pointer (some ⟨b4, 0, none⟩)), (7, .int .i64 v11), (8, .int .i64 v16)] a ∧ Mem w0 [] [.blk b4 23 (cf 64 (iv v12)), .blk b3 23 (cf 64 (iv zf)), .blk b2 23 (cf 64 (iv a1_steps)), .blk b1 23 (cf 64 (iv a0_b))] w ∧ rDown_j3 K (rDown_l1 K a0_b a1_steps k1) v12 v11 v16 = some r) ?_ ?_
              · refine CW.seq ?_
                refine CW.region ?_
                refine RW.yi (.int .i64 v15) rfl rfl (Yi.pv _ rfl) ?_
                refine RW.yi (.bool (decide (v15 < (-1023)))) rfl rfl (Yi.pv _ rfl) ?_
                refine RW.nil ?_
                refine EW.next ?_
                refine CW.fork 32 (v15 < (-1023)) rfl (fun h17 => ?_) (fun h17 => ?_)
                · replace hm := (if_pos h17).symm.trans hm
                  refine CW.cond_true rfl ?_
                  refine CW.region ?_
                  refine RW.yi (.int .i64 (-1023)) rfl rfl (Yi.pv _ rfl) ?_
                  refine RW.nil ?_
                  refine EW.thn ?_
                  exact fun a w hs hM => ⟨(-1023), hs.sub ⟨rfl, rfl, rfl, rfl, rfl, rfl, trivial⟩, hM.sub (.cons_cons _ (.cons_cons _ (.cons_cons _ (.cons_cons _ .slnil)))), hm⟩
                · replace hm := (if_neg h17).symm.trans hm
                  refine CW.cond_false rfl ?_
                  refine CW.skip ?_
                  refine EW.thn ?_
                  exact fun a w hs hM => ⟨v15, hs.sub ⟨rfl, rfl, rfl, rfl, rfl, rfl, trivial⟩, hM.sub (.cons_cons _ (.cons_cons _ (.cons_cons _ (.cons_cons _ .slnil)))), hm⟩
              · rintro a w ⟨v16, hs, hM, hm⟩
                unfold rDown_j3 at hm
                refine CW.enter hs hM ?_
                refine CW.region ?_
                refine RW.yi (.int .i64 v11) rfl rfl (Yi.pv _ rfl) ?_
                refine RW.yi (.int .i64 v16) rfl rfl (Yi.pv _ rfl) ?_
                refine RW.yi (.pointer (some ⟨b4, v11.toNat, none⟩)) rfl rfl (Yi.indexAddr' _ Tryd.underlying23 Tryd.sizeOf3 rfl rfl g14.1 g14.2 (by omega)) ?_
                refine RW.store1 (i := 0) (cs' := cf 64 (iv (upd v12 v11.toNat v16))) rfl rfl rfl rfl Tryd.sizeOf3 rfl rfl (by rw [cf_size]; omega) (by rw [cf_set, iv_upd]) ?_
                refine RW.nil ?_
                refine EW.bln ?_
                refine EW.next ?_
                refine CW.region ?_
                refine RW.yi (.int .i64 v11) rfl rfl (Yi.pv _ rfl) ?_
                refine RW.yi (.int .i64 (w64 (v11 + 1))) rfl rfl (Yi.pv _ rfl) ?_
                refine RW.yi (.int .i64 (w64 (v11 + 1))) rfl rfl (Yi.pv _ rfl) ?_
                refine RW.nil ?_
                refine EW.thn ?_
                exact fun a w hs hM => ⟨(w64 (v11 + 1)), (upd v12 v11.toNat v16), hs.sub ⟨rfl, rfl, rfl, rfl, rfl, trivial⟩, hM.sub (.cons_cons _ (.cons_cons _ (.cons_cons _ (.cons_cons _ .slnil)))), hm⟩
          · replace hm := (if_neg h13).symm.trans hm
            refine CW.cond_false rfl ?_
            refine CW.exit ?_
            refine EW.thx ?_
            refine EW.thx ?_
            refine EW.blx ?_
            refine EW.thn ?_
            exact fun a w hs hM => ⟨v12, hs.sub ⟨rfl, rfl, trivial⟩, hM.sub (.cons_cons _ (.cons_cons _ (.cons _ (.cons _ .slnil)))), hm⟩
      · rintro a w ⟨v9, hs, hM, hm⟩
        unfold rDown_j1 at hm
        refine CW.enter hs hM ?_
        refine CW.seq ?_
        refine CW.region ?_
        refine RW.yi (.agg (cf 64 (iv v9))) rfl rfl (Yi.loadW (i := 0) rfl rfl Tryd.isAgg23 Tryd.sizeOf23) ?_
        refine RW.storeW (i := 1) (cs' := cf 64 (iv v9)) rfl rfl rfl rfl (by rw [cf_size]; kernel_rfl) (by simp only [cf_size]) (iv_one _ _) ?_
        refine RW.yi (.int .i64 0) rfl rfl (Yi.pv _ rfl) ?_
        refine RW.nil ?_
        refine EW.next ?_
        refine CW.ret ?_
        obtain rfl := Option.some.inj hm
        exact EW.done (rs := [.cell 4 23, .tmp 5]) rfl (.cellW (i := 1) rfl rfl Tryd.isAgg23 Tryd.sizeOf23 (.tmp (t := 5) (v := .int .i64 0) rfl .nil)) (fun _ hM => ⟨rfl, hM.below⟩)
    · replace hm := (if_neg h8).symm.trans hm
      refine RW.yi (.bool true) rfl rfl (Yi.pv _ rfl) ?_
      refine RW.nil ?_
      refine EW.next ?_
      refine CW.cond_true rfl ?_
      refine CW.seq ?_
      refine CW.region ?_
      refine RW.yi (.agg (cf 64 (iv zf))) rfl rfl (Yi.loadW (i := 0) rfl rfl Tryd.isAgg23 Tryd.sizeOf23) ?_
      refine RW.storeW (i := 1) (cs' := cf 64 (iv zf)) rfl rfl rfl rfl (by rw [cf_size]; kernel_rfl) (by simp only [cf_size]) (iv_one _ _) ?_
      refine RW.yi (.int .i64 2) rfl rfl (Yi.pv _ rfl) ?_
      refine RW.nil ?_
      refine EW.next ?_
      refine CW.ret ?_
      refine EW.thr ?_
      obtain rfl := Option.some.inj hm
      exact EW.done (rs := [.cell 4 23, .tmp 5]) rfl (.cellW (i := 1) rfl rfl Tryd.isAgg23 Tryd.sizeOf23 (.tmp (t := 5) (v := .int .i64 2) rfl .nil)) (fun _ hM => ⟨rfl, hM.below⟩)
  · replace hm := (if_neg h6).symm.trans hm
    refine RW.yi (.bool true) rfl rfl (Yi.pv _ rfl) ?_
    refine RW.nil ?_
    refine EW.next ?_
    refine CW.cond_true rfl ?_
    refine CW.seq ?_
    refine CW.region ?_
    refine RW.yi (.agg (cf 64 (iv zf))) rfl rfl (Yi.loadW (i := 0) rfl rfl Tryd.isAgg23 Tryd.sizeOf23) ?_
    refine RW.storeW (i := 1) (cs' := cf 64 (iv zf)) rfl rfl rfl rfl (by rw [cf_size]; kernel_rfl) (by simp only [cf_size]) (iv_one _ _) ?_
    refine RW.yi (.int .i64 1) rfl rfl (Yi.pv _ rfl) ?_
    refine RW.nil ?_
    refine EW.next ?_
    refine CW.ret ?_
    refine EW.thr ?_
    obtain rfl := Option.some.inj hm
    exact EW.done (rs := [.cell 4 23, .tmp 5]) rfl (.cellW (i := 1) rfl rfl Tryd.isAgg23 Tryd.sizeOf23 (.tmp (t := 5) (v := .int .i64 1) rfl .nil)) (fun _ hM => ⟨rfl, hM.below⟩)
def rUp_j1 (_ : Nat)   (v9 : (Nat → Int)) : Option ((Nat → Int) × Int) :=
  some (v9, 0)

def rUp_l1 (K : Nat) (a0_b : (Nat → Int)) (a1_steps : (Nat → Int)) : Nat → Int → (Nat → Int) →  Option ((Nat → Int) × Int)
  | 0, _, _ => none
  | k1 + 1, v11, v12 =>
    (if v11 < 64 then (if 0 ≤ v11 ∧ v11 < 64 then (rUp_l1 K a0_b a1_steps k1) (w64 (v11 + 1)) (upd v12 v11.toNat (w64 ((a0_b v11.toNat) * (a1_steps v11.toNat)))) else none) else rUp_j1 K v12)

def rUp (K : Nat) (a0_b : (Nat → Int)) (a1_steps : (Nat → Int)) : Option ((Nat → Int) × Int) :=
  ((rIn K a1_steps 1 255).bind fun r5 => (if r5 = true then ((rIn K a0_b (-1023) 1023).bind fun r7 => (if r7 = true then rUp_l1 K a0_b a1_steps K 0 zf else some (zf, 2))) else some (zf, 1)))

theorem c_rUp (K : Nat) (a0_b : (Nat → Int)) (a1_steps : (Nat → Int)) (r : (Nat → Int) × Int) (w0 : World) (hm : rUp K a0_b a1_steps = some r) : Calls Tryd.prog 39 #[.agg (cf 64 (iv a0_b)), .agg (cf 64 (iv a1_steps))] w0 fun e w' => e = .returned (.tuple #[.agg (cf 64 (iv r.1)), .int .i64 r.2]) ∧ Below w0.heap.size w0 w' := by
  unfold rUp at hm
  refine calls_CW (n := 31) w0 [] [] Tryd.func39 rfl rfl rfl (Mem.begin w0) ?_
  refine CW.seq ?_
  refine CW.region ?_
  refine RW.box (v := .agg (cf 64 (iv a0_b))) rfl rfl rfl (fun b1 => ?_)
  refine RW.box (v := .agg (cf 64 (iv a1_steps))) rfl rfl rfl (fun b2 => ?_)
  refine RW.alloc (z := .agg (cf 64 (iv zf))) (cf 64 (iv zf)) rfl rfl (fun _ => by kernel_rfl) rfl (fun b3 => ?_)
  refine RW.yi (.int .i64 0) rfl rfl (Yi.pv _ rfl) ?_
  refine RW.nil ?_
  refine EW.next ?_
  refine CW.seq ?_
  refine CW.region ?_
  refine RW.yi (.agg (cf 64 (iv zf))) rfl rfl (Yi.build (vs := []) _ rfl rfl (fun _ => by kernel_rfl)) ?_
  refine RW.alloc (z := .agg (cf 64 (iv zf))) (cf 64 (iv zf)) rfl rfl (fun _ => by kernel_rfl) rfl (fun b4 => ?_)
  refine RW.storeW (i := 0) (cs' := cf 64 (iv zf)) rfl rfl rfl rfl (by rw [cf_size]; kernel_rfl) (by simp only [cf_size]) (iv_one _ _) ?_
  refine RW.nil ?_
  refine EW.next ?_
  refine CW.seq ?_
  refine CW.seq ?_
  refine CW.region ?_
  refine RW.yi (.agg (cf 64 (iv a1_steps))) rfl rfl (Yi.loadW (i := 2) rfl rfl Tryd.isAgg23 Tryd.sizeOf23) ?_
  obtain ⟨r5, hr5, hm⟩ := of_bind hm
  refine RW.ca (.bool r5) rfl rfl (Ca.call rfl rfl Tryd.call25 (fun w _ => c_rIn K a1_steps 1 255 r5 w hr5)) ?_
  refine RW.forkB 10 (r5) rfl (fun h6 => ?_) (fun h6 => ?_)
  · replace hm := (if_pos h6).symm.trans hm
    refine RW.yi (.bool false) rfl rfl (Yi.pv _ rfl) ?_
    refine RW.nil ?_
    refine EW.next ?_
    refine CW.cond_false rfl ?_
    refine CW.skip ?_
    refine EW.next ?_
    refine CW.seq ?_
    refine CW.seq ?_
    refine CW.region ?_
    refine RW.yi (.agg (cf 64 (iv a0_b))) rfl rfl (Yi.loadW (i := 3) rfl rfl Tryd.isAgg23 Tryd.sizeOf23) ?_
    obtain ⟨r7, hr7, hm⟩ := of_bind hm
    refine RW.ca (.bool r7) rfl rfl (Ca.call rfl rfl Tryd.call25 (fun w _ => c_rIn K a0_b (-1023) 1023 r7 w hr7)) ?_
    refine RW.forkB 14 (r7) rfl (fun h8 => ?_) (fun h8 => ?_)
    · replace hm := (if_pos h8).symm.trans hm
      refine RW.yi (.bool false) rfl rfl (Yi.pv _ rfl) ?_
      refine RW.nil ?_
      refine EW.next ?_
      refine CW.cond_false rfl ?_
      refine CW.skip ?_
      refine EW.next ?_
      refine CW.join (fun a w => ∃ (v9 : (Nat → Int)), St 31 [(4, .pointer (some ⟨b3, 0, none⟩)), (6, .pointer (some ⟨b4, 0, none⟩))] a ∧ Mem w0 [] [.blk b4 23 (cf 64 (iv v9)), .blk b3 23 (cf 64 (iv zf))] w ∧ rUp_j1 K v9 = some r) ?_ ?_
      · refine CW.seq ?_
        refine CW.region ?_
        refine RW.yi (.int .i64 0) rfl rfl (Yi.pv _ rfl) ?_
        refine RW.nil ?_
        refine EW.next ?_
        refine CW.block ?_
        refine CW.loop (fun k a w => ∃ (v11 : Int) (v12 : (Nat → Int)), St 31 [(2, .pointer (some ⟨b1, 0, none⟩)), (3, .pointer (some ⟨b2, 0, none⟩)), (4, .pointer (some ⟨b3, 0, none⟩)), (6, .pointer (some ⟨b4, 0, none⟩)), (7, .int .i64 v11)] a ∧ Mem w0 [] [.blk b4 23 (cf 64 (iv v12)), .blk b3 23 (cf 64 (iv zf)), .blk b2 23 (cf 64 (iv a1_steps)), .blk b1 23 (cf 64 (iv a0_b))] w ∧ rUp_l1 K a0_b a1_steps k v11 v12 = some r) K ?_ ?_ ?_
        · rintro a w ⟨_, _, _, _, hm⟩
          rw [rUp_l1.eq_1] at hm
          cases hm
        · exact fun a w hs hM => ⟨0, zf, hs.sub ⟨rfl, rfl, rfl, rfl, rfl, trivial⟩, hM.sub (.cons_cons _ (.cons_cons _ (.cons_cons _ (.cons_cons _ .slnil)))), hm⟩
        · rintro k1 a w ⟨v11, v12, hs, hM, hm⟩
          rw [rUp_l1.eq_2] at hm
          refine CW.enter hs hM ?_
          refine CW.seq ?_
          refine CW.seq ?_
          refine CW.region ?_
          refine RW.yi (.int .i64 v11) rfl rfl (Yi.pv _ rfl) ?_
          refine RW.yi (.bool (decide (v11 < 64))) rfl rfl (Yi.pv _ rfl) ?_
          refine RW.nil ?_
          refine EW.next ?_
          refine CW.fork 18 (v11 < 64) rfl (fun h13 => ?_) (fun h13 => ?_)
          · replace hm := (if_pos h13).symm.trans hm
            refine CW.cond_true rfl ?_
            refine CW.skip ?_
            refine EW.next ?_
            refine CW.seq ?_
            refine CW.block ?_
            refine CW.tailC 9 (by kernel_rfl) (by kernel_rfl) ?_
            refine TW.yi (.int .i64 v11) rfl rfl (Yi.pv _ rfl) ?_
            refine TW.yi (.int .i64 v11) rfl rfl (Yi.pv _ rfl) ?_
            obtain ⟨g14, hm⟩ := of_guard hm
            refine TW.yi (.pointer (some ⟨b1, v11.toNat, none⟩)) rfl rfl (Yi.indexAddr' _ Tryd.underlying23 Tryd.sizeOf3 rfl rfl g14.1 g14.2 (by omega)) ?_
            refine TW.yi (.int .i64 (a0_b v11.toNat)) rfl rfl (Yi.load1 (i := 3) _ rfl rfl Tryd.isAgg3 (cf_get (by omega))) ?_
            refine TW.yi (.int .i64 v11) rfl rfl (Yi.pv _ rfl) ?_
            refine TW.yi (.pointer (some ⟨b2, v11.toNat, none⟩)) rfl rfl (Yi.indexAddr' _ Tryd.underlying23 Tryd.sizeOf3 rfl rfl g14.1 g14.2 (by omega)) ?_
            refine TW.yi (.int .i64 (a1_steps v11.toNat)) rfl rfl (Yi.load1 (i := 2) _ rfl rfl Tryd.isAgg3 (cf_get (by omega))) ?_
            refine TW.yi (.int .i64 (w64 ((a0_b v11.toNat) * (a1_steps v11.toNat)))) rfl rfl (Yi.pv _ rfl) ?_
            refine TW.yi (.pointer (some ⟨b4, v11.toNat, none⟩)) rfl rfl (Yi.indexAddr' _ Tryd.underlying23 Tryd.sizeOf3 rfl rfl g14.1 g14.2 (by omega)) ?_
            refine TW.nil ?_
            refine RW.store1 (i := 0) (cs' := cf 64 (iv (upd v12 v11.toNat (w64 ((a0_b v11.toNat) * (a1_steps v11.toNat)))))) rfl rfl rfl rfl Tryd.sizeOf3 rfl rfl (by rw [cf_size]; omega) (by rw [cf_set, iv_upd]) ?_
            refine RW.nil ?_
            refine EW.bln ?_
            refine EW.next ?_
            refine CW.region ?_
            refine RW.yi (.int .i64 v11) rfl rfl (Yi.pv _ rfl) ?_
            refine RW.yi (.int .i64 (w64 (v11 + 1))) rfl rfl (Yi.pv _ rfl) ?_
            refine RW.yi (.int .i64 (w64 (v11 + 1))) rfl rfl (Yi.pv _ rfl) ?_
            refine RW.nil ?_
            refine EW.thn ?_
            exact fun a w hs hM => ⟨(w64 (v11 + 1)), (upd v12 v11.toNat (w64 ((a0_b v11.toNat) * (a1_steps v11.toNat)))), hs.sub ⟨rfl, rfl, rfl, rfl, rfl, trivial⟩, hM.sub (.cons_cons _ (.cons_cons _ (.cons_cons _ (.cons_cons _ .slnil)))), hm⟩
          · replace hm := (if_neg h13).symm.trans hm
            refine CW.cond_false rfl ?_
            refine CW.exit ?_
            refine EW.thx ?_
            refine EW.thx ?_
            refine EW.blx ?_
            refine EW.thn ?_
            exact fun a w hs hM => ⟨v12, hs.sub ⟨rfl, rfl, trivial⟩, hM.sub (.cons_cons _ (.cons_cons _ (.cons _ (.cons _ .slnil)))), hm⟩
      · rintro a w ⟨v9, hs, hM, hm⟩
        unfold rUp_j1 at hm
        refine CW.enter hs hM ?_
        refine CW.seq ?_
        refine CW.region ?_
        refine RW.yi (.agg (cf 64 (iv v9))) rfl rfl (Yi.loadW (i := 0) rfl rfl Tryd.isAgg23 Tryd.sizeOf23) ?_
        refine RW.storeW (i := 1) (cs' := cf 64 (iv v9)) rfl rfl rfl rfl (by rw [cf_size]; kernel_rfl) (by simp only [cf_size]) (iv_one _ _) ?_
        refine RW.yi (.int .i64 0) rfl rfl (Yi.pv _ rfl) ?_
        refine RW.nil ?_
        refine EW.next ?_
        refine CW.ret ?_
        obtain rfl := Option.some.inj hm
        exact EW.done (rs := [.cell 4 23, .tmp 5]) rfl (.cellW (i := 1) rfl rfl Tryd.isAgg23 Tryd.sizeOf23 (.tmp (t := 5) (v := .int .i64 0) rfl .nil)) (fun _ hM => ⟨rfl, hM.below⟩)
    · replace hm := (if_neg h8).symm.trans hm
      refine RW.yi (.bool true) rfl rfl (Yi.pv _ rfl) ?_
      refine RW.nil ?_
      refine EW.next ?_
      refine CW.cond_true rfl ?_
      refine CW.seq ?_
      refine CW.region ?_
      refine RW.yi (.agg (cf 64 (iv zf))) rfl rfl (Yi.loadW (i := 0) rfl rfl Tryd.isAgg23 Tryd.sizeOf23) ?_
      refine RW.storeW (i := 1) (cs' := cf 64 (iv zf)) rfl rfl rfl rfl (by rw [cf_size]; kernel_rfl) (by simp only [cf_size]) (iv_one _ _) ?_
      refine RW.yi (.int .i64 2) rfl rfl (Yi.pv _ rfl) ?_
      refine RW.nil ?_
      refine EW.next ?_
      refine CW.ret ?_
      refine EW.thr ?_
      obtain rfl := Option.some.inj hm
      exact EW.done (rs := [.cell 4 23, .tmp 5]) rfl (.cellW (i := 1) rfl rfl Tryd.isAgg23 Tryd.sizeOf23 (.tmp (t := 5) (v := .int .i64 2) rfl .nil)) (fun _ hM => ⟨rfl, hM.below⟩)
  · replace hm := (if_neg h6).symm.trans hm
    refine RW.yi (.bool true) rfl rfl (Yi.pv _ rfl) ?_
    refine RW.nil ?_
    refine EW.next ?_
    refine CW.cond_true rfl ?_
    refine CW.seq ?_
    refine CW.region ?_
    refine RW.yi (.agg (cf 64 (iv zf))) rfl rfl (Yi.loadW (i := 0) rfl rfl Tryd.isAgg23 Tryd.sizeOf23) ?_
    refine RW.storeW (i := 1) (cs' := cf 64 (iv zf)) rfl rfl rfl rfl (by rw [cf_size]; kernel_rfl) (by simp only [cf_size]) (iv_one _ _) ?_
    refine RW.yi (.int .i64 1) rfl rfl (Yi.pv _ rfl) ?_
    refine RW.nil ?_
    refine EW.next ?_
    refine CW.ret ?_
    refine EW.thr ?_
    obtain rfl := Option.some.inj hm
    exact EW.done (rs := [.cell 4 23, .tmp 5]) rfl (.cellW (i := 1) rfl rfl Tryd.isAgg23 Tryd.sizeOf23 (.tmp (t := 5) (v := .int .i64 1) rfl .nil)) (fun _ hM => ⟨rfl, hM.below⟩)
end Go.Proofs.YtfpafpmcfkapkaaDoor