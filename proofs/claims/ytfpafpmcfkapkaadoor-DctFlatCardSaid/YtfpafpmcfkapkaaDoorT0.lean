import Derived.Test.YtfpafpmcfkapkaaDoorQ1
import Derived.Test.YtfpafpmcfkapkaaDoorK5
set_option maxRecDepth 100000
namespace Go.Proofs.YtfpafpmcfkapkaaDoor
open Go Go.RowKit K
def wavesL : List Int := [2896, 2896, 2896, 2896, 2896, 2896, 2896, 2896, 4017, 3406, 2276, 799, -799, -2276, -3406, -4017, 3784, 1567, -1567, -3784, -3784, -1567, 1567, 3784, 3406, -799, -4017, -2276, 2276, 4017, 799, -3406, 2896, -2896, -2896, 2896, 2896, -2896, -2896, 2896, 2276, -4017, 799, 3406, -3406, -799, 4017, -2276, 1567, -3784, 3784, -1567, -1567, 3784, -3784, 1567, 799, -2276, 3406, -4017, 4017, -3406, 2276, -799]
def wavesF : Nat → Int := lf wavesL
def GG : List (Nat × Nat × (Nat → Value)) := [(0, 64, iv wavesF)]
def wave (_ : Nat) (a0_u : Int) (a1_x : Int) : Option (Int) :=
  (if a0_u < 0 then some 0 else (if 7 < a0_u then some 0 else (if a1_x < 0 then some 0 else (if 7 < a1_x then some 0 else (if 0 ≤ a0_u ∧ a0_u < 8 then (if 0 ≤ a1_x ∧ a1_x < 8 then some (wavesF (a0_u.toNat * 8 + a1_x.toNat)) else none) else none)))))

theorem c_wave (K : Nat) (a0_u : Int) (a1_x : Int) (r : Int) (w0 : World) (hG : Gl GG w0) (hm : wave K a0_u a1_x = some r) : Calls Tryd.prog 18 #[.int .i64 a0_u, .int .i64 a1_x] w0 fun e w' => e = .returned (.int .i64 r) ∧ Below w0.heap.size w0 w' := by
  unfold wave at hm
  refine calls_CW (n := 24) w0 [] [] Tryd.func18 rfl rfl rfl (Mem.begin w0) ?_
  refine CW.seq ?_
  refine CW.region ?_
  refine RW.yi (.int .i64 0) rfl rfl (Yi.pv _ rfl) ?_
  refine RW.nil ?_
  refine EW.next ?_
  refine CW.seq ?_
  refine CW.seq ?_
  refine CW.region ?_
  refine RW.yi (.int .i64 a0_u) rfl rfl (Yi.pv _ rfl) ?_
  refine RW.yi (.bool (decide (a0_u < 0))) rfl rfl (Yi.pv _ rfl) ?_
  refine RW.yi (.bool (decide (a0_u < 0))) rfl rfl (Yi.pv _ rfl) ?_
  refine RW.fork 7 (a0_u < 0) rfl (fun h1 => ?_) (fun h1 => ?_)
  · replace hm := (if_pos h1).symm.trans hm
    refine RW.pass rfl rfl ?_
    refine RW.pass rfl rfl ?_
    refine RW.yi (.bool true) rfl rfl (Yi.pv _ rfl) ?_
    refine RW.yi (.bool true) rfl rfl (Yi.pv _ rfl) ?_
    refine RW.pass rfl rfl ?_
    refine RW.pass rfl rfl ?_
    refine RW.yi (.bool true) rfl rfl (Yi.pv _ rfl) ?_
    refine RW.yi (.bool true) rfl rfl (Yi.pv _ rfl) ?_
    refine RW.pass rfl rfl ?_
    refine RW.pass rfl rfl ?_
    refine RW.yi (.bool true) rfl rfl (Yi.pv _ rfl) ?_
    refine RW.nil ?_
    refine EW.next ?_
    refine CW.cond_true rfl ?_
    refine CW.seq ?_
    refine CW.region ?_
    refine RW.yi (.int .i64 0) rfl rfl (Yi.pv _ rfl) ?_
    refine RW.nil ?_
    refine EW.next ?_
    refine CW.ret ?_
    refine EW.thr ?_
    obtain rfl := Option.some.inj hm
    exact EW.done (rs := [.tmp 4]) rfl (.tmp (t := 4) (v := .int .i64 0) rfl .nil) (fun _ hM => ⟨rfl, hM.below⟩)
  · replace hm := (if_neg h1).symm.trans hm
    refine RW.yi (.int .i64 a0_u) rfl rfl (Yi.pv _ rfl) ?_
    refine RW.yi (.bool (decide (7 < a0_u))) rfl rfl (Yi.pv _ rfl) ?_
    refine RW.yi (.bool (decide (7 < a0_u))) rfl rfl (Yi.pv _ rfl) ?_
    refine RW.yi (.bool (decide (7 < a0_u))) rfl rfl (Yi.pv _ rfl) ?_
    refine RW.fork 11 (7 < a0_u) rfl (fun h2 => ?_) (fun h2 => ?_)
    · replace hm := (if_pos h2).symm.trans hm
      refine RW.pass rfl rfl ?_
      refine RW.pass rfl rfl ?_
      refine RW.yi (.bool true) rfl rfl (Yi.pv _ rfl) ?_
      refine RW.yi (.bool true) rfl rfl (Yi.pv _ rfl) ?_
      refine RW.pass rfl rfl ?_
      refine RW.pass rfl rfl ?_
      refine RW.yi (.bool true) rfl rfl (Yi.pv _ rfl) ?_
      refine RW.nil ?_
      refine EW.next ?_
      refine CW.cond_true rfl ?_
      refine CW.seq ?_
      refine CW.region ?_
      refine RW.yi (.int .i64 0) rfl rfl (Yi.pv _ rfl) ?_
      refine RW.nil ?_
      refine EW.next ?_
      refine CW.ret ?_
      refine EW.thr ?_
      obtain rfl := Option.some.inj hm
      exact EW.done (rs := [.tmp 4]) rfl (.tmp (t := 4) (v := .int .i64 0) rfl .nil) (fun _ hM => ⟨rfl, hM.below⟩)
    · replace hm := (if_neg h2).symm.trans hm
      refine RW.yi (.int .i64 a1_x) rfl rfl (Yi.pv _ rfl) ?_
      refine RW.yi (.bool (decide (a1_x < 0))) rfl rfl (Yi.pv _ rfl) ?_
      refine RW.yi (.bool (decide (a1_x < 0))) rfl rfl (Yi.pv _ rfl) ?_
      refine RW.yi (.bool (decide (a1_x < 0))) rfl rfl (Yi.pv _ rfl) ?_
      refine RW.fork 15 (a1_x < 0) rfl (fun h3 => ?_) (fun h3 => ?_)
      · replace hm := (if_pos h3).symm.trans hm
        refine RW.pass rfl rfl ?_
        refine RW.pass rfl rfl ?_
        refine RW.yi (.bool true) rfl rfl (Yi.pv _ rfl) ?_
        refine RW.nil ?_
        refine EW.next ?_
        refine CW.cond_true rfl ?_
        refine CW.seq ?_
        refine CW.region ?_
        refine RW.yi (.int .i64 0) rfl rfl (Yi.pv _ rfl) ?_
        refine RW.nil ?_
        refine EW.next ?_
        refine CW.ret ?_
        refine EW.thr ?_
        obtain rfl := Option.some.inj hm
        exact EW.done (rs := [.tmp 4]) rfl (.tmp (t := 4) (v := .int .i64 0) rfl .nil) (fun _ hM => ⟨rfl, hM.below⟩)
      · replace hm := (if_neg h3).symm.trans hm
        refine RW.yi (.int .i64 a1_x) rfl rfl (Yi.pv _ rfl) ?_
        refine RW.yi (.bool (decide (7 < a1_x))) rfl rfl (Yi.pv _ rfl) ?_
        refine RW.yi (.bool (decide (7 < a1_x))) rfl rfl (Yi.pv _ rfl) ?_
        refine RW.nil ?_
        refine EW.next ?_
        refine CW.fork 18 (7 < a1_x) rfl (fun h4 => ?_) (fun h4 => ?_)
        · replace hm := (if_pos h4).symm.trans hm
          refine CW.cond_true rfl ?_
          refine CW.seq ?_
          refine CW.region ?_
          refine RW.yi (.int .i64 0) rfl rfl (Yi.pv _ rfl) ?_
          refine RW.nil ?_
          refine EW.next ?_
          refine CW.ret ?_
          refine EW.thr ?_
          obtain rfl := Option.some.inj hm
          exact EW.done (rs := [.tmp 4]) rfl (.tmp (t := 4) (v := .int .i64 0) rfl .nil) (fun _ hM => ⟨rfl, hM.below⟩)
        · replace hm := (if_neg h4).symm.trans hm
          refine CW.cond_false rfl ?_
          refine CW.skip ?_
          refine EW.next ?_
          refine CW.seq ?_
          refine CW.region ?_
          refine RW.yi (.int .i64 a0_u) rfl rfl (Yi.pv _ rfl) ?_
          refine RW.yi (.int .i64 a1_x) rfl rfl (Yi.pv _ rfl) ?_
          obtain ⟨g5, hm⟩ := of_guard hm
          refine RW.yi (.pointer (some ⟨0, a0_u.toNat * 8, none⟩)) rfl rfl (Yi.indexAddr' _ Tryd.underlying46 Tryd.sizeOf45 rfl rfl g5.1 g5.2 (by omega)) ?_
          obtain ⟨g6, hm⟩ := of_guard hm
          refine RW.yi (.pointer (some ⟨0, a0_u.toNat * 8 + a1_x.toNat, none⟩)) rfl rfl (Yi.indexAddr' _ Tryd.underlying45 Tryd.sizeOf3 rfl rfl g6.1 g6.2 (by omega)) ?_
          refine RW.yi (.int .i64 (wavesF (a0_u.toNat * 8 + a1_x.toNat))) rfl rfl (Yi.loadG1 (i := 0) hG rfl rfl rfl Tryd.isAgg3 (by omega)) ?_
          refine RW.yi (.int .i64 (wavesF (a0_u.toNat * 8 + a1_x.toNat))) rfl rfl (Yi.pv _ rfl) ?_
          refine RW.nil ?_
          refine EW.next ?_
          refine CW.ret ?_
          obtain rfl := Option.some.inj hm
          exact EW.done (rs := [.tmp 4]) rfl (.tmp (t := 4) (v := .int .i64 (wavesF (a0_u.toNat * 8 + a1_x.toNat))) rfl .nil) (fun _ hM => ⟨rfl, hM.below⟩)
def dWithin_j1 (_ : Nat)    : Option (Bool) :=
  some true

def dWithin_l1 (K : Nat) (a0_b : (Nat → Int)) (a1_low : Int) (a2_high : Int) : Nat → Int →  Option (Bool)
  | 0, _ => none
  | k1 + 1, v2 =>
    (if v2 < 64 then (if 0 ≤ v2 ∧ v2 < 64 then (if (a0_b v2.toNat) < a1_low then some false else (if a2_high < (a0_b v2.toNat) then some false else (dWithin_l1 K a0_b a1_low a2_high k1) (w64 (v2 + 1)))) else none) else dWithin_j1 K)

def dWithin (K : Nat) (a0_b : (Nat → Int)) (a1_low : Int) (a2_high : Int) : Option (Bool) :=
  dWithin_l1 K a0_b a1_low a2_high K 0

theorem c_dWithin (K : Nat) (a0_b : (Nat → Int)) (a1_low : Int) (a2_high : Int) (r : Bool) (w0 : World) (hm : dWithin K a0_b a1_low a2_high = some r) : Calls Tryd.prog 30 #[.agg (cf 64 (iv a0_b)), .int .i64 a1_low, .int .i64 a2_high] w0 fun e w' => e = .returned (.bool r) ∧ Below w0.heap.size w0 w' := by
  unfold dWithin at hm
  refine calls_CW (n := 22) w0 [] [] Tryd.func30 rfl rfl rfl (Mem.begin w0) ?_
  refine CW.seq ?_
  refine CW.region ?_
  refine RW.box (v := .agg (cf 64 (iv a0_b))) rfl rfl rfl (fun b1 => ?_)
  refine RW.yi (.bool false) rfl rfl (Yi.pv _ rfl) ?_
  refine RW.nil ?_
  refine EW.next ?_
  refine CW.join (fun a w => St 22 [] a ∧ Mem w0 [] [] w ∧ dWithin_j1 K = some r) ?_ ?_
  · refine CW.seq ?_
    refine CW.region ?_
    refine RW.yi (.agg (cf 64 (iv a0_b))) rfl rfl (Yi.loadW (i := 0) rfl rfl Tryd.isAgg23 Tryd.sizeOf23) ?_
    refine RW.yi (.int .i64 0) rfl rfl (Yi.pv _ rfl) ?_
    refine RW.nil ?_
    refine EW.next ?_
    refine CW.block ?_
    refine CW.loop (fun k a w => ∃ (v2 : Int), St 22 [(1, .int .i64 a1_low), (2, .int .i64 a2_high), (9, .agg (cf 64 (iv a0_b))), (10, .int .i64 v2)] a ∧ Mem w0 [] [] w ∧ dWithin_l1 K a0_b a1_low a2_high k v2 = some r) K ?_ ?_ ?_
    · rintro a w ⟨_, _, _, hm⟩
      rw [dWithin_l1.eq_1] at hm
      cases hm
    · exact fun a w hs hM => ⟨0, hs.sub ⟨rfl, rfl, rfl, rfl, trivial⟩, hM.sub (.cons _ .slnil), hm⟩
    · rintro k1 a w ⟨v2, hs, hM, hm⟩
      rw [dWithin_l1.eq_2] at hm
      refine CW.enter hs hM ?_
      refine CW.seq ?_
      refine CW.region ?_
      refine RW.yi (.bool (decide (v2 < 64))) rfl rfl (Yi.pv _ rfl) ?_
      refine RW.nil ?_
      refine EW.next ?_
      refine CW.seq ?_
      refine CW.fork 11 (v2 < 64) rfl (fun h3 => ?_) (fun h3 => ?_)
      · replace hm := (if_pos h3).symm.trans hm
        refine CW.cond_true rfl ?_
        refine CW.skip ?_
        refine EW.next ?_
        refine CW.seq ?_
        refine CW.block ?_
        refine CW.seq ?_
        refine CW.region ?_
        obtain ⟨g4, hm⟩ := of_guard hm
        refine RW.yi (.int .i64 (a0_b v2.toNat)) rfl rfl (Yi.index _ Tryd.underlying23 Tryd.sizeOf3 Tryd.isAgg3 rfl rfl g4.1 g4.2 (cf_get (by omega))) ?_
        refine RW.yi (.int .i64 (a0_b v2.toNat)) rfl rfl (Yi.pv _ rfl) ?_
        refine RW.nil ?_
        refine EW.next ?_
        refine CW.seq ?_
        refine CW.region ?_
        refine RW.yi (.int .i64 (a0_b v2.toNat)) rfl rfl (Yi.pv _ rfl) ?_
        refine RW.yi (.int .i64 a1_low) rfl rfl (Yi.pv _ rfl) ?_
        refine RW.yi (.bool (decide ((a0_b v2.toNat) < a1_low))) rfl rfl (Yi.pv _ rfl) ?_
        refine RW.yi (.bool (decide ((a0_b v2.toNat) < a1_low))) rfl rfl (Yi.pv _ rfl) ?_
        refine RW.fork 16 ((a0_b v2.toNat) < a1_low) rfl (fun h5 => ?_) (fun h5 => ?_)
        · replace hm := (if_pos h5).symm.trans hm
          refine RW.pass rfl rfl ?_
          refine RW.pass rfl rfl ?_
          refine RW.pass rfl rfl ?_
          refine RW.yi (.bool true) rfl rfl (Yi.pv _ rfl) ?_
          refine RW.nil ?_
          refine EW.next ?_
          refine CW.cond_true rfl ?_
          refine CW.seq ?_
          refine CW.region ?_
          refine RW.yi (.bool false) rfl rfl (Yi.pv _ rfl) ?_
          refine RW.nil ?_
          refine EW.next ?_
          refine CW.ret ?_
          refine EW.blr ?_
          refine EW.thr ?_
          refine EW.thr ?_
          refine EW.blr ?_
          refine EW.thr ?_
          obtain rfl := Option.some.inj hm
          exact EW.done (rs := [.tmp 6]) rfl (.tmp (t := 6) (v := .bool false) rfl .nil) (fun _ hM => ⟨rfl, hM.below⟩)
        · replace hm := (if_neg h5).symm.trans hm
          refine RW.yi (.int .i64 (a0_b v2.toNat)) rfl rfl (Yi.pv _ rfl) ?_
          refine RW.yi (.int .i64 a2_high) rfl rfl (Yi.pv _ rfl) ?_
          refine RW.yi (.bool (decide (a2_high < (a0_b v2.toNat)))) rfl rfl (Yi.pv _ rfl) ?_
          refine RW.yi (.bool (decide (a2_high < (a0_b v2.toNat)))) rfl rfl (Yi.pv _ rfl) ?_
          refine RW.nil ?_
          refine EW.next ?_
          refine CW.fork 20 (a2_high < (a0_b v2.toNat)) rfl (fun h6 => ?_) (fun h6 => ?_)
          · replace hm := (if_pos h6).symm.trans hm
            refine CW.cond_true rfl ?_
            refine CW.seq ?_
            refine CW.region ?_
            refine RW.yi (.bool false) rfl rfl (Yi.pv _ rfl) ?_
            refine RW.nil ?_
            refine EW.next ?_
            refine CW.ret ?_
            refine EW.blr ?_
            refine EW.thr ?_
            refine EW.thr ?_
            refine EW.blr ?_
            refine EW.thr ?_
            obtain rfl := Option.some.inj hm
            exact EW.done (rs := [.tmp 6]) rfl (.tmp (t := 6) (v := .bool false) rfl .nil) (fun _ hM => ⟨rfl, hM.below⟩)
          · replace hm := (if_neg h6).symm.trans hm
            refine CW.cond_false rfl ?_
            refine CW.skip ?_
            refine EW.bln ?_
            refine EW.next ?_
            refine CW.region ?_
            refine RW.yi (.int .i64 (w64 (v2 + 1))) rfl rfl (Yi.pv _ rfl) ?_
            refine RW.yi (.int .i64 (w64 (v2 + 1))) rfl rfl (Yi.pv _ rfl) ?_
            refine RW.nil ?_
            refine EW.thn ?_
            exact fun a w hs hM => ⟨(w64 (v2 + 1)), hs.sub ⟨rfl, rfl, rfl, rfl, trivial⟩, hM.sub .slnil, hm⟩
      · replace hm := (if_neg h3).symm.trans hm
        refine CW.cond_false rfl ?_
        refine CW.exit ?_
        refine EW.thx ?_
        refine EW.thx ?_
        refine EW.blx ?_
        refine EW.thn ?_
        exact fun a w hs hM => ⟨hs.sub trivial, hM.sub .slnil, hm⟩
  · rintro a w ⟨hs, hM, hm⟩
    unfold dWithin_j1 at hm
    refine CW.enter hs hM ?_
    refine CW.seq ?_
    refine CW.region ?_
    refine RW.yi (.bool true) rfl rfl (Yi.pv _ rfl) ?_
    refine RW.nil ?_
    refine EW.next ?_
    refine CW.ret ?_
    obtain rfl := Option.some.inj hm
    exact EW.done (rs := [.tmp 6]) rfl (.tmp (t := 6) (v := .bool true) rfl .nil) (fun _ hM => ⟨rfl, hM.below⟩)
def turned_j1 (_ : Nat)   (v4 : (Nat → Int)) : Option ((Nat → Int)) :=
  some v4

def turned_j2 (_ : Nat) (cb_turned_l1 : Int → (Nat → Int) → Option ((Nat → Int))) (v6 : Int) (v9 : (Nat → Int)) : Option ((Nat → Int)) :=
  cb_turned_l1 (w64 (v6 + 1)) v9

def turned_l2 (K : Nat) (cb_turned_l1 : Int → (Nat → Int) → Option ((Nat → Int))) (a0_m : (Nat → Int)) (v6 : Int) : Nat → Int → (Nat → Int) →  Option ((Nat → Int))
  | 0, _, _ => none
  | k2 + 1, v11, v12 =>
    (if v11 < 8 then (if 0 ≤ v6 ∧ v6 < 8 then (if 0 ≤ v11 ∧ v11 < 8 then (turned_l2 K cb_turned_l1 a0_m v6 k2) (w64 (v11 + 1)) (upd v12 (v11.toNat * 8 + v6.toNat) (a0_m (v6.toNat * 8 + v11.toNat))) else none) else none) else turned_j2 K cb_turned_l1 v6 v12)

def turned_l1 (K : Nat) (a0_m : (Nat → Int)) : Nat → Int → (Nat → Int) →  Option ((Nat → Int))
  | 0, _, _ => none
  | k1 + 1, v6, v7 =>
    (if v6 < 8 then turned_l2 K (turned_l1 K a0_m k1) a0_m v6 K 0 v7 else turned_j1 K v7)

def turned (K : Nat) (a0_m : (Nat → Int)) : Option ((Nat → Int)) :=
  turned_l1 K a0_m K 0 zf

theorem c_turned (K : Nat) (a0_m : (Nat → Int)) (r : (Nat → Int)) (w0 : World) (hm : turned K a0_m = some r) : Calls Tryd.prog 36 #[.agg (cf 64 (iv a0_m))] w0 fun e w' => e = .returned (.agg (cf 64 (iv r))) ∧ Below w0.heap.size w0 w' := by
  unfold turned at hm
  refine calls_CW (n := 24) w0 [] [] Tryd.func36 rfl rfl rfl (Mem.begin w0) ?_
  refine CW.seq ?_
  refine CW.region ?_
  refine RW.box (v := .agg (cf 64 (iv a0_m))) rfl rfl rfl (fun b1 => ?_)
  refine RW.alloc (z := .agg (cf 64 (iv zf))) (cf 64 (iv zf)) rfl rfl (fun _ => by kernel_rfl) rfl (fun b2 => ?_)
  refine RW.nil ?_
  refine EW.next ?_
  refine CW.seq ?_
  refine CW.region ?_
  refine RW.alloc (z := .agg (cf 64 (iv zf))) (cf 64 (iv zf)) rfl rfl (fun _ => by kernel_rfl) rfl (fun b3 => ?_)
  refine RW.nil ?_
  refine EW.next ?_
  refine CW.join (fun a w => ∃ (v4 : (Nat → Int)), St 24 [(2, .pointer (some ⟨b2, 0, none⟩)), (3, .pointer (some ⟨b3, 0, none⟩))] a ∧ Mem w0 [] [.blk b3 46 (cf 64 (iv v4)), .blk b2 46 (cf 64 (iv zf))] w ∧ turned_j1 K v4 = some r) ?_ ?_
  · refine CW.seq ?_
    refine CW.region ?_
    refine RW.yi (.int .i64 0) rfl rfl (Yi.pv _ rfl) ?_
    refine RW.nil ?_
    refine EW.next ?_
    refine CW.block ?_
    refine CW.loop (fun k a w => ∃ (v6 : Int) (v7 : (Nat → Int)), St 24 [(1, .pointer (some ⟨b1, 0, none⟩)), (2, .pointer (some ⟨b2, 0, none⟩)), (3, .pointer (some ⟨b3, 0, none⟩)), (6, .int .i64 v6)] a ∧ Mem w0 [] [.blk b3 46 (cf 64 (iv v7)), .blk b2 46 (cf 64 (iv zf)), .blk b1 46 (cf 64 (iv a0_m))] w ∧ turned_l1 K a0_m k v6 v7 = some r) K ?_ ?_ ?_
    · rintro a w ⟨_, _, _, _, hm⟩
      rw [turned_l1.eq_1] at hm
      cases hm
    · exact fun a w hs hM => ⟨0, zf, hs.sub ⟨rfl, rfl, rfl, rfl, trivial⟩, hM.sub (.cons_cons _ (.cons_cons _ (.cons_cons _ .slnil))), hm⟩
    · rintro k1 a w ⟨v6, v7, hs, hM, hm⟩
      rw [turned_l1.eq_2] at hm
      refine CW.enter hs hM ?_
      refine CW.seq ?_
      refine CW.region ?_
      refine RW.yi (.bool (decide (v6 < 8))) rfl rfl (Yi.pv _ rfl) ?_
      refine RW.nil ?_
      refine EW.next ?_
      refine CW.seq ?_
      refine CW.fork 7 (v6 < 8) rfl (fun h8 => ?_) (fun h8 => ?_)
      · replace hm := (if_pos h8).symm.trans hm
        refine CW.cond_true rfl ?_
        refine CW.skip ?_
        refine EW.next ?_
        refine CW.join (fun a w => ∃ (v9 : (Nat → Int)), St 24 [(1, .pointer (some ⟨b1, 0, none⟩)), (2, .pointer (some ⟨b2, 0, none⟩)), (3, .pointer (some ⟨b3, 0, none⟩)), (6, .int .i64 v6)] a ∧ Mem w0 [] [.blk b3 46 (cf 64 (iv v9)), .blk b2 46 (cf 64 (iv zf)), .blk b1 46 (cf 64 (iv a0_m))] w ∧ turned_j2 K (turned_l1 K a0_m k1) v6 v9 = some r) ?_ ?_
        · refine CW.block ?_
          refine CW.seq ?_
          refine CW.region ?_
          refine RW.yi (.int .i64 v6) rfl rfl (Yi.pv _ rfl) ?_
          refine RW.yi (.int .i64 v6) rfl rfl (Yi.pv _ rfl) ?_
          refine RW.nil ?_
          refine EW.next ?_
          refine CW.seq ?_
          refine CW.region ?_
          refine RW.yi (.int .i64 0) rfl rfl (Yi.pv _ rfl) ?_
          refine RW.nil ?_
          refine EW.next ?_
          refine CW.block ?_
          refine CW.loop (fun k a w => ∃ (v11 : Int) (v12 : (Nat → Int)), St 24 [(1, .pointer (some ⟨b1, 0, none⟩)), (2, .pointer (some ⟨b2, 0, none⟩)), (3, .pointer (some ⟨b3, 0, none⟩)), (4, .int .i64 v6), (6, .int .i64 v6), (9, .int .i64 v11)] a ∧ Mem w0 [] [.blk b3 46 (cf 64 (iv v12)), .blk b2 46 (cf 64 (iv zf)), .blk b1 46 (cf 64 (iv a0_m))] w ∧ turned_l2 K (turned_l1 K a0_m k1) a0_m v6 k v11 v12 = some r) K ?_ ?_ ?_
          · rintro a w ⟨_, _, _, _, hm⟩
            rw [turned_l2.eq_1] at hm
            cases hm
          · exact fun a w hs hM => ⟨0, v7, hs.sub ⟨rfl, rfl, rfl, rfl, rfl, rfl, trivial⟩, hM.sub (.cons_cons _ (.cons_cons _ (.cons_cons _ .slnil))), hm⟩
          · rintro k2 a w ⟨v11, v12, hs, hM, hm⟩
            rw [turned_l2.eq_2] at hm
            refine CW.enter hs hM ?_
            refine CW.seq ?_
            refine CW.region ?_
            refine RW.yi (.bool (decide (v11 < 8))) rfl rfl (Yi.pv _ rfl) ?_
            refine RW.nil ?_
            refine EW.next ?_
            refine CW.seq ?_
            refine CW.fork 10 (v11 < 8) rfl (fun h13 => ?_) (fun h13 => ?_)
            · replace hm := (if_pos h13).symm.trans hm
              refine CW.cond_true rfl ?_
              refine CW.skip ?_
              refine EW.next ?_
              refine CW.seq ?_
              refine CW.block ?_
              refine CW.seq ?_
              refine CW.region ?_
              refine RW.yi (.int .i64 v11) rfl rfl (Yi.pv _ rfl) ?_
              refine RW.yi (.int .i64 v11) rfl rfl (Yi.pv _ rfl) ?_
              refine RW.nil ?_
              refine EW.next ?_
              refine CW.tailC 9 (by kernel_rfl) (by kernel_rfl) ?_
              refine TW.yi (.int .i64 v11) rfl rfl (Yi.pv _ rfl) ?_
              refine TW.yi (.int .i64 v6) rfl rfl (Yi.pv _ rfl) ?_
              refine TW.yi (.int .i64 v6) rfl rfl (Yi.pv _ rfl) ?_
              refine TW.yi (.int .i64 v11) rfl rfl (Yi.pv _ rfl) ?_
              obtain ⟨g14, hm⟩ := of_guard hm
              refine TW.yi (.pointer (some ⟨b1, v6.toNat * 8, none⟩)) rfl rfl (Yi.indexAddr' _ Tryd.underlying46 Tryd.sizeOf45 rfl rfl g14.1 g14.2 (by omega)) ?_
              obtain ⟨g15, hm⟩ := of_guard hm
              refine TW.yi (.pointer (some ⟨b1, v6.toNat * 8 + v11.toNat, none⟩)) rfl rfl (Yi.indexAddr' _ Tryd.underlying45 Tryd.sizeOf3 rfl rfl g15.1 g15.2 (by omega)) ?_
              refine TW.yi (.int .i64 (a0_m (v6.toNat * 8 + v11.toNat))) rfl rfl (Yi.load1 (i := 2) _ rfl rfl Tryd.isAgg3 (cf_get (by omega))) ?_
              refine TW.yi (.pointer (some ⟨b3, v11.toNat * 8, none⟩)) rfl rfl (Yi.indexAddr' _ Tryd.underlying46 Tryd.sizeOf45 rfl rfl g15.1 g15.2 (by omega)) ?_
              refine TW.yi (.pointer (some ⟨b3, v11.toNat * 8 + v6.toNat, none⟩)) rfl rfl (Yi.indexAddr' _ Tryd.underlying45 Tryd.sizeOf3 rfl rfl g14.1 g14.2 (by omega)) ?_
              refine TW.nil ?_
              refine RW.store1 (i := 0) (cs' := cf 64 (iv (upd v12 (v11.toNat * 8 + v6.toNat) (a0_m (v6.toNat * 8 + v11.toNat))))) rfl rfl rfl rfl Tryd.sizeOf3 rfl rfl (by rw [cf_size]; omega) (by rw [cf_set, iv_upd]) ?_
              refine RW.nil ?_
              refine EW.bln ?_
              refine EW.next ?_
              refine CW.region ?_
              refine RW.yi (.int .i64 (w64 (v11 + 1))) rfl rfl (Yi.pv _ rfl) ?_
              refine RW.yi (.int .i64 (w64 (v11 + 1))) rfl rfl (Yi.pv _ rfl) ?_
              refine RW.nil ?_
              refine EW.thn ?_
              exact fun a w hs hM => ⟨(w64 (v11 + 1)), (upd v12 (v11.toNat * 8 + v6.toNat) (a0_m (v6.toNat * 8 + v11.toNat))), hs.sub ⟨rfl, rfl, rfl, rfl, rfl, rfl, trivial⟩, hM.sub (.cons_cons _ (.cons_cons _ (.cons_cons _ .slnil))), hm⟩
            · replace hm := (if_neg h13).symm.trans hm
              refine CW.cond_false rfl ?_
              refine CW.exit ?_
              refine EW.thx ?_
              refine EW.thx ?_
              refine EW.blx ?_
              refine EW.bln ?_
              refine EW.thn ?_
              exact fun a w hs hM => ⟨v12, hs.sub ⟨rfl, rfl, rfl, rfl, trivial⟩, hM.sub (.cons_cons _ (.cons_cons _ (.cons_cons _ .slnil))), hm⟩
        · rintro a w ⟨v9, hs, hM, hm⟩
          unfold turned_j2 at hm
          refine CW.enter hs hM ?_
          refine CW.region ?_
          refine RW.yi (.int .i64 (w64 (v6 + 1))) rfl rfl (Yi.pv _ rfl) ?_
          refine RW.yi (.int .i64 (w64 (v6 + 1))) rfl rfl (Yi.pv _ rfl) ?_
          refine RW.nil ?_
          refine EW.thn ?_
          exact fun a w hs hM => ⟨(w64 (v6 + 1)), v9, hs.sub ⟨rfl, rfl, rfl, rfl, trivial⟩, hM.sub (.cons_cons _ (.cons_cons _ (.cons_cons _ .slnil))), hm⟩
      · replace hm := (if_neg h8).symm.trans hm
        refine CW.cond_false rfl ?_
        refine CW.exit ?_
        refine EW.thx ?_
        refine EW.thx ?_
        refine EW.blx ?_
        refine EW.thn ?_
        exact fun a w hs hM => ⟨v7, hs.sub ⟨rfl, rfl, trivial⟩, hM.sub (.cons_cons _ (.cons_cons _ (.cons _ .slnil))), hm⟩
  · rintro a w ⟨v4, hs, hM, hm⟩
    unfold turned_j1 at hm
    refine CW.enter hs hM ?_
    refine CW.seq ?_
    refine CW.region ?_
    refine RW.yi (.agg (cf 64 (iv v4))) rfl rfl (Yi.loadW (i := 0) rfl rfl Tryd.isAgg46 Tryd.sizeOf46) ?_
    refine RW.storeW (i := 1) (cs' := cf 64 (iv v4)) rfl rfl rfl rfl (by rw [cf_size]; kernel_rfl) (by simp only [cf_size]) (iv_one _ _) ?_
    refine RW.nil ?_
    refine EW.next ?_
    refine CW.ret ?_
    obtain rfl := Option.some.inj hm
    exact EW.done (rs := [.cell 2 46]) rfl (.cellW (i := 1) rfl rfl Tryd.isAgg46 Tryd.sizeOf46 .nil) (fun _ hM => ⟨rfl, hM.below⟩)
def pass_j1 (_ : Nat)   (v5 : (Nat → Int)) : Option ((Nat → Int)) :=
  some v5

def pass_j2 (_ : Nat) (cb_pass_l1 : Int → (Nat → Int) → Option ((Nat → Int))) (v7 : Int) (v10 : (Nat → Int)) : Option ((Nat → Int)) :=
  cb_pass_l1 (w64 (v7 + 1)) v10

def pass_j3 (_ : Nat) (cb_pass_l2 : Int → (Nat → Int) → Option ((Nat → Int))) (v12 : Int) (v15 : (Nat → Int)) : Option ((Nat → Int)) :=
  cb_pass_l2 (w64 (v12 + 1)) v15

def pass_j4 (K : Nat) (cb_pass_l2 : Int → (Nat → Int) → Option ((Nat → Int))) (v7 : Int) (v12 : Int) (v13 : (Nat → Int)) (v16 : Int) : Option ((Nat → Int)) :=
  (if 0 ≤ (w64 ((w64 (8 * v7)) + v12)) ∧ (w64 ((w64 (8 * v7)) + v12)) < 64 then pass_j3 K cb_pass_l2 v12 (upd v13 ((w64 ((w64 (8 * v7)) + v12)).toNat) v16) else none)

def pass_l3 (K : Nat) (cb_pass_l2 : Int → (Nat → Int) → Option ((Nat → Int))) (a0_m : (Nat → Int)) (a1_b : (Nat → Int)) (v7 : Int) (v12 : Int) (v13 : (Nat → Int)) : Nat → Int → Int →  Option ((Nat → Int))
  | 0, _, _ => none
  | k3 + 1, v18, v19 =>
    (if v19 < 8 then (if 0 ≤ v7 ∧ v7 < 8 then (if 0 ≤ v19 ∧ v19 < 8 then (if 0 ≤ (w64 ((w64 (8 * v12)) + v19)) ∧ (w64 ((w64 (8 * v12)) + v19)) < 64 then (pass_l3 K cb_pass_l2 a0_m a1_b v7 v12 v13 k3) (w64 (v18 + (w64 ((a0_m (v7.toNat * 8 + v19.toNat)) * (a1_b ((w64 ((w64 (8 * v12)) + v19)).toNat)))))) (w64 (v19 + 1)) else none) else none) else none) else pass_j4 K cb_pass_l2 v7 v12 v13 v18)

def pass_l2 (K : Nat) (cb_pass_l1 : Int → (Nat → Int) → Option ((Nat → Int))) (a0_m : (Nat → Int)) (a1_b : (Nat → Int)) (v7 : Int) : Nat → Int → (Nat → Int) →  Option ((Nat → Int))
  | 0, _, _ => none
  | k2 + 1, v12, v13 =>
    (if v12 < 8 then pass_l3 K (pass_l2 K cb_pass_l1 a0_m a1_b v7 k2) a0_m a1_b v7 v12 v13 K 0 0 else pass_j2 K cb_pass_l1 v7 v13)

def pass_l1 (K : Nat) (a0_m : (Nat → Int)) (a1_b : (Nat → Int)) : Nat → Int → (Nat → Int) →  Option ((Nat → Int))
  | 0, _, _ => none
  | k1 + 1, v7, v8 =>
    (if v7 < 8 then pass_l2 K (pass_l1 K a0_m a1_b k1) a0_m a1_b v7 K 0 v8 else pass_j1 K v8)

def pass (K : Nat) (a0_m : (Nat → Int)) (a1_b : (Nat → Int)) : Option ((Nat → Int)) :=
  pass_l1 K a0_m a1_b K 0 zf

theorem c_pass (K : Nat) (a0_m : (Nat → Int)) (a1_b : (Nat → Int)) (r : (Nat → Int)) (w0 : World) (hm : pass K a0_m a1_b = some r) : Calls Tryd.prog 41 #[.agg (cf 64 (iv a0_m)), .agg (cf 64 (iv a1_b))] w0 fun e w' => e = .returned (.agg (cf 64 (iv r))) ∧ Below w0.heap.size w0 w' := by
  unfold pass at hm
  refine calls_CW (n := 43) w0 [] [] Tryd.func41 rfl rfl rfl (Mem.begin w0) ?_
  refine CW.seq ?_
  refine CW.region ?_
  refine RW.box (v := .agg (cf 64 (iv a0_m))) rfl rfl rfl (fun b1 => ?_)
  refine RW.box (v := .agg (cf 64 (iv a1_b))) rfl rfl rfl (fun b2 => ?_)
  refine RW.alloc (z := .agg (cf 64 (iv zf))) (cf 64 (iv zf)) rfl rfl (fun _ => by kernel_rfl) rfl (fun b3 => ?_)
  refine RW.nil ?_
  refine EW.next ?_
  refine CW.seq ?_
  refine CW.region ?_
  refine RW.alloc (z := .agg (cf 64 (iv zf))) (cf 64 (iv zf)) rfl rfl (fun _ => by kernel_rfl) rfl (fun b4 => ?_)
  refine RW.nil ?_
  refine EW.next ?_
  refine CW.join (fun a w => ∃ (v5 : (Nat → Int)), St 43 [(4, .pointer (some ⟨b3, 0, none⟩)), (5, .pointer (some ⟨b4, 0, none⟩))] a ∧ Mem w0 [] [.blk b4 23 (cf 64 (iv v5)), .blk b3 23 (cf 64 (iv zf))] w ∧ pass_j1 K v5 = some r) ?_ ?_
  · refine CW.seq ?_
    refine CW.region ?_
    refine RW.yi (.int .i64 0) rfl rfl (Yi.pv _ rfl) ?_
    refine RW.nil ?_
    refine EW.next ?_
    refine CW.block ?_
    refine CW.loop (fun k a w => ∃ (v7 : Int) (v8 : (Nat → Int)), St 43 [(2, .pointer (some ⟨b1, 0, none⟩)), (3, .pointer (some ⟨b2, 0, none⟩)), (4, .pointer (some ⟨b3, 0, none⟩)), (5, .pointer (some ⟨b4, 0, none⟩)), (10, .int .i64 v7)] a ∧ Mem w0 [] [.blk b4 23 (cf 64 (iv v8)), .blk b3 23 (cf 64 (iv zf)), .blk b2 23 (cf 64 (iv a1_b)), .blk b1 46 (cf 64 (iv a0_m))] w ∧ pass_l1 K a0_m a1_b k v7 v8 = some r) K ?_ ?_ ?_
    · rintro a w ⟨_, _, _, _, hm⟩
      rw [pass_l1.eq_1] at hm
      cases hm
    · exact fun a w hs hM => ⟨0, zf, hs.sub ⟨rfl, rfl, rfl, rfl, rfl, trivial⟩, hM.sub (.cons_cons _ (.cons_cons _ (.cons_cons _ (.cons_cons _ .slnil)))), hm⟩
    · rintro k1 a w ⟨v7, v8, hs, hM, hm⟩
      rw [pass_l1.eq_2] at hm
      refine CW.enter hs hM ?_
      refine CW.seq ?_
      refine CW.region ?_
      refine RW.yi (.bool (decide (v7 < 8))) rfl rfl (Yi.pv _ rfl) ?_
      refine RW.nil ?_
      refine EW.next ?_
      refine CW.seq ?_
      refine CW.fork 11 (v7 < 8) rfl (fun h9 => ?_) (fun h9 => ?_)
      · replace hm := (if_pos h9).symm.trans hm
        refine CW.cond_true rfl ?_
        refine CW.skip ?_
        refine EW.next ?_
        refine CW.join (fun a w => ∃ (v10 : (Nat → Int)), St 43 [(2, .pointer (some ⟨b1, 0, none⟩)), (3, .pointer (some ⟨b2, 0, none⟩)), (4, .pointer (some ⟨b3, 0, none⟩)), (5, .pointer (some ⟨b4, 0, none⟩)), (10, .int .i64 v7)] a ∧ Mem w0 [] [.blk b4 23 (cf 64 (iv v10)), .blk b3 23 (cf 64 (iv zf)), .blk b2 23 (cf 64 (iv a1_b)), .blk b1 46 (cf 64 (iv a0_m))] w ∧ pass_j2 K (pass_l1 K a0_m a1_b k1) v7 v10 = some r) ?_ ?_
        · refine CW.block ?_
          refine CW.seq ?_
          refine CW.region ?_
          refine RW.yi (.int .i64 v7) rfl rfl (Yi.pv _ rfl) ?_
          refine RW.yi (.int .i64 v7) rfl rfl (Yi.pv _ rfl) ?_
          refine RW.nil ?_
          refine EW.next ?_
          refine CW.seq ?_
          refine CW.region ?_
          refine RW.yi (.int .i64 0) rfl rfl (Yi.pv _ rfl) ?_
          refine RW.nil ?_
          refine EW.next ?_
          refine CW.block ?_
          refine CW.loop (fun k a w => ∃ (v12 : Int) (v13 : (Nat → Int)), St 43 [(2, .pointer (some ⟨b1, 0, none⟩)), (3, .pointer (some ⟨b2, 0, none⟩)), (4, .pointer (some ⟨b3, 0, none⟩)), (5, .pointer (some ⟨b4, 0, none⟩)), (6, .int .i64 v7), (10, .int .i64 v7), (13, .int .i64 v12)] a ∧ Mem w0 [] [.blk b4 23 (cf 64 (iv v13)), .blk b3 23 (cf 64 (iv zf)), .blk b2 23 (cf 64 (iv a1_b)), .blk b1 46 (cf 64 (iv a0_m))] w ∧ pass_l2 K (pass_l1 K a0_m a1_b k1) a0_m a1_b v7 k v12 v13 = some r) K ?_ ?_ ?_
          · rintro a w ⟨_, _, _, _, hm⟩
            rw [pass_l2.eq_1] at hm
            cases hm
          · exact fun a w hs hM => ⟨0, v8, hs.sub ⟨rfl, rfl, rfl, rfl, rfl, rfl, rfl, trivial⟩, hM.sub (.cons_cons _ (.cons_cons _ (.cons_cons _ (.cons_cons _ .slnil)))), hm⟩
          · rintro k2 a w ⟨v12, v13, hs, hM, hm⟩
            rw [pass_l2.eq_2] at hm
            refine CW.enter hs hM ?_
            refine CW.seq ?_
            refine CW.region ?_
            refine RW.yi (.bool (decide (v12 < 8))) rfl rfl (Yi.pv _ rfl) ?_
            refine RW.nil ?_
            refine EW.next ?_
            refine CW.seq ?_
            refine CW.fork 14 (v12 < 8) rfl (fun h14 => ?_) (fun h14 => ?_)
            · replace hm := (if_pos h14).symm.trans hm
              refine CW.cond_true rfl ?_
              refine CW.skip ?_
              refine EW.next ?_
              refine CW.join (fun a w => ∃ (v15 : (Nat → Int)), St 43 [(2, .pointer (some ⟨b1, 0, none⟩)), (3, .pointer (some ⟨b2, 0, none⟩)), (4, .pointer (some ⟨b3, 0, none⟩)), (5, .pointer (some ⟨b4, 0, none⟩)), (6, .int .i64 v7), (10, .int .i64 v7), (13, .int .i64 v12)] a ∧ Mem w0 [] [.blk b4 23 (cf 64 (iv v15)), .blk b3 23 (cf 64 (iv zf)), .blk b2 23 (cf 64 (iv a1_b)), .blk b1 46 (cf 64 (iv a0_m))] w ∧ pass_j3 K (pass_l2 K (pass_l1 K a0_m a1_b k1) a0_m a1_b v7 k2) v12 v15 = some r) ?_ ?_
              · refine CW.block ?_
                refine CW.seq ?_
                refine CW.region ?_
                refine RW.yi (.int .i64 v12) rfl rfl (Yi.pv _ rfl) ?_
                refine RW.yi (.int .i64 v12) rfl rfl (Yi.pv _ rfl) ?_
                refine RW.nil ?_
                refine EW.next ?_
                refine CW.seq ?_
                refine CW.region ?_
                refine RW.yi (.int .i64 0) rfl rfl (Yi.pv _ rfl) ?_
                refine RW.nil ?_
                refine EW.next ?_
                refine CW.join (fun a w => ∃ (v16 : Int), St 43 [(2, .pointer (some ⟨b1, 0, none⟩)), (3, .pointer (some ⟨b2, 0, none⟩)), (4, .pointer (some ⟨b3, 0, none⟩)), (5, .pointer (some ⟨b4, 0, none⟩)), (6, .int .i64 v7), (7, .int .i64 v12), (8, .int .i64 v16), (10, .int .i64 v7), (13, .int .i64 v12)] a ∧ Mem w0 [] [.blk b4 23 (cf 64 (iv v13)), .blk b3 23 (cf 64 (iv zf)), .blk b2 23 (cf 64 (iv a1_b)), .blk b1 46 (cf 64 (iv a0_m))] w ∧ pass_j4 K (pass_l2 K (pass_l1 K a0_m a1_b k1) a0_m a1_b v7 k2) v7 v12 v13 v16 = some r) ?_ ?_
                · refine CW.seq ?_
                  refine CW.region ?_
                  refine RW.yi (.int .i64 0) rfl rfl (Yi.pv _ rfl) ?_
                  refine RW.nil ?_
                  refine EW.next ?_
                  refine CW.block ?_
                  refine CW.loop (fun k a w => ∃ (v18 : Int) (v19 : Int), St 43 [(2, .pointer (some ⟨b1, 0, none⟩)), (3, .pointer (some ⟨b2, 0, none⟩)), (4, .pointer (some ⟨b3, 0, none⟩)), (5, .pointer (some ⟨b4, 0, none⟩)), (6, .int .i64 v7), (7, .int .i64 v12), (8, .int .i64 v18), (10, .int .i64 v7), (13, .int .i64 v12), (16, .int .i64 v19)] a ∧ Mem w0 [] [.blk b4 23 (cf 64 (iv v13)), .blk b3 23 (cf 64 (iv zf)), .blk b2 23 (cf 64 (iv a1_b)), .blk b1 46 (cf 64 (iv a0_m))] w ∧ pass_l3 K (pass_l2 K (pass_l1 K a0_m a1_b k1) a0_m a1_b v7 k2) a0_m a1_b v7 v12 v13 k v18 v19 = some r) K ?_ ?_ ?_
                  · rintro a w ⟨_, _, _, _, hm⟩
                    rw [pass_l3.eq_1] at hm
                    cases hm
                  · exact fun a w hs hM => ⟨0, 0, hs.sub ⟨rfl, rfl, rfl, rfl, rfl, rfl, rfl, rfl, rfl, rfl, trivial⟩, hM.sub (.cons_cons _ (.cons_cons _ (.cons_cons _ (.cons_cons _ .slnil)))), hm⟩
                  · rintro k3 a w ⟨v18, v19, hs, hM, hm⟩
                    rw [pass_l3.eq_2] at hm
                    refine CW.enter hs hM ?_
                    refine CW.seq ?_
                    refine CW.region ?_
                    refine RW.yi (.bool (decide (v19 < 8))) rfl rfl (Yi.pv _ rfl) ?_
                    refine RW.nil ?_
                    refine EW.next ?_
                    refine CW.seq ?_
                    refine CW.fork 17 (v19 < 8) rfl (fun h20 => ?_) (fun h20 => ?_)
                    · replace hm := (if_pos h20).symm.trans hm
                      refine CW.cond_true rfl ?_
                      refine CW.skip ?_
                      refine EW.next ?_
                      refine CW.seq ?_
                      refine CW.block ?_
                      refine CW.seq ?_
                      refine CW.region ?_
                      refine RW.yi (.int .i64 v19) rfl rfl (Yi.pv _ rfl) ?_
                      refine RW.yi (.int .i64 v19) rfl rfl (Yi.pv _ rfl) ?_
                      refine RW.nil ?_
                      refine EW.next ?_
                      refine CW.draws (by kernel_rfl) (by kernel_rfl) ?_
                      refine QW.yi (.int .i64 v18) rfl rfl (Yi.pv _ rfl) ?_
                      refine QW.yi (.int .i64 v7) rfl rfl (Yi.pv _ rfl) ?_
                      refine QW.yi (.int .i64 v19) rfl rfl (Yi.pv _ rfl) ?_
                      obtain ⟨g21, hm⟩ := of_guard hm
                      refine QW.yi (.pointer (some ⟨b1, v7.toNat * 8, none⟩)) rfl rfl (Yi.indexAddr' _ Tryd.underlying46 Tryd.sizeOf45 rfl rfl g21.1 g21.2 (by omega)) ?_
                      obtain ⟨g22, hm⟩ := of_guard hm
                      refine QW.yi (.pointer (some ⟨b1, v7.toNat * 8 + v19.toNat, none⟩)) rfl rfl (Yi.indexAddr' _ Tryd.underlying45 Tryd.sizeOf3 rfl rfl g22.1 g22.2 (by omega)) ?_
                      refine QW.yi (.int .i64 (a0_m (v7.toNat * 8 + v19.toNat))) rfl rfl (Yi.load1 (i := 3) _ rfl rfl Tryd.isAgg3 (cf_get (by omega))) ?_
                      refine QW.yi (.int .i64 v12) rfl rfl (Yi.pv _ rfl) ?_
                      refine QW.yi (.int .i64 (w64 (8 * v12))) rfl rfl (Yi.pv _ rfl) ?_
                      refine QW.yi (.int .i64 v19) rfl rfl (Yi.pv _ rfl) ?_
                      refine QW.yi (.int .i64 (w64 ((w64 (8 * v12)) + v19))) rfl rfl (Yi.pv _ rfl) ?_
                      obtain ⟨g23, hm⟩ := of_guard hm
                      refine QW.yi (.pointer (some ⟨b2, (w64 ((w64 (8 * v12)) + v19)).toNat, none⟩)) rfl rfl (Yi.indexAddr' _ Tryd.underlying23 Tryd.sizeOf3 rfl rfl g23.1 g23.2 (by omega)) ?_
                      refine QW.yi (.int .i64 (a1_b ((w64 ((w64 (8 * v12)) + v19)).toNat))) rfl rfl (Yi.load1 (i := 2) _ rfl rfl Tryd.isAgg3 (cf_get (by omega))) ?_
                      refine QW.yi (.int .i64 (w64 ((a0_m (v7.toNat * 8 + v19.toNat)) * (a1_b ((w64 ((w64 (8 * v12)) + v19)).toNat))))) rfl rfl (Yi.pv _ rfl) ?_
                      refine QW.yi (.int .i64 (w64 (v18 + (w64 ((a0_m (v7.toNat * 8 + v19.toNat)) * (a1_b ((w64 ((w64 (8 * v12)) + v19)).toNat))))))) rfl rfl (Yi.pv _ rfl) ?_
                      refine QW.yi (.int .i64 (w64 (v18 + (w64 ((a0_m (v7.toNat * 8 + v19.toNat)) * (a1_b ((w64 ((w64 (8 * v12)) + v19)).toNat))))))) rfl rfl (Yi.pv _ rfl) ?_
                      refine QW.nil ?_
                      refine EW.bln ?_
                      refine EW.next ?_
                      refine CW.region ?_
                      refine RW.yi (.int .i64 (w64 (v19 + 1))) rfl rfl (Yi.pv _ rfl) ?_
                      refine RW.yi (.int .i64 (w64 (v19 + 1))) rfl rfl (Yi.pv _ rfl) ?_
                      refine RW.nil ?_
                      refine EW.thn ?_
                      exact fun a w hs hM => ⟨(w64 (v18 + (w64 ((a0_m (v7.toNat * 8 + v19.toNat)) * (a1_b ((w64 ((w64 (8 * v12)) + v19)).toNat)))))), (w64 (v19 + 1)), hs.sub ⟨rfl, rfl, rfl, rfl, rfl, rfl, rfl, rfl, rfl, rfl, trivial⟩, hM.sub (.cons_cons _ (.cons_cons _ (.cons_cons _ (.cons_cons _ .slnil)))), hm⟩
                    · replace hm := (if_neg h20).symm.trans hm
                      refine CW.cond_false rfl ?_
                      refine CW.exit ?_
                      refine EW.thx ?_
                      refine EW.thx ?_
                      refine EW.blx ?_
                      refine EW.thn ?_
                      exact fun a w hs hM => ⟨v18, hs.sub ⟨rfl, rfl, rfl, rfl, rfl, rfl, rfl, rfl, rfl, trivial⟩, hM.sub (.cons_cons _ (.cons_cons _ (.cons_cons _ (.cons_cons _ .slnil)))), hm⟩
                · rintro a w ⟨v16, hs, hM, hm⟩
                  unfold pass_j4 at hm
                  refine CW.enter hs hM ?_
                  refine CW.region ?_
                  refine RW.yi (.int .i64 v7) rfl rfl (Yi.pv _ rfl) ?_
                  refine RW.yi (.int .i64 (w64 (8 * v7))) rfl rfl (Yi.pv _ rfl) ?_
                  refine RW.yi (.int .i64 v12) rfl rfl (Yi.pv _ rfl) ?_
                  refine RW.yi (.int .i64 (w64 ((w64 (8 * v7)) + v12))) rfl rfl (Yi.pv _ rfl) ?_
                  refine RW.yi (.int .i64 v16) rfl rfl (Yi.pv _ rfl) ?_
                  obtain ⟨g17, hm⟩ := of_guard hm
                  refine RW.yi (.pointer (some ⟨b4, (w64 ((w64 (8 * v7)) + v12)).toNat, none⟩)) rfl rfl (Yi.indexAddr' _ Tryd.underlying23 Tryd.sizeOf3 rfl rfl g17.1 g17.2 (by omega)) ?_
                  refine RW.store1 (i := 0) (cs' := cf 64 (iv (upd v13 ((w64 ((w64 (8 * v7)) + v12)).toNat) v16))) rfl rfl rfl rfl Tryd.sizeOf3 rfl rfl (by rw [cf_size]; omega) (by rw [cf_set, iv_upd]) ?_
                  refine RW.nil ?_
                  refine EW.bln ?_
                  refine EW.thn ?_
                  exact fun a w hs hM => ⟨(upd v13 ((w64 ((w64 (8 * v7)) + v12)).toNat) v16), hs.sub ⟨rfl, rfl, rfl, rfl, rfl, rfl, rfl, trivial⟩, hM.sub (.cons_cons _ (.cons_cons _ (.cons_cons _ (.cons_cons _ .slnil)))), hm⟩
              · rintro a w ⟨v15, hs, hM, hm⟩
                unfold pass_j3 at hm
                refine CW.enter hs hM ?_
                refine CW.region ?_
                refine RW.yi (.int .i64 (w64 (v12 + 1))) rfl rfl (Yi.pv _ rfl) ?_
                refine RW.yi (.int .i64 (w64 (v12 + 1))) rfl rfl (Yi.pv _ rfl) ?_
                refine RW.nil ?_
                refine EW.thn ?_
                exact fun a w hs hM => ⟨(w64 (v12 + 1)), v15, hs.sub ⟨rfl, rfl, rfl, rfl, rfl, rfl, rfl, trivial⟩, hM.sub (.cons_cons _ (.cons_cons _ (.cons_cons _ (.cons_cons _ .slnil)))), hm⟩
            · replace hm := (if_neg h14).symm.trans hm
              refine CW.cond_false rfl ?_
              refine CW.exit ?_
              refine EW.thx ?_
              refine EW.thx ?_
              refine EW.blx ?_
              refine EW.bln ?_
              refine EW.thn ?_
              exact fun a w hs hM => ⟨v13, hs.sub ⟨rfl, rfl, rfl, rfl, rfl, trivial⟩, hM.sub (.cons_cons _ (.cons_cons _ (.cons_cons _ (.cons_cons _ .slnil)))), hm⟩
        · rintro a w ⟨v10, hs, hM, hm⟩
          unfold pass_j2 at hm
          refine CW.enter hs hM ?_
          refine CW.region ?_
          refine RW.yi (.int .i64 (w64 (v7 + 1))) rfl rfl (Yi.pv _ rfl) ?_
          refine RW.yi (.int .i64 (w64 (v7 + 1))) rfl rfl (Yi.pv _ rfl) ?_
          refine RW.nil ?_
          refine EW.thn ?_
          exact fun a w hs hM => ⟨(w64 (v7 + 1)), v10, hs.sub ⟨rfl, rfl, rfl, rfl, rfl, trivial⟩, hM.sub (.cons_cons _ (.cons_cons _ (.cons_cons _ (.cons_cons _ .slnil)))), hm⟩
      · replace hm := (if_neg h9).symm.trans hm
        refine CW.cond_false rfl ?_
        refine CW.exit ?_
        refine EW.thx ?_
        refine EW.thx ?_
        refine EW.blx ?_
        refine EW.thn ?_
        exact fun a w hs hM => ⟨v8, hs.sub ⟨rfl, rfl, trivial⟩, hM.sub (.cons_cons _ (.cons_cons _ (.cons _ (.cons _ .slnil)))), hm⟩
  · rintro a w ⟨v5, hs, hM, hm⟩
    unfold pass_j1 at hm
    refine CW.enter hs hM ?_
    refine CW.seq ?_
    refine CW.region ?_
    refine RW.yi (.agg (cf 64 (iv v5))) rfl rfl (Yi.loadW (i := 0) rfl rfl Tryd.isAgg23 Tryd.sizeOf23) ?_
    refine RW.storeW (i := 1) (cs' := cf 64 (iv v5)) rfl rfl rfl rfl (by rw [cf_size]; kernel_rfl) (by simp only [cf_size]) (iv_one _ _) ?_
    refine RW.nil ?_
    refine EW.next ?_
    refine CW.ret ?_
    obtain rfl := Option.some.inj hm
    exact EW.done (rs := [.cell 4 23]) rfl (.cellW (i := 1) rfl rfl Tryd.isAgg23 Tryd.sizeOf23 .nil) (fun _ hM => ⟨rfl, hM.below⟩)
def rIn_j1 (_ : Nat)    : Option (Bool) :=
  some true

def rIn_l1 (K : Nat) (a0_b : (Nat → Int)) (a1_low : Int) (a2_high : Int) : Nat → Int →  Option (Bool)
  | 0, _ => none
  | k1 + 1, v2 =>
    (if v2 < 64 then (if 0 ≤ v2 ∧ v2 < 64 then (if (a0_b v2.toNat) < a1_low then some false else (if a2_high < (a0_b v2.toNat) then some false else (rIn_l1 K a0_b a1_low a2_high k1) (w64 (v2 + 1)))) else none) else rIn_j1 K)

def rIn (K : Nat) (a0_b : (Nat → Int)) (a1_low : Int) (a2_high : Int) : Option (Bool) :=
  rIn_l1 K a0_b a1_low a2_high K 0

theorem c_rIn (K : Nat) (a0_b : (Nat → Int)) (a1_low : Int) (a2_high : Int) (r : Bool) (w0 : World) (hm : rIn K a0_b a1_low a2_high = some r) : Calls Tryd.prog 25 #[.agg (cf 64 (iv a0_b)), .int .i64 a1_low, .int .i64 a2_high] w0 fun e w' => e = .returned (.bool r) ∧ Below w0.heap.size w0 w' := by
  unfold rIn at hm
  refine calls_CW (n := 24) w0 [] [] Tryd.func25 rfl rfl rfl (Mem.begin w0) ?_
  refine CW.seq ?_
  refine CW.region ?_
  refine RW.box (v := .agg (cf 64 (iv a0_b))) rfl rfl rfl (fun b1 => ?_)
  refine RW.yi (.bool false) rfl rfl (Yi.pv _ rfl) ?_
  refine RW.nil ?_
  refine EW.next ?_
  refine CW.join (fun a w => St 24 [] a ∧ Mem w0 [] [] w ∧ rIn_j1 K = some r) ?_ ?_
  · refine CW.seq ?_
    refine CW.region ?_
    refine RW.yi (.int .i64 0) rfl rfl (Yi.pv _ rfl) ?_
    refine RW.nil ?_
    refine EW.next ?_
    refine CW.block ?_
    refine CW.loop (fun k a w => ∃ (v2 : Int), St 24 [(1, .int .i64 a1_low), (2, .int .i64 a2_high), (3, .pointer (some ⟨b1, 0, none⟩)), (7, .int .i64 v2)] a ∧ Mem w0 [] [.blk b1 23 (cf 64 (iv a0_b))] w ∧ rIn_l1 K a0_b a1_low a2_high k v2 = some r) K ?_ ?_ ?_
    · rintro a w ⟨_, _, _, hm⟩
      rw [rIn_l1.eq_1] at hm
      cases hm
    · exact fun a w hs hM => ⟨0, hs.sub ⟨rfl, rfl, rfl, rfl, trivial⟩, hM.sub (.cons_cons _ .slnil), hm⟩
    · rintro k1 a w ⟨v2, hs, hM, hm⟩
      rw [rIn_l1.eq_2] at hm
      refine CW.enter hs hM ?_
      refine CW.seq ?_
      refine CW.seq ?_
      refine CW.region ?_
      refine RW.yi (.int .i64 v2) rfl rfl (Yi.pv _ rfl) ?_
      refine RW.yi (.bool (decide (v2 < 64))) rfl rfl (Yi.pv _ rfl) ?_
      refine RW.nil ?_
      refine EW.next ?_
      refine CW.fork 9 (v2 < 64) rfl (fun h3 => ?_) (fun h3 => ?_)
      · replace hm := (if_pos h3).symm.trans hm
        refine CW.cond_true rfl ?_
        refine CW.skip ?_
        refine EW.next ?_
        refine CW.seq ?_
        refine CW.block ?_
        refine CW.seq ?_
        refine CW.region ?_
        refine RW.yi (.int .i64 v2) rfl rfl (Yi.pv _ rfl) ?_
        obtain ⟨g4, hm⟩ := of_guard hm
        refine RW.yi (.pointer (some ⟨b1, v2.toNat, none⟩)) rfl rfl (Yi.indexAddr' _ Tryd.underlying23 Tryd.sizeOf3 rfl rfl g4.1 g4.2 (by omega)) ?_
        refine RW.yi (.int .i64 (a0_b v2.toNat)) rfl rfl (Yi.load1 (i := 0) _ rfl rfl Tryd.isAgg3 (cf_get (by omega))) ?_
        refine RW.yi (.int .i64 a1_low) rfl rfl (Yi.pv _ rfl) ?_
        refine RW.yi (.bool (decide ((a0_b v2.toNat) < a1_low))) rfl rfl (Yi.pv _ rfl) ?_
        refine RW.yi (.bool (decide ((a0_b v2.toNat) < a1_low))) rfl rfl (Yi.pv _ rfl) ?_
        refine RW.fork 17 ((a0_b v2.toNat) < a1_low) rfl (fun h5 => ?_) (fun h5 => ?_)
        · replace hm := (if_pos h5).symm.trans hm
          refine RW.pass rfl rfl ?_
          refine RW.pass rfl rfl ?_
          refine RW.pass rfl rfl ?_
          refine RW.pass rfl rfl ?_
          refine RW.pass rfl rfl ?_
          refine RW.yi (.bool true) rfl rfl (Yi.pv _ rfl) ?_
          refine RW.nil ?_
          refine EW.next ?_
          refine CW.cond_true rfl ?_
          refine CW.seq ?_
          refine CW.region ?_
          refine RW.yi (.bool false) rfl rfl (Yi.pv _ rfl) ?_
          refine RW.nil ?_
          refine EW.next ?_
          refine CW.ret ?_
          refine EW.blr ?_
          refine EW.thr ?_
          refine EW.thr ?_
          refine EW.blr ?_
          refine EW.thr ?_
          obtain rfl := Option.some.inj hm
          exact EW.done (rs := [.tmp 6]) rfl (.tmp (t := 6) (v := .bool false) rfl .nil) (fun _ hM => ⟨rfl, hM.below⟩)
        · replace hm := (if_neg h5).symm.trans hm
          refine RW.yi (.int .i64 v2) rfl rfl (Yi.pv _ rfl) ?_
          refine RW.yi (.pointer (some ⟨b1, v2.toNat, none⟩)) rfl rfl (Yi.indexAddr' _ Tryd.underlying23 Tryd.sizeOf3 rfl rfl g4.1 g4.2 (by omega)) ?_
          refine RW.yi (.int .i64 (a0_b v2.toNat)) rfl rfl (Yi.load1 (i := 0) _ rfl rfl Tryd.isAgg3 (cf_get (by omega))) ?_
          refine RW.yi (.int .i64 a2_high) rfl rfl (Yi.pv _ rfl) ?_
          refine RW.yi (.bool (decide (a2_high < (a0_b v2.toNat)))) rfl rfl (Yi.pv _ rfl) ?_
          refine RW.yi (.bool (decide (a2_high < (a0_b v2.toNat)))) rfl rfl (Yi.pv _ rfl) ?_
          refine RW.nil ?_
          refine EW.next ?_
          refine CW.fork 23 (a2_high < (a0_b v2.toNat)) rfl (fun h6 => ?_) (fun h6 => ?_)
          · replace hm := (if_pos h6).symm.trans hm
            refine CW.cond_true rfl ?_
            refine CW.seq ?_
            refine CW.region ?_
            refine RW.yi (.bool false) rfl rfl (Yi.pv _ rfl) ?_
            refine RW.nil ?_
            refine EW.next ?_
            refine CW.ret ?_
            refine EW.blr ?_
            refine EW.thr ?_
            refine EW.thr ?_
            refine EW.blr ?_
            refine EW.thr ?_
            obtain rfl := Option.some.inj hm
            exact EW.done (rs := [.tmp 6]) rfl (.tmp (t := 6) (v := .bool false) rfl .nil) (fun _ hM => ⟨rfl, hM.below⟩)
          · replace hm := (if_neg h6).symm.trans hm
            refine CW.cond_false rfl ?_
            refine CW.skip ?_
            refine EW.bln ?_
            refine EW.next ?_
            refine CW.region ?_
            refine RW.yi (.int .i64 v2) rfl rfl (Yi.pv _ rfl) ?_
            refine RW.yi (.int .i64 (w64 (v2 + 1))) rfl rfl (Yi.pv _ rfl) ?_
            refine RW.yi (.int .i64 (w64 (v2 + 1))) rfl rfl (Yi.pv _ rfl) ?_
            refine RW.nil ?_
            refine EW.thn ?_
            exact fun a w hs hM => ⟨(w64 (v2 + 1)), hs.sub ⟨rfl, rfl, rfl, rfl, trivial⟩, hM.sub (.cons_cons _ .slnil), hm⟩
      · replace hm := (if_neg h3).symm.trans hm
        refine CW.cond_false rfl ?_
        refine CW.exit ?_
        refine EW.thx ?_
        refine EW.thx ?_
        refine EW.blx ?_
        refine EW.thn ?_
        exact fun a w hs hM => ⟨hs.sub trivial, hM.sub (.cons _ .slnil), hm⟩
  · rintro a w ⟨hs, hM, hm⟩
    unfold rIn_j1 at hm
    refine CW.enter hs hM ?_
    refine CW.seq ?_
    refine CW.region ?_
    refine RW.yi (.bool true) rfl rfl (Yi.pv _ rfl) ?_
    refine RW.nil ?_
    refine EW.next ?_
    refine CW.ret ?_
    obtain rfl := Option.some.inj hm
    exact EW.done (rs := [.tmp 6]) rfl (.tmp (t := 6) (v := .bool true) rfl .nil) (fun _ hM => ⟨rfl, hM.below⟩)
end Go.Proofs.YtfpafpmcfkapkaaDoor