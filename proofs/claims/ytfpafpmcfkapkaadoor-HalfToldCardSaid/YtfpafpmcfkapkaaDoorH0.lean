import Derived.Test.YtfpafpmcfkapkaaDoorQ1
import Derived.Test.YtfpafpmcfkapkaaDoorK5
set_option maxRecDepth 100000
namespace Go.Proofs.YtfpafpmcfkapkaaDoor
open Go Go.RowKit K
def partsL : List Int := [2896, 0, 0, 0, 2624, 1204, -216, 66, 0, 2896, 0, 0, -922, 2291, 1487, -283, 0, 0, 2896, 0, 616, -1021, 2225, 1420, 0, 0, 0, 2896, -522, 805, -1087, 2507, 2896, 0, 0, 0, -2624, 1204, 216, 66, 0, -2896, 0, 0, 922, 2291, -1487, -283, 0, 0, 2896, 0, -616, -1021, -2225, 1420, 0, 0, 0, -2896, 522, 805, 1087, 2507]
def partsF : Nat → Int := lf partsL
def GH : List (Nat × Nat × (Nat → Value)) := [(1, 64, iv partsF)]
def rIn_j1 (_ : Nat)    : Option (Bool) :=
  some true

def rIn_l1 (K : Nat) (a0_b : (Nat → Int)) (a1_low : Int) (a2_high : Int) : Nat → Int →  Option (Bool)
  | 0, _ => none
  | k1 + 1, v2 =>
    (if v2 < 64 then (if 0 ≤ v2 ∧ v2 < 64 then (if (a0_b v2.toNat) < a1_low then some false else (if a2_high < (a0_b v2.toNat) then some false else (rIn_l1 K a0_b a1_low a2_high k1) (w64 (v2 + 1)))) else none) else rIn_j1 K)

def rIn (K : Nat) (a0_b : (Nat → Int)) (a1_low : Int) (a2_high : Int) : Option (Bool) :=
  rIn_l1 K a0_b a1_low a2_high K 0

theorem c_rIn (K : Nat) (a0_b : (Nat → Int)) (a1_low : Int) (a2_high : Int) (r : Bool) (w0 : World) (hm : rIn K a0_b a1_low a2_high = some r) : Calls Tryd.prog 25 #[.agg (cf 64 (iv a0_b)), .int .i64 a1_low, .int .i64 a2_high] w0 fun e w' => e = .returned (.bool r) ∧ Below w0.heap.size w0 w' := by
  unfold rIn at hm
  refine calls_CW (n := 24) w0 [] [] Tryd.func25 rfl rfl rfl (Mem.begin w0) ?_
  refine CW.seq ?_
  refine CW.region ?_
  refine RW.box (v := .agg (cf 64 (iv a0_b))) rfl rfl rfl (fun b1 => ?_)
  refine RW.yi (.bool false) rfl rfl (Yi.pv _ rfl) ?_
  refine RW.nil ?_
  refine EW.next ?_
  refine CW.join (fun a w => St 24 [] a ∧ Mem w0 [] [] w ∧ rIn_j1 K = some r) ?_ ?_
  · refine CW.seq ?_
    refine CW.region ?_
    refine RW.yi (.int .i64 0) rfl rfl (Yi.pv _ rfl) ?_
    refine RW.nil ?_
    refine EW.next ?_
    refine CW.block ?_
    refine CW.loop (fun k a w => ∃ (v2 : Int), St 24 [(1, .int .i64 a1_low), (2, .int .i64 a2_high), (3, .pointer (some ⟨b1, 0, none⟩)), (7, .int .i64 v2)] a ∧ Mem w0 [] [.blk b1 23 (cf 64 (iv a0_b))] w ∧ rIn_l1 K a0_b a1_low a2_high k v2 = some r) K ?_ ?_ ?_
    · rintro a w ⟨_, _, _, hm⟩
      rw [rIn_l1.eq_1] at hm
      cases hm
    · exact fun a w hs hM => ⟨0, hs.sub ⟨rfl, rfl, rfl, rfl, trivial⟩, hM.sub (.cons_cons _ .slnil), hm⟩
    · rintro k1 a w ⟨v2, hs, hM, hm⟩
      rw [rIn_l1.eq_2] at hm
      refine CW.enter hs hM ?_
      refine CW.seq ?_
      refine CW.seq ?_
      refine CW.region ?_
      refine RW.yi (.int .i64 v2) rfl rfl (Yi.pv _ rfl) ?_
      refine RW.yi (.bool (decide (v2 < 64))) rfl rfl (Yi.pv _ rfl) ?_
      refine RW.nil ?_
      refine EW.next ?_
      refine CW.fork 9 (v2 < 64) rfl (fun h3 => ?_) (fun h3 => ?_)
      · replace hm := (if_pos h3).symm.trans hm
        refine CW.cond_true rfl ?_
        refine CW.skip ?_
        refine EW.next ?_
        refine CW.seq ?_
        refine CW.block ?_
        refine CW.seq ?_
        refine CW.region ?_
        refine RW.yi (.int .i64 v2) rfl rfl (Yi.pv _ rfl) ?_
        obtain ⟨g4, hm⟩ := of_guard hm
        refine RW.yi (.pointer (some ⟨b1, v2.toNat, none⟩)) rfl rfl (Yi.indexAddr' _ Tryd.underlying23 Tryd.sizeOf3 rfl rfl g4.1 g4.2 (by omega)) ?_
        refine RW.yi (.int .i64 (a0_b v2.toNat)) rfl rfl (Yi.load1 (i := 0) _ rfl rfl Tryd.isAgg3 (cf_get (by omega))) ?_
        refine RW.yi (.int .i64 a1_low) rfl rfl (Yi.pv _ rfl) ?_
        refine RW.yi (.bool (decide ((a0_b v2.toNat) < a1_low))) rfl rfl (Yi.pv _ rfl) ?_
        refine RW.yi (.bool (decide ((a0_b v2.toNat) < a1_low))) rfl rfl (Yi.pv _ rfl) ?_
        refine RW.fork 17 ((a0_b v2.toNat) < a1_low) rfl (fun h5 => ?_) (fun h5 => ?_)
        · replace hm := (if_pos h5).symm.trans hm
          refine RW.pass rfl rfl ?_
          refine RW.pass rfl rfl ?_
          refine RW.pass rfl rfl ?_
          refine RW.pass rfl rfl ?_
          refine RW.pass rfl rfl ?_
          refine RW.yi (.bool true) rfl rfl (Yi.pv _ rfl) ?_
          refine RW.nil ?_
          refine EW.next ?_
          refine CW.cond_true rfl ?_
          refine CW.seq ?_
          refine CW.region ?_
          refine RW.yi (.bool false) rfl rfl (Yi.pv _ rfl) ?_
          refine RW.nil ?_
          refine EW.next ?_
          refine CW.ret ?_
          refine EW.blr ?_
          refine EW.thr ?_
          refine EW.thr ?_
          refine EW.blr ?_
          refine EW.thr ?_
          obtain rfl := Option.some.inj hm
          exact EW.done (rs := [.tmp 6]) rfl (.tmp (t := 6) (v := .bool false) rfl .nil) (fun _ hM => ⟨rfl, hM.below⟩)
        · replace hm := (if_neg h5).symm.trans hm
          refine RW.yi (.int .i64 v2) rfl rfl (Yi.pv _ rfl) ?_
          refine RW.yi (.pointer (some ⟨b1, v2.toNat, none⟩)) rfl rfl (Yi.indexAddr' _ Tryd.underlying23 Tryd.sizeOf3 rfl rfl g4.1 g4.2 (by omega)) ?_
          refine RW.yi (.int .i64 (a0_b v2.toNat)) rfl rfl (Yi.load1 (i := 0) _ rfl rfl Tryd.isAgg3 (cf_get (by omega))) ?_
          refine RW.yi (.int .i64 a2_high) rfl rfl (Yi.pv _ rfl) ?_
          refine RW.yi (.bool (decide (a2_high < (a0_b v2.toNat)))) rfl rfl (Yi.pv _ rfl) ?_
          refine RW.yi (.bool (decide (a2_high < (a0_b v2.toNat)))) rfl rfl (Yi.pv _ rfl) ?_
          refine RW.nil ?_
          refine EW.next ?_
          refine CW.fork 23 (a2_high < (a0_b v2.toNat)) rfl (fun h6 => ?_) (fun h6 => ?_)
          · replace hm := (if_pos h6).symm.trans hm
            refine CW.cond_true rfl ?_
            refine CW.seq ?_
            refine CW.region ?_
            refine RW.yi (.bool false) rfl rfl (Yi.pv _ rfl) ?_
            refine RW.nil ?_
            refine EW.next ?_
            refine CW.ret ?_
            refine EW.blr ?_
            refine EW.thr ?_
            refine EW.thr ?_
            refine EW.blr ?_
            refine EW.thr ?_
            obtain rfl := Option.some.inj hm
            exact EW.done (rs := [.tmp 6]) rfl (.tmp (t := 6) (v := .bool false) rfl .nil) (fun _ hM => ⟨rfl, hM.below⟩)
          · replace hm := (if_neg h6).symm.trans hm
            refine CW.cond_false rfl ?_
            refine CW.skip ?_
            refine EW.bln ?_
            refine EW.next ?_
            refine CW.region ?_
            refine RW.yi (.int .i64 v2) rfl rfl (Yi.pv _ rfl) ?_
            refine RW.yi (.int .i64 (w64 (v2 + 1))) rfl rfl (Yi.pv _ rfl) ?_
            refine RW.yi (.int .i64 (w64 (v2 + 1))) rfl rfl (Yi.pv _ rfl) ?_
            refine RW.nil ?_
            refine EW.thn ?_
            exact fun a w hs hM => ⟨(w64 (v2 + 1)), hs.sub ⟨rfl, rfl, rfl, rfl, trivial⟩, hM.sub (.cons_cons _ .slnil), hm⟩
      · replace hm := (if_neg h3).symm.trans hm
        refine CW.cond_false rfl ?_
        refine CW.exit ?_
        refine EW.thx ?_
        refine EW.thx ?_
        refine EW.blx ?_
        refine EW.thn ?_
        exact fun a w hs hM => ⟨hs.sub trivial, hM.sub (.cons _ .slnil), hm⟩
  · rintro a w ⟨hs, hM, hm⟩
    unfold rIn_j1 at hm
    refine CW.enter hs hM ?_
    refine CW.seq ?_
    refine CW.region ?_
    refine RW.yi (.bool true) rfl rfl (Yi.pv _ rfl) ?_
    refine RW.nil ?_
    refine EW.next ?_
    refine CW.ret ?_
    obtain rfl := Option.some.inj hm
    exact EW.done (rs := [.tmp 6]) rfl (.tmp (t := 6) (v := .bool true) rfl .nil) (fun _ hM => ⟨rfl, hM.below⟩)
def part (_ : Nat) (a0_h : Int) (a1_u : Int) (a2_i : Int) : Option (Int) :=
  (if a0_h < 0 then some 0 else (if 1 < a0_h then some 0 else (if a1_u < 0 then some 0 else (if 7 < a1_u then some 0 else (if a2_i < 0 then some 0 else (if 3 < a2_i then some 0 else (if 0 ≤ a0_h ∧ a0_h < 2 then (if 0 ≤ a1_u ∧ a1_u < 8 then (if 0 ≤ a2_i ∧ a2_i < 4 then some (partsF (a0_h.toNat * 32 + a1_u.toNat * 4 + a2_i.toNat)) else none) else none) else none)))))))

theorem c_part (K : Nat) (a0_h : Int) (a1_u : Int) (a2_i : Int) (r : Int) (w0 : World) (hG : Gl GH w0) (hm : part K a0_h a1_u a2_i = some r) : Calls Tryd.prog 23 #[.int .i64 a0_h, .int .i64 a1_u, .int .i64 a2_i] w0 fun e w' => e = .returned (.int .i64 r) ∧ Below w0.heap.size w0 w' := by
  unfold part at hm
  refine calls_CW (n := 36) w0 [] [] Tryd.func23 rfl rfl rfl (Mem.begin w0) ?_
  refine CW.seq ?_
  refine CW.region ?_
  refine RW.yi (.int .i64 0) rfl rfl (Yi.pv _ rfl) ?_
  refine RW.nil ?_
  refine EW.next ?_
  refine CW.seq ?_
  refine CW.seq ?_
  refine CW.region ?_
  refine RW.yi (.int .i64 a0_h) rfl rfl (Yi.pv _ rfl) ?_
  refine RW.yi (.bool (decide (a0_h < 0))) rfl rfl (Yi.pv _ rfl) ?_
  refine RW.yi (.bool (decide (a0_h < 0))) rfl rfl (Yi.pv _ rfl) ?_
  refine RW.fork 9 (a0_h < 0) rfl (fun h1 => ?_) (fun h1 => ?_)
  · replace hm := (if_pos h1).symm.trans hm
    refine RW.pass rfl rfl ?_
    refine RW.pass rfl rfl ?_
    refine RW.yi (.bool true) rfl rfl (Yi.pv _ rfl) ?_
    refine RW.yi (.bool true) rfl rfl (Yi.pv _ rfl) ?_
    refine RW.pass rfl rfl ?_
    refine RW.pass rfl rfl ?_
    refine RW.yi (.bool true) rfl rfl (Yi.pv _ rfl) ?_
    refine RW.yi (.bool true) rfl rfl (Yi.pv _ rfl) ?_
    refine RW.pass rfl rfl ?_
    refine RW.pass rfl rfl ?_
    refine RW.yi (.bool true) rfl rfl (Yi.pv _ rfl) ?_
    refine RW.yi (.bool true) rfl rfl (Yi.pv _ rfl) ?_
    refine RW.pass rfl rfl ?_
    refine RW.pass rfl rfl ?_
    refine RW.yi (.bool true) rfl rfl (Yi.pv _ rfl) ?_
    refine RW.yi (.bool true) rfl rfl (Yi.pv _ rfl) ?_
    refine RW.pass rfl rfl ?_
    refine RW.pass rfl rfl ?_
    refine RW.yi (.bool true) rfl rfl (Yi.pv _ rfl) ?_
    refine RW.nil ?_
    refine EW.next ?_
    refine CW.cond_true rfl ?_
    refine CW.seq ?_
    refine CW.region ?_
    refine RW.yi (.int .i64 0) rfl rfl (Yi.pv _ rfl) ?_
    refine RW.nil ?_
    refine EW.next ?_
    refine CW.ret ?_
    refine EW.thr ?_
    obtain rfl := Option.some.inj hm
    exact EW.done (rs := [.tmp 6]) rfl (.tmp (t := 6) (v := .int .i64 0) rfl .nil) (fun _ hM => ⟨rfl, hM.below⟩)
  · replace hm := (if_neg h1).symm.trans hm
    refine RW.yi (.int .i64 a0_h) rfl rfl (Yi.pv _ rfl) ?_
    refine RW.yi (.bool (decide (1 < a0_h))) rfl rfl (Yi.pv _ rfl) ?_
    refine RW.yi (.bool (decide (1 < a0_h))) rfl rfl (Yi.pv _ rfl) ?_
    refine RW.yi (.bool (decide (1 < a0_h))) rfl rfl (Yi.pv _ rfl) ?_
    refine RW.fork 13 (1 < a0_h) rfl (fun h2 => ?_) (fun h2 => ?_)
    · replace hm := (if_pos h2).symm.trans hm
      refine RW.pass rfl rfl ?_
      refine RW.pass rfl rfl ?_
      refine RW.yi (.bool true) rfl rfl (Yi.pv _ rfl) ?_
      refine RW.yi (.bool true) rfl rfl (Yi.pv _ rfl) ?_
      refine RW.pass rfl rfl ?_
      refine RW.pass rfl rfl ?_
      refine RW.yi (.bool true) rfl rfl (Yi.pv _ rfl) ?_
      refine RW.yi (.bool true) rfl rfl (Yi.pv _ rfl) ?_
      refine RW.pass rfl rfl ?_
      refine RW.pass rfl rfl ?_
      refine RW.yi (.bool true) rfl rfl (Yi.pv _ rfl) ?_
      refine RW.yi (.bool true) rfl rfl (Yi.pv _ rfl) ?_
      refine RW.pass rfl rfl ?_
      refine RW.pass rfl rfl ?_
      refine RW.yi (.bool true) rfl rfl (Yi.pv _ rfl) ?_
      refine RW.nil ?_
      refine EW.next ?_
      refine CW.cond_true rfl ?_
      refine CW.seq ?_
      refine CW.region ?_
      refine RW.yi (.int .i64 0) rfl rfl (Yi.pv _ rfl) ?_
      refine RW.nil ?_
      refine EW.next ?_
      refine CW.ret ?_
      refine EW.thr ?_
      obtain rfl := Option.some.inj hm
      exact EW.done (rs := [.tmp 6]) rfl (.tmp (t := 6) (v := .int .i64 0) rfl .nil) (fun _ hM => ⟨rfl, hM.below⟩)
    · replace hm := (if_neg h2).symm.trans hm
      refine RW.yi (.int .i64 a1_u) rfl rfl (Yi.pv _ rfl) ?_
      refine RW.yi (.bool (decide (a1_u < 0))) rfl rfl (Yi.pv _ rfl) ?_
      refine RW.yi (.bool (decide (a1_u < 0))) rfl rfl (Yi.pv _ rfl) ?_
      refine RW.yi (.bool (decide (a1_u < 0))) rfl rfl (Yi.pv _ rfl) ?_
      refine RW.fork 17 (a1_u < 0) rfl (fun h3 => ?_) (fun h3 => ?_)
      · replace hm := (if_pos h3).symm.trans hm
        refine RW.pass rfl rfl ?_
        refine RW.pass rfl rfl ?_
        refine RW.yi (.bool true) rfl rfl (Yi.pv _ rfl) ?_
        refine RW.yi (.bool true) rfl rfl (Yi.pv _ rfl) ?_
        refine RW.pass rfl rfl ?_
        refine RW.pass rfl rfl ?_
        refine RW.yi (.bool true) rfl rfl (Yi.pv _ rfl) ?_
        refine RW.yi (.bool true) rfl rfl (Yi.pv _ rfl) ?_
        refine RW.pass rfl rfl ?_
        refine RW.pass rfl rfl ?_
        refine RW.yi (.bool true) rfl rfl (Yi.pv _ rfl) ?_
        refine RW.nil ?_
        refine EW.next ?_
        refine CW.cond_true rfl ?_
        refine CW.seq ?_
        refine CW.region ?_
        refine RW.yi (.int .i64 0) rfl rfl (Yi.pv _ rfl) ?_
        refine RW.nil ?_
        refine EW.next ?_
        refine CW.ret ?_
        refine EW.thr ?_
        obtain rfl := Option.some.inj hm
        exact EW.done (rs := [.tmp 6]) rfl (.tmp (t := 6) (v := .int .i64 0) rfl .nil) (fun _ hM => ⟨rfl, hM.below⟩)
      · replace hm := (if_neg h3).symm.trans hm
        refine RW.yi (.int .i64 a1_u) rfl rfl (Yi.pv _ rfl) ?_
        refine RW.yi (.bool (decide (7 < a1_u))) rfl rfl (Yi.pv _ rfl) ?_
        refine RW.yi (.bool (decide (7 < a1_u))) rfl rfl (Yi.pv _ rfl) ?_
        refine RW.yi (.bool (decide (7 < a1_u))) rfl rfl (Yi.pv _ rfl) ?_
        refine RW.fork 21 (7 < a1_u) rfl (fun h4 => ?_) (fun h4 => ?_)
        · replace hm := (if_pos h4).symm.trans hm
          refine RW.pass rfl rfl ?_
          refine RW.pass rfl rfl ?_
          refine RW.yi (.bool true) rfl rfl (Yi.pv _ rfl) ?_
          refine RW.yi (.bool true) rfl rfl (Yi.pv _ rfl) ?_
          refine RW.pass rfl rfl ?_
          refine RW.pass rfl rfl ?_
          refine RW.yi (.bool true) rfl rfl (Yi.pv _ rfl) ?_
          refine RW.nil ?_
          refine EW.next ?_
          refine CW.cond_true rfl ?_
          refine CW.seq ?_
          refine CW.region ?_
          refine RW.yi (.int .i64 0) rfl rfl (Yi.pv _ rfl) ?_
          refine RW.nil ?_
          refine EW.next ?_
          refine CW.ret ?_
          refine EW.thr ?_
          obtain rfl := Option.some.inj hm
          exact EW.done (rs := [.tmp 6]) rfl (.tmp (t := 6) (v := .int .i64 0) rfl .nil) (fun _ hM => ⟨rfl, hM.below⟩)
        · replace hm := (if_neg h4).symm.trans hm
          refine RW.yi (.int .i64 a2_i) rfl rfl (Yi.pv _ rfl) ?_
          refine RW.yi (.bool (decide (a2_i < 0))) rfl rfl (Yi.pv _ rfl) ?_
          refine RW.yi (.bool (decide (a2_i < 0))) rfl rfl (Yi.pv _ rfl) ?_
          refine RW.yi (.bool (decide (a2_i < 0))) rfl rfl (Yi.pv _ rfl) ?_
          refine RW.fork 25 (a2_i < 0) rfl (fun h5 => ?_) (fun h5 => ?_)
          · replace hm := (if_pos h5).symm.trans hm
            refine RW.pass rfl rfl ?_
            refine RW.pass rfl rfl ?_
            refine RW.yi (.bool true) rfl rfl (Yi.pv _ rfl) ?_
            refine RW.nil ?_
            refine EW.next ?_
            refine CW.cond_true rfl ?_
            refine CW.seq ?_
            refine CW.region ?_
            refine RW.yi (.int .i64 0) rfl rfl (Yi.pv _ rfl) ?_
            refine RW.nil ?_
            refine EW.next ?_
            refine CW.ret ?_
            refine EW.thr ?_
            obtain rfl := Option.some.inj hm
            exact EW.done (rs := [.tmp 6]) rfl (.tmp (t := 6) (v := .int .i64 0) rfl .nil) (fun _ hM => ⟨rfl, hM.below⟩)
          · replace hm := (if_neg h5).symm.trans hm
            refine RW.yi (.int .i64 a2_i) rfl rfl (Yi.pv _ rfl) ?_
            refine RW.yi (.bool (decide (3 < a2_i))) rfl rfl (Yi.pv _ rfl) ?_
            refine RW.yi (.bool (decide (3 < a2_i))) rfl rfl (Yi.pv _ rfl) ?_
            refine RW.nil ?_
            refine EW.next ?_
            refine CW.fork 28 (3 < a2_i) rfl (fun h6 => ?_) (fun h6 => ?_)
            · replace hm := (if_pos h6).symm.trans hm
              refine CW.cond_true rfl ?_
              refine CW.seq ?_
              refine CW.region ?_
              refine RW.yi (.int .i64 0) rfl rfl (Yi.pv _ rfl) ?_
              refine RW.nil ?_
              refine EW.next ?_
              refine CW.ret ?_
              refine EW.thr ?_
              obtain rfl := Option.some.inj hm
              exact EW.done (rs := [.tmp 6]) rfl (.tmp (t := 6) (v := .int .i64 0) rfl .nil) (fun _ hM => ⟨rfl, hM.below⟩)
            · replace hm := (if_neg h6).symm.trans hm
              refine CW.cond_false rfl ?_
              refine CW.skip ?_
              refine EW.next ?_
              refine CW.seq ?_
              refine CW.region ?_
              refine RW.yi (.int .i64 a0_h) rfl rfl (Yi.pv _ rfl) ?_
              refine RW.yi (.int .i64 a1_u) rfl rfl (Yi.pv _ rfl) ?_
              refine RW.yi (.int .i64 a2_i) rfl rfl (Yi.pv _ rfl) ?_
              obtain ⟨g7, hm⟩ := of_guard hm
              refine RW.yi (.pointer (some ⟨1, a0_h.toNat * 32, none⟩)) rfl rfl (Yi.indexAddr' _ Tryd.underlying50 Tryd.sizeOf49 rfl rfl g7.1 g7.2 (by omega)) ?_
              obtain ⟨g8, hm⟩ := of_guard hm
              refine RW.yi (.pointer (some ⟨1, a0_h.toNat * 32 + a1_u.toNat * 4, none⟩)) rfl rfl (Yi.indexAddr' _ Tryd.underlying49 Tryd.sizeOf48 rfl rfl g8.1 g8.2 (by omega)) ?_
              obtain ⟨g9, hm⟩ := of_guard hm
              refine RW.yi (.pointer (some ⟨1, a0_h.toNat * 32 + a1_u.toNat * 4 + a2_i.toNat, none⟩)) rfl rfl (Yi.indexAddr' _ Tryd.underlying48 Tryd.sizeOf3 rfl rfl g9.1 g9.2 (by omega)) ?_
              refine RW.yi (.int .i64 (partsF (a0_h.toNat * 32 + a1_u.toNat * 4 + a2_i.toNat))) rfl rfl (Yi.loadG1 (i := 0) hG rfl rfl rfl Tryd.isAgg3 (by omega)) ?_
              refine RW.yi (.int .i64 (partsF (a0_h.toNat * 32 + a1_u.toNat * 4 + a2_i.toNat))) rfl rfl (Yi.pv _ rfl) ?_
              refine RW.nil ?_
              refine EW.next ?_
              refine CW.ret ?_
              obtain rfl := Option.some.inj hm
              exact EW.done (rs := [.tmp 6]) rfl (.tmp (t := 6) (v := .int .i64 (partsF (a0_h.toNat * 32 + a1_u.toNat * 4 + a2_i.toNat))) rfl .nil) (fun _ hM => ⟨rfl, hM.below⟩)
def across_j1 (_ : Nat)   (v1 : Int) : Option (Int) :=
  some v1

def across_j2 (_ : Nat) (cb_across_l1 : Int → Int → Option (Int)) (v3 : Int) (v5 : Int) : Option (Int) :=
  cb_across_l1 v5 (w64 (v3 + 1))

def across_l2 (K : Nat) (cb_across_l1 : Int → Int → Option (Int)) (a0_down : Int) (a1_row : Int) (a2_v : Int) (four : (Nat → Int)) (v3 : Int) : Nat → Int → Int →  Option (Int)
  | 0, _, _ => none
  | k2 + 1, v6, v7 =>
    (if v7 < 4 then (if 0 ≤ v3 ∧ v3 < 2 then (if 0 ≤ a2_v ∧ a2_v < 8 then (if 0 ≤ v7 ∧ v7 < 4 then (if 0 ≤ (w64 ((w64 (2 * a0_down)) + v3)) ∧ (w64 ((w64 (2 * a0_down)) + v3)) < 4 then (if 0 ≤ (w64 ((w64 (8 * a1_row)) + v7)) ∧ (w64 ((w64 (8 * a1_row)) + v7)) < 64 then (across_l2 K cb_across_l1 a0_down a1_row a2_v four v3 k2) (w64 (v6 + (w64 ((partsF (v3.toNat * 32 + a2_v.toNat * 4 + v7.toNat)) * (four ((w64 ((w64 (2 * a0_down)) + v3)).toNat * 64 + (w64 ((w64 (8 * a1_row)) + v7)).toNat)))))) (w64 (v7 + 1)) else none) else none) else none) else none) else none) else across_j2 K cb_across_l1 v3 v6)

def across_l1 (K : Nat) (a0_down : Int) (a1_row : Int) (a2_v : Int) (four : (Nat → Int)) : Nat → Int → Int →  Option (Int)
  | 0, _, _ => none
  | k1 + 1, v2, v3 =>
    (if v3 < 2 then across_l2 K (across_l1 K a0_down a1_row a2_v four k1) a0_down a1_row a2_v four v3 K v2 0 else across_j1 K v2)

def across (K : Nat) (four : (Nat → Int)) (a0_down : Int) (a1_row : Int) (a2_v : Int) : Option (Int) :=
  across_l1 K a0_down a1_row a2_v four K 0 0

theorem c_across (K : Nat) (four : (Nat → Int)) (a0_down : Int) (a1_row : Int) (a2_v : Int) (fb : Nat) (r : Int) (w0 : World) (hG : Gl ((fb, 256, iv four) :: GH) w0) (hm : across K four a0_down a1_row a2_v = some r) : Calls Tryd.prog 33 #[.int .i64 a0_down, .int .i64 a1_row, .int .i64 a2_v, .pointer (some ⟨fb, 0, none⟩)] w0 fun e w' => e = .returned (.int .i64 r) ∧ Below w0.heap.size w0 w' := by
  unfold across at hm
  refine calls_CW (n := 41) w0 [] [] Tryd.func33 rfl rfl rfl (Mem.begin w0) ?_
  refine CW.seq ?_
  refine CW.region ?_
  refine RW.yi (.int .i64 0) rfl rfl (Yi.pv _ rfl) ?_
  refine RW.nil ?_
  refine EW.next ?_
  refine CW.seq ?_
  refine CW.region ?_
  refine RW.yi (.int .i64 0) rfl rfl (Yi.pv _ rfl) ?_
  refine RW.nil ?_
  refine EW.next ?_
  refine CW.join (fun a w => ∃ (v1 : Int), St 41 [(8, .int .i64 v1)] a ∧ Mem w0 [] [] w ∧ across_j1 K v1 = some r) ?_ ?_
  · refine CW.seq ?_
    refine CW.region ?_
    refine RW.yi (.int .i64 0) rfl rfl (Yi.pv _ rfl) ?_
    refine RW.nil ?_
    refine EW.next ?_
    refine CW.block ?_
    refine CW.loop (fun k a w => ∃ (v2 : Int) (v3 : Int), St 41 [(0, .int .i64 a0_down), (1, .int .i64 a1_row), (2, .int .i64 a2_v), (3, .pointer (some ⟨fb, 0, none⟩)), (8, .int .i64 v2), (11, .int .i64 v3)] a ∧ Mem w0 [] [] w ∧ across_l1 K a0_down a1_row a2_v four k v2 v3 = some r) K ?_ ?_ ?_
    · rintro a w ⟨_, _, _, _, hm⟩
      rw [across_l1.eq_1] at hm
      cases hm
    · exact fun a w hs hM => ⟨0, 0, hs.sub ⟨rfl, rfl, rfl, rfl, rfl, rfl, trivial⟩, hM.sub .slnil, hm⟩
    · rintro k1 a w ⟨v2, v3, hs, hM, hm⟩
      rw [across_l1.eq_2] at hm
      refine CW.enter hs hM ?_
      refine CW.seq ?_
      refine CW.region ?_
      refine RW.yi (.bool (decide (v3 < 2))) rfl rfl (Yi.pv _ rfl) ?_
      refine RW.nil ?_
      refine EW.next ?_
      refine CW.seq ?_
      refine CW.fork 12 (v3 < 2) rfl (fun h4 => ?_) (fun h4 => ?_)
      · replace hm := (if_pos h4).symm.trans hm
        refine CW.cond_true rfl ?_
        refine CW.skip ?_
        refine EW.next ?_
        refine CW.join (fun a w => ∃ (v5 : Int), St 41 [(0, .int .i64 a0_down), (1, .int .i64 a1_row), (2, .int .i64 a2_v), (3, .pointer (some ⟨fb, 0, none⟩)), (8, .int .i64 v5), (11, .int .i64 v3)] a ∧ Mem w0 [] [] w ∧ across_j2 K (across_l1 K a0_down a1_row a2_v four k1) v3 v5 = some r) ?_ ?_
        · refine CW.block ?_
          refine CW.seq ?_
          refine CW.region ?_
          refine RW.yi (.int .i64 v3) rfl rfl (Yi.pv _ rfl) ?_
          refine RW.yi (.int .i64 v3) rfl rfl (Yi.pv _ rfl) ?_
          refine RW.nil ?_
          refine EW.next ?_
          refine CW.seq ?_
          refine CW.region ?_
          refine RW.yi (.int .i64 0) rfl rfl (Yi.pv _ rfl) ?_
          refine RW.nil ?_
          refine EW.next ?_
          refine CW.block ?_
          refine CW.loop (fun k a w => ∃ (v6 : Int) (v7 : Int), St 41 [(0, .int .i64 a0_down), (1, .int .i64 a1_row), (2, .int .i64 a2_v), (3, .pointer (some ⟨fb, 0, none⟩)), (8, .int .i64 v6), (9, .int .i64 v3), (11, .int .i64 v3), (14, .int .i64 v7)] a ∧ Mem w0 [] [] w ∧ across_l2 K (across_l1 K a0_down a1_row a2_v four k1) a0_down a1_row a2_v four v3 k v6 v7 = some r) K ?_ ?_ ?_
          · rintro a w ⟨_, _, _, _, hm⟩
            rw [across_l2.eq_1] at hm
            cases hm
          · exact fun a w hs hM => ⟨v2, 0, hs.sub ⟨rfl, rfl, rfl, rfl, rfl, rfl, rfl, rfl, trivial⟩, hM.sub .slnil, hm⟩
          · rintro k2 a w ⟨v6, v7, hs, hM, hm⟩
            rw [across_l2.eq_2] at hm
            refine CW.enter hs hM ?_
            refine CW.seq ?_
            refine CW.region ?_
            refine RW.yi (.bool (decide (v7 < 4))) rfl rfl (Yi.pv _ rfl) ?_
            refine RW.nil ?_
            refine EW.next ?_
            refine CW.seq ?_
            refine CW.fork 15 (v7 < 4) rfl (fun h8 => ?_) (fun h8 => ?_)
            · replace hm := (if_pos h8).symm.trans hm
              refine CW.cond_true rfl ?_
              refine CW.skip ?_
              refine EW.next ?_
              refine CW.seq ?_
              refine CW.block ?_
              refine CW.seq ?_
              refine CW.region ?_
              refine RW.yi (.int .i64 v7) rfl rfl (Yi.pv _ rfl) ?_
              refine RW.yi (.int .i64 v7) rfl rfl (Yi.pv _ rfl) ?_
              refine RW.nil ?_
              refine EW.next ?_
              refine CW.draws (by kernel_rfl) (by kernel_rfl) ?_
              refine QW.yi (.int .i64 v6) rfl rfl (Yi.pv _ rfl) ?_
              refine QW.yi (.int .i64 v3) rfl rfl (Yi.pv _ rfl) ?_
              refine QW.yi (.int .i64 a2_v) rfl rfl (Yi.pv _ rfl) ?_
              refine QW.yi (.int .i64 v7) rfl rfl (Yi.pv _ rfl) ?_
              obtain ⟨g9, hm⟩ := of_guard hm
              refine QW.yi (.pointer (some ⟨1, v3.toNat * 32, none⟩)) rfl rfl (Yi.indexAddr' _ Tryd.underlying50 Tryd.sizeOf49 rfl rfl g9.1 g9.2 (by omega)) ?_
              obtain ⟨g10, hm⟩ := of_guard hm
              refine QW.yi (.pointer (some ⟨1, v3.toNat * 32 + a2_v.toNat * 4, none⟩)) rfl rfl (Yi.indexAddr' _ Tryd.underlying49 Tryd.sizeOf48 rfl rfl g10.1 g10.2 (by omega)) ?_
              obtain ⟨g11, hm⟩ := of_guard hm
              refine QW.yi (.pointer (some ⟨1, v3.toNat * 32 + a2_v.toNat * 4 + v7.toNat, none⟩)) rfl rfl (Yi.indexAddr' _ Tryd.underlying48 Tryd.sizeOf3 rfl rfl g11.1 g11.2 (by omega)) ?_
              refine QW.yi (.int .i64 (partsF (v3.toNat * 32 + a2_v.toNat * 4 + v7.toNat))) rfl rfl (Yi.loadG1 (i := 1) hG rfl rfl rfl Tryd.isAgg3 (by omega)) ?_
              refine QW.yi (.int .i64 a0_down) rfl rfl (Yi.pv _ rfl) ?_
              refine QW.yi (.int .i64 (w64 (2 * a0_down))) rfl rfl (Yi.pv _ rfl) ?_
              refine QW.yi (.int .i64 v3) rfl rfl (Yi.pv _ rfl) ?_
              refine QW.yi (.int .i64 (w64 ((w64 (2 * a0_down)) + v3))) rfl rfl (Yi.pv _ rfl) ?_
              refine QW.yi (.int .i64 a1_row) rfl rfl (Yi.pv _ rfl) ?_
              refine QW.yi (.int .i64 (w64 (8 * a1_row))) rfl rfl (Yi.pv _ rfl) ?_
              refine QW.yi (.int .i64 v7) rfl rfl (Yi.pv _ rfl) ?_
              refine QW.yi (.int .i64 (w64 ((w64 (8 * a1_row)) + v7))) rfl rfl (Yi.pv _ rfl) ?_
              obtain ⟨g12, hm⟩ := of_guard hm
              refine QW.yi (.pointer (some ⟨fb, (w64 ((w64 (2 * a0_down)) + v3)).toNat * 64, none⟩)) rfl rfl (Yi.indexAddr' _ Tryd.underlying34 Tryd.sizeOf23 rfl rfl g12.1 g12.2 (by omega)) ?_
              obtain ⟨g13, hm⟩ := of_guard hm
              refine QW.yi (.pointer (some ⟨fb, (w64 ((w64 (2 * a0_down)) + v3)).toNat * 64 + (w64 ((w64 (8 * a1_row)) + v7)).toNat, none⟩)) rfl rfl (Yi.indexAddr' _ Tryd.underlying23 Tryd.sizeOf3 rfl rfl g13.1 g13.2 (by omega)) ?_
              refine QW.yi (.int .i64 (four ((w64 ((w64 (2 * a0_down)) + v3)).toNat * 64 + (w64 ((w64 (8 * a1_row)) + v7)).toNat))) rfl rfl (Yi.loadG1 (i := 0) hG rfl rfl rfl Tryd.isAgg3 (by omega)) ?_
              refine QW.yi (.int .i64 (w64 ((partsF (v3.toNat * 32 + a2_v.toNat * 4 + v7.toNat)) * (four ((w64 ((w64 (2 * a0_down)) + v3)).toNat * 64 + (w64 ((w64 (8 * a1_row)) + v7)).toNat))))) rfl rfl (Yi.pv _ rfl) ?_
              refine QW.yi (.int .i64 (w64 (v6 + (w64 ((partsF (v3.toNat * 32 + a2_v.toNat * 4 + v7.toNat)) * (four ((w64 ((w64 (2 * a0_down)) + v3)).toNat * 64 + (w64 ((w64 (8 * a1_row)) + v7)).toNat))))))) rfl rfl (Yi.pv _ rfl) ?_
              refine QW.yi (.int .i64 (w64 (v6 + (w64 ((partsF (v3.toNat * 32 + a2_v.toNat * 4 + v7.toNat)) * (four ((w64 ((w64 (2 * a0_down)) + v3)).toNat * 64 + (w64 ((w64 (8 * a1_row)) + v7)).toNat))))))) rfl rfl (Yi.pv _ rfl) ?_
              refine QW.nil ?_
              refine EW.bln ?_
              refine EW.next ?_
              refine CW.region ?_
              refine RW.yi (.int .i64 (w64 (v7 + 1))) rfl rfl (Yi.pv _ rfl) ?_
              refine RW.yi (.int .i64 (w64 (v7 + 1))) rfl rfl (Yi.pv _ rfl) ?_
              refine RW.nil ?_
              refine EW.thn ?_
              exact fun a w hs hM => ⟨(w64 (v6 + (w64 ((partsF (v3.toNat * 32 + a2_v.toNat * 4 + v7.toNat)) * (four ((w64 ((w64 (2 * a0_down)) + v3)).toNat * 64 + (w64 ((w64 (8 * a1_row)) + v7)).toNat)))))), (w64 (v7 + 1)), hs.sub ⟨rfl, rfl, rfl, rfl, rfl, rfl, rfl, rfl, trivial⟩, hM.sub .slnil, hm⟩
            · replace hm := (if_neg h8).symm.trans hm
              refine CW.cond_false rfl ?_
              refine CW.exit ?_
              refine EW.thx ?_
              refine EW.thx ?_
              refine EW.blx ?_
              refine EW.bln ?_
              refine EW.thn ?_
              exact fun a w hs hM => ⟨v6, hs.sub ⟨rfl, rfl, rfl, rfl, rfl, rfl, trivial⟩, hM.sub .slnil, hm⟩
        · rintro a w ⟨v5, hs, hM, hm⟩
          unfold across_j2 at hm
          refine CW.enter hs hM ?_
          refine CW.region ?_
          refine RW.yi (.int .i64 (w64 (v3 + 1))) rfl rfl (Yi.pv _ rfl) ?_
          refine RW.yi (.int .i64 (w64 (v3 + 1))) rfl rfl (Yi.pv _ rfl) ?_
          refine RW.nil ?_
          refine EW.thn ?_
          exact fun a w hs hM => ⟨v5, (w64 (v3 + 1)), hs.sub ⟨rfl, rfl, rfl, rfl, rfl, rfl, trivial⟩, hM.sub .slnil, hm⟩
      · replace hm := (if_neg h4).symm.trans hm
        refine CW.cond_false rfl ?_
        refine CW.exit ?_
        refine EW.thx ?_
        refine EW.thx ?_
        refine EW.blx ?_
        refine EW.thn ?_
        exact fun a w hs hM => ⟨v2, hs.sub ⟨rfl, trivial⟩, hM.sub .slnil, hm⟩
  · rintro a w ⟨v1, hs, hM, hm⟩
    unfold across_j1 at hm
    refine CW.enter hs hM ?_
    refine CW.seq ?_
    refine CW.region ?_
    refine RW.yi (.int .i64 v1) rfl rfl (Yi.pv _ rfl) ?_
    refine RW.yi (.int .i64 v1) rfl rfl (Yi.pv _ rfl) ?_
    refine RW.nil ?_
    refine EW.next ?_
    refine CW.ret ?_
    obtain rfl := Option.some.inj hm
    exact EW.done (rs := [.tmp 7]) rfl (.tmp (t := 7) (v := .int .i64 v1) rfl .nil) (fun _ hM => ⟨rfl, hM.below⟩)
end Go.Proofs.YtfpafpmcfkapkaaDoor