import Derived.Test.YtplfcapahmjmgaaQ1
set_option maxRecDepth 100000
namespace Go.Proofs.Ytplfcapahmjmgaa
open Go Go.RowKit K
def byteOf (_ : Nat) (a0_n : Int) : Option (Int) :=
  some (imin (imax a0_n 0) 255)

theorem c_byteOf (K : Nat) (a0_n : Int) (r : Int) (w0 : World) (hm : byteOf K a0_n = some r) : Calls Try.prog 13 #[.int .i64 a0_n] w0 fun e w' => e = .returned (.int .i64 r) ∧ Below w0.heap.size w0 w' := by
  unfold byteOf at hm
  refine calls_CW (n := 6) w0 [] [] Try.func13 rfl rfl rfl (Mem.begin w0) ?_
  refine CW.seq ?_
  refine CW.region ?_
  refine RW.yi (.int .i64 0) rfl rfl (Yi.pv _ rfl) ?_
  refine RW.nil ?_
  refine EW.next ?_
  refine CW.seq ?_
  refine CW.region ?_
  refine RW.yi (.int .i64 a0_n) rfl rfl (Yi.pv _ rfl) ?_
  refine RW.yi (.int .i64 (imax a0_n 0)) rfl rfl (Yi.max rfl rfl) ?_
  refine RW.yi (.int .i64 (imin (imax a0_n 0) 255)) rfl rfl (Yi.min rfl rfl) ?_
  refine RW.yi (.int .i64 (imin (imax a0_n 0) 255)) rfl rfl (Yi.pv _ rfl) ?_
  refine RW.nil ?_
  refine EW.next ?_
  refine CW.ret ?_
  obtain rfl := Option.some.inj hm
  exact EW.done (rs := [.tmp 2]) rfl (.tmp (t := 2) (v := .int .i64 (imin (imax a0_n 0) 255)) rfl .nil) (fun _ hM => ⟨rfl, hM.below⟩)
def cRight_j1 (_ : Nat)    : Option (Bool) :=
  some true

def cRight_l1 (K : Nat) (a0_parts : (Nat → Int)) : Nat → Int →  Option (Bool)
  | 0, _ => none
  | k1 + 1, v2 =>
    (if v2 < 3 then (if 0 ≤ v2 ∧ v2 < 3 then ((byteOf K (a0_parts v2.toNat)).bind fun r5 => (if ¬ (a0_parts v2.toNat) = r5 then some false else (cRight_l1 K a0_parts k1) (w64 (v2 + 1)))) else none) else cRight_j1 K)

def cRight (K : Nat) (a0_parts : (Nat → Int)) : Option (Bool) :=
  cRight_l1 K a0_parts K 0

theorem c_cRight (K : Nat) (a0_parts : (Nat → Int)) (r : Bool) (w0 : World) (hm : cRight K a0_parts = some r) : Calls Try.prog 12 #[.agg (cf 3 (iv a0_parts))] w0 fun e w' => e = .returned (.bool r) ∧ Below w0.heap.size w0 w' := by
  unfold cRight at hm
  refine calls_CW (n := 14) w0 [] [] Try.func12 rfl rfl rfl (Mem.begin w0) ?_
  refine CW.seq ?_
  refine CW.region ?_
  refine RW.box (v := .agg (cf 3 (iv a0_parts))) rfl rfl rfl (fun b1 => ?_)
  refine RW.yi (.bool false) rfl rfl (Yi.pv _ rfl) ?_
  refine RW.nil ?_
  refine EW.next ?_
  refine CW.join (fun a w => St 14 [] a ∧ Mem w0 [] [] w ∧ cRight_j1 K = some r) ?_ ?_
  · refine CW.seq ?_
    refine CW.region ?_
    refine RW.yi (.agg (cf 3 (iv a0_parts))) rfl rfl (Yi.loadW (i := 0) rfl rfl Try.isAgg39 Try.sizeOf39) ?_
    refine RW.yi (.int .i64 0) rfl rfl (Yi.pv _ rfl) ?_
    refine RW.nil ?_
    refine EW.next ?_
    refine CW.block ?_
    refine CW.loop (fun k a w => ∃ (v2 : Int), St 14 [(5, .agg (cf 3 (iv a0_parts))), (6, .int .i64 v2)] a ∧ Mem w0 [] [] w ∧ cRight_l1 K a0_parts k v2 = some r) K ?_ ?_ ?_
    · rintro a w ⟨_, _, _, hm⟩
      rw [cRight_l1.eq_1] at hm
      cases hm
    · exact fun a w hs hM => ⟨0, hs.sub ⟨rfl, rfl, trivial⟩, hM.sub (.cons _ .slnil), hm⟩
    · rintro k1 a w ⟨v2, hs, hM, hm⟩
      rw [cRight_l1.eq_2] at hm
      refine CW.enter hs hM ?_
      refine CW.seq ?_
      refine CW.region ?_
      refine RW.yi (.bool (decide (v2 < 3))) rfl rfl (Yi.pv _ rfl) ?_
      refine RW.nil ?_
      refine EW.next ?_
      refine CW.seq ?_
      refine CW.fork 7 (v2 < 3) rfl (fun h3 => ?_) (fun h3 => ?_)
      · replace hm := (if_pos h3).symm.trans hm
        refine CW.cond_true rfl ?_
        refine CW.skip ?_
        refine EW.next ?_
        refine CW.seq ?_
        refine CW.block ?_
        refine CW.seq ?_
        refine CW.region ?_
        obtain ⟨g4, hm⟩ := of_guard hm
        refine RW.yi (.int .i64 (a0_parts v2.toNat)) rfl rfl (Yi.index _ Try.underlying39 Try.sizeOf3 Try.isAgg3 rfl rfl g4.1 g4.2 (cf_get (by omega))) ?_
        refine RW.yi (.int .i64 (a0_parts v2.toNat)) rfl rfl (Yi.pv _ rfl) ?_
        refine RW.nil ?_
        refine EW.next ?_
        refine CW.seq ?_
        refine CW.region ?_
        refine RW.yi (.int .i64 (a0_parts v2.toNat)) rfl rfl (Yi.pv _ rfl) ?_
        refine RW.yi (.int .i64 (a0_parts v2.toNat)) rfl rfl (Yi.pv _ rfl) ?_
        obtain ⟨r5, hr5, hm⟩ := of_bind hm
        refine RW.ca (.int .i64 r5) rfl rfl (Ca.call rfl rfl Try.call13 (fun w _ => c_byteOf K (a0_parts v2.toNat) r5 w hr5)) ?_
        refine RW.yi (.bool (decide (¬ (a0_parts v2.toNat) = r5))) rfl rfl (Yi.pv _ rfl) ?_
        refine RW.nil ?_
        refine EW.next ?_
        refine CW.fork 12 (¬ (a0_parts v2.toNat) = r5) rfl (fun h6 => ?_) (fun h6 => ?_)
        · replace hm := (if_pos h6).symm.trans hm
          refine CW.cond_true rfl ?_
          refine CW.seq ?_
          refine CW.region ?_
          refine RW.yi (.bool false) rfl rfl (Yi.pv _ rfl) ?_
          refine RW.nil ?_
          refine EW.next ?_
          refine CW.ret ?_
          refine EW.blr ?_
          refine EW.thr ?_
          refine EW.thr ?_
          refine EW.blr ?_
          refine EW.thr ?_
          obtain rfl := Option.some.inj hm
          exact EW.done (rs := [.tmp 2]) rfl (.tmp (t := 2) (v := .bool false) rfl .nil) (fun _ hM => ⟨rfl, hM.below⟩)
        · replace hm := (if_neg h6).symm.trans hm
          refine CW.cond_false rfl ?_
          refine CW.skip ?_
          refine EW.bln ?_
          refine EW.next ?_
          refine CW.region ?_
          refine RW.yi (.int .i64 (w64 (v2 + 1))) rfl rfl (Yi.pv _ rfl) ?_
          refine RW.yi (.int .i64 (w64 (v2 + 1))) rfl rfl (Yi.pv _ rfl) ?_
          refine RW.nil ?_
          refine EW.thn ?_
          exact fun a w hs hM => ⟨(w64 (v2 + 1)), hs.sub ⟨rfl, rfl, trivial⟩, hM.sub .slnil, hm⟩
      · replace hm := (if_neg h3).symm.trans hm
        refine CW.cond_false rfl ?_
        refine CW.exit ?_
        refine EW.thx ?_
        refine EW.thx ?_
        refine EW.blx ?_
        refine EW.thn ?_
        exact fun a w hs hM => ⟨hs.sub trivial, hM.sub .slnil, hm⟩
  · rintro a w ⟨hs, hM, hm⟩
    unfold cRight_j1 at hm
    refine CW.enter hs hM ?_
    refine CW.seq ?_
    refine CW.region ?_
    refine RW.yi (.bool true) rfl rfl (Yi.pv _ rfl) ?_
    refine RW.nil ?_
    refine EW.next ?_
    refine CW.ret ?_
    obtain rfl := Option.some.inj hm
    exact EW.done (rs := [.tmp 2]) rfl (.tmp (t := 2) (v := .bool true) rfl .nil) (fun _ hM => ⟨rfl, hM.below⟩)
def cOf (K : Nat) (a0_p_0 : Int) (a0_p_1 : Int) (a0_p_2 : Int) : Option (Int × Int × Int × Int) :=
  ((cRight K (lf [a0_p_0, a0_p_1, a0_p_2])).bind fun r3 => (if r3 = true then ((byteOf K (rnd (w64 ((w64 ((w64 (19595 * a0_p_0)) + (w64 (38470 * a0_p_1)))) + (w64 (7471 * a0_p_2)))) 65536)).bind fun r5 => ((byteOf K (w64 (128 + (rnd (w64 ((w64 ((w64 (32768 * a0_p_2)) - (w64 (11059 * a0_p_0)))) - (w64 (21709 * a0_p_1)))) 65536)))).bind fun r6 => ((byteOf K (w64 (128 + (rnd (w64 ((w64 ((w64 (32768 * a0_p_0)) - (w64 (27439 * a0_p_1)))) - (w64 (5329 * a0_p_2)))) 65536)))).bind fun r7 => some (r5, r6, r7, 0)))) else some (0, 0, 0, 2)))

theorem c_cOf (K : Nat) (a0_p_0 : Int) (a0_p_1 : Int) (a0_p_2 : Int) (r : Int × Int × Int × Int) (w0 : World) (hm : cOf K a0_p_0 a0_p_1 a0_p_2 = some r) : Calls Try.prog 7 #[.agg #[.int .i64 a0_p_0, .int .i64 a0_p_1, .int .i64 a0_p_2]] w0 fun e w' => e = .returned (.tuple #[.agg #[.int .i64 r.1, .int .i64 r.2.1, .int .i64 r.2.2.1], .int .i64 r.2.2.2]) ∧ Below w0.heap.size w0 w' := by
  unfold cOf at hm
  refine calls_CW (n := 56) w0 [] [] Try.func7 rfl rfl rfl (Mem.begin w0) ?_
  refine CW.seq ?_
  refine CW.region ?_
  refine RW.box (v := .agg #[.int .i64 a0_p_0, .int .i64 a0_p_1, .int .i64 a0_p_2]) rfl rfl rfl (fun b1 => ?_)
  refine RW.alloc (z := .agg #[.int .i64 0, .int .i64 0, .int .i64 0]) (#[.int .i64 0, .int .i64 0, .int .i64 0]) rfl rfl (fun _ => by kernel_rfl) rfl (fun b2 => ?_)
  refine RW.yi (.int .i64 0) rfl rfl (Yi.pv _ rfl) ?_
  refine RW.nil ?_
  refine EW.next ?_
  refine CW.seq ?_
  refine CW.seq ?_
  refine CW.region ?_
  refine RW.yi (.pointer (some ⟨b1, 0, none⟩)) rfl rfl (Yi.fieldAddr (j := 0) Try.underlying23 rfl Try.sizeOf3 rfl) ?_
  refine RW.yi (.int .i64 a0_p_0) rfl rfl (Yi.load1 (i := 1) _ rfl rfl Try.isAgg3 rfl) ?_
  refine RW.yi (.pointer (some ⟨b1, 1, none⟩)) rfl rfl (Yi.fieldAddr (j := 1) Try.underlying23 rfl Try.sizeOf3 rfl) ?_
  refine RW.yi (.int .i64 a0_p_1) rfl rfl (Yi.load1 (i := 1) _ rfl rfl Try.isAgg3 rfl) ?_
  refine RW.yi (.pointer (some ⟨b1, 2, none⟩)) rfl rfl (Yi.fieldAddr (j := 2) Try.underlying23 rfl Try.sizeOf3 rfl) ?_
  refine RW.yi (.int .i64 a0_p_2) rfl rfl (Yi.load1 (i := 1) _ rfl rfl Try.isAgg3 rfl) ?_
  refine RW.yi (.agg (cf 3 (iv (lf [a0_p_0, a0_p_1, a0_p_2])))) rfl rfl (Yi.build (vs := [.int .i64 a0_p_0, .int .i64 a0_p_1, .int .i64 a0_p_2]) _ rfl rfl (fun _ => by kernel_rfl)) ?_
  obtain ⟨r3, hr3, hm⟩ := of_bind hm
  refine RW.ca (.bool r3) rfl rfl (Ca.call rfl rfl Try.call12 (fun w _ => c_cRight K (lf [a0_p_0, a0_p_1, a0_p_2]) r3 w hr3)) ?_
  refine RW.forkB 11 (r3) rfl (fun h4 => ?_) (fun h4 => ?_)
  · replace hm := (if_pos h4).symm.trans hm
    refine RW.yi (.bool false) rfl rfl (Yi.pv _ rfl) ?_
    refine RW.nil ?_
    refine EW.next ?_
    refine CW.cond_false rfl ?_
    refine CW.skip ?_
    refine EW.next ?_
    refine CW.seq ?_
    refine CW.tailC 42 (by kernel_rfl) (by kernel_rfl) ?_
    refine TW.yi (.pointer (some ⟨b1, 0, none⟩)) rfl rfl (Yi.fieldAddr (j := 0) Try.underlying23 rfl Try.sizeOf3 rfl) ?_
    refine TW.yi (.int .i64 a0_p_0) rfl rfl (Yi.load1 (i := 1) _ rfl rfl Try.isAgg3 rfl) ?_
    refine TW.yi (.int .i64 (w64 (19595 * a0_p_0))) rfl rfl (Yi.pv _ rfl) ?_
    refine TW.yi (.pointer (some ⟨b1, 1, none⟩)) rfl rfl (Yi.fieldAddr (j := 1) Try.underlying23 rfl Try.sizeOf3 rfl) ?_
    refine TW.yi (.int .i64 a0_p_1) rfl rfl (Yi.load1 (i := 1) _ rfl rfl Try.isAgg3 rfl) ?_
    refine TW.yi (.int .i64 (w64 (38470 * a0_p_1))) rfl rfl (Yi.pv _ rfl) ?_
    refine TW.yi (.int .i64 (w64 ((w64 (19595 * a0_p_0)) + (w64 (38470 * a0_p_1))))) rfl rfl (Yi.pv _ rfl) ?_
    refine TW.yi (.pointer (some ⟨b1, 2, none⟩)) rfl rfl (Yi.fieldAddr (j := 2) Try.underlying23 rfl Try.sizeOf3 rfl) ?_
    refine TW.yi (.int .i64 a0_p_2) rfl rfl (Yi.load1 (i := 1) _ rfl rfl Try.isAgg3 rfl) ?_
    refine TW.yi (.int .i64 (w64 (7471 * a0_p_2))) rfl rfl (Yi.pv _ rfl) ?_
    refine TW.yi (.int .i64 (w64 ((w64 ((w64 (19595 * a0_p_0)) + (w64 (38470 * a0_p_1)))) + (w64 (7471 * a0_p_2))))) rfl rfl (Yi.pv _ rfl) ?_
    refine TW.ca (.int .i64 (rnd (w64 ((w64 ((w64 (19595 * a0_p_0)) + (w64 (38470 * a0_p_1)))) + (w64 (7471 * a0_p_2)))) 65536)) rfl rfl (Ca.call rfl rfl Try.call14 (fun w _ => c_Round (w64 ((w64 ((w64 (19595 * a0_p_0)) + (w64 (38470 * a0_p_1)))) + (w64 (7471 * a0_p_2)))) 65536 w)) ?_
    obtain ⟨r5, hr5, hm⟩ := of_bind hm
    refine TW.ca (.int .i64 r5) rfl rfl (Ca.call rfl rfl Try.call13 (fun w _ => c_byteOf K (rnd (w64 ((w64 ((w64 (19595 * a0_p_0)) + (w64 (38470 * a0_p_1)))) + (w64 (7471 * a0_p_2)))) 65536) r5 w hr5)) ?_
    refine TW.yi (.pointer (some ⟨b1, 2, none⟩)) rfl rfl (Yi.fieldAddr (j := 2) Try.underlying23 rfl Try.sizeOf3 rfl) ?_
    refine TW.yi (.int .i64 a0_p_2) rfl rfl (Yi.load1 (i := 1) _ rfl rfl Try.isAgg3 rfl) ?_
    refine TW.yi (.int .i64 (w64 (32768 * a0_p_2))) rfl rfl (Yi.pv _ rfl) ?_
    refine TW.yi (.pointer (some ⟨b1, 0, none⟩)) rfl rfl (Yi.fieldAddr (j := 0) Try.underlying23 rfl Try.sizeOf3 rfl) ?_
    refine TW.yi (.int .i64 a0_p_0) rfl rfl (Yi.load1 (i := 1) _ rfl rfl Try.isAgg3 rfl) ?_
    refine TW.yi (.int .i64 (w64 (11059 * a0_p_0))) rfl rfl (Yi.pv _ rfl) ?_
    refine TW.yi (.int .i64 (w64 ((w64 (32768 * a0_p_2)) - (w64 (11059 * a0_p_0))))) rfl rfl (Yi.pv _ rfl) ?_
    refine TW.yi (.pointer (some ⟨b1, 1, none⟩)) rfl rfl (Yi.fieldAddr (j := 1) Try.underlying23 rfl Try.sizeOf3 rfl) ?_
    refine TW.yi (.int .i64 a0_p_1) rfl rfl (Yi.load1 (i := 1) _ rfl rfl Try.isAgg3 rfl) ?_
    refine TW.yi (.int .i64 (w64 (21709 * a0_p_1))) rfl rfl (Yi.pv _ rfl) ?_
    refine TW.yi (.int .i64 (w64 ((w64 ((w64 (32768 * a0_p_2)) - (w64 (11059 * a0_p_0)))) - (w64 (21709 * a0_p_1))))) rfl rfl (Yi.pv _ rfl) ?_
    refine TW.ca (.int .i64 (rnd (w64 ((w64 ((w64 (32768 * a0_p_2)) - (w64 (11059 * a0_p_0)))) - (w64 (21709 * a0_p_1)))) 65536)) rfl rfl (Ca.call rfl rfl Try.call14 (fun w _ => c_Round (w64 ((w64 ((w64 (32768 * a0_p_2)) - (w64 (11059 * a0_p_0)))) - (w64 (21709 * a0_p_1)))) 65536 w)) ?_
    refine TW.yi (.int .i64 (w64 (128 + (rnd (w64 ((w64 ((w64 (32768 * a0_p_2)) - (w64 (11059 * a0_p_0)))) - (w64 (21709 * a0_p_1)))) 65536)))) rfl rfl (Yi.pv _ rfl) ?_
    obtain ⟨r6, hr6, hm⟩ := of_bind hm
    refine TW.ca (.int .i64 r6) rfl rfl (Ca.call rfl rfl Try.call13 (fun w _ => c_byteOf K (w64 (128 + (rnd (w64 ((w64 ((w64 (32768 * a0_p_2)) - (w64 (11059 * a0_p_0)))) - (w64 (21709 * a0_p_1)))) 65536))) r6 w hr6)) ?_
    refine TW.yi (.pointer (some ⟨b1, 0, none⟩)) rfl rfl (Yi.fieldAddr (j := 0) Try.underlying23 rfl Try.sizeOf3 rfl) ?_
    refine TW.yi (.int .i64 a0_p_0) rfl rfl (Yi.load1 (i := 1) _ rfl rfl Try.isAgg3 rfl) ?_
    refine TW.yi (.int .i64 (w64 (32768 * a0_p_0))) rfl rfl (Yi.pv _ rfl) ?_
    refine TW.yi (.pointer (some ⟨b1, 1, none⟩)) rfl rfl (Yi.fieldAddr (j := 1) Try.underlying23 rfl Try.sizeOf3 rfl) ?_
    refine TW.yi (.int .i64 a0_p_1) rfl rfl (Yi.load1 (i := 1) _ rfl rfl Try.isAgg3 rfl) ?_
    refine TW.yi (.int .i64 (w64 (27439 * a0_p_1))) rfl rfl (Yi.pv _ rfl) ?_
    refine TW.yi (.int .i64 (w64 ((w64 (32768 * a0_p_0)) - (w64 (27439 * a0_p_1))))) rfl rfl (Yi.pv _ rfl) ?_
    refine TW.yi (.pointer (some ⟨b1, 2, none⟩)) rfl rfl (Yi.fieldAddr (j := 2) Try.underlying23 rfl Try.sizeOf3 rfl) ?_
    refine TW.yi (.int .i64 a0_p_2) rfl rfl (Yi.load1 (i := 1) _ rfl rfl Try.isAgg3 rfl) ?_
    refine TW.yi (.int .i64 (w64 (5329 * a0_p_2))) rfl rfl (Yi.pv _ rfl) ?_
    refine TW.yi (.int .i64 (w64 ((w64 ((w64 (32768 * a0_p_0)) - (w64 (27439 * a0_p_1)))) - (w64 (5329 * a0_p_2))))) rfl rfl (Yi.pv _ rfl) ?_
    refine TW.ca (.int .i64 (rnd (w64 ((w64 ((w64 (32768 * a0_p_0)) - (w64 (27439 * a0_p_1)))) - (w64 (5329 * a0_p_2)))) 65536)) rfl rfl (Ca.call rfl rfl Try.call14 (fun w _ => c_Round (w64 ((w64 ((w64 (32768 * a0_p_0)) - (w64 (27439 * a0_p_1)))) - (w64 (5329 * a0_p_2)))) 65536 w)) ?_
    refine TW.yi (.int .i64 (w64 (128 + (rnd (w64 ((w64 ((w64 (32768 * a0_p_0)) - (w64 (27439 * a0_p_1)))) - (w64 (5329 * a0_p_2)))) 65536)))) rfl rfl (Yi.pv _ rfl) ?_
    obtain ⟨r7, hr7, hm⟩ := of_bind hm
    refine TW.ca (.int .i64 r7) rfl rfl (Ca.call rfl rfl Try.call13 (fun w _ => c_byteOf K (w64 (128 + (rnd (w64 ((w64 ((w64 (32768 * a0_p_0)) - (w64 (27439 * a0_p_1)))) - (w64 (5329 * a0_p_2)))) 65536))) r7 w hr7)) ?_
    refine TW.yi (.agg #[.int .i64 r5, .int .i64 r6, .int .i64 r7]) rfl rfl (Yi.build (vs := [.int .i64 r5, .int .i64 r6, .int .i64 r7]) _ rfl rfl (fun _ => by kernel_rfl)) ?_
    refine TW.nil ?_
    refine RW.storeW (i := 0) (cs' := #[.int .i64 r5, .int .i64 r6, .int .i64 r7]) rfl rfl rfl rfl (by kernel_rfl) rfl (by kernel_rfl) ?_
    refine RW.yi (.int .i64 0) rfl rfl (Yi.pv _ rfl) ?_
    refine RW.nil ?_
    refine EW.next ?_
    refine CW.ret ?_
    obtain rfl := Option.some.inj hm
    exact EW.done (rs := [.cell 2 25, .tmp 3]) rfl (.cellW (i := 0) rfl rfl Try.isAgg25 Try.sizeOf25 (.tmp (t := 3) (v := .int .i64 0) rfl .nil)) (fun _ hM => ⟨rfl, hM.below⟩)
  · replace hm := (if_neg h4).symm.trans hm
    refine RW.yi (.bool true) rfl rfl (Yi.pv _ rfl) ?_
    refine RW.nil ?_
    refine EW.next ?_
    refine CW.cond_true rfl ?_
    refine CW.seq ?_
    refine CW.region ?_
    refine RW.yi (.agg #[.int .i64 0, .int .i64 0, .int .i64 0]) rfl rfl (Yi.build (vs := []) _ rfl rfl (fun _ => by kernel_rfl)) ?_
    refine RW.storeW (i := 0) (cs' := #[.int .i64 0, .int .i64 0, .int .i64 0]) rfl rfl rfl rfl (by kernel_rfl) rfl (by kernel_rfl) ?_
    refine RW.yi (.int .i64 2) rfl rfl (Yi.pv _ rfl) ?_
    refine RW.nil ?_
    refine EW.next ?_
    refine CW.ret ?_
    refine EW.thr ?_
    obtain rfl := Option.some.inj hm
    exact EW.done (rs := [.cell 2 25, .tmp 3]) rfl (.cellW (i := 0) rfl rfl Try.isAgg25 Try.sizeOf25 (.tmp (t := 3) (v := .int .i64 2) rfl .nil)) (fun _ hM => ⟨rfl, hM.below⟩)
def cPixel (K : Nat) (a0_t_0 : Int) (a0_t_1 : Int) (a0_t_2 : Int) : Option (Int × Int × Int × Int) :=
  ((cRight K (lf [a0_t_0, a0_t_1, a0_t_2])).bind fun r3 => (if r3 = true then ((byteOf K (w64 (a0_t_0 + (rnd (w64 (91881 * (w64 (a0_t_2 - 128)))) 65536)))).bind fun r5 => ((byteOf K (w64 (a0_t_0 - (rnd (w64 ((w64 (22554 * (w64 (a0_t_1 - 128)))) + (w64 (46802 * (w64 (a0_t_2 - 128)))))) 65536)))).bind fun r6 => ((byteOf K (w64 (a0_t_0 + (rnd (w64 (116130 * (w64 (a0_t_1 - 128)))) 65536)))).bind fun r7 => some (r5, r6, r7, 0)))) else some (0, 0, 0, 2)))

theorem c_cPixel (K : Nat) (a0_t_0 : Int) (a0_t_1 : Int) (a0_t_2 : Int) (r : Int × Int × Int × Int) (w0 : World) (hm : cPixel K a0_t_0 a0_t_1 a0_t_2 = some r) : Calls Try.prog 9 #[.agg #[.int .i64 a0_t_0, .int .i64 a0_t_1, .int .i64 a0_t_2]] w0 fun e w' => e = .returned (.tuple #[.agg #[.int .i64 r.1, .int .i64 r.2.1, .int .i64 r.2.2.1], .int .i64 r.2.2.2]) ∧ Below w0.heap.size w0 w' := by
  unfold cPixel at hm
  refine calls_CW (n := 47) w0 [] [] Try.func9 rfl rfl rfl (Mem.begin w0) ?_
  refine CW.seq ?_
  refine CW.region ?_
  refine RW.box (v := .agg #[.int .i64 a0_t_0, .int .i64 a0_t_1, .int .i64 a0_t_2]) rfl rfl rfl (fun b1 => ?_)
  refine RW.alloc (z := .agg #[.int .i64 0, .int .i64 0, .int .i64 0]) (#[.int .i64 0, .int .i64 0, .int .i64 0]) rfl rfl (fun _ => by kernel_rfl) rfl (fun b2 => ?_)
  refine RW.yi (.int .i64 0) rfl rfl (Yi.pv _ rfl) ?_
  refine RW.nil ?_
  refine EW.next ?_
  refine CW.seq ?_
  refine CW.seq ?_
  refine CW.region ?_
  refine RW.yi (.pointer (some ⟨b1, 0, none⟩)) rfl rfl (Yi.fieldAddr (j := 0) Try.underlying25 rfl Try.sizeOf3 rfl) ?_
  refine RW.yi (.int .i64 a0_t_0) rfl rfl (Yi.load1 (i := 1) _ rfl rfl Try.isAgg3 rfl) ?_
  refine RW.yi (.pointer (some ⟨b1, 1, none⟩)) rfl rfl (Yi.fieldAddr (j := 1) Try.underlying25 rfl Try.sizeOf3 rfl) ?_
  refine RW.yi (.int .i64 a0_t_1) rfl rfl (Yi.load1 (i := 1) _ rfl rfl Try.isAgg3 rfl) ?_
  refine RW.yi (.pointer (some ⟨b1, 2, none⟩)) rfl rfl (Yi.fieldAddr (j := 2) Try.underlying25 rfl Try.sizeOf3 rfl) ?_
  refine RW.yi (.int .i64 a0_t_2) rfl rfl (Yi.load1 (i := 1) _ rfl rfl Try.isAgg3 rfl) ?_
  refine RW.yi (.agg (cf 3 (iv (lf [a0_t_0, a0_t_1, a0_t_2])))) rfl rfl (Yi.build (vs := [.int .i64 a0_t_0, .int .i64 a0_t_1, .int .i64 a0_t_2]) _ rfl rfl (fun _ => by kernel_rfl)) ?_
  obtain ⟨r3, hr3, hm⟩ := of_bind hm
  refine RW.ca (.bool r3) rfl rfl (Ca.call rfl rfl Try.call12 (fun w _ => c_cRight K (lf [a0_t_0, a0_t_1, a0_t_2]) r3 w hr3)) ?_
  refine RW.forkB 13 (r3) rfl (fun h4 => ?_) (fun h4 => ?_)
  · replace hm := (if_pos h4).symm.trans hm
    refine RW.yi (.bool false) rfl rfl (Yi.pv _ rfl) ?_
    refine RW.nil ?_
    refine EW.next ?_
    refine CW.cond_false rfl ?_
    refine CW.skip ?_
    refine EW.next ?_
    refine CW.seq ?_
    refine CW.draws (by kernel_rfl) (by kernel_rfl) ?_
    refine QW.yi (.pointer (some ⟨b1, 1, none⟩)) rfl rfl (Yi.fieldAddr (j := 1) Try.underlying25 rfl Try.sizeOf3 rfl) ?_
    refine QW.yi (.int .i64 a0_t_1) rfl rfl (Yi.load1 (i := 1) _ rfl rfl Try.isAgg3 rfl) ?_
    refine QW.yi (.int .i64 (w64 (a0_t_1 - 128))) rfl rfl (Yi.pv _ rfl) ?_
    refine QW.yi (.pointer (some ⟨b1, 2, none⟩)) rfl rfl (Yi.fieldAddr (j := 2) Try.underlying25 rfl Try.sizeOf3 rfl) ?_
    refine QW.yi (.int .i64 a0_t_2) rfl rfl (Yi.load1 (i := 1) _ rfl rfl Try.isAgg3 rfl) ?_
    refine QW.yi (.int .i64 (w64 (a0_t_2 - 128))) rfl rfl (Yi.pv _ rfl) ?_
    refine QW.yi (.int .i64 (w64 (a0_t_1 - 128))) rfl rfl (Yi.pv _ rfl) ?_
    refine QW.yi (.int .i64 (w64 (a0_t_2 - 128))) rfl rfl (Yi.pv _ rfl) ?_
    refine QW.nil ?_
    refine EW.next ?_
    refine CW.seq ?_
    refine CW.tailC 25 (by kernel_rfl) (by kernel_rfl) ?_
    refine TW.yi (.pointer (some ⟨b1, 0, none⟩)) rfl rfl (Yi.fieldAddr (j := 0) Try.underlying25 rfl Try.sizeOf3 rfl) ?_
    refine TW.yi (.int .i64 a0_t_0) rfl rfl (Yi.load1 (i := 1) _ rfl rfl Try.isAgg3 rfl) ?_
    refine TW.yi (.int .i64 (w64 (a0_t_2 - 128))) rfl rfl (Yi.pv _ rfl) ?_
    refine TW.yi (.int .i64 (w64 (91881 * (w64 (a0_t_2 - 128))))) rfl rfl (Yi.pv _ rfl) ?_
    refine TW.ca (.int .i64 (rnd (w64 (91881 * (w64 (a0_t_2 - 128)))) 65536)) rfl rfl (Ca.call rfl rfl Try.call14 (fun w _ => c_Round (w64 (91881 * (w64 (a0_t_2 - 128)))) 65536 w)) ?_
    refine TW.yi (.int .i64 (w64 (a0_t_0 + (rnd (w64 (91881 * (w64 (a0_t_2 - 128)))) 65536)))) rfl rfl (Yi.pv _ rfl) ?_
    obtain ⟨r5, hr5, hm⟩ := of_bind hm
    refine TW.ca (.int .i64 r5) rfl rfl (Ca.call rfl rfl Try.call13 (fun w _ => c_byteOf K (w64 (a0_t_0 + (rnd (w64 (91881 * (w64 (a0_t_2 - 128)))) 65536))) r5 w hr5)) ?_
    refine TW.yi (.pointer (some ⟨b1, 0, none⟩)) rfl rfl (Yi.fieldAddr (j := 0) Try.underlying25 rfl Try.sizeOf3 rfl) ?_
    refine TW.yi (.int .i64 a0_t_0) rfl rfl (Yi.load1 (i := 1) _ rfl rfl Try.isAgg3 rfl) ?_
    refine TW.yi (.int .i64 (w64 (a0_t_1 - 128))) rfl rfl (Yi.pv _ rfl) ?_
    refine TW.yi (.int .i64 (w64 (22554 * (w64 (a0_t_1 - 128))))) rfl rfl (Yi.pv _ rfl) ?_
    refine TW.yi (.int .i64 (w64 (a0_t_2 - 128))) rfl rfl (Yi.pv _ rfl) ?_
    refine TW.yi (.int .i64 (w64 (46802 * (w64 (a0_t_2 - 128))))) rfl rfl (Yi.pv _ rfl) ?_
    refine TW.yi (.int .i64 (w64 ((w64 (22554 * (w64 (a0_t_1 - 128)))) + (w64 (46802 * (w64 (a0_t_2 - 128))))))) rfl rfl (Yi.pv _ rfl) ?_
    refine TW.ca (.int .i64 (rnd (w64 ((w64 (22554 * (w64 (a0_t_1 - 128)))) + (w64 (46802 * (w64 (a0_t_2 - 128)))))) 65536)) rfl rfl (Ca.call rfl rfl Try.call14 (fun w _ => c_Round (w64 ((w64 (22554 * (w64 (a0_t_1 - 128)))) + (w64 (46802 * (w64 (a0_t_2 - 128)))))) 65536 w)) ?_
    refine TW.yi (.int .i64 (w64 (a0_t_0 - (rnd (w64 ((w64 (22554 * (w64 (a0_t_1 - 128)))) + (w64 (46802 * (w64 (a0_t_2 - 128)))))) 65536)))) rfl rfl (Yi.pv _ rfl) ?_
    obtain ⟨r6, hr6, hm⟩ := of_bind hm
    refine TW.ca (.int .i64 r6) rfl rfl (Ca.call rfl rfl Try.call13 (fun w _ => c_byteOf K (w64 (a0_t_0 - (rnd (w64 ((w64 (22554 * (w64 (a0_t_1 - 128)))) + (w64 (46802 * (w64 (a0_t_2 - 128)))))) 65536))) r6 w hr6)) ?_
    refine TW.yi (.pointer (some ⟨b1, 0, none⟩)) rfl rfl (Yi.fieldAddr (j := 0) Try.underlying25 rfl Try.sizeOf3 rfl) ?_
    refine TW.yi (.int .i64 a0_t_0) rfl rfl (Yi.load1 (i := 1) _ rfl rfl Try.isAgg3 rfl) ?_
    refine TW.yi (.int .i64 (w64 (a0_t_1 - 128))) rfl rfl (Yi.pv _ rfl) ?_
    refine TW.yi (.int .i64 (w64 (116130 * (w64 (a0_t_1 - 128))))) rfl rfl (Yi.pv _ rfl) ?_
    refine TW.ca (.int .i64 (rnd (w64 (116130 * (w64 (a0_t_1 - 128)))) 65536)) rfl rfl (Ca.call rfl rfl Try.call14 (fun w _ => c_Round (w64 (116130 * (w64 (a0_t_1 - 128)))) 65536 w)) ?_
    refine TW.yi (.int .i64 (w64 (a0_t_0 + (rnd (w64 (116130 * (w64 (a0_t_1 - 128)))) 65536)))) rfl rfl (Yi.pv _ rfl) ?_
    obtain ⟨r7, hr7, hm⟩ := of_bind hm
    refine TW.ca (.int .i64 r7) rfl rfl (Ca.call rfl rfl Try.call13 (fun w _ => c_byteOf K (w64 (a0_t_0 + (rnd (w64 (116130 * (w64 (a0_t_1 - 128)))) 65536))) r7 w hr7)) ?_
    refine TW.yi (.agg #[.int .i64 r5, .int .i64 r6, .int .i64 r7]) rfl rfl (Yi.build (vs := [.int .i64 r5, .int .i64 r6, .int .i64 r7]) _ rfl rfl (fun _ => by kernel_rfl)) ?_
    refine TW.nil ?_
    refine RW.storeW (i := 0) (cs' := #[.int .i64 r5, .int .i64 r6, .int .i64 r7]) rfl rfl rfl rfl (by kernel_rfl) rfl (by kernel_rfl) ?_
    refine RW.yi (.int .i64 0) rfl rfl (Yi.pv _ rfl) ?_
    refine RW.nil ?_
    refine EW.next ?_
    refine CW.ret ?_
    obtain rfl := Option.some.inj hm
    exact EW.done (rs := [.cell 2 23, .tmp 3]) rfl (.cellW (i := 0) rfl rfl Try.isAgg23 Try.sizeOf23 (.tmp (t := 3) (v := .int .i64 0) rfl .nil)) (fun _ hM => ⟨rfl, hM.below⟩)
  · replace hm := (if_neg h4).symm.trans hm
    refine RW.yi (.bool true) rfl rfl (Yi.pv _ rfl) ?_
    refine RW.nil ?_
    refine EW.next ?_
    refine CW.cond_true rfl ?_
    refine CW.seq ?_
    refine CW.region ?_
    refine RW.yi (.agg #[.int .i64 0, .int .i64 0, .int .i64 0]) rfl rfl (Yi.build (vs := []) _ rfl rfl (fun _ => by kernel_rfl)) ?_
    refine RW.storeW (i := 0) (cs' := #[.int .i64 0, .int .i64 0, .int .i64 0]) rfl rfl rfl rfl (by kernel_rfl) rfl (by kernel_rfl) ?_
    refine RW.yi (.int .i64 2) rfl rfl (Yi.pv _ rfl) ?_
    refine RW.nil ?_
    refine EW.next ?_
    refine CW.ret ?_
    refine EW.thr ?_
    obtain rfl := Option.some.inj hm
    exact EW.done (rs := [.cell 2 23, .tmp 3]) rfl (.cellW (i := 0) rfl rfl Try.isAgg23 Try.sizeOf23 (.tmp (t := 3) (v := .int .i64 2) rfl .nil)) (fun _ hM => ⟨rfl, hM.below⟩)
def rIn11 (_ : Nat) (a0_n : Int) : Option (Bool) :=
  (if 0 ≤ a0_n then some (decide (a0_n ≤ 255)) else some false)

theorem c_rIn11 (K : Nat) (a0_n : Int) (r : Bool) (w0 : World) (hm : rIn11 K a0_n = some r) : Calls Try.prog 11 #[.int .i64 a0_n] w0 fun e w' => e = .returned (.bool r) ∧ Below w0.heap.size w0 w' := by
  unfold rIn11 at hm
  refine calls_CW (n := 9) w0 [] [] Try.func11 rfl rfl rfl (Mem.begin w0) ?_
  refine CW.seq ?_
  refine CW.region ?_
  refine RW.yi (.bool false) rfl rfl (Yi.pv _ rfl) ?_
  refine RW.nil ?_
  refine EW.next ?_
  refine CW.seq ?_
  refine CW.region ?_
  refine RW.yi (.int .i64 a0_n) rfl rfl (Yi.pv _ rfl) ?_
  refine RW.yi (.bool (decide (0 ≤ a0_n))) rfl rfl (Yi.pv _ rfl) ?_
  refine RW.yi (.bool (decide (0 ≤ a0_n))) rfl rfl (Yi.pv _ rfl) ?_
  refine RW.fork 5 (0 ≤ a0_n) rfl (fun h1 => ?_) (fun h1 => ?_)
  · replace hm := (if_pos h1).symm.trans hm
    refine RW.yi (.int .i64 a0_n) rfl rfl (Yi.pv _ rfl) ?_
    refine RW.yi (.bool (decide (a0_n ≤ 255))) rfl rfl (Yi.pv _ rfl) ?_
    refine RW.yi (.bool (decide (a0_n ≤ 255))) rfl rfl (Yi.pv _ rfl) ?_
    refine RW.yi (.bool (decide (a0_n ≤ 255))) rfl rfl (Yi.pv _ rfl) ?_
    refine RW.nil ?_
    refine EW.next ?_
    refine CW.ret ?_
    obtain rfl := Option.some.inj hm
    exact EW.done (rs := [.tmp 2]) rfl (.tmp (t := 2) (v := .bool (decide (a0_n ≤ 255))) rfl .nil) (fun _ hM => ⟨rfl, hM.below⟩)
  · replace hm := (if_neg h1).symm.trans hm
    refine RW.pass rfl rfl ?_
    refine RW.pass rfl rfl ?_
    refine RW.yi (.bool false) rfl rfl (Yi.pv _ rfl) ?_
    refine RW.yi (.bool false) rfl rfl (Yi.pv _ rfl) ?_
    refine RW.nil ?_
    refine EW.next ?_
    refine CW.ret ?_
    obtain rfl := Option.some.inj hm
    exact EW.done (rs := [.tmp 2]) rfl (.tmp (t := 2) (v := .bool false) rfl .nil) (fun _ hM => ⟨rfl, hM.below⟩)
def rCut (_ : Nat) (a0_n : Int) : Option (Int) :=
  (if a0_n < 0 then some 0 else (if 255 < a0_n then some 255 else some a0_n))

theorem c_rCut (K : Nat) (a0_n : Int) (r : Int) (w0 : World) (hm : rCut K a0_n = some r) : Calls Try.prog 15 #[.int .i64 a0_n] w0 fun e w' => e = .returned (.int .i64 r) ∧ Below w0.heap.size w0 w' := by
  unfold rCut at hm
  refine calls_CW (n := 8) w0 [] [] Try.func15 rfl rfl rfl (Mem.begin w0) ?_
  refine CW.seq ?_
  refine CW.region ?_
  refine RW.yi (.int .i64 0) rfl rfl (Yi.pv _ rfl) ?_
  refine RW.nil ?_
  refine EW.next ?_
  refine CW.seq ?_
  refine CW.seq ?_
  refine CW.region ?_
  refine RW.yi (.int .i64 a0_n) rfl rfl (Yi.pv _ rfl) ?_
  refine RW.yi (.bool (decide (a0_n < 0))) rfl rfl (Yi.pv _ rfl) ?_
  refine RW.nil ?_
  refine EW.next ?_
  refine CW.fork 4 (a0_n < 0) rfl (fun h1 => ?_) (fun h1 => ?_)
  · replace hm := (if_pos h1).symm.trans hm
    refine CW.cond_true rfl ?_
    refine CW.seq ?_
    refine CW.region ?_
    refine RW.yi (.int .i64 0) rfl rfl (Yi.pv _ rfl) ?_
    refine RW.nil ?_
    refine EW.next ?_
    refine CW.ret ?_
    refine EW.thr ?_
    obtain rfl := Option.some.inj hm
    exact EW.done (rs := [.tmp 2]) rfl (.tmp (t := 2) (v := .int .i64 0) rfl .nil) (fun _ hM => ⟨rfl, hM.below⟩)
  · replace hm := (if_neg h1).symm.trans hm
    refine CW.cond_false rfl ?_
    refine CW.skip ?_
    refine EW.next ?_
    refine CW.seq ?_
    refine CW.seq ?_
    refine CW.region ?_
    refine RW.yi (.int .i64 a0_n) rfl rfl (Yi.pv _ rfl) ?_
    refine RW.yi (.bool (decide (255 < a0_n))) rfl rfl (Yi.pv _ rfl) ?_
    refine RW.nil ?_
    refine EW.next ?_
    refine CW.fork 6 (255 < a0_n) rfl (fun h2 => ?_) (fun h2 => ?_)
    · replace hm := (if_pos h2).symm.trans hm
      refine CW.cond_true rfl ?_
      refine CW.seq ?_
      refine CW.region ?_
      refine RW.yi (.int .i64 255) rfl rfl (Yi.pv _ rfl) ?_
      refine RW.nil ?_
      refine EW.next ?_
      refine CW.ret ?_
      refine EW.thr ?_
      obtain rfl := Option.some.inj hm
      exact EW.done (rs := [.tmp 2]) rfl (.tmp (t := 2) (v := .int .i64 255) rfl .nil) (fun _ hM => ⟨rfl, hM.below⟩)
    · replace hm := (if_neg h2).symm.trans hm
      refine CW.cond_false rfl ?_
      refine CW.skip ?_
      refine EW.next ?_
      refine CW.seq ?_
      refine CW.region ?_
      refine RW.yi (.int .i64 a0_n) rfl rfl (Yi.pv _ rfl) ?_
      refine RW.yi (.int .i64 a0_n) rfl rfl (Yi.pv _ rfl) ?_
      refine RW.nil ?_
      refine EW.next ?_
      refine CW.ret ?_
      obtain rfl := Option.some.inj hm
      exact EW.done (rs := [.tmp 2]) rfl (.tmp (t := 2) (v := .int .i64 a0_n) rfl .nil) (fun _ hM => ⟨rfl, hM.below⟩)
def rBy (_ : Nat) (a0_n : Int) : Option (Int) :=
  some (rnd a0_n 65536)

theorem c_rBy (K : Nat) (a0_n : Int) (r : Int) (w0 : World) (hm : rBy K a0_n = some r) : Calls Try.prog 16 #[.int .i64 a0_n] w0 fun e w' => e = .returned (.int .i64 r) ∧ Below w0.heap.size w0 w' := by
  unfold rBy at hm
  refine calls_CW (n := 5) w0 [] [] Try.func16 rfl rfl rfl (Mem.begin w0) ?_
  refine CW.seq ?_
  refine CW.region ?_
  refine RW.yi (.int .i64 0) rfl rfl (Yi.pv _ rfl) ?_
  refine RW.nil ?_
  refine EW.next ?_
  refine CW.seq ?_
  refine CW.region ?_
  refine RW.yi (.int .i64 a0_n) rfl rfl (Yi.pv _ rfl) ?_
  refine RW.ca (.int .i64 (rnd a0_n 65536)) rfl rfl (Ca.call rfl rfl Try.call17 (fun w _ => c_rRound a0_n 65536 w)) ?_
  refine RW.yi (.int .i64 (rnd a0_n 65536)) rfl rfl (Yi.pv _ rfl) ?_
  refine RW.nil ?_
  refine EW.next ?_
  refine CW.ret ?_
  obtain rfl := Option.some.inj hm
  exact EW.done (rs := [.tmp 2]) rfl (.tmp (t := 2) (v := .int .i64 (rnd a0_n 65536)) rfl .nil) (fun _ hM => ⟨rfl, hM.below⟩)
def rPixel (K : Nat) (a0_y : Int) (a1_cb : Int) (a2_cr : Int) : Option (Int × Int × Int × Int) :=
  ((rIn11 K a0_y).bind fun r2 => (if r2 = true then ((rIn11 K a1_cb).bind fun r4 => (if r4 = true then ((rIn11 K a2_cr).bind fun r6 => (if r6 = true then ((rBy K (w64 (91881 * (w64 (a2_cr - 128))))).bind fun r8 => ((rCut K (w64 (a0_y + r8))).bind fun r9 => ((rBy K (w64 ((w64 (22554 * (w64 (a1_cb - 128)))) + (w64 (46802 * (w64 (a2_cr - 128))))))).bind fun r10 => ((rCut K (w64 (a0_y - r10))).bind fun r11 => ((rBy K (w64 (116130 * (w64 (a1_cb - 128))))).bind fun r12 => ((rCut K (w64 (a0_y + r12))).bind fun r13 => some (r9, r11, r13, 0))))))) else some (0, 0, 0, 2))) else some (0, 0, 0, 2))) else some (0, 0, 0, 2)))

theorem c_rPixel (K : Nat) (a0_y : Int) (a1_cb : Int) (a2_cr : Int) (r : Int × Int × Int × Int) (w0 : World) (hm : rPixel K a0_y a1_cb a2_cr = some r) : Calls Try.prog 10 #[.int .i64 a0_y, .int .i64 a1_cb, .int .i64 a2_cr] w0 fun e w' => e = .returned (.tuple #[.agg #[.int .i64 r.1, .int .i64 r.2.1, .int .i64 r.2.2.1], .int .i64 r.2.2.2]) ∧ Below w0.heap.size w0 w' := by
  unfold rPixel at hm
  refine calls_CW (n := 50) w0 [] [] Try.func10 rfl rfl rfl (Mem.begin w0) ?_
  refine CW.seq ?_
  refine CW.region ?_
  refine RW.alloc (z := .agg #[.int .i64 0, .int .i64 0, .int .i64 0]) (#[.int .i64 0, .int .i64 0, .int .i64 0]) rfl rfl (fun _ => by kernel_rfl) rfl (fun b1 => ?_)
  refine RW.yi (.int .i64 0) rfl rfl (Yi.pv _ rfl) ?_
  refine RW.nil ?_
  refine EW.next ?_
  refine CW.seq ?_
  refine CW.seq ?_
  refine CW.region ?_
  refine RW.yi (.int .i64 a0_y) rfl rfl (Yi.pv _ rfl) ?_
  obtain ⟨r2, hr2, hm⟩ := of_bind hm
  refine RW.ca (.bool r2) rfl rfl (Ca.call rfl rfl Try.call11 (fun w _ => c_rIn11 K a0_y r2 w hr2)) ?_
  refine RW.forkB 11 (r2) rfl (fun h3 => ?_) (fun h3 => ?_)
  · replace hm := (if_pos h3).symm.trans hm
    refine RW.yi (.bool false) rfl rfl (Yi.pv _ rfl) ?_
    refine RW.yi (.bool false) rfl rfl (Yi.pv _ rfl) ?_
    refine RW.yi (.int .i64 a1_cb) rfl rfl (Yi.pv _ rfl) ?_
    obtain ⟨r4, hr4, hm⟩ := of_bind hm
    refine RW.ca (.bool r4) rfl rfl (Ca.call rfl rfl Try.call11 (fun w _ => c_rIn11 K a1_cb r4 w hr4)) ?_
    refine RW.forkB 15 (r4) rfl (fun h5 => ?_) (fun h5 => ?_)
    · replace hm := (if_pos h5).symm.trans hm
      refine RW.yi (.bool false) rfl rfl (Yi.pv _ rfl) ?_
      refine RW.yi (.bool false) rfl rfl (Yi.pv _ rfl) ?_
      refine RW.yi (.bool false) rfl rfl (Yi.pv _ rfl) ?_
      refine RW.yi (.int .i64 a2_cr) rfl rfl (Yi.pv _ rfl) ?_
      obtain ⟨r6, hr6, hm⟩ := of_bind hm
      refine RW.ca (.bool r6) rfl rfl (Ca.call rfl rfl Try.call11 (fun w _ => c_rIn11 K a2_cr r6 w hr6)) ?_
      refine RW.forkB 20 (r6) rfl (fun h7 => ?_) (fun h7 => ?_)
      · replace hm := (if_pos h7).symm.trans hm
        refine RW.yi (.bool false) rfl rfl (Yi.pv _ rfl) ?_
        refine RW.yi (.bool false) rfl rfl (Yi.pv _ rfl) ?_
        refine RW.nil ?_
        refine EW.next ?_
        refine CW.cond_false rfl ?_
        refine CW.skip ?_
        refine EW.next ?_
        refine CW.seq ?_
        refine CW.region ?_
        refine RW.yi (.int .i64 a1_cb) rfl rfl (Yi.pv _ rfl) ?_
        refine RW.yi (.int .i64 (w64 (a1_cb - 128))) rfl rfl (Yi.pv _ rfl) ?_
        refine RW.yi (.int .i64 (w64 (a1_cb - 128))) rfl rfl (Yi.pv _ rfl) ?_
        refine RW.nil ?_
        refine EW.next ?_
        refine CW.seq ?_
        refine CW.region ?_
        refine RW.yi (.int .i64 a2_cr) rfl rfl (Yi.pv _ rfl) ?_
        refine RW.yi (.int .i64 (w64 (a2_cr - 128))) rfl rfl (Yi.pv _ rfl) ?_
        refine RW.yi (.int .i64 (w64 (a2_cr - 128))) rfl rfl (Yi.pv _ rfl) ?_
        refine RW.nil ?_
        refine EW.next ?_
        refine CW.seq ?_
        refine CW.region ?_
        refine RW.yi (.int .i64 a0_y) rfl rfl (Yi.pv _ rfl) ?_
        refine RW.yi (.int .i64 (w64 (a2_cr - 128))) rfl rfl (Yi.pv _ rfl) ?_
        refine RW.yi (.int .i64 (w64 (91881 * (w64 (a2_cr - 128))))) rfl rfl (Yi.pv _ rfl) ?_
        obtain ⟨r8, hr8, hm⟩ := of_bind hm
        refine RW.ca (.int .i64 r8) rfl rfl (Ca.call rfl rfl Try.call16 (fun w _ => c_rBy K (w64 (91881 * (w64 (a2_cr - 128)))) r8 w hr8)) ?_
        refine RW.yi (.int .i64 (w64 (a0_y + r8))) rfl rfl (Yi.pv _ rfl) ?_
        obtain ⟨r9, hr9, hm⟩ := of_bind hm
        refine RW.ca (.int .i64 r9) rfl rfl (Ca.call rfl rfl Try.call15 (fun w _ => c_rCut K (w64 (a0_y + r8)) r9 w hr9)) ?_
        refine RW.yi (.int .i64 a0_y) rfl rfl (Yi.pv _ rfl) ?_
        refine RW.yi (.int .i64 (w64 (a1_cb - 128))) rfl rfl (Yi.pv _ rfl) ?_
        refine RW.yi (.int .i64 (w64 (22554 * (w64 (a1_cb - 128))))) rfl rfl (Yi.pv _ rfl) ?_
        refine RW.yi (.int .i64 (w64 (a2_cr - 128))) rfl rfl (Yi.pv _ rfl) ?_
        refine RW.yi (.int .i64 (w64 (46802 * (w64 (a2_cr - 128))))) rfl rfl (Yi.pv _ rfl) ?_
        refine RW.yi (.int .i64 (w64 ((w64 (22554 * (w64 (a1_cb - 128)))) + (w64 (46802 * (w64 (a2_cr - 128))))))) rfl rfl (Yi.pv _ rfl) ?_
        obtain ⟨r10, hr10, hm⟩ := of_bind hm
        refine RW.ca (.int .i64 r10) rfl rfl (Ca.call rfl rfl Try.call16 (fun w _ => c_rBy K (w64 ((w64 (22554 * (w64 (a1_cb - 128)))) + (w64 (46802 * (w64 (a2_cr - 128)))))) r10 w hr10)) ?_
        refine RW.yi (.int .i64 (w64 (a0_y - r10))) rfl rfl (Yi.pv _ rfl) ?_
        obtain ⟨r11, hr11, hm⟩ := of_bind hm
        refine RW.ca (.int .i64 r11) rfl rfl (Ca.call rfl rfl Try.call15 (fun w _ => c_rCut K (w64 (a0_y - r10)) r11 w hr11)) ?_
        refine RW.yi (.int .i64 a0_y) rfl rfl (Yi.pv _ rfl) ?_
        refine RW.yi (.int .i64 (w64 (a1_cb - 128))) rfl rfl (Yi.pv _ rfl) ?_
        refine RW.yi (.int .i64 (w64 (116130 * (w64 (a1_cb - 128))))) rfl rfl (Yi.pv _ rfl) ?_
        obtain ⟨r12, hr12, hm⟩ := of_bind hm
        refine RW.ca (.int .i64 r12) rfl rfl (Ca.call rfl rfl Try.call16 (fun w _ => c_rBy K (w64 (116130 * (w64 (a1_cb - 128)))) r12 w hr12)) ?_
        refine RW.yi (.int .i64 (w64 (a0_y + r12))) rfl rfl (Yi.pv _ rfl) ?_
        obtain ⟨r13, hr13, hm⟩ := of_bind hm
        refine RW.ca (.int .i64 r13) rfl rfl (Ca.call rfl rfl Try.call15 (fun w _ => c_rCut K (w64 (a0_y + r12)) r13 w hr13)) ?_
        refine RW.yi (.agg #[.int .i64 r9, .int .i64 r11, .int .i64 r13]) rfl rfl (Yi.build (vs := [.int .i64 r9, .int .i64 r11, .int .i64 r13]) _ rfl rfl (fun _ => by kernel_rfl)) ?_
        refine RW.storeW (i := 0) (cs' := #[.int .i64 r9, .int .i64 r11, .int .i64 r13]) rfl rfl rfl rfl (by kernel_rfl) rfl (by kernel_rfl) ?_
        refine RW.yi (.int .i64 0) rfl rfl (Yi.pv _ rfl) ?_
        refine RW.nil ?_
        refine EW.next ?_
        refine CW.ret ?_
        obtain rfl := Option.some.inj hm
        exact EW.done (rs := [.cell 6 23, .tmp 7]) rfl (.cellW (i := 0) rfl rfl Try.isAgg23 Try.sizeOf23 (.tmp (t := 7) (v := .int .i64 0) rfl .nil)) (fun _ hM => ⟨rfl, hM.below⟩)
      · replace hm := (if_neg h7).symm.trans hm
        refine RW.yi (.bool true) rfl rfl (Yi.pv _ rfl) ?_
        refine RW.yi (.bool true) rfl rfl (Yi.pv _ rfl) ?_
        refine RW.nil ?_
        refine EW.next ?_
        refine CW.cond_true rfl ?_
        refine CW.seq ?_
        refine CW.region ?_
        refine RW.yi (.agg #[.int .i64 0, .int .i64 0, .int .i64 0]) rfl rfl (Yi.build (vs := []) _ rfl rfl (fun _ => by kernel_rfl)) ?_
        refine RW.storeW (i := 0) (cs' := #[.int .i64 0, .int .i64 0, .int .i64 0]) rfl rfl rfl rfl (by kernel_rfl) rfl (by kernel_rfl) ?_
        refine RW.yi (.int .i64 2) rfl rfl (Yi.pv _ rfl) ?_
        refine RW.nil ?_
        refine EW.next ?_
        refine CW.ret ?_
        refine EW.thr ?_
        obtain rfl := Option.some.inj hm
        exact EW.done (rs := [.cell 6 23, .tmp 7]) rfl (.cellW (i := 0) rfl rfl Try.isAgg23 Try.sizeOf23 (.tmp (t := 7) (v := .int .i64 2) rfl .nil)) (fun _ hM => ⟨rfl, hM.below⟩)
    · replace hm := (if_neg h5).symm.trans hm
      refine RW.yi (.bool true) rfl rfl (Yi.pv _ rfl) ?_
      refine RW.yi (.bool true) rfl rfl (Yi.pv _ rfl) ?_
      refine RW.yi (.bool true) rfl rfl (Yi.pv _ rfl) ?_
      refine RW.pass rfl rfl ?_
      refine RW.pass rfl rfl ?_
      refine RW.pass rfl rfl ?_
      refine RW.yi (.bool true) rfl rfl (Yi.pv _ rfl) ?_
      refine RW.nil ?_
      refine EW.next ?_
      refine CW.cond_true rfl ?_
      refine CW.seq ?_
      refine CW.region ?_
      refine RW.yi (.agg #[.int .i64 0, .int .i64 0, .int .i64 0]) rfl rfl (Yi.build (vs := []) _ rfl rfl (fun _ => by kernel_rfl)) ?_
      refine RW.storeW (i := 0) (cs' := #[.int .i64 0, .int .i64 0, .int .i64 0]) rfl rfl rfl rfl (by kernel_rfl) rfl (by kernel_rfl) ?_
      refine RW.yi (.int .i64 2) rfl rfl (Yi.pv _ rfl) ?_
      refine RW.nil ?_
      refine EW.next ?_
      refine CW.ret ?_
      refine EW.thr ?_
      obtain rfl := Option.some.inj hm
      exact EW.done (rs := [.cell 6 23, .tmp 7]) rfl (.cellW (i := 0) rfl rfl Try.isAgg23 Try.sizeOf23 (.tmp (t := 7) (v := .int .i64 2) rfl .nil)) (fun _ hM => ⟨rfl, hM.below⟩)
  · replace hm := (if_neg h3).symm.trans hm
    refine RW.yi (.bool true) rfl rfl (Yi.pv _ rfl) ?_
    refine RW.yi (.bool true) rfl rfl (Yi.pv _ rfl) ?_
    refine RW.pass rfl rfl ?_
    refine RW.pass rfl rfl ?_
    refine RW.pass rfl rfl ?_
    refine RW.yi (.bool true) rfl rfl (Yi.pv _ rfl) ?_
    refine RW.yi (.bool true) rfl rfl (Yi.pv _ rfl) ?_
    refine RW.pass rfl rfl ?_
    refine RW.pass rfl rfl ?_
    refine RW.pass rfl rfl ?_
    refine RW.yi (.bool true) rfl rfl (Yi.pv _ rfl) ?_
    refine RW.nil ?_
    refine EW.next ?_
    refine CW.cond_true rfl ?_
    refine CW.seq ?_
    refine CW.region ?_
    refine RW.yi (.agg #[.int .i64 0, .int .i64 0, .int .i64 0]) rfl rfl (Yi.build (vs := []) _ rfl rfl (fun _ => by kernel_rfl)) ?_
    refine RW.storeW (i := 0) (cs' := #[.int .i64 0, .int .i64 0, .int .i64 0]) rfl rfl rfl rfl (by kernel_rfl) rfl (by kernel_rfl) ?_
    refine RW.yi (.int .i64 2) rfl rfl (Yi.pv _ rfl) ?_
    refine RW.nil ?_
    refine EW.next ?_
    refine CW.ret ?_
    refine EW.thr ?_
    obtain rfl := Option.some.inj hm
    exact EW.done (rs := [.cell 6 23, .tmp 7]) rfl (.cellW (i := 0) rfl rfl Try.isAgg23 Try.sizeOf23 (.tmp (t := 7) (v := .int .i64 2) rfl .nil)) (fun _ hM => ⟨rfl, hM.below⟩)
def awake11 (K : Nat)  : Option (Bool) :=
  ((cOf K 255 0 0).bind fun r1 => (if [r1.1, r1.2.1, r1.2.2.1] = [76, 85, 255] then some (decide (r1.2.2.2 = 0)) else some false))

theorem c_awake11 (K : Nat)  (r : Bool) (w0 : World) (hm : awake11 K  = some r) : Calls Try.prog 8 #[] w0 fun e w' => e = .returned (.bool r) ∧ Below w0.heap.size w0 w' := by
  unfold awake11 at hm
  refine calls_CW (n := 15) w0 [] [] Try.func8 rfl rfl rfl (Mem.begin w0) ?_
  refine CW.seq ?_
  refine CW.region ?_
  refine RW.yi (.bool false) rfl rfl (Yi.pv _ rfl) ?_
  refine RW.nil ?_
  refine EW.next ?_
  refine CW.seq ?_
  refine CW.region ?_
  refine RW.yi (.agg #[.int .i64 255, .int .i64 0, .int .i64 0]) rfl rfl (Yi.build (vs := [.int .i64 255]) _ rfl rfl (fun _ => by kernel_rfl)) ?_
  obtain ⟨r1, hr1, hm⟩ := of_bind hm
  refine RW.ca (.tuple #[.agg #[.int .i64 r1.1, .int .i64 r1.2.1, .int .i64 r1.2.2.1], .int .i64 r1.2.2.2]) rfl rfl (Ca.call rfl rfl Try.call7 (fun w _ => c_cOf K 255 0 0 r1 w hr1)) ?_
  refine RW.yi (.tuple #[.agg #[.int .i64 r1.1, .int .i64 r1.2.1, .int .i64 r1.2.2.1], .int .i64 r1.2.2.2]) rfl rfl (Yi.pv _ rfl) ?_
  refine RW.yi (.agg #[.int .i64 r1.1, .int .i64 r1.2.1, .int .i64 r1.2.2.1]) rfl rfl (Yi.pv _ rfl) ?_
  refine RW.yi (.int .i64 r1.2.2.2) rfl rfl (Yi.pv _ rfl) ?_
  refine RW.alloc (z := .agg #[.int .i64 0, .int .i64 0, .int .i64 0]) (#[.int .i64 0, .int .i64 0, .int .i64 0]) rfl rfl (fun _ => by kernel_rfl) rfl (fun b2 => ?_)
  refine RW.storeW (i := 0) (cs' := #[.int .i64 r1.1, .int .i64 r1.2.1, .int .i64 r1.2.2.1]) rfl rfl rfl rfl (by kernel_rfl) rfl (by kernel_rfl) ?_
  refine RW.yi (.int .i64 r1.2.2.2) rfl rfl (Yi.pv _ rfl) ?_
  refine RW.nil ?_
  refine EW.next ?_
  refine CW.seq ?_
  refine CW.region ?_
  refine RW.yi (.agg #[.int .i64 r1.1, .int .i64 r1.2.1, .int .i64 r1.2.2.1]) rfl rfl (Yi.loadW (i := 0) rfl rfl Try.isAgg25 Try.sizeOf25) ?_
  refine RW.yi (.agg #[.int .i64 76, .int .i64 85, .int .i64 255]) rfl rfl (Yi.build (vs := [.int .i64 76, .int .i64 85, .int .i64 255]) _ rfl rfl (fun _ => by kernel_rfl)) ?_
  refine RW.yi (.bool (decide ([r1.1, r1.2.1, r1.2.2.1] = [76, 85, 255]))) rfl rfl (Yi.eqS (xs := [r1.1, r1.2.1, r1.2.2.1]) (ys := [76, 85, 255]) Try.underlying25 Try.eqGuardType25 Try.stoodInHeld25 (by kernel_rfl) rfl rfl rfl rfl) ?_
  refine RW.yi (.bool (decide ([r1.1, r1.2.1, r1.2.2.1] = [76, 85, 255]))) rfl rfl (Yi.pv _ rfl) ?_
  refine RW.fork 11 ([r1.1, r1.2.1, r1.2.2.1] = [76, 85, 255]) rfl (fun h3 => ?_) (fun h3 => ?_)
  · replace hm := (if_pos h3).symm.trans hm
    refine RW.yi (.int .i64 r1.2.2.2) rfl rfl (Yi.pv _ rfl) ?_
    refine RW.yi (.bool (decide (r1.2.2.2 = 0))) rfl rfl (Yi.pv _ rfl) ?_
    refine RW.yi (.bool (decide (r1.2.2.2 = 0))) rfl rfl (Yi.pv _ rfl) ?_
    refine RW.yi (.bool (decide (r1.2.2.2 = 0))) rfl rfl (Yi.pv _ rfl) ?_
    refine RW.nil ?_
    refine EW.next ?_
    refine CW.ret ?_
    obtain rfl := Option.some.inj hm
    exact EW.done (rs := [.tmp 0]) rfl (.tmp (t := 0) (v := .bool (decide (r1.2.2.2 = 0))) rfl .nil) (fun _ hM => ⟨rfl, hM.below⟩)
  · replace hm := (if_neg h3).symm.trans hm
    refine RW.pass rfl rfl ?_
    refine RW.pass rfl rfl ?_
    refine RW.yi (.bool false) rfl rfl (Yi.pv _ rfl) ?_
    refine RW.yi (.bool false) rfl rfl (Yi.pv _ rfl) ?_
    refine RW.nil ?_
    refine EW.next ?_
    refine CW.ret ?_
    obtain rfl := Option.some.inj hm
    exact EW.done (rs := [.tmp 0]) rfl (.tmp (t := 0) (v := .bool false) rfl .nil) (fun _ hM => ⟨rfl, hM.below⟩)
def lawColourBrighter (K : Nat) (a0_p_0 : Int) (a0_p_1 : Int) (a0_p_2 : Int) (a1_q_0 : Int) (a1_q_1 : Int) (a1_q_2 : Int) : Option (Bool) :=
  ((cOf K a0_p_0 a0_p_1 a0_p_2).bind fun r3 => ((cOf K a1_q_0 a1_q_1 a1_q_2).bind fun r5 => (if ¬ r3.2.2.2 = 0 then ((awake11 K ).bind fun r8 => some r8) else (if ¬ r5.2.2.2 = 0 then ((awake11 K ).bind fun r10 => some r10) else (if a1_q_0 < a0_p_0 then ((awake11 K ).bind fun r12 => some r12) else (if a1_q_1 < a0_p_1 then ((awake11 K ).bind fun r14 => some r14) else (if a1_q_2 < a0_p_2 then ((awake11 K ).bind fun r16 => some r16) else (if r3.1 ≤ r5.1 then ((awake11 K ).bind fun r18 => some r18) else some false))))))))

theorem c_lawColourBrighter (K : Nat) (a0_p_0 : Int) (a0_p_1 : Int) (a0_p_2 : Int) (a1_q_0 : Int) (a1_q_1 : Int) (a1_q_2 : Int) (r : Bool) (w0 : World) (hm : lawColourBrighter K a0_p_0 a0_p_1 a0_p_2 a1_q_0 a1_q_1 a1_q_2 = some r) : Calls Try.prog 3 #[.agg #[.int .i64 a0_p_0, .int .i64 a0_p_1, .int .i64 a0_p_2], .agg #[.int .i64 a1_q_0, .int .i64 a1_q_1, .int .i64 a1_q_2]] w0 fun e w' => e = .returned (.bool r) ∧ Below w0.heap.size w0 w' := by
  unfold lawColourBrighter at hm
  refine calls_CW (n := 55) w0 [] [] Try.func3 rfl rfl rfl (Mem.begin w0) ?_
  refine CW.seq ?_
  refine CW.region ?_
  refine RW.box (v := .agg #[.int .i64 a0_p_0, .int .i64 a0_p_1, .int .i64 a0_p_2]) rfl rfl rfl (fun b1 => ?_)
  refine RW.box (v := .agg #[.int .i64 a1_q_0, .int .i64 a1_q_1, .int .i64 a1_q_2]) rfl rfl rfl (fun b2 => ?_)
  refine RW.yi (.bool false) rfl rfl (Yi.pv _ rfl) ?_
  refine RW.nil ?_
  refine EW.next ?_
  refine CW.seq ?_
  refine CW.region ?_
  refine RW.yi (.agg #[.int .i64 a0_p_0, .int .i64 a0_p_1, .int .i64 a0_p_2]) rfl rfl (Yi.loadW (i := 1) rfl rfl Try.isAgg23 Try.sizeOf23) ?_
  obtain ⟨r3, hr3, hm⟩ := of_bind hm
  refine RW.ca (.tuple #[.agg #[.int .i64 r3.1, .int .i64 r3.2.1, .int .i64 r3.2.2.1], .int .i64 r3.2.2.2]) rfl rfl (Ca.call rfl rfl Try.call7 (fun w _ => c_cOf K a0_p_0 a0_p_1 a0_p_2 r3 w hr3)) ?_
  refine RW.yi (.tuple #[.agg #[.int .i64 r3.1, .int .i64 r3.2.1, .int .i64 r3.2.2.1], .int .i64 r3.2.2.2]) rfl rfl (Yi.pv _ rfl) ?_
  refine RW.yi (.agg #[.int .i64 r3.1, .int .i64 r3.2.1, .int .i64 r3.2.2.1]) rfl rfl (Yi.pv _ rfl) ?_
  refine RW.yi (.int .i64 r3.2.2.2) rfl rfl (Yi.pv _ rfl) ?_
  refine RW.alloc (z := .agg #[.int .i64 0, .int .i64 0, .int .i64 0]) (#[.int .i64 0, .int .i64 0, .int .i64 0]) rfl rfl (fun _ => by kernel_rfl) rfl (fun b4 => ?_)
  refine RW.storeW (i := 0) (cs' := #[.int .i64 r3.1, .int .i64 r3.2.1, .int .i64 r3.2.2.1]) rfl rfl rfl rfl (by kernel_rfl) rfl (by kernel_rfl) ?_
  refine RW.yi (.int .i64 r3.2.2.2) rfl rfl (Yi.pv _ rfl) ?_
  refine RW.nil ?_
  refine EW.next ?_
  refine CW.seq ?_
  refine CW.region ?_
  refine RW.yi (.agg #[.int .i64 a1_q_0, .int .i64 a1_q_1, .int .i64 a1_q_2]) rfl rfl (Yi.loadW (i := 1) rfl rfl Try.isAgg23 Try.sizeOf23) ?_
  obtain ⟨r5, hr5, hm⟩ := of_bind hm
  refine RW.ca (.tuple #[.agg #[.int .i64 r5.1, .int .i64 r5.2.1, .int .i64 r5.2.2.1], .int .i64 r5.2.2.2]) rfl rfl (Ca.call rfl rfl Try.call7 (fun w _ => c_cOf K a1_q_0 a1_q_1 a1_q_2 r5 w hr5)) ?_
  refine RW.yi (.tuple #[.agg #[.int .i64 r5.1, .int .i64 r5.2.1, .int .i64 r5.2.2.1], .int .i64 r5.2.2.2]) rfl rfl (Yi.pv _ rfl) ?_
  refine RW.yi (.agg #[.int .i64 r5.1, .int .i64 r5.2.1, .int .i64 r5.2.2.1]) rfl rfl (Yi.pv _ rfl) ?_
  refine RW.yi (.int .i64 r5.2.2.2) rfl rfl (Yi.pv _ rfl) ?_
  refine RW.alloc (z := .agg #[.int .i64 0, .int .i64 0, .int .i64 0]) (#[.int .i64 0, .int .i64 0, .int .i64 0]) rfl rfl (fun _ => by kernel_rfl) rfl (fun b6 => ?_)
  refine RW.storeW (i := 0) (cs' := #[.int .i64 r5.1, .int .i64 r5.2.1, .int .i64 r5.2.2.1]) rfl rfl rfl rfl (by kernel_rfl) rfl (by kernel_rfl) ?_
  refine RW.yi (.int .i64 r5.2.2.2) rfl rfl (Yi.pv _ rfl) ?_
  refine RW.nil ?_
  refine EW.next ?_
  refine CW.seq ?_
  refine CW.seq ?_
  refine CW.region ?_
  refine RW.yi (.int .i64 r3.2.2.2) rfl rfl (Yi.pv _ rfl) ?_
  refine RW.yi (.bool (decide (¬ r3.2.2.2 = 0))) rfl rfl (Yi.pv _ rfl) ?_
  refine RW.yi (.bool (decide (¬ r3.2.2.2 = 0))) rfl rfl (Yi.pv _ rfl) ?_
  refine RW.fork 21 (¬ r3.2.2.2 = 0) rfl (fun h7 => ?_) (fun h7 => ?_)
  · replace hm := (if_pos h7).symm.trans hm
    refine RW.pass rfl rfl ?_
    refine RW.pass rfl rfl ?_
    refine RW.yi (.bool true) rfl rfl (Yi.pv _ rfl) ?_
    refine RW.yi (.bool true) rfl rfl (Yi.pv _ rfl) ?_
    refine RW.pass rfl rfl ?_
    refine RW.pass rfl rfl ?_
    refine RW.pass rfl rfl ?_
    refine RW.pass rfl rfl ?_
    refine RW.pass rfl rfl ?_
    refine RW.yi (.bool true) rfl rfl (Yi.pv _ rfl) ?_
    refine RW.yi (.bool true) rfl rfl (Yi.pv _ rfl) ?_
    refine RW.pass rfl rfl ?_
    refine RW.pass rfl rfl ?_
    refine RW.pass rfl rfl ?_
    refine RW.pass rfl rfl ?_
    refine RW.pass rfl rfl ?_
    refine RW.yi (.bool true) rfl rfl (Yi.pv _ rfl) ?_
    refine RW.yi (.bool true) rfl rfl (Yi.pv _ rfl) ?_
    refine RW.pass rfl rfl ?_
    refine RW.pass rfl rfl ?_
    refine RW.pass rfl rfl ?_
    refine RW.pass rfl rfl ?_
    refine RW.pass rfl rfl ?_
    refine RW.yi (.bool true) rfl rfl (Yi.pv _ rfl) ?_
    refine RW.nil ?_
    refine EW.next ?_
    refine CW.cond_true rfl ?_
    refine CW.seq ?_
    refine CW.region ?_
    obtain ⟨r8, hr8, hm⟩ := of_bind hm
    refine RW.ca (.bool r8) rfl rfl (Ca.call rfl rfl Try.call8 (fun w _ => c_awake11 K  r8 w hr8)) ?_
    refine RW.yi (.bool r8) rfl rfl (Yi.pv _ rfl) ?_
    refine RW.nil ?_
    refine EW.next ?_
    refine CW.ret ?_
    refine EW.thr ?_
    obtain rfl := Option.some.inj hm
    exact EW.done (rs := [.tmp 4]) rfl (.tmp (t := 4) (v := .bool r8) rfl .nil) (fun _ hM => ⟨rfl, hM.below⟩)
  · replace hm := (if_neg h7).symm.trans hm
    refine RW.yi (.int .i64 r5.2.2.2) rfl rfl (Yi.pv _ rfl) ?_
    refine RW.yi (.bool (decide (¬ r5.2.2.2 = 0))) rfl rfl (Yi.pv _ rfl) ?_
    refine RW.yi (.bool (decide (¬ r5.2.2.2 = 0))) rfl rfl (Yi.pv _ rfl) ?_
    refine RW.yi (.bool (decide (¬ r5.2.2.2 = 0))) rfl rfl (Yi.pv _ rfl) ?_
    refine RW.fork 25 (¬ r5.2.2.2 = 0) rfl (fun h9 => ?_) (fun h9 => ?_)
    · replace hm := (if_pos h9).symm.trans hm
      refine RW.pass rfl rfl ?_
      refine RW.pass rfl rfl ?_
      refine RW.pass rfl rfl ?_
      refine RW.pass rfl rfl ?_
      refine RW.pass rfl rfl ?_
      refine RW.yi (.bool true) rfl rfl (Yi.pv _ rfl) ?_
      refine RW.yi (.bool true) rfl rfl (Yi.pv _ rfl) ?_
      refine RW.pass rfl rfl ?_
      refine RW.pass rfl rfl ?_
      refine RW.pass rfl rfl ?_
      refine RW.pass rfl rfl ?_
      refine RW.pass rfl rfl ?_
      refine RW.yi (.bool true) rfl rfl (Yi.pv _ rfl) ?_
      refine RW.yi (.bool true) rfl rfl (Yi.pv _ rfl) ?_
      refine RW.pass rfl rfl ?_
      refine RW.pass rfl rfl ?_
      refine RW.pass rfl rfl ?_
      refine RW.pass rfl rfl ?_
      refine RW.pass rfl rfl ?_
      refine RW.yi (.bool true) rfl rfl (Yi.pv _ rfl) ?_
      refine RW.nil ?_
      refine EW.next ?_
      refine CW.cond_true rfl ?_
      refine CW.seq ?_
      refine CW.region ?_
      obtain ⟨r10, hr10, hm⟩ := of_bind hm
      refine RW.ca (.bool r10) rfl rfl (Ca.call rfl rfl Try.call8 (fun w _ => c_awake11 K  r10 w hr10)) ?_
      refine RW.yi (.bool r10) rfl rfl (Yi.pv _ rfl) ?_
      refine RW.nil ?_
      refine EW.next ?_
      refine CW.ret ?_
      refine EW.thr ?_
      obtain rfl := Option.some.inj hm
      exact EW.done (rs := [.tmp 4]) rfl (.tmp (t := 4) (v := .bool r10) rfl .nil) (fun _ hM => ⟨rfl, hM.below⟩)
    · replace hm := (if_neg h9).symm.trans hm
      refine RW.yi (.pointer (some ⟨b1, 0, none⟩)) rfl rfl (Yi.fieldAddr (j := 0) Try.underlying23 rfl Try.sizeOf3 rfl) ?_
      refine RW.yi (.int .i64 a0_p_0) rfl rfl (Yi.load1 (i := 3) _ rfl rfl Try.isAgg3 rfl) ?_
      refine RW.yi (.pointer (some ⟨b2, 0, none⟩)) rfl rfl (Yi.fieldAddr (j := 0) Try.underlying23 rfl Try.sizeOf3 rfl) ?_
      refine RW.yi (.int .i64 a1_q_0) rfl rfl (Yi.load1 (i := 2) _ rfl rfl Try.isAgg3 rfl) ?_
      refine RW.yi (.bool (decide (a1_q_0 < a0_p_0))) rfl rfl (Yi.pv _ rfl) ?_
      refine RW.yi (.bool (decide (a1_q_0 < a0_p_0))) rfl rfl (Yi.pv _ rfl) ?_
      refine RW.yi (.bool (decide (a1_q_0 < a0_p_0))) rfl rfl (Yi.pv _ rfl) ?_
      refine RW.fork 32 (a1_q_0 < a0_p_0) rfl (fun h11 => ?_) (fun h11 => ?_)
      · replace hm := (if_pos h11).symm.trans hm
        refine RW.pass rfl rfl ?_
        refine RW.pass rfl rfl ?_
        refine RW.pass rfl rfl ?_
        refine RW.pass rfl rfl ?_
        refine RW.pass rfl rfl ?_
        refine RW.yi (.bool true) rfl rfl (Yi.pv _ rfl) ?_
        refine RW.yi (.bool true) rfl rfl (Yi.pv _ rfl) ?_
        refine RW.pass rfl rfl ?_
        refine RW.pass rfl rfl ?_
        refine RW.pass rfl rfl ?_
        refine RW.pass rfl rfl ?_
        refine RW.pass rfl rfl ?_
        refine RW.yi (.bool true) rfl rfl (Yi.pv _ rfl) ?_
        refine RW.nil ?_
        refine EW.next ?_
        refine CW.cond_true rfl ?_
        refine CW.seq ?_
        refine CW.region ?_
        obtain ⟨r12, hr12, hm⟩ := of_bind hm
        refine RW.ca (.bool r12) rfl rfl (Ca.call rfl rfl Try.call8 (fun w _ => c_awake11 K  r12 w hr12)) ?_
        refine RW.yi (.bool r12) rfl rfl (Yi.pv _ rfl) ?_
        refine RW.nil ?_
        refine EW.next ?_
        refine CW.ret ?_
        refine EW.thr ?_
        obtain rfl := Option.some.inj hm
        exact EW.done (rs := [.tmp 4]) rfl (.tmp (t := 4) (v := .bool r12) rfl .nil) (fun _ hM => ⟨rfl, hM.below⟩)
      · replace hm := (if_neg h11).symm.trans hm
        refine RW.yi (.pointer (some ⟨b1, 1, none⟩)) rfl rfl (Yi.fieldAddr (j := 1) Try.underlying23 rfl Try.sizeOf3 rfl) ?_
        refine RW.yi (.int .i64 a0_p_1) rfl rfl (Yi.load1 (i := 3) _ rfl rfl Try.isAgg3 rfl) ?_
        refine RW.yi (.pointer (some ⟨b2, 1, none⟩)) rfl rfl (Yi.fieldAddr (j := 1) Try.underlying23 rfl Try.sizeOf3 rfl) ?_
        refine RW.yi (.int .i64 a1_q_1) rfl rfl (Yi.load1 (i := 2) _ rfl rfl Try.isAgg3 rfl) ?_
        refine RW.yi (.bool (decide (a1_q_1 < a0_p_1))) rfl rfl (Yi.pv _ rfl) ?_
        refine RW.yi (.bool (decide (a1_q_1 < a0_p_1))) rfl rfl (Yi.pv _ rfl) ?_
        refine RW.yi (.bool (decide (a1_q_1 < a0_p_1))) rfl rfl (Yi.pv _ rfl) ?_
        refine RW.fork 39 (a1_q_1 < a0_p_1) rfl (fun h13 => ?_) (fun h13 => ?_)
        · replace hm := (if_pos h13).symm.trans hm
          refine RW.pass rfl rfl ?_
          refine RW.pass rfl rfl ?_
          refine RW.pass rfl rfl ?_
          refine RW.pass rfl rfl ?_
          refine RW.pass rfl rfl ?_
          refine RW.yi (.bool true) rfl rfl (Yi.pv _ rfl) ?_
          refine RW.nil ?_
          refine EW.next ?_
          refine CW.cond_true rfl ?_
          refine CW.seq ?_
          refine CW.region ?_
          obtain ⟨r14, hr14, hm⟩ := of_bind hm
          refine RW.ca (.bool r14) rfl rfl (Ca.call rfl rfl Try.call8 (fun w _ => c_awake11 K  r14 w hr14)) ?_
          refine RW.yi (.bool r14) rfl rfl (Yi.pv _ rfl) ?_
          refine RW.nil ?_
          refine EW.next ?_
          refine CW.ret ?_
          refine EW.thr ?_
          obtain rfl := Option.some.inj hm
          exact EW.done (rs := [.tmp 4]) rfl (.tmp (t := 4) (v := .bool r14) rfl .nil) (fun _ hM => ⟨rfl, hM.below⟩)
        · replace hm := (if_neg h13).symm.trans hm
          refine RW.yi (.pointer (some ⟨b1, 2, none⟩)) rfl rfl (Yi.fieldAddr (j := 2) Try.underlying23 rfl Try.sizeOf3 rfl) ?_
          refine RW.yi (.int .i64 a0_p_2) rfl rfl (Yi.load1 (i := 3) _ rfl rfl Try.isAgg3 rfl) ?_
          refine RW.yi (.pointer (some ⟨b2, 2, none⟩)) rfl rfl (Yi.fieldAddr (j := 2) Try.underlying23 rfl Try.sizeOf3 rfl) ?_
          refine RW.yi (.int .i64 a1_q_2) rfl rfl (Yi.load1 (i := 2) _ rfl rfl Try.isAgg3 rfl) ?_
          refine RW.yi (.bool (decide (a1_q_2 < a0_p_2))) rfl rfl (Yi.pv _ rfl) ?_
          refine RW.yi (.bool (decide (a1_q_2 < a0_p_2))) rfl rfl (Yi.pv _ rfl) ?_
          refine RW.nil ?_
          refine EW.next ?_
          refine CW.fork 45 (a1_q_2 < a0_p_2) rfl (fun h15 => ?_) (fun h15 => ?_)
          · replace hm := (if_pos h15).symm.trans hm
            refine CW.cond_true rfl ?_
            refine CW.seq ?_
            refine CW.region ?_
            obtain ⟨r16, hr16, hm⟩ := of_bind hm
            refine RW.ca (.bool r16) rfl rfl (Ca.call rfl rfl Try.call8 (fun w _ => c_awake11 K  r16 w hr16)) ?_
            refine RW.yi (.bool r16) rfl rfl (Yi.pv _ rfl) ?_
            refine RW.nil ?_
            refine EW.next ?_
            refine CW.ret ?_
            refine EW.thr ?_
            obtain rfl := Option.some.inj hm
            exact EW.done (rs := [.tmp 4]) rfl (.tmp (t := 4) (v := .bool r16) rfl .nil) (fun _ hM => ⟨rfl, hM.below⟩)
          · replace hm := (if_neg h15).symm.trans hm
            refine CW.cond_false rfl ?_
            refine CW.skip ?_
            refine EW.next ?_
            refine CW.seq ?_
            refine CW.region ?_
            refine RW.yi (.pointer (some ⟨b4, 0, none⟩)) rfl rfl (Yi.fieldAddr (j := 0) Try.underlying25 rfl Try.sizeOf3 rfl) ?_
            refine RW.yi (.int .i64 r3.1) rfl rfl (Yi.load1 (i := 1) _ rfl rfl Try.isAgg3 rfl) ?_
            refine RW.yi (.pointer (some ⟨b6, 0, none⟩)) rfl rfl (Yi.fieldAddr (j := 0) Try.underlying25 rfl Try.sizeOf3 rfl) ?_
            refine RW.yi (.int .i64 r5.1) rfl rfl (Yi.load1 (i := 0) _ rfl rfl Try.isAgg3 rfl) ?_
            refine RW.yi (.bool (decide (r3.1 ≤ r5.1))) rfl rfl (Yi.pv _ rfl) ?_
            refine RW.yi (.bool (decide (r3.1 ≤ r5.1))) rfl rfl (Yi.pv _ rfl) ?_
            refine RW.fork 52 (r3.1 ≤ r5.1) rfl (fun h17 => ?_) (fun h17 => ?_)
            · replace hm := (if_pos h17).symm.trans hm
              obtain ⟨r18, hr18, hm⟩ := of_bind hm
              refine RW.ca (.bool r18) rfl rfl (Ca.call rfl rfl Try.call8 (fun w _ => c_awake11 K  r18 w hr18)) ?_
              refine RW.yi (.bool r18) rfl rfl (Yi.pv _ rfl) ?_
              refine RW.yi (.bool r18) rfl rfl (Yi.pv _ rfl) ?_
              refine RW.nil ?_
              refine EW.next ?_
              refine CW.ret ?_
              obtain rfl := Option.some.inj hm
              exact EW.done (rs := [.tmp 4]) rfl (.tmp (t := 4) (v := .bool r18) rfl .nil) (fun _ hM => ⟨rfl, hM.below⟩)
            · replace hm := (if_neg h17).symm.trans hm
              refine RW.pass rfl rfl ?_
              refine RW.yi (.bool false) rfl rfl (Yi.pv _ rfl) ?_
              refine RW.yi (.bool false) rfl rfl (Yi.pv _ rfl) ?_
              refine RW.nil ?_
              refine EW.next ?_
              refine CW.ret ?_
              obtain rfl := Option.some.inj hm
              exact EW.done (rs := [.tmp 4]) rfl (.tmp (t := 4) (v := .bool false) rfl .nil) (fun _ hM => ⟨rfl, hM.below⟩)
def lawColourPixels (K : Nat) (a0_t_0 : Int) (a0_t_1 : Int) (a0_t_2 : Int) : Option (Bool) :=
  ((cPixel K a0_t_0 a0_t_1 a0_t_2).bind fun r2 => ((rPixel K a0_t_0 a0_t_1 a0_t_2).bind fun r4 => (if [r2.1, r2.2.1, r2.2.2.1] = [r4.1, r4.2.1, r4.2.2.1] then (if r2.2.2.2 = r4.2.2.2 then ((awake11 K ).bind fun r8 => some r8) else some false) else some false)))

theorem c_lawColourPixels (K : Nat) (a0_t_0 : Int) (a0_t_1 : Int) (a0_t_2 : Int) (r : Bool) (w0 : World) (hm : lawColourPixels K a0_t_0 a0_t_1 a0_t_2 = some r) : Calls Try.prog 4 #[.agg #[.int .i64 a0_t_0, .int .i64 a0_t_1, .int .i64 a0_t_2]] w0 fun e w' => e = .returned (.bool r) ∧ Below w0.heap.size w0 w' := by
  unfold lawColourPixels at hm
  refine calls_CW (n := 33) w0 [] [] Try.func4 rfl rfl rfl (Mem.begin w0) ?_
  refine CW.seq ?_
  refine CW.region ?_
  refine RW.box (v := .agg #[.int .i64 a0_t_0, .int .i64 a0_t_1, .int .i64 a0_t_2]) rfl rfl rfl (fun b1 => ?_)
  refine RW.yi (.bool false) rfl rfl (Yi.pv _ rfl) ?_
  refine RW.nil ?_
  refine EW.next ?_
  refine CW.seq ?_
  refine CW.region ?_
  refine RW.yi (.agg #[.int .i64 a0_t_0, .int .i64 a0_t_1, .int .i64 a0_t_2]) rfl rfl (Yi.loadW (i := 0) rfl rfl Try.isAgg25 Try.sizeOf25) ?_
  obtain ⟨r2, hr2, hm⟩ := of_bind hm
  refine RW.ca (.tuple #[.agg #[.int .i64 r2.1, .int .i64 r2.2.1, .int .i64 r2.2.2.1], .int .i64 r2.2.2.2]) rfl rfl (Ca.call rfl rfl Try.call9 (fun w _ => c_cPixel K a0_t_0 a0_t_1 a0_t_2 r2 w hr2)) ?_
  refine RW.yi (.tuple #[.agg #[.int .i64 r2.1, .int .i64 r2.2.1, .int .i64 r2.2.2.1], .int .i64 r2.2.2.2]) rfl rfl (Yi.pv _ rfl) ?_
  refine RW.yi (.agg #[.int .i64 r2.1, .int .i64 r2.2.1, .int .i64 r2.2.2.1]) rfl rfl (Yi.pv _ rfl) ?_
  refine RW.yi (.int .i64 r2.2.2.2) rfl rfl (Yi.pv _ rfl) ?_
  refine RW.alloc (z := .agg #[.int .i64 0, .int .i64 0, .int .i64 0]) (#[.int .i64 0, .int .i64 0, .int .i64 0]) rfl rfl (fun _ => by kernel_rfl) rfl (fun b3 => ?_)
  refine RW.storeW (i := 0) (cs' := #[.int .i64 r2.1, .int .i64 r2.2.1, .int .i64 r2.2.2.1]) rfl rfl rfl rfl (by kernel_rfl) rfl (by kernel_rfl) ?_
  refine RW.yi (.int .i64 r2.2.2.2) rfl rfl (Yi.pv _ rfl) ?_
  refine RW.nil ?_
  refine EW.next ?_
  refine CW.seq ?_
  refine CW.region ?_
  refine RW.yi (.pointer (some ⟨b1, 0, none⟩)) rfl rfl (Yi.fieldAddr (j := 0) Try.underlying25 rfl Try.sizeOf3 rfl) ?_
  refine RW.yi (.int .i64 a0_t_0) rfl rfl (Yi.load1 (i := 1) _ rfl rfl Try.isAgg3 rfl) ?_
  refine RW.yi (.pointer (some ⟨b1, 1, none⟩)) rfl rfl (Yi.fieldAddr (j := 1) Try.underlying25 rfl Try.sizeOf3 rfl) ?_
  refine RW.yi (.int .i64 a0_t_1) rfl rfl (Yi.load1 (i := 1) _ rfl rfl Try.isAgg3 rfl) ?_
  refine RW.yi (.pointer (some ⟨b1, 2, none⟩)) rfl rfl (Yi.fieldAddr (j := 2) Try.underlying25 rfl Try.sizeOf3 rfl) ?_
  refine RW.yi (.int .i64 a0_t_2) rfl rfl (Yi.load1 (i := 1) _ rfl rfl Try.isAgg3 rfl) ?_
  obtain ⟨r4, hr4, hm⟩ := of_bind hm
  refine RW.ca (.tuple #[.agg #[.int .i64 r4.1, .int .i64 r4.2.1, .int .i64 r4.2.2.1], .int .i64 r4.2.2.2]) rfl rfl (Ca.call rfl rfl Try.call10 (fun w _ => c_rPixel K a0_t_0 a0_t_1 a0_t_2 r4 w hr4)) ?_
  refine RW.yi (.tuple #[.agg #[.int .i64 r4.1, .int .i64 r4.2.1, .int .i64 r4.2.2.1], .int .i64 r4.2.2.2]) rfl rfl (Yi.pv _ rfl) ?_
  refine RW.yi (.agg #[.int .i64 r4.1, .int .i64 r4.2.1, .int .i64 r4.2.2.1]) rfl rfl (Yi.pv _ rfl) ?_
  refine RW.yi (.int .i64 r4.2.2.2) rfl rfl (Yi.pv _ rfl) ?_
  refine RW.alloc (z := .agg #[.int .i64 0, .int .i64 0, .int .i64 0]) (#[.int .i64 0, .int .i64 0, .int .i64 0]) rfl rfl (fun _ => by kernel_rfl) rfl (fun b5 => ?_)
  refine RW.storeW (i := 0) (cs' := #[.int .i64 r4.1, .int .i64 r4.2.1, .int .i64 r4.2.2.1]) rfl rfl rfl rfl (by kernel_rfl) rfl (by kernel_rfl) ?_
  refine RW.yi (.int .i64 r4.2.2.2) rfl rfl (Yi.pv _ rfl) ?_
  refine RW.nil ?_
  refine EW.next ?_
  refine CW.seq ?_
  refine CW.region ?_
  refine RW.yi (.agg #[.int .i64 r2.1, .int .i64 r2.2.1, .int .i64 r2.2.2.1]) rfl rfl (Yi.loadW (i := 1) rfl rfl Try.isAgg23 Try.sizeOf23) ?_
  refine RW.yi (.agg #[.int .i64 r4.1, .int .i64 r4.2.1, .int .i64 r4.2.2.1]) rfl rfl (Yi.loadW (i := 0) rfl rfl Try.isAgg23 Try.sizeOf23) ?_
  refine RW.yi (.bool (decide ([r2.1, r2.2.1, r2.2.2.1] = [r4.1, r4.2.1, r4.2.2.1]))) rfl rfl (Yi.eqS (xs := [r2.1, r2.2.1, r2.2.2.1]) (ys := [r4.1, r4.2.1, r4.2.2.1]) Try.underlying23 Try.eqGuardType23 Try.stoodInHeld23 (by kernel_rfl) rfl rfl rfl rfl) ?_
  refine RW.yi (.bool (decide ([r2.1, r2.2.1, r2.2.2.1] = [r4.1, r4.2.1, r4.2.2.1]))) rfl rfl (Yi.pv _ rfl) ?_
  refine RW.fork 25 ([r2.1, r2.2.1, r2.2.2.1] = [r4.1, r4.2.1, r4.2.2.1]) rfl (fun h6 => ?_) (fun h6 => ?_)
  · replace hm := (if_pos h6).symm.trans hm
    refine RW.yi (.int .i64 r2.2.2.2) rfl rfl (Yi.pv _ rfl) ?_
    refine RW.yi (.int .i64 r4.2.2.2) rfl rfl (Yi.pv _ rfl) ?_
    refine RW.yi (.bool (decide (r2.2.2.2 = r4.2.2.2))) rfl rfl (Yi.pv _ rfl) ?_
    refine RW.yi (.bool (decide (r2.2.2.2 = r4.2.2.2))) rfl rfl (Yi.pv _ rfl) ?_
    refine RW.yi (.bool (decide (r2.2.2.2 = r4.2.2.2))) rfl rfl (Yi.pv _ rfl) ?_
    refine RW.fork 30 (r2.2.2.2 = r4.2.2.2) rfl (fun h7 => ?_) (fun h7 => ?_)
    · replace hm := (if_pos h7).symm.trans hm
      obtain ⟨r8, hr8, hm⟩ := of_bind hm
      refine RW.ca (.bool r8) rfl rfl (Ca.call rfl rfl Try.call8 (fun w _ => c_awake11 K  r8 w hr8)) ?_
      refine RW.yi (.bool r8) rfl rfl (Yi.pv _ rfl) ?_
      refine RW.yi (.bool r8) rfl rfl (Yi.pv _ rfl) ?_
      refine RW.nil ?_
      refine EW.next ?_
      refine CW.ret ?_
      obtain rfl := Option.some.inj hm
      exact EW.done (rs := [.tmp 2]) rfl (.tmp (t := 2) (v := .bool r8) rfl .nil) (fun _ hM => ⟨rfl, hM.below⟩)
    · replace hm := (if_neg h7).symm.trans hm
      refine RW.pass rfl rfl ?_
      refine RW.yi (.bool false) rfl rfl (Yi.pv _ rfl) ?_
      refine RW.yi (.bool false) rfl rfl (Yi.pv _ rfl) ?_
      refine RW.nil ?_
      refine EW.next ?_
      refine CW.ret ?_
      obtain rfl := Option.some.inj hm
      exact EW.done (rs := [.tmp 2]) rfl (.tmp (t := 2) (v := .bool false) rfl .nil) (fun _ hM => ⟨rfl, hM.below⟩)
  · replace hm := (if_neg h6).symm.trans hm
    refine RW.pass rfl rfl ?_
    refine RW.pass rfl rfl ?_
    refine RW.pass rfl rfl ?_
    refine RW.yi (.bool false) rfl rfl (Yi.pv _ rfl) ?_
    refine RW.yi (.bool false) rfl rfl (Yi.pv _ rfl) ?_
    refine RW.pass rfl rfl ?_
    refine RW.yi (.bool false) rfl rfl (Yi.pv _ rfl) ?_
    refine RW.yi (.bool false) rfl rfl (Yi.pv _ rfl) ?_
    refine RW.nil ?_
    refine EW.next ?_
    refine CW.ret ?_
    obtain rfl := Option.some.inj hm
    exact EW.done (rs := [.tmp 2]) rfl (.tmp (t := 2) (v := .bool false) rfl .nil) (fun _ hM => ⟨rfl, hM.below⟩)
def lawColourGrey (K : Nat) (a0_n : Int) : Option (Bool) :=
  ((cOf K (w64 (a0_n)) (w64 (a0_n)) (w64 (a0_n))).bind fun r2 => ((cPixel K r2.1 r2.2.1 r2.2.2.1).bind fun r4 => (if [r2.1, r2.2.1, r2.2.2.1] = [(w64 (a0_n)), 128, 128] then (if [r4.1, r4.2.1, r4.2.2.1] = [(w64 (a0_n)), (w64 (a0_n)), (w64 (a0_n))] then (if r2.2.2.2 = 0 then (if r4.2.2.2 = 0 then ((awake11 K ).bind fun r10 => some r10) else some false) else some false) else some false) else some false)))

theorem c_lawColourGrey (K : Nat) (a0_n : Int) (r : Bool) (w0 : World) (hm : lawColourGrey K a0_n = some r) : Calls Try.prog 5 #[.int .u8 a0_n] w0 fun e w' => e = .returned (.bool r) ∧ Below w0.heap.size w0 w' := by
  unfold lawColourGrey at hm
  refine calls_CW (n := 46) w0 [] [] Try.func5 rfl rfl rfl (Mem.begin w0) ?_
  refine CW.seq ?_
  refine CW.region ?_
  refine RW.yi (.bool false) rfl rfl (Yi.pv _ rfl) ?_
  refine RW.nil ?_
  refine EW.next ?_
  refine CW.seq ?_
  refine CW.region ?_
  refine RW.yi (.int .u8 a0_n) rfl rfl (Yi.pv _ rfl) ?_
  refine RW.yi (.int .i64 (w64 (a0_n))) rfl rfl (Yi.conv ⟨_, Try.underlying5⟩ Try.underlying3 rfl) ?_
  refine RW.yi (.int .u8 a0_n) rfl rfl (Yi.pv _ rfl) ?_
  refine RW.yi (.int .i64 (w64 (a0_n))) rfl rfl (Yi.conv ⟨_, Try.underlying5⟩ Try.underlying3 rfl) ?_
  refine RW.yi (.int .u8 a0_n) rfl rfl (Yi.pv _ rfl) ?_
  refine RW.yi (.int .i64 (w64 (a0_n))) rfl rfl (Yi.conv ⟨_, Try.underlying5⟩ Try.underlying3 rfl) ?_
  refine RW.yi (.agg #[.int .i64 (w64 (a0_n)), .int .i64 (w64 (a0_n)), .int .i64 (w64 (a0_n))]) rfl rfl (Yi.build (vs := [.int .i64 (w64 (a0_n)), .int .i64 (w64 (a0_n)), .int .i64 (w64 (a0_n))]) _ rfl rfl (fun _ => by kernel_rfl)) ?_
  refine RW.alloc (z := .agg #[.int .i64 0, .int .i64 0, .int .i64 0]) (#[.int .i64 0, .int .i64 0, .int .i64 0]) rfl rfl (fun _ => by kernel_rfl) rfl (fun b1 => ?_)
  refine RW.storeW (i := 0) (cs' := #[.int .i64 (w64 (a0_n)), .int .i64 (w64 (a0_n)), .int .i64 (w64 (a0_n))]) rfl rfl rfl rfl (by kernel_rfl) rfl (by kernel_rfl) ?_
  refine RW.nil ?_
  refine EW.next ?_
  refine CW.seq ?_
  refine CW.region ?_
  refine RW.yi (.agg #[.int .i64 (w64 (a0_n)), .int .i64 (w64 (a0_n)), .int .i64 (w64 (a0_n))]) rfl rfl (Yi.loadW (i := 0) rfl rfl Try.isAgg23 Try.sizeOf23) ?_
  obtain ⟨r2, hr2, hm⟩ := of_bind hm
  refine RW.ca (.tuple #[.agg #[.int .i64 r2.1, .int .i64 r2.2.1, .int .i64 r2.2.2.1], .int .i64 r2.2.2.2]) rfl rfl (Ca.call rfl rfl Try.call7 (fun w _ => c_cOf K (w64 (a0_n)) (w64 (a0_n)) (w64 (a0_n)) r2 w hr2)) ?_
  refine RW.yi (.tuple #[.agg #[.int .i64 r2.1, .int .i64 r2.2.1, .int .i64 r2.2.2.1], .int .i64 r2.2.2.2]) rfl rfl (Yi.pv _ rfl) ?_
  refine RW.yi (.agg #[.int .i64 r2.1, .int .i64 r2.2.1, .int .i64 r2.2.2.1]) rfl rfl (Yi.pv _ rfl) ?_
  refine RW.yi (.int .i64 r2.2.2.2) rfl rfl (Yi.pv _ rfl) ?_
  refine RW.alloc (z := .agg #[.int .i64 0, .int .i64 0, .int .i64 0]) (#[.int .i64 0, .int .i64 0, .int .i64 0]) rfl rfl (fun _ => by kernel_rfl) rfl (fun b3 => ?_)
  refine RW.storeW (i := 0) (cs' := #[.int .i64 r2.1, .int .i64 r2.2.1, .int .i64 r2.2.2.1]) rfl rfl rfl rfl (by kernel_rfl) rfl (by kernel_rfl) ?_
  refine RW.yi (.int .i64 r2.2.2.2) rfl rfl (Yi.pv _ rfl) ?_
  refine RW.nil ?_
  refine EW.next ?_
  refine CW.seq ?_
  refine CW.region ?_
  refine RW.yi (.agg #[.int .i64 r2.1, .int .i64 r2.2.1, .int .i64 r2.2.2.1]) rfl rfl (Yi.loadW (i := 0) rfl rfl Try.isAgg25 Try.sizeOf25) ?_
  obtain ⟨r4, hr4, hm⟩ := of_bind hm
  refine RW.ca (.tuple #[.agg #[.int .i64 r4.1, .int .i64 r4.2.1, .int .i64 r4.2.2.1], .int .i64 r4.2.2.2]) rfl rfl (Ca.call rfl rfl Try.call9 (fun w _ => c_cPixel K r2.1 r2.2.1 r2.2.2.1 r4 w hr4)) ?_
  refine RW.yi (.tuple #[.agg #[.int .i64 r4.1, .int .i64 r4.2.1, .int .i64 r4.2.2.1], .int .i64 r4.2.2.2]) rfl rfl (Yi.pv _ rfl) ?_
  refine RW.yi (.agg #[.int .i64 r4.1, .int .i64 r4.2.1, .int .i64 r4.2.2.1]) rfl rfl (Yi.pv _ rfl) ?_
  refine RW.yi (.int .i64 r4.2.2.2) rfl rfl (Yi.pv _ rfl) ?_
  refine RW.alloc (z := .agg #[.int .i64 0, .int .i64 0, .int .i64 0]) (#[.int .i64 0, .int .i64 0, .int .i64 0]) rfl rfl (fun _ => by kernel_rfl) rfl (fun b5 => ?_)
  refine RW.storeW (i := 0) (cs' := #[.int .i64 r4.1, .int .i64 r4.2.1, .int .i64 r4.2.2.1]) rfl rfl rfl rfl (by kernel_rfl) rfl (by kernel_rfl) ?_
  refine RW.yi (.int .i64 r4.2.2.2) rfl rfl (Yi.pv _ rfl) ?_
  refine RW.nil ?_
  refine EW.next ?_
  refine CW.seq ?_
  refine CW.region ?_
  refine RW.yi (.agg #[.int .i64 r2.1, .int .i64 r2.2.1, .int .i64 r2.2.2.1]) rfl rfl (Yi.loadW (i := 1) rfl rfl Try.isAgg25 Try.sizeOf25) ?_
  refine RW.yi (.int .u8 a0_n) rfl rfl (Yi.pv _ rfl) ?_
  refine RW.yi (.int .i64 (w64 (a0_n))) rfl rfl (Yi.conv ⟨_, Try.underlying5⟩ Try.underlying3 rfl) ?_
  refine RW.yi (.agg #[.int .i64 (w64 (a0_n)), .int .i64 128, .int .i64 128]) rfl rfl (Yi.build (vs := [.int .i64 (w64 (a0_n)), .int .i64 128, .int .i64 128]) _ rfl rfl (fun _ => by kernel_rfl)) ?_
  refine RW.yi (.bool (decide ([r2.1, r2.2.1, r2.2.2.1] = [(w64 (a0_n)), 128, 128]))) rfl rfl (Yi.eqS (xs := [r2.1, r2.2.1, r2.2.2.1]) (ys := [(w64 (a0_n)), 128, 128]) Try.underlying25 Try.eqGuardType25 Try.stoodInHeld25 (by kernel_rfl) rfl rfl rfl rfl) ?_
  refine RW.yi (.bool (decide ([r2.1, r2.2.1, r2.2.2.1] = [(w64 (a0_n)), 128, 128]))) rfl rfl (Yi.pv _ rfl) ?_
  refine RW.fork 30 ([r2.1, r2.2.1, r2.2.2.1] = [(w64 (a0_n)), 128, 128]) rfl (fun h6 => ?_) (fun h6 => ?_)
  · replace hm := (if_pos h6).symm.trans hm
    refine RW.yi (.agg #[.int .i64 r4.1, .int .i64 r4.2.1, .int .i64 r4.2.2.1]) rfl rfl (Yi.loadW (i := 0) rfl rfl Try.isAgg23 Try.sizeOf23) ?_
    refine RW.yi (.agg #[.int .i64 (w64 (a0_n)), .int .i64 (w64 (a0_n)), .int .i64 (w64 (a0_n))]) rfl rfl (Yi.loadW (i := 2) rfl rfl Try.isAgg23 Try.sizeOf23) ?_
    refine RW.yi (.bool (decide ([r4.1, r4.2.1, r4.2.2.1] = [(w64 (a0_n)), (w64 (a0_n)), (w64 (a0_n))]))) rfl rfl (Yi.eqS (xs := [r4.1, r4.2.1, r4.2.2.1]) (ys := [(w64 (a0_n)), (w64 (a0_n)), (w64 (a0_n))]) Try.underlying23 Try.eqGuardType23 Try.stoodInHeld23 (by kernel_rfl) rfl rfl rfl rfl) ?_
    refine RW.yi (.bool (decide ([r4.1, r4.2.1, r4.2.2.1] = [(w64 (a0_n)), (w64 (a0_n)), (w64 (a0_n))]))) rfl rfl (Yi.pv _ rfl) ?_
    refine RW.yi (.bool (decide ([r4.1, r4.2.1, r4.2.2.1] = [(w64 (a0_n)), (w64 (a0_n)), (w64 (a0_n))]))) rfl rfl (Yi.pv _ rfl) ?_
    refine RW.fork 35 ([r4.1, r4.2.1, r4.2.2.1] = [(w64 (a0_n)), (w64 (a0_n)), (w64 (a0_n))]) rfl (fun h7 => ?_) (fun h7 => ?_)
    · replace hm := (if_pos h7).symm.trans hm
      refine RW.yi (.int .i64 r2.2.2.2) rfl rfl (Yi.pv _ rfl) ?_
      refine RW.yi (.bool (decide (r2.2.2.2 = 0))) rfl rfl (Yi.pv _ rfl) ?_
      refine RW.yi (.bool (decide (r2.2.2.2 = 0))) rfl rfl (Yi.pv _ rfl) ?_
      refine RW.yi (.bool (decide (r2.2.2.2 = 0))) rfl rfl (Yi.pv _ rfl) ?_
      refine RW.fork 39 (r2.2.2.2 = 0) rfl (fun h8 => ?_) (fun h8 => ?_)
      · replace hm := (if_pos h8).symm.trans hm
        refine RW.yi (.int .i64 r4.2.2.2) rfl rfl (Yi.pv _ rfl) ?_
        refine RW.yi (.bool (decide (r4.2.2.2 = 0))) rfl rfl (Yi.pv _ rfl) ?_
        refine RW.yi (.bool (decide (r4.2.2.2 = 0))) rfl rfl (Yi.pv _ rfl) ?_
        refine RW.yi (.bool (decide (r4.2.2.2 = 0))) rfl rfl (Yi.pv _ rfl) ?_
        refine RW.fork 43 (r4.2.2.2 = 0) rfl (fun h9 => ?_) (fun h9 => ?_)
        · replace hm := (if_pos h9).symm.trans hm
          obtain ⟨r10, hr10, hm⟩ := of_bind hm
          refine RW.ca (.bool r10) rfl rfl (Ca.call rfl rfl Try.call8 (fun w _ => c_awake11 K  r10 w hr10)) ?_
          refine RW.yi (.bool r10) rfl rfl (Yi.pv _ rfl) ?_
          refine RW.yi (.bool r10) rfl rfl (Yi.pv _ rfl) ?_
          refine RW.nil ?_
          refine EW.next ?_
          refine CW.ret ?_
          obtain rfl := Option.some.inj hm
          exact EW.done (rs := [.tmp 2]) rfl (.tmp (t := 2) (v := .bool r10) rfl .nil) (fun _ hM => ⟨rfl, hM.below⟩)
        · replace hm := (if_neg h9).symm.trans hm
          refine RW.pass rfl rfl ?_
          refine RW.yi (.bool false) rfl rfl (Yi.pv _ rfl) ?_
          refine RW.yi (.bool false) rfl rfl (Yi.pv _ rfl) ?_
          refine RW.nil ?_
          refine EW.next ?_
          refine CW.ret ?_
          obtain rfl := Option.some.inj hm
          exact EW.done (rs := [.tmp 2]) rfl (.tmp (t := 2) (v := .bool false) rfl .nil) (fun _ hM => ⟨rfl, hM.below⟩)
      · replace hm := (if_neg h8).symm.trans hm
        refine RW.pass rfl rfl ?_
        refine RW.pass rfl rfl ?_
        refine RW.yi (.bool false) rfl rfl (Yi.pv _ rfl) ?_
        refine RW.yi (.bool false) rfl rfl (Yi.pv _ rfl) ?_
        refine RW.pass rfl rfl ?_
        refine RW.yi (.bool false) rfl rfl (Yi.pv _ rfl) ?_
        refine RW.yi (.bool false) rfl rfl (Yi.pv _ rfl) ?_
        refine RW.nil ?_
        refine EW.next ?_
        refine CW.ret ?_
        obtain rfl := Option.some.inj hm
        exact EW.done (rs := [.tmp 2]) rfl (.tmp (t := 2) (v := .bool false) rfl .nil) (fun _ hM => ⟨rfl, hM.below⟩)
    · replace hm := (if_neg h7).symm.trans hm
      refine RW.pass rfl rfl ?_
      refine RW.pass rfl rfl ?_
      refine RW.yi (.bool false) rfl rfl (Yi.pv _ rfl) ?_
      refine RW.yi (.bool false) rfl rfl (Yi.pv _ rfl) ?_
      refine RW.pass rfl rfl ?_
      refine RW.pass rfl rfl ?_
      refine RW.yi (.bool false) rfl rfl (Yi.pv _ rfl) ?_
      refine RW.yi (.bool false) rfl rfl (Yi.pv _ rfl) ?_
      refine RW.pass rfl rfl ?_
      refine RW.yi (.bool false) rfl rfl (Yi.pv _ rfl) ?_
      refine RW.yi (.bool false) rfl rfl (Yi.pv _ rfl) ?_
      refine RW.nil ?_
      refine EW.next ?_
      refine CW.ret ?_
      obtain rfl := Option.some.inj hm
      exact EW.done (rs := [.tmp 2]) rfl (.tmp (t := 2) (v := .bool false) rfl .nil) (fun _ hM => ⟨rfl, hM.below⟩)
  · replace hm := (if_neg h6).symm.trans hm
    refine RW.pass rfl rfl ?_
    refine RW.pass rfl rfl ?_
    refine RW.pass rfl rfl ?_
    refine RW.yi (.bool false) rfl rfl (Yi.pv _ rfl) ?_
    refine RW.yi (.bool false) rfl rfl (Yi.pv _ rfl) ?_
    refine RW.pass rfl rfl ?_
    refine RW.pass rfl rfl ?_
    refine RW.yi (.bool false) rfl rfl (Yi.pv _ rfl) ?_
    refine RW.yi (.bool false) rfl rfl (Yi.pv _ rfl) ?_
    refine RW.pass rfl rfl ?_
    refine RW.pass rfl rfl ?_
    refine RW.yi (.bool false) rfl rfl (Yi.pv _ rfl) ?_
    refine RW.yi (.bool false) rfl rfl (Yi.pv _ rfl) ?_
    refine RW.pass rfl rfl ?_
    refine RW.yi (.bool false) rfl rfl (Yi.pv _ rfl) ?_
    refine RW.yi (.bool false) rfl rfl (Yi.pv _ rfl) ?_
    refine RW.nil ?_
    refine EW.next ?_
    refine CW.ret ?_
    obtain rfl := Option.some.inj hm
    exact EW.done (rs := [.tmp 2]) rfl (.tmp (t := 2) (v := .bool false) rfl .nil) (fun _ hM => ⟨rfl, hM.below⟩)
def lawColourBounds (K : Nat) (a0_0 : Int) (a0_1 : Int) (a0_2 : Int) (a1_0 : Int) (a1_1 : Int) (a1_2 : Int) : Option (Bool) :=
  ((cOf K a0_0 a0_1 a0_2).bind fun r3 => ((cPixel K a1_0 a1_1 a1_2).bind fun r5 => ((rIn11 K r3.1).bind fun r7 => (if r7 = true then ((rIn11 K r3.2.1).bind fun r9 => (if r9 = true then ((rIn11 K r3.2.2.1).bind fun r11 => (if r11 = true then ((rIn11 K r5.1).bind fun r13 => (if r13 = true then ((rIn11 K r5.2.1).bind fun r15 => (if r15 = true then ((rIn11 K r5.2.2.1).bind fun r17 => (if r17 = true then ((cPixel K r3.1 r3.2.1 r3.2.2.1).bind fun r19 => ((cOf K r5.1 r5.2.1 r5.2.2.1).bind fun r21 => (if r3.2.2.2 = 0 then (if r5.2.2.2 = 0 then (if r19.2.2.2 = 0 then (if r21.2.2.2 = 0 then ((awake11 K ).bind fun r27 => some r27) else some false) else some false) else (if [r5.1, r5.2.1, r5.2.2.1] = [0, 0, 0] then (if r19.2.2.2 = 0 then (if r21.2.2.2 = 0 then ((awake11 K ).bind fun r31 => some r31) else some false) else some false) else some false)) else (if [r3.1, r3.2.1, r3.2.2.1] = [0, 0, 0] then (if r5.2.2.2 = 0 then (if r19.2.2.2 = 0 then (if r21.2.2.2 = 0 then ((awake11 K ).bind fun r36 => some r36) else some false) else some false) else (if [r5.1, r5.2.1, r5.2.2.1] = [0, 0, 0] then (if r19.2.2.2 = 0 then (if r21.2.2.2 = 0 then ((awake11 K ).bind fun r40 => some r40) else some false) else some false) else some false)) else some false)))) else some false)) else some false)) else some false)) else some false)) else some false)) else some false))))

theorem c_lawColourBounds (K : Nat) (a0_0 : Int) (a0_1 : Int) (a0_2 : Int) (a1_0 : Int) (a1_1 : Int) (a1_2 : Int) (r : Bool) (w0 : World) (hm : lawColourBounds K a0_0 a0_1 a0_2 a1_0 a1_1 a1_2 = some r) : Calls Try.prog 6 #[.agg #[.int .i64 a0_0, .int .i64 a0_1, .int .i64 a0_2], .agg #[.int .i64 a1_0, .int .i64 a1_1, .int .i64 a1_2]] w0 fun e w' => e = .returned (.bool r) ∧ Below w0.heap.size w0 w' := by
  unfold lawColourBounds at hm
  refine calls_CW (n := 94) w0 [] [] Try.func6 rfl rfl rfl (Mem.begin w0) ?_
  refine CW.seq ?_
  refine CW.region ?_
  refine RW.box (v := .agg #[.int .i64 a0_0, .int .i64 a0_1, .int .i64 a0_2]) rfl rfl rfl (fun b1 => ?_)
  refine RW.box (v := .agg #[.int .i64 a1_0, .int .i64 a1_1, .int .i64 a1_2]) rfl rfl rfl (fun b2 => ?_)
  refine RW.yi (.bool false) rfl rfl (Yi.pv _ rfl) ?_
  refine RW.nil ?_
  refine EW.next ?_
  refine CW.seq ?_
  refine CW.region ?_
  refine RW.yi (.agg #[.int .i64 a0_0, .int .i64 a0_1, .int .i64 a0_2]) rfl rfl (Yi.loadW (i := 1) rfl rfl Try.isAgg23 Try.sizeOf23) ?_
  obtain ⟨r3, hr3, hm⟩ := of_bind hm
  refine RW.ca (.tuple #[.agg #[.int .i64 r3.1, .int .i64 r3.2.1, .int .i64 r3.2.2.1], .int .i64 r3.2.2.2]) rfl rfl (Ca.call rfl rfl Try.call7 (fun w _ => c_cOf K a0_0 a0_1 a0_2 r3 w hr3)) ?_
  refine RW.yi (.tuple #[.agg #[.int .i64 r3.1, .int .i64 r3.2.1, .int .i64 r3.2.2.1], .int .i64 r3.2.2.2]) rfl rfl (Yi.pv _ rfl) ?_
  refine RW.yi (.agg #[.int .i64 r3.1, .int .i64 r3.2.1, .int .i64 r3.2.2.1]) rfl rfl (Yi.pv _ rfl) ?_
  refine RW.yi (.int .i64 r3.2.2.2) rfl rfl (Yi.pv _ rfl) ?_
  refine RW.alloc (z := .agg #[.int .i64 0, .int .i64 0, .int .i64 0]) (#[.int .i64 0, .int .i64 0, .int .i64 0]) rfl rfl (fun _ => by kernel_rfl) rfl (fun b4 => ?_)
  refine RW.storeW (i := 0) (cs' := #[.int .i64 r3.1, .int .i64 r3.2.1, .int .i64 r3.2.2.1]) rfl rfl rfl rfl (by kernel_rfl) rfl (by kernel_rfl) ?_
  refine RW.yi (.int .i64 r3.2.2.2) rfl rfl (Yi.pv _ rfl) ?_
  refine RW.nil ?_
  refine EW.next ?_
  refine CW.seq ?_
  refine CW.region ?_
  refine RW.yi (.agg #[.int .i64 a1_0, .int .i64 a1_1, .int .i64 a1_2]) rfl rfl (Yi.loadW (i := 1) rfl rfl Try.isAgg25 Try.sizeOf25) ?_
  obtain ⟨r5, hr5, hm⟩ := of_bind hm
  refine RW.ca (.tuple #[.agg #[.int .i64 r5.1, .int .i64 r5.2.1, .int .i64 r5.2.2.1], .int .i64 r5.2.2.2]) rfl rfl (Ca.call rfl rfl Try.call9 (fun w _ => c_cPixel K a1_0 a1_1 a1_2 r5 w hr5)) ?_
  refine RW.yi (.tuple #[.agg #[.int .i64 r5.1, .int .i64 r5.2.1, .int .i64 r5.2.2.1], .int .i64 r5.2.2.2]) rfl rfl (Yi.pv _ rfl) ?_
  refine RW.yi (.agg #[.int .i64 r5.1, .int .i64 r5.2.1, .int .i64 r5.2.2.1]) rfl rfl (Yi.pv _ rfl) ?_
  refine RW.yi (.int .i64 r5.2.2.2) rfl rfl (Yi.pv _ rfl) ?_
  refine RW.alloc (z := .agg #[.int .i64 0, .int .i64 0, .int .i64 0]) (#[.int .i64 0, .int .i64 0, .int .i64 0]) rfl rfl (fun _ => by kernel_rfl) rfl (fun b6 => ?_)
  refine RW.storeW (i := 0) (cs' := #[.int .i64 r5.1, .int .i64 r5.2.1, .int .i64 r5.2.2.1]) rfl rfl rfl rfl (by kernel_rfl) rfl (by kernel_rfl) ?_
  refine RW.yi (.int .i64 r5.2.2.2) rfl rfl (Yi.pv _ rfl) ?_
  refine RW.nil ?_
  refine EW.next ?_
  refine CW.seq ?_
  refine CW.seq ?_
  refine CW.region ?_
  refine RW.yi (.pointer (some ⟨b4, 0, none⟩)) rfl rfl (Yi.fieldAddr (j := 0) Try.underlying25 rfl Try.sizeOf3 rfl) ?_
  refine RW.yi (.int .i64 r3.1) rfl rfl (Yi.load1 (i := 1) _ rfl rfl Try.isAgg3 rfl) ?_
  obtain ⟨r7, hr7, hm⟩ := of_bind hm
  refine RW.ca (.bool r7) rfl rfl (Ca.call rfl rfl Try.call11 (fun w _ => c_rIn11 K r3.1 r7 w hr7)) ?_
  refine RW.forkB 25 (r7) rfl (fun h8 => ?_) (fun h8 => ?_)
  · replace hm := (if_pos h8).symm.trans hm
    refine RW.yi (.bool false) rfl rfl (Yi.pv _ rfl) ?_
    refine RW.yi (.bool false) rfl rfl (Yi.pv _ rfl) ?_
    refine RW.yi (.pointer (some ⟨b4, 1, none⟩)) rfl rfl (Yi.fieldAddr (j := 1) Try.underlying25 rfl Try.sizeOf3 rfl) ?_
    refine RW.yi (.int .i64 r3.2.1) rfl rfl (Yi.load1 (i := 1) _ rfl rfl Try.isAgg3 rfl) ?_
    obtain ⟨r9, hr9, hm⟩ := of_bind hm
    refine RW.ca (.bool r9) rfl rfl (Ca.call rfl rfl Try.call11 (fun w _ => c_rIn11 K r3.2.1 r9 w hr9)) ?_
    refine RW.forkB 30 (r9) rfl (fun h10 => ?_) (fun h10 => ?_)
    · replace hm := (if_pos h10).symm.trans hm
      refine RW.yi (.bool false) rfl rfl (Yi.pv _ rfl) ?_
      refine RW.yi (.bool false) rfl rfl (Yi.pv _ rfl) ?_
      refine RW.yi (.bool false) rfl rfl (Yi.pv _ rfl) ?_
      refine RW.yi (.pointer (some ⟨b4, 2, none⟩)) rfl rfl (Yi.fieldAddr (j := 2) Try.underlying25 rfl Try.sizeOf3 rfl) ?_
      refine RW.yi (.int .i64 r3.2.2.1) rfl rfl (Yi.load1 (i := 1) _ rfl rfl Try.isAgg3 rfl) ?_
      obtain ⟨r11, hr11, hm⟩ := of_bind hm
      refine RW.ca (.bool r11) rfl rfl (Ca.call rfl rfl Try.call11 (fun w _ => c_rIn11 K r3.2.2.1 r11 w hr11)) ?_
      refine RW.forkB 36 (r11) rfl (fun h12 => ?_) (fun h12 => ?_)
      · replace hm := (if_pos h12).symm.trans hm
        refine RW.yi (.bool false) rfl rfl (Yi.pv _ rfl) ?_
        refine RW.yi (.bool false) rfl rfl (Yi.pv _ rfl) ?_
        refine RW.yi (.bool false) rfl rfl (Yi.pv _ rfl) ?_
        refine RW.yi (.pointer (some ⟨b6, 0, none⟩)) rfl rfl (Yi.fieldAddr (j := 0) Try.underlying23 rfl Try.sizeOf3 rfl) ?_
        refine RW.yi (.int .i64 r5.1) rfl rfl (Yi.load1 (i := 0) _ rfl rfl Try.isAgg3 rfl) ?_
        obtain ⟨r13, hr13, hm⟩ := of_bind hm
        refine RW.ca (.bool r13) rfl rfl (Ca.call rfl rfl Try.call11 (fun w _ => c_rIn11 K r5.1 r13 w hr13)) ?_
        refine RW.forkB 42 (r13) rfl (fun h14 => ?_) (fun h14 => ?_)
        · replace hm := (if_pos h14).symm.trans hm
          refine RW.yi (.bool false) rfl rfl (Yi.pv _ rfl) ?_
          refine RW.yi (.bool false) rfl rfl (Yi.pv _ rfl) ?_
          refine RW.yi (.bool false) rfl rfl (Yi.pv _ rfl) ?_
          refine RW.yi (.pointer (some ⟨b6, 1, none⟩)) rfl rfl (Yi.fieldAddr (j := 1) Try.underlying23 rfl Try.sizeOf3 rfl) ?_
          refine RW.yi (.int .i64 r5.2.1) rfl rfl (Yi.load1 (i := 0) _ rfl rfl Try.isAgg3 rfl) ?_
          obtain ⟨r15, hr15, hm⟩ := of_bind hm
          refine RW.ca (.bool r15) rfl rfl (Ca.call rfl rfl Try.call11 (fun w _ => c_rIn11 K r5.2.1 r15 w hr15)) ?_
          refine RW.forkB 48 (r15) rfl (fun h16 => ?_) (fun h16 => ?_)
          · replace hm := (if_pos h16).symm.trans hm
            refine RW.yi (.bool false) rfl rfl (Yi.pv _ rfl) ?_
            refine RW.yi (.bool false) rfl rfl (Yi.pv _ rfl) ?_
            refine RW.yi (.bool false) rfl rfl (Yi.pv _ rfl) ?_
            refine RW.yi (.pointer (some ⟨b6, 2, none⟩)) rfl rfl (Yi.fieldAddr (j := 2) Try.underlying23 rfl Try.sizeOf3 rfl) ?_
            refine RW.yi (.int .i64 r5.2.2.1) rfl rfl (Yi.load1 (i := 0) _ rfl rfl Try.isAgg3 rfl) ?_
            obtain ⟨r17, hr17, hm⟩ := of_bind hm
            refine RW.ca (.bool r17) rfl rfl (Ca.call rfl rfl Try.call11 (fun w _ => c_rIn11 K r5.2.2.1 r17 w hr17)) ?_
            refine RW.forkB 54 (r17) rfl (fun h18 => ?_) (fun h18 => ?_)
            · replace hm := (if_pos h18).symm.trans hm
              refine RW.yi (.bool false) rfl rfl (Yi.pv _ rfl) ?_
              refine RW.yi (.bool false) rfl rfl (Yi.pv _ rfl) ?_
              refine RW.nil ?_
              refine EW.next ?_
              refine CW.cond_false rfl ?_
              refine CW.skip ?_
              refine EW.next ?_
              refine CW.seq ?_
              refine CW.region ?_
              refine RW.yi (.agg #[.int .i64 r3.1, .int .i64 r3.2.1, .int .i64 r3.2.2.1]) rfl rfl (Yi.loadW (i := 1) rfl rfl Try.isAgg25 Try.sizeOf25) ?_
              obtain ⟨r19, hr19, hm⟩ := of_bind hm
              refine RW.ca (.tuple #[.agg #[.int .i64 r19.1, .int .i64 r19.2.1, .int .i64 r19.2.2.1], .int .i64 r19.2.2.2]) rfl rfl (Ca.call rfl rfl Try.call9 (fun w _ => c_cPixel K r3.1 r3.2.1 r3.2.2.1 r19 w hr19)) ?_
              refine RW.yi (.tuple #[.agg #[.int .i64 r19.1, .int .i64 r19.2.1, .int .i64 r19.2.2.1], .int .i64 r19.2.2.2]) rfl rfl (Yi.pv _ rfl) ?_
              refine RW.yi (.agg #[.int .i64 r19.1, .int .i64 r19.2.1, .int .i64 r19.2.2.1]) rfl rfl (Yi.pv _ rfl) ?_
              refine RW.yi (.int .i64 r19.2.2.2) rfl rfl (Yi.pv _ rfl) ?_
              refine RW.alloc (z := .agg #[.int .i64 0, .int .i64 0, .int .i64 0]) (#[.int .i64 0, .int .i64 0, .int .i64 0]) rfl rfl (fun _ => by kernel_rfl) rfl (fun b20 => ?_)
              refine RW.storeW (i := 0) (cs' := #[.int .i64 r19.1, .int .i64 r19.2.1, .int .i64 r19.2.2.1]) rfl rfl rfl rfl (by kernel_rfl) rfl (by kernel_rfl) ?_
              refine RW.yi (.int .i64 r19.2.2.2) rfl rfl (Yi.pv _ rfl) ?_
              refine RW.nil ?_
              refine EW.next ?_
              refine CW.seq ?_
              refine CW.region ?_
              refine RW.yi (.agg #[.int .i64 r5.1, .int .i64 r5.2.1, .int .i64 r5.2.2.1]) rfl rfl (Yi.loadW (i := 1) rfl rfl Try.isAgg23 Try.sizeOf23) ?_
              obtain ⟨r21, hr21, hm⟩ := of_bind hm
              refine RW.ca (.tuple #[.agg #[.int .i64 r21.1, .int .i64 r21.2.1, .int .i64 r21.2.2.1], .int .i64 r21.2.2.2]) rfl rfl (Ca.call rfl rfl Try.call7 (fun w _ => c_cOf K r5.1 r5.2.1 r5.2.2.1 r21 w hr21)) ?_
              refine RW.yi (.tuple #[.agg #[.int .i64 r21.1, .int .i64 r21.2.1, .int .i64 r21.2.2.1], .int .i64 r21.2.2.2]) rfl rfl (Yi.pv _ rfl) ?_
              refine RW.yi (.agg #[.int .i64 r21.1, .int .i64 r21.2.1, .int .i64 r21.2.2.1]) rfl rfl (Yi.pv _ rfl) ?_
              refine RW.yi (.int .i64 r21.2.2.2) rfl rfl (Yi.pv _ rfl) ?_
              refine RW.alloc (z := .agg #[.int .i64 0, .int .i64 0, .int .i64 0]) (#[.int .i64 0, .int .i64 0, .int .i64 0]) rfl rfl (fun _ => by kernel_rfl) rfl (fun b22 => ?_)
              refine RW.storeW (i := 0) (cs' := #[.int .i64 r21.1, .int .i64 r21.2.1, .int .i64 r21.2.2.1]) rfl rfl rfl rfl (by kernel_rfl) rfl (by kernel_rfl) ?_
              refine RW.yi (.int .i64 r21.2.2.2) rfl rfl (Yi.pv _ rfl) ?_
              refine RW.nil ?_
              refine EW.next ?_
              refine CW.seq ?_
              refine CW.region ?_
              refine RW.yi (.int .i64 r3.2.2.2) rfl rfl (Yi.pv _ rfl) ?_
              refine RW.yi (.bool (decide (r3.2.2.2 = 0))) rfl rfl (Yi.pv _ rfl) ?_
              refine RW.yi (.bool (decide (r3.2.2.2 = 0))) rfl rfl (Yi.pv _ rfl) ?_
              refine RW.fork 69 (r3.2.2.2 = 0) rfl (fun h23 => ?_) (fun h23 => ?_)
              · replace hm := (if_pos h23).symm.trans hm
                refine RW.pass rfl rfl ?_
                refine RW.pass rfl rfl ?_
                refine RW.pass rfl rfl ?_
                refine RW.yi (.bool true) rfl rfl (Yi.pv _ rfl) ?_
                refine RW.yi (.bool true) rfl rfl (Yi.pv _ rfl) ?_
                refine RW.yi (.int .i64 r5.2.2.2) rfl rfl (Yi.pv _ rfl) ?_
                refine RW.yi (.bool (decide (r5.2.2.2 = 0))) rfl rfl (Yi.pv _ rfl) ?_
                refine RW.yi (.bool (decide (r5.2.2.2 = 0))) rfl rfl (Yi.pv _ rfl) ?_
                refine RW.fork 77 (r5.2.2.2 = 0) rfl (fun h24 => ?_) (fun h24 => ?_)
                · replace hm := (if_pos h24).symm.trans hm
                  refine RW.pass rfl rfl ?_
                  refine RW.pass rfl rfl ?_
                  refine RW.pass rfl rfl ?_
                  refine RW.yi (.bool true) rfl rfl (Yi.pv _ rfl) ?_
                  refine RW.yi (.bool true) rfl rfl (Yi.pv _ rfl) ?_
                  refine RW.yi (.bool true) rfl rfl (Yi.pv _ rfl) ?_
                  refine RW.yi (.int .i64 r19.2.2.2) rfl rfl (Yi.pv _ rfl) ?_
                  refine RW.yi (.bool (decide (r19.2.2.2 = 0))) rfl rfl (Yi.pv _ rfl) ?_
                  refine RW.yi (.bool (decide (r19.2.2.2 = 0))) rfl rfl (Yi.pv _ rfl) ?_
                  refine RW.yi (.bool (decide (r19.2.2.2 = 0))) rfl rfl (Yi.pv _ rfl) ?_
                  refine RW.fork 87 (r19.2.2.2 = 0) rfl (fun h25 => ?_) (fun h25 => ?_)
                  · replace hm := (if_pos h25).symm.trans hm
                    refine RW.yi (.int .i64 r21.2.2.2) rfl rfl (Yi.pv _ rfl) ?_
                    refine RW.yi (.bool (decide (r21.2.2.2 = 0))) rfl rfl (Yi.pv _ rfl) ?_
                    refine RW.yi (.bool (decide (r21.2.2.2 = 0))) rfl rfl (Yi.pv _ rfl) ?_
                    refine RW.yi (.bool (decide (r21.2.2.2 = 0))) rfl rfl (Yi.pv _ rfl) ?_
                    refine RW.fork 91 (r21.2.2.2 = 0) rfl (fun h26 => ?_) (fun h26 => ?_)
                    · replace hm := (if_pos h26).symm.trans hm
                      obtain ⟨r27, hr27, hm⟩ := of_bind hm
                      refine RW.ca (.bool r27) rfl rfl (Ca.call rfl rfl Try.call8 (fun w _ => c_awake11 K  r27 w hr27)) ?_
                      refine RW.yi (.bool r27) rfl rfl (Yi.pv _ rfl) ?_
                      refine RW.yi (.bool r27) rfl rfl (Yi.pv _ rfl) ?_
                      refine RW.nil ?_
                      refine EW.next ?_
                      refine CW.ret ?_
                      obtain rfl := Option.some.inj hm
                      exact EW.done (rs := [.tmp 4]) rfl (.tmp (t := 4) (v := .bool r27) rfl .nil) (fun _ hM => ⟨rfl, hM.below⟩)
                    · replace hm := (if_neg h26).symm.trans hm
                      refine RW.pass rfl rfl ?_
                      refine RW.yi (.bool false) rfl rfl (Yi.pv _ rfl) ?_
                      refine RW.yi (.bool false) rfl rfl (Yi.pv _ rfl) ?_
                      refine RW.nil ?_
                      refine EW.next ?_
                      refine CW.ret ?_
                      obtain rfl := Option.some.inj hm
                      exact EW.done (rs := [.tmp 4]) rfl (.tmp (t := 4) (v := .bool false) rfl .nil) (fun _ hM => ⟨rfl, hM.below⟩)
                  · replace hm := (if_neg h25).symm.trans hm
                    refine RW.pass rfl rfl ?_
                    refine RW.pass rfl rfl ?_
                    refine RW.yi (.bool false) rfl rfl (Yi.pv _ rfl) ?_
                    refine RW.yi (.bool false) rfl rfl (Yi.pv _ rfl) ?_
                    refine RW.pass rfl rfl ?_
                    refine RW.yi (.bool false) rfl rfl (Yi.pv _ rfl) ?_
                    refine RW.yi (.bool false) rfl rfl (Yi.pv _ rfl) ?_
                    refine RW.nil ?_
                    refine EW.next ?_
                    refine CW.ret ?_
                    obtain rfl := Option.some.inj hm
                    exact EW.done (rs := [.tmp 4]) rfl (.tmp (t := 4) (v := .bool false) rfl .nil) (fun _ hM => ⟨rfl, hM.below⟩)
                · replace hm := (if_neg h24).symm.trans hm
                  refine RW.yi (.agg #[.int .i64 r5.1, .int .i64 r5.2.1, .int .i64 r5.2.2.1]) rfl rfl (Yi.loadW (i := 2) rfl rfl Try.isAgg23 Try.sizeOf23) ?_
                  refine RW.yi (.agg #[.int .i64 0, .int .i64 0, .int .i64 0]) rfl rfl (Yi.build (vs := []) _ rfl rfl (fun _ => by kernel_rfl)) ?_
                  refine RW.yi (.bool (decide ([r5.1, r5.2.1, r5.2.2.1] = [0, 0, 0]))) rfl rfl (Yi.eqS (xs := [r5.1, r5.2.1, r5.2.2.1]) (ys := [0, 0, 0]) Try.underlying23 Try.eqGuardType23 Try.stoodInHeld23 (by kernel_rfl) rfl rfl rfl rfl) ?_
                  refine RW.yi (.bool (decide ([r5.1, r5.2.1, r5.2.2.1] = [0, 0, 0]))) rfl rfl (Yi.pv _ rfl) ?_
                  refine RW.yi (.bool (decide ([r5.1, r5.2.1, r5.2.2.1] = [0, 0, 0]))) rfl rfl (Yi.pv _ rfl) ?_
                  refine RW.yi (.bool (decide ([r5.1, r5.2.1, r5.2.2.1] = [0, 0, 0]))) rfl rfl (Yi.pv _ rfl) ?_
                  refine RW.fork 83 ([r5.1, r5.2.1, r5.2.2.1] = [0, 0, 0]) rfl (fun h28 => ?_) (fun h28 => ?_)
                  · replace hm := (if_pos h28).symm.trans hm
                    refine RW.yi (.int .i64 r19.2.2.2) rfl rfl (Yi.pv _ rfl) ?_
                    refine RW.yi (.bool (decide (r19.2.2.2 = 0))) rfl rfl (Yi.pv _ rfl) ?_
                    refine RW.yi (.bool (decide (r19.2.2.2 = 0))) rfl rfl (Yi.pv _ rfl) ?_
                    refine RW.yi (.bool (decide (r19.2.2.2 = 0))) rfl rfl (Yi.pv _ rfl) ?_
                    refine RW.fork 87 (r19.2.2.2 = 0) rfl (fun h29 => ?_) (fun h29 => ?_)
                    · replace hm := (if_pos h29).symm.trans hm
                      refine RW.yi (.int .i64 r21.2.2.2) rfl rfl (Yi.pv _ rfl) ?_
                      refine RW.yi (.bool (decide (r21.2.2.2 = 0))) rfl rfl (Yi.pv _ rfl) ?_
                      refine RW.yi (.bool (decide (r21.2.2.2 = 0))) rfl rfl (Yi.pv _ rfl) ?_
                      refine RW.yi (.bool (decide (r21.2.2.2 = 0))) rfl rfl (Yi.pv _ rfl) ?_
                      refine RW.fork 91 (r21.2.2.2 = 0) rfl (fun h30 => ?_) (fun h30 => ?_)
                      · replace hm := (if_pos h30).symm.trans hm
                        obtain ⟨r31, hr31, hm⟩ := of_bind hm
                        refine RW.ca (.bool r31) rfl rfl (Ca.call rfl rfl Try.call8 (fun w _ => c_awake11 K  r31 w hr31)) ?_
                        refine RW.yi (.bool r31) rfl rfl (Yi.pv _ rfl) ?_
                        refine RW.yi (.bool r31) rfl rfl (Yi.pv _ rfl) ?_
                        refine RW.nil ?_
                        refine EW.next ?_
                        refine CW.ret ?_
                        obtain rfl := Option.some.inj hm
                        exact EW.done (rs := [.tmp 4]) rfl (.tmp (t := 4) (v := .bool r31) rfl .nil) (fun _ hM => ⟨rfl, hM.below⟩)
                      · replace hm := (if_neg h30).symm.trans hm
                        refine RW.pass rfl rfl ?_
                        refine RW.yi (.bool false) rfl rfl (Yi.pv _ rfl) ?_
                        refine RW.yi (.bool false) rfl rfl (Yi.pv _ rfl) ?_
                        refine RW.nil ?_
                        refine EW.next ?_
                        refine CW.ret ?_
                        obtain rfl := Option.some.inj hm
                        exact EW.done (rs := [.tmp 4]) rfl (.tmp (t := 4) (v := .bool false) rfl .nil) (fun _ hM => ⟨rfl, hM.below⟩)
                    · replace hm := (if_neg h29).symm.trans hm
                      refine RW.pass rfl rfl ?_
                      refine RW.pass rfl rfl ?_
                      refine RW.yi (.bool false) rfl rfl (Yi.pv _ rfl) ?_
                      refine RW.yi (.bool false) rfl rfl (Yi.pv _ rfl) ?_
                      refine RW.pass rfl rfl ?_
                      refine RW.yi (.bool false) rfl rfl (Yi.pv _ rfl) ?_
                      refine RW.yi (.bool false) rfl rfl (Yi.pv _ rfl) ?_
                      refine RW.nil ?_
                      refine EW.next ?_
                      refine CW.ret ?_
                      obtain rfl := Option.some.inj hm
                      exact EW.done (rs := [.tmp 4]) rfl (.tmp (t := 4) (v := .bool false) rfl .nil) (fun _ hM => ⟨rfl, hM.below⟩)
                  · replace hm := (if_neg h28).symm.trans hm
                    refine RW.pass rfl rfl ?_
                    refine RW.pass rfl rfl ?_
                    refine RW.yi (.bool false) rfl rfl (Yi.pv _ rfl) ?_
                    refine RW.yi (.bool false) rfl rfl (Yi.pv _ rfl) ?_
                    refine RW.pass rfl rfl ?_
                    refine RW.pass rfl rfl ?_
                    refine RW.yi (.bool false) rfl rfl (Yi.pv _ rfl) ?_
                    refine RW.yi (.bool false) rfl rfl (Yi.pv _ rfl) ?_
                    refine RW.pass rfl rfl ?_
                    refine RW.yi (.bool false) rfl rfl (Yi.pv _ rfl) ?_
                    refine RW.yi (.bool false) rfl rfl (Yi.pv _ rfl) ?_
                    refine RW.nil ?_
                    refine EW.next ?_
                    refine CW.ret ?_
                    obtain rfl := Option.some.inj hm
                    exact EW.done (rs := [.tmp 4]) rfl (.tmp (t := 4) (v := .bool false) rfl .nil) (fun _ hM => ⟨rfl, hM.below⟩)
              · replace hm := (if_neg h23).symm.trans hm
                refine RW.yi (.agg #[.int .i64 r3.1, .int .i64 r3.2.1, .int .i64 r3.2.2.1]) rfl rfl (Yi.loadW (i := 3) rfl rfl Try.isAgg25 Try.sizeOf25) ?_
                refine RW.yi (.agg #[.int .i64 0, .int .i64 0, .int .i64 0]) rfl rfl (Yi.build (vs := []) _ rfl rfl (fun _ => by kernel_rfl)) ?_
                refine RW.yi (.bool (decide ([r3.1, r3.2.1, r3.2.2.1] = [0, 0, 0]))) rfl rfl (Yi.eqS (xs := [r3.1, r3.2.1, r3.2.2.1]) (ys := [0, 0, 0]) Try.underlying25 Try.eqGuardType25 Try.stoodInHeld25 (by kernel_rfl) rfl rfl rfl rfl) ?_
                refine RW.yi (.bool (decide ([r3.1, r3.2.1, r3.2.2.1] = [0, 0, 0]))) rfl rfl (Yi.pv _ rfl) ?_
                refine RW.yi (.bool (decide ([r3.1, r3.2.1, r3.2.2.1] = [0, 0, 0]))) rfl rfl (Yi.pv _ rfl) ?_
                refine RW.fork 74 ([r3.1, r3.2.1, r3.2.2.1] = [0, 0, 0]) rfl (fun h32 => ?_) (fun h32 => ?_)
                · replace hm := (if_pos h32).symm.trans hm
                  refine RW.yi (.int .i64 r5.2.2.2) rfl rfl (Yi.pv _ rfl) ?_
                  refine RW.yi (.bool (decide (r5.2.2.2 = 0))) rfl rfl (Yi.pv _ rfl) ?_
                  refine RW.yi (.bool (decide (r5.2.2.2 = 0))) rfl rfl (Yi.pv _ rfl) ?_
                  refine RW.fork 77 (r5.2.2.2 = 0) rfl (fun h33 => ?_) (fun h33 => ?_)
                  · replace hm := (if_pos h33).symm.trans hm
                    refine RW.pass rfl rfl ?_
                    refine RW.pass rfl rfl ?_
                    refine RW.pass rfl rfl ?_
                    refine RW.yi (.bool true) rfl rfl (Yi.pv _ rfl) ?_
                    refine RW.yi (.bool true) rfl rfl (Yi.pv _ rfl) ?_
                    refine RW.yi (.bool true) rfl rfl (Yi.pv _ rfl) ?_
                    refine RW.yi (.int .i64 r19.2.2.2) rfl rfl (Yi.pv _ rfl) ?_
                    refine RW.yi (.bool (decide (r19.2.2.2 = 0))) rfl rfl (Yi.pv _ rfl) ?_
                    refine RW.yi (.bool (decide (r19.2.2.2 = 0))) rfl rfl (Yi.pv _ rfl) ?_
                    refine RW.yi (.bool (decide (r19.2.2.2 = 0))) rfl rfl (Yi.pv _ rfl) ?_
                    refine RW.fork 87 (r19.2.2.2 = 0) rfl (fun h34 => ?_) (fun h34 => ?_)
                    · replace hm := (if_pos h34).symm.trans hm
                      refine RW.yi (.int .i64 r21.2.2.2) rfl rfl (Yi.pv _ rfl) ?_
                      refine RW.yi (.bool (decide (r21.2.2.2 = 0))) rfl rfl (Yi.pv _ rfl) ?_
                      refine RW.yi (.bool (decide (r21.2.2.2 = 0))) rfl rfl (Yi.pv _ rfl) ?_
                      refine RW.yi (.bool (decide (r21.2.2.2 = 0))) rfl rfl (Yi.pv _ rfl) ?_
                      refine RW.fork 91 (r21.2.2.2 = 0) rfl (fun h35 => ?_) (fun h35 => ?_)
                      · replace hm := (if_pos h35).symm.trans hm
                        obtain ⟨r36, hr36, hm⟩ := of_bind hm
                        refine RW.ca (.bool r36) rfl rfl (Ca.call rfl rfl Try.call8 (fun w _ => c_awake11 K  r36 w hr36)) ?_
                        refine RW.yi (.bool r36) rfl rfl (Yi.pv _ rfl) ?_
                        refine RW.yi (.bool r36) rfl rfl (Yi.pv _ rfl) ?_
                        refine RW.nil ?_
                        refine EW.next ?_
                        refine CW.ret ?_
                        obtain rfl := Option.some.inj hm
                        exact EW.done (rs := [.tmp 4]) rfl (.tmp (t := 4) (v := .bool r36) rfl .nil) (fun _ hM => ⟨rfl, hM.below⟩)
                      · replace hm := (if_neg h35).symm.trans hm
                        refine RW.pass rfl rfl ?_
                        refine RW.yi (.bool false) rfl rfl (Yi.pv _ rfl) ?_
                        refine RW.yi (.bool false) rfl rfl (Yi.pv _ rfl) ?_
                        refine RW.nil ?_
                        refine EW.next ?_
                        refine CW.ret ?_
                        obtain rfl := Option.some.inj hm
                        exact EW.done (rs := [.tmp 4]) rfl (.tmp (t := 4) (v := .bool false) rfl .nil) (fun _ hM => ⟨rfl, hM.below⟩)
                    · replace hm := (if_neg h34).symm.trans hm
                      refine RW.pass rfl rfl ?_
                      refine RW.pass rfl rfl ?_
                      refine RW.yi (.bool false) rfl rfl (Yi.pv _ rfl) ?_
                      refine RW.yi (.bool false) rfl rfl (Yi.pv _ rfl) ?_
                      refine RW.pass rfl rfl ?_
                      refine RW.yi (.bool false) rfl rfl (Yi.pv _ rfl) ?_
                      refine RW.yi (.bool false) rfl rfl (Yi.pv _ rfl) ?_
                      refine RW.nil ?_
                      refine EW.next ?_
                      refine CW.ret ?_
                      obtain rfl := Option.some.inj hm
                      exact EW.done (rs := [.tmp 4]) rfl (.tmp (t := 4) (v := .bool false) rfl .nil) (fun _ hM => ⟨rfl, hM.below⟩)
                  · replace hm := (if_neg h33).symm.trans hm
                    refine RW.yi (.agg #[.int .i64 r5.1, .int .i64 r5.2.1, .int .i64 r5.2.2.1]) rfl rfl (Yi.loadW (i := 2) rfl rfl Try.isAgg23 Try.sizeOf23) ?_
                    refine RW.yi (.agg #[.int .i64 0, .int .i64 0, .int .i64 0]) rfl rfl (Yi.build (vs := []) _ rfl rfl (fun _ => by kernel_rfl)) ?_
                    refine RW.yi (.bool (decide ([r5.1, r5.2.1, r5.2.2.1] = [0, 0, 0]))) rfl rfl (Yi.eqS (xs := [r5.1, r5.2.1, r5.2.2.1]) (ys := [0, 0, 0]) Try.underlying23 Try.eqGuardType23 Try.stoodInHeld23 (by kernel_rfl) rfl rfl rfl rfl) ?_
                    refine RW.yi (.bool (decide ([r5.1, r5.2.1, r5.2.2.1] = [0, 0, 0]))) rfl rfl (Yi.pv _ rfl) ?_
                    refine RW.yi (.bool (decide ([r5.1, r5.2.1, r5.2.2.1] = [0, 0, 0]))) rfl rfl (Yi.pv _ rfl) ?_
                    refine RW.yi (.bool (decide ([r5.1, r5.2.1, r5.2.2.1] = [0, 0, 0]))) rfl rfl (Yi.pv _ rfl) ?_
                    refine RW.fork 83 ([r5.1, r5.2.1, r5.2.2.1] = [0, 0, 0]) rfl (fun h37 => ?_) (fun h37 => ?_)
                    · replace hm := (if_pos h37).symm.trans hm
                      refine RW.yi (.int .i64 r19.2.2.2) rfl rfl (Yi.pv _ rfl) ?_
                      refine RW.yi (.bool (decide (r19.2.2.2 = 0))) rfl rfl (Yi.pv _ rfl) ?_
                      refine RW.yi (.bool (decide (r19.2.2.2 = 0))) rfl rfl (Yi.pv _ rfl) ?_
                      refine RW.yi (.bool (decide (r19.2.2.2 = 0))) rfl rfl (Yi.pv _ rfl) ?_
                      refine RW.fork 87 (r19.2.2.2 = 0) rfl (fun h38 => ?_) (fun h38 => ?_)
                      · replace hm := (if_pos h38).symm.trans hm
                        refine RW.yi (.int .i64 r21.2.2.2) rfl rfl (Yi.pv _ rfl) ?_
                        refine RW.yi (.bool (decide (r21.2.2.2 = 0))) rfl rfl (Yi.pv _ rfl) ?_
                        refine RW.yi (.bool (decide (r21.2.2.2 = 0))) rfl rfl (Yi.pv _ rfl) ?_
                        refine RW.yi (.bool (decide (r21.2.2.2 = 0))) rfl rfl (Yi.pv _ rfl) ?_
                        refine RW.fork 91 (r21.2.2.2 = 0) rfl (fun h39 => ?_) (fun h39 => ?_)
                        · replace hm := (if_pos h39).symm.trans hm
                          obtain ⟨r40, hr40, hm⟩ := of_bind hm
                          refine RW.ca (.bool r40) rfl rfl (Ca.call rfl rfl Try.call8 (fun w _ => c_awake11 K  r40 w hr40)) ?_
                          refine RW.yi (.bool r40) rfl rfl (Yi.pv _ rfl) ?_
                          refine RW.yi (.bool r40) rfl rfl (Yi.pv _ rfl) ?_
                          refine RW.nil ?_
                          refine EW.next ?_
                          refine CW.ret ?_
                          obtain rfl := Option.some.inj hm
                          exact EW.done (rs := [.tmp 4]) rfl (.tmp (t := 4) (v := .bool r40) rfl .nil) (fun _ hM => ⟨rfl, hM.below⟩)
                        · replace hm := (if_neg h39).symm.trans hm
                          refine RW.pass rfl rfl ?_
                          refine RW.yi (.bool false) rfl rfl (Yi.pv _ rfl) ?_
                          refine RW.yi (.bool false) rfl rfl (Yi.pv _ rfl) ?_
                          refine RW.nil ?_
                          refine EW.next ?_
                          refine CW.ret ?_
                          obtain rfl := Option.some.inj hm
                          exact EW.done (rs := [.tmp 4]) rfl (.tmp (t := 4) (v := .bool false) rfl .nil) (fun _ hM => ⟨rfl, hM.below⟩)
                      · replace hm := (if_neg h38).symm.trans hm
                        refine RW.pass rfl rfl ?_
                        refine RW.pass rfl rfl ?_
                        refine RW.yi (.bool false) rfl rfl (Yi.pv _ rfl) ?_
                        refine RW.yi (.bool false) rfl rfl (Yi.pv _ rfl) ?_
                        refine RW.pass rfl rfl ?_
                        refine RW.yi (.bool false) rfl rfl (Yi.pv _ rfl) ?_
                        refine RW.yi (.bool false) rfl rfl (Yi.pv _ rfl) ?_
                        refine RW.nil ?_
                        refine EW.next ?_
                        refine CW.ret ?_
                        obtain rfl := Option.some.inj hm
                        exact EW.done (rs := [.tmp 4]) rfl (.tmp (t := 4) (v := .bool false) rfl .nil) (fun _ hM => ⟨rfl, hM.below⟩)
                    · replace hm := (if_neg h37).symm.trans hm
                      refine RW.pass rfl rfl ?_
                      refine RW.pass rfl rfl ?_
                      refine RW.yi (.bool false) rfl rfl (Yi.pv _ rfl) ?_
                      refine RW.yi (.bool false) rfl rfl (Yi.pv _ rfl) ?_
                      refine RW.pass rfl rfl ?_
                      refine RW.pass rfl rfl ?_
                      refine RW.yi (.bool false) rfl rfl (Yi.pv _ rfl) ?_
                      refine RW.yi (.bool false) rfl rfl (Yi.pv _ rfl) ?_
                      refine RW.pass rfl rfl ?_
                      refine RW.yi (.bool false) rfl rfl (Yi.pv _ rfl) ?_
                      refine RW.yi (.bool false) rfl rfl (Yi.pv _ rfl) ?_
                      refine RW.nil ?_
                      refine EW.next ?_
                      refine CW.ret ?_
                      obtain rfl := Option.some.inj hm
                      exact EW.done (rs := [.tmp 4]) rfl (.tmp (t := 4) (v := .bool false) rfl .nil) (fun _ hM => ⟨rfl, hM.below⟩)
                · replace hm := (if_neg h32).symm.trans hm
                  refine RW.pass rfl rfl ?_
                  refine RW.pass rfl rfl ?_
                  refine RW.pass rfl rfl ?_
                  refine RW.pass rfl rfl ?_
                  refine RW.pass rfl rfl ?_
                  refine RW.pass rfl rfl ?_
                  refine RW.pass rfl rfl ?_
                  refine RW.yi (.bool false) rfl rfl (Yi.pv _ rfl) ?_
                  refine RW.yi (.bool false) rfl rfl (Yi.pv _ rfl) ?_
                  refine RW.pass rfl rfl ?_
                  refine RW.pass rfl rfl ?_
                  refine RW.yi (.bool false) rfl rfl (Yi.pv _ rfl) ?_
                  refine RW.yi (.bool false) rfl rfl (Yi.pv _ rfl) ?_
                  refine RW.pass rfl rfl ?_
                  refine RW.pass rfl rfl ?_
                  refine RW.yi (.bool false) rfl rfl (Yi.pv _ rfl) ?_
                  refine RW.yi (.bool false) rfl rfl (Yi.pv _ rfl) ?_
                  refine RW.pass rfl rfl ?_
                  refine RW.yi (.bool false) rfl rfl (Yi.pv _ rfl) ?_
                  refine RW.yi (.bool false) rfl rfl (Yi.pv _ rfl) ?_
                  refine RW.nil ?_
                  refine EW.next ?_
                  refine CW.ret ?_
                  obtain rfl := Option.some.inj hm
                  exact EW.done (rs := [.tmp 4]) rfl (.tmp (t := 4) (v := .bool false) rfl .nil) (fun _ hM => ⟨rfl, hM.below⟩)
            · replace hm := (if_neg h18).symm.trans hm
              refine RW.yi (.bool true) rfl rfl (Yi.pv _ rfl) ?_
              refine RW.yi (.bool true) rfl rfl (Yi.pv _ rfl) ?_
              refine RW.nil ?_
              refine EW.next ?_
              refine CW.cond_true rfl ?_
              refine CW.seq ?_
              refine CW.region ?_
              refine RW.yi (.bool false) rfl rfl (Yi.pv _ rfl) ?_
              refine RW.nil ?_
              refine EW.next ?_
              refine CW.ret ?_
              refine EW.thr ?_
              obtain rfl := Option.some.inj hm
              exact EW.done (rs := [.tmp 4]) rfl (.tmp (t := 4) (v := .bool false) rfl .nil) (fun _ hM => ⟨rfl, hM.below⟩)
          · replace hm := (if_neg h16).symm.trans hm
            refine RW.yi (.bool true) rfl rfl (Yi.pv _ rfl) ?_
            refine RW.yi (.bool true) rfl rfl (Yi.pv _ rfl) ?_
            refine RW.yi (.bool true) rfl rfl (Yi.pv _ rfl) ?_
            refine RW.pass rfl rfl ?_
            refine RW.pass rfl rfl ?_
            refine RW.pass rfl rfl ?_
            refine RW.pass rfl rfl ?_
            refine RW.yi (.bool true) rfl rfl (Yi.pv _ rfl) ?_
            refine RW.nil ?_
            refine EW.next ?_
            refine CW.cond_true rfl ?_
            refine CW.seq ?_
            refine CW.region ?_
            refine RW.yi (.bool false) rfl rfl (Yi.pv _ rfl) ?_
            refine RW.nil ?_
            refine EW.next ?_
            refine CW.ret ?_
            refine EW.thr ?_
            obtain rfl := Option.some.inj hm
            exact EW.done (rs := [.tmp 4]) rfl (.tmp (t := 4) (v := .bool false) rfl .nil) (fun _ hM => ⟨rfl, hM.below⟩)
        · replace hm := (if_neg h14).symm.trans hm
          refine RW.yi (.bool true) rfl rfl (Yi.pv _ rfl) ?_
          refine RW.yi (.bool true) rfl rfl (Yi.pv _ rfl) ?_
          refine RW.yi (.bool true) rfl rfl (Yi.pv _ rfl) ?_
          refine RW.pass rfl rfl ?_
          refine RW.pass rfl rfl ?_
          refine RW.pass rfl rfl ?_
          refine RW.pass rfl rfl ?_
          refine RW.yi (.bool true) rfl rfl (Yi.pv _ rfl) ?_
          refine RW.yi (.bool true) rfl rfl (Yi.pv _ rfl) ?_
          refine RW.pass rfl rfl ?_
          refine RW.pass rfl rfl ?_
          refine RW.pass rfl rfl ?_
          refine RW.pass rfl rfl ?_
          refine RW.yi (.bool true) rfl rfl (Yi.pv _ rfl) ?_
          refine RW.nil ?_
          refine EW.next ?_
          refine CW.cond_true rfl ?_
          refine CW.seq ?_
          refine CW.region ?_
          refine RW.yi (.bool false) rfl rfl (Yi.pv _ rfl) ?_
          refine RW.nil ?_
          refine EW.next ?_
          refine CW.ret ?_
          refine EW.thr ?_
          obtain rfl := Option.some.inj hm
          exact EW.done (rs := [.tmp 4]) rfl (.tmp (t := 4) (v := .bool false) rfl .nil) (fun _ hM => ⟨rfl, hM.below⟩)
      · replace hm := (if_neg h12).symm.trans hm
        refine RW.yi (.bool true) rfl rfl (Yi.pv _ rfl) ?_
        refine RW.yi (.bool true) rfl rfl (Yi.pv _ rfl) ?_
        refine RW.yi (.bool true) rfl rfl (Yi.pv _ rfl) ?_
        refine RW.pass rfl rfl ?_
        refine RW.pass rfl rfl ?_
        refine RW.pass rfl rfl ?_
        refine RW.pass rfl rfl ?_
        refine RW.yi (.bool true) rfl rfl (Yi.pv _ rfl) ?_
        refine RW.yi (.bool true) rfl rfl (Yi.pv _ rfl) ?_
        refine RW.pass rfl rfl ?_
        refine RW.pass rfl rfl ?_
        refine RW.pass rfl rfl ?_
        refine RW.pass rfl rfl ?_
        refine RW.yi (.bool true) rfl rfl (Yi.pv _ rfl) ?_
        refine RW.yi (.bool true) rfl rfl (Yi.pv _ rfl) ?_
        refine RW.pass rfl rfl ?_
        refine RW.pass rfl rfl ?_
        refine RW.pass rfl rfl ?_
        refine RW.pass rfl rfl ?_
        refine RW.yi (.bool true) rfl rfl (Yi.pv _ rfl) ?_
        refine RW.nil ?_
        refine EW.next ?_
        refine CW.cond_true rfl ?_
        refine CW.seq ?_
        refine CW.region ?_
        refine RW.yi (.bool false) rfl rfl (Yi.pv _ rfl) ?_
        refine RW.nil ?_
        refine EW.next ?_
        refine CW.ret ?_
        refine EW.thr ?_
        obtain rfl := Option.some.inj hm
        exact EW.done (rs := [.tmp 4]) rfl (.tmp (t := 4) (v := .bool false) rfl .nil) (fun _ hM => ⟨rfl, hM.below⟩)
    · replace hm := (if_neg h10).symm.trans hm
      refine RW.yi (.bool true) rfl rfl (Yi.pv _ rfl) ?_
      refine RW.yi (.bool true) rfl rfl (Yi.pv _ rfl) ?_
      refine RW.yi (.bool true) rfl rfl (Yi.pv _ rfl) ?_
      refine RW.pass rfl rfl ?_
      refine RW.pass rfl rfl ?_
      refine RW.pass rfl rfl ?_
      refine RW.pass rfl rfl ?_
      refine RW.yi (.bool true) rfl rfl (Yi.pv _ rfl) ?_
      refine RW.yi (.bool true) rfl rfl (Yi.pv _ rfl) ?_
      refine RW.pass rfl rfl ?_
      refine RW.pass rfl rfl ?_
      refine RW.pass rfl rfl ?_
      refine RW.pass rfl rfl ?_
      refine RW.yi (.bool true) rfl rfl (Yi.pv _ rfl) ?_
      refine RW.yi (.bool true) rfl rfl (Yi.pv _ rfl) ?_
      refine RW.pass rfl rfl ?_
      refine RW.pass rfl rfl ?_
      refine RW.pass rfl rfl ?_
      refine RW.pass rfl rfl ?_
      refine RW.yi (.bool true) rfl rfl (Yi.pv _ rfl) ?_
      refine RW.yi (.bool true) rfl rfl (Yi.pv _ rfl) ?_
      refine RW.pass rfl rfl ?_
      refine RW.pass rfl rfl ?_
      refine RW.pass rfl rfl ?_
      refine RW.pass rfl rfl ?_
      refine RW.yi (.bool true) rfl rfl (Yi.pv _ rfl) ?_
      refine RW.nil ?_
      refine EW.next ?_
      refine CW.cond_true rfl ?_
      refine CW.seq ?_
      refine CW.region ?_
      refine RW.yi (.bool false) rfl rfl (Yi.pv _ rfl) ?_
      refine RW.nil ?_
      refine EW.next ?_
      refine CW.ret ?_
      refine EW.thr ?_
      obtain rfl := Option.some.inj hm
      exact EW.done (rs := [.tmp 4]) rfl (.tmp (t := 4) (v := .bool false) rfl .nil) (fun _ hM => ⟨rfl, hM.below⟩)
  · replace hm := (if_neg h8).symm.trans hm
    refine RW.yi (.bool true) rfl rfl (Yi.pv _ rfl) ?_
    refine RW.yi (.bool true) rfl rfl (Yi.pv _ rfl) ?_
    refine RW.pass rfl rfl ?_
    refine RW.pass rfl rfl ?_
    refine RW.pass rfl rfl ?_
    refine RW.pass rfl rfl ?_
    refine RW.yi (.bool true) rfl rfl (Yi.pv _ rfl) ?_
    refine RW.yi (.bool true) rfl rfl (Yi.pv _ rfl) ?_
    refine RW.pass rfl rfl ?_
    refine RW.pass rfl rfl ?_
    refine RW.pass rfl rfl ?_
    refine RW.pass rfl rfl ?_
    refine RW.yi (.bool true) rfl rfl (Yi.pv _ rfl) ?_
    refine RW.yi (.bool true) rfl rfl (Yi.pv _ rfl) ?_
    refine RW.pass rfl rfl ?_
    refine RW.pass rfl rfl ?_
    refine RW.pass rfl rfl ?_
    refine RW.pass rfl rfl ?_
    refine RW.yi (.bool true) rfl rfl (Yi.pv _ rfl) ?_
    refine RW.yi (.bool true) rfl rfl (Yi.pv _ rfl) ?_
    refine RW.pass rfl rfl ?_
    refine RW.pass rfl rfl ?_
    refine RW.pass rfl rfl ?_
    refine RW.pass rfl rfl ?_
    refine RW.yi (.bool true) rfl rfl (Yi.pv _ rfl) ?_
    refine RW.yi (.bool true) rfl rfl (Yi.pv _ rfl) ?_
    refine RW.pass rfl rfl ?_
    refine RW.pass rfl rfl ?_
    refine RW.pass rfl rfl ?_
    refine RW.pass rfl rfl ?_
    refine RW.yi (.bool true) rfl rfl (Yi.pv _ rfl) ?_
    refine RW.nil ?_
    refine EW.next ?_
    refine CW.cond_true rfl ?_
    refine CW.seq ?_
    refine CW.region ?_
    refine RW.yi (.bool false) rfl rfl (Yi.pv _ rfl) ?_
    refine RW.nil ?_
    refine EW.next ?_
    refine CW.ret ?_
    refine EW.thr ?_
    obtain rfl := Option.some.inj hm
    exact EW.done (rs := [.tmp 4]) rfl (.tmp (t := 4) (v := .bool false) rfl .nil) (fun _ hM => ⟨rfl, hM.below⟩)
end Go.Proofs.Ytplfcapahmjmgaa