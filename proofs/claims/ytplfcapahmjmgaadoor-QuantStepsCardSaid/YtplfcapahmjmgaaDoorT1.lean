import Derived.Test.YtplfcapahmjmgaaDoorQ1
set_option maxRecDepth 100000
namespace Go.Proofs.YtplfcapahmjmgaaDoor
open Go Go.RowKit K
def brightF : Nat → Int := lf [16, 11, 10, 16, 24, 40, 51, 61, 12, 12, 14, 19, 26, 58, 60, 55, 14, 13, 16, 24, 40, 57, 69, 56, 14, 17, 22, 29, 51, 87, 80, 62, 18, 22, 37, 56, 68, 109, 103, 77, 24, 35, 55, 64, 81, 104, 113, 92, 49, 64, 78, 87, 103, 121, 120, 101, 72, 92, 95, 98, 112, 100, 103, 99]
def tintedF : Nat → Int := lf [17, 18, 24, 47, 99, 99, 99, 99, 18, 21, 26, 66, 99, 99, 99, 99, 24, 26, 56, 99, 99, 99, 99, 99, 47, 66, 99, 99, 99, 99, 99, 99, 99, 99, 99, 99, 99, 99, 99, 99, 99, 99, 99, 99, 99, 99, 99, 99, 99, 99, 99, 99, 99, 99, 99, 99, 99, 99, 99, 99, 99, 99, 99, 99]
def GG : List (Nat × Nat × (Nat → Value)) := [(0, 64, iv brightF), (1, 64, iv tintedF)]
def within_j1 (_ : Nat)    : Option (Bool) :=
  some true

def within_l1 (K : Nat) (a0_b : (Nat → Int)) (a1_low : Int) (a2_high : Int) : Nat → Int →  Option (Bool)
  | 0, _ => none
  | k1 + 1, v2 =>
    (if v2 < 64 then (if 0 ≤ v2 ∧ v2 < 64 then (if (a0_b v2.toNat) < a1_low then some false else (if a2_high < (a0_b v2.toNat) then some false else (within_l1 K a0_b a1_low a2_high k1) (w64 (v2 + 1)))) else none) else within_j1 K)

def within (K : Nat) (a0_b : (Nat → Int)) (a1_low : Int) (a2_high : Int) : Option (Bool) :=
  within_l1 K a0_b a1_low a2_high K 0

theorem c_within (K : Nat) (a0_b : (Nat → Int)) (a1_low : Int) (a2_high : Int) (r : Bool) (w0 : World) (hm : within K a0_b a1_low a2_high = some r) : Calls Tryd.prog 21 #[.agg (cf 64 (iv a0_b)), .int .i64 a1_low, .int .i64 a2_high] w0 fun e w' => e = .returned (.bool r) ∧ Below w0.heap.size w0 w' := by
  unfold within at hm
  refine calls_CW (n := 22) w0 [] [] Tryd.func21 rfl rfl rfl (Mem.begin w0) ?_
  refine CW.seq ?_
  refine CW.region ?_
  refine RW.box (v := .agg (cf 64 (iv a0_b))) rfl rfl rfl (fun b1 => ?_)
  refine RW.yi (.bool false) rfl rfl (Yi.pv _ rfl) ?_
  refine RW.nil ?_
  refine EW.next ?_
  refine CW.join (fun a w => St 22 [] a ∧ Mem w0 [] [] w ∧ within_j1 K = some r) ?_ ?_
  · refine CW.seq ?_
    refine CW.region ?_
    refine RW.yi (.agg (cf 64 (iv a0_b))) rfl rfl (Yi.loadW (i := 0) rfl rfl Tryd.isAgg26 Tryd.sizeOf26) ?_
    refine RW.yi (.int .i64 0) rfl rfl (Yi.pv _ rfl) ?_
    refine RW.nil ?_
    refine EW.next ?_
    refine CW.block ?_
    refine CW.loop (fun k a w => ∃ (v2 : Int), St 22 [(1, .int .i64 a1_low), (2, .int .i64 a2_high), (9, .agg (cf 64 (iv a0_b))), (10, .int .i64 v2)] a ∧ Mem w0 [] [] w ∧ within_l1 K a0_b a1_low a2_high k v2 = some r) K ?_ ?_ ?_
    · rintro a w ⟨_, _, _, hm⟩
      rw [within_l1.eq_1] at hm
      cases hm
    · exact fun a w hs hM => ⟨0, hs.sub ⟨rfl, rfl, rfl, rfl, trivial⟩, hM.sub (.cons _ .slnil), hm⟩
    · rintro k1 a w ⟨v2, hs, hM, hm⟩
      rw [within_l1.eq_2] at hm
      refine CW.enter hs hM ?_
      refine CW.seq ?_
      refine CW.region ?_
      refine RW.yi (.bool (decide (v2 < 64))) rfl rfl (Yi.pv _ rfl) ?_
      refine RW.nil ?_
      refine EW.next ?_
      refine CW.seq ?_
      refine CW.fork 11 (v2 < 64) rfl (fun h3 => ?_) (fun h3 => ?_)
      · replace hm := (if_pos h3).symm.trans hm
        refine CW.cond_true rfl ?_
        refine CW.skip ?_
        refine EW.next ?_
        refine CW.seq ?_
        refine CW.block ?_
        refine CW.seq ?_
        refine CW.region ?_
        obtain ⟨g4, hm⟩ := of_guard hm
        refine RW.yi (.int .i64 (a0_b v2.toNat)) rfl rfl (Yi.index _ Tryd.underlying26 Tryd.sizeOf3 Tryd.isAgg3 rfl rfl g4.1 g4.2 (cf_get (by omega))) ?_
        refine RW.yi (.int .i64 (a0_b v2.toNat)) rfl rfl (Yi.pv _ rfl) ?_
        refine RW.nil ?_
        refine EW.next ?_
        refine CW.seq ?_
        refine CW.region ?_
        refine RW.yi (.int .i64 (a0_b v2.toNat)) rfl rfl (Yi.pv _ rfl) ?_
        refine RW.yi (.int .i64 a1_low) rfl rfl (Yi.pv _ rfl) ?_
        refine RW.yi (.bool (decide ((a0_b v2.toNat) < a1_low))) rfl rfl (Yi.pv _ rfl) ?_
        refine RW.yi (.bool (decide ((a0_b v2.toNat) < a1_low))) rfl rfl (Yi.pv _ rfl) ?_
        refine RW.fork 16 ((a0_b v2.toNat) < a1_low) rfl (fun h5 => ?_) (fun h5 => ?_)
        · replace hm := (if_pos h5).symm.trans hm
          refine RW.pass rfl rfl ?_
          refine RW.pass rfl rfl ?_
          refine RW.pass rfl rfl ?_
          refine RW.yi (.bool true) rfl rfl (Yi.pv _ rfl) ?_
          refine RW.nil ?_
          refine EW.next ?_
          refine CW.cond_true rfl ?_
          refine CW.seq ?_
          refine CW.region ?_
          refine RW.yi (.bool false) rfl rfl (Yi.pv _ rfl) ?_
          refine RW.nil ?_
          refine EW.next ?_
          refine CW.ret ?_
          refine EW.blr ?_
          refine EW.thr ?_
          refine EW.thr ?_
          refine EW.blr ?_
          refine EW.thr ?_
          obtain rfl := Option.some.inj hm
          exact EW.done (rs := [.tmp 6]) rfl (.tmp (t := 6) (v := .bool false) rfl .nil) (fun _ hM => ⟨rfl, hM.below⟩)
        · replace hm := (if_neg h5).symm.trans hm
          refine RW.yi (.int .i64 (a0_b v2.toNat)) rfl rfl (Yi.pv _ rfl) ?_
          refine RW.yi (.int .i64 a2_high) rfl rfl (Yi.pv _ rfl) ?_
          refine RW.yi (.bool (decide (a2_high < (a0_b v2.toNat)))) rfl rfl (Yi.pv _ rfl) ?_
          refine RW.yi (.bool (decide (a2_high < (a0_b v2.toNat)))) rfl rfl (Yi.pv _ rfl) ?_
          refine RW.nil ?_
          refine EW.next ?_
          refine CW.fork 20 (a2_high < (a0_b v2.toNat)) rfl (fun h6 => ?_) (fun h6 => ?_)
          · replace hm := (if_pos h6).symm.trans hm
            refine CW.cond_true rfl ?_
            refine CW.seq ?_
            refine CW.region ?_
            refine RW.yi (.bool false) rfl rfl (Yi.pv _ rfl) ?_
            refine RW.nil ?_
            refine EW.next ?_
            refine CW.ret ?_
            refine EW.blr ?_
            refine EW.thr ?_
            refine EW.thr ?_
            refine EW.blr ?_
            refine EW.thr ?_
            obtain rfl := Option.some.inj hm
            exact EW.done (rs := [.tmp 6]) rfl (.tmp (t := 6) (v := .bool false) rfl .nil) (fun _ hM => ⟨rfl, hM.below⟩)
          · replace hm := (if_neg h6).symm.trans hm
            refine CW.cond_false rfl ?_
            refine CW.skip ?_
            refine EW.bln ?_
            refine EW.next ?_
            refine CW.region ?_
            refine RW.yi (.int .i64 (w64 (v2 + 1))) rfl rfl (Yi.pv _ rfl) ?_
            refine RW.yi (.int .i64 (w64 (v2 + 1))) rfl rfl (Yi.pv _ rfl) ?_
            refine RW.nil ?_
            refine EW.thn ?_
            exact fun a w hs hM => ⟨(w64 (v2 + 1)), hs.sub ⟨rfl, rfl, rfl, rfl, trivial⟩, hM.sub .slnil, hm⟩
      · replace hm := (if_neg h3).symm.trans hm
        refine CW.cond_false rfl ?_
        refine CW.exit ?_
        refine EW.thx ?_
        refine EW.thx ?_
        refine EW.blx ?_
        refine EW.thn ?_
        exact fun a w hs hM => ⟨hs.sub trivial, hM.sub .slnil, hm⟩
  · rintro a w ⟨hs, hM, hm⟩
    unfold within_j1 at hm
    refine CW.enter hs hM ?_
    refine CW.seq ?_
    refine CW.region ?_
    refine RW.yi (.bool true) rfl rfl (Yi.pv _ rfl) ?_
    refine RW.nil ?_
    refine EW.next ?_
    refine CW.ret ?_
    obtain rfl := Option.some.inj hm
    exact EW.done (rs := [.tmp 6]) rfl (.tmp (t := 6) (v := .bool true) rfl .nil) (fun _ hM => ⟨rfl, hM.below⟩)
def qRight (K : Nat) (a0_steps : (Nat → Int)) : Option (Bool) :=
  ((within K a0_steps 1 255).bind fun r2 => some r2)

theorem c_qRight (K : Nat) (a0_steps : (Nat → Int)) (r : Bool) (w0 : World) (hm : qRight K a0_steps = some r) : Calls Tryd.prog 14 #[.agg (cf 64 (iv a0_steps))] w0 fun e w' => e = .returned (.bool r) ∧ Below w0.heap.size w0 w' := by
  unfold qRight at hm
  refine calls_CW (n := 5) w0 [] [] Tryd.func14 rfl rfl rfl (Mem.begin w0) ?_
  refine CW.seq ?_
  refine CW.region ?_
  refine RW.box (v := .agg (cf 64 (iv a0_steps))) rfl rfl rfl (fun b1 => ?_)
  refine RW.yi (.bool false) rfl rfl (Yi.pv _ rfl) ?_
  refine RW.nil ?_
  refine EW.next ?_
  refine CW.seq ?_
  refine CW.region ?_
  refine RW.yi (.agg (cf 64 (iv a0_steps))) rfl rfl (Yi.loadW (i := 0) rfl rfl Tryd.isAgg26 Tryd.sizeOf26) ?_
  obtain ⟨r2, hr2, hm⟩ := of_bind hm
  refine RW.ca (.bool r2) rfl rfl (Ca.call rfl rfl Tryd.call21 (fun w _ => c_within K a0_steps 1 255 r2 w hr2)) ?_
  refine RW.yi (.bool r2) rfl rfl (Yi.pv _ rfl) ?_
  refine RW.nil ?_
  refine EW.next ?_
  refine CW.ret ?_
  obtain rfl := Option.some.inj hm
  exact EW.done (rs := [.tmp 2]) rfl (.tmp (t := 2) (v := .bool r2) rfl .nil) (fun _ hM => ⟨rfl, hM.below⟩)
def qSteps_j3 (_ : Nat)   (v7 : (Nat → Int)) : Option ((Nat → Int) × Int) :=
  some (v7, 0)

def qSteps_l1 (K : Nat) (v4 : Int) : Nat → Int → (Nat → Int) →  Option ((Nat → Int) × Int)
  | 0, _, _ => none
  | k1 + 1, v9, v10 =>
    (if v9 < 64 then (if 0 ≤ v9 ∧ v9 < 64 then (qSteps_l1 K v4 k1) (w64 (v9 + 1)) (upd v10 v9.toNat (imin (imax (w64 (Int.tdiv (w64 ((w64 ((v10 v9.toNat) * v4)) + 50)) 100)) 1) 255)) else none) else qSteps_j3 K v10)

def qSteps_j2 (K : Nat)  (v4 : Int) (v6 : (Nat → Int)) : Option ((Nat → Int) × Int) :=
  qSteps_l1 K v4 K 0 v6

def qSteps_j1 (K : Nat)  (a0_colour : Bool) (v4 : Int) : Option ((Nat → Int) × Int) :=
  (if a0_colour = true then qSteps_j2 K v4 tintedF else qSteps_j2 K v4 brightF)

def qSteps (K : Nat) (a0_colour : Bool) (a1_quality : Int) : Option ((Nat → Int) × Int) :=
  (if a1_quality < 1 then some (zf, 2) else (if 100 < a1_quality then some (zf, 2) else (if a1_quality < 50 then (if a1_quality ≠ 0 then qSteps_j1 K a0_colour (w64 (Int.tdiv 5000 a1_quality)) else none) else qSteps_j1 K a0_colour (w64 (200 - (w64 (2 * a1_quality)))))))

theorem c_qSteps (K : Nat) (a0_colour : Bool) (a1_quality : Int) (r : (Nat → Int) × Int) (w0 : World) (hG : Gl GG w0) (hm : qSteps K a0_colour a1_quality = some r) : Calls Tryd.prog 12 #[.bool a0_colour, .int .i64 a1_quality] w0 fun e w' => e = .returned (.tuple #[.agg (cf 64 (iv r.1)), .int .i64 r.2]) ∧ Below w0.heap.size w0 w' := by
  unfold qSteps at hm
  refine calls_CW (n := 42) w0 [] [] Tryd.func12 rfl rfl rfl (Mem.begin w0) ?_
  refine CW.seq ?_
  refine CW.region ?_
  refine RW.alloc (z := .agg (cf 64 (iv zf))) (cf 64 (iv zf)) rfl rfl (fun _ => by kernel_rfl) rfl (fun b1 => ?_)
  refine RW.yi (.int .i64 0) rfl rfl (Yi.pv _ rfl) ?_
  refine RW.nil ?_
  refine EW.next ?_
  refine CW.seq ?_
  refine CW.seq ?_
  refine CW.region ?_
  refine RW.yi (.int .i64 a1_quality) rfl rfl (Yi.pv _ rfl) ?_
  refine RW.yi (.bool (decide (a1_quality < 1))) rfl rfl (Yi.pv _ rfl) ?_
  refine RW.yi (.bool (decide (a1_quality < 1))) rfl rfl (Yi.pv _ rfl) ?_
  refine RW.fork 11 (a1_quality < 1) rfl (fun h2 => ?_) (fun h2 => ?_)
  · replace hm := (if_pos h2).symm.trans hm
    refine RW.pass rfl rfl ?_
    refine RW.pass rfl rfl ?_
    refine RW.yi (.bool true) rfl rfl (Yi.pv _ rfl) ?_
    refine RW.nil ?_
    refine EW.next ?_
    refine CW.cond_true rfl ?_
    refine CW.seq ?_
    refine CW.region ?_
    refine RW.yi (.agg (cf 64 (iv zf))) rfl rfl (Yi.build (vs := []) _ rfl rfl (fun _ => by kernel_rfl)) ?_
    refine RW.storeW (i := 0) (cs' := cf 64 (iv zf)) rfl rfl rfl rfl (by rw [cf_size]; kernel_rfl) (by simp only [cf_size]) (iv_one _ _) ?_
    refine RW.yi (.int .i64 2) rfl rfl (Yi.pv _ rfl) ?_
    refine RW.nil ?_
    refine EW.next ?_
    refine CW.ret ?_
    refine EW.thr ?_
    obtain rfl := Option.some.inj hm
    exact EW.done (rs := [.cell 4 26, .tmp 5]) rfl (.cellW (i := 0) rfl rfl Tryd.isAgg26 Tryd.sizeOf26 (.tmp (t := 5) (v := .int .i64 2) rfl .nil)) (fun _ hM => ⟨rfl, hM.below⟩)
  · replace hm := (if_neg h2).symm.trans hm
    refine RW.yi (.int .i64 a1_quality) rfl rfl (Yi.pv _ rfl) ?_
    refine RW.yi (.bool (decide (100 < a1_quality))) rfl rfl (Yi.pv _ rfl) ?_
    refine RW.yi (.bool (decide (100 < a1_quality))) rfl rfl (Yi.pv _ rfl) ?_
    refine RW.nil ?_
    refine EW.next ?_
    refine CW.fork 14 (100 < a1_quality) rfl (fun h3 => ?_) (fun h3 => ?_)
    · replace hm := (if_pos h3).symm.trans hm
      refine CW.cond_true rfl ?_
      refine CW.seq ?_
      refine CW.region ?_
      refine RW.yi (.agg (cf 64 (iv zf))) rfl rfl (Yi.build (vs := []) _ rfl rfl (fun _ => by kernel_rfl)) ?_
      refine RW.storeW (i := 0) (cs' := cf 64 (iv zf)) rfl rfl rfl rfl (by rw [cf_size]; kernel_rfl) (by simp only [cf_size]) (iv_one _ _) ?_
      refine RW.yi (.int .i64 2) rfl rfl (Yi.pv _ rfl) ?_
      refine RW.nil ?_
      refine EW.next ?_
      refine CW.ret ?_
      refine EW.thr ?_
      obtain rfl := Option.some.inj hm
      exact EW.done (rs := [.cell 4 26, .tmp 5]) rfl (.cellW (i := 0) rfl rfl Tryd.isAgg26 Tryd.sizeOf26 (.tmp (t := 5) (v := .int .i64 2) rfl .nil)) (fun _ hM => ⟨rfl, hM.below⟩)
    · replace hm := (if_neg h3).symm.trans hm
      refine CW.cond_false rfl ?_
      refine CW.skip ?_
      refine EW.next ?_
      refine CW.seq ?_
      refine CW.region ?_
      refine RW.yi (.int .i64 a1_quality) rfl rfl (Yi.pv _ rfl) ?_
      refine RW.yi (.int .i64 (w64 (2 * a1_quality))) rfl rfl (Yi.pv _ rfl) ?_
      refine RW.yi (.int .i64 (w64 (200 - (w64 (2 * a1_quality))))) rfl rfl (Yi.pv _ rfl) ?_
      refine RW.yi (.int .i64 (w64 (200 - (w64 (2 * a1_quality))))) rfl rfl (Yi.pv _ rfl) ?_
      refine RW.nil ?_
      refine EW.next ?_
      refine CW.join (fun a w => ∃ (v4 : Int), St 42 [(0, .bool a0_colour), (4, .pointer (some ⟨b1, 0, none⟩)), (6, .int .i64 v4)] a ∧ Mem w0 [] [.blk b1 26 (cf 64 (iv zf))] w ∧ qSteps_j1 K a0_colour v4 = some r) ?_ ?_
      · refine CW.seq ?_
        refine CW.region ?_
        refine RW.yi (.int .i64 a1_quality) rfl rfl (Yi.pv _ rfl) ?_
        refine RW.yi (.bool (decide (a1_quality < 50))) rfl rfl (Yi.pv _ rfl) ?_
        refine RW.nil ?_
        refine EW.next ?_
        refine CW.fork 20 (a1_quality < 50) rfl (fun h14 => ?_) (fun h14 => ?_)
        · replace hm := (if_pos h14).symm.trans hm
          refine CW.cond_true rfl ?_
          refine CW.region ?_
          refine RW.yi (.int .i64 a1_quality) rfl rfl (Yi.pv _ rfl) ?_
          obtain ⟨g15, hm⟩ := of_guard hm
          refine RW.yi (.int .i64 (w64 (Int.tdiv 5000 a1_quality))) rfl rfl (Yi.quo rfl rfl g15) ?_
          refine RW.yi (.int .i64 (w64 (Int.tdiv 5000 a1_quality))) rfl rfl (Yi.pv _ rfl) ?_
          refine RW.nil ?_
          refine EW.thn ?_
          exact fun a w hs hM => ⟨(w64 (Int.tdiv 5000 a1_quality)), hs.sub ⟨rfl, rfl, rfl, trivial⟩, hM.sub (.cons_cons _ .slnil), hm⟩
        · replace hm := (if_neg h14).symm.trans hm
          refine CW.cond_false rfl ?_
          refine CW.skip ?_
          refine EW.thn ?_
          exact fun a w hs hM => ⟨(w64 (200 - (w64 (2 * a1_quality)))), hs.sub ⟨rfl, rfl, rfl, trivial⟩, hM.sub (.cons_cons _ .slnil), hm⟩
      · rintro a w ⟨v4, hs, hM, hm⟩
        unfold qSteps_j1 at hm
        refine CW.enter hs hM ?_
        refine CW.seq ?_
        refine CW.region ?_
        refine RW.yi (.agg (cf 64 (iv brightF))) rfl rfl (Yi.loadG (i := 0) hG rfl rfl rfl Tryd.isAgg26 Tryd.sizeOf26) ?_
        refine RW.alloc (z := .agg (cf 64 (iv zf))) (cf 64 (iv zf)) rfl rfl (fun _ => by kernel_rfl) rfl (fun b5 => ?_)
        refine RW.storeW (i := 0) (cs' := cf 64 (iv brightF)) rfl rfl rfl rfl (by rw [cf_size]; kernel_rfl) (by simp only [cf_size]) (iv_one _ _) ?_
        refine RW.nil ?_
        refine EW.next ?_
        refine CW.join (fun a w => ∃ (v6 : (Nat → Int)), St 42 [(4, .pointer (some ⟨b1, 0, none⟩)), (6, .int .i64 v4), (7, .pointer (some ⟨b5, 0, none⟩))] a ∧ Mem w0 [] [.blk b5 26 (cf 64 (iv v6)), .blk b1 26 (cf 64 (iv zf))] w ∧ qSteps_j2 K v4 v6 = some r) ?_ ?_
        · refine CW.seq ?_
          refine CW.region ?_
          refine RW.yi (.bool a0_colour) rfl rfl (Yi.pv _ rfl) ?_
          refine RW.nil ?_
          refine EW.next ?_
          refine CW.forkB 24 (a0_colour) rfl (fun h13 => ?_) (fun h13 => ?_)
          · replace hm := (if_pos h13).symm.trans hm
            refine CW.cond_true rfl ?_
            refine CW.region ?_
            refine RW.yi (.agg (cf 64 (iv tintedF))) rfl rfl (Yi.loadG (i := 1) hG rfl rfl rfl Tryd.isAgg26 Tryd.sizeOf26) ?_
            refine RW.storeW (i := 0) (cs' := cf 64 (iv tintedF)) rfl rfl rfl rfl (by rw [cf_size]; kernel_rfl) (by simp only [cf_size]) (iv_one _ _) ?_
            refine RW.nil ?_
            refine EW.thn ?_
            exact fun a w hs hM => ⟨tintedF, hs.sub ⟨rfl, rfl, rfl, trivial⟩, hM.sub (.cons_cons _ (.cons_cons _ .slnil)), hm⟩
          · replace hm := (if_neg h13).symm.trans hm
            refine CW.cond_false rfl ?_
            refine CW.skip ?_
            refine EW.thn ?_
            exact fun a w hs hM => ⟨brightF, hs.sub ⟨rfl, rfl, rfl, trivial⟩, hM.sub (.cons_cons _ (.cons_cons _ .slnil)), hm⟩
        · rintro a w ⟨v6, hs, hM, hm⟩
          unfold qSteps_j2 at hm
          refine CW.enter hs hM ?_
          refine CW.join (fun a w => ∃ (v7 : (Nat → Int)), St 42 [(4, .pointer (some ⟨b1, 0, none⟩)), (7, .pointer (some ⟨b5, 0, none⟩))] a ∧ Mem w0 [] [.blk b5 26 (cf 64 (iv v7)), .blk b1 26 (cf 64 (iv zf))] w ∧ qSteps_j3 K v7 = some r) ?_ ?_
          · refine CW.seq ?_
            refine CW.region ?_
            refine RW.yi (.int .i64 0) rfl rfl (Yi.pv _ rfl) ?_
            refine RW.nil ?_
            refine EW.next ?_
            refine CW.block ?_
            refine CW.loop (fun k a w => ∃ (v9 : Int) (v10 : (Nat → Int)), St 42 [(4, .pointer (some ⟨b1, 0, none⟩)), (6, .int .i64 v4), (7, .pointer (some ⟨b5, 0, none⟩)), (26, .int .i64 v9)] a ∧ Mem w0 [] [.blk b5 26 (cf 64 (iv v10)), .blk b1 26 (cf 64 (iv zf))] w ∧ qSteps_l1 K v4 k v9 v10 = some r) K ?_ ?_ ?_
            · rintro a w ⟨_, _, _, _, hm⟩
              rw [qSteps_l1.eq_1] at hm
              cases hm
            · exact fun a w hs hM => ⟨0, v6, hs.sub ⟨rfl, rfl, rfl, rfl, trivial⟩, hM.sub (.cons_cons _ (.cons_cons _ .slnil)), hm⟩
            · rintro k1 a w ⟨v9, v10, hs, hM, hm⟩
              rw [qSteps_l1.eq_2] at hm
              refine CW.enter hs hM ?_
              refine CW.seq ?_
              refine CW.region ?_
              refine RW.yi (.bool (decide (v9 < 64))) rfl rfl (Yi.pv _ rfl) ?_
              refine RW.nil ?_
              refine EW.next ?_
              refine CW.seq ?_
              refine CW.fork 27 (v9 < 64) rfl (fun h11 => ?_) (fun h11 => ?_)
              · replace hm := (if_pos h11).symm.trans hm
                refine CW.cond_true rfl ?_
                refine CW.skip ?_
                refine EW.next ?_
                refine CW.seq ?_
                refine CW.block ?_
                refine CW.seq ?_
                refine CW.region ?_
                refine RW.yi (.int .i64 v9) rfl rfl (Yi.pv _ rfl) ?_
                refine RW.yi (.int .i64 v9) rfl rfl (Yi.pv _ rfl) ?_
                refine RW.nil ?_
                refine EW.next ?_
                refine CW.region ?_
                refine RW.yi (.int .i64 v9) rfl rfl (Yi.pv _ rfl) ?_
                refine RW.yi (.int .i64 v9) rfl rfl (Yi.pv _ rfl) ?_
                obtain ⟨g12, hm⟩ := of_guard hm
                refine RW.yi (.pointer (some ⟨b5, v9.toNat, none⟩)) rfl rfl (Yi.indexAddr' _ Tryd.underlying26 Tryd.sizeOf3 rfl rfl g12.1 g12.2 (by omega)) ?_
                refine RW.yi (.int .i64 (v10 v9.toNat)) rfl rfl (Yi.load1 (i := 0) _ rfl rfl Tryd.isAgg3 (cf_get (by omega))) ?_
                refine RW.yi (.int .i64 v4) rfl rfl (Yi.pv _ rfl) ?_
                refine RW.yi (.int .i64 (w64 ((v10 v9.toNat) * v4))) rfl rfl (Yi.pv _ rfl) ?_
                refine RW.yi (.int .i64 (w64 ((w64 ((v10 v9.toNat) * v4)) + 50))) rfl rfl (Yi.pv _ rfl) ?_
                refine RW.yi (.int .i64 (w64 (Int.tdiv (w64 ((w64 ((v10 v9.toNat) * v4)) + 50)) 100))) rfl rfl (Yi.quo rfl rfl (by decide)) ?_
                refine RW.yi (.int .i64 (imax (w64 (Int.tdiv (w64 ((w64 ((v10 v9.toNat) * v4)) + 50)) 100)) 1)) rfl rfl (Yi.max rfl rfl) ?_
                refine RW.yi (.int .i64 (imin (imax (w64 (Int.tdiv (w64 ((w64 ((v10 v9.toNat) * v4)) + 50)) 100)) 1) 255)) rfl rfl (Yi.min rfl rfl) ?_
                refine RW.yi (.pointer (some ⟨b5, v9.toNat, none⟩)) rfl rfl (Yi.indexAddr' _ Tryd.underlying26 Tryd.sizeOf3 rfl rfl g12.1 g12.2 (by omega)) ?_
                refine RW.store1 (i := 0) (cs' := cf 64 (iv (upd v10 v9.toNat (imin (imax (w64 (Int.tdiv (w64 ((w64 ((v10 v9.toNat) * v4)) + 50)) 100)) 1) 255)))) rfl rfl rfl rfl Tryd.sizeOf3 rfl rfl (by rw [cf_size]; omega) (by rw [cf_set, iv_upd]) ?_
                refine RW.nil ?_
                refine EW.bln ?_
                refine EW.next ?_
                refine CW.region ?_
                refine RW.yi (.int .i64 (w64 (v9 + 1))) rfl rfl (Yi.pv _ rfl) ?_
                refine RW.yi (.int .i64 (w64 (v9 + 1))) rfl rfl (Yi.pv _ rfl) ?_
                refine RW.nil ?_
                refine EW.thn ?_
                exact fun a w hs hM => ⟨(w64 (v9 + 1)), (upd v10 v9.toNat (imin (imax (w64 (Int.tdiv (w64 ((w64 ((v10 v9.toNat) * v4)) + 50)) 100)) 1) 255)), hs.sub ⟨rfl, rfl, rfl, rfl, trivial⟩, hM.sub (.cons_cons _ (.cons_cons _ .slnil)), hm⟩
              · replace hm := (if_neg h11).symm.trans hm
                refine CW.cond_false rfl ?_
                refine CW.exit ?_
                refine EW.thx ?_
                refine EW.thx ?_
                refine EW.blx ?_
                refine EW.thn ?_
                exact fun a w hs hM => ⟨v10, hs.sub ⟨rfl, rfl, trivial⟩, hM.sub (.cons_cons _ (.cons_cons _ .slnil)), hm⟩
          · rintro a w ⟨v7, hs, hM, hm⟩
            unfold qSteps_j3 at hm
            refine CW.enter hs hM ?_
            refine CW.seq ?_
            refine CW.region ?_
            refine RW.yi (.agg (cf 64 (iv v7))) rfl rfl (Yi.loadW (i := 0) rfl rfl Tryd.isAgg26 Tryd.sizeOf26) ?_
            refine RW.storeW (i := 1) (cs' := cf 64 (iv v7)) rfl rfl rfl rfl (by rw [cf_size]; kernel_rfl) (by simp only [cf_size]) (iv_one _ _) ?_
            refine RW.yi (.int .i64 0) rfl rfl (Yi.pv _ rfl) ?_
            refine RW.nil ?_
            refine EW.next ?_
            refine CW.ret ?_
            obtain rfl := Option.some.inj hm
            exact EW.done (rs := [.cell 4 26, .tmp 5]) rfl (.cellW (i := 1) rfl rfl Tryd.isAgg26 Tryd.sizeOf26 (.tmp (t := 5) (v := .int .i64 0) rfl .nil)) (fun _ hM => ⟨rfl, hM.below⟩)
def qDown_j1 (_ : Nat)   (v8 : (Nat → Int)) : Option ((Nat → Int) × Int) :=
  some (v8, 0)

def qDown_l1 (K : Nat) (a0_b : (Nat → Int)) (a1_steps : (Nat → Int)) : Nat → Int → (Nat → Int) →  Option ((Nat → Int) × Int)
  | 0, _, _ => none
  | k1 + 1, v10, v11 =>
    (if v10 < 64 then (if 0 ≤ v10 ∧ v10 < 64 then (qDown_l1 K a0_b a1_steps k1) (w64 (v10 + 1)) (upd v11 v10.toNat (imin (imax (rnd (a0_b v10.toNat) (a1_steps v10.toNat)) (-1023)) 1023)) else none) else qDown_j1 K v11)

def qDown (K : Nat) (a0_b : (Nat → Int)) (a1_steps : (Nat → Int)) : Option ((Nat → Int) × Int) :=
  ((qRight K a1_steps).bind fun r4 => (if r4 = true then ((within K a0_b (-16777216) 16777216).bind fun r6 => (if r6 = true then qDown_l1 K a0_b a1_steps K 0 a0_b else some (zf, 2))) else some (zf, 1)))

theorem c_qDown (K : Nat) (a0_b : (Nat → Int)) (a1_steps : (Nat → Int)) (r : (Nat → Int) × Int) (w0 : World) (hm : qDown K a0_b a1_steps = some r) : Calls Tryd.prog 16 #[.agg (cf 64 (iv a0_b)), .agg (cf 64 (iv a1_steps))] w0 fun e w' => e = .returned (.tuple #[.agg (cf 64 (iv r.1)), .int .i64 r.2]) ∧ Below w0.heap.size w0 w' := by
  unfold qDown at hm
  refine calls_CW (n := 32) w0 [] [] Tryd.func16 rfl rfl rfl (Mem.begin w0) ?_
  refine CW.seq ?_
  refine CW.region ?_
  refine RW.box (v := .agg (cf 64 (iv a0_b))) rfl rfl rfl (fun b1 => ?_)
  refine RW.box (v := .agg (cf 64 (iv a1_steps))) rfl rfl rfl (fun b2 => ?_)
  refine RW.alloc (z := .agg (cf 64 (iv zf))) (cf 64 (iv zf)) rfl rfl (fun _ => by kernel_rfl) rfl (fun b3 => ?_)
  refine RW.yi (.int .i64 0) rfl rfl (Yi.pv _ rfl) ?_
  refine RW.nil ?_
  refine EW.next ?_
  refine CW.seq ?_
  refine CW.seq ?_
  refine CW.region ?_
  refine RW.yi (.agg (cf 64 (iv a1_steps))) rfl rfl (Yi.loadW (i := 1) rfl rfl Tryd.isAgg26 Tryd.sizeOf26) ?_
  obtain ⟨r4, hr4, hm⟩ := of_bind hm
  refine RW.ca (.bool r4) rfl rfl (Ca.call rfl rfl Tryd.call14 (fun w _ => c_qRight K a1_steps r4 w hr4)) ?_
  refine RW.forkB 9 (r4) rfl (fun h5 => ?_) (fun h5 => ?_)
  · replace hm := (if_pos h5).symm.trans hm
    refine RW.yi (.bool false) rfl rfl (Yi.pv _ rfl) ?_
    refine RW.nil ?_
    refine EW.next ?_
    refine CW.cond_false rfl ?_
    refine CW.skip ?_
    refine EW.next ?_
    refine CW.seq ?_
    refine CW.seq ?_
    refine CW.region ?_
    refine RW.yi (.agg (cf 64 (iv a0_b))) rfl rfl (Yi.loadW (i := 2) rfl rfl Tryd.isAgg26 Tryd.sizeOf26) ?_
    obtain ⟨r6, hr6, hm⟩ := of_bind hm
    refine RW.ca (.bool r6) rfl rfl (Ca.call rfl rfl Tryd.call21 (fun w _ => c_within K a0_b (-16777216) 16777216 r6 w hr6)) ?_
    refine RW.forkB 13 (r6) rfl (fun h7 => ?_) (fun h7 => ?_)
    · replace hm := (if_pos h7).symm.trans hm
      refine RW.yi (.bool false) rfl rfl (Yi.pv _ rfl) ?_
      refine RW.nil ?_
      refine EW.next ?_
      refine CW.cond_false rfl ?_
      refine CW.skip ?_
      refine EW.next ?_
      refine CW.join (fun a w => ∃ (v8 : (Nat → Int)), St 32 [(2, .pointer (some ⟨b1, 0, none⟩)), (4, .pointer (some ⟨b3, 0, none⟩))] a ∧ Mem w0 [] [.blk b3 26 (cf 64 (iv zf)), .blk b1 26 (cf 64 (iv v8))] w ∧ qDown_j1 K v8 = some r) ?_ ?_
      · refine CW.seq ?_
        refine CW.region ?_
        refine RW.yi (.agg (cf 64 (iv a0_b))) rfl rfl (Yi.loadW (i := 2) rfl rfl Tryd.isAgg26 Tryd.sizeOf26) ?_
        refine RW.yi (.int .i64 0) rfl rfl (Yi.pv _ rfl) ?_
        refine RW.nil ?_
        refine EW.next ?_
        refine CW.block ?_
        refine CW.loop (fun k a w => ∃ (v10 : Int) (v11 : (Nat → Int)), St 32 [(2, .pointer (some ⟨b1, 0, none⟩)), (3, .pointer (some ⟨b2, 0, none⟩)), (4, .pointer (some ⟨b3, 0, none⟩)), (16, .agg (cf 64 (iv a0_b))), (17, .int .i64 v10)] a ∧ Mem w0 [] [.blk b3 26 (cf 64 (iv zf)), .blk b2 26 (cf 64 (iv a1_steps)), .blk b1 26 (cf 64 (iv v11))] w ∧ qDown_l1 K a0_b a1_steps k v10 v11 = some r) K ?_ ?_ ?_
        · rintro a w ⟨_, _, _, _, hm⟩
          rw [qDown_l1.eq_1] at hm
          cases hm
        · exact fun a w hs hM => ⟨0, a0_b, hs.sub ⟨rfl, rfl, rfl, rfl, rfl, trivial⟩, hM.sub (.cons_cons _ (.cons_cons _ (.cons_cons _ .slnil))), hm⟩
        · rintro k1 a w ⟨v10, v11, hs, hM, hm⟩
          rw [qDown_l1.eq_2] at hm
          refine CW.enter hs hM ?_
          refine CW.seq ?_
          refine CW.region ?_
          refine RW.yi (.bool (decide (v10 < 64))) rfl rfl (Yi.pv _ rfl) ?_
          refine RW.nil ?_
          refine EW.next ?_
          refine CW.seq ?_
          refine CW.fork 18 (v10 < 64) rfl (fun h12 => ?_) (fun h12 => ?_)
          · replace hm := (if_pos h12).symm.trans hm
            refine CW.cond_true rfl ?_
            refine CW.skip ?_
            refine EW.next ?_
            refine CW.seq ?_
            refine CW.block ?_
            refine CW.seq ?_
            refine CW.region ?_
            refine RW.yi (.int .i64 v10) rfl rfl (Yi.pv _ rfl) ?_
            obtain ⟨g13, hm⟩ := of_guard hm
            refine RW.yi (.int .i64 (a0_b v10.toNat)) rfl rfl (Yi.index _ Tryd.underlying26 Tryd.sizeOf3 Tryd.isAgg3 rfl rfl g13.1 g13.2 (cf_get (by omega))) ?_
            refine RW.yi (.int .i64 v10) rfl rfl (Yi.pv _ rfl) ?_
            refine RW.yi (.int .i64 (a0_b v10.toNat)) rfl rfl (Yi.pv _ rfl) ?_
            refine RW.nil ?_
            refine EW.next ?_
            refine CW.region ?_
            refine RW.yi (.int .i64 v10) rfl rfl (Yi.pv _ rfl) ?_
            refine RW.yi (.int .i64 (a0_b v10.toNat)) rfl rfl (Yi.pv _ rfl) ?_
            refine RW.yi (.int .i64 v10) rfl rfl (Yi.pv _ rfl) ?_
            refine RW.yi (.pointer (some ⟨b2, v10.toNat, none⟩)) rfl rfl (Yi.indexAddr' _ Tryd.underlying26 Tryd.sizeOf3 rfl rfl g13.1 g13.2 (by omega)) ?_
            refine RW.yi (.int .i64 (a1_steps v10.toNat)) rfl rfl (Yi.load1 (i := 1) _ rfl rfl Tryd.isAgg3 (cf_get (by omega))) ?_
            refine RW.ca (.int .i64 (rnd (a0_b v10.toNat) (a1_steps v10.toNat))) rfl rfl (Ca.call rfl rfl Tryd.call9 (fun w _ => c_Round (a0_b v10.toNat) (a1_steps v10.toNat) w)) ?_
            refine RW.yi (.int .i64 (imax (rnd (a0_b v10.toNat) (a1_steps v10.toNat)) (-1023))) rfl rfl (Yi.max rfl rfl) ?_
            refine RW.yi (.int .i64 (imin (imax (rnd (a0_b v10.toNat) (a1_steps v10.toNat)) (-1023)) 1023)) rfl rfl (Yi.min rfl rfl) ?_
            refine RW.yi (.pointer (some ⟨b1, v10.toNat, none⟩)) rfl rfl (Yi.indexAddr' _ Tryd.underlying26 Tryd.sizeOf3 rfl rfl g13.1 g13.2 (by omega)) ?_
            refine RW.store1 (i := 2) (cs' := cf 64 (iv (upd v11 v10.toNat (imin (imax (rnd (a0_b v10.toNat) (a1_steps v10.toNat)) (-1023)) 1023)))) rfl rfl rfl rfl Tryd.sizeOf3 rfl rfl (by rw [cf_size]; omega) (by rw [cf_set, iv_upd]) ?_
            refine RW.nil ?_
            refine EW.bln ?_
            refine EW.next ?_
            refine CW.region ?_
            refine RW.yi (.int .i64 (w64 (v10 + 1))) rfl rfl (Yi.pv _ rfl) ?_
            refine RW.yi (.int .i64 (w64 (v10 + 1))) rfl rfl (Yi.pv _ rfl) ?_
            refine RW.nil ?_
            refine EW.thn ?_
            exact fun a w hs hM => ⟨(w64 (v10 + 1)), (upd v11 v10.toNat (imin (imax (rnd (a0_b v10.toNat) (a1_steps v10.toNat)) (-1023)) 1023)), hs.sub ⟨rfl, rfl, rfl, rfl, rfl, trivial⟩, hM.sub (.cons_cons _ (.cons_cons _ (.cons_cons _ .slnil))), hm⟩
          · replace hm := (if_neg h12).symm.trans hm
            refine CW.cond_false rfl ?_
            refine CW.exit ?_
            refine EW.thx ?_
            refine EW.thx ?_
            refine EW.blx ?_
            refine EW.thn ?_
            exact fun a w hs hM => ⟨v11, hs.sub ⟨rfl, rfl, trivial⟩, hM.sub (.cons_cons _ (.cons _ (.cons_cons _ .slnil))), hm⟩
      · rintro a w ⟨v8, hs, hM, hm⟩
        unfold qDown_j1 at hm
        refine CW.enter hs hM ?_
        refine CW.seq ?_
        refine CW.region ?_
        refine RW.yi (.agg (cf 64 (iv v8))) rfl rfl (Yi.loadW (i := 1) rfl rfl Tryd.isAgg26 Tryd.sizeOf26) ?_
        refine RW.storeW (i := 0) (cs' := cf 64 (iv v8)) rfl rfl rfl rfl (by rw [cf_size]; kernel_rfl) (by simp only [cf_size]) (iv_one _ _) ?_
        refine RW.yi (.int .i64 0) rfl rfl (Yi.pv _ rfl) ?_
        refine RW.nil ?_
        refine EW.next ?_
        refine CW.ret ?_
        obtain rfl := Option.some.inj hm
        exact EW.done (rs := [.cell 4 26, .tmp 5]) rfl (.cellW (i := 0) rfl rfl Tryd.isAgg26 Tryd.sizeOf26 (.tmp (t := 5) (v := .int .i64 0) rfl .nil)) (fun _ hM => ⟨rfl, hM.below⟩)
    · replace hm := (if_neg h7).symm.trans hm
      refine RW.yi (.bool true) rfl rfl (Yi.pv _ rfl) ?_
      refine RW.nil ?_
      refine EW.next ?_
      refine CW.cond_true rfl ?_
      refine CW.seq ?_
      refine CW.region ?_
      refine RW.yi (.agg (cf 64 (iv zf))) rfl rfl (Yi.build (vs := []) _ rfl rfl (fun _ => by kernel_rfl)) ?_
      refine RW.storeW (i := 0) (cs' := cf 64 (iv zf)) rfl rfl rfl rfl (by rw [cf_size]; kernel_rfl) (by simp only [cf_size]) (iv_one _ _) ?_
      refine RW.yi (.int .i64 2) rfl rfl (Yi.pv _ rfl) ?_
      refine RW.nil ?_
      refine EW.next ?_
      refine CW.ret ?_
      refine EW.thr ?_
      obtain rfl := Option.some.inj hm
      exact EW.done (rs := [.cell 4 26, .tmp 5]) rfl (.cellW (i := 0) rfl rfl Tryd.isAgg26 Tryd.sizeOf26 (.tmp (t := 5) (v := .int .i64 2) rfl .nil)) (fun _ hM => ⟨rfl, hM.below⟩)
  · replace hm := (if_neg h5).symm.trans hm
    refine RW.yi (.bool true) rfl rfl (Yi.pv _ rfl) ?_
    refine RW.nil ?_
    refine EW.next ?_
    refine CW.cond_true rfl ?_
    refine CW.seq ?_
    refine CW.region ?_
    refine RW.yi (.agg (cf 64 (iv zf))) rfl rfl (Yi.build (vs := []) _ rfl rfl (fun _ => by kernel_rfl)) ?_
    refine RW.storeW (i := 0) (cs' := cf 64 (iv zf)) rfl rfl rfl rfl (by rw [cf_size]; kernel_rfl) (by simp only [cf_size]) (iv_one _ _) ?_
    refine RW.yi (.int .i64 1) rfl rfl (Yi.pv _ rfl) ?_
    refine RW.nil ?_
    refine EW.next ?_
    refine CW.ret ?_
    refine EW.thr ?_
    obtain rfl := Option.some.inj hm
    exact EW.done (rs := [.cell 4 26, .tmp 5]) rfl (.cellW (i := 0) rfl rfl Tryd.isAgg26 Tryd.sizeOf26 (.tmp (t := 5) (v := .int .i64 1) rfl .nil)) (fun _ hM => ⟨rfl, hM.below⟩)
def qUp_j1 (_ : Nat)   (v8 : (Nat → Int)) : Option ((Nat → Int) × Int) :=
  some (v8, 0)

def qUp_l1 (K : Nat) (a1_steps : (Nat → Int)) : Nat → Int → (Nat → Int) →  Option ((Nat → Int) × Int)
  | 0, _, _ => none
  | k1 + 1, v10, v11 =>
    (if v10 < 64 then (if 0 ≤ v10 ∧ v10 < 64 then (qUp_l1 K a1_steps k1) (w64 (v10 + 1)) (upd v11 v10.toNat (w64 ((v11 v10.toNat) * (a1_steps v10.toNat)))) else none) else qUp_j1 K v11)

def qUp (K : Nat) (a0_b : (Nat → Int)) (a1_steps : (Nat → Int)) : Option ((Nat → Int) × Int) :=
  ((qRight K a1_steps).bind fun r4 => (if r4 = true then ((within K a0_b (-1023) 1023).bind fun r6 => (if r6 = true then qUp_l1 K a1_steps K 0 a0_b else some (zf, 2))) else some (zf, 1)))

theorem c_qUp (K : Nat) (a0_b : (Nat → Int)) (a1_steps : (Nat → Int)) (r : (Nat → Int) × Int) (w0 : World) (hm : qUp K a0_b a1_steps = some r) : Calls Tryd.prog 18 #[.agg (cf 64 (iv a0_b)), .agg (cf 64 (iv a1_steps))] w0 fun e w' => e = .returned (.tuple #[.agg (cf 64 (iv r.1)), .int .i64 r.2]) ∧ Below w0.heap.size w0 w' := by
  unfold qUp at hm
  refine calls_CW (n := 29) w0 [] [] Tryd.func18 rfl rfl rfl (Mem.begin w0) ?_
  refine CW.seq ?_
  refine CW.region ?_
  refine RW.box (v := .agg (cf 64 (iv a0_b))) rfl rfl rfl (fun b1 => ?_)
  refine RW.box (v := .agg (cf 64 (iv a1_steps))) rfl rfl rfl (fun b2 => ?_)
  refine RW.alloc (z := .agg (cf 64 (iv zf))) (cf 64 (iv zf)) rfl rfl (fun _ => by kernel_rfl) rfl (fun b3 => ?_)
  refine RW.yi (.int .i64 0) rfl rfl (Yi.pv _ rfl) ?_
  refine RW.nil ?_
  refine EW.next ?_
  refine CW.seq ?_
  refine CW.seq ?_
  refine CW.region ?_
  refine RW.yi (.agg (cf 64 (iv a1_steps))) rfl rfl (Yi.loadW (i := 1) rfl rfl Tryd.isAgg26 Tryd.sizeOf26) ?_
  obtain ⟨r4, hr4, hm⟩ := of_bind hm
  refine RW.ca (.bool r4) rfl rfl (Ca.call rfl rfl Tryd.call14 (fun w _ => c_qRight K a1_steps r4 w hr4)) ?_
  refine RW.forkB 9 (r4) rfl (fun h5 => ?_) (fun h5 => ?_)
  · replace hm := (if_pos h5).symm.trans hm
    refine RW.yi (.bool false) rfl rfl (Yi.pv _ rfl) ?_
    refine RW.nil ?_
    refine EW.next ?_
    refine CW.cond_false rfl ?_
    refine CW.skip ?_
    refine EW.next ?_
    refine CW.seq ?_
    refine CW.seq ?_
    refine CW.region ?_
    refine RW.yi (.agg (cf 64 (iv a0_b))) rfl rfl (Yi.loadW (i := 2) rfl rfl Tryd.isAgg26 Tryd.sizeOf26) ?_
    obtain ⟨r6, hr6, hm⟩ := of_bind hm
    refine RW.ca (.bool r6) rfl rfl (Ca.call rfl rfl Tryd.call21 (fun w _ => c_within K a0_b (-1023) 1023 r6 w hr6)) ?_
    refine RW.forkB 13 (r6) rfl (fun h7 => ?_) (fun h7 => ?_)
    · replace hm := (if_pos h7).symm.trans hm
      refine RW.yi (.bool false) rfl rfl (Yi.pv _ rfl) ?_
      refine RW.nil ?_
      refine EW.next ?_
      refine CW.cond_false rfl ?_
      refine CW.skip ?_
      refine EW.next ?_
      refine CW.join (fun a w => ∃ (v8 : (Nat → Int)), St 29 [(2, .pointer (some ⟨b1, 0, none⟩)), (4, .pointer (some ⟨b3, 0, none⟩))] a ∧ Mem w0 [] [.blk b3 26 (cf 64 (iv zf)), .blk b1 26 (cf 64 (iv v8))] w ∧ qUp_j1 K v8 = some r) ?_ ?_
      · refine CW.seq ?_
        refine CW.region ?_
        refine RW.yi (.agg (cf 64 (iv a1_steps))) rfl rfl (Yi.loadW (i := 1) rfl rfl Tryd.isAgg26 Tryd.sizeOf26) ?_
        refine RW.yi (.int .i64 0) rfl rfl (Yi.pv _ rfl) ?_
        refine RW.nil ?_
        refine EW.next ?_
        refine CW.block ?_
        refine CW.loop (fun k a w => ∃ (v10 : Int) (v11 : (Nat → Int)), St 29 [(2, .pointer (some ⟨b1, 0, none⟩)), (4, .pointer (some ⟨b3, 0, none⟩)), (16, .agg (cf 64 (iv a1_steps))), (17, .int .i64 v10)] a ∧ Mem w0 [] [.blk b3 26 (cf 64 (iv zf)), .blk b1 26 (cf 64 (iv v11))] w ∧ qUp_l1 K a1_steps k v10 v11 = some r) K ?_ ?_ ?_
        · rintro a w ⟨_, _, _, _, hm⟩
          rw [qUp_l1.eq_1] at hm
          cases hm
        · exact fun a w hs hM => ⟨0, a0_b, hs.sub ⟨rfl, rfl, rfl, rfl, trivial⟩, hM.sub (.cons_cons _ (.cons _ (.cons_cons _ .slnil))), hm⟩
        · rintro k1 a w ⟨v10, v11, hs, hM, hm⟩
          rw [qUp_l1.eq_2] at hm
          refine CW.enter hs hM ?_
          refine CW.seq ?_
          refine CW.region ?_
          refine RW.yi (.bool (decide (v10 < 64))) rfl rfl (Yi.pv _ rfl) ?_
          refine RW.nil ?_
          refine EW.next ?_
          refine CW.seq ?_
          refine CW.fork 18 (v10 < 64) rfl (fun h12 => ?_) (fun h12 => ?_)
          · replace hm := (if_pos h12).symm.trans hm
            refine CW.cond_true rfl ?_
            refine CW.skip ?_
            refine EW.next ?_
            refine CW.seq ?_
            refine CW.block ?_
            refine CW.seq ?_
            refine CW.region ?_
            refine RW.yi (.int .i64 v10) rfl rfl (Yi.pv _ rfl) ?_
            obtain ⟨g13, hm⟩ := of_guard hm
            refine RW.yi (.int .i64 (a1_steps v10.toNat)) rfl rfl (Yi.index _ Tryd.underlying26 Tryd.sizeOf3 Tryd.isAgg3 rfl rfl g13.1 g13.2 (cf_get (by omega))) ?_
            refine RW.yi (.int .i64 v10) rfl rfl (Yi.pv _ rfl) ?_
            refine RW.yi (.int .i64 (a1_steps v10.toNat)) rfl rfl (Yi.pv _ rfl) ?_
            refine RW.nil ?_
            refine EW.next ?_
            refine CW.region ?_
            refine RW.yi (.int .i64 v10) rfl rfl (Yi.pv _ rfl) ?_
            refine RW.yi (.pointer (some ⟨b1, v10.toNat, none⟩)) rfl rfl (Yi.indexAddr' _ Tryd.underlying26 Tryd.sizeOf3 rfl rfl g13.1 g13.2 (by omega)) ?_
            refine RW.yi (.int .i64 (v11 v10.toNat)) rfl rfl (Yi.load1 (i := 1) _ rfl rfl Tryd.isAgg3 (cf_get (by omega))) ?_
            refine RW.yi (.int .i64 (a1_steps v10.toNat)) rfl rfl (Yi.pv _ rfl) ?_
            refine RW.yi (.int .i64 (w64 ((v11 v10.toNat) * (a1_steps v10.toNat)))) rfl rfl (Yi.pv _ rfl) ?_
            refine RW.yi (.pointer (some ⟨b1, v10.toNat, none⟩)) rfl rfl (Yi.indexAddr' _ Tryd.underlying26 Tryd.sizeOf3 rfl rfl g13.1 g13.2 (by omega)) ?_
            refine RW.store1 (i := 1) (cs' := cf 64 (iv (upd v11 v10.toNat (w64 ((v11 v10.toNat) * (a1_steps v10.toNat)))))) rfl rfl rfl rfl Tryd.sizeOf3 rfl rfl (by rw [cf_size]; omega) (by rw [cf_set, iv_upd]) ?_
            refine RW.nil ?_
            refine EW.bln ?_
            refine EW.next ?_
            refine CW.region ?_
            refine RW.yi (.int .i64 (w64 (v10 + 1))) rfl rfl (Yi.pv _ rfl) ?_
            refine RW.yi (.int .i64 (w64 (v10 + 1))) rfl rfl (Yi.pv _ rfl) ?_
            refine RW.nil ?_
            refine EW.thn ?_
            exact fun a w hs hM => ⟨(w64 (v10 + 1)), (upd v11 v10.toNat (w64 ((v11 v10.toNat) * (a1_steps v10.toNat)))), hs.sub ⟨rfl, rfl, rfl, rfl, trivial⟩, hM.sub (.cons_cons _ (.cons_cons _ .slnil)), hm⟩
          · replace hm := (if_neg h12).symm.trans hm
            refine CW.cond_false rfl ?_
            refine CW.exit ?_
            refine EW.thx ?_
            refine EW.thx ?_
            refine EW.blx ?_
            refine EW.thn ?_
            exact fun a w hs hM => ⟨v11, hs.sub ⟨rfl, rfl, trivial⟩, hM.sub (.cons_cons _ (.cons_cons _ .slnil)), hm⟩
      · rintro a w ⟨v8, hs, hM, hm⟩
        unfold qUp_j1 at hm
        refine CW.enter hs hM ?_
        refine CW.seq ?_
        refine CW.region ?_
        refine RW.yi (.agg (cf 64 (iv v8))) rfl rfl (Yi.loadW (i := 1) rfl rfl Tryd.isAgg26 Tryd.sizeOf26) ?_
        refine RW.storeW (i := 0) (cs' := cf 64 (iv v8)) rfl rfl rfl rfl (by rw [cf_size]; kernel_rfl) (by simp only [cf_size]) (iv_one _ _) ?_
        refine RW.yi (.int .i64 0) rfl rfl (Yi.pv _ rfl) ?_
        refine RW.nil ?_
        refine EW.next ?_
        refine CW.ret ?_
        obtain rfl := Option.some.inj hm
        exact EW.done (rs := [.cell 4 26, .tmp 5]) rfl (.cellW (i := 0) rfl rfl Tryd.isAgg26 Tryd.sizeOf26 (.tmp (t := 5) (v := .int .i64 0) rfl .nil)) (fun _ hM => ⟨rfl, hM.below⟩)
    · replace hm := (if_neg h7).symm.trans hm
      refine RW.yi (.bool true) rfl rfl (Yi.pv _ rfl) ?_
      refine RW.nil ?_
      refine EW.next ?_
      refine CW.cond_true rfl ?_
      refine CW.seq ?_
      refine CW.region ?_
      refine RW.yi (.agg (cf 64 (iv zf))) rfl rfl (Yi.build (vs := []) _ rfl rfl (fun _ => by kernel_rfl)) ?_
      refine RW.storeW (i := 0) (cs' := cf 64 (iv zf)) rfl rfl rfl rfl (by rw [cf_size]; kernel_rfl) (by simp only [cf_size]) (iv_one _ _) ?_
      refine RW.yi (.int .i64 2) rfl rfl (Yi.pv _ rfl) ?_
      refine RW.nil ?_
      refine EW.next ?_
      refine CW.ret ?_
      refine EW.thr ?_
      obtain rfl := Option.some.inj hm
      exact EW.done (rs := [.cell 4 26, .tmp 5]) rfl (.cellW (i := 0) rfl rfl Tryd.isAgg26 Tryd.sizeOf26 (.tmp (t := 5) (v := .int .i64 2) rfl .nil)) (fun _ hM => ⟨rfl, hM.below⟩)
  · replace hm := (if_neg h5).symm.trans hm
    refine RW.yi (.bool true) rfl rfl (Yi.pv _ rfl) ?_
    refine RW.nil ?_
    refine EW.next ?_
    refine CW.cond_true rfl ?_
    refine CW.seq ?_
    refine CW.region ?_
    refine RW.yi (.agg (cf 64 (iv zf))) rfl rfl (Yi.build (vs := []) _ rfl rfl (fun _ => by kernel_rfl)) ?_
    refine RW.storeW (i := 0) (cs' := cf 64 (iv zf)) rfl rfl rfl rfl (by rw [cf_size]; kernel_rfl) (by simp only [cf_size]) (iv_one _ _) ?_
    refine RW.yi (.int .i64 1) rfl rfl (Yi.pv _ rfl) ?_
    refine RW.nil ?_
    refine EW.next ?_
    refine CW.ret ?_
    refine EW.thr ?_
    obtain rfl := Option.some.inj hm
    exact EW.done (rs := [.cell 4 26, .tmp 5]) rfl (.cellW (i := 0) rfl rfl Tryd.isAgg26 Tryd.sizeOf26 (.tmp (t := 5) (v := .int .i64 1) rfl .nil)) (fun _ hM => ⟨rfl, hM.below⟩)
def rIn_j1 (_ : Nat)    : Option (Bool) :=
  some true

def rIn_l1 (K : Nat) (a0_b : (Nat → Int)) (a1_low : Int) (a2_high : Int) : Nat → Int →  Option (Bool)
  | 0, _ => none
  | k1 + 1, v2 =>
    (if v2 < 64 then (if 0 ≤ v2 ∧ v2 < 64 then (if (a0_b v2.toNat) < a1_low then some false else (if a2_high < (a0_b v2.toNat) then some false else (rIn_l1 K a0_b a1_low a2_high k1) (w64 (v2 + 1)))) else none) else rIn_j1 K)

def rIn (K : Nat) (a0_b : (Nat → Int)) (a1_low : Int) (a2_high : Int) : Option (Bool) :=
  rIn_l1 K a0_b a1_low a2_high K 0

theorem c_rIn (K : Nat) (a0_b : (Nat → Int)) (a1_low : Int) (a2_high : Int) (r : Bool) (w0 : World) (hm : rIn K a0_b a1_low a2_high = some r) : Calls Tryd.prog 15 #[.agg (cf 64 (iv a0_b)), .int .i64 a1_low, .int .i64 a2_high] w0 fun e w' => e = .returned (.bool r) ∧ Below w0.heap.size w0 w' := by
  unfold rIn at hm
  refine calls_CW (n := 24) w0 [] [] Tryd.func15 rfl rfl rfl (Mem.begin w0) ?_
  refine CW.seq ?_
  refine CW.region ?_
  refine RW.box (v := .agg (cf 64 (iv a0_b))) rfl rfl rfl (fun b1 => ?_)
  refine RW.yi (.bool false) rfl rfl (Yi.pv _ rfl) ?_
  refine RW.nil ?_
  refine EW.next ?_
  refine CW.join (fun a w => St 24 [] a ∧ Mem w0 [] [] w ∧ rIn_j1 K = some r) ?_ ?_
  · refine CW.seq ?_
    refine CW.region ?_
    refine RW.yi (.int .i64 0) rfl rfl (Yi.pv _ rfl) ?_
    refine RW.nil ?_
    refine EW.next ?_
    refine CW.block ?_
    refine CW.loop (fun k a w => ∃ (v2 : Int), St 24 [(1, .int .i64 a1_low), (2, .int .i64 a2_high), (3, .pointer (some ⟨b1, 0, none⟩)), (7, .int .i64 v2)] a ∧ Mem w0 [] [.blk b1 26 (cf 64 (iv a0_b))] w ∧ rIn_l1 K a0_b a1_low a2_high k v2 = some r) K ?_ ?_ ?_
    · rintro a w ⟨_, _, _, hm⟩
      rw [rIn_l1.eq_1] at hm
      cases hm
    · exact fun a w hs hM => ⟨0, hs.sub ⟨rfl, rfl, rfl, rfl, trivial⟩, hM.sub (.cons_cons _ .slnil), hm⟩
    · rintro k1 a w ⟨v2, hs, hM, hm⟩
      rw [rIn_l1.eq_2] at hm
      refine CW.enter hs hM ?_
      refine CW.seq ?_
      refine CW.seq ?_
      refine CW.region ?_
      refine RW.yi (.int .i64 v2) rfl rfl (Yi.pv _ rfl) ?_
      refine RW.yi (.bool (decide (v2 < 64))) rfl rfl (Yi.pv _ rfl) ?_
      refine RW.nil ?_
      refine EW.next ?_
      refine CW.fork 9 (v2 < 64) rfl (fun h3 => ?_) (fun h3 => ?_)
      · replace hm := (if_pos h3).symm.trans hm
        refine CW.cond_true rfl ?_
        refine CW.skip ?_
        refine EW.next ?_
        refine CW.seq ?_
        refine CW.block ?_
        refine CW.seq ?_
        refine CW.region ?_
        refine RW.yi (.int .i64 v2) rfl rfl (Yi.pv _ rfl) ?_
        obtain ⟨g4, hm⟩ := of_guard hm
        refine RW.yi (.pointer (some ⟨b1, v2.toNat, none⟩)) rfl rfl (Yi.indexAddr' _ Tryd.underlying26 Tryd.sizeOf3 rfl rfl g4.1 g4.2 (by omega)) ?_
        refine RW.yi (.int .i64 (a0_b v2.toNat)) rfl rfl (Yi.load1 (i := 0) _ rfl rfl Tryd.isAgg3 (cf_get (by omega))) ?_
        refine RW.yi (.int .i64 a1_low) rfl rfl (Yi.pv _ rfl) ?_
        refine RW.yi (.bool (decide ((a0_b v2.toNat) < a1_low))) rfl rfl (Yi.pv _ rfl) ?_
        refine RW.yi (.bool (decide ((a0_b v2.toNat) < a1_low))) rfl rfl (Yi.pv _ rfl) ?_
        refine RW.fork 17 ((a0_b v2.toNat) < a1_low) rfl (fun h5 => ?_) (fun h5 => ?_)
        · replace hm := (if_pos h5).symm.trans hm
          refine RW.pass rfl rfl ?_
          refine RW.pass rfl rfl ?_
          refine RW.pass rfl rfl ?_
          refine RW.pass rfl rfl ?_
          refine RW.pass rfl rfl ?_
          refine RW.yi (.bool true) rfl rfl (Yi.pv _ rfl) ?_
          refine RW.nil ?_
          refine EW.next ?_
          refine CW.cond_true rfl ?_
          refine CW.seq ?_
          refine CW.region ?_
          refine RW.yi (.bool false) rfl rfl (Yi.pv _ rfl) ?_
          refine RW.nil ?_
          refine EW.next ?_
          refine CW.ret ?_
          refine EW.blr ?_
          refine EW.thr ?_
          refine EW.thr ?_
          refine EW.blr ?_
          refine EW.thr ?_
          obtain rfl := Option.some.inj hm
          exact EW.done (rs := [.tmp 6]) rfl (.tmp (t := 6) (v := .bool false) rfl .nil) (fun _ hM => ⟨rfl, hM.below⟩)
        · replace hm := (if_neg h5).symm.trans hm
          refine RW.yi (.int .i64 v2) rfl rfl (Yi.pv _ rfl) ?_
          refine RW.yi (.pointer (some ⟨b1, v2.toNat, none⟩)) rfl rfl (Yi.indexAddr' _ Tryd.underlying26 Tryd.sizeOf3 rfl rfl g4.1 g4.2 (by omega)) ?_
          refine RW.yi (.int .i64 (a0_b v2.toNat)) rfl rfl (Yi.load1 (i := 0) _ rfl rfl Tryd.isAgg3 (cf_get (by omega))) ?_
          refine RW.yi (.int .i64 a2_high) rfl rfl (Yi.pv _ rfl) ?_
          refine RW.yi (.bool (decide (a2_high < (a0_b v2.toNat)))) rfl rfl (Yi.pv _ rfl) ?_
          refine RW.yi (.bool (decide (a2_high < (a0_b v2.toNat)))) rfl rfl (Yi.pv _ rfl) ?_
          refine RW.nil ?_
          refine EW.next ?_
          refine CW.fork 23 (a2_high < (a0_b v2.toNat)) rfl (fun h6 => ?_) (fun h6 => ?_)
          · replace hm := (if_pos h6).symm.trans hm
            refine CW.cond_true rfl ?_
            refine CW.seq ?_
            refine CW.region ?_
            refine RW.yi (.bool false) rfl rfl (Yi.pv _ rfl) ?_
            refine RW.nil ?_
            refine EW.next ?_
            refine CW.ret ?_
            refine EW.blr ?_
            refine EW.thr ?_
            refine EW.thr ?_
            refine EW.blr ?_
            refine EW.thr ?_
            obtain rfl := Option.some.inj hm
            exact EW.done (rs := [.tmp 6]) rfl (.tmp (t := 6) (v := .bool false) rfl .nil) (fun _ hM => ⟨rfl, hM.below⟩)
          · replace hm := (if_neg h6).symm.trans hm
            refine CW.cond_false rfl ?_
            refine CW.skip ?_
            refine EW.bln ?_
            refine EW.next ?_
            refine CW.region ?_
            refine RW.yi (.int .i64 v2) rfl rfl (Yi.pv _ rfl) ?_
            refine RW.yi (.int .i64 (w64 (v2 + 1))) rfl rfl (Yi.pv _ rfl) ?_
            refine RW.yi (.int .i64 (w64 (v2 + 1))) rfl rfl (Yi.pv _ rfl) ?_
            refine RW.nil ?_
            refine EW.thn ?_
            exact fun a w hs hM => ⟨(w64 (v2 + 1)), hs.sub ⟨rfl, rfl, rfl, rfl, trivial⟩, hM.sub (.cons_cons _ .slnil), hm⟩
      · replace hm := (if_neg h3).symm.trans hm
        refine CW.cond_false rfl ?_
        refine CW.exit ?_
        refine EW.thx ?_
        refine EW.thx ?_
        refine EW.blx ?_
        refine EW.thn ?_
        exact fun a w hs hM => ⟨hs.sub trivial, hM.sub (.cons _ .slnil), hm⟩
  · rintro a w ⟨hs, hM, hm⟩
    unfold rIn_j1 at hm
    refine CW.enter hs hM ?_
    refine CW.seq ?_
    refine CW.region ?_
    refine RW.yi (.bool true) rfl rfl (Yi.pv _ rfl) ?_
    refine RW.nil ?_
    refine EW.next ?_
    refine CW.ret ?_
    obtain rfl := Option.some.inj hm
    exact EW.done (rs := [.tmp 6]) rfl (.tmp (t := 6) (v := .bool true) rfl .nil) (fun _ hM => ⟨rfl, hM.below⟩)
def rDown_j1 (_ : Nat)   (v9 : (Nat → Int)) : Option ((Nat → Int) × Int) :=
  some (v9, 0)

def rDown_j3 (_ : Nat) (cb_rDown_l1 : Int → (Nat → Int) → Option ((Nat → Int) × Int)) (v12 : (Nat → Int)) (v11 : Int) (v16 : Int) : Option ((Nat → Int) × Int) :=
  cb_rDown_l1 (w64 (v11 + 1)) (upd v12 v11.toNat v16)

def rDown_j2 (K : Nat) (cb_rDown_l1 : Int → (Nat → Int) → Option ((Nat → Int) × Int)) (v12 : (Nat → Int)) (v11 : Int) (v15 : Int) : Option ((Nat → Int) × Int) :=
  (if v15 < (-1023) then rDown_j3 K cb_rDown_l1 v12 v11 (-1023) else rDown_j3 K cb_rDown_l1 v12 v11 v15)

def rDown_l1 (K : Nat) (a0_b : (Nat → Int)) (a1_steps : (Nat → Int)) : Nat → Int → (Nat → Int) →  Option ((Nat → Int) × Int)
  | 0, _, _ => none
  | k1 + 1, v11, v12 =>
    (if v11 < 64 then (if 0 ≤ v11 ∧ v11 < 64 then (if 1023 < (rnd (a0_b v11.toNat) (a1_steps v11.toNat)) then rDown_j2 K (rDown_l1 K a0_b a1_steps k1) v12 v11 1023 else rDown_j2 K (rDown_l1 K a0_b a1_steps k1) v12 v11 (rnd (a0_b v11.toNat) (a1_steps v11.toNat))) else none) else rDown_j1 K v12)

def rDown (K : Nat) (a0_b : (Nat → Int)) (a1_steps : (Nat → Int)) : Option ((Nat → Int) × Int) :=
  ((rIn K a1_steps 1 255).bind fun r5 => (if r5 = true then ((rIn K a0_b (-16777216) 16777216).bind fun r7 => (if r7 = true then rDown_l1 K a0_b a1_steps K 0 zf else some (zf, 2))) else some (zf, 1)))

theorem c_rDown (K : Nat) (a0_b : (Nat → Int)) (a1_steps : (Nat → Int)) (r : (Nat → Int) × Int) (w0 : World) (hm : rDown K a0_b a1_steps = some r) : Calls Tryd.prog 17 #[.agg (cf 64 (iv a0_b)), .agg (cf 64 (iv a1_steps))] w0 fun e w' => e = .returned (.tuple #[.agg (cf 64 (iv r.1)), .int .i64 r.2]) ∧ Below w0.heap.size w0 w' := by
  unfold rDown at hm
  refine calls_CW (n := 37) w0 [] [] Tryd.func17 rfl rfl rfl (Mem.begin w0) ?_
  refine CW.seq ?_
  refine CW.region ?_
  refine RW.box (v := .agg (cf 64 (iv a0_b))) rfl rfl rfl (fun b1 => ?_)
  refine RW.box (v := .agg (cf 64 (iv a1_steps))) rfl rfl rfl (fun b2 => ?_)
  refine RW.alloc (z := .agg (cf 64 (iv zf))) (cf 64 (iv zf)) rfl rfl (fun _ => by kernel_rfl) rfl (fun b3 => ?_)
  refine RW.yi (.int .i64 0) rfl rfl (Yi.pv _ rfl) ?_
  refine RW.nil ?_
  refine EW.next ?_
  refine CW.seq ?_
  refine CW.region ?_
  refine RW.yi (.agg (cf 64 (iv zf))) rfl rfl (Yi.build (vs := []) _ rfl rfl (fun _ => by kernel_rfl)) ?_
  refine RW.alloc (z := .agg (cf 64 (iv zf))) (cf 64 (iv zf)) rfl rfl (fun _ => by kernel_rfl) rfl (fun b4 => ?_)
  refine RW.storeW (i := 0) (cs' := cf 64 (iv zf)) rfl rfl rfl rfl (by rw [cf_size]; kernel_rfl) (by simp only [cf_size]) (iv_one _ _) ?_
  refine RW.nil ?_
  refine EW.next ?_
  refine CW.seq ?_
  refine CW.seq ?_
  refine CW.region ?_
  refine RW.yi (.agg (cf 64 (iv a1_steps))) rfl rfl (Yi.loadW (i := 2) rfl rfl Tryd.isAgg26 Tryd.sizeOf26) ?_
  obtain ⟨r5, hr5, hm⟩ := of_bind hm
  refine RW.ca (.bool r5) rfl rfl (Ca.call rfl rfl Tryd.call15 (fun w _ => c_rIn K a1_steps 1 255 r5 w hr5)) ?_
  refine RW.forkB 11 (r5) rfl (fun h6 => ?_) (fun h6 => ?_)
  · replace hm := (if_pos h6).symm.trans hm
    refine RW.yi (.bool false) rfl rfl (Yi.pv _ rfl) ?_
    refine RW.nil ?_
    refine EW.next ?_
    refine CW.cond_false rfl ?_
    refine CW.skip ?_
    refine EW.next ?_
    refine CW.seq ?_
    refine CW.seq ?_
    refine CW.region ?_
    refine RW.yi (.agg (cf 64 (iv a0_b))) rfl rfl (Yi.loadW (i := 3) rfl rfl Tryd.isAgg26 Tryd.sizeOf26) ?_
    obtain ⟨r7, hr7, hm⟩ := of_bind hm
    refine RW.ca (.bool r7) rfl rfl (Ca.call rfl rfl Tryd.call15 (fun w _ => c_rIn K a0_b (-16777216) 16777216 r7 w hr7)) ?_
    refine RW.forkB 15 (r7) rfl (fun h8 => ?_) (fun h8 => ?_)
    · replace hm := (if_pos h8).symm.trans hm
      refine RW.yi (.bool false) rfl rfl (Yi.pv _ rfl) ?_
      refine RW.nil ?_
      refine EW.next ?_
      refine CW.cond_false rfl ?_
      refine CW.skip ?_
      refine EW.next ?_
      refine CW.join (fun a w => ∃ (v9 : (Nat → Int)), St 37 [(4, .pointer (some ⟨b3, 0, none⟩)), (6, .pointer (some ⟨b4, 0, none⟩))] a ∧ Mem w0 [] [.blk b4 26 (cf 64 (iv v9)), .blk b3 26 (cf 64 (iv zf))] w ∧ rDown_j1 K v9 = some r) ?_ ?_
      · refine CW.seq ?_
        refine CW.region ?_
        refine RW.yi (.int .i64 0) rfl rfl (Yi.pv _ rfl) ?_
        refine RW.nil ?_
        refine EW.next ?_
        refine CW.block ?_
        refine CW.loop (fun k a w => ∃ (v11 : Int) (v12 : (Nat → Int)), St 37 [(2, .pointer (some ⟨b1, 0, none⟩)), (3, .pointer (some ⟨b2, 0, none⟩)), (4, .pointer (some ⟨b3, 0, none⟩)), (6, .pointer (some ⟨b4, 0, none⟩)), (7, .int .i64 v11)] a ∧ Mem w0 [] [.blk b4 26 (cf 64 (iv v12)), .blk b3 26 (cf 64 (iv zf)), .blk b2 26 (cf 64 (iv a1_steps)), .blk b1 26 (cf 64 (iv a0_b))] w ∧ rDown_l1 K a0_b a1_steps k v11 v12 = some r) K ?_ ?_ ?_
        · rintro a w ⟨_, _, _, _, hm⟩
          rw [rDown_l1.eq_1] at hm
          cases hm
        · exact fun a w hs hM => ⟨0, zf, hs.sub ⟨rfl, rfl, rfl, rfl, rfl, trivial⟩, hM.sub (.cons_cons _ (.cons_cons _ (.cons_cons _ (.cons_cons _ .slnil)))), hm⟩
        · rintro k1 a w ⟨v11, v12, hs, hM, hm⟩
          rw [rDown_l1.eq_2] at hm
          refine CW.enter hs hM ?_
          refine CW.seq ?_
          refine CW.seq ?_
          refine CW.region ?_
          refine RW.yi (.int .i64 v11) rfl rfl (Yi.pv _ rfl) ?_
          refine RW.yi (.bool (decide (v11 < 64))) rfl rfl (Yi.pv _ rfl) ?_
          refine RW.nil ?_
          refine EW.next ?_
          refine CW.fork 19 (v11 < 64) rfl (fun h13 => ?_) (fun h13 => ?_)
          · replace hm := (if_pos h13).symm.trans hm
            refine CW.cond_true rfl ?_
            refine CW.skip ?_
            refine EW.next ?_
            refine CW.seq ?_
            refine CW.block ?_
            refine CW.seq ?_
            refine CW.draws (by kernel_rfl) (by kernel_rfl) ?_
            refine QW.yi (.int .i64 v11) rfl rfl (Yi.pv _ rfl) ?_
            obtain ⟨g14, hm⟩ := of_guard hm
            refine QW.yi (.pointer (some ⟨b1, v11.toNat, none⟩)) rfl rfl (Yi.indexAddr' _ Tryd.underlying26 Tryd.sizeOf3 rfl rfl g14.1 g14.2 (by omega)) ?_
            refine QW.yi (.int .i64 (a0_b v11.toNat)) rfl rfl (Yi.load1 (i := 3) _ rfl rfl Tryd.isAgg3 (cf_get (by omega))) ?_
            refine QW.yi (.int .i64 v11) rfl rfl (Yi.pv _ rfl) ?_
            refine QW.yi (.pointer (some ⟨b2, v11.toNat, none⟩)) rfl rfl (Yi.indexAddr' _ Tryd.underlying26 Tryd.sizeOf3 rfl rfl g14.1 g14.2 (by omega)) ?_
            refine QW.yi (.int .i64 (a1_steps v11.toNat)) rfl rfl (Yi.load1 (i := 2) _ rfl rfl Tryd.isAgg3 (cf_get (by omega))) ?_
            refine QW.ca (.int .i64 (rnd (a0_b v11.toNat) (a1_steps v11.toNat))) rfl rfl (Ca.call rfl rfl Tryd.call10 (fun w _ => c_rRound (a0_b v11.toNat) (a1_steps v11.toNat) w)) ?_
            refine QW.yi (.int .i64 (rnd (a0_b v11.toNat) (a1_steps v11.toNat))) rfl rfl (Yi.pv _ rfl) ?_
            refine QW.nil ?_
            refine EW.next ?_
            refine CW.join (fun a w => ∃ (v15 : Int), St 37 [(2, .pointer (some ⟨b1, 0, none⟩)), (3, .pointer (some ⟨b2, 0, none⟩)), (4, .pointer (some ⟨b3, 0, none⟩)), (6, .pointer (some ⟨b4, 0, none⟩)), (7, .int .i64 v11), (8, .int .i64 v15)] a ∧ Mem w0 [] [.blk b4 26 (cf 64 (iv v12)), .blk b3 26 (cf 64 (iv zf)), .blk b2 26 (cf 64 (iv a1_steps)), .blk b1 26 (cf 64 (iv a0_b))] w ∧ rDown_j2 K (rDown_l1 K a0_b a1_steps k1) v12 v11 v15 = some r) ?_ ?_
            · refine CW.seq ?_
              refine CW.region ?_
              refine RW.yi (.int .i64 (rnd (a0_b v11.toNat) (a1_steps v11.toNat))) rfl rfl (Yi.pv _ rfl) ?_
              refine RW.yi (.bool (decide (1023 < (rnd (a0_b v11.toNat) (a1_steps v11.toNat))))) rfl rfl (Yi.pv _ rfl) ?_
              refine RW.nil ?_
              refine EW.next ?_
              refine CW.fork 30 (1023 < (rnd (a0_b v11.toNat) (a1_steps v11.toNat))) rfl (fun h18 => ?_) (fun h18 => ?_)
              · replace hm := (if_pos h18).symm.trans hm
                refine CW.cond_true rfl ?_
                refine CW.region ?_
                refine RW.yi (.int .i64 1023) rfl rfl (Yi.pv _ rfl) ?_
                refine RW.nil ?_
                refine EW.thn ?_
                exact fun a w hs hM => ⟨1023, hs.sub ⟨rfl, rfl, rfl, rfl, rfl, rfl, trivial⟩, hM.sub (.cons_cons _ (.cons_cons _ (.cons_cons _ (.cons_cons _ .slnil)))), hm⟩
              · replace hm := (if_neg h18).symm.trans hm
                refine CW.cond_false rfl ?_
                refine CW.skip ?_
                refine EW.thn ?_
                exact fun a w hs hM => ⟨(rnd (a0_b v11.toNat) (a1_steps v11.toNat)), hs.sub ⟨rfl, rfl, rfl, rfl, rfl, rfl, trivial⟩, hM.sub (.cons_cons _ (.cons_cons _ (.cons_cons _ (.cons_cons _ .slnil)))), hm⟩
            · rintro a w ⟨v15, hs, hM, hm⟩
              unfold rDown_j2 at hm
              refine CW.enter hs hM ?_
              refine CW.join (fun a w => ∃ (v16 : Int), St 37 [(2, .pointer (some ⟨b1, 0, none⟩)), (3, .pointer (some ⟨b2, 0, none⟩)), (4, .pointer (some ⟨b3, 0, none⟩)), (6, .pointer (some ⟨b4, 0, none⟩)), (7, .int .i64 v11), (8, .int .i64 v16)] a ∧ Mem w0 [] [.blk b4 26 (cf 64 (iv v12)), .blk b3 26 (cf 64 (iv zf)), .blk b2 26 (cf 64 (iv a1_steps)), .blk b1 26 (cf 64 (iv a0_b))] w ∧ rDown_j3 K (rDown_l1 K a0_b a1_steps k1) v12 v11 v16 = some r) ?_ ?_
              · refine CW.seq ?_
                refine CW.region ?_
                refine RW.yi (.int .i64 v15) rfl rfl (Yi.pv _ rfl) ?_
                refine RW.yi (.bool (decide (v15 < (-1023)))) rfl rfl (Yi.pv _ rfl) ?_
                refine RW.nil ?_
                refine EW.next ?_
                refine CW.fork 32 (v15 < (-1023)) rfl (fun h17 => ?_) (fun h17 => ?_)
                · replace hm := (if_pos h17).symm.trans hm
                  refine CW.cond_true rfl ?_
                  refine CW.region ?_
                  refine RW.yi (.int .i64 (-1023)) rfl rfl (Yi.pv _ rfl) ?_
                  refine RW.nil ?_
                  refine EW.thn ?_
                  exact fun a w hs hM => ⟨(-1023), hs.sub ⟨rfl, rfl, rfl, rfl, rfl, rfl, trivial⟩, hM.sub (.cons_cons _ (.cons_cons _ (.cons_cons _ (.cons_cons _ .slnil)))), hm⟩
                · replace hm := (if_neg h17).symm.trans hm
                  refine CW.cond_false rfl ?_
                  refine CW.skip ?_
                  refine EW.thn ?_
                  exact fun a w hs hM => ⟨v15, hs.sub ⟨rfl, rfl, rfl, rfl, rfl, rfl, trivial⟩, hM.sub (.cons_cons _ (.cons_cons _ (.cons_cons _ (.cons_cons _ .slnil)))), hm⟩
              · rintro a w ⟨v16, hs, hM, hm⟩
                unfold rDown_j3 at hm
                refine CW.enter hs hM ?_
                refine CW.region ?_
                refine RW.yi (.int .i64 v11) rfl rfl (Yi.pv _ rfl) ?_
                refine RW.yi (.int .i64 v16) rfl rfl (Yi.pv _ rfl) ?_
                refine RW.yi (.pointer (some ⟨b4, v11.toNat, none⟩)) rfl rfl (Yi.indexAddr' _ Tryd.underlying26 Tryd.sizeOf3 rfl rfl g14.1 g14.2 (by omega)) ?_
                refine RW.store1 (i := 0) (cs' := cf 64 (iv (upd v12 v11.toNat v16))) rfl rfl rfl rfl Tryd.sizeOf3 rfl rfl (by rw [cf_size]; omega) (by rw [cf_set, iv_upd]) ?_
                refine RW.nil ?_
                refine EW.bln ?_
                refine EW.next ?_
                refine CW.region ?_
                refine RW.yi (.int .i64 v11) rfl rfl (Yi.pv _ rfl) ?_
                refine RW.yi (.int .i64 (w64 (v11 + 1))) rfl rfl (Yi.pv _ rfl) ?_
                refine RW.yi (.int .i64 (w64 (v11 + 1))) rfl rfl (Yi.pv _ rfl) ?_
                refine RW.nil ?_
                refine EW.thn ?_
                exact fun a w hs hM => ⟨(w64 (v11 + 1)), (upd v12 v11.toNat v16), hs.sub ⟨rfl, rfl, rfl, rfl, rfl, trivial⟩, hM.sub (.cons_cons _ (.cons_cons _ (.cons_cons _ (.cons_cons _ .slnil)))), hm⟩
          · replace hm := (if_neg h13).symm.trans hm
            refine CW.cond_false rfl ?_
            refine CW.exit ?_
            refine EW.thx ?_
            refine EW.thx ?_
            refine EW.blx ?_
            refine EW.thn ?_
            exact fun a w hs hM => ⟨v12, hs.sub ⟨rfl, rfl, trivial⟩, hM.sub (.cons_cons _ (.cons_cons _ (.cons _ (.cons _ .slnil)))), hm⟩
      · rintro a w ⟨v9, hs, hM, hm⟩
        unfold rDown_j1 at hm
        refine CW.enter hs hM ?_
        refine CW.seq ?_
        refine CW.region ?_
        refine RW.yi (.agg (cf 64 (iv v9))) rfl rfl (Yi.loadW (i := 0) rfl rfl Tryd.isAgg26 Tryd.sizeOf26) ?_
        refine RW.storeW (i := 1) (cs' := cf 64 (iv v9)) rfl rfl rfl rfl (by rw [cf_size]; kernel_rfl) (by simp only [cf_size]) (iv_one _ _) ?_
        refine RW.yi (.int .i64 0) rfl rfl (Yi.pv _ rfl) ?_
        refine RW.nil ?_
        refine EW.next ?_
        refine CW.ret ?_
        obtain rfl := Option.some.inj hm
        exact EW.done (rs := [.cell 4 26, .tmp 5]) rfl (.cellW (i := 1) rfl rfl Tryd.isAgg26 Tryd.sizeOf26 (.tmp (t := 5) (v := .int .i64 0) rfl .nil)) (fun _ hM => ⟨rfl, hM.below⟩)
    · replace hm := (if_neg h8).symm.trans hm
      refine RW.yi (.bool true) rfl rfl (Yi.pv _ rfl) ?_
      refine RW.nil ?_
      refine EW.next ?_
      refine CW.cond_true rfl ?_
      refine CW.seq ?_
      refine CW.region ?_
      refine RW.yi (.agg (cf 64 (iv zf))) rfl rfl (Yi.loadW (i := 0) rfl rfl Tryd.isAgg26 Tryd.sizeOf26) ?_
      refine RW.storeW (i := 1) (cs' := cf 64 (iv zf)) rfl rfl rfl rfl (by rw [cf_size]; kernel_rfl) (by simp only [cf_size]) (iv_one _ _) ?_
      refine RW.yi (.int .i64 2) rfl rfl (Yi.pv _ rfl) ?_
      refine RW.nil ?_
      refine EW.next ?_
      refine CW.ret ?_
      refine EW.thr ?_
      obtain rfl := Option.some.inj hm
      exact EW.done (rs := [.cell 4 26, .tmp 5]) rfl (.cellW (i := 1) rfl rfl Tryd.isAgg26 Tryd.sizeOf26 (.tmp (t := 5) (v := .int .i64 2) rfl .nil)) (fun _ hM => ⟨rfl, hM.below⟩)
  · replace hm := (if_neg h6).symm.trans hm
    refine RW.yi (.bool true) rfl rfl (Yi.pv _ rfl) ?_
    refine RW.nil ?_
    refine EW.next ?_
    refine CW.cond_true rfl ?_
    refine CW.seq ?_
    refine CW.region ?_
    refine RW.yi (.agg (cf 64 (iv zf))) rfl rfl (Yi.loadW (i := 0) rfl rfl Tryd.isAgg26 Tryd.sizeOf26) ?_
    refine RW.storeW (i := 1) (cs' := cf 64 (iv zf)) rfl rfl rfl rfl (by rw [cf_size]; kernel_rfl) (by simp only [cf_size]) (iv_one _ _) ?_
    refine RW.yi (.int .i64 1) rfl rfl (Yi.pv _ rfl) ?_
    refine RW.nil ?_
    refine EW.next ?_
    refine CW.ret ?_
    refine EW.thr ?_
    obtain rfl := Option.some.inj hm
    exact EW.done (rs := [.cell 4 26, .tmp 5]) rfl (.cellW (i := 1) rfl rfl Tryd.isAgg26 Tryd.sizeOf26 (.tmp (t := 5) (v := .int .i64 1) rfl .nil)) (fun _ hM => ⟨rfl, hM.below⟩)
def rUp_j1 (_ : Nat)   (v9 : (Nat → Int)) : Option ((Nat → Int) × Int) :=
  some (v9, 0)

def rUp_l1 (K : Nat) (a0_b : (Nat → Int)) (a1_steps : (Nat → Int)) : Nat → Int → (Nat → Int) →  Option ((Nat → Int) × Int)
  | 0, _, _ => none
  | k1 + 1, v11, v12 =>
    (if v11 < 64 then (if 0 ≤ v11 ∧ v11 < 64 then (rUp_l1 K a0_b a1_steps k1) (w64 (v11 + 1)) (upd v12 v11.toNat (w64 ((a0_b v11.toNat) * (a1_steps v11.toNat)))) else none) else rUp_j1 K v12)

def rUp (K : Nat) (a0_b : (Nat → Int)) (a1_steps : (Nat → Int)) : Option ((Nat → Int) × Int) :=
  ((rIn K a1_steps 1 255).bind fun r5 => (if r5 = true then ((rIn K a0_b (-1023) 1023).bind fun r7 => (if r7 = true then rUp_l1 K a0_b a1_steps K 0 zf else some (zf, 2))) else some (zf, 1)))

theorem c_rUp (K : Nat) (a0_b : (Nat → Int)) (a1_steps : (Nat → Int)) (r : (Nat → Int) × Int) (w0 : World) (hm : rUp K a0_b a1_steps = some r) : Calls Tryd.prog 19 #[.agg (cf 64 (iv a0_b)), .agg (cf 64 (iv a1_steps))] w0 fun e w' => e = .returned (.tuple #[.agg (cf 64 (iv r.1)), .int .i64 r.2]) ∧ Below w0.heap.size w0 w' := by
  unfold rUp at hm
  refine calls_CW (n := 31) w0 [] [] Tryd.func19 rfl rfl rfl (Mem.begin w0) ?_
  refine CW.seq ?_
  refine CW.region ?_
  refine RW.box (v := .agg (cf 64 (iv a0_b))) rfl rfl rfl (fun b1 => ?_)
  refine RW.box (v := .agg (cf 64 (iv a1_steps))) rfl rfl rfl (fun b2 => ?_)
  refine RW.alloc (z := .agg (cf 64 (iv zf))) (cf 64 (iv zf)) rfl rfl (fun _ => by kernel_rfl) rfl (fun b3 => ?_)
  refine RW.yi (.int .i64 0) rfl rfl (Yi.pv _ rfl) ?_
  refine RW.nil ?_
  refine EW.next ?_
  refine CW.seq ?_
  refine CW.region ?_
  refine RW.yi (.agg (cf 64 (iv zf))) rfl rfl (Yi.build (vs := []) _ rfl rfl (fun _ => by kernel_rfl)) ?_
  refine RW.alloc (z := .agg (cf 64 (iv zf))) (cf 64 (iv zf)) rfl rfl (fun _ => by kernel_rfl) rfl (fun b4 => ?_)
  refine RW.storeW (i := 0) (cs' := cf 64 (iv zf)) rfl rfl rfl rfl (by rw [cf_size]; kernel_rfl) (by simp only [cf_size]) (iv_one _ _) ?_
  refine RW.nil ?_
  refine EW.next ?_
  refine CW.seq ?_
  refine CW.seq ?_
  refine CW.region ?_
  refine RW.yi (.agg (cf 64 (iv a1_steps))) rfl rfl (Yi.loadW (i := 2) rfl rfl Tryd.isAgg26 Tryd.sizeOf26) ?_
  obtain ⟨r5, hr5, hm⟩ := of_bind hm
  refine RW.ca (.bool r5) rfl rfl (Ca.call rfl rfl Tryd.call15 (fun w _ => c_rIn K a1_steps 1 255 r5 w hr5)) ?_
  refine RW.forkB 10 (r5) rfl (fun h6 => ?_) (fun h6 => ?_)
  · replace hm := (if_pos h6).symm.trans hm
    refine RW.yi (.bool false) rfl rfl (Yi.pv _ rfl) ?_
    refine RW.nil ?_
    refine EW.next ?_
    refine CW.cond_false rfl ?_
    refine CW.skip ?_
    refine EW.next ?_
    refine CW.seq ?_
    refine CW.seq ?_
    refine CW.region ?_
    refine RW.yi (.agg (cf 64 (iv a0_b))) rfl rfl (Yi.loadW (i := 3) rfl rfl Tryd.isAgg26 Tryd.sizeOf26) ?_
    obtain ⟨r7, hr7, hm⟩ := of_bind hm
    refine RW.ca (.bool r7) rfl rfl (Ca.call rfl rfl Tryd.call15 (fun w _ => c_rIn K a0_b (-1023) 1023 r7 w hr7)) ?_
    refine RW.forkB 14 (r7) rfl (fun h8 => ?_) (fun h8 => ?_)
    · replace hm := (if_pos h8).symm.trans hm
      refine RW.yi (.bool false) rfl rfl (Yi.pv _ rfl) ?_
      refine RW.nil ?_
      refine EW.next ?_
      refine CW.cond_false rfl ?_
      refine CW.skip ?_
      refine EW.next ?_
      refine CW.join (fun a w => ∃ (v9 : (Nat → Int)), St 31 [(4, .pointer (some ⟨b3, 0, none⟩)), (6, .pointer (some ⟨b4, 0, none⟩))] a ∧ Mem w0 [] [.blk b4 26 (cf 64 (iv v9)), .blk b3 26 (cf 64 (iv zf))] w ∧ rUp_j1 K v9 = some r) ?_ ?_
      · refine CW.seq ?_
        refine CW.region ?_
        refine RW.yi (.int .i64 0) rfl rfl (Yi.pv _ rfl) ?_
        refine RW.nil ?_
        refine EW.next ?_
        refine CW.block ?_
        refine CW.loop (fun k a w => ∃ (v11 : Int) (v12 : (Nat → Int)), St 31 [(2, .pointer (some ⟨b1, 0, none⟩)), (3, .pointer (some ⟨b2, 0, none⟩)), (4, .pointer (some ⟨b3, 0, none⟩)), (6, .pointer (some ⟨b4, 0, none⟩)), (7, .int .i64 v11)] a ∧ Mem w0 [] [.blk b4 26 (cf 64 (iv v12)), .blk b3 26 (cf 64 (iv zf)), .blk b2 26 (cf 64 (iv a1_steps)), .blk b1 26 (cf 64 (iv a0_b))] w ∧ rUp_l1 K a0_b a1_steps k v11 v12 = some r) K ?_ ?_ ?_
        · rintro a w ⟨_, _, _, _, hm⟩
          rw [rUp_l1.eq_1] at hm
          cases hm
        · exact fun a w hs hM => ⟨0, zf, hs.sub ⟨rfl, rfl, rfl, rfl, rfl, trivial⟩, hM.sub (.cons_cons _ (.cons_cons _ (.cons_cons _ (.cons_cons _ .slnil)))), hm⟩
        · rintro k1 a w ⟨v11, v12, hs, hM, hm⟩
          rw [rUp_l1.eq_2] at hm
          refine CW.enter hs hM ?_
          refine CW.seq ?_
          refine CW.seq ?_
          refine CW.region ?_
          refine RW.yi (.int .i64 v11) rfl rfl (Yi.pv _ rfl) ?_
          refine RW.yi (.bool (decide (v11 < 64))) rfl rfl (Yi.pv _ rfl) ?_
          refine RW.nil ?_
          refine EW.next ?_
          refine CW.fork 18 (v11 < 64) rfl (fun h13 => ?_) (fun h13 => ?_)
          · replace hm := (if_pos h13).symm.trans hm
            refine CW.cond_true rfl ?_
            refine CW.skip ?_
            refine EW.next ?_
            refine CW.seq ?_
            refine CW.block ?_
            refine CW.tailC 9 (by kernel_rfl) (by kernel_rfl) ?_
            refine TW.yi (.int .i64 v11) rfl rfl (Yi.pv _ rfl) ?_
            refine TW.yi (.int .i64 v11) rfl rfl (Yi.pv _ rfl) ?_
            obtain ⟨g14, hm⟩ := of_guard hm
            refine TW.yi (.pointer (some ⟨b1, v11.toNat, none⟩)) rfl rfl (Yi.indexAddr' _ Tryd.underlying26 Tryd.sizeOf3 rfl rfl g14.1 g14.2 (by omega)) ?_
            refine TW.yi (.int .i64 (a0_b v11.toNat)) rfl rfl (Yi.load1 (i := 3) _ rfl rfl Tryd.isAgg3 (cf_get (by omega))) ?_
            refine TW.yi (.int .i64 v11) rfl rfl (Yi.pv _ rfl) ?_
            refine TW.yi (.pointer (some ⟨b2, v11.toNat, none⟩)) rfl rfl (Yi.indexAddr' _ Tryd.underlying26 Tryd.sizeOf3 rfl rfl g14.1 g14.2 (by omega)) ?_
            refine TW.yi (.int .i64 (a1_steps v11.toNat)) rfl rfl (Yi.load1 (i := 2) _ rfl rfl Tryd.isAgg3 (cf_get (by omega))) ?_
            refine TW.yi (.int .i64 (w64 ((a0_b v11.toNat) * (a1_steps v11.toNat)))) rfl rfl (Yi.pv _ rfl) ?_
            refine TW.yi (.pointer (some ⟨b4, v11.toNat, none⟩)) rfl rfl (Yi.indexAddr' _ Tryd.underlying26 Tryd.sizeOf3 rfl rfl g14.1 g14.2 (by omega)) ?_
            refine TW.nil ?_
            refine RW.store1 (i := 0) (cs' := cf 64 (iv (upd v12 v11.toNat (w64 ((a0_b v11.toNat) * (a1_steps v11.toNat)))))) rfl rfl rfl rfl Tryd.sizeOf3 rfl rfl (by rw [cf_size]; omega) (by rw [cf_set, iv_upd]) ?_
            refine RW.nil ?_
            refine EW.bln ?_
            refine EW.next ?_
            refine CW.region ?_
            refine RW.yi (.int .i64 v11) rfl rfl (Yi.pv _ rfl) ?_
            refine RW.yi (.int .i64 (w64 (v11 + 1))) rfl rfl (Yi.pv _ rfl) ?_
            refine RW.yi (.int .i64 (w64 (v11 + 1))) rfl rfl (Yi.pv _ rfl) ?_
            refine RW.nil ?_
            refine EW.thn ?_
            exact fun a w hs hM => ⟨(w64 (v11 + 1)), (upd v12 v11.toNat (w64 ((a0_b v11.toNat) * (a1_steps v11.toNat)))), hs.sub ⟨rfl, rfl, rfl, rfl, rfl, trivial⟩, hM.sub (.cons_cons _ (.cons_cons _ (.cons_cons _ (.cons_cons _ .slnil)))), hm⟩
          · replace hm := (if_neg h13).symm.trans hm
            refine CW.cond_false rfl ?_
            refine CW.exit ?_
            refine EW.thx ?_
            refine EW.thx ?_
            refine EW.blx ?_
            refine EW.thn ?_
            exact fun a w hs hM => ⟨v12, hs.sub ⟨rfl, rfl, trivial⟩, hM.sub (.cons_cons _ (.cons_cons _ (.cons _ (.cons _ .slnil)))), hm⟩
      · rintro a w ⟨v9, hs, hM, hm⟩
        unfold rUp_j1 at hm
        refine CW.enter hs hM ?_
        refine CW.seq ?_
        refine CW.region ?_
        refine RW.yi (.agg (cf 64 (iv v9))) rfl rfl (Yi.loadW (i := 0) rfl rfl Tryd.isAgg26 Tryd.sizeOf26) ?_
        refine RW.storeW (i := 1) (cs' := cf 64 (iv v9)) rfl rfl rfl rfl (by rw [cf_size]; kernel_rfl) (by simp only [cf_size]) (iv_one _ _) ?_
        refine RW.yi (.int .i64 0) rfl rfl (Yi.pv _ rfl) ?_
        refine RW.nil ?_
        refine EW.next ?_
        refine CW.ret ?_
        obtain rfl := Option.some.inj hm
        exact EW.done (rs := [.cell 4 26, .tmp 5]) rfl (.cellW (i := 1) rfl rfl Tryd.isAgg26 Tryd.sizeOf26 (.tmp (t := 5) (v := .int .i64 0) rfl .nil)) (fun _ hM => ⟨rfl, hM.below⟩)
    · replace hm := (if_neg h8).symm.trans hm
      refine RW.yi (.bool true) rfl rfl (Yi.pv _ rfl) ?_
      refine RW.nil ?_
      refine EW.next ?_
      refine CW.cond_true rfl ?_
      refine CW.seq ?_
      refine CW.region ?_
      refine RW.yi (.agg (cf 64 (iv zf))) rfl rfl (Yi.loadW (i := 0) rfl rfl Tryd.isAgg26 Tryd.sizeOf26) ?_
      refine RW.storeW (i := 1) (cs' := cf 64 (iv zf)) rfl rfl rfl rfl (by rw [cf_size]; kernel_rfl) (by simp only [cf_size]) (iv_one _ _) ?_
      refine RW.yi (.int .i64 2) rfl rfl (Yi.pv _ rfl) ?_
      refine RW.nil ?_
      refine EW.next ?_
      refine CW.ret ?_
      refine EW.thr ?_
      obtain rfl := Option.some.inj hm
      exact EW.done (rs := [.cell 4 26, .tmp 5]) rfl (.cellW (i := 1) rfl rfl Tryd.isAgg26 Tryd.sizeOf26 (.tmp (t := 5) (v := .int .i64 2) rfl .nil)) (fun _ hM => ⟨rfl, hM.below⟩)
  · replace hm := (if_neg h6).symm.trans hm
    refine RW.yi (.bool true) rfl rfl (Yi.pv _ rfl) ?_
    refine RW.nil ?_
    refine EW.next ?_
    refine CW.cond_true rfl ?_
    refine CW.seq ?_
    refine CW.region ?_
    refine RW.yi (.agg (cf 64 (iv zf))) rfl rfl (Yi.loadW (i := 0) rfl rfl Tryd.isAgg26 Tryd.sizeOf26) ?_
    refine RW.storeW (i := 1) (cs' := cf 64 (iv zf)) rfl rfl rfl rfl (by rw [cf_size]; kernel_rfl) (by simp only [cf_size]) (iv_one _ _) ?_
    refine RW.yi (.int .i64 1) rfl rfl (Yi.pv _ rfl) ?_
    refine RW.nil ?_
    refine EW.next ?_
    refine CW.ret ?_
    refine EW.thr ?_
    obtain rfl := Option.some.inj hm
    exact EW.done (rs := [.cell 4 26, .tmp 5]) rfl (.cellW (i := 1) rfl rfl Tryd.isAgg26 Tryd.sizeOf26 (.tmp (t := 5) (v := .int .i64 1) rfl .nil)) (fun _ hM => ⟨rfl, hM.below⟩)
def awake8 (K : Nat)  : Option (Bool) :=
  ((qSteps K false 50).bind fun r1 => ((qSteps K true 0).bind fun r3 => (if (r1.1 0) = 16 then (if (r1.1 63) = 99 then (if r1.2 = 0 then (if r3.2 = 2 then some (decide ((rnd (-3) 2) = (-2))) else some false) else some false) else some false) else some false)))

theorem c_awake8 (K : Nat)  (r : Bool) (w0 : World) (hG : Gl GG w0) (hm : awake8 K  = some r) : Calls Tryd.prog 11 #[] w0 fun e w' => e = .returned (.bool r) ∧ Below w0.heap.size w0 w' := by
  unfold awake8 at hm
  refine calls_CW (n := 33) w0 [] [] Tryd.func11 rfl rfl rfl (Mem.begin w0) ?_
  refine CW.seq ?_
  refine CW.region ?_
  refine RW.yi (.bool false) rfl rfl (Yi.pv _ rfl) ?_
  refine RW.nil ?_
  refine EW.next ?_
  refine CW.seq ?_
  refine CW.region ?_
  obtain ⟨r1, hr1, hm⟩ := of_bind hm
  refine RW.ca (.tuple #[.agg (cf 64 (iv r1.1)), .int .i64 r1.2]) rfl rfl (Ca.call rfl rfl Tryd.call12 (fun w hM => c_qSteps K false 50 r1 w (hG.keep hM rfl) hr1)) ?_
  refine RW.yi (.tuple #[.agg (cf 64 (iv r1.1)), .int .i64 r1.2]) rfl rfl (Yi.pv _ rfl) ?_
  refine RW.yi (.agg (cf 64 (iv r1.1))) rfl rfl (Yi.pv _ rfl) ?_
  refine RW.yi (.int .i64 r1.2) rfl rfl (Yi.pv _ rfl) ?_
  refine RW.alloc (z := .agg (cf 64 (iv zf))) (cf 64 (iv zf)) rfl rfl (fun _ => by kernel_rfl) rfl (fun b2 => ?_)
  refine RW.storeW (i := 0) (cs' := cf 64 (iv r1.1)) rfl rfl rfl rfl (by rw [cf_size]; kernel_rfl) (by simp only [cf_size]) (iv_one _ _) ?_
  refine RW.yi (.int .i64 r1.2) rfl rfl (Yi.pv _ rfl) ?_
  refine RW.nil ?_
  refine EW.next ?_
  refine CW.seq ?_
  refine CW.region ?_
  obtain ⟨r3, hr3, hm⟩ := of_bind hm
  refine RW.ca (.tuple #[.agg (cf 64 (iv r3.1)), .int .i64 r3.2]) rfl rfl (Ca.call rfl rfl Tryd.call12 (fun w hM => c_qSteps K true 0 r3 w (hG.keep hM rfl) hr3)) ?_
  refine RW.yi (.tuple #[.agg (cf 64 (iv r3.1)), .int .i64 r3.2]) rfl rfl (Yi.pv _ rfl) ?_
  refine RW.yi (.agg (cf 64 (iv r3.1))) rfl rfl (Yi.pv _ rfl) ?_
  refine RW.yi (.int .i64 r3.2) rfl rfl (Yi.pv _ rfl) ?_
  refine RW.alloc (z := .agg (cf 64 (iv zf))) (cf 64 (iv zf)) rfl rfl (fun _ => by kernel_rfl) rfl (fun b4 => ?_)
  refine RW.storeW (i := 0) (cs' := cf 64 (iv r3.1)) rfl rfl rfl rfl (by rw [cf_size]; kernel_rfl) (by simp only [cf_size]) (iv_one _ _) ?_
  refine RW.yi (.int .i64 r3.2) rfl rfl (Yi.pv _ rfl) ?_
  refine RW.nil ?_
  refine EW.next ?_
  refine CW.seq ?_
  refine CW.region ?_
  refine RW.yi (.pointer (some ⟨b2, 0, none⟩)) rfl rfl (Yi.indexAddr' _ Tryd.underlying26 Tryd.sizeOf3 rfl rfl (by decide) (by decide) (by omega)) ?_
  refine RW.yi (.int .i64 (r1.1 0)) rfl rfl (Yi.load1 (i := 1) _ rfl rfl Tryd.isAgg3 (cf_get (by omega))) ?_
  refine RW.yi (.bool (decide ((r1.1 0) = 16))) rfl rfl (Yi.pv _ rfl) ?_
  refine RW.yi (.bool (decide ((r1.1 0) = 16))) rfl rfl (Yi.pv _ rfl) ?_
  refine RW.fork 16 ((r1.1 0) = 16) rfl (fun h5 => ?_) (fun h5 => ?_)
  · replace hm := (if_pos h5).symm.trans hm
    refine RW.yi (.pointer (some ⟨b2, 63, none⟩)) rfl rfl (Yi.indexAddr' _ Tryd.underlying26 Tryd.sizeOf3 rfl rfl (by decide) (by decide) (by omega)) ?_
    refine RW.yi (.int .i64 (r1.1 63)) rfl rfl (Yi.load1 (i := 1) _ rfl rfl Tryd.isAgg3 (cf_get (by omega))) ?_
    refine RW.yi (.bool (decide ((r1.1 63) = 99))) rfl rfl (Yi.pv _ rfl) ?_
    refine RW.yi (.bool (decide ((r1.1 63) = 99))) rfl rfl (Yi.pv _ rfl) ?_
    refine RW.yi (.bool (decide ((r1.1 63) = 99))) rfl rfl (Yi.pv _ rfl) ?_
    refine RW.fork 21 ((r1.1 63) = 99) rfl (fun h6 => ?_) (fun h6 => ?_)
    · replace hm := (if_pos h6).symm.trans hm
      refine RW.yi (.int .i64 r1.2) rfl rfl (Yi.pv _ rfl) ?_
      refine RW.yi (.bool (decide (r1.2 = 0))) rfl rfl (Yi.pv _ rfl) ?_
      refine RW.yi (.bool (decide (r1.2 = 0))) rfl rfl (Yi.pv _ rfl) ?_
      refine RW.yi (.bool (decide (r1.2 = 0))) rfl rfl (Yi.pv _ rfl) ?_
      refine RW.fork 25 (r1.2 = 0) rfl (fun h7 => ?_) (fun h7 => ?_)
      · replace hm := (if_pos h7).symm.trans hm
        refine RW.yi (.int .i64 r3.2) rfl rfl (Yi.pv _ rfl) ?_
        refine RW.yi (.bool (decide (r3.2 = 2))) rfl rfl (Yi.pv _ rfl) ?_
        refine RW.yi (.bool (decide (r3.2 = 2))) rfl rfl (Yi.pv _ rfl) ?_
        refine RW.yi (.bool (decide (r3.2 = 2))) rfl rfl (Yi.pv _ rfl) ?_
        refine RW.fork 29 (r3.2 = 2) rfl (fun h8 => ?_) (fun h8 => ?_)
        · replace hm := (if_pos h8).symm.trans hm
          refine RW.ca (.int .i64 (rnd (-3) 2)) rfl rfl (Ca.call rfl rfl Tryd.call9 (fun w _ => c_Round (-3) 2 w)) ?_
          refine RW.yi (.bool (decide ((rnd (-3) 2) = (-2)))) rfl rfl (Yi.pv _ rfl) ?_
          refine RW.yi (.bool (decide ((rnd (-3) 2) = (-2)))) rfl rfl (Yi.pv _ rfl) ?_
          refine RW.yi (.bool (decide ((rnd (-3) 2) = (-2)))) rfl rfl (Yi.pv _ rfl) ?_
          refine RW.nil ?_
          refine EW.next ?_
          refine CW.ret ?_
          obtain rfl := Option.some.inj hm
          exact EW.done (rs := [.tmp 0]) rfl (.tmp (t := 0) (v := .bool (decide ((rnd (-3) 2) = (-2)))) rfl .nil) (fun _ hM => ⟨rfl, hM.below⟩)
        · replace hm := (if_neg h8).symm.trans hm
          refine RW.pass rfl rfl ?_
          refine RW.pass rfl rfl ?_
          refine RW.yi (.bool false) rfl rfl (Yi.pv _ rfl) ?_
          refine RW.yi (.bool false) rfl rfl (Yi.pv _ rfl) ?_
          refine RW.nil ?_
          refine EW.next ?_
          refine CW.ret ?_
          obtain rfl := Option.some.inj hm
          exact EW.done (rs := [.tmp 0]) rfl (.tmp (t := 0) (v := .bool false) rfl .nil) (fun _ hM => ⟨rfl, hM.below⟩)
      · replace hm := (if_neg h7).symm.trans hm
        refine RW.pass rfl rfl ?_
        refine RW.pass rfl rfl ?_
        refine RW.yi (.bool false) rfl rfl (Yi.pv _ rfl) ?_
        refine RW.yi (.bool false) rfl rfl (Yi.pv _ rfl) ?_
        refine RW.pass rfl rfl ?_
        refine RW.pass rfl rfl ?_
        refine RW.yi (.bool false) rfl rfl (Yi.pv _ rfl) ?_
        refine RW.yi (.bool false) rfl rfl (Yi.pv _ rfl) ?_
        refine RW.nil ?_
        refine EW.next ?_
        refine CW.ret ?_
        obtain rfl := Option.some.inj hm
        exact EW.done (rs := [.tmp 0]) rfl (.tmp (t := 0) (v := .bool false) rfl .nil) (fun _ hM => ⟨rfl, hM.below⟩)
    · replace hm := (if_neg h6).symm.trans hm
      refine RW.pass rfl rfl ?_
      refine RW.pass rfl rfl ?_
      refine RW.yi (.bool false) rfl rfl (Yi.pv _ rfl) ?_
      refine RW.yi (.bool false) rfl rfl (Yi.pv _ rfl) ?_
      refine RW.pass rfl rfl ?_
      refine RW.pass rfl rfl ?_
      refine RW.yi (.bool false) rfl rfl (Yi.pv _ rfl) ?_
      refine RW.yi (.bool false) rfl rfl (Yi.pv _ rfl) ?_
      refine RW.pass rfl rfl ?_
      refine RW.pass rfl rfl ?_
      refine RW.yi (.bool false) rfl rfl (Yi.pv _ rfl) ?_
      refine RW.yi (.bool false) rfl rfl (Yi.pv _ rfl) ?_
      refine RW.nil ?_
      refine EW.next ?_
      refine CW.ret ?_
      obtain rfl := Option.some.inj hm
      exact EW.done (rs := [.tmp 0]) rfl (.tmp (t := 0) (v := .bool false) rfl .nil) (fun _ hM => ⟨rfl, hM.below⟩)
  · replace hm := (if_neg h5).symm.trans hm
    refine RW.pass rfl rfl ?_
    refine RW.pass rfl rfl ?_
    refine RW.pass rfl rfl ?_
    refine RW.yi (.bool false) rfl rfl (Yi.pv _ rfl) ?_
    refine RW.yi (.bool false) rfl rfl (Yi.pv _ rfl) ?_
    refine RW.pass rfl rfl ?_
    refine RW.pass rfl rfl ?_
    refine RW.yi (.bool false) rfl rfl (Yi.pv _ rfl) ?_
    refine RW.yi (.bool false) rfl rfl (Yi.pv _ rfl) ?_
    refine RW.pass rfl rfl ?_
    refine RW.pass rfl rfl ?_
    refine RW.yi (.bool false) rfl rfl (Yi.pv _ rfl) ?_
    refine RW.yi (.bool false) rfl rfl (Yi.pv _ rfl) ?_
    refine RW.pass rfl rfl ?_
    refine RW.pass rfl rfl ?_
    refine RW.yi (.bool false) rfl rfl (Yi.pv _ rfl) ?_
    refine RW.yi (.bool false) rfl rfl (Yi.pv _ rfl) ?_
    refine RW.nil ?_
    refine EW.next ?_
    refine CW.ret ?_
    obtain rfl := Option.some.inj hm
    exact EW.done (rs := [.tmp 0]) rfl (.tmp (t := 0) (v := .bool false) rfl .nil) (fun _ hM => ⟨rfl, hM.below⟩)
def lawQuantRounds (K : Nat) (a0_n : Int) (a1_d : Int) : Option (Bool) :=
  (if (rnd a0_n a1_d) = (rnd a0_n a1_d) then ((awake8 K ).bind fun r2 => some r2) else some false)

theorem c_lawQuantRounds (K : Nat) (a0_n : Int) (a1_d : Int) (r : Bool) (w0 : World) (hG : Gl GG w0) (hm : lawQuantRounds K a0_n a1_d = some r) : Calls Tryd.prog 3 #[.int .i64 a0_n, .int .i64 a1_d] w0 fun e w' => e = .returned (.bool r) ∧ Below w0.heap.size w0 w' := by
  unfold lawQuantRounds at hm
  refine calls_CW (n := 15) w0 [] [] Tryd.func3 rfl rfl rfl (Mem.begin w0) ?_
  refine CW.seq ?_
  refine CW.region ?_
  refine RW.yi (.bool false) rfl rfl (Yi.pv _ rfl) ?_
  refine RW.nil ?_
  refine EW.next ?_
  refine CW.seq ?_
  refine CW.region ?_
  refine RW.yi (.int .i64 a0_n) rfl rfl (Yi.pv _ rfl) ?_
  refine RW.yi (.int .i64 a1_d) rfl rfl (Yi.pv _ rfl) ?_
  refine RW.ca (.int .i64 (rnd a0_n a1_d)) rfl rfl (Ca.call rfl rfl Tryd.call9 (fun w _ => c_Round a0_n a1_d w)) ?_
  refine RW.yi (.int .i64 a0_n) rfl rfl (Yi.pv _ rfl) ?_
  refine RW.yi (.int .i64 a1_d) rfl rfl (Yi.pv _ rfl) ?_
  refine RW.ca (.int .i64 (rnd a0_n a1_d)) rfl rfl (Ca.call rfl rfl Tryd.call10 (fun w _ => c_rRound a0_n a1_d w)) ?_
  refine RW.yi (.bool (decide ((rnd a0_n a1_d) = (rnd a0_n a1_d)))) rfl rfl (Yi.pv _ rfl) ?_
  refine RW.yi (.bool (decide ((rnd a0_n a1_d) = (rnd a0_n a1_d)))) rfl rfl (Yi.pv _ rfl) ?_
  refine RW.fork 12 ((rnd a0_n a1_d) = (rnd a0_n a1_d)) rfl (fun h1 => ?_) (fun h1 => ?_)
  · replace hm := (if_pos h1).symm.trans hm
    obtain ⟨r2, hr2, hm⟩ := of_bind hm
    refine RW.ca (.bool r2) rfl rfl (Ca.call rfl rfl Tryd.call11 (fun w hM => c_awake8 K  r2 w (hG.keep hM rfl) hr2)) ?_
    refine RW.yi (.bool r2) rfl rfl (Yi.pv _ rfl) ?_
    refine RW.yi (.bool r2) rfl rfl (Yi.pv _ rfl) ?_
    refine RW.nil ?_
    refine EW.next ?_
    refine CW.ret ?_
    obtain rfl := Option.some.inj hm
    exact EW.done (rs := [.tmp 4]) rfl (.tmp (t := 4) (v := .bool r2) rfl .nil) (fun _ hM => ⟨rfl, hM.below⟩)
  · replace hm := (if_neg h1).symm.trans hm
    refine RW.pass rfl rfl ?_
    refine RW.yi (.bool false) rfl rfl (Yi.pv _ rfl) ?_
    refine RW.yi (.bool false) rfl rfl (Yi.pv _ rfl) ?_
    refine RW.nil ?_
    refine EW.next ?_
    refine CW.ret ?_
    obtain rfl := Option.some.inj hm
    exact EW.done (rs := [.tmp 4]) rfl (.tmp (t := 4) (v := .bool false) rfl .nil) (fun _ hM => ⟨rfl, hM.below⟩)
def lawQuantFiner_j1 (K : Nat)    : Option (Bool) :=
  ((awake8 K ).bind fun r11 => some r11)

def lawQuantFiner_l1 (K : Nat) (r1 : ((Nat → Int) × Int)) (r3 : ((Nat → Int) × Int)) : Nat → Int →  Option (Bool)
  | 0, _ => none
  | k1 + 1, v12 =>
    (if v12 < 64 then (if 0 ≤ v12 ∧ v12 < 64 then (if (r1.1 v12.toNat) < (r3.1 v12.toNat) then some false else (lawQuantFiner_l1 K r1 r3 k1) (w64 (v12 + 1))) else none) else lawQuantFiner_j1 K)

def lawQuantFiner (K : Nat) (a0_colour : Bool) (a1_a : Int) (a2_b : Int) : Option (Bool) :=
  ((qSteps K a0_colour a1_a).bind fun r1 => ((qSteps K a0_colour a2_b).bind fun r3 => (if ¬ r1.2 = 0 then ((awake8 K ).bind fun r6 => some r6) else (if ¬ r3.2 = 0 then ((awake8 K ).bind fun r8 => some r8) else (if a2_b < a1_a then ((awake8 K ).bind fun r10 => some r10) else lawQuantFiner_l1 K r1 r3 K 0)))))

theorem c_lawQuantFiner (K : Nat) (a0_colour : Bool) (a1_a : Int) (a2_b : Int) (r : Bool) (w0 : World) (hG : Gl GG w0) (hm : lawQuantFiner K a0_colour a1_a a2_b = some r) : Calls Tryd.prog 4 #[.bool a0_colour, .int .i64 a1_a, .int .i64 a2_b] w0 fun e w' => e = .returned (.bool r) ∧ Below w0.heap.size w0 w' := by
  unfold lawQuantFiner at hm
  refine calls_CW (n := 48) w0 [] [] Tryd.func4 rfl rfl rfl (Mem.begin w0) ?_
  refine CW.seq ?_
  refine CW.region ?_
  refine RW.yi (.bool false) rfl rfl (Yi.pv _ rfl) ?_
  refine RW.nil ?_
  refine EW.next ?_
  refine CW.seq ?_
  refine CW.region ?_
  refine RW.yi (.bool a0_colour) rfl rfl (Yi.pv _ rfl) ?_
  refine RW.yi (.int .i64 a1_a) rfl rfl (Yi.pv _ rfl) ?_
  obtain ⟨r1, hr1, hm⟩ := of_bind hm
  refine RW.ca (.tuple #[.agg (cf 64 (iv r1.1)), .int .i64 r1.2]) rfl rfl (Ca.call rfl rfl Tryd.call12 (fun w hM => c_qSteps K a0_colour a1_a r1 w (hG.keep hM rfl) hr1)) ?_
  refine RW.yi (.tuple #[.agg (cf 64 (iv r1.1)), .int .i64 r1.2]) rfl rfl (Yi.pv _ rfl) ?_
  refine RW.yi (.agg (cf 64 (iv r1.1))) rfl rfl (Yi.pv _ rfl) ?_
  refine RW.yi (.int .i64 r1.2) rfl rfl (Yi.pv _ rfl) ?_
  refine RW.alloc (z := .agg (cf 64 (iv zf))) (cf 64 (iv zf)) rfl rfl (fun _ => by kernel_rfl) rfl (fun b2 => ?_)
  refine RW.storeW (i := 0) (cs' := cf 64 (iv r1.1)) rfl rfl rfl rfl (by rw [cf_size]; kernel_rfl) (by simp only [cf_size]) (iv_one _ _) ?_
  refine RW.yi (.int .i64 r1.2) rfl rfl (Yi.pv _ rfl) ?_
  refine RW.nil ?_
  refine EW.next ?_
  refine CW.seq ?_
  refine CW.region ?_
  refine RW.yi (.bool a0_colour) rfl rfl (Yi.pv _ rfl) ?_
  refine RW.yi (.int .i64 a2_b) rfl rfl (Yi.pv _ rfl) ?_
  obtain ⟨r3, hr3, hm⟩ := of_bind hm
  refine RW.ca (.tuple #[.agg (cf 64 (iv r3.1)), .int .i64 r3.2]) rfl rfl (Ca.call rfl rfl Tryd.call12 (fun w hM => c_qSteps K a0_colour a2_b r3 w (hG.keep hM rfl) hr3)) ?_
  refine RW.yi (.tuple #[.agg (cf 64 (iv r3.1)), .int .i64 r3.2]) rfl rfl (Yi.pv _ rfl) ?_
  refine RW.yi (.agg (cf 64 (iv r3.1))) rfl rfl (Yi.pv _ rfl) ?_
  refine RW.yi (.int .i64 r3.2) rfl rfl (Yi.pv _ rfl) ?_
  refine RW.alloc (z := .agg (cf 64 (iv zf))) (cf 64 (iv zf)) rfl rfl (fun _ => by kernel_rfl) rfl (fun b4 => ?_)
  refine RW.storeW (i := 0) (cs' := cf 64 (iv r3.1)) rfl rfl rfl rfl (by rw [cf_size]; kernel_rfl) (by simp only [cf_size]) (iv_one _ _) ?_
  refine RW.yi (.int .i64 r3.2) rfl rfl (Yi.pv _ rfl) ?_
  refine RW.nil ?_
  refine EW.next ?_
  refine CW.seq ?_
  refine CW.seq ?_
  refine CW.region ?_
  refine RW.yi (.int .i64 r1.2) rfl rfl (Yi.pv _ rfl) ?_
  refine RW.yi (.bool (decide (¬ r1.2 = 0))) rfl rfl (Yi.pv _ rfl) ?_
  refine RW.yi (.bool (decide (¬ r1.2 = 0))) rfl rfl (Yi.pv _ rfl) ?_
  refine RW.fork 26 (¬ r1.2 = 0) rfl (fun h5 => ?_) (fun h5 => ?_)
  · replace hm := (if_pos h5).symm.trans hm
    refine RW.pass rfl rfl ?_
    refine RW.pass rfl rfl ?_
    refine RW.yi (.bool true) rfl rfl (Yi.pv _ rfl) ?_
    refine RW.yi (.bool true) rfl rfl (Yi.pv _ rfl) ?_
    refine RW.pass rfl rfl ?_
    refine RW.pass rfl rfl ?_
    refine RW.pass rfl rfl ?_
    refine RW.yi (.bool true) rfl rfl (Yi.pv _ rfl) ?_
    refine RW.nil ?_
    refine EW.next ?_
    refine CW.cond_true rfl ?_
    refine CW.seq ?_
    refine CW.region ?_
    obtain ⟨r6, hr6, hm⟩ := of_bind hm
    refine RW.ca (.bool r6) rfl rfl (Ca.call rfl rfl Tryd.call11 (fun w hM => c_awake8 K  r6 w (hG.keep hM rfl) hr6)) ?_
    refine RW.yi (.bool r6) rfl rfl (Yi.pv _ rfl) ?_
    refine RW.nil ?_
    refine EW.next ?_
    refine CW.ret ?_
    refine EW.thr ?_
    obtain rfl := Option.some.inj hm
    exact EW.done (rs := [.tmp 6]) rfl (.tmp (t := 6) (v := .bool r6) rfl .nil) (fun _ hM => ⟨rfl, hM.below⟩)
  · replace hm := (if_neg h5).symm.trans hm
    refine RW.yi (.int .i64 r3.2) rfl rfl (Yi.pv _ rfl) ?_
    refine RW.yi (.bool (decide (¬ r3.2 = 0))) rfl rfl (Yi.pv _ rfl) ?_
    refine RW.yi (.bool (decide (¬ r3.2 = 0))) rfl rfl (Yi.pv _ rfl) ?_
    refine RW.yi (.bool (decide (¬ r3.2 = 0))) rfl rfl (Yi.pv _ rfl) ?_
    refine RW.fork 30 (¬ r3.2 = 0) rfl (fun h7 => ?_) (fun h7 => ?_)
    · replace hm := (if_pos h7).symm.trans hm
      refine RW.pass rfl rfl ?_
      refine RW.pass rfl rfl ?_
      refine RW.pass rfl rfl ?_
      refine RW.yi (.bool true) rfl rfl (Yi.pv _ rfl) ?_
      refine RW.nil ?_
      refine EW.next ?_
      refine CW.cond_true rfl ?_
      refine CW.seq ?_
      refine CW.region ?_
      obtain ⟨r8, hr8, hm⟩ := of_bind hm
      refine RW.ca (.bool r8) rfl rfl (Ca.call rfl rfl Tryd.call11 (fun w hM => c_awake8 K  r8 w (hG.keep hM rfl) hr8)) ?_
      refine RW.yi (.bool r8) rfl rfl (Yi.pv _ rfl) ?_
      refine RW.nil ?_
      refine EW.next ?_
      refine CW.ret ?_
      refine EW.thr ?_
      obtain rfl := Option.some.inj hm
      exact EW.done (rs := [.tmp 6]) rfl (.tmp (t := 6) (v := .bool r8) rfl .nil) (fun _ hM => ⟨rfl, hM.below⟩)
    · replace hm := (if_neg h7).symm.trans hm
      refine RW.yi (.int .i64 a1_a) rfl rfl (Yi.pv _ rfl) ?_
      refine RW.yi (.int .i64 a2_b) rfl rfl (Yi.pv _ rfl) ?_
      refine RW.yi (.bool (decide (a2_b < a1_a))) rfl rfl (Yi.pv _ rfl) ?_
      refine RW.yi (.bool (decide (a2_b < a1_a))) rfl rfl (Yi.pv _ rfl) ?_
      refine RW.nil ?_
      refine EW.next ?_
      refine CW.fork 34 (a2_b < a1_a) rfl (fun h9 => ?_) (fun h9 => ?_)
      · replace hm := (if_pos h9).symm.trans hm
        refine CW.cond_true rfl ?_
        refine CW.seq ?_
        refine CW.region ?_
        obtain ⟨r10, hr10, hm⟩ := of_bind hm
        refine RW.ca (.bool r10) rfl rfl (Ca.call rfl rfl Tryd.call11 (fun w hM => c_awake8 K  r10 w (hG.keep hM rfl) hr10)) ?_
        refine RW.yi (.bool r10) rfl rfl (Yi.pv _ rfl) ?_
        refine RW.nil ?_
        refine EW.next ?_
        refine CW.ret ?_
        refine EW.thr ?_
        obtain rfl := Option.some.inj hm
        exact EW.done (rs := [.tmp 6]) rfl (.tmp (t := 6) (v := .bool r10) rfl .nil) (fun _ hM => ⟨rfl, hM.below⟩)
      · replace hm := (if_neg h9).symm.trans hm
        refine CW.cond_false rfl ?_
        refine CW.skip ?_
        refine EW.next ?_
        refine CW.join (fun a w => St 48 [] a ∧ Mem w0 [] [] w ∧ lawQuantFiner_j1 K = some r) ?_ ?_
        · refine CW.seq ?_
          refine CW.region ?_
          refine RW.yi (.int .i64 0) rfl rfl (Yi.pv _ rfl) ?_
          refine RW.nil ?_
          refine EW.next ?_
          refine CW.block ?_
          refine CW.loop (fun k a w => ∃ (v12 : Int), St 48 [(7, .pointer (some ⟨b2, 0, none⟩)), (9, .pointer (some ⟨b4, 0, none⟩)), (36, .int .i64 v12)] a ∧ Mem w0 [] [.blk b4 26 (cf 64 (iv r3.1)), .blk b2 26 (cf 64 (iv r1.1))] w ∧ lawQuantFiner_l1 K r1 r3 k v12 = some r) K ?_ ?_ ?_
          · rintro a w ⟨_, _, _, hm⟩
            rw [lawQuantFiner_l1.eq_1] at hm
            cases hm
          · exact fun a w hs hM => ⟨0, hs.sub ⟨rfl, rfl, rfl, trivial⟩, hM.sub (.cons_cons _ (.cons_cons _ .slnil)), hm⟩
          · rintro k1 a w ⟨v12, hs, hM, hm⟩
            rw [lawQuantFiner_l1.eq_2] at hm
            refine CW.enter hs hM ?_
            refine CW.seq ?_
            refine CW.region ?_
            refine RW.yi (.bool (decide (v12 < 64))) rfl rfl (Yi.pv _ rfl) ?_
            refine RW.nil ?_
            refine EW.next ?_
            refine CW.seq ?_
            refine CW.fork 37 (v12 < 64) rfl (fun h13 => ?_) (fun h13 => ?_)
            · replace hm := (if_pos h13).symm.trans hm
              refine CW.cond_true rfl ?_
              refine CW.skip ?_
              refine EW.next ?_
              refine CW.seq ?_
              refine CW.block ?_
              refine CW.seq ?_
              refine CW.region ?_
              refine RW.yi (.int .i64 v12) rfl rfl (Yi.pv _ rfl) ?_
              refine RW.yi (.int .i64 v12) rfl rfl (Yi.pv _ rfl) ?_
              refine RW.nil ?_
              refine EW.next ?_
              refine CW.seq ?_
              refine CW.draws (by kernel_rfl) (by kernel_rfl) ?_
              refine QW.yi (.int .i64 v12) rfl rfl (Yi.pv _ rfl) ?_
              obtain ⟨g14, hm⟩ := of_guard hm
              refine QW.yi (.pointer (some ⟨b4, v12.toNat, none⟩)) rfl rfl (Yi.indexAddr' _ Tryd.underlying26 Tryd.sizeOf3 rfl rfl g14.1 g14.2 (by omega)) ?_
              refine QW.yi (.int .i64 (r3.1 v12.toNat)) rfl rfl (Yi.load1 (i := 0) _ rfl rfl Tryd.isAgg3 (cf_get (by omega))) ?_
              refine QW.yi (.int .i64 v12) rfl rfl (Yi.pv _ rfl) ?_
              refine QW.yi (.pointer (some ⟨b2, v12.toNat, none⟩)) rfl rfl (Yi.indexAddr' _ Tryd.underlying26 Tryd.sizeOf3 rfl rfl g14.1 g14.2 (by omega)) ?_
              refine QW.yi (.int .i64 (r1.1 v12.toNat)) rfl rfl (Yi.load1 (i := 1) _ rfl rfl Tryd.isAgg3 (cf_get (by omega))) ?_
              refine QW.yi (.bool (decide ((r1.1 v12.toNat) < (r3.1 v12.toNat)))) rfl rfl (Yi.pv _ rfl) ?_
              refine QW.nil ?_
              refine EW.next ?_
              refine CW.fork 45 ((r1.1 v12.toNat) < (r3.1 v12.toNat)) rfl (fun h15 => ?_) (fun h15 => ?_)
              · replace hm := (if_pos h15).symm.trans hm
                refine CW.cond_true rfl ?_
                refine CW.seq ?_
                refine CW.region ?_
                refine RW.yi (.bool false) rfl rfl (Yi.pv _ rfl) ?_
                refine RW.nil ?_
                refine EW.next ?_
                refine CW.ret ?_
                refine EW.blr ?_
                refine EW.thr ?_
                refine EW.thr ?_
                refine EW.blr ?_
                refine EW.thr ?_
                obtain rfl := Option.some.inj hm
                exact EW.done (rs := [.tmp 6]) rfl (.tmp (t := 6) (v := .bool false) rfl .nil) (fun _ hM => ⟨rfl, hM.below⟩)
              · replace hm := (if_neg h15).symm.trans hm
                refine CW.cond_false rfl ?_
                refine CW.skip ?_
                refine EW.bln ?_
                refine EW.next ?_
                refine CW.region ?_
                refine RW.yi (.int .i64 (w64 (v12 + 1))) rfl rfl (Yi.pv _ rfl) ?_
                refine RW.yi (.int .i64 (w64 (v12 + 1))) rfl rfl (Yi.pv _ rfl) ?_
                refine RW.nil ?_
                refine EW.thn ?_
                exact fun a w hs hM => ⟨(w64 (v12 + 1)), hs.sub ⟨rfl, rfl, rfl, trivial⟩, hM.sub (.cons_cons _ (.cons_cons _ .slnil)), hm⟩
            · replace hm := (if_neg h13).symm.trans hm
              refine CW.cond_false rfl ?_
              refine CW.exit ?_
              refine EW.thx ?_
              refine EW.thx ?_
              refine EW.blx ?_
              refine EW.thn ?_
              exact fun a w hs hM => ⟨hs.sub trivial, hM.sub (.cons _ (.cons _ .slnil)), hm⟩
        · rintro a w ⟨hs, hM, hm⟩
          unfold lawQuantFiner_j1 at hm
          refine CW.enter hs hM ?_
          refine CW.seq ?_
          refine CW.region ?_
          obtain ⟨r11, hr11, hm⟩ := of_bind hm
          refine RW.ca (.bool r11) rfl rfl (Ca.call rfl rfl Tryd.call11 (fun w hM => c_awake8 K  r11 w (hG.keep hM rfl) hr11)) ?_
          refine RW.yi (.bool r11) rfl rfl (Yi.pv _ rfl) ?_
          refine RW.nil ?_
          refine EW.next ?_
          refine CW.ret ?_
          obtain rfl := Option.some.inj hm
          exact EW.done (rs := [.tmp 6]) rfl (.tmp (t := 6) (v := .bool r11) rfl .nil) (fun _ hM => ⟨rfl, hM.below⟩)
def lawQuantMoves (K : Nat) (a0_b : (Nat → Int)) (a1_steps : (Nat → Int)) : Option (Bool) :=
  ((qDown K a0_b a1_steps).bind fun r3 => ((rDown K a0_b a1_steps).bind fun r5 => ((qUp K a0_b a1_steps).bind fun r7 => ((rUp K a0_b a1_steps).bind fun r9 => (if eqF 64 r3.1 r5.1 then (if r3.2 = r5.2 then (if eqF 64 r7.1 r9.1 then (if r7.2 = r9.2 then ((awake8 K ).bind fun r15 => some r15) else some false) else some false) else some false) else some false)))))

theorem c_lawQuantMoves (K : Nat) (a0_b : (Nat → Int)) (a1_steps : (Nat → Int)) (r : Bool) (w0 : World) (hG : Gl GG w0) (hm : lawQuantMoves K a0_b a1_steps = some r) : Calls Tryd.prog 6 #[.agg (cf 64 (iv a0_b)), .agg (cf 64 (iv a1_steps))] w0 fun e w' => e = .returned (.bool r) ∧ Below w0.heap.size w0 w' := by
  unfold lawQuantMoves at hm
  refine calls_CW (n := 58) w0 [] [] Tryd.func6 rfl rfl rfl (Mem.begin w0) ?_
  refine CW.seq ?_
  refine CW.region ?_
  refine RW.box (v := .agg (cf 64 (iv a0_b))) rfl rfl rfl (fun b1 => ?_)
  refine RW.box (v := .agg (cf 64 (iv a1_steps))) rfl rfl rfl (fun b2 => ?_)
  refine RW.yi (.bool false) rfl rfl (Yi.pv _ rfl) ?_
  refine RW.nil ?_
  refine EW.next ?_
  refine CW.seq ?_
  refine CW.region ?_
  refine RW.yi (.agg (cf 64 (iv a0_b))) rfl rfl (Yi.loadW (i := 1) rfl rfl Tryd.isAgg26 Tryd.sizeOf26) ?_
  refine RW.yi (.agg (cf 64 (iv a1_steps))) rfl rfl (Yi.loadW (i := 0) rfl rfl Tryd.isAgg26 Tryd.sizeOf26) ?_
  obtain ⟨r3, hr3, hm⟩ := of_bind hm
  refine RW.ca (.tuple #[.agg (cf 64 (iv r3.1)), .int .i64 r3.2]) rfl rfl (Ca.call rfl rfl Tryd.call16 (fun w _ => c_qDown K a0_b a1_steps r3 w hr3)) ?_
  refine RW.yi (.tuple #[.agg (cf 64 (iv r3.1)), .int .i64 r3.2]) rfl rfl (Yi.pv _ rfl) ?_
  refine RW.yi (.agg (cf 64 (iv r3.1))) rfl rfl (Yi.pv _ rfl) ?_
  refine RW.yi (.int .i64 r3.2) rfl rfl (Yi.pv _ rfl) ?_
  refine RW.alloc (z := .agg (cf 64 (iv zf))) (cf 64 (iv zf)) rfl rfl (fun _ => by kernel_rfl) rfl (fun b4 => ?_)
  refine RW.storeW (i := 0) (cs' := cf 64 (iv r3.1)) rfl rfl rfl rfl (by rw [cf_size]; kernel_rfl) (by simp only [cf_size]) (iv_one _ _) ?_
  refine RW.yi (.int .i64 r3.2) rfl rfl (Yi.pv _ rfl) ?_
  refine RW.nil ?_
  refine EW.next ?_
  refine CW.seq ?_
  refine CW.region ?_
  refine RW.yi (.agg (cf 64 (iv a0_b))) rfl rfl (Yi.loadW (i := 2) rfl rfl Tryd.isAgg26 Tryd.sizeOf26) ?_
  refine RW.yi (.agg (cf 64 (iv a1_steps))) rfl rfl (Yi.loadW (i := 1) rfl rfl Tryd.isAgg26 Tryd.sizeOf26) ?_
  obtain ⟨r5, hr5, hm⟩ := of_bind hm
  refine RW.ca (.tuple #[.agg (cf 64 (iv r5.1)), .int .i64 r5.2]) rfl rfl (Ca.call rfl rfl Tryd.call17 (fun w _ => c_rDown K a0_b a1_steps r5 w hr5)) ?_
  refine RW.yi (.tuple #[.agg (cf 64 (iv r5.1)), .int .i64 r5.2]) rfl rfl (Yi.pv _ rfl) ?_
  refine RW.yi (.agg (cf 64 (iv r5.1))) rfl rfl (Yi.pv _ rfl) ?_
  refine RW.yi (.int .i64 r5.2) rfl rfl (Yi.pv _ rfl) ?_
  refine RW.alloc (z := .agg (cf 64 (iv zf))) (cf 64 (iv zf)) rfl rfl (fun _ => by kernel_rfl) rfl (fun b6 => ?_)
  refine RW.storeW (i := 0) (cs' := cf 64 (iv r5.1)) rfl rfl rfl rfl (by rw [cf_size]; kernel_rfl) (by simp only [cf_size]) (iv_one _ _) ?_
  refine RW.yi (.int .i64 r5.2) rfl rfl (Yi.pv _ rfl) ?_
  refine RW.nil ?_
  refine EW.next ?_
  refine CW.seq ?_
  refine CW.region ?_
  refine RW.yi (.agg (cf 64 (iv a0_b))) rfl rfl (Yi.loadW (i := 3) rfl rfl Tryd.isAgg26 Tryd.sizeOf26) ?_
  refine RW.yi (.agg (cf 64 (iv a1_steps))) rfl rfl (Yi.loadW (i := 2) rfl rfl Tryd.isAgg26 Tryd.sizeOf26) ?_
  obtain ⟨r7, hr7, hm⟩ := of_bind hm
  refine RW.ca (.tuple #[.agg (cf 64 (iv r7.1)), .int .i64 r7.2]) rfl rfl (Ca.call rfl rfl Tryd.call18 (fun w _ => c_qUp K a0_b a1_steps r7 w hr7)) ?_
  refine RW.yi (.tuple #[.agg (cf 64 (iv r7.1)), .int .i64 r7.2]) rfl rfl (Yi.pv _ rfl) ?_
  refine RW.yi (.agg (cf 64 (iv r7.1))) rfl rfl (Yi.pv _ rfl) ?_
  refine RW.yi (.int .i64 r7.2) rfl rfl (Yi.pv _ rfl) ?_
  refine RW.alloc (z := .agg (cf 64 (iv zf))) (cf 64 (iv zf)) rfl rfl (fun _ => by kernel_rfl) rfl (fun b8 => ?_)
  refine RW.storeW (i := 0) (cs' := cf 64 (iv r7.1)) rfl rfl rfl rfl (by rw [cf_size]; kernel_rfl) (by simp only [cf_size]) (iv_one _ _) ?_
  refine RW.yi (.int .i64 r7.2) rfl rfl (Yi.pv _ rfl) ?_
  refine RW.nil ?_
  refine EW.next ?_
  refine CW.seq ?_
  refine CW.region ?_
  refine RW.yi (.agg (cf 64 (iv a0_b))) rfl rfl (Yi.loadW (i := 4) rfl rfl Tryd.isAgg26 Tryd.sizeOf26) ?_
  refine RW.yi (.agg (cf 64 (iv a1_steps))) rfl rfl (Yi.loadW (i := 3) rfl rfl Tryd.isAgg26 Tryd.sizeOf26) ?_
  obtain ⟨r9, hr9, hm⟩ := of_bind hm
  refine RW.ca (.tuple #[.agg (cf 64 (iv r9.1)), .int .i64 r9.2]) rfl rfl (Ca.call rfl rfl Tryd.call19 (fun w _ => c_rUp K a0_b a1_steps r9 w hr9)) ?_
  refine RW.yi (.tuple #[.agg (cf 64 (iv r9.1)), .int .i64 r9.2]) rfl rfl (Yi.pv _ rfl) ?_
  refine RW.yi (.agg (cf 64 (iv r9.1))) rfl rfl (Yi.pv _ rfl) ?_
  refine RW.yi (.int .i64 r9.2) rfl rfl (Yi.pv _ rfl) ?_
  refine RW.alloc (z := .agg (cf 64 (iv zf))) (cf 64 (iv zf)) rfl rfl (fun _ => by kernel_rfl) rfl (fun b10 => ?_)
  refine RW.storeW (i := 0) (cs' := cf 64 (iv r9.1)) rfl rfl rfl rfl (by rw [cf_size]; kernel_rfl) (by simp only [cf_size]) (iv_one _ _) ?_
  refine RW.yi (.int .i64 r9.2) rfl rfl (Yi.pv _ rfl) ?_
  refine RW.nil ?_
  refine EW.next ?_
  refine CW.seq ?_
  refine CW.region ?_
  refine RW.yi (.agg (cf 64 (iv r3.1))) rfl rfl (Yi.loadW (i := 3) rfl rfl Tryd.isAgg26 Tryd.sizeOf26) ?_
  refine RW.yi (.agg (cf 64 (iv r5.1))) rfl rfl (Yi.loadW (i := 2) rfl rfl Tryd.isAgg26 Tryd.sizeOf26) ?_
  refine RW.yi (.bool (decide (eqF 64 r3.1 r5.1))) rfl rfl (Yi.eqA Tryd.underlying26 Tryd.eqGuardType26 Tryd.underlying3 Tryd.sizeOf3 Tryd.isAgg3 rfl rfl) ?_
  refine RW.yi (.bool (decide (eqF 64 r3.1 r5.1))) rfl rfl (Yi.pv _ rfl) ?_
  refine RW.fork 40 (eqF 64 r3.1 r5.1) rfl (fun h11 => ?_) (fun h11 => ?_)
  · replace hm := (if_pos h11).symm.trans hm
    refine RW.yi (.int .i64 r3.2) rfl rfl (Yi.pv _ rfl) ?_
    refine RW.yi (.int .i64 r5.2) rfl rfl (Yi.pv _ rfl) ?_
    refine RW.yi (.bool (decide (r3.2 = r5.2))) rfl rfl (Yi.pv _ rfl) ?_
    refine RW.yi (.bool (decide (r3.2 = r5.2))) rfl rfl (Yi.pv _ rfl) ?_
    refine RW.yi (.bool (decide (r3.2 = r5.2))) rfl rfl (Yi.pv _ rfl) ?_
    refine RW.fork 45 (r3.2 = r5.2) rfl (fun h12 => ?_) (fun h12 => ?_)
    · replace hm := (if_pos h12).symm.trans hm
      refine RW.yi (.agg (cf 64 (iv r7.1))) rfl rfl (Yi.loadW (i := 1) rfl rfl Tryd.isAgg26 Tryd.sizeOf26) ?_
      refine RW.yi (.agg (cf 64 (iv r9.1))) rfl rfl (Yi.loadW (i := 0) rfl rfl Tryd.isAgg26 Tryd.sizeOf26) ?_
      refine RW.yi (.bool (decide (eqF 64 r7.1 r9.1))) rfl rfl (Yi.eqA Tryd.underlying26 Tryd.eqGuardType26 Tryd.underlying3 Tryd.sizeOf3 Tryd.isAgg3 rfl rfl) ?_
      refine RW.yi (.bool (decide (eqF 64 r7.1 r9.1))) rfl rfl (Yi.pv _ rfl) ?_
      refine RW.yi (.bool (decide (eqF 64 r7.1 r9.1))) rfl rfl (Yi.pv _ rfl) ?_
      refine RW.fork 50 (eqF 64 r7.1 r9.1) rfl (fun h13 => ?_) (fun h13 => ?_)
      · replace hm := (if_pos h13).symm.trans hm
        refine RW.yi (.int .i64 r7.2) rfl rfl (Yi.pv _ rfl) ?_
        refine RW.yi (.int .i64 r9.2) rfl rfl (Yi.pv _ rfl) ?_
        refine RW.yi (.bool (decide (r7.2 = r9.2))) rfl rfl (Yi.pv _ rfl) ?_
        refine RW.yi (.bool (decide (r7.2 = r9.2))) rfl rfl (Yi.pv _ rfl) ?_
        refine RW.yi (.bool (decide (r7.2 = r9.2))) rfl rfl (Yi.pv _ rfl) ?_
        refine RW.fork 55 (r7.2 = r9.2) rfl (fun h14 => ?_) (fun h14 => ?_)
        · replace hm := (if_pos h14).symm.trans hm
          obtain ⟨r15, hr15, hm⟩ := of_bind hm
          refine RW.ca (.bool r15) rfl rfl (Ca.call rfl rfl Tryd.call11 (fun w hM => c_awake8 K  r15 w (hG.keep hM rfl) hr15)) ?_
          refine RW.yi (.bool r15) rfl rfl (Yi.pv _ rfl) ?_
          refine RW.yi (.bool r15) rfl rfl (Yi.pv _ rfl) ?_
          refine RW.nil ?_
          refine EW.next ?_
          refine CW.ret ?_
          obtain rfl := Option.some.inj hm
          exact EW.done (rs := [.tmp 4]) rfl (.tmp (t := 4) (v := .bool r15) rfl .nil) (fun _ hM => ⟨rfl, hM.below⟩)
        · replace hm := (if_neg h14).symm.trans hm
          refine RW.pass rfl rfl ?_
          refine RW.yi (.bool false) rfl rfl (Yi.pv _ rfl) ?_
          refine RW.yi (.bool false) rfl rfl (Yi.pv _ rfl) ?_
          refine RW.nil ?_
          refine EW.next ?_
          refine CW.ret ?_
          obtain rfl := Option.some.inj hm
          exact EW.done (rs := [.tmp 4]) rfl (.tmp (t := 4) (v := .bool false) rfl .nil) (fun _ hM => ⟨rfl, hM.below⟩)
      · replace hm := (if_neg h13).symm.trans hm
        refine RW.pass rfl rfl ?_
        refine RW.pass rfl rfl ?_
        refine RW.pass rfl rfl ?_
        refine RW.yi (.bool false) rfl rfl (Yi.pv _ rfl) ?_
        refine RW.yi (.bool false) rfl rfl (Yi.pv _ rfl) ?_
        refine RW.pass rfl rfl ?_
        refine RW.yi (.bool false) rfl rfl (Yi.pv _ rfl) ?_
        refine RW.yi (.bool false) rfl rfl (Yi.pv _ rfl) ?_
        refine RW.nil ?_
        refine EW.next ?_
        refine CW.ret ?_
        obtain rfl := Option.some.inj hm
        exact EW.done (rs := [.tmp 4]) rfl (.tmp (t := 4) (v := .bool false) rfl .nil) (fun _ hM => ⟨rfl, hM.below⟩)
    · replace hm := (if_neg h12).symm.trans hm
      refine RW.pass rfl rfl ?_
      refine RW.pass rfl rfl ?_
      refine RW.pass rfl rfl ?_
      refine RW.yi (.bool false) rfl rfl (Yi.pv _ rfl) ?_
      refine RW.yi (.bool false) rfl rfl (Yi.pv _ rfl) ?_
      refine RW.pass rfl rfl ?_
      refine RW.pass rfl rfl ?_
      refine RW.pass rfl rfl ?_
      refine RW.yi (.bool false) rfl rfl (Yi.pv _ rfl) ?_
      refine RW.yi (.bool false) rfl rfl (Yi.pv _ rfl) ?_
      refine RW.pass rfl rfl ?_
      refine RW.yi (.bool false) rfl rfl (Yi.pv _ rfl) ?_
      refine RW.yi (.bool false) rfl rfl (Yi.pv _ rfl) ?_
      refine RW.nil ?_
      refine EW.next ?_
      refine CW.ret ?_
      obtain rfl := Option.some.inj hm
      exact EW.done (rs := [.tmp 4]) rfl (.tmp (t := 4) (v := .bool false) rfl .nil) (fun _ hM => ⟨rfl, hM.below⟩)
  · replace hm := (if_neg h11).symm.trans hm
    refine RW.pass rfl rfl ?_
    refine RW.pass rfl rfl ?_
    refine RW.pass rfl rfl ?_
    refine RW.yi (.bool false) rfl rfl (Yi.pv _ rfl) ?_
    refine RW.yi (.bool false) rfl rfl (Yi.pv _ rfl) ?_
    refine RW.pass rfl rfl ?_
    refine RW.pass rfl rfl ?_
    refine RW.pass rfl rfl ?_
    refine RW.yi (.bool false) rfl rfl (Yi.pv _ rfl) ?_
    refine RW.yi (.bool false) rfl rfl (Yi.pv _ rfl) ?_
    refine RW.pass rfl rfl ?_
    refine RW.pass rfl rfl ?_
    refine RW.pass rfl rfl ?_
    refine RW.yi (.bool false) rfl rfl (Yi.pv _ rfl) ?_
    refine RW.yi (.bool false) rfl rfl (Yi.pv _ rfl) ?_
    refine RW.pass rfl rfl ?_
    refine RW.yi (.bool false) rfl rfl (Yi.pv _ rfl) ?_
    refine RW.yi (.bool false) rfl rfl (Yi.pv _ rfl) ?_
    refine RW.nil ?_
    refine EW.next ?_
    refine CW.ret ?_
    obtain rfl := Option.some.inj hm
    exact EW.done (rs := [.tmp 4]) rfl (.tmp (t := 4) (v := .bool false) rfl .nil) (fun _ hM => ⟨rfl, hM.below⟩)
def lawQuantBack_j2 (K : Nat)    : Option (Bool) :=
  ((awake8 K ).bind fun r11 => some r11)

def lawQuantBack_j3 (_ : Nat) (cb_lawQuantBack_l1 : Int → Option (Bool)) (v12 : Int)  : Option (Bool) :=
  cb_lawQuantBack_l1 (w64 (v12 + 1))

def lawQuantBack_l1 (K : Nat) (a0 : (Nat → Int)) (a1 : (Nat → Int)) (r8 : ((Nat → Int) × Int)) : Nat → Int →  Option (Bool)
  | 0, _ => none
  | k1 + 1, v12 =>
    (if v12 < 64 then (if 0 ≤ v12 ∧ v12 < 64 then (if (a0 v12.toNat) ≤ (w64 (1023 * (a1 v12.toNat))) then (if (w64 ((-1023) * (a1 v12.toNat))) ≤ (a0 v12.toNat) then (if (a1 v12.toNat) < (w64 (2 * (w64 ((a0 v12.toNat) - (r8.1 v12.toNat))))) then some false else (if (a1 v12.toNat) < (w64 ((-2) * (w64 ((a0 v12.toNat) - (r8.1 v12.toNat))))) then some false else lawQuantBack_j3 K (lawQuantBack_l1 K a0 a1 r8 k1) v12)) else lawQuantBack_j3 K (lawQuantBack_l1 K a0 a1 r8 k1) v12) else lawQuantBack_j3 K (lawQuantBack_l1 K a0 a1 r8 k1) v12) else none) else lawQuantBack_j2 K)

def lawQuantBack_j1 (K : Nat)  (a0 : (Nat → Int)) (a1 : (Nat → Int))  : Option (Bool) :=
  ((qDown K a0 a1).bind fun r3 => (if ¬ r3.2 = 0 then (if eqF 64 r3.1 zf then ((awake8 K ).bind fun r7 => some r7) else some false) else ((qUp K r3.1 a1).bind fun r8 => (if ¬ r8.2 = 0 then some false else lawQuantBack_l1 K a0 a1 r8 K 0))))

def lawQuantBack (K : Nat) (a0 : (Nat → Int)) (a1 : (Nat → Int)) : Option (Bool) :=
  ((qUp K a0 a1).bind fun r19 => (if r19.2 = 0 then ((qDown K r19.1 a1).bind fun r22 => (if ¬ eqF 64 r22.1 a0 then some false else (if ¬ r22.2 = 0 then some false else lawQuantBack_j1 K a0 a1))) else lawQuantBack_j1 K a0 a1))

theorem c_lawQuantBack (K : Nat) (a0 : (Nat → Int)) (a1 : (Nat → Int)) (r : Bool) (w0 : World) (hG : Gl GG w0) (hm : lawQuantBack K a0 a1 = some r) : Calls Tryd.prog 7 #[.agg (cf 64 (iv a0)), .agg (cf 64 (iv a1))] w0 fun e w' => e = .returned (.bool r) ∧ Below w0.heap.size w0 w' := by
  unfold lawQuantBack at hm
  refine calls_CW (n := 101) w0 [] [] Tryd.func7 rfl rfl rfl (Mem.begin w0) ?_
  refine CW.seq ?_
  refine CW.region ?_
  refine RW.box (v := .agg (cf 64 (iv a0))) rfl rfl rfl (fun b1 => ?_)
  refine RW.box (v := .agg (cf 64 (iv a1))) rfl rfl rfl (fun b2 => ?_)
  refine RW.yi (.bool false) rfl rfl (Yi.pv _ rfl) ?_
  refine RW.nil ?_
  refine EW.next ?_
  refine CW.join (fun a w => St 101 [(2, .pointer (some ⟨b1, 0, none⟩)), (3, .pointer (some ⟨b2, 0, none⟩))] a ∧ Mem w0 [] [.blk b2 26 (cf 64 (iv a1)), .blk b1 26 (cf 64 (iv a0))] w ∧ lawQuantBack_j1 K a0 a1 = some r) ?_ ?_
  · refine CW.seq ?_
    refine CW.region ?_
    refine RW.yi (.agg (cf 64 (iv a0))) rfl rfl (Yi.loadW (i := 1) rfl rfl Tryd.isAgg26 Tryd.sizeOf26) ?_
    refine RW.yi (.agg (cf 64 (iv a1))) rfl rfl (Yi.loadW (i := 0) rfl rfl Tryd.isAgg26 Tryd.sizeOf26) ?_
    obtain ⟨r19, hr19, hm⟩ := of_bind hm
    refine RW.ca (.tuple #[.agg (cf 64 (iv r19.1)), .int .i64 r19.2]) rfl rfl (Ca.call rfl rfl Tryd.call18 (fun w _ => c_qUp K a0 a1 r19 w hr19)) ?_
    refine RW.yi (.tuple #[.agg (cf 64 (iv r19.1)), .int .i64 r19.2]) rfl rfl (Yi.pv _ rfl) ?_
    refine RW.yi (.agg (cf 64 (iv r19.1))) rfl rfl (Yi.pv _ rfl) ?_
    refine RW.yi (.int .i64 r19.2) rfl rfl (Yi.pv _ rfl) ?_
    refine RW.alloc (z := .agg (cf 64 (iv zf))) (cf 64 (iv zf)) rfl rfl (fun _ => by kernel_rfl) rfl (fun b20 => ?_)
    refine RW.storeW (i := 0) (cs' := cf 64 (iv r19.1)) rfl rfl rfl rfl (by rw [cf_size]; kernel_rfl) (by simp only [cf_size]) (iv_one _ _) ?_
    refine RW.yi (.int .i64 r19.2) rfl rfl (Yi.pv _ rfl) ?_
    refine RW.nil ?_
    refine EW.next ?_
    refine CW.seq ?_
    refine CW.region ?_
    refine RW.yi (.int .i64 r19.2) rfl rfl (Yi.pv _ rfl) ?_
    refine RW.yi (.bool (decide (r19.2 = 0))) rfl rfl (Yi.pv _ rfl) ?_
    refine RW.nil ?_
    refine EW.next ?_
    refine CW.fork 23 (r19.2 = 0) rfl (fun h21 => ?_) (fun h21 => ?_)
    · replace hm := (if_pos h21).symm.trans hm
      refine CW.cond_true rfl ?_
      refine CW.seq ?_
      refine CW.region ?_
      refine RW.yi (.agg (cf 64 (iv r19.1))) rfl rfl (Yi.loadW (i := 0) rfl rfl Tryd.isAgg26 Tryd.sizeOf26) ?_
      refine RW.yi (.agg (cf 64 (iv a1))) rfl rfl (Yi.loadW (i := 1) rfl rfl Tryd.isAgg26 Tryd.sizeOf26) ?_
      obtain ⟨r22, hr22, hm⟩ := of_bind hm
      refine RW.ca (.tuple #[.agg (cf 64 (iv r22.1)), .int .i64 r22.2]) rfl rfl (Ca.call rfl rfl Tryd.call16 (fun w _ => c_qDown K r19.1 a1 r22 w hr22)) ?_
      refine RW.yi (.tuple #[.agg (cf 64 (iv r22.1)), .int .i64 r22.2]) rfl rfl (Yi.pv _ rfl) ?_
      refine RW.yi (.agg (cf 64 (iv r22.1))) rfl rfl (Yi.pv _ rfl) ?_
      refine RW.yi (.int .i64 r22.2) rfl rfl (Yi.pv _ rfl) ?_
      refine RW.alloc (z := .agg (cf 64 (iv zf))) (cf 64 (iv zf)) rfl rfl (fun _ => by kernel_rfl) rfl (fun b23 => ?_)
      refine RW.storeW (i := 0) (cs' := cf 64 (iv r22.1)) rfl rfl rfl rfl (by rw [cf_size]; kernel_rfl) (by simp only [cf_size]) (iv_one _ _) ?_
      refine RW.yi (.int .i64 r22.2) rfl rfl (Yi.pv _ rfl) ?_
      refine RW.nil ?_
      refine EW.next ?_
      refine CW.seq ?_
      refine CW.region ?_
      refine RW.yi (.agg (cf 64 (iv r22.1))) rfl rfl (Yi.loadW (i := 0) rfl rfl Tryd.isAgg26 Tryd.sizeOf26) ?_
      refine RW.yi (.agg (cf 64 (iv a0))) rfl rfl (Yi.loadW (i := 3) rfl rfl Tryd.isAgg26 Tryd.sizeOf26) ?_
      refine RW.yi (.bool (decide (¬ eqF 64 r22.1 a0))) rfl rfl (Yi.neqA Tryd.underlying26 Tryd.eqGuardType26 Tryd.underlying3 Tryd.sizeOf3 Tryd.isAgg3 rfl rfl) ?_
      refine RW.yi (.bool (decide (¬ eqF 64 r22.1 a0))) rfl rfl (Yi.pv _ rfl) ?_
      refine RW.fork 33 (¬ eqF 64 r22.1 a0) rfl (fun h24 => ?_) (fun h24 => ?_)
      · replace hm := (if_pos h24).symm.trans hm
        refine RW.pass rfl rfl ?_
        refine RW.pass rfl rfl ?_
        refine RW.yi (.bool true) rfl rfl (Yi.pv _ rfl) ?_
        refine RW.nil ?_
        refine EW.next ?_
        refine CW.cond_true rfl ?_
        refine CW.seq ?_
        refine CW.region ?_
        refine RW.yi (.bool false) rfl rfl (Yi.pv _ rfl) ?_
        refine RW.nil ?_
        refine EW.next ?_
        refine CW.ret ?_
        refine EW.thr ?_
        obtain rfl := Option.some.inj hm
        exact EW.done (rs := [.tmp 4]) rfl (.tmp (t := 4) (v := .bool false) rfl .nil) (fun _ hM => ⟨rfl, hM.below⟩)
      · replace hm := (if_neg h24).symm.trans hm
        refine RW.yi (.int .i64 r22.2) rfl rfl (Yi.pv _ rfl) ?_
        refine RW.yi (.bool (decide (¬ r22.2 = 0))) rfl rfl (Yi.pv _ rfl) ?_
        refine RW.yi (.bool (decide (¬ r22.2 = 0))) rfl rfl (Yi.pv _ rfl) ?_
        refine RW.nil ?_
        refine EW.next ?_
        refine CW.fork 36 (¬ r22.2 = 0) rfl (fun h25 => ?_) (fun h25 => ?_)
        · replace hm := (if_pos h25).symm.trans hm
          refine CW.cond_true rfl ?_
          refine CW.seq ?_
          refine CW.region ?_
          refine RW.yi (.bool false) rfl rfl (Yi.pv _ rfl) ?_
          refine RW.nil ?_
          refine EW.next ?_
          refine CW.ret ?_
          refine EW.thr ?_
          obtain rfl := Option.some.inj hm
          exact EW.done (rs := [.tmp 4]) rfl (.tmp (t := 4) (v := .bool false) rfl .nil) (fun _ hM => ⟨rfl, hM.below⟩)
        · replace hm := (if_neg h25).symm.trans hm
          refine CW.cond_false rfl ?_
          refine CW.skip ?_
          refine EW.thn ?_
          exact fun a w hs hM => ⟨hs.sub ⟨rfl, rfl, trivial⟩, hM.sub (.cons _ (.cons _ (.cons_cons _ (.cons_cons _ .slnil)))), hm⟩
    · replace hm := (if_neg h21).symm.trans hm
      refine CW.cond_false rfl ?_
      refine CW.skip ?_
      refine EW.thn ?_
      exact fun a w hs hM => ⟨hs.sub ⟨rfl, rfl, trivial⟩, hM.sub (.cons _ (.cons_cons _ (.cons_cons _ .slnil))), hm⟩
  · rintro a w ⟨hs, hM, hm⟩
    unfold lawQuantBack_j1 at hm
    refine CW.enter hs hM ?_
    refine CW.seq ?_
    refine CW.region ?_
    refine RW.yi (.agg (cf 64 (iv a0))) rfl rfl (Yi.loadW (i := 1) rfl rfl Tryd.isAgg26 Tryd.sizeOf26) ?_
    refine RW.yi (.agg (cf 64 (iv a1))) rfl rfl (Yi.loadW (i := 0) rfl rfl Tryd.isAgg26 Tryd.sizeOf26) ?_
    obtain ⟨r3, hr3, hm⟩ := of_bind hm
    refine RW.ca (.tuple #[.agg (cf 64 (iv r3.1)), .int .i64 r3.2]) rfl rfl (Ca.call rfl rfl Tryd.call16 (fun w _ => c_qDown K a0 a1 r3 w hr3)) ?_
    refine RW.yi (.tuple #[.agg (cf 64 (iv r3.1)), .int .i64 r3.2]) rfl rfl (Yi.pv _ rfl) ?_
    refine RW.yi (.agg (cf 64 (iv r3.1))) rfl rfl (Yi.pv _ rfl) ?_
    refine RW.yi (.int .i64 r3.2) rfl rfl (Yi.pv _ rfl) ?_
    refine RW.alloc (z := .agg (cf 64 (iv zf))) (cf 64 (iv zf)) rfl rfl (fun _ => by kernel_rfl) rfl (fun b4 => ?_)
    refine RW.storeW (i := 0) (cs' := cf 64 (iv r3.1)) rfl rfl rfl rfl (by rw [cf_size]; kernel_rfl) (by simp only [cf_size]) (iv_one _ _) ?_
    refine RW.yi (.int .i64 r3.2) rfl rfl (Yi.pv _ rfl) ?_
    refine RW.nil ?_
    refine EW.next ?_
    refine CW.seq ?_
    refine CW.seq ?_
    refine CW.region ?_
    refine RW.yi (.int .i64 r3.2) rfl rfl (Yi.pv _ rfl) ?_
    refine RW.yi (.bool (decide (¬ r3.2 = 0))) rfl rfl (Yi.pv _ rfl) ?_
    refine RW.nil ?_
    refine EW.next ?_
    refine CW.fork 44 (¬ r3.2 = 0) rfl (fun h5 => ?_) (fun h5 => ?_)
    · replace hm := (if_pos h5).symm.trans hm
      refine CW.cond_true rfl ?_
      refine CW.seq ?_
      refine CW.region ?_
      refine RW.yi (.agg (cf 64 (iv r3.1))) rfl rfl (Yi.loadW (i := 0) rfl rfl Tryd.isAgg26 Tryd.sizeOf26) ?_
      refine RW.yi (.agg (cf 64 (iv zf))) rfl rfl (Yi.build (vs := []) _ rfl rfl (fun _ => by kernel_rfl)) ?_
      refine RW.yi (.bool (decide (eqF 64 r3.1 zf))) rfl rfl (Yi.eqA Tryd.underlying26 Tryd.eqGuardType26 Tryd.underlying3 Tryd.sizeOf3 Tryd.isAgg3 rfl rfl) ?_
      refine RW.yi (.bool (decide (eqF 64 r3.1 zf))) rfl rfl (Yi.pv _ rfl) ?_
      refine RW.fork 48 (eqF 64 r3.1 zf) rfl (fun h6 => ?_) (fun h6 => ?_)
      · replace hm := (if_pos h6).symm.trans hm
        obtain ⟨r7, hr7, hm⟩ := of_bind hm
        refine RW.ca (.bool r7) rfl rfl (Ca.call rfl rfl Tryd.call11 (fun w hM => c_awake8 K  r7 w (hG.keep hM rfl) hr7)) ?_
        refine RW.yi (.bool r7) rfl rfl (Yi.pv _ rfl) ?_
        refine RW.yi (.bool r7) rfl rfl (Yi.pv _ rfl) ?_
        refine RW.nil ?_
        refine EW.next ?_
        refine CW.ret ?_
        refine EW.thr ?_
        obtain rfl := Option.some.inj hm
        exact EW.done (rs := [.tmp 4]) rfl (.tmp (t := 4) (v := .bool r7) rfl .nil) (fun _ hM => ⟨rfl, hM.below⟩)
      · replace hm := (if_neg h6).symm.trans hm
        refine RW.pass rfl rfl ?_
        refine RW.yi (.bool false) rfl rfl (Yi.pv _ rfl) ?_
        refine RW.yi (.bool false) rfl rfl (Yi.pv _ rfl) ?_
        refine RW.nil ?_
        refine EW.next ?_
        refine CW.ret ?_
        refine EW.thr ?_
        obtain rfl := Option.some.inj hm
        exact EW.done (rs := [.tmp 4]) rfl (.tmp (t := 4) (v := .bool false) rfl .nil) (fun _ hM => ⟨rfl, hM.below⟩)
    · replace hm := (if_neg h5).symm.trans hm
      refine CW.cond_false rfl ?_
      refine CW.skip ?_
      refine EW.next ?_
      refine CW.seq ?_
      refine CW.region ?_
      refine RW.yi (.agg (cf 64 (iv r3.1))) rfl rfl (Yi.loadW (i := 0) rfl rfl Tryd.isAgg26 Tryd.sizeOf26) ?_
      refine RW.yi (.agg (cf 64 (iv a1))) rfl rfl (Yi.loadW (i := 1) rfl rfl Tryd.isAgg26 Tryd.sizeOf26) ?_
      obtain ⟨r8, hr8, hm⟩ := of_bind hm
      refine RW.ca (.tuple #[.agg (cf 64 (iv r8.1)), .int .i64 r8.2]) rfl rfl (Ca.call rfl rfl Tryd.call18 (fun w _ => c_qUp K r3.1 a1 r8 w hr8)) ?_
      refine RW.yi (.tuple #[.agg (cf 64 (iv r8.1)), .int .i64 r8.2]) rfl rfl (Yi.pv _ rfl) ?_
      refine RW.yi (.agg (cf 64 (iv r8.1))) rfl rfl (Yi.pv _ rfl) ?_
      refine RW.yi (.int .i64 r8.2) rfl rfl (Yi.pv _ rfl) ?_
      refine RW.alloc (z := .agg (cf 64 (iv zf))) (cf 64 (iv zf)) rfl rfl (fun _ => by kernel_rfl) rfl (fun b9 => ?_)
      refine RW.storeW (i := 0) (cs' := cf 64 (iv r8.1)) rfl rfl rfl rfl (by rw [cf_size]; kernel_rfl) (by simp only [cf_size]) (iv_one _ _) ?_
      refine RW.yi (.int .i64 r8.2) rfl rfl (Yi.pv _ rfl) ?_
      refine RW.nil ?_
      refine EW.next ?_
      refine CW.seq ?_
      refine CW.seq ?_
      refine CW.region ?_
      refine RW.yi (.int .i64 r8.2) rfl rfl (Yi.pv _ rfl) ?_
      refine RW.yi (.bool (decide (¬ r8.2 = 0))) rfl rfl (Yi.pv _ rfl) ?_
      refine RW.nil ?_
      refine EW.next ?_
      refine CW.fork 58 (¬ r8.2 = 0) rfl (fun h10 => ?_) (fun h10 => ?_)
      · replace hm := (if_pos h10).symm.trans hm
        refine CW.cond_true rfl ?_
        refine CW.seq ?_
        refine CW.region ?_
        refine RW.yi (.bool false) rfl rfl (Yi.pv _ rfl) ?_
        refine RW.nil ?_
        refine EW.next ?_
        refine CW.ret ?_
        refine EW.thr ?_
        obtain rfl := Option.some.inj hm
        exact EW.done (rs := [.tmp 4]) rfl (.tmp (t := 4) (v := .bool false) rfl .nil) (fun _ hM => ⟨rfl, hM.below⟩)
      · replace hm := (if_neg h10).symm.trans hm
        refine CW.cond_false rfl ?_
        refine CW.skip ?_
        refine EW.next ?_
        refine CW.join (fun a w => St 101 [] a ∧ Mem w0 [] [] w ∧ lawQuantBack_j2 K = some r) ?_ ?_
        · refine CW.seq ?_
          refine CW.region ?_
          refine RW.yi (.agg (cf 64 (iv a0))) rfl rfl (Yi.loadW (i := 3) rfl rfl Tryd.isAgg26 Tryd.sizeOf26) ?_
          refine RW.yi (.int .i64 0) rfl rfl (Yi.pv _ rfl) ?_
          refine RW.nil ?_
          refine EW.next ?_
          refine CW.block ?_
          refine CW.loop (fun k a w => ∃ (v12 : Int), St 101 [(3, .pointer (some ⟨b2, 0, none⟩)), (11, .pointer (some ⟨b9, 0, none⟩)), (59, .agg (cf 64 (iv a0))), (60, .int .i64 v12)] a ∧ Mem w0 [] [.blk b9 26 (cf 64 (iv r8.1)), .blk b2 26 (cf 64 (iv a1))] w ∧ lawQuantBack_l1 K a0 a1 r8 k v12 = some r) K ?_ ?_ ?_
          · rintro a w ⟨_, _, _, hm⟩
            rw [lawQuantBack_l1.eq_1] at hm
            cases hm
          · exact fun a w hs hM => ⟨0, hs.sub ⟨rfl, rfl, rfl, rfl, trivial⟩, hM.sub (.cons_cons _ (.cons _ (.cons_cons _ (.cons _ .slnil)))), hm⟩
          · rintro k1 a w ⟨v12, hs, hM, hm⟩
            rw [lawQuantBack_l1.eq_2] at hm
            refine CW.enter hs hM ?_
            refine CW.seq ?_
            refine CW.region ?_
            refine RW.yi (.bool (decide (v12 < 64))) rfl rfl (Yi.pv _ rfl) ?_
            refine RW.nil ?_
            refine EW.next ?_
            refine CW.seq ?_
            refine CW.fork 61 (v12 < 64) rfl (fun h13 => ?_) (fun h13 => ?_)
            · replace hm := (if_pos h13).symm.trans hm
              refine CW.cond_true rfl ?_
              refine CW.skip ?_
              refine EW.next ?_
              refine CW.join (fun a w => St 101 [(3, .pointer (some ⟨b2, 0, none⟩)), (11, .pointer (some ⟨b9, 0, none⟩)), (59, .agg (cf 64 (iv a0))), (60, .int .i64 v12)] a ∧ Mem w0 [] [.blk b9 26 (cf 64 (iv r8.1)), .blk b2 26 (cf 64 (iv a1))] w ∧ lawQuantBack_j3 K (lawQuantBack_l1 K a0 a1 r8 k1) v12 = some r) ?_ ?_
              · refine CW.block ?_
                refine CW.seq ?_
                refine CW.region ?_
                refine RW.yi (.int .i64 v12) rfl rfl (Yi.pv _ rfl) ?_
                obtain ⟨g14, hm⟩ := of_guard hm
                refine RW.yi (.int .i64 (a0 v12.toNat)) rfl rfl (Yi.index _ Tryd.underlying26 Tryd.sizeOf3 Tryd.isAgg3 rfl rfl g14.1 g14.2 (cf_get (by omega))) ?_
                refine RW.yi (.int .i64 v12) rfl rfl (Yi.pv _ rfl) ?_
                refine RW.yi (.int .i64 (a0 v12.toNat)) rfl rfl (Yi.pv _ rfl) ?_
                refine RW.nil ?_
                refine EW.next ?_
                refine CW.seq ?_
                refine CW.region ?_
                refine RW.yi (.int .i64 (a0 v12.toNat)) rfl rfl (Yi.pv _ rfl) ?_
                refine RW.yi (.int .i64 v12) rfl rfl (Yi.pv _ rfl) ?_
                refine RW.yi (.pointer (some ⟨b9, v12.toNat, none⟩)) rfl rfl (Yi.indexAddr' _ Tryd.underlying26 Tryd.sizeOf3 rfl rfl g14.1 g14.2 (by omega)) ?_
                refine RW.yi (.int .i64 (r8.1 v12.toNat)) rfl rfl (Yi.load1 (i := 0) _ rfl rfl Tryd.isAgg3 (cf_get (by omega))) ?_
                refine RW.yi (.int .i64 (w64 ((a0 v12.toNat) - (r8.1 v12.toNat)))) rfl rfl (Yi.pv _ rfl) ?_
                refine RW.yi (.int .i64 (w64 ((a0 v12.toNat) - (r8.1 v12.toNat)))) rfl rfl (Yi.pv _ rfl) ?_
                refine RW.nil ?_
                refine EW.next ?_
                refine CW.seq ?_
                refine CW.region ?_
                refine RW.yi (.int .i64 (a0 v12.toNat)) rfl rfl (Yi.pv _ rfl) ?_
                refine RW.yi (.int .i64 v12) rfl rfl (Yi.pv _ rfl) ?_
                refine RW.yi (.pointer (some ⟨b2, v12.toNat, none⟩)) rfl rfl (Yi.indexAddr' _ Tryd.underlying26 Tryd.sizeOf3 rfl rfl g14.1 g14.2 (by omega)) ?_
                refine RW.yi (.int .i64 (a1 v12.toNat)) rfl rfl (Yi.load1 (i := 1) _ rfl rfl Tryd.isAgg3 (cf_get (by omega))) ?_
                refine RW.yi (.int .i64 (w64 (1023 * (a1 v12.toNat)))) rfl rfl (Yi.pv _ rfl) ?_
                refine RW.yi (.bool (decide ((a0 v12.toNat) ≤ (w64 (1023 * (a1 v12.toNat)))))) rfl rfl (Yi.pv _ rfl) ?_
                refine RW.yi (.bool (decide ((a0 v12.toNat) ≤ (w64 (1023 * (a1 v12.toNat)))))) rfl rfl (Yi.pv _ rfl) ?_
                refine RW.fork 75 ((a0 v12.toNat) ≤ (w64 (1023 * (a1 v12.toNat)))) rfl (fun h15 => ?_) (fun h15 => ?_)
                · replace hm := (if_pos h15).symm.trans hm
                  refine RW.yi (.int .i64 (a0 v12.toNat)) rfl rfl (Yi.pv _ rfl) ?_
                  refine RW.yi (.int .i64 v12) rfl rfl (Yi.pv _ rfl) ?_
                  refine RW.yi (.pointer (some ⟨b2, v12.toNat, none⟩)) rfl rfl (Yi.indexAddr' _ Tryd.underlying26 Tryd.sizeOf3 rfl rfl g14.1 g14.2 (by omega)) ?_
                  refine RW.yi (.int .i64 (a1 v12.toNat)) rfl rfl (Yi.load1 (i := 1) _ rfl rfl Tryd.isAgg3 (cf_get (by omega))) ?_
                  refine RW.yi (.int .i64 (w64 ((-1023) * (a1 v12.toNat)))) rfl rfl (Yi.pv _ rfl) ?_
                  refine RW.yi (.bool (decide ((w64 ((-1023) * (a1 v12.toNat))) ≤ (a0 v12.toNat)))) rfl rfl (Yi.pv _ rfl) ?_
                  refine RW.yi (.bool (decide ((w64 ((-1023) * (a1 v12.toNat))) ≤ (a0 v12.toNat)))) rfl rfl (Yi.pv _ rfl) ?_
                  refine RW.yi (.bool (decide ((w64 ((-1023) * (a1 v12.toNat))) ≤ (a0 v12.toNat)))) rfl rfl (Yi.pv _ rfl) ?_
                  refine RW.fork 83 ((w64 ((-1023) * (a1 v12.toNat))) ≤ (a0 v12.toNat)) rfl (fun h16 => ?_) (fun h16 => ?_)
                  · replace hm := (if_pos h16).symm.trans hm
                    refine RW.yi (.int .i64 (w64 ((a0 v12.toNat) - (r8.1 v12.toNat)))) rfl rfl (Yi.pv _ rfl) ?_
                    refine RW.yi (.int .i64 (w64 (2 * (w64 ((a0 v12.toNat) - (r8.1 v12.toNat)))))) rfl rfl (Yi.pv _ rfl) ?_
                    refine RW.yi (.int .i64 v12) rfl rfl (Yi.pv _ rfl) ?_
                    refine RW.yi (.pointer (some ⟨b2, v12.toNat, none⟩)) rfl rfl (Yi.indexAddr' _ Tryd.underlying26 Tryd.sizeOf3 rfl rfl g14.1 g14.2 (by omega)) ?_
                    refine RW.yi (.int .i64 (a1 v12.toNat)) rfl rfl (Yi.load1 (i := 1) _ rfl rfl Tryd.isAgg3 (cf_get (by omega))) ?_
                    refine RW.yi (.bool (decide ((a1 v12.toNat) < (w64 (2 * (w64 ((a0 v12.toNat) - (r8.1 v12.toNat)))))))) rfl rfl (Yi.pv _ rfl) ?_
                    refine RW.yi (.bool (decide ((a1 v12.toNat) < (w64 (2 * (w64 ((a0 v12.toNat) - (r8.1 v12.toNat)))))))) rfl rfl (Yi.pv _ rfl) ?_
                    refine RW.fork 90 ((a1 v12.toNat) < (w64 (2 * (w64 ((a0 v12.toNat) - (r8.1 v12.toNat)))))) rfl (fun h17 => ?_) (fun h17 => ?_)
                    · replace hm := (if_pos h17).symm.trans hm
                      refine RW.pass rfl rfl ?_
                      refine RW.pass rfl rfl ?_
                      refine RW.pass rfl rfl ?_
                      refine RW.pass rfl rfl ?_
                      refine RW.pass rfl rfl ?_
                      refine RW.pass rfl rfl ?_
                      refine RW.yi (.bool true) rfl rfl (Yi.pv _ rfl) ?_
                      refine RW.yi (.bool true) rfl rfl (Yi.pv _ rfl) ?_
                      refine RW.nil ?_
                      refine EW.next ?_
                      refine CW.cond_true rfl ?_
                      refine CW.seq ?_
                      refine CW.region ?_
                      refine RW.yi (.bool false) rfl rfl (Yi.pv _ rfl) ?_
                      refine RW.nil ?_
                      refine EW.next ?_
                      refine CW.ret ?_
                      refine EW.blr ?_
                      refine EW.thr ?_
                      refine EW.thr ?_
                      refine EW.blr ?_
                      refine EW.thr ?_
                      obtain rfl := Option.some.inj hm
                      exact EW.done (rs := [.tmp 4]) rfl (.tmp (t := 4) (v := .bool false) rfl .nil) (fun _ hM => ⟨rfl, hM.below⟩)
                    · replace hm := (if_neg h17).symm.trans hm
                      refine RW.yi (.int .i64 (w64 ((a0 v12.toNat) - (r8.1 v12.toNat)))) rfl rfl (Yi.pv _ rfl) ?_
                      refine RW.yi (.int .i64 (w64 ((-2) * (w64 ((a0 v12.toNat) - (r8.1 v12.toNat)))))) rfl rfl (Yi.pv _ rfl) ?_
                      refine RW.yi (.int .i64 v12) rfl rfl (Yi.pv _ rfl) ?_
                      refine RW.yi (.pointer (some ⟨b2, v12.toNat, none⟩)) rfl rfl (Yi.indexAddr' _ Tryd.underlying26 Tryd.sizeOf3 rfl rfl g14.1 g14.2 (by omega)) ?_
                      refine RW.yi (.int .i64 (a1 v12.toNat)) rfl rfl (Yi.load1 (i := 1) _ rfl rfl Tryd.isAgg3 (cf_get (by omega))) ?_
                      refine RW.yi (.bool (decide ((a1 v12.toNat) < (w64 ((-2) * (w64 ((a0 v12.toNat) - (r8.1 v12.toNat)))))))) rfl rfl (Yi.pv _ rfl) ?_
                      refine RW.yi (.bool (decide ((a1 v12.toNat) < (w64 ((-2) * (w64 ((a0 v12.toNat) - (r8.1 v12.toNat)))))))) rfl rfl (Yi.pv _ rfl) ?_
                      refine RW.yi (.bool (decide ((a1 v12.toNat) < (w64 ((-2) * (w64 ((a0 v12.toNat) - (r8.1 v12.toNat)))))))) rfl rfl (Yi.pv _ rfl) ?_
                      refine RW.nil ?_
                      refine EW.next ?_
                      refine CW.fork 98 ((a1 v12.toNat) < (w64 ((-2) * (w64 ((a0 v12.toNat) - (r8.1 v12.toNat)))))) rfl (fun h18 => ?_) (fun h18 => ?_)
                      · replace hm := (if_pos h18).symm.trans hm
                        refine CW.cond_true rfl ?_
                        refine CW.seq ?_
                        refine CW.region ?_
                        refine RW.yi (.bool false) rfl rfl (Yi.pv _ rfl) ?_
                        refine RW.nil ?_
                        refine EW.next ?_
                        refine CW.ret ?_
                        refine EW.blr ?_
                        refine EW.thr ?_
                        refine EW.thr ?_
                        refine EW.blr ?_
                        refine EW.thr ?_
                        obtain rfl := Option.some.inj hm
                        exact EW.done (rs := [.tmp 4]) rfl (.tmp (t := 4) (v := .bool false) rfl .nil) (fun _ hM => ⟨rfl, hM.below⟩)
                      · replace hm := (if_neg h18).symm.trans hm
                        refine CW.cond_false rfl ?_
                        refine CW.skip ?_
                        refine EW.bln ?_
                        refine EW.thn ?_
                        exact fun a w hs hM => ⟨hs.sub ⟨rfl, rfl, rfl, rfl, trivial⟩, hM.sub (.cons_cons _ (.cons_cons _ .slnil)), hm⟩
                  · replace hm := (if_neg h16).symm.trans hm
                    refine RW.pass rfl rfl ?_
                    refine RW.pass rfl rfl ?_
                    refine RW.pass rfl rfl ?_
                    refine RW.pass rfl rfl ?_
                    refine RW.pass rfl rfl ?_
                    refine RW.pass rfl rfl ?_
                    refine RW.pass rfl rfl ?_
                    refine RW.pass rfl rfl ?_
                    refine RW.pass rfl rfl ?_
                    refine RW.pass rfl rfl ?_
                    refine RW.pass rfl rfl ?_
                    refine RW.pass rfl rfl ?_
                    refine RW.pass rfl rfl ?_
                    refine RW.pass rfl rfl ?_
                    refine RW.yi (.bool false) rfl rfl (Yi.pv _ rfl) ?_
                    refine RW.nil ?_
                    refine EW.next ?_
                    refine CW.cond_false rfl ?_
                    refine CW.skip ?_
                    refine EW.bln ?_
                    refine EW.thn ?_
                    exact fun a w hs hM => ⟨hs.sub ⟨rfl, rfl, rfl, rfl, trivial⟩, hM.sub (.cons_cons _ (.cons_cons _ .slnil)), hm⟩
                · replace hm := (if_neg h15).symm.trans hm
                  refine RW.pass rfl rfl ?_
                  refine RW.pass rfl rfl ?_
                  refine RW.pass rfl rfl ?_
                  refine RW.pass rfl rfl ?_
                  refine RW.pass rfl rfl ?_
                  refine RW.pass rfl rfl ?_
                  refine RW.yi (.bool false) rfl rfl (Yi.pv _ rfl) ?_
                  refine RW.yi (.bool false) rfl rfl (Yi.pv _ rfl) ?_
                  refine RW.pass rfl rfl ?_
                  refine RW.pass rfl rfl ?_
                  refine RW.pass rfl rfl ?_
                  refine RW.pass rfl rfl ?_
                  refine RW.pass rfl rfl ?_
                  refine RW.pass rfl rfl ?_
                  refine RW.pass rfl rfl ?_
                  refine RW.pass rfl rfl ?_
                  refine RW.pass rfl rfl ?_
                  refine RW.pass rfl rfl ?_
                  refine RW.pass rfl rfl ?_
                  refine RW.pass rfl rfl ?_
                  refine RW.pass rfl rfl ?_
                  refine RW.pass rfl rfl ?_
                  refine RW.yi (.bool false) rfl rfl (Yi.pv _ rfl) ?_
                  refine RW.nil ?_
                  refine EW.next ?_
                  refine CW.cond_false rfl ?_
                  refine CW.skip ?_
                  refine EW.bln ?_
                  refine EW.thn ?_
                  exact fun a w hs hM => ⟨hs.sub ⟨rfl, rfl, rfl, rfl, trivial⟩, hM.sub (.cons_cons _ (.cons_cons _ .slnil)), hm⟩
              · rintro a w ⟨hs, hM, hm⟩
                unfold lawQuantBack_j3 at hm
                refine CW.enter hs hM ?_
                refine CW.region ?_
                refine RW.yi (.int .i64 (w64 (v12 + 1))) rfl rfl (Yi.pv _ rfl) ?_
                refine RW.yi (.int .i64 (w64 (v12 + 1))) rfl rfl (Yi.pv _ rfl) ?_
                refine RW.nil ?_
                refine EW.thn ?_
                exact fun a w hs hM => ⟨(w64 (v12 + 1)), hs.sub ⟨rfl, rfl, rfl, rfl, trivial⟩, hM.sub (.cons_cons _ (.cons_cons _ .slnil)), hm⟩
            · replace hm := (if_neg h13).symm.trans hm
              refine CW.cond_false rfl ?_
              refine CW.exit ?_
              refine EW.thx ?_
              refine EW.thx ?_
              refine EW.blx ?_
              refine EW.thn ?_
              exact fun a w hs hM => ⟨hs.sub trivial, hM.sub (.cons _ (.cons _ .slnil)), hm⟩
        · rintro a w ⟨hs, hM, hm⟩
          unfold lawQuantBack_j2 at hm
          refine CW.enter hs hM ?_
          refine CW.seq ?_
          refine CW.region ?_
          obtain ⟨r11, hr11, hm⟩ := of_bind hm
          refine RW.ca (.bool r11) rfl rfl (Ca.call rfl rfl Tryd.call11 (fun w hM => c_awake8 K  r11 w (hG.keep hM rfl) hr11)) ?_
          refine RW.yi (.bool r11) rfl rfl (Yi.pv _ rfl) ?_
          refine RW.nil ?_
          refine EW.next ?_
          refine CW.ret ?_
          obtain rfl := Option.some.inj hm
          exact EW.done (rs := [.tmp 4]) rfl (.tmp (t := 4) (v := .bool r11) rfl .nil) (fun _ hM => ⟨rfl, hM.below⟩)
def lawQuantTurns_j2 (K : Nat)  (r7 : ((Nat → Int) × Int)) (r9 : ((Nat → Int) × Int)) (r11 : ((Nat → Int) × Int)) (r13 : ((Nat → Int) × Int))  : Option (Bool) :=
  (if r7.2 = r9.2 then (if r11.2 = r13.2 then ((awake8 K ).bind fun r17 => some r17) else some false) else some false)

def lawQuantTurns_l1 (K : Nat) (r7 : ((Nat → Int) × Int)) (r9 : ((Nat → Int) × Int)) (r11 : ((Nat → Int) × Int)) (r13 : ((Nat → Int) × Int)) : Nat → Int →  Option (Bool)
  | 0, _ => none
  | k1 + 1, v18 =>
    (if v18 < 64 then (if 0 ≤ v18 ∧ v18 < 64 then (if ¬ (r7.1 v18.toNat) = (w64 (0 - (r9.1 v18.toNat))) then some false else (if ¬ (r11.1 v18.toNat) = (w64 (0 - (r13.1 v18.toNat))) then some false else (lawQuantTurns_l1 K r7 r9 r11 r13 k1) (w64 (v18 + 1)))) else none) else lawQuantTurns_j2 K r7 r9 r11 r13)

def lawQuantTurns_j1 (K : Nat)  (a0 : (Nat → Int)) (a1 : (Nat → Int)) (v6 : (Nat → Int)) : Option (Bool) :=
  ((qDown K a0 a1).bind fun r7 => ((qDown K v6 a1).bind fun r9 => ((qUp K a0 a1).bind fun r11 => ((qUp K v6 a1).bind fun r13 => lawQuantTurns_l1 K r7 r9 r11 r13 K 0))))

def lawQuantTurns_l2 (K : Nat) (a0 : (Nat → Int)) (a1 : (Nat → Int)) : Nat → Int → (Nat → Int) →  Option (Bool)
  | 0, _, _ => none
  | k2 + 1, v24, v25 =>
    (if v24 < 64 then (if 0 ≤ v24 ∧ v24 < 64 then (lawQuantTurns_l2 K a0 a1 k2) (w64 (v24 + 1)) (upd v25 v24.toNat (w64 (0 - (a0 v24.toNat)))) else none) else lawQuantTurns_j1 K a0 a1 v25)

def lawQuantTurns (K : Nat) (a0 : (Nat → Int)) (a1 : (Nat → Int)) : Option (Bool) :=
  ((rIn K a0 (-16777216) 16777216).bind fun r3 => (if r3 = true then lawQuantTurns_l2 K a0 a1 K 0 zf else ((awake8 K ).bind fun r28 => some r28)))

theorem c_lawQuantTurns (K : Nat) (a0 : (Nat → Int)) (a1 : (Nat → Int)) (r : Bool) (w0 : World) (hG : Gl GG w0) (hm : lawQuantTurns K a0 a1 = some r) : Calls Tryd.prog 8 #[.agg (cf 64 (iv a0)), .agg (cf 64 (iv a1))] w0 fun e w' => e = .returned (.bool r) ∧ Below w0.heap.size w0 w' := by
  unfold lawQuantTurns at hm
  refine calls_CW (n := 88) w0 [] [] Tryd.func8 rfl rfl rfl (Mem.begin w0) ?_
  refine CW.seq ?_
  refine CW.region ?_
  refine RW.box (v := .agg (cf 64 (iv a0))) rfl rfl rfl (fun b1 => ?_)
  refine RW.box (v := .agg (cf 64 (iv a1))) rfl rfl rfl (fun b2 => ?_)
  refine RW.yi (.bool false) rfl rfl (Yi.pv _ rfl) ?_
  refine RW.nil ?_
  refine EW.next ?_
  refine CW.seq ?_
  refine CW.seq ?_
  refine CW.region ?_
  refine RW.yi (.agg (cf 64 (iv a0))) rfl rfl (Yi.loadW (i := 1) rfl rfl Tryd.isAgg26 Tryd.sizeOf26) ?_
  obtain ⟨r3, hr3, hm⟩ := of_bind hm
  refine RW.ca (.bool r3) rfl rfl (Ca.call rfl rfl Tryd.call15 (fun w _ => c_rIn K a0 (-16777216) 16777216 r3 w hr3)) ?_
  refine RW.forkB 18 (r3) rfl (fun h4 => ?_) (fun h4 => ?_)
  · replace hm := (if_pos h4).symm.trans hm
    refine RW.yi (.bool false) rfl rfl (Yi.pv _ rfl) ?_
    refine RW.nil ?_
    refine EW.next ?_
    refine CW.cond_false rfl ?_
    refine CW.skip ?_
    refine EW.next ?_
    refine CW.seq ?_
    refine CW.region ?_
    refine RW.alloc (z := .agg (cf 64 (iv zf))) (cf 64 (iv zf)) rfl rfl (fun _ => by kernel_rfl) rfl (fun b5 => ?_)
    refine RW.nil ?_
    refine EW.next ?_
    refine CW.join (fun a w => ∃ (v6 : (Nat → Int)), St 88 [(2, .pointer (some ⟨b1, 0, none⟩)), (3, .pointer (some ⟨b2, 0, none⟩)), (5, .pointer (some ⟨b5, 0, none⟩))] a ∧ Mem w0 [] [.blk b5 26 (cf 64 (iv v6)), .blk b2 26 (cf 64 (iv a1)), .blk b1 26 (cf 64 (iv a0))] w ∧ lawQuantTurns_j1 K a0 a1 v6 = some r) ?_ ?_
    · refine CW.seq ?_
      refine CW.region ?_
      refine RW.yi (.agg (cf 64 (iv a0))) rfl rfl (Yi.loadW (i := 2) rfl rfl Tryd.isAgg26 Tryd.sizeOf26) ?_
      refine RW.yi (.int .i64 0) rfl rfl (Yi.pv _ rfl) ?_
      refine RW.nil ?_
      refine EW.next ?_
      refine CW.block ?_
      refine CW.loop (fun k a w => ∃ (v24 : Int) (v25 : (Nat → Int)), St 88 [(2, .pointer (some ⟨b1, 0, none⟩)), (3, .pointer (some ⟨b2, 0, none⟩)), (5, .pointer (some ⟨b5, 0, none⟩)), (21, .agg (cf 64 (iv a0))), (22, .int .i64 v24)] a ∧ Mem w0 [] [.blk b5 26 (cf 64 (iv v25)), .blk b2 26 (cf 64 (iv a1)), .blk b1 26 (cf 64 (iv a0))] w ∧ lawQuantTurns_l2 K a0 a1 k v24 v25 = some r) K ?_ ?_ ?_
      · rintro a w ⟨_, _, _, _, hm⟩
        rw [lawQuantTurns_l2.eq_1] at hm
        cases hm
      · exact fun a w hs hM => ⟨0, zf, hs.sub ⟨rfl, rfl, rfl, rfl, rfl, trivial⟩, hM.sub (.cons_cons _ (.cons_cons _ (.cons_cons _ .slnil))), hm⟩
      · rintro k2 a w ⟨v24, v25, hs, hM, hm⟩
        rw [lawQuantTurns_l2.eq_2] at hm
        refine CW.enter hs hM ?_
        refine CW.seq ?_
        refine CW.region ?_
        refine RW.yi (.bool (decide (v24 < 64))) rfl rfl (Yi.pv _ rfl) ?_
        refine RW.nil ?_
        refine EW.next ?_
        refine CW.seq ?_
        refine CW.fork 23 (v24 < 64) rfl (fun h26 => ?_) (fun h26 => ?_)
        · replace hm := (if_pos h26).symm.trans hm
          refine CW.cond_true rfl ?_
          refine CW.skip ?_
          refine EW.next ?_
          refine CW.seq ?_
          refine CW.block ?_
          refine CW.seq ?_
          refine CW.region ?_
          refine RW.yi (.int .i64 v24) rfl rfl (Yi.pv _ rfl) ?_
          obtain ⟨g27, hm⟩ := of_guard hm
          refine RW.yi (.int .i64 (a0 v24.toNat)) rfl rfl (Yi.index _ Tryd.underlying26 Tryd.sizeOf3 Tryd.isAgg3 rfl rfl g27.1 g27.2 (cf_get (by omega))) ?_
          refine RW.yi (.int .i64 v24) rfl rfl (Yi.pv _ rfl) ?_
          refine RW.yi (.int .i64 (a0 v24.toNat)) rfl rfl (Yi.pv _ rfl) ?_
          refine RW.nil ?_
          refine EW.next ?_
          refine CW.region ?_
          refine RW.yi (.int .i64 v24) rfl rfl (Yi.pv _ rfl) ?_
          refine RW.yi (.int .i64 (a0 v24.toNat)) rfl rfl (Yi.pv _ rfl) ?_
          refine RW.yi (.int .i64 (w64 (0 - (a0 v24.toNat)))) rfl rfl (Yi.pv _ rfl) ?_
          refine RW.yi (.pointer (some ⟨b5, v24.toNat, none⟩)) rfl rfl (Yi.indexAddr' _ Tryd.underlying26 Tryd.sizeOf3 rfl rfl g27.1 g27.2 (by omega)) ?_
          refine RW.store1 (i := 0) (cs' := cf 64 (iv (upd v25 v24.toNat (w64 (0 - (a0 v24.toNat)))))) rfl rfl rfl rfl Tryd.sizeOf3 rfl rfl (by rw [cf_size]; omega) (by rw [cf_set, iv_upd]) ?_
          refine RW.nil ?_
          refine EW.bln ?_
          refine EW.next ?_
          refine CW.region ?_
          refine RW.yi (.int .i64 (w64 (v24 + 1))) rfl rfl (Yi.pv _ rfl) ?_
          refine RW.yi (.int .i64 (w64 (v24 + 1))) rfl rfl (Yi.pv _ rfl) ?_
          refine RW.nil ?_
          refine EW.thn ?_
          exact fun a w hs hM => ⟨(w64 (v24 + 1)), (upd v25 v24.toNat (w64 (0 - (a0 v24.toNat)))), hs.sub ⟨rfl, rfl, rfl, rfl, rfl, trivial⟩, hM.sub (.cons_cons _ (.cons_cons _ (.cons_cons _ .slnil))), hm⟩
        · replace hm := (if_neg h26).symm.trans hm
          refine CW.cond_false rfl ?_
          refine CW.exit ?_
          refine EW.thx ?_
          refine EW.thx ?_
          refine EW.blx ?_
          refine EW.thn ?_
          exact fun a w hs hM => ⟨v25, hs.sub ⟨rfl, rfl, rfl, trivial⟩, hM.sub (.cons_cons _ (.cons_cons _ (.cons_cons _ .slnil))), hm⟩
    · rintro a w ⟨v6, hs, hM, hm⟩
      unfold lawQuantTurns_j1 at hm
      refine CW.enter hs hM ?_
      refine CW.seq ?_
      refine CW.region ?_
      refine RW.yi (.agg (cf 64 (iv a0))) rfl rfl (Yi.loadW (i := 2) rfl rfl Tryd.isAgg26 Tryd.sizeOf26) ?_
      refine RW.yi (.agg (cf 64 (iv a1))) rfl rfl (Yi.loadW (i := 1) rfl rfl Tryd.isAgg26 Tryd.sizeOf26) ?_
      obtain ⟨r7, hr7, hm⟩ := of_bind hm
      refine RW.ca (.tuple #[.agg (cf 64 (iv r7.1)), .int .i64 r7.2]) rfl rfl (Ca.call rfl rfl Tryd.call16 (fun w _ => c_qDown K a0 a1 r7 w hr7)) ?_
      refine RW.yi (.tuple #[.agg (cf 64 (iv r7.1)), .int .i64 r7.2]) rfl rfl (Yi.pv _ rfl) ?_
      refine RW.yi (.agg (cf 64 (iv r7.1))) rfl rfl (Yi.pv _ rfl) ?_
      refine RW.yi (.int .i64 r7.2) rfl rfl (Yi.pv _ rfl) ?_
      refine RW.alloc (z := .agg (cf 64 (iv zf))) (cf 64 (iv zf)) rfl rfl (fun _ => by kernel_rfl) rfl (fun b8 => ?_)
      refine RW.storeW (i := 0) (cs' := cf 64 (iv r7.1)) rfl rfl rfl rfl (by rw [cf_size]; kernel_rfl) (by simp only [cf_size]) (iv_one _ _) ?_
      refine RW.yi (.int .i64 r7.2) rfl rfl (Yi.pv _ rfl) ?_
      refine RW.nil ?_
      refine EW.next ?_
      refine CW.seq ?_
      refine CW.region ?_
      refine RW.yi (.agg (cf 64 (iv v6))) rfl rfl (Yi.loadW (i := 1) rfl rfl Tryd.isAgg26 Tryd.sizeOf26) ?_
      refine RW.yi (.agg (cf 64 (iv a1))) rfl rfl (Yi.loadW (i := 2) rfl rfl Tryd.isAgg26 Tryd.sizeOf26) ?_
      obtain ⟨r9, hr9, hm⟩ := of_bind hm
      refine RW.ca (.tuple #[.agg (cf 64 (iv r9.1)), .int .i64 r9.2]) rfl rfl (Ca.call rfl rfl Tryd.call16 (fun w _ => c_qDown K v6 a1 r9 w hr9)) ?_
      refine RW.yi (.tuple #[.agg (cf 64 (iv r9.1)), .int .i64 r9.2]) rfl rfl (Yi.pv _ rfl) ?_
      refine RW.yi (.agg (cf 64 (iv r9.1))) rfl rfl (Yi.pv _ rfl) ?_
      refine RW.yi (.int .i64 r9.2) rfl rfl (Yi.pv _ rfl) ?_
      refine RW.alloc (z := .agg (cf 64 (iv zf))) (cf 64 (iv zf)) rfl rfl (fun _ => by kernel_rfl) rfl (fun b10 => ?_)
      refine RW.storeW (i := 0) (cs' := cf 64 (iv r9.1)) rfl rfl rfl rfl (by rw [cf_size]; kernel_rfl) (by simp only [cf_size]) (iv_one _ _) ?_
      refine RW.yi (.int .i64 r9.2) rfl rfl (Yi.pv _ rfl) ?_
      refine RW.nil ?_
      refine EW.next ?_
      refine CW.seq ?_
      refine CW.region ?_
      refine RW.yi (.agg (cf 64 (iv a0))) rfl rfl (Yi.loadW (i := 4) rfl rfl Tryd.isAgg26 Tryd.sizeOf26) ?_
      refine RW.yi (.agg (cf 64 (iv a1))) rfl rfl (Yi.loadW (i := 3) rfl rfl Tryd.isAgg26 Tryd.sizeOf26) ?_
      obtain ⟨r11, hr11, hm⟩ := of_bind hm
      refine RW.ca (.tuple #[.agg (cf 64 (iv r11.1)), .int .i64 r11.2]) rfl rfl (Ca.call rfl rfl Tryd.call18 (fun w _ => c_qUp K a0 a1 r11 w hr11)) ?_
      refine RW.yi (.tuple #[.agg (cf 64 (iv r11.1)), .int .i64 r11.2]) rfl rfl (Yi.pv _ rfl) ?_
      refine RW.yi (.agg (cf 64 (iv r11.1))) rfl rfl (Yi.pv _ rfl) ?_
      refine RW.yi (.int .i64 r11.2) rfl rfl (Yi.pv _ rfl) ?_
      refine RW.alloc (z := .agg (cf 64 (iv zf))) (cf 64 (iv zf)) rfl rfl (fun _ => by kernel_rfl) rfl (fun b12 => ?_)
      refine RW.storeW (i := 0) (cs' := cf 64 (iv r11.1)) rfl rfl rfl rfl (by rw [cf_size]; kernel_rfl) (by simp only [cf_size]) (iv_one _ _) ?_
      refine RW.yi (.int .i64 r11.2) rfl rfl (Yi.pv _ rfl) ?_
      refine RW.nil ?_
      refine EW.next ?_
      refine CW.seq ?_
      refine CW.region ?_
      refine RW.yi (.agg (cf 64 (iv v6))) rfl rfl (Yi.loadW (i := 3) rfl rfl Tryd.isAgg26 Tryd.sizeOf26) ?_
      refine RW.yi (.agg (cf 64 (iv a1))) rfl rfl (Yi.loadW (i := 4) rfl rfl Tryd.isAgg26 Tryd.sizeOf26) ?_
      obtain ⟨r13, hr13, hm⟩ := of_bind hm
      refine RW.ca (.tuple #[.agg (cf 64 (iv r13.1)), .int .i64 r13.2]) rfl rfl (Ca.call rfl rfl Tryd.call18 (fun w _ => c_qUp K v6 a1 r13 w hr13)) ?_
      refine RW.yi (.tuple #[.agg (cf 64 (iv r13.1)), .int .i64 r13.2]) rfl rfl (Yi.pv _ rfl) ?_
      refine RW.yi (.agg (cf 64 (iv r13.1))) rfl rfl (Yi.pv _ rfl) ?_
      refine RW.yi (.int .i64 r13.2) rfl rfl (Yi.pv _ rfl) ?_
      refine RW.alloc (z := .agg (cf 64 (iv zf))) (cf 64 (iv zf)) rfl rfl (fun _ => by kernel_rfl) rfl (fun b14 => ?_)
      refine RW.storeW (i := 0) (cs' := cf 64 (iv r13.1)) rfl rfl rfl rfl (by rw [cf_size]; kernel_rfl) (by simp only [cf_size]) (iv_one _ _) ?_
      refine RW.yi (.int .i64 r13.2) rfl rfl (Yi.pv _ rfl) ?_
      refine RW.nil ?_
      refine EW.next ?_
      refine CW.join (fun a w => St 88 [(9, .int .i64 r7.2), (11, .int .i64 r9.2), (13, .int .i64 r11.2), (15, .int .i64 r13.2)] a ∧ Mem w0 [] [] w ∧ lawQuantTurns_j2 K r7 r9 r11 r13 = some r) ?_ ?_
      · refine CW.seq ?_
        refine CW.region ?_
        refine RW.yi (.int .i64 0) rfl rfl (Yi.pv _ rfl) ?_
        refine RW.nil ?_
        refine EW.next ?_
        refine CW.block ?_
        refine CW.loop (fun k a w => ∃ (v18 : Int), St 88 [(8, .pointer (some ⟨b8, 0, none⟩)), (9, .int .i64 r7.2), (10, .pointer (some ⟨b10, 0, none⟩)), (11, .int .i64 r9.2), (12, .pointer (some ⟨b12, 0, none⟩)), (13, .int .i64 r11.2), (14, .pointer (some ⟨b14, 0, none⟩)), (15, .int .i64 r13.2), (55, .int .i64 v18)] a ∧ Mem w0 [] [.blk b14 26 (cf 64 (iv r13.1)), .blk b12 26 (cf 64 (iv r11.1)), .blk b10 26 (cf 64 (iv r9.1)), .blk b8 26 (cf 64 (iv r7.1))] w ∧ lawQuantTurns_l1 K r7 r9 r11 r13 k v18 = some r) K ?_ ?_ ?_
        · rintro a w ⟨_, _, _, hm⟩
          rw [lawQuantTurns_l1.eq_1] at hm
          cases hm
        · exact fun a w hs hM => ⟨0, hs.sub ⟨rfl, rfl, rfl, rfl, rfl, rfl, rfl, rfl, rfl, trivial⟩, hM.sub (.cons_cons _ (.cons_cons _ (.cons_cons _ (.cons_cons _ (.cons _ (.cons _ (.cons _ .slnil))))))), hm⟩
        · rintro k1 a w ⟨v18, hs, hM, hm⟩
          rw [lawQuantTurns_l1.eq_2] at hm
          refine CW.enter hs hM ?_
          refine CW.seq ?_
          refine CW.region ?_
          refine RW.yi (.bool (decide (v18 < 64))) rfl rfl (Yi.pv _ rfl) ?_
          refine RW.nil ?_
          refine EW.next ?_
          refine CW.seq ?_
          refine CW.fork 56 (v18 < 64) rfl (fun h19 => ?_) (fun h19 => ?_)
          · replace hm := (if_pos h19).symm.trans hm
            refine CW.cond_true rfl ?_
            refine CW.skip ?_
            refine EW.next ?_
            refine CW.seq ?_
            refine CW.block ?_
            refine CW.seq ?_
            refine CW.region ?_
            refine RW.yi (.int .i64 v18) rfl rfl (Yi.pv _ rfl) ?_
            refine RW.yi (.int .i64 v18) rfl rfl (Yi.pv _ rfl) ?_
            refine RW.nil ?_
            refine EW.next ?_
            refine CW.seq ?_
            refine CW.draws (by kernel_rfl) (by kernel_rfl) ?_
            refine QW.yi (.int .i64 v18) rfl rfl (Yi.pv _ rfl) ?_
            obtain ⟨g20, hm⟩ := of_guard hm
            refine QW.yi (.pointer (some ⟨b8, v18.toNat, none⟩)) rfl rfl (Yi.indexAddr' _ Tryd.underlying26 Tryd.sizeOf3 rfl rfl g20.1 g20.2 (by omega)) ?_
            refine QW.yi (.int .i64 (r7.1 v18.toNat)) rfl rfl (Yi.load1 (i := 3) _ rfl rfl Tryd.isAgg3 (cf_get (by omega))) ?_
            refine QW.yi (.int .i64 v18) rfl rfl (Yi.pv _ rfl) ?_
            refine QW.yi (.pointer (some ⟨b10, v18.toNat, none⟩)) rfl rfl (Yi.indexAddr' _ Tryd.underlying26 Tryd.sizeOf3 rfl rfl g20.1 g20.2 (by omega)) ?_
            refine QW.yi (.int .i64 (r9.1 v18.toNat)) rfl rfl (Yi.load1 (i := 2) _ rfl rfl Tryd.isAgg3 (cf_get (by omega))) ?_
            refine QW.yi (.int .i64 (w64 (0 - (r9.1 v18.toNat)))) rfl rfl (Yi.pv _ rfl) ?_
            refine QW.yi (.bool (decide (¬ (r7.1 v18.toNat) = (w64 (0 - (r9.1 v18.toNat)))))) rfl rfl (Yi.pv _ rfl) ?_
            refine QW.yi (.bool (decide (¬ (r7.1 v18.toNat) = (w64 (0 - (r9.1 v18.toNat)))))) rfl rfl (Yi.pv _ rfl) ?_
            refine QW.fork 66 (¬ (r7.1 v18.toNat) = (w64 (0 - (r9.1 v18.toNat)))) rfl (fun h21 => ?_) (fun h21 => ?_)
            · replace hm := (if_pos h21).symm.trans hm
              refine QW.pass rfl rfl ?_
              refine QW.pass rfl rfl ?_
              refine QW.pass rfl rfl ?_
              refine QW.pass rfl rfl ?_
              refine QW.pass rfl rfl ?_
              refine QW.pass rfl rfl ?_
              refine QW.pass rfl rfl ?_
              refine QW.pass rfl rfl ?_
              refine QW.yi (.bool true) rfl rfl (Yi.pv _ rfl) ?_
              refine QW.nil ?_
              refine EW.next ?_
              refine CW.cond_true rfl ?_
              refine CW.seq ?_
              refine CW.region ?_
              refine RW.yi (.bool false) rfl rfl (Yi.pv _ rfl) ?_
              refine RW.nil ?_
              refine EW.next ?_
              refine CW.ret ?_
              refine EW.blr ?_
              refine EW.thr ?_
              refine EW.thr ?_
              refine EW.blr ?_
              refine EW.thr ?_
              obtain rfl := Option.some.inj hm
              exact EW.done (rs := [.tmp 4]) rfl (.tmp (t := 4) (v := .bool false) rfl .nil) (fun _ hM => ⟨rfl, hM.below⟩)
            · replace hm := (if_neg h21).symm.trans hm
              refine QW.yi (.int .i64 v18) rfl rfl (Yi.pv _ rfl) ?_
              refine QW.yi (.pointer (some ⟨b12, v18.toNat, none⟩)) rfl rfl (Yi.indexAddr' _ Tryd.underlying26 Tryd.sizeOf3 rfl rfl g20.1 g20.2 (by omega)) ?_
              refine QW.yi (.int .i64 (r11.1 v18.toNat)) rfl rfl (Yi.load1 (i := 1) _ rfl rfl Tryd.isAgg3 (cf_get (by omega))) ?_
              refine QW.yi (.int .i64 v18) rfl rfl (Yi.pv _ rfl) ?_
              refine QW.yi (.pointer (some ⟨b14, v18.toNat, none⟩)) rfl rfl (Yi.indexAddr' _ Tryd.underlying26 Tryd.sizeOf3 rfl rfl g20.1 g20.2 (by omega)) ?_
              refine QW.yi (.int .i64 (r13.1 v18.toNat)) rfl rfl (Yi.load1 (i := 0) _ rfl rfl Tryd.isAgg3 (cf_get (by omega))) ?_
              refine QW.yi (.int .i64 (w64 (0 - (r13.1 v18.toNat)))) rfl rfl (Yi.pv _ rfl) ?_
              refine QW.yi (.bool (decide (¬ (r11.1 v18.toNat) = (w64 (0 - (r13.1 v18.toNat)))))) rfl rfl (Yi.pv _ rfl) ?_
              refine QW.yi (.bool (decide (¬ (r11.1 v18.toNat) = (w64 (0 - (r13.1 v18.toNat)))))) rfl rfl (Yi.pv _ rfl) ?_
              refine QW.nil ?_
              refine EW.next ?_
              refine CW.fork 75 (¬ (r11.1 v18.toNat) = (w64 (0 - (r13.1 v18.toNat)))) rfl (fun h22 => ?_) (fun h22 => ?_)
              · replace hm := (if_pos h22).symm.trans hm
                refine CW.cond_true rfl ?_
                refine CW.seq ?_
                refine CW.region ?_
                refine RW.yi (.bool false) rfl rfl (Yi.pv _ rfl) ?_
                refine RW.nil ?_
                refine EW.next ?_
                refine CW.ret ?_
                refine EW.blr ?_
                refine EW.thr ?_
                refine EW.thr ?_
                refine EW.blr ?_
                refine EW.thr ?_
                obtain rfl := Option.some.inj hm
                exact EW.done (rs := [.tmp 4]) rfl (.tmp (t := 4) (v := .bool false) rfl .nil) (fun _ hM => ⟨rfl, hM.below⟩)
              · replace hm := (if_neg h22).symm.trans hm
                refine CW.cond_false rfl ?_
                refine CW.skip ?_
                refine EW.bln ?_
                refine EW.next ?_
                refine CW.region ?_
                refine RW.yi (.int .i64 (w64 (v18 + 1))) rfl rfl (Yi.pv _ rfl) ?_
                refine RW.yi (.int .i64 (w64 (v18 + 1))) rfl rfl (Yi.pv _ rfl) ?_
                refine RW.nil ?_
                refine EW.thn ?_
                exact fun a w hs hM => ⟨(w64 (v18 + 1)), hs.sub ⟨rfl, rfl, rfl, rfl, rfl, rfl, rfl, rfl, rfl, trivial⟩, hM.sub (.cons_cons _ (.cons_cons _ (.cons_cons _ (.cons_cons _ .slnil)))), hm⟩
          · replace hm := (if_neg h19).symm.trans hm
            refine CW.cond_false rfl ?_
            refine CW.exit ?_
            refine EW.thx ?_
            refine EW.thx ?_
            refine EW.blx ?_
            refine EW.thn ?_
            exact fun a w hs hM => ⟨hs.sub ⟨rfl, rfl, rfl, rfl, trivial⟩, hM.sub (.cons _ (.cons _ (.cons _ (.cons _ .slnil)))), hm⟩
      · rintro a w ⟨hs, hM, hm⟩
        unfold lawQuantTurns_j2 at hm
        refine CW.enter hs hM ?_
        refine CW.seq ?_
        refine CW.region ?_
        refine RW.yi (.int .i64 r7.2) rfl rfl (Yi.pv _ rfl) ?_
        refine RW.yi (.int .i64 r9.2) rfl rfl (Yi.pv _ rfl) ?_
        refine RW.yi (.bool (decide (r7.2 = r9.2))) rfl rfl (Yi.pv _ rfl) ?_
        refine RW.yi (.bool (decide (r7.2 = r9.2))) rfl rfl (Yi.pv _ rfl) ?_
        refine RW.fork 80 (r7.2 = r9.2) rfl (fun h15 => ?_) (fun h15 => ?_)
        · replace hm := (if_pos h15).symm.trans hm
          refine RW.yi (.int .i64 r11.2) rfl rfl (Yi.pv _ rfl) ?_
          refine RW.yi (.int .i64 r13.2) rfl rfl (Yi.pv _ rfl) ?_
          refine RW.yi (.bool (decide (r11.2 = r13.2))) rfl rfl (Yi.pv _ rfl) ?_
          refine RW.yi (.bool (decide (r11.2 = r13.2))) rfl rfl (Yi.pv _ rfl) ?_
          refine RW.yi (.bool (decide (r11.2 = r13.2))) rfl rfl (Yi.pv _ rfl) ?_
          refine RW.fork 85 (r11.2 = r13.2) rfl (fun h16 => ?_) (fun h16 => ?_)
          · replace hm := (if_pos h16).symm.trans hm
            obtain ⟨r17, hr17, hm⟩ := of_bind hm
            refine RW.ca (.bool r17) rfl rfl (Ca.call rfl rfl Tryd.call11 (fun w hM => c_awake8 K  r17 w (hG.keep hM rfl) hr17)) ?_
            refine RW.yi (.bool r17) rfl rfl (Yi.pv _ rfl) ?_
            refine RW.yi (.bool r17) rfl rfl (Yi.pv _ rfl) ?_
            refine RW.nil ?_
            refine EW.next ?_
            refine CW.ret ?_
            obtain rfl := Option.some.inj hm
            exact EW.done (rs := [.tmp 4]) rfl (.tmp (t := 4) (v := .bool r17) rfl .nil) (fun _ hM => ⟨rfl, hM.below⟩)
          · replace hm := (if_neg h16).symm.trans hm
            refine RW.pass rfl rfl ?_
            refine RW.yi (.bool false) rfl rfl (Yi.pv _ rfl) ?_
            refine RW.yi (.bool false) rfl rfl (Yi.pv _ rfl) ?_
            refine RW.nil ?_
            refine EW.next ?_
            refine CW.ret ?_
            obtain rfl := Option.some.inj hm
            exact EW.done (rs := [.tmp 4]) rfl (.tmp (t := 4) (v := .bool false) rfl .nil) (fun _ hM => ⟨rfl, hM.below⟩)
        · replace hm := (if_neg h15).symm.trans hm
          refine RW.pass rfl rfl ?_
          refine RW.pass rfl rfl ?_
          refine RW.pass rfl rfl ?_
          refine RW.yi (.bool false) rfl rfl (Yi.pv _ rfl) ?_
          refine RW.yi (.bool false) rfl rfl (Yi.pv _ rfl) ?_
          refine RW.pass rfl rfl ?_
          refine RW.yi (.bool false) rfl rfl (Yi.pv _ rfl) ?_
          refine RW.yi (.bool false) rfl rfl (Yi.pv _ rfl) ?_
          refine RW.nil ?_
          refine EW.next ?_
          refine CW.ret ?_
          obtain rfl := Option.some.inj hm
          exact EW.done (rs := [.tmp 4]) rfl (.tmp (t := 4) (v := .bool false) rfl .nil) (fun _ hM => ⟨rfl, hM.below⟩)
  · replace hm := (if_neg h4).symm.trans hm
    refine RW.yi (.bool true) rfl rfl (Yi.pv _ rfl) ?_
    refine RW.nil ?_
    refine EW.next ?_
    refine CW.cond_true rfl ?_
    refine CW.seq ?_
    refine CW.region ?_
    obtain ⟨r28, hr28, hm⟩ := of_bind hm
    refine RW.ca (.bool r28) rfl rfl (Ca.call rfl rfl Tryd.call11 (fun w hM => c_awake8 K  r28 w (hG.keep hM rfl) hr28)) ?_
    refine RW.yi (.bool r28) rfl rfl (Yi.pv _ rfl) ?_
    refine RW.nil ?_
    refine EW.next ?_
    refine CW.ret ?_
    refine EW.thr ?_
    obtain rfl := Option.some.inj hm
    exact EW.done (rs := [.tmp 4]) rfl (.tmp (t := 4) (v := .bool r28) rfl .nil) (fun _ hM => ⟨rfl, hM.below⟩)
end Go.Proofs.YtplfcapahmjmgaaDoor