import Derived.Test.YtplfcapahmjmgaaDoorT1
import Derived.Test.YtplfcapahmjmgaaDoorK5
set_option maxRecDepth 100000
namespace Go.Proofs.YtplfcapahmjmgaaDoor
open Go Go.RowKit K
def rBase_j1 (_ : Nat)    : Option ((List Int)) :=
  some ([16, 11, 10, 16, 24, 40, 51, 61, 12, 12, 14, 19, 26, 58, 60, 55, 14, 13, 16, 24, 40, 57, 69, 56, 14, 17, 22, 29, 51, 87, 80, 62, 18, 22, 37, 56, 68, 109, 103, 77, 24, 35, 55, 64, 81, 104, 113, 92, 49, 64, 78, 87, 103, 121, 120, 101, 72, 92, 95, 98, 112, 100, 103, 99] : List Int)

def rBase_j2 (_ : Nat)   (v7 : (List Int)) : Option ((List Int)) :=
  some v7

def rBase_l1 (K : Nat)  : Nat → (List Int) →  Option ((List Int))
  | 0, _ => none
  | k1 + 1, v9 =>
    (if (v9.length : Int) < 64 then (if v9.length + ([99] : List Int).length ≤ 17592186044416 then (rBase_l1 K k1) (v9 ++ ([99] : List Int)) else none) else rBase_j2 K v9)

def rBase (K : Nat) (a0_colour : Bool) : Option ((List Int)) :=
  (if a0_colour = true then rBase_l1 K K ([17, 18, 24, 47, 99, 99, 99, 99, 18, 21, 26, 66, 99, 99, 99, 99, 24, 26, 56, 99, 99, 99, 99, 99, 47, 66] : List Int) else rBase_j1 K)

theorem c_rBase (K : Nat) (a0_colour : Bool) (r : (List Int)) (w0 : World) (hm : rBase K a0_colour = some r) : Calls Tryd.prog 20 #[.bool a0_colour] w0 fun e w' => ∃ u, e = .returned (u) ∧ w'.ownsRow w0.heap.size 3 1 u r.length (ic r) ∧ Below w0.heap.size w0 w' := by
  unfold rBase at hm
  refine calls_CW (n := 14) w0 [] [] Tryd.func20 rfl rfl rfl (Mem.begin w0) ?_
  refine CW.seq ?_
  refine CW.region ?_
  refine RW.nilRow 3 1 ?_
  refine RW.yi (.slice none 0 0) rfl rfl (Yi.pv _ rfl) ?_
  refine RW.nil ?_
  refine EW.next ?_
  refine CW.join (fun a w => St 14 [] a ∧ Mem w0 [] [] w ∧ rBase_j1 K = some r) ?_ ?_
  · refine CW.seq ?_
    refine CW.region ?_
    refine RW.yi (.bool a0_colour) rfl rfl (Yi.pv _ rfl) ?_
    refine RW.nil ?_
    refine EW.next ?_
    refine CW.forkB 4 (a0_colour) rfl (fun h4 => ?_) (fun h4 => ?_)
    · replace hm := (if_pos h4).symm.trans hm
      refine CW.cond_true rfl ?_
      refine CW.seq ?_
      refine CW.region ?_
      refine RW.buildS (e := 3) (sz := 1) (vs := [.int .i64 17, .int .i64 18, .int .i64 24, .int .i64 47, .int .i64 99, .int .i64 99, .int .i64 99, .int .i64 99, .int .i64 18, .int .i64 21, .int .i64 26, .int .i64 66, .int .i64 99, .int .i64 99, .int .i64 99, .int .i64 99, .int .i64 24, .int .i64 26, .int .i64 56, .int .i64 99, .int .i64 99, .int .i64 99, .int .i64 99, .int .i64 99, .int .i64 47, .int .i64 66]) ((ic ([17, 18, 24, 47, 99, 99, 99, 99, 18, 21, 26, 66, 99, 99, 99, 99, 24, 26, 56, 99, 99, 99, 99, 99, 47, 66] : List Int)).toArray) rfl rfl rfl rfl rfl (by decide) (fun _ => by kernel_rfl) (fun s5 => ?_)
      refine RW.yi (s5) rfl rfl (Yi.pv _ rfl) ?_
      refine RW.nil ?_
      refine EW.next ?_
      refine CW.join (fun a w => ∃ (v7 : (List Int)) (s8 : Value), St 14 [(3, s8)] a ∧ Mem w0 [] [.row s8 3 1 v7.length (ic v7)] w ∧ rBase_j2 K v7 = some r) ?_ ?_
      · refine CW.block ?_
        refine CW.loop (fun k a w => ∃ (v9 : (List Int)) (s10 : Value), St 14 [(3, s10)] a ∧ Mem w0 [] [.row s10 3 1 v9.length (ic v9)] w ∧ rBase_l1 K k v9 = some r) K ?_ ?_ ?_
        · rintro a w ⟨_, _, _, _, hm⟩
          rw [rBase_l1.eq_1] at hm
          cases hm
        · exact fun a w hs hM => ⟨([17, 18, 24, 47, 99, 99, 99, 99, 18, 21, 26, 66, 99, 99, 99, 99, 24, 26, 56, 99, 99, 99, 99, 99, 47, 66] : List Int), s5, hs.sub ⟨rfl, trivial⟩, hM.sub (.cons_cons _ (.cons _ .slnil)), hm⟩
        · rintro k1 a w ⟨v9, s10, hs, hM, hm⟩
          rw [rBase_l1.eq_2] at hm
          refine CW.enter hs hM ?_
          refine CW.seq ?_
          refine CW.seq ?_
          refine CW.region ?_
          refine RW.yi (s10) rfl rfl (Yi.pv _ rfl) ?_
          refine RW.yi (.int .i64 (v9.length : Int)) rfl rfl (Yi.lenS (cs := ic v9) (m := v9.length) Tryd.underlying36 rfl (fun _ hM => hM.rd (i := 0) rfl)) ?_
          refine RW.yi (.bool (decide ((v9.length : Int) < 64))) rfl rfl (Yi.pv _ rfl) ?_
          refine RW.nil ?_
          refine EW.next ?_
          refine CW.fork 8 ((v9.length : Int) < 64) rfl (fun h11 => ?_) (fun h11 => ?_)
          · replace hm := (if_pos h11).symm.trans hm
            refine CW.cond_true rfl ?_
            refine CW.skip ?_
            refine EW.next ?_
            refine CW.block ?_
            refine CW.region ?_
            refine RW.yi (s10) rfl rfl (Yi.pv _ rfl) ?_
            refine RW.buildS (e := 3) (sz := 1) (vs := [.int .i64 99]) ((ic ([99] : List Int)).toArray) rfl rfl rfl rfl rfl (by decide) (fun _ => by kernel_rfl) (fun s12 => ?_)
            obtain ⟨g14, hm⟩ := of_guard hm
            refine RW.app (i := 1) (e := 3) (sz := 1) (by_ := 8) (z := .int .i64 0) (m := v9.length) (mx := ([99] : List Int).length) (m' := (v9 ++ ([99] : List Int)).length) (cs := ic v9) (news := ic ([99] : List Int)) (cs' := ic (v9 ++ ([99] : List Int))) rfl rfl Tryd.underlying36 (by kernel_rfl) rfl (by decide) (by decide) rfl rfl rfl (fun _ hM => hM.rd (i := 0) rfl) (ic_one _) (by omega) (ic_append _ _) (by simp) (fun s15 => ?_)
            refine RW.yi (s15) rfl rfl (Yi.pv _ rfl) ?_
            refine RW.nil ?_
            refine EW.bln ?_
            refine EW.thn ?_
            exact fun a w hs hM => ⟨(v9 ++ ([99] : List Int)), s15, hs.sub ⟨rfl, trivial⟩, hM.sub (.cons _ (.cons_cons _ .slnil)), hm⟩
          · replace hm := (if_neg h11).symm.trans hm
            refine CW.cond_false rfl ?_
            refine CW.exit ?_
            refine EW.thx ?_
            refine EW.thx ?_
            refine EW.blx ?_
            refine EW.thn ?_
            exact fun a w hs hM => ⟨v9, s10, hs.sub ⟨rfl, trivial⟩, hM.sub (.cons_cons _ .slnil), hm⟩
      · rintro a w ⟨v7, s8, hs, hM, hm⟩
        unfold rBase_j2 at hm
        refine CW.enter hs hM ?_
        refine CW.seq ?_
        refine CW.region ?_
        refine RW.yi (s8) rfl rfl (Yi.pv _ rfl) ?_
        refine RW.yi (s8) rfl rfl (Yi.pv _ rfl) ?_
        refine RW.nil ?_
        refine EW.next ?_
        refine CW.ret ?_
        refine EW.thr ?_
        obtain rfl := Option.some.inj hm
        exact EW.doneS (rs := [.tmp 2]) (i := 0) rfl (.tmp (t := 2) (v := s8) rfl .nil) rfl (fun _ hM ho => ⟨_, rfl, ho, hM.below⟩)
    · replace hm := (if_neg h4).symm.trans hm
      refine CW.cond_false rfl ?_
      refine CW.skip ?_
      refine EW.thn ?_
      exact fun a w hs hM => ⟨hs.sub trivial, hM.sub (.cons _ .slnil), hm⟩
  · rintro a w ⟨hs, hM, hm⟩
    unfold rBase_j1 at hm
    refine CW.enter hs hM ?_
    refine CW.seq ?_
    refine CW.region ?_
    refine RW.buildS (e := 3) (sz := 1) (vs := [.int .i64 16, .int .i64 11, .int .i64 10, .int .i64 16, .int .i64 24, .int .i64 40, .int .i64 51, .int .i64 61, .int .i64 12, .int .i64 12, .int .i64 14, .int .i64 19, .int .i64 26, .int .i64 58, .int .i64 60, .int .i64 55, .int .i64 14, .int .i64 13, .int .i64 16, .int .i64 24, .int .i64 40, .int .i64 57, .int .i64 69, .int .i64 56, .int .i64 14, .int .i64 17, .int .i64 22, .int .i64 29, .int .i64 51, .int .i64 87, .int .i64 80, .int .i64 62, .int .i64 18, .int .i64 22, .int .i64 37, .int .i64 56, .int .i64 68, .int .i64 109, .int .i64 103, .int .i64 77, .int .i64 24, .int .i64 35, .int .i64 55, .int .i64 64, .int .i64 81, .int .i64 104, .int .i64 113, .int .i64 92, .int .i64 49, .int .i64 64, .int .i64 78, .int .i64 87, .int .i64 103, .int .i64 121, .int .i64 120, .int .i64 101, .int .i64 72, .int .i64 92, .int .i64 95, .int .i64 98, .int .i64 112, .int .i64 100, .int .i64 103, .int .i64 99]) ((ic ([16, 11, 10, 16, 24, 40, 51, 61, 12, 12, 14, 19, 26, 58, 60, 55, 14, 13, 16, 24, 40, 57, 69, 56, 14, 17, 22, 29, 51, 87, 80, 62, 18, 22, 37, 56, 68, 109, 103, 77, 24, 35, 55, 64, 81, 104, 113, 92, 49, 64, 78, 87, 103, 121, 120, 101, 72, 92, 95, 98, 112, 100, 103, 99] : List Int)).toArray) rfl rfl rfl rfl rfl (by decide) (fun _ => by kernel_rfl) (fun s2 => ?_)
    refine RW.yi (s2) rfl rfl (Yi.pv _ rfl) ?_
    refine RW.nil ?_
    refine EW.next ?_
    refine CW.ret ?_
    obtain rfl := Option.some.inj hm
    exact EW.doneS (rs := [.tmp 2]) (i := 0) rfl (.tmp (t := 2) (v := s2) rfl .nil) rfl (fun _ hM ho => ⟨_, rfl, ho, hM.below⟩)
def rSteps_j1 (_ : Nat)   (v8 : (Nat → Int)) : Option ((Nat → Int) × Int) :=
  some (v8, 0)

def rSteps_j2 (_ : Nat) (cb_rSteps_l1 : Int → (Nat → Int) → Option ((Nat → Int) × Int)) (v10 : Int) (v13 : (Nat → Int)) : Option ((Nat → Int) × Int) :=
  cb_rSteps_l1 (w64 (v10 + 1)) v13

def rSteps_j4 (K : Nat) (cb_rSteps_l1 : Int → (Nat → Int) → Option ((Nat → Int) × Int)) (v10 : Int) (v17 : (Nat → Int)) : Option ((Nat → Int) × Int) :=
  (if 255 < (v17 v10.toNat) then rSteps_j2 K cb_rSteps_l1 v10 (upd v17 v10.toNat 255) else rSteps_j2 K cb_rSteps_l1 v10 v17)

def rSteps_j3 (K : Nat) (cb_rSteps_l1 : Int → (Nat → Int) → Option ((Nat → Int) × Int)) (r5 : ((List Int))) (v10 : Int) (v11 : (Nat → Int)) (v14 : Int) : Option ((Nat → Int) × Int) :=
  (if 0 ≤ v10 ∧ v10 < (r5.length : Int) then (if 0 ≤ v10 ∧ v10 < 64 then (if ((upd v11 v10.toNat (w64 (Int.tdiv (w64 ((w64 ((r5.getD v10.toNat 0) * v14)) + 50)) 100))) v10.toNat) < 1 then rSteps_j4 K cb_rSteps_l1 v10 (upd (upd v11 v10.toNat (w64 (Int.tdiv (w64 ((w64 ((r5.getD v10.toNat 0) * v14)) + 50)) 100))) v10.toNat 1) else rSteps_j4 K cb_rSteps_l1 v10 (upd v11 v10.toNat (w64 (Int.tdiv (w64 ((w64 ((r5.getD v10.toNat 0) * v14)) + 50)) 100)))) else none) else none)

def rSteps_l1 (K : Nat) (a1_quality : Int) (r5 : ((List Int))) : Nat → Int → (Nat → Int) →  Option ((Nat → Int) × Int)
  | 0, _, _ => none
  | k1 + 1, v10, v11 =>
    (if v10 < 64 then (if a1_quality < 50 then (if a1_quality ≠ 0 then rSteps_j3 K (rSteps_l1 K a1_quality r5 k1) r5 v10 v11 (w64 (Int.tdiv 5000 a1_quality)) else none) else rSteps_j3 K (rSteps_l1 K a1_quality r5 k1) r5 v10 v11 (w64 (200 - (w64 (2 * a1_quality))))) else rSteps_j1 K v11)

def rSteps (K : Nat) (a0_colour : Bool) (a1_quality : Int) : Option ((Nat → Int) × Int) :=
  (if a1_quality < 1 then some (zf, 2) else (if 100 < a1_quality then some (zf, 2) else ((rBase K a0_colour).bind fun r5 => rSteps_l1 K a1_quality r5 K 0 zf)))

theorem c_rSteps (K : Nat) (a0_colour : Bool) (a1_quality : Int) (r : (Nat → Int) × Int) (w0 : World) (hm : rSteps K a0_colour a1_quality = some r) : Calls Tryd.prog 13 #[.bool a0_colour, .int .i64 a1_quality] w0 fun e w' => e = .returned (.tuple #[.agg (cf 64 (iv r.1)), .int .i64 r.2]) ∧ Below w0.heap.size w0 w' := by
  unfold rSteps at hm
  refine calls_CW (n := 54) w0 [] [] Tryd.func13 rfl rfl rfl (Mem.begin w0) ?_
  refine CW.seq ?_
  refine CW.region ?_
  refine RW.alloc (z := .agg (cf 64 (iv zf))) (cf 64 (iv zf)) rfl rfl (fun _ => by kernel_rfl) rfl (fun b1 => ?_)
  refine RW.yi (.int .i64 0) rfl rfl (Yi.pv _ rfl) ?_
  refine RW.nil ?_
  refine EW.next ?_
  refine CW.seq ?_
  refine CW.region ?_
  refine RW.yi (.agg (cf 64 (iv zf))) rfl rfl (Yi.build (vs := []) _ rfl rfl (fun _ => by kernel_rfl)) ?_
  refine RW.alloc (z := .agg (cf 64 (iv zf))) (cf 64 (iv zf)) rfl rfl (fun _ => by kernel_rfl) rfl (fun b2 => ?_)
  refine RW.storeW (i := 0) (cs' := cf 64 (iv zf)) rfl rfl rfl rfl (by rw [cf_size]; kernel_rfl) (by simp only [cf_size]) (iv_one _ _) ?_
  refine RW.nil ?_
  refine EW.next ?_
  refine CW.seq ?_
  refine CW.seq ?_
  refine CW.region ?_
  refine RW.yi (.int .i64 a1_quality) rfl rfl (Yi.pv _ rfl) ?_
  refine RW.yi (.bool (decide (a1_quality < 1))) rfl rfl (Yi.pv _ rfl) ?_
  refine RW.yi (.bool (decide (a1_quality < 1))) rfl rfl (Yi.pv _ rfl) ?_
  refine RW.fork 13 (a1_quality < 1) rfl (fun h3 => ?_) (fun h3 => ?_)
  · replace hm := (if_pos h3).symm.trans hm
    refine RW.pass rfl rfl ?_
    refine RW.pass rfl rfl ?_
    refine RW.yi (.bool true) rfl rfl (Yi.pv _ rfl) ?_
    refine RW.nil ?_
    refine EW.next ?_
    refine CW.cond_true rfl ?_
    refine CW.seq ?_
    refine CW.region ?_
    refine RW.yi (.agg (cf 64 (iv zf))) rfl rfl (Yi.loadW (i := 0) rfl rfl Tryd.isAgg26 Tryd.sizeOf26) ?_
    refine RW.storeW (i := 1) (cs' := cf 64 (iv zf)) rfl rfl rfl rfl (by rw [cf_size]; kernel_rfl) (by simp only [cf_size]) (iv_one _ _) ?_
    refine RW.yi (.int .i64 2) rfl rfl (Yi.pv _ rfl) ?_
    refine RW.nil ?_
    refine EW.next ?_
    refine CW.ret ?_
    refine EW.thr ?_
    obtain rfl := Option.some.inj hm
    exact EW.done (rs := [.cell 4 26, .tmp 5]) rfl (.cellW (i := 1) rfl rfl Tryd.isAgg26 Tryd.sizeOf26 (.tmp (t := 5) (v := .int .i64 2) rfl .nil)) (fun _ hM => ⟨rfl, hM.below⟩)
  · replace hm := (if_neg h3).symm.trans hm
    refine RW.yi (.int .i64 a1_quality) rfl rfl (Yi.pv _ rfl) ?_
    refine RW.yi (.bool (decide (100 < a1_quality))) rfl rfl (Yi.pv _ rfl) ?_
    refine RW.yi (.bool (decide (100 < a1_quality))) rfl rfl (Yi.pv _ rfl) ?_
    refine RW.nil ?_
    refine EW.next ?_
    refine CW.fork 16 (100 < a1_quality) rfl (fun h4 => ?_) (fun h4 => ?_)
    · replace hm := (if_pos h4).symm.trans hm
      refine CW.cond_true rfl ?_
      refine CW.seq ?_
      refine CW.region ?_
      refine RW.yi (.agg (cf 64 (iv zf))) rfl rfl (Yi.loadW (i := 0) rfl rfl Tryd.isAgg26 Tryd.sizeOf26) ?_
      refine RW.storeW (i := 1) (cs' := cf 64 (iv zf)) rfl rfl rfl rfl (by rw [cf_size]; kernel_rfl) (by simp only [cf_size]) (iv_one _ _) ?_
      refine RW.yi (.int .i64 2) rfl rfl (Yi.pv _ rfl) ?_
      refine RW.nil ?_
      refine EW.next ?_
      refine CW.ret ?_
      refine EW.thr ?_
      obtain rfl := Option.some.inj hm
      exact EW.done (rs := [.cell 4 26, .tmp 5]) rfl (.cellW (i := 1) rfl rfl Tryd.isAgg26 Tryd.sizeOf26 (.tmp (t := 5) (v := .int .i64 2) rfl .nil)) (fun _ hM => ⟨rfl, hM.below⟩)
    · replace hm := (if_neg h4).symm.trans hm
      refine CW.cond_false rfl ?_
      refine CW.skip ?_
      refine EW.next ?_
      refine CW.seq ?_
      refine CW.region ?_
      refine RW.yi (.bool a0_colour) rfl rfl (Yi.pv _ rfl) ?_
      obtain ⟨r5, hr5, hm⟩ := of_bind hm
      refine RW.caS (fun s6 => s6) (e := 3) (sz := 1) (m := r5.length) (cs := ic r5) rfl rfl rfl rfl Tryd.call20 (fun w _ => c_rBase K a0_colour r5 w hr5) (fun s6 => ?_)
      refine RW.yi (s6) rfl rfl (Yi.pv _ rfl) ?_
      refine RW.nil ?_
      refine EW.next ?_
      refine CW.join (fun a w => ∃ (v8 : (Nat → Int)), St 54 [(4, .pointer (some ⟨b1, 0, none⟩)), (6, .pointer (some ⟨b2, 0, none⟩))] a ∧ Mem w0 [] [.blk b2 26 (cf 64 (iv v8)), .blk b1 26 (cf 64 (iv zf))] w ∧ rSteps_j1 K v8 = some r) ?_ ?_
      · refine CW.seq ?_
        refine CW.region ?_
        refine RW.yi (.int .i64 0) rfl rfl (Yi.pv _ rfl) ?_
        refine RW.nil ?_
        refine EW.next ?_
        refine CW.block ?_
        refine CW.loop (fun k a w => ∃ (v10 : Int) (v11 : (Nat → Int)), St 54 [(1, .int .i64 a1_quality), (4, .pointer (some ⟨b1, 0, none⟩)), (6, .pointer (some ⟨b2, 0, none⟩)), (7, s6), (8, .int .i64 v10)] a ∧ Mem w0 [] [.row s6 3 1 r5.length (ic r5), .blk b2 26 (cf 64 (iv v11)), .blk b1 26 (cf 64 (iv zf))] w ∧ rSteps_l1 K a1_quality r5 k v10 v11 = some r) K ?_ ?_ ?_
        · rintro a w ⟨_, _, _, _, hm⟩
          rw [rSteps_l1.eq_1] at hm
          cases hm
        · exact fun a w hs hM => ⟨0, zf, hs.sub ⟨rfl, rfl, rfl, rfl, rfl, trivial⟩, hM.sub (.cons_cons _ (.cons_cons _ (.cons_cons _ .slnil))), hm⟩
        · rintro k1 a w ⟨v10, v11, hs, hM, hm⟩
          rw [rSteps_l1.eq_2] at hm
          refine CW.enter hs hM ?_
          refine CW.seq ?_
          refine CW.seq ?_
          refine CW.region ?_
          refine RW.yi (.int .i64 v10) rfl rfl (Yi.pv _ rfl) ?_
          refine RW.yi (.bool (decide (v10 < 64))) rfl rfl (Yi.pv _ rfl) ?_
          refine RW.nil ?_
          refine EW.next ?_
          refine CW.fork 21 (v10 < 64) rfl (fun h12 => ?_) (fun h12 => ?_)
          · replace hm := (if_pos h12).symm.trans hm
            refine CW.cond_true rfl ?_
            refine CW.skip ?_
            refine EW.next ?_
            refine CW.join (fun a w => ∃ (v13 : (Nat → Int)), St 54 [(1, .int .i64 a1_quality), (4, .pointer (some ⟨b1, 0, none⟩)), (6, .pointer (some ⟨b2, 0, none⟩)), (7, s6), (8, .int .i64 v10)] a ∧ Mem w0 [] [.row s6 3 1 r5.length (ic r5), .blk b2 26 (cf 64 (iv v13)), .blk b1 26 (cf 64 (iv zf))] w ∧ rSteps_j2 K (rSteps_l1 K a1_quality r5 k1) v10 v13 = some r) ?_ ?_
            · refine CW.block ?_
              refine CW.seq ?_
              refine CW.region ?_
              refine RW.yi (.int .i64 a1_quality) rfl rfl (Yi.pv _ rfl) ?_
              refine RW.yi (.int .i64 (w64 (2 * a1_quality))) rfl rfl (Yi.pv _ rfl) ?_
              refine RW.yi (.int .i64 (w64 (200 - (w64 (2 * a1_quality))))) rfl rfl (Yi.pv _ rfl) ?_
              refine RW.yi (.int .i64 (w64 (200 - (w64 (2 * a1_quality))))) rfl rfl (Yi.pv _ rfl) ?_
              refine RW.nil ?_
              refine EW.next ?_
              refine CW.join (fun a w => ∃ (v14 : Int), St 54 [(1, .int .i64 a1_quality), (4, .pointer (some ⟨b1, 0, none⟩)), (6, .pointer (some ⟨b2, 0, none⟩)), (7, s6), (8, .int .i64 v10), (9, .int .i64 v14)] a ∧ Mem w0 [] [.row s6 3 1 r5.length (ic r5), .blk b2 26 (cf 64 (iv v11)), .blk b1 26 (cf 64 (iv zf))] w ∧ rSteps_j3 K (rSteps_l1 K a1_quality r5 k1) r5 v10 v11 v14 = some r) ?_ ?_
              · refine CW.seq ?_
                refine CW.region ?_
                refine RW.yi (.int .i64 a1_quality) rfl rfl (Yi.pv _ rfl) ?_
                refine RW.yi (.bool (decide (a1_quality < 50))) rfl rfl (Yi.pv _ rfl) ?_
                refine RW.nil ?_
                refine EW.next ?_
                refine CW.fork 28 (a1_quality < 50) rfl (fun h20 => ?_) (fun h20 => ?_)
                · replace hm := (if_pos h20).symm.trans hm
                  refine CW.cond_true rfl ?_
                  refine CW.region ?_
                  refine RW.yi (.int .i64 a1_quality) rfl rfl (Yi.pv _ rfl) ?_
                  obtain ⟨g21, hm⟩ := of_guard hm
                  refine RW.yi (.int .i64 (w64 (Int.tdiv 5000 a1_quality))) rfl rfl (Yi.quo rfl rfl g21) ?_
                  refine RW.yi (.int .i64 (w64 (Int.tdiv 5000 a1_quality))) rfl rfl (Yi.pv _ rfl) ?_
                  refine RW.nil ?_
                  refine EW.thn ?_
                  exact fun a w hs hM => ⟨(w64 (Int.tdiv 5000 a1_quality)), hs.sub ⟨rfl, rfl, rfl, rfl, rfl, rfl, trivial⟩, hM.sub (.cons_cons _ (.cons_cons _ (.cons_cons _ .slnil))), hm⟩
                · replace hm := (if_neg h20).symm.trans hm
                  refine CW.cond_false rfl ?_
                  refine CW.skip ?_
                  refine EW.thn ?_
                  exact fun a w hs hM => ⟨(w64 (200 - (w64 (2 * a1_quality)))), hs.sub ⟨rfl, rfl, rfl, rfl, rfl, rfl, trivial⟩, hM.sub (.cons_cons _ (.cons_cons _ (.cons_cons _ .slnil))), hm⟩
              · rintro a w ⟨v14, hs, hM, hm⟩
                unfold rSteps_j3 at hm
                refine CW.enter hs hM ?_
                refine CW.seq ?_
                refine CW.region ?_
                refine RW.yi (.int .i64 v10) rfl rfl (Yi.pv _ rfl) ?_
                refine RW.yi (s6) rfl rfl (Yi.pv _ rfl) ?_
                refine RW.yi (.int .i64 v10) rfl rfl (Yi.pv _ rfl) ?_
                obtain ⟨g15, hm⟩ := of_guard hm
                refine RW.yi (.pointer (some (eaddr s6 1 v10.toNat 0))) rfl rfl (Yi.idxS (m := r5.length) Tryd.underlying36 Tryd.sizeOf3 rfl rfl (fun _ hM => hM.rd (i := 0) rfl) g15.1 g15.2) ?_
                refine RW.yi (.int .i64 (r5.getD v10.toNat 0)) rfl rfl (Yi.loadS (m := r5.length) (cs := ic r5) _ rfl (fun _ hM => hM.rd (i := 0) rfl) Tryd.isAgg3 (by omega) (by decide) (by rw [Nat.mul_one, Nat.add_zero]; exact ic_get (by omega))) ?_
                refine RW.yi (.int .i64 v14) rfl rfl (Yi.pv _ rfl) ?_
                refine RW.yi (.int .i64 (w64 ((r5.getD v10.toNat 0) * v14))) rfl rfl (Yi.pv _ rfl) ?_
                refine RW.yi (.int .i64 (w64 ((w64 ((r5.getD v10.toNat 0) * v14)) + 50))) rfl rfl (Yi.pv _ rfl) ?_
                refine RW.yi (.int .i64 (w64 (Int.tdiv (w64 ((w64 ((r5.getD v10.toNat 0) * v14)) + 50)) 100))) rfl rfl (Yi.quo rfl rfl (by decide)) ?_
                obtain ⟨g16, hm⟩ := of_guard hm
                refine RW.yi (.pointer (some ⟨b2, v10.toNat, none⟩)) rfl rfl (Yi.indexAddr' _ Tryd.underlying26 Tryd.sizeOf3 rfl rfl g16.1 g16.2 (by omega)) ?_
                refine RW.store1 (i := 1) (cs' := cf 64 (iv (upd v11 v10.toNat (w64 (Int.tdiv (w64 ((w64 ((r5.getD v10.toNat 0) * v14)) + 50)) 100))))) rfl rfl rfl rfl Tryd.sizeOf3 rfl rfl (by rw [cf_size]; omega) (by rw [cf_set, iv_upd]) ?_
                refine RW.nil ?_
                refine EW.next ?_
                refine CW.join (fun a w => ∃ (v17 : (Nat → Int)), St 54 [(1, .int .i64 a1_quality), (4, .pointer (some ⟨b1, 0, none⟩)), (6, .pointer (some ⟨b2, 0, none⟩)), (7, s6), (8, .int .i64 v10)] a ∧ Mem w0 [] [.row s6 3 1 r5.length (ic r5), .blk b2 26 (cf 64 (iv v17)), .blk b1 26 (cf 64 (iv zf))] w ∧ rSteps_j4 K (rSteps_l1 K a1_quality r5 k1) v10 v17 = some r) ?_ ?_
                · refine CW.seq ?_
                  refine CW.region ?_
                  refine RW.yi (.int .i64 v10) rfl rfl (Yi.pv _ rfl) ?_
                  refine RW.yi (.pointer (some ⟨b2, v10.toNat, none⟩)) rfl rfl (Yi.indexAddr' _ Tryd.underlying26 Tryd.sizeOf3 rfl rfl g16.1 g16.2 (by omega)) ?_
                  refine RW.yi (.int .i64 ((upd v11 v10.toNat (w64 (Int.tdiv (w64 ((w64 ((r5.getD v10.toNat 0) * v14)) + 50)) 100))) v10.toNat)) rfl rfl (Yi.load1 (i := 1) _ rfl rfl Tryd.isAgg3 (cf_get (by omega))) ?_
                  refine RW.yi (.bool (decide (((upd v11 v10.toNat (w64 (Int.tdiv (w64 ((w64 ((r5.getD v10.toNat 0) * v14)) + 50)) 100))) v10.toNat) < 1))) rfl rfl (Yi.pv _ rfl) ?_
                  refine RW.nil ?_
                  refine EW.next ?_
                  refine CW.fork 44 (((upd v11 v10.toNat (w64 (Int.tdiv (w64 ((w64 ((r5.getD v10.toNat 0) * v14)) + 50)) 100))) v10.toNat) < 1) rfl (fun h19 => ?_) (fun h19 => ?_)
                  · replace hm := (if_pos h19).symm.trans hm
                    refine CW.cond_true rfl ?_
                    refine CW.region ?_
                    refine RW.yi (.int .i64 v10) rfl rfl (Yi.pv _ rfl) ?_
                    refine RW.yi (.pointer (some ⟨b2, v10.toNat, none⟩)) rfl rfl (Yi.indexAddr' _ Tryd.underlying26 Tryd.sizeOf3 rfl rfl g16.1 g16.2 (by omega)) ?_
                    refine RW.store1 (i := 1) (cs' := cf 64 (iv (upd (upd v11 v10.toNat (w64 (Int.tdiv (w64 ((w64 ((r5.getD v10.toNat 0) * v14)) + 50)) 100))) v10.toNat 1))) rfl rfl rfl rfl Tryd.sizeOf3 rfl rfl (by rw [cf_size]; omega) (by rw [cf_set, iv_upd]) ?_
                    refine RW.nil ?_
                    refine EW.thn ?_
                    exact fun a w hs hM => ⟨(upd (upd v11 v10.toNat (w64 (Int.tdiv (w64 ((w64 ((r5.getD v10.toNat 0) * v14)) + 50)) 100))) v10.toNat 1), hs.sub ⟨rfl, rfl, rfl, rfl, rfl, trivial⟩, hM.sub (.cons_cons _ (.cons_cons _ (.cons_cons _ .slnil))), hm⟩
                  · replace hm := (if_neg h19).symm.trans hm
                    refine CW.cond_false rfl ?_
                    refine CW.skip ?_
                    refine EW.thn ?_
                    exact fun a w hs hM => ⟨(upd v11 v10.toNat (w64 (Int.tdiv (w64 ((w64 ((r5.getD v10.toNat 0) * v14)) + 50)) 100))), hs.sub ⟨rfl, rfl, rfl, rfl, rfl, trivial⟩, hM.sub (.cons_cons _ (.cons_cons _ (.cons_cons _ .slnil))), hm⟩
                · rintro a w ⟨v17, hs, hM, hm⟩
                  unfold rSteps_j4 at hm
                  refine CW.enter hs hM ?_
                  refine CW.seq ?_
                  refine CW.region ?_
                  refine RW.yi (.int .i64 v10) rfl rfl (Yi.pv _ rfl) ?_
                  refine RW.yi (.pointer (some ⟨b2, v10.toNat, none⟩)) rfl rfl (Yi.indexAddr' _ Tryd.underlying26 Tryd.sizeOf3 rfl rfl g16.1 g16.2 (by omega)) ?_
                  refine RW.yi (.int .i64 (v17 v10.toNat)) rfl rfl (Yi.load1 (i := 1) _ rfl rfl Tryd.isAgg3 (cf_get (by omega))) ?_
                  refine RW.yi (.bool (decide (255 < (v17 v10.toNat)))) rfl rfl (Yi.pv _ rfl) ?_
                  refine RW.nil ?_
                  refine EW.next ?_
                  refine CW.fork 50 (255 < (v17 v10.toNat)) rfl (fun h18 => ?_) (fun h18 => ?_)
                  · replace hm := (if_pos h18).symm.trans hm
                    refine CW.cond_true rfl ?_
                    refine CW.region ?_
                    refine RW.yi (.int .i64 v10) rfl rfl (Yi.pv _ rfl) ?_
                    refine RW.yi (.pointer (some ⟨b2, v10.toNat, none⟩)) rfl rfl (Yi.indexAddr' _ Tryd.underlying26 Tryd.sizeOf3 rfl rfl g16.1 g16.2 (by omega)) ?_
                    refine RW.store1 (i := 1) (cs' := cf 64 (iv (upd v17 v10.toNat 255))) rfl rfl rfl rfl Tryd.sizeOf3 rfl rfl (by rw [cf_size]; omega) (by rw [cf_set, iv_upd]) ?_
                    refine RW.nil ?_
                    refine EW.bln ?_
                    refine EW.thn ?_
                    exact fun a w hs hM => ⟨(upd v17 v10.toNat 255), hs.sub ⟨rfl, rfl, rfl, rfl, rfl, trivial⟩, hM.sub (.cons_cons _ (.cons_cons _ (.cons_cons _ .slnil))), hm⟩
                  · replace hm := (if_neg h18).symm.trans hm
                    refine CW.cond_false rfl ?_
                    refine CW.skip ?_
                    refine EW.bln ?_
                    refine EW.thn ?_
                    exact fun a w hs hM => ⟨v17, hs.sub ⟨rfl, rfl, rfl, rfl, rfl, trivial⟩, hM.sub (.cons_cons _ (.cons_cons _ (.cons_cons _ .slnil))), hm⟩
            · rintro a w ⟨v13, hs, hM, hm⟩
              unfold rSteps_j2 at hm
              refine CW.enter hs hM ?_
              refine CW.region ?_
              refine RW.yi (.int .i64 v10) rfl rfl (Yi.pv _ rfl) ?_
              refine RW.yi (.int .i64 (w64 (v10 + 1))) rfl rfl (Yi.pv _ rfl) ?_
              refine RW.yi (.int .i64 (w64 (v10 + 1))) rfl rfl (Yi.pv _ rfl) ?_
              refine RW.nil ?_
              refine EW.thn ?_
              exact fun a w hs hM => ⟨(w64 (v10 + 1)), v13, hs.sub ⟨rfl, rfl, rfl, rfl, rfl, trivial⟩, hM.sub (.cons_cons _ (.cons_cons _ (.cons_cons _ .slnil))), hm⟩
          · replace hm := (if_neg h12).symm.trans hm
            refine CW.cond_false rfl ?_
            refine CW.exit ?_
            refine EW.thx ?_
            refine EW.thx ?_
            refine EW.blx ?_
            refine EW.thn ?_
            exact fun a w hs hM => ⟨v11, hs.sub ⟨rfl, rfl, trivial⟩, hM.sub (.cons _ (.cons_cons _ (.cons_cons _ .slnil))), hm⟩
      · rintro a w ⟨v8, hs, hM, hm⟩
        unfold rSteps_j1 at hm
        refine CW.enter hs hM ?_
        refine CW.seq ?_
        refine CW.region ?_
        refine RW.yi (.agg (cf 64 (iv v8))) rfl rfl (Yi.loadW (i := 0) rfl rfl Tryd.isAgg26 Tryd.sizeOf26) ?_
        refine RW.storeW (i := 1) (cs' := cf 64 (iv v8)) rfl rfl rfl rfl (by rw [cf_size]; kernel_rfl) (by simp only [cf_size]) (iv_one _ _) ?_
        refine RW.yi (.int .i64 0) rfl rfl (Yi.pv _ rfl) ?_
        refine RW.nil ?_
        refine EW.next ?_
        refine CW.ret ?_
        obtain rfl := Option.some.inj hm
        exact EW.done (rs := [.cell 4 26, .tmp 5]) rfl (.cellW (i := 1) rfl rfl Tryd.isAgg26 Tryd.sizeOf26 (.tmp (t := 5) (v := .int .i64 0) rfl .nil)) (fun _ hM => ⟨rfl, hM.below⟩)
def lawQuantSteps (K : Nat) (a0_colour : Bool) (a1_quality : Int) (a2_other : (Nat → Int)) : Option (Bool) :=
  ((qSteps K a0_colour a1_quality).bind fun r2 => ((rSteps K a0_colour a1_quality).bind fun r4 => (if eqF 64 r2.1 r4.1 then (if r2.2 = r4.2 then ((qRight K r2.1).bind fun r8 => (if r8 = true then (if r4.2 = 0 then ((qRight K a2_other).bind fun r11 => ((rIn K a2_other 1 255).bind fun r12 => (if r11 = true then (if r12 = true then ((awake8 K ).bind fun r15 => some r15) else some false) else (if r12 = true then some false else ((awake8 K ).bind fun r17 => some r17))))) else some false) else (if r4.2 = 0 then some false else ((qRight K a2_other).bind fun r19 => ((rIn K a2_other 1 255).bind fun r20 => (if r19 = true then (if r20 = true then ((awake8 K ).bind fun r23 => some r23) else some false) else (if r20 = true then some false else ((awake8 K ).bind fun r25 => some r25)))))))) else some false) else some false)))

theorem c_lawQuantSteps (K : Nat) (a0_colour : Bool) (a1_quality : Int) (a2_other : (Nat → Int)) (r : Bool) (w0 : World) (hG : Gl GG w0) (hm : lawQuantSteps K a0_colour a1_quality a2_other = some r) : Calls Tryd.prog 5 #[.bool a0_colour, .int .i64 a1_quality, .agg (cf 64 (iv a2_other))] w0 fun e w' => e = .returned (.bool r) ∧ Below w0.heap.size w0 w' := by
  unfold lawQuantSteps at hm
  refine calls_CW (n := 48) w0 [] [] Tryd.func5 rfl rfl rfl (Mem.begin w0) ?_
  refine CW.seq ?_
  refine CW.region ?_
  refine RW.box (v := .agg (cf 64 (iv a2_other))) rfl rfl rfl (fun b1 => ?_)
  refine RW.yi (.bool false) rfl rfl (Yi.pv _ rfl) ?_
  refine RW.nil ?_
  refine EW.next ?_
  refine CW.seq ?_
  refine CW.region ?_
  refine RW.yi (.bool a0_colour) rfl rfl (Yi.pv _ rfl) ?_
  refine RW.yi (.int .i64 a1_quality) rfl rfl (Yi.pv _ rfl) ?_
  obtain ⟨r2, hr2, hm⟩ := of_bind hm
  refine RW.ca (.tuple #[.agg (cf 64 (iv r2.1)), .int .i64 r2.2]) rfl rfl (Ca.call rfl rfl Tryd.call12 (fun w hM => c_qSteps K a0_colour a1_quality r2 w (hG.keep hM rfl) hr2)) ?_
  refine RW.yi (.tuple #[.agg (cf 64 (iv r2.1)), .int .i64 r2.2]) rfl rfl (Yi.pv _ rfl) ?_
  refine RW.yi (.agg (cf 64 (iv r2.1))) rfl rfl (Yi.pv _ rfl) ?_
  refine RW.yi (.int .i64 r2.2) rfl rfl (Yi.pv _ rfl) ?_
  refine RW.alloc (z := .agg (cf 64 (iv zf))) (cf 64 (iv zf)) rfl rfl (fun _ => by kernel_rfl) rfl (fun b3 => ?_)
  refine RW.storeW (i := 0) (cs' := cf 64 (iv r2.1)) rfl rfl rfl rfl (by rw [cf_size]; kernel_rfl) (by simp only [cf_size]) (iv_one _ _) ?_
  refine RW.yi (.int .i64 r2.2) rfl rfl (Yi.pv _ rfl) ?_
  refine RW.nil ?_
  refine EW.next ?_
  refine CW.seq ?_
  refine CW.region ?_
  refine RW.yi (.bool a0_colour) rfl rfl (Yi.pv _ rfl) ?_
  refine RW.yi (.int .i64 a1_quality) rfl rfl (Yi.pv _ rfl) ?_
  obtain ⟨r4, hr4, hm⟩ := of_bind hm
  refine RW.ca (.tuple #[.agg (cf 64 (iv r4.1)), .int .i64 r4.2]) rfl rfl (Ca.call rfl rfl Tryd.call13 (fun w _ => c_rSteps K a0_colour a1_quality r4 w hr4)) ?_
  refine RW.yi (.tuple #[.agg (cf 64 (iv r4.1)), .int .i64 r4.2]) rfl rfl (Yi.pv _ rfl) ?_
  refine RW.yi (.agg (cf 64 (iv r4.1))) rfl rfl (Yi.pv _ rfl) ?_
  refine RW.yi (.int .i64 r4.2) rfl rfl (Yi.pv _ rfl) ?_
  refine RW.alloc (z := .agg (cf 64 (iv zf))) (cf 64 (iv zf)) rfl rfl (fun _ => by kernel_rfl) rfl (fun b5 => ?_)
  refine RW.storeW (i := 0) (cs' := cf 64 (iv r4.1)) rfl rfl rfl rfl (by rw [cf_size]; kernel_rfl) (by simp only [cf_size]) (iv_one _ _) ?_
  refine RW.yi (.int .i64 r4.2) rfl rfl (Yi.pv _ rfl) ?_
  refine RW.nil ?_
  refine EW.next ?_
  refine CW.seq ?_
  refine CW.draws (by kernel_rfl) (by kernel_rfl) ?_
  refine QW.yi (.agg (cf 64 (iv r2.1))) rfl rfl (Yi.loadW (i := 1) rfl rfl Tryd.isAgg26 Tryd.sizeOf26) ?_
  refine QW.yi (.agg (cf 64 (iv r4.1))) rfl rfl (Yi.loadW (i := 0) rfl rfl Tryd.isAgg26 Tryd.sizeOf26) ?_
  refine QW.yi (.bool (decide (eqF 64 r2.1 r4.1))) rfl rfl (Yi.eqA Tryd.underlying26 Tryd.eqGuardType26 Tryd.underlying3 Tryd.sizeOf3 Tryd.isAgg3 rfl rfl) ?_
  refine QW.yi (.bool (decide (eqF 64 r2.1 r4.1))) rfl rfl (Yi.pv _ rfl) ?_
  refine QW.fork 26 (eqF 64 r2.1 r4.1) rfl (fun h6 => ?_) (fun h6 => ?_)
  · replace hm := (if_pos h6).symm.trans hm
    refine QW.yi (.int .i64 r2.2) rfl rfl (Yi.pv _ rfl) ?_
    refine QW.yi (.int .i64 r4.2) rfl rfl (Yi.pv _ rfl) ?_
    refine QW.yi (.bool (decide (r2.2 = r4.2))) rfl rfl (Yi.pv _ rfl) ?_
    refine QW.yi (.bool (decide (r2.2 = r4.2))) rfl rfl (Yi.pv _ rfl) ?_
    refine QW.yi (.bool (decide (r2.2 = r4.2))) rfl rfl (Yi.pv _ rfl) ?_
    refine QW.fork 31 (r2.2 = r4.2) rfl (fun h7 => ?_) (fun h7 => ?_)
    · replace hm := (if_pos h7).symm.trans hm
      refine QW.yi (.agg (cf 64 (iv r2.1))) rfl rfl (Yi.loadW (i := 1) rfl rfl Tryd.isAgg26 Tryd.sizeOf26) ?_
      obtain ⟨r8, hr8, hm⟩ := of_bind hm
      refine QW.ca (.bool r8) rfl rfl (Ca.call rfl rfl Tryd.call14 (fun w _ => c_qRight K r2.1 r8 w hr8)) ?_
      refine QW.yi (.int .i64 r4.2) rfl rfl (Yi.pv _ rfl) ?_
      refine QW.yi (.bool (decide (r4.2 = 0))) rfl rfl (Yi.pv _ rfl) ?_
      refine QW.forkB 33 (r8) rfl (fun h9 => ?_) (fun h9 => ?_)
      · replace hm := (if_pos h9).symm.trans hm
        refine QW.fork 35 (r4.2 = 0) rfl (fun h10 => ?_) (fun h10 => ?_)
        · replace hm := (if_pos h10).symm.trans hm
          refine QW.yi (.bool true) rfl rfl (Yi.eqB (b := true) (c := true) rfl rfl Tryd.underlying4) ?_
          refine QW.yi (.bool true) rfl rfl (Yi.pv _ rfl) ?_
          refine QW.yi (.bool true) rfl rfl (Yi.pv _ rfl) ?_
          refine QW.yi (.agg (cf 64 (iv a2_other))) rfl rfl (Yi.loadW (i := 2) rfl rfl Tryd.isAgg26 Tryd.sizeOf26) ?_
          obtain ⟨r11, hr11, hm⟩ := of_bind hm
          refine QW.ca (.bool r11) rfl rfl (Ca.call rfl rfl Tryd.call14 (fun w _ => c_qRight K a2_other r11 w hr11)) ?_
          refine QW.yi (.agg (cf 64 (iv a2_other))) rfl rfl (Yi.loadW (i := 2) rfl rfl Tryd.isAgg26 Tryd.sizeOf26) ?_
          obtain ⟨r12, hr12, hm⟩ := of_bind hm
          refine QW.ca (.bool r12) rfl rfl (Ca.call rfl rfl Tryd.call15 (fun w _ => c_rIn K a2_other 1 255 r12 w hr12)) ?_
          refine QW.forkB 40 (r11) rfl (fun h13 => ?_) (fun h13 => ?_)
          · replace hm := (if_pos h13).symm.trans hm
            refine QW.forkB 42 (r12) rfl (fun h14 => ?_) (fun h14 => ?_)
            · replace hm := (if_pos h14).symm.trans hm
              refine QW.yi (.bool true) rfl rfl (Yi.eqB (b := true) (c := true) rfl rfl Tryd.underlying4) ?_
              refine QW.yi (.bool true) rfl rfl (Yi.pv _ rfl) ?_
              refine QW.yi (.bool true) rfl rfl (Yi.pv _ rfl) ?_
              obtain ⟨r15, hr15, hm⟩ := of_bind hm
              refine QW.ca (.bool r15) rfl rfl (Ca.call rfl rfl Tryd.call11 (fun w hM => c_awake8 K  r15 w (hG.keep hM rfl) hr15)) ?_
              refine QW.yi (.bool r15) rfl rfl (Yi.pv _ rfl) ?_
              refine QW.yi (.bool r15) rfl rfl (Yi.pv _ rfl) ?_
              refine QW.nil ?_
              refine EW.next ?_
              refine CW.ret ?_
              obtain rfl := Option.some.inj hm
              exact EW.done (rs := [.tmp 6]) rfl (.tmp (t := 6) (v := .bool r15) rfl .nil) (fun _ hM => ⟨rfl, hM.below⟩)
            · replace hm := (if_neg h14).symm.trans hm
              refine QW.yi (.bool false) rfl rfl (Yi.eqB (b := true) (c := false) rfl rfl Tryd.underlying4) ?_
              refine QW.yi (.bool false) rfl rfl (Yi.pv _ rfl) ?_
              refine QW.yi (.bool false) rfl rfl (Yi.pv _ rfl) ?_
              refine QW.pass rfl rfl ?_
              refine QW.yi (.bool false) rfl rfl (Yi.pv _ rfl) ?_
              refine QW.yi (.bool false) rfl rfl (Yi.pv _ rfl) ?_
              refine QW.nil ?_
              refine EW.next ?_
              refine CW.ret ?_
              obtain rfl := Option.some.inj hm
              exact EW.done (rs := [.tmp 6]) rfl (.tmp (t := 6) (v := .bool false) rfl .nil) (fun _ hM => ⟨rfl, hM.below⟩)
          · replace hm := (if_neg h13).symm.trans hm
            refine QW.forkB 42 (r12) rfl (fun h16 => ?_) (fun h16 => ?_)
            · replace hm := (if_pos h16).symm.trans hm
              refine QW.yi (.bool false) rfl rfl (Yi.eqB (b := false) (c := true) rfl rfl Tryd.underlying4) ?_
              refine QW.yi (.bool false) rfl rfl (Yi.pv _ rfl) ?_
              refine QW.yi (.bool false) rfl rfl (Yi.pv _ rfl) ?_
              refine QW.pass rfl rfl ?_
              refine QW.yi (.bool false) rfl rfl (Yi.pv _ rfl) ?_
              refine QW.yi (.bool false) rfl rfl (Yi.pv _ rfl) ?_
              refine QW.nil ?_
              refine EW.next ?_
              refine CW.ret ?_
              obtain rfl := Option.some.inj hm
              exact EW.done (rs := [.tmp 6]) rfl (.tmp (t := 6) (v := .bool false) rfl .nil) (fun _ hM => ⟨rfl, hM.below⟩)
            · replace hm := (if_neg h16).symm.trans hm
              refine QW.yi (.bool true) rfl rfl (Yi.eqB (b := false) (c := false) rfl rfl Tryd.underlying4) ?_
              refine QW.yi (.bool true) rfl rfl (Yi.pv _ rfl) ?_
              refine QW.yi (.bool true) rfl rfl (Yi.pv _ rfl) ?_
              obtain ⟨r17, hr17, hm⟩ := of_bind hm
              refine QW.ca (.bool r17) rfl rfl (Ca.call rfl rfl Tryd.call11 (fun w hM => c_awake8 K  r17 w (hG.keep hM rfl) hr17)) ?_
              refine QW.yi (.bool r17) rfl rfl (Yi.pv _ rfl) ?_
              refine QW.yi (.bool r17) rfl rfl (Yi.pv _ rfl) ?_
              refine QW.nil ?_
              refine EW.next ?_
              refine CW.ret ?_
              obtain rfl := Option.some.inj hm
              exact EW.done (rs := [.tmp 6]) rfl (.tmp (t := 6) (v := .bool r17) rfl .nil) (fun _ hM => ⟨rfl, hM.below⟩)
        · replace hm := (if_neg h10).symm.trans hm
          refine QW.yi (.bool false) rfl rfl (Yi.eqB (b := true) (c := false) rfl rfl Tryd.underlying4) ?_
          refine QW.yi (.bool false) rfl rfl (Yi.pv _ rfl) ?_
          refine QW.yi (.bool false) rfl rfl (Yi.pv _ rfl) ?_
          refine QW.pass rfl rfl ?_
          refine QW.pass rfl rfl ?_
          refine QW.pass rfl rfl ?_
          refine QW.pass rfl rfl ?_
          refine QW.pass rfl rfl ?_
          refine QW.yi (.bool false) rfl rfl (Yi.pv _ rfl) ?_
          refine QW.yi (.bool false) rfl rfl (Yi.pv _ rfl) ?_
          refine QW.pass rfl rfl ?_
          refine QW.yi (.bool false) rfl rfl (Yi.pv _ rfl) ?_
          refine QW.yi (.bool false) rfl rfl (Yi.pv _ rfl) ?_
          refine QW.nil ?_
          refine EW.next ?_
          refine CW.ret ?_
          obtain rfl := Option.some.inj hm
          exact EW.done (rs := [.tmp 6]) rfl (.tmp (t := 6) (v := .bool false) rfl .nil) (fun _ hM => ⟨rfl, hM.below⟩)
      · replace hm := (if_neg h9).symm.trans hm
        refine QW.fork 35 (r4.2 = 0) rfl (fun h18 => ?_) (fun h18 => ?_)
        · replace hm := (if_pos h18).symm.trans hm
          refine QW.yi (.bool false) rfl rfl (Yi.eqB (b := false) (c := true) rfl rfl Tryd.underlying4) ?_
          refine QW.yi (.bool false) rfl rfl (Yi.pv _ rfl) ?_
          refine QW.yi (.bool false) rfl rfl (Yi.pv _ rfl) ?_
          refine QW.pass rfl rfl ?_
          refine QW.pass rfl rfl ?_
          refine QW.pass rfl rfl ?_
          refine QW.pass rfl rfl ?_
          refine QW.pass rfl rfl ?_
          refine QW.yi (.bool false) rfl rfl (Yi.pv _ rfl) ?_
          refine QW.yi (.bool false) rfl rfl (Yi.pv _ rfl) ?_
          refine QW.pass rfl rfl ?_
          refine QW.yi (.bool false) rfl rfl (Yi.pv _ rfl) ?_
          refine QW.yi (.bool false) rfl rfl (Yi.pv _ rfl) ?_
          refine QW.nil ?_
          refine EW.next ?_
          refine CW.ret ?_
          obtain rfl := Option.some.inj hm
          exact EW.done (rs := [.tmp 6]) rfl (.tmp (t := 6) (v := .bool false) rfl .nil) (fun _ hM => ⟨rfl, hM.below⟩)
        · replace hm := (if_neg h18).symm.trans hm
          refine QW.yi (.bool true) rfl rfl (Yi.eqB (b := false) (c := false) rfl rfl Tryd.underlying4) ?_
          refine QW.yi (.bool true) rfl rfl (Yi.pv _ rfl) ?_
          refine QW.yi (.bool true) rfl rfl (Yi.pv _ rfl) ?_
          refine QW.yi (.agg (cf 64 (iv a2_other))) rfl rfl (Yi.loadW (i := 2) rfl rfl Tryd.isAgg26 Tryd.sizeOf26) ?_
          obtain ⟨r19, hr19, hm⟩ := of_bind hm
          refine QW.ca (.bool r19) rfl rfl (Ca.call rfl rfl Tryd.call14 (fun w _ => c_qRight K a2_other r19 w hr19)) ?_
          refine QW.yi (.agg (cf 64 (iv a2_other))) rfl rfl (Yi.loadW (i := 2) rfl rfl Tryd.isAgg26 Tryd.sizeOf26) ?_
          obtain ⟨r20, hr20, hm⟩ := of_bind hm
          refine QW.ca (.bool r20) rfl rfl (Ca.call rfl rfl Tryd.call15 (fun w _ => c_rIn K a2_other 1 255 r20 w hr20)) ?_
          refine QW.forkB 40 (r19) rfl (fun h21 => ?_) (fun h21 => ?_)
          · replace hm := (if_pos h21).symm.trans hm
            refine QW.forkB 42 (r20) rfl (fun h22 => ?_) (fun h22 => ?_)
            · replace hm := (if_pos h22).symm.trans hm
              refine QW.yi (.bool true) rfl rfl (Yi.eqB (b := true) (c := true) rfl rfl Tryd.underlying4) ?_
              refine QW.yi (.bool true) rfl rfl (Yi.pv _ rfl) ?_
              refine QW.yi (.bool true) rfl rfl (Yi.pv _ rfl) ?_
              obtain ⟨r23, hr23, hm⟩ := of_bind hm
              refine QW.ca (.bool r23) rfl rfl (Ca.call rfl rfl Tryd.call11 (fun w hM => c_awake8 K  r23 w (hG.keep hM rfl) hr23)) ?_
              refine QW.yi (.bool r23) rfl rfl (Yi.pv _ rfl) ?_
              refine QW.yi (.bool r23) rfl rfl (Yi.pv _ rfl) ?_
              refine QW.nil ?_
              refine EW.next ?_
              refine CW.ret ?_
              obtain rfl := Option.some.inj hm
              exact EW.done (rs := [.tmp 6]) rfl (.tmp (t := 6) (v := .bool r23) rfl .nil) (fun _ hM => ⟨rfl, hM.below⟩)
            · replace hm := (if_neg h22).symm.trans hm
              refine QW.yi (.bool false) rfl rfl (Yi.eqB (b := true) (c := false) rfl rfl Tryd.underlying4) ?_
              refine QW.yi (.bool false) rfl rfl (Yi.pv _ rfl) ?_
              refine QW.yi (.bool false) rfl rfl (Yi.pv _ rfl) ?_
              refine QW.pass rfl rfl ?_
              refine QW.yi (.bool false) rfl rfl (Yi.pv _ rfl) ?_
              refine QW.yi (.bool false) rfl rfl (Yi.pv _ rfl) ?_
              refine QW.nil ?_
              refine EW.next ?_
              refine CW.ret ?_
              obtain rfl := Option.some.inj hm
              exact EW.done (rs := [.tmp 6]) rfl (.tmp (t := 6) (v := .bool false) rfl .nil) (fun _ hM => ⟨rfl, hM.below⟩)
          · replace hm := (if_neg h21).symm.trans hm
            refine QW.forkB 42 (r20) rfl (fun h24 => ?_) (fun h24 => ?_)
            · replace hm := (if_pos h24).symm.trans hm
              refine QW.yi (.bool false) rfl rfl (Yi.eqB (b := false) (c := true) rfl rfl Tryd.underlying4) ?_
              refine QW.yi (.bool false) rfl rfl (Yi.pv _ rfl) ?_
              refine QW.yi (.bool false) rfl rfl (Yi.pv _ rfl) ?_
              refine QW.pass rfl rfl ?_
              refine QW.yi (.bool false) rfl rfl (Yi.pv _ rfl) ?_
              refine QW.yi (.bool false) rfl rfl (Yi.pv _ rfl) ?_
              refine QW.nil ?_
              refine EW.next ?_
              refine CW.ret ?_
              obtain rfl := Option.some.inj hm
              exact EW.done (rs := [.tmp 6]) rfl (.tmp (t := 6) (v := .bool false) rfl .nil) (fun _ hM => ⟨rfl, hM.below⟩)
            · replace hm := (if_neg h24).symm.trans hm
              refine QW.yi (.bool true) rfl rfl (Yi.eqB (b := false) (c := false) rfl rfl Tryd.underlying4) ?_
              refine QW.yi (.bool true) rfl rfl (Yi.pv _ rfl) ?_
              refine QW.yi (.bool true) rfl rfl (Yi.pv _ rfl) ?_
              obtain ⟨r25, hr25, hm⟩ := of_bind hm
              refine QW.ca (.bool r25) rfl rfl (Ca.call rfl rfl Tryd.call11 (fun w hM => c_awake8 K  r25 w (hG.keep hM rfl) hr25)) ?_
              refine QW.yi (.bool r25) rfl rfl (Yi.pv _ rfl) ?_
              refine QW.yi (.bool r25) rfl rfl (Yi.pv _ rfl) ?_
              refine QW.nil ?_
              refine EW.next ?_
              refine CW.ret ?_
              obtain rfl := Option.some.inj hm
              exact EW.done (rs := [.tmp 6]) rfl (.tmp (t := 6) (v := .bool r25) rfl .nil) (fun _ hM => ⟨rfl, hM.below⟩)
    · replace hm := (if_neg h7).symm.trans hm
      refine QW.pass rfl rfl ?_
      refine QW.pass rfl rfl ?_
      refine QW.pass rfl rfl ?_
      refine QW.pass rfl rfl ?_
      refine QW.pass rfl rfl ?_
      refine QW.yi (.bool false) rfl rfl (Yi.pv _ rfl) ?_
      refine QW.yi (.bool false) rfl rfl (Yi.pv _ rfl) ?_
      refine QW.pass rfl rfl ?_
      refine QW.pass rfl rfl ?_
      refine QW.pass rfl rfl ?_
      refine QW.pass rfl rfl ?_
      refine QW.pass rfl rfl ?_
      refine QW.yi (.bool false) rfl rfl (Yi.pv _ rfl) ?_
      refine QW.yi (.bool false) rfl rfl (Yi.pv _ rfl) ?_
      refine QW.pass rfl rfl ?_
      refine QW.yi (.bool false) rfl rfl (Yi.pv _ rfl) ?_
      refine QW.yi (.bool false) rfl rfl (Yi.pv _ rfl) ?_
      refine QW.nil ?_
      refine EW.next ?_
      refine CW.ret ?_
      obtain rfl := Option.some.inj hm
      exact EW.done (rs := [.tmp 6]) rfl (.tmp (t := 6) (v := .bool false) rfl .nil) (fun _ hM => ⟨rfl, hM.below⟩)
  · replace hm := (if_neg h6).symm.trans hm
    refine QW.pass rfl rfl ?_
    refine QW.pass rfl rfl ?_
    refine QW.pass rfl rfl ?_
    refine QW.yi (.bool false) rfl rfl (Yi.pv _ rfl) ?_
    refine QW.yi (.bool false) rfl rfl (Yi.pv _ rfl) ?_
    refine QW.pass rfl rfl ?_
    refine QW.pass rfl rfl ?_
    refine QW.pass rfl rfl ?_
    refine QW.pass rfl rfl ?_
    refine QW.pass rfl rfl ?_
    refine QW.yi (.bool false) rfl rfl (Yi.pv _ rfl) ?_
    refine QW.yi (.bool false) rfl rfl (Yi.pv _ rfl) ?_
    refine QW.pass rfl rfl ?_
    refine QW.pass rfl rfl ?_
    refine QW.pass rfl rfl ?_
    refine QW.pass rfl rfl ?_
    refine QW.pass rfl rfl ?_
    refine QW.yi (.bool false) rfl rfl (Yi.pv _ rfl) ?_
    refine QW.yi (.bool false) rfl rfl (Yi.pv _ rfl) ?_
    refine QW.pass rfl rfl ?_
    refine QW.yi (.bool false) rfl rfl (Yi.pv _ rfl) ?_
    refine QW.yi (.bool false) rfl rfl (Yi.pv _ rfl) ?_
    refine QW.nil ?_
    refine EW.next ?_
    refine CW.ret ?_
    obtain rfl := Option.some.inj hm
    exact EW.done (rs := [.tmp 6]) rfl (.tmp (t := 6) (v := .bool false) rfl .nil) (fun _ hM => ⟨rfl, hM.below⟩)
end Go.Proofs.YtplfcapahmjmgaaDoor