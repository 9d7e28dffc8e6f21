import Derived.Test.YtfpafpmcfkapkaaDoorH4
import Derived.Test.YtfpafpmcfkapkaaDoorK5
set_option maxRecDepth 100000
namespace Go.Proofs.YtfpafpmcfkapkaaDoor
open Go Go.RowKit K
def told_j1 (K : Nat)  (a1_steps : (Nat → Int)) (v4 : (Nat → Int)) : Option ((Nat → Int) × Int) :=
  ((merge K v4).bind fun r5 => (if ¬ r5.2 = 0 then some (zf, r5.2) else ((qDown K r5.1 a1_steps).bind fun r8 => some (r8.1, r8.2))))

def told_l1 (K : Nat) (a0_four : (Nat → Int)) (a1_steps : (Nat → Int)) : Nat → Int → (Nat → Int) →  Option ((Nat → Int) × Int)
  | 0, _, _ => none
  | k1 + 1, v10, v11 =>
    (if v10 < 4 then (if 0 ≤ v10 ∧ v10 < 4 then ((qUp K (shf a0_four (v10.toNat * 64)) a1_steps).bind fun r15 => (if ¬ r15.2 = 0 then some (zf, r15.2) else (told_l1 K a0_four a1_steps k1) (w64 (v10 + 1)) (wrt v11 (v10.toNat * 64) 64 r15.1))) else none) else told_j1 K a1_steps v11)

def told (K : Nat) (a0_four : (Nat → Int)) (a1_steps : (Nat → Int)) : Option ((Nat → Int) × Int) :=
  told_l1 K a0_four a1_steps K 0 a0_four

theorem c_told (K : Nat) (a0_four : (Nat → Int)) (a1_steps : (Nat → Int)) (r : (Nat → Int) × Int) (w0 : World) (hG : Gl GH w0) (hm : told K a0_four a1_steps = some r) : Calls Tryd.prog 28 #[.agg (cf 256 (iv a0_four)), .agg (cf 64 (iv a1_steps))] w0 fun e w' => e = .returned (.tuple #[.agg (cf 64 (iv r.1)), .int .i64 r.2]) ∧ Below w0.heap.size w0 w' := by
  unfold told at hm
  refine calls_CW (n := 45) w0 [] [] Tryd.func28 rfl rfl rfl (Mem.begin w0) ?_
  refine CW.seq ?_
  refine CW.region ?_
  refine RW.box (v := .agg (cf 256 (iv a0_four))) rfl rfl rfl (fun b1 => ?_)
  refine RW.box (v := .agg (cf 64 (iv a1_steps))) rfl rfl rfl (fun b2 => ?_)
  refine RW.alloc (z := .agg (cf 64 (iv zf))) (cf 64 (iv zf)) rfl rfl (fun _ => by kernel_rfl) rfl (fun b3 => ?_)
  refine RW.yi (.int .i64 0) rfl rfl (Yi.pv _ rfl) ?_
  refine RW.nil ?_
  refine EW.next ?_
  refine CW.join (fun a w => ∃ (v4 : (Nat → Int)), St 45 [(2, .pointer (some ⟨b1, 0, none⟩)), (3, .pointer (some ⟨b2, 0, none⟩)), (4, .pointer (some ⟨b3, 0, none⟩))] a ∧ Mem w0 [] [.blk b3 23 (cf 64 (iv zf)), .blk b2 23 (cf 64 (iv a1_steps)), .blk b1 34 (cf 256 (iv v4))] w ∧ told_j1 K a1_steps v4 = some r) ?_ ?_
  · refine CW.seq ?_
    refine CW.region ?_
    refine RW.yi (.agg (cf 256 (iv a0_four))) rfl rfl (Yi.loadW (i := 2) rfl rfl Tryd.isAgg34 Tryd.sizeOf34) ?_
    refine RW.yi (.int .i64 0) rfl rfl (Yi.pv _ rfl) ?_
    refine RW.nil ?_
    refine EW.next ?_
    refine CW.block ?_
    refine CW.loop (fun k a w => ∃ (v10 : Int) (v11 : (Nat → Int)), St 45 [(2, .pointer (some ⟨b1, 0, none⟩)), (3, .pointer (some ⟨b2, 0, none⟩)), (4, .pointer (some ⟨b3, 0, none⟩)), (12, .agg (cf 256 (iv a0_four))), (13, .int .i64 v10)] a ∧ Mem w0 [] [.blk b3 23 (cf 64 (iv zf)), .blk b2 23 (cf 64 (iv a1_steps)), .blk b1 34 (cf 256 (iv v11))] w ∧ told_l1 K a0_four a1_steps k v10 v11 = some r) K ?_ ?_ ?_
    · rintro a w ⟨_, _, _, _, hm⟩
      rw [told_l1.eq_1] at hm
      cases hm
    · exact fun a w hs hM => ⟨0, a0_four, hs.sub ⟨rfl, rfl, rfl, rfl, rfl, trivial⟩, hM.sub (.cons_cons _ (.cons_cons _ (.cons_cons _ .slnil))), hm⟩
    · rintro k1 a w ⟨v10, v11, hs, hM, hm⟩
      rw [told_l1.eq_2] at hm
      refine CW.enter hs hM ?_
      refine CW.seq ?_
      refine CW.region ?_
      refine RW.yi (.bool (decide (v10 < 4))) rfl rfl (Yi.pv _ rfl) ?_
      refine RW.nil ?_
      refine EW.next ?_
      refine CW.seq ?_
      refine CW.fork 14 (v10 < 4) rfl (fun h12 => ?_) (fun h12 => ?_)
      · replace hm := (if_pos h12).symm.trans hm
        refine CW.cond_true rfl ?_
        refine CW.skip ?_
        refine EW.next ?_
        refine CW.seq ?_
        refine CW.block ?_
        refine CW.seq ?_
        refine CW.region ?_
        refine RW.yi (.int .i64 v10) rfl rfl (Yi.pv _ rfl) ?_
        obtain ⟨g13, hm⟩ := of_guard hm
        refine RW.yi (.agg (cf 64 (iv (shf a0_four (v10.toNat * 64))))) rfl rfl (Yi.indexP (N := 256) Tryd.underlying34 Tryd.sizeOf23 Tryd.isAgg23 rfl rfl g13.1 g13.2 (by decide)) ?_
        refine RW.alloc (z := .agg (cf 64 (iv zf))) (cf 64 (iv zf)) rfl rfl (fun _ => by kernel_rfl) rfl (fun b14 => ?_)
        refine RW.yi (.int .i64 v10) rfl rfl (Yi.pv _ rfl) ?_
        refine RW.storeW (i := 0) (cs' := cf 64 (iv (shf a0_four (v10.toNat * 64)))) rfl rfl rfl rfl (by rw [cf_size]; kernel_rfl) (by simp only [cf_size]) (iv_one _ _) ?_
        refine RW.nil ?_
        refine EW.next ?_
        refine CW.seq ?_
        refine CW.region ?_
        refine RW.yi (.agg (cf 64 (iv (shf a0_four (v10.toNat * 64))))) rfl rfl (Yi.loadW (i := 0) rfl rfl Tryd.isAgg23 Tryd.sizeOf23) ?_
        refine RW.yi (.agg (cf 64 (iv a1_steps))) rfl rfl (Yi.loadW (i := 2) rfl rfl Tryd.isAgg23 Tryd.sizeOf23) ?_
        obtain ⟨r15, hr15, hm⟩ := of_bind hm
        refine RW.ca (.tuple #[.agg (cf 64 (iv r15.1)), .int .i64 r15.2]) rfl rfl (Ca.call rfl rfl Tryd.call37 (fun w _ => c_qUp K (shf a0_four (v10.toNat * 64)) a1_steps r15 w hr15)) ?_
        refine RW.yi (.tuple #[.agg (cf 64 (iv r15.1)), .int .i64 r15.2]) rfl rfl (Yi.pv _ rfl) ?_
        refine RW.yi (.agg (cf 64 (iv r15.1))) rfl rfl (Yi.pv _ rfl) ?_
        refine RW.yi (.int .i64 r15.2) rfl rfl (Yi.pv _ rfl) ?_
        refine RW.alloc (z := .agg (cf 64 (iv zf))) (cf 64 (iv zf)) rfl rfl (fun _ => by kernel_rfl) rfl (fun b16 => ?_)
        refine RW.storeW (i := 0) (cs' := cf 64 (iv r15.1)) rfl rfl rfl rfl (by rw [cf_size]; kernel_rfl) (by simp only [cf_size]) (iv_one _ _) ?_
        refine RW.yi (.int .i64 r15.2) rfl rfl (Yi.pv _ rfl) ?_
        refine RW.nil ?_
        refine EW.next ?_
        refine CW.seq ?_
        refine CW.seq ?_
        refine CW.region ?_
        refine RW.yi (.int .i64 r15.2) rfl rfl (Yi.pv _ rfl) ?_
        refine RW.yi (.bool (decide (¬ r15.2 = 0))) rfl rfl (Yi.pv _ rfl) ?_
        refine RW.nil ?_
        refine EW.next ?_
        refine CW.fork 24 (¬ r15.2 = 0) rfl (fun h17 => ?_) (fun h17 => ?_)
        · replace hm := (if_pos h17).symm.trans hm
          refine CW.cond_true rfl ?_
          refine CW.seq ?_
          refine CW.region ?_
          refine RW.yi (.agg (cf 64 (iv zf))) rfl rfl (Yi.build (vs := []) _ rfl rfl (fun _ => by kernel_rfl)) ?_
          refine RW.yi (.int .i64 r15.2) rfl rfl (Yi.pv _ rfl) ?_
          refine RW.storeW (i := 2) (cs' := cf 64 (iv zf)) rfl rfl rfl rfl (by rw [cf_size]; kernel_rfl) (by simp only [cf_size]) (iv_one _ _) ?_
          refine RW.yi (.int .i64 r15.2) rfl rfl (Yi.pv _ rfl) ?_
          refine RW.nil ?_
          refine EW.next ?_
          refine CW.ret ?_
          refine EW.thr ?_
          refine EW.blr ?_
          refine EW.thr ?_
          refine EW.thr ?_
          refine EW.blr ?_
          refine EW.thr ?_
          obtain rfl := Option.some.inj hm
          exact EW.done (rs := [.cell 4 23, .tmp 5]) rfl (.cellW (i := 2) rfl rfl Tryd.isAgg23 Tryd.sizeOf23 (.tmp (t := 5) (v := .int .i64 r15.2) rfl .nil)) (fun _ hM => ⟨rfl, hM.below⟩)
        · replace hm := (if_neg h17).symm.trans hm
          refine CW.cond_false rfl ?_
          refine CW.skip ?_
          refine EW.next ?_
          refine CW.region ?_
          refine RW.yi (.int .i64 v10) rfl rfl (Yi.pv _ rfl) ?_
          refine RW.yi (.agg (cf 64 (iv r15.1))) rfl rfl (Yi.loadW (i := 0) rfl rfl Tryd.isAgg23 Tryd.sizeOf23) ?_
          refine RW.yi (.pointer (some ⟨b1, v10.toNat * 64, none⟩)) rfl rfl (Yi.indexAddr' _ Tryd.underlying34 Tryd.sizeOf23 rfl rfl g13.1 g13.2 (by omega)) ?_
          refine RW.storeP (i := 4) rfl rfl rfl rfl Tryd.sizeOf23 (by omega) ?_
          refine RW.nil ?_
          refine EW.bln ?_
          refine EW.next ?_
          refine CW.region ?_
          refine RW.yi (.int .i64 (w64 (v10 + 1))) rfl rfl (Yi.pv _ rfl) ?_
          refine RW.yi (.int .i64 (w64 (v10 + 1))) rfl rfl (Yi.pv _ rfl) ?_
          refine RW.nil ?_
          refine EW.thn ?_
          exact fun a w hs hM => ⟨(w64 (v10 + 1)), (wrt v11 (v10.toNat * 64) 64 r15.1), hs.sub ⟨rfl, rfl, rfl, rfl, rfl, trivial⟩, hM.sub (.cons _ (.cons _ (.cons_cons _ (.cons_cons _ (.cons_cons _ .slnil))))), hm⟩
      · replace hm := (if_neg h12).symm.trans hm
        refine CW.cond_false rfl ?_
        refine CW.exit ?_
        refine EW.thx ?_
        refine EW.thx ?_
        refine EW.blx ?_
        refine EW.thn ?_
        exact fun a w hs hM => ⟨v11, hs.sub ⟨rfl, rfl, rfl, trivial⟩, hM.sub (.cons_cons _ (.cons_cons _ (.cons_cons _ .slnil))), hm⟩
  · rintro a w ⟨v4, hs, hM, hm⟩
    unfold told_j1 at hm
    refine CW.enter hs hM ?_
    refine CW.seq ?_
    refine CW.region ?_
    refine RW.yi (.agg (cf 256 (iv v4))) rfl rfl (Yi.loadW (i := 2) rfl rfl Tryd.isAgg34 Tryd.sizeOf34) ?_
    obtain ⟨r5, hr5, hm⟩ := of_bind hm
    refine RW.ca (.tuple #[.agg (cf 64 (iv r5.1)), .int .i64 r5.2]) rfl rfl (Ca.call rfl rfl Tryd.call20 (fun w hM => c_merge K v4 r5 w (hG.keep hM rfl) hr5)) ?_
    refine RW.yi (.tuple #[.agg (cf 64 (iv r5.1)), .int .i64 r5.2]) rfl rfl (Yi.pv _ rfl) ?_
    refine RW.yi (.agg (cf 64 (iv r5.1))) rfl rfl (Yi.pv _ rfl) ?_
    refine RW.yi (.int .i64 r5.2) rfl rfl (Yi.pv _ rfl) ?_
    refine RW.alloc (z := .agg (cf 64 (iv zf))) (cf 64 (iv zf)) rfl rfl (fun _ => by kernel_rfl) rfl (fun b6 => ?_)
    refine RW.storeW (i := 0) (cs' := cf 64 (iv r5.1)) rfl rfl rfl rfl (by rw [cf_size]; kernel_rfl) (by simp only [cf_size]) (iv_one _ _) ?_
    refine RW.yi (.int .i64 r5.2) rfl rfl (Yi.pv _ rfl) ?_
    refine RW.nil ?_
    refine EW.next ?_
    refine CW.seq ?_
    refine CW.seq ?_
    refine CW.region ?_
    refine RW.yi (.int .i64 r5.2) rfl rfl (Yi.pv _ rfl) ?_
    refine RW.yi (.bool (decide (¬ r5.2 = 0))) rfl rfl (Yi.pv _ rfl) ?_
    refine RW.nil ?_
    refine EW.next ?_
    refine CW.fork 37 (¬ r5.2 = 0) rfl (fun h7 => ?_) (fun h7 => ?_)
    · replace hm := (if_pos h7).symm.trans hm
      refine CW.cond_true rfl ?_
      refine CW.seq ?_
      refine CW.region ?_
      refine RW.yi (.agg (cf 64 (iv zf))) rfl rfl (Yi.build (vs := []) _ rfl rfl (fun _ => by kernel_rfl)) ?_
      refine RW.yi (.int .i64 r5.2) rfl rfl (Yi.pv _ rfl) ?_
      refine RW.storeW (i := 1) (cs' := cf 64 (iv zf)) rfl rfl rfl rfl (by rw [cf_size]; kernel_rfl) (by simp only [cf_size]) (iv_one _ _) ?_
      refine RW.yi (.int .i64 r5.2) rfl rfl (Yi.pv _ rfl) ?_
      refine RW.nil ?_
      refine EW.next ?_
      refine CW.ret ?_
      refine EW.thr ?_
      obtain rfl := Option.some.inj hm
      exact EW.done (rs := [.cell 4 23, .tmp 5]) rfl (.cellW (i := 1) rfl rfl Tryd.isAgg23 Tryd.sizeOf23 (.tmp (t := 5) (v := .int .i64 r5.2) rfl .nil)) (fun _ hM => ⟨rfl, hM.below⟩)
    · replace hm := (if_neg h7).symm.trans hm
      refine CW.cond_false rfl ?_
      refine CW.skip ?_
      refine EW.next ?_
      refine CW.seq ?_
      refine CW.region ?_
      refine RW.yi (.agg (cf 64 (iv r5.1))) rfl rfl (Yi.loadW (i := 0) rfl rfl Tryd.isAgg23 Tryd.sizeOf23) ?_
      refine RW.yi (.agg (cf 64 (iv a1_steps))) rfl rfl (Yi.loadW (i := 2) rfl rfl Tryd.isAgg23 Tryd.sizeOf23) ?_
      obtain ⟨r8, hr8, hm⟩ := of_bind hm
      refine RW.ca (.tuple #[.agg (cf 64 (iv r8.1)), .int .i64 r8.2]) rfl rfl (Ca.call rfl rfl Tryd.call38 (fun w _ => c_qDown K r5.1 a1_steps r8 w hr8)) ?_
      refine RW.yi (.agg (cf 64 (iv r8.1))) rfl rfl (Yi.pv _ rfl) ?_
      refine RW.yi (.int .i64 r8.2) rfl rfl (Yi.pv _ rfl) ?_
      refine RW.storeW (i := 1) (cs' := cf 64 (iv r8.1)) rfl rfl rfl rfl (by rw [cf_size]; kernel_rfl) (by simp only [cf_size]) (iv_one _ _) ?_
      refine RW.yi (.int .i64 r8.2) rfl rfl (Yi.pv _ rfl) ?_
      refine RW.nil ?_
      refine EW.next ?_
      refine CW.ret ?_
      obtain rfl := Option.some.inj hm
      exact EW.done (rs := [.cell 4 23, .tmp 5]) rfl (.cellW (i := 1) rfl rfl Tryd.isAgg23 Tryd.sizeOf23 (.tmp (t := 5) (v := .int .i64 r8.2) rfl .nil)) (fun _ hM => ⟨rfl, hM.below⟩)
def rTold_j1 (K : Nat)  (a1_steps : (Nat → Int)) (v5 : (Nat → Int)) : Option ((Nat → Int) × Int) :=
  ((rMerge K v5).bind fun r6 => (if ¬ r6.2 = 0 then some (zf, r6.2) else ((rDown K r6.1 a1_steps).bind fun r9 => some (r9.1, r9.2))))

def rTold_l1 (K : Nat) (a0_four : (Nat → Int)) (a1_steps : (Nat → Int)) : Nat → Int → (Nat → Int) →  Option ((Nat → Int) × Int)
  | 0, _, _ => none
  | k1 + 1, v11, v12 =>
    (if v11 < 4 then (if 0 ≤ v11 ∧ v11 < 4 then ((rUp K (shf a0_four (v11.toNat * 64)) a1_steps).bind fun r15 => (if ¬ r15.2 = 0 then some (zf, r15.2) else (rTold_l1 K a0_four a1_steps k1) (w64 (v11 + 1)) (wrt v12 (v11.toNat * 64) 64 r15.1))) else none) else rTold_j1 K a1_steps v12)

def rTold (K : Nat) (a0_four : (Nat → Int)) (a1_steps : (Nat → Int)) : Option ((Nat → Int) × Int) :=
  rTold_l1 K a0_four a1_steps K 0 zf

theorem c_rTold (K : Nat) (a0_four : (Nat → Int)) (a1_steps : (Nat → Int)) (r : (Nat → Int) × Int) (w0 : World) (hm : rTold K a0_four a1_steps = some r) : Calls Tryd.prog 29 #[.agg (cf 256 (iv a0_four)), .agg (cf 64 (iv a1_steps))] w0 fun e w' => e = .returned (.tuple #[.agg (cf 64 (iv r.1)), .int .i64 r.2]) ∧ Below w0.heap.size w0 w' := by
  unfold rTold at hm
  refine calls_CW (n := 46) w0 [] [] Tryd.func29 rfl rfl rfl (Mem.begin w0) ?_
  refine CW.seq ?_
  refine CW.region ?_
  refine RW.box (v := .agg (cf 256 (iv a0_four))) rfl rfl rfl (fun b1 => ?_)
  refine RW.box (v := .agg (cf 64 (iv a1_steps))) rfl rfl rfl (fun b2 => ?_)
  refine RW.alloc (z := .agg (cf 64 (iv zf))) (cf 64 (iv zf)) rfl rfl (fun _ => by kernel_rfl) rfl (fun b3 => ?_)
  refine RW.yi (.int .i64 0) rfl rfl (Yi.pv _ rfl) ?_
  refine RW.nil ?_
  refine EW.next ?_
  refine CW.seq ?_
  refine CW.region ?_
  refine RW.yi (.agg (cf 256 (iv zf))) rfl rfl (Yi.build (vs := []) _ rfl rfl (fun _ => by kernel_rfl)) ?_
  refine RW.alloc (z := .agg (cf 256 (iv zf))) (cf 256 (iv zf)) rfl rfl (fun _ => by kernel_rfl) rfl (fun b4 => ?_)
  refine RW.storeW (i := 0) (cs' := cf 256 (iv zf)) rfl rfl rfl rfl (by rw [cf_size]; kernel_rfl) (by simp only [cf_size]) (iv_one _ _) ?_
  refine RW.nil ?_
  refine EW.next ?_
  refine CW.join (fun a w => ∃ (v5 : (Nat → Int)), St 46 [(3, .pointer (some ⟨b2, 0, none⟩)), (4, .pointer (some ⟨b3, 0, none⟩)), (6, .pointer (some ⟨b4, 0, none⟩))] a ∧ Mem w0 [] [.blk b4 34 (cf 256 (iv v5)), .blk b3 23 (cf 64 (iv zf)), .blk b2 23 (cf 64 (iv a1_steps))] w ∧ rTold_j1 K a1_steps v5 = some r) ?_ ?_
  · refine CW.seq ?_
    refine CW.region ?_
    refine RW.yi (.int .i64 0) rfl rfl (Yi.pv _ rfl) ?_
    refine RW.nil ?_
    refine EW.next ?_
    refine CW.block ?_
    refine CW.loop (fun k a w => ∃ (v11 : Int) (v12 : (Nat → Int)), St 46 [(2, .pointer (some ⟨b1, 0, none⟩)), (3, .pointer (some ⟨b2, 0, none⟩)), (4, .pointer (some ⟨b3, 0, none⟩)), (6, .pointer (some ⟨b4, 0, none⟩)), (7, .int .i64 v11)] a ∧ Mem w0 [] [.blk b4 34 (cf 256 (iv v12)), .blk b3 23 (cf 64 (iv zf)), .blk b2 23 (cf 64 (iv a1_steps)), .blk b1 34 (cf 256 (iv a0_four))] w ∧ rTold_l1 K a0_four a1_steps k v11 v12 = some r) K ?_ ?_ ?_
    · rintro a w ⟨_, _, _, _, hm⟩
      rw [rTold_l1.eq_1] at hm
      cases hm
    · exact fun a w hs hM => ⟨0, zf, hs.sub ⟨rfl, rfl, rfl, rfl, rfl, trivial⟩, hM.sub (.cons_cons _ (.cons_cons _ (.cons_cons _ (.cons_cons _ .slnil)))), hm⟩
    · rintro k1 a w ⟨v11, v12, hs, hM, hm⟩
      rw [rTold_l1.eq_2] at hm
      refine CW.enter hs hM ?_
      refine CW.seq ?_
      refine CW.seq ?_
      refine CW.region ?_
      refine RW.yi (.int .i64 v11) rfl rfl (Yi.pv _ rfl) ?_
      refine RW.yi (.bool (decide (v11 < 4))) rfl rfl (Yi.pv _ rfl) ?_
      refine RW.nil ?_
      refine EW.next ?_
      refine CW.fork 14 (v11 < 4) rfl (fun h13 => ?_) (fun h13 => ?_)
      · replace hm := (if_pos h13).symm.trans hm
        refine CW.cond_true rfl ?_
        refine CW.skip ?_
        refine EW.next ?_
        refine CW.seq ?_
        refine CW.block ?_
        refine CW.seq ?_
        obtain ⟨g14, hm⟩ := of_guard hm
        obtain ⟨r15, hr15, hm⟩ := of_bind hm
        refine CW.any' (m := 11) (by kernel_rfl) (by kernel_rfl) ?_
        refine AW.begin (fun A18 hA18 => ?_)
        have hA18_11111111111 : ∀ b16 : Nat, A18 0 #[true, true, true, true, true, true, true, true, true, true, true] [(2, .pointer (some ⟨b1, 0, none⟩)), (3, .pointer (some ⟨b2, 0, none⟩)), (4, .pointer (some ⟨b3, 0, none⟩)), (6, .pointer (some ⟨b4, 0, none⟩)), (7, .int .i64 v11), (8, .pointer (some ⟨b16, 0, none⟩)), (9, .int .i64 r15.2), (13, .int .i64 v11), (14, .bool true), (17, .tuple #[.agg (cf 64 (iv r15.1)), .int .i64 r15.2]), (18, .int .i64 v11), (19, .pointer (some ⟨b1, v11.toNat * 64, none⟩)), (20, .agg (cf 64 (iv (shf a0_four (v11.toNat * 64))))), (21, .agg (cf 64 (iv a1_steps))), (22, .tuple #[.agg (cf 64 (iv r15.1)), .int .i64 r15.2]), (23, .agg (cf 64 (iv r15.1))), (24, .int .i64 r15.2)] [.blk b16 23 (cf 64 (iv r15.1)), .blk b4 34 (cf 256 (iv v12)), .blk b3 23 (cf 64 (iv zf)), .blk b2 23 (cf 64 (iv a1_steps)), .blk b1 34 (cf 256 (iv a0_four))] := by
          intro b16
          rw [hA18]
          refine AW.fin (by kernel_rfl) ?_
          refine EW.next ?_
          refine CW.seq ?_
          refine CW.seq ?_
          refine CW.region ?_
          refine RW.yi (.int .i64 r15.2) rfl rfl (Yi.pv _ rfl) ?_
          refine RW.yi (.bool (decide (¬ r15.2 = 0))) rfl rfl (Yi.pv _ rfl) ?_
          refine RW.nil ?_
          refine EW.next ?_
          refine CW.fork 26 (¬ r15.2 = 0) rfl (fun h17 => ?_) (fun h17 => ?_)
          · replace hm := (if_pos h17).symm.trans hm
            refine CW.cond_true rfl ?_
            refine CW.seq ?_
            refine CW.region ?_
            refine RW.yi (.agg (cf 64 (iv zf))) rfl rfl (Yi.build (vs := []) _ rfl rfl (fun _ => by kernel_rfl)) ?_
            refine RW.yi (.int .i64 r15.2) rfl rfl (Yi.pv _ rfl) ?_
            refine RW.storeW (i := 2) (cs' := cf 64 (iv zf)) rfl rfl rfl rfl (by rw [cf_size]; kernel_rfl) (by simp only [cf_size]) (iv_one _ _) ?_
            refine RW.yi (.int .i64 r15.2) rfl rfl (Yi.pv _ rfl) ?_
            refine RW.nil ?_
            refine EW.next ?_
            refine CW.ret ?_
            refine EW.thr ?_
            refine EW.blr ?_
            refine EW.thr ?_
            refine EW.thr ?_
            refine EW.blr ?_
            refine EW.thr ?_
            obtain rfl := Option.some.inj hm
            exact EW.done (rs := [.cell 4 23, .tmp 5]) rfl (.cellW (i := 2) rfl rfl Tryd.isAgg23 Tryd.sizeOf23 (.tmp (t := 5) (v := .int .i64 r15.2) rfl .nil)) (fun _ hM => ⟨rfl, hM.below⟩)
          · replace hm := (if_neg h17).symm.trans hm
            refine CW.cond_false rfl ?_
            refine CW.skip ?_
            refine EW.next ?_
            refine CW.region ?_
            refine RW.yi (.int .i64 v11) rfl rfl (Yi.pv _ rfl) ?_
            refine RW.yi (.agg (cf 64 (iv r15.1))) rfl rfl (Yi.loadW (i := 0) rfl rfl Tryd.isAgg23 Tryd.sizeOf23) ?_
            refine RW.yi (.pointer (some ⟨b4, v11.toNat * 64, none⟩)) rfl rfl (Yi.indexAddr' _ Tryd.underlying34 Tryd.sizeOf23 rfl rfl g14.1 g14.2 (by omega)) ?_
            refine RW.storeP (i := 1) rfl rfl rfl rfl Tryd.sizeOf23 (by omega) ?_
            refine RW.nil ?_
            refine EW.bln ?_
            refine EW.next ?_
            refine CW.region ?_
            refine RW.yi (.int .i64 v11) rfl rfl (Yi.pv _ rfl) ?_
            refine RW.yi (.int .i64 (w64 (v11 + 1))) rfl rfl (Yi.pv _ rfl) ?_
            refine RW.yi (.int .i64 (w64 (v11 + 1))) rfl rfl (Yi.pv _ rfl) ?_
            refine RW.nil ?_
            refine EW.thn ?_
            exact fun a w hs hM => ⟨(w64 (v11 + 1)), (wrt v12 (v11.toNat * 64) 64 r15.1), hs.sub ⟨rfl, rfl, rfl, rfl, rfl, trivial⟩, hM.sub (.cons _ (.cons_cons _ (.cons_cons _ (.cons_cons _ (.cons_cons _ .slnil))))), hm⟩
        have hA18_11111111110 : ∀ b31 : Nat, A18 1 #[true, true, true, true, true, true, true, true, true, true, false] [(2, .pointer (some ⟨b1, 0, none⟩)), (3, .pointer (some ⟨b2, 0, none⟩)), (4, .pointer (some ⟨b3, 0, none⟩)), (6, .pointer (some ⟨b4, 0, none⟩)), (7, .int .i64 v11), (8, .pointer (some ⟨b31, 0, none⟩)), (13, .int .i64 v11), (14, .bool true), (17, .tuple #[.agg (cf 64 (iv r15.1)), .int .i64 r15.2]), (18, .int .i64 v11), (19, .pointer (some ⟨b1, v11.toNat * 64, none⟩)), (20, .agg (cf 64 (iv (shf a0_four (v11.toNat * 64))))), (21, .agg (cf 64 (iv a1_steps))), (22, .tuple #[.agg (cf 64 (iv r15.1)), .int .i64 r15.2]), (23, .agg (cf 64 (iv r15.1))), (24, .int .i64 r15.2)] [.blk b31 23 (cf 64 (iv r15.1)), .blk b4 34 (cf 256 (iv v12)), .blk b3 23 (cf 64 (iv zf)), .blk b2 23 (cf 64 (iv a1_steps)), .blk b1 34 (cf 256 (iv a0_four))] := by
          intro b31
          rw [hA18]
          refine AW.step 10 [] (by kernel_rfl) ⟨⟨_, rfl, ?_⟩, trivial⟩
          · refine RW.yi (.int .i64 r15.2) rfl rfl (Yi.pv _ rfl) ?_
            refine RW.nil ?_
            have ht := hA18_11111111111 b31
            rw [hA18] at ht
            refine AW.to rfl ?_ (fun _ hM => hM) ht
            exact fun _ hs => hs.sub ⟨rfl, rfl, rfl, rfl, rfl, rfl, rfl, rfl, rfl, rfl, rfl, rfl, rfl, rfl, rfl, rfl, rfl, trivial⟩
        have hA18_11111111100 : ∀ b31 : Nat, A18 2 #[true, true, true, true, true, true, true, true, true, false, false] [(2, .pointer (some ⟨b1, 0, none⟩)), (3, .pointer (some ⟨b2, 0, none⟩)), (4, .pointer (some ⟨b3, 0, none⟩)), (6, .pointer (some ⟨b4, 0, none⟩)), (7, .int .i64 v11), (8, .pointer (some ⟨b31, 0, none⟩)), (13, .int .i64 v11), (14, .bool true), (17, .tuple #[.agg (cf 64 (iv r15.1)), .int .i64 r15.2]), (18, .int .i64 v11), (19, .pointer (some ⟨b1, v11.toNat * 64, none⟩)), (20, .agg (cf 64 (iv (shf a0_four (v11.toNat * 64))))), (21, .agg (cf 64 (iv a1_steps))), (22, .tuple #[.agg (cf 64 (iv r15.1)), .int .i64 r15.2]), (23, .agg (cf 64 (iv r15.1))), (24, .int .i64 r15.2)] [.blk b31 23 (cf 64 (iv zf)), .blk b4 34 (cf 256 (iv v12)), .blk b3 23 (cf 64 (iv zf)), .blk b2 23 (cf 64 (iv a1_steps)), .blk b1 34 (cf 256 (iv a0_four))] := by
          intro b31
          rw [hA18]
          refine AW.step 9 [] (by kernel_rfl) ⟨⟨_, rfl, ?_⟩, trivial⟩
          · refine RW.storeW (i := 0) (cs' := cf 64 (iv r15.1)) rfl rfl rfl rfl (by rw [cf_size]; kernel_rfl) (by simp only [cf_size]) (iv_one _ _) ?_
            refine RW.nil ?_
            have ht := hA18_11111111110 b31
            rw [hA18] at ht
            refine AW.to rfl ?_ (fun _ hM => hM) ht
            exact fun _ hs => hs.sub ⟨rfl, rfl, rfl, rfl, rfl, rfl, rfl, rfl, rfl, rfl, rfl, rfl, rfl, rfl, rfl, rfl, trivial⟩
        have hA18_11111110110 : ∀ b29 : Nat, A18 2 #[true, true, true, true, true, true, true, false, true, true, false] [(2, .pointer (some ⟨b1, 0, none⟩)), (3, .pointer (some ⟨b2, 0, none⟩)), (4, .pointer (some ⟨b3, 0, none⟩)), (6, .pointer (some ⟨b4, 0, none⟩)), (7, .int .i64 v11), (8, .pointer (some ⟨b29, 0, none⟩)), (13, .int .i64 v11), (14, .bool true), (17, .tuple #[.agg (cf 64 (iv r15.1)), .int .i64 r15.2]), (18, .int .i64 v11), (19, .pointer (some ⟨b1, v11.toNat * 64, none⟩)), (20, .agg (cf 64 (iv (shf a0_four (v11.toNat * 64))))), (21, .agg (cf 64 (iv a1_steps))), (22, .tuple #[.agg (cf 64 (iv r15.1)), .int .i64 r15.2]), (23, .agg (cf 64 (iv r15.1)))] [.blk b29 23 (cf 64 (iv r15.1)), .blk b4 34 (cf 256 (iv v12)), .blk b3 23 (cf 64 (iv zf)), .blk b2 23 (cf 64 (iv a1_steps)), .blk b1 34 (cf 256 (iv a0_four))] := by
          intro b29
          rw [hA18]
          refine AW.step 7 [] (by kernel_rfl) ⟨⟨_, rfl, ?_⟩, trivial⟩
          · refine RW.yi (.int .i64 r15.2) rfl rfl (Yi.pv _ rfl) ?_
            refine RW.nil ?_
            have ht := hA18_11111111110 b29
            rw [hA18] at ht
            refine AW.to rfl ?_ (fun _ hM => hM) ht
            exact fun _ hs => hs.sub ⟨rfl, rfl, rfl, rfl, rfl, rfl, rfl, rfl, rfl, rfl, rfl, rfl, rfl, rfl, rfl, rfl, trivial⟩
        have hA18_11111111000 : A18 3 #[true, true, true, true, true, true, true, true, false, false, false] [(2, .pointer (some ⟨b1, 0, none⟩)), (3, .pointer (some ⟨b2, 0, none⟩)), (4, .pointer (some ⟨b3, 0, none⟩)), (6, .pointer (some ⟨b4, 0, none⟩)), (7, .int .i64 v11), (13, .int .i64 v11), (14, .bool true), (17, .tuple #[.agg (cf 64 (iv r15.1)), .int .i64 r15.2]), (18, .int .i64 v11), (19, .pointer (some ⟨b1, v11.toNat * 64, none⟩)), (20, .agg (cf 64 (iv (shf a0_four (v11.toNat * 64))))), (21, .agg (cf 64 (iv a1_steps))), (22, .tuple #[.agg (cf 64 (iv r15.1)), .int .i64 r15.2]), (23, .agg (cf 64 (iv r15.1))), (24, .int .i64 r15.2)] [.blk b4 34 (cf 256 (iv v12)), .blk b3 23 (cf 64 (iv zf)), .blk b2 23 (cf 64 (iv a1_steps)), .blk b1 34 (cf 256 (iv a0_four))] := by
          rw [hA18]
          refine AW.step 8 [] (by kernel_rfl) ⟨⟨_, rfl, ?_⟩, trivial⟩
          · refine RW.alloc (z := .agg (cf 64 (iv zf))) (cf 64 (iv zf)) rfl rfl (fun _ => by kernel_rfl) rfl (fun b31 => ?_)
            refine RW.nil ?_
            have ht := hA18_11111111100 b31
            rw [hA18] at ht
            refine AW.to rfl ?_ (fun _ hM => hM) ht
            exact fun _ hs => hs.sub ⟨rfl, rfl, rfl, rfl, rfl, rfl, rfl, rfl, rfl, rfl, rfl, rfl, rfl, rfl, rfl, rfl, trivial⟩
        have hA18_11111110100 : ∀ b29 : Nat, A18 3 #[true, true, true, true, true, true, true, false, true, false, false] [(2, .pointer (some ⟨b1, 0, none⟩)), (3, .pointer (some ⟨b2, 0, none⟩)), (4, .pointer (some ⟨b3, 0, none⟩)), (6, .pointer (some ⟨b4, 0, none⟩)), (7, .int .i64 v11), (8, .pointer (some ⟨b29, 0, none⟩)), (13, .int .i64 v11), (14, .bool true), (17, .tuple #[.agg (cf 64 (iv r15.1)), .int .i64 r15.2]), (18, .int .i64 v11), (19, .pointer (some ⟨b1, v11.toNat * 64, none⟩)), (20, .agg (cf 64 (iv (shf a0_four (v11.toNat * 64))))), (21, .agg (cf 64 (iv a1_steps))), (22, .tuple #[.agg (cf 64 (iv r15.1)), .int .i64 r15.2]), (23, .agg (cf 64 (iv r15.1)))] [.blk b29 23 (cf 64 (iv zf)), .blk b4 34 (cf 256 (iv v12)), .blk b3 23 (cf 64 (iv zf)), .blk b2 23 (cf 64 (iv a1_steps)), .blk b1 34 (cf 256 (iv a0_four))] := by
          intro b29
          rw [hA18]
          refine AW.step 7 [9] (by kernel_rfl) ⟨⟨_, rfl, ?_⟩, ⟨_, rfl, ?_⟩, trivial⟩
          · refine RW.yi (.int .i64 r15.2) rfl rfl (Yi.pv _ rfl) ?_
            refine RW.nil ?_
            have ht := hA18_11111111100 b29
            rw [hA18] at ht
            refine AW.to rfl ?_ (fun _ hM => hM) ht
            exact fun _ hs => hs.sub ⟨rfl, rfl, rfl, rfl, rfl, rfl, rfl, rfl, rfl, rfl, rfl, rfl, rfl, rfl, rfl, rfl, trivial⟩
          · refine RW.storeW (i := 0) (cs' := cf 64 (iv r15.1)) rfl rfl rfl rfl (by rw [cf_size]; kernel_rfl) (by simp only [cf_size]) (iv_one _ _) ?_
            refine RW.nil ?_
            have ht := hA18_11111110110 b29
            rw [hA18] at ht
            refine AW.to rfl ?_ (fun _ hM => hM) ht
            exact fun _ hs => hs.sub ⟨rfl, rfl, rfl, rfl, rfl, rfl, rfl, rfl, rfl, rfl, rfl, rfl, rfl, rfl, rfl, trivial⟩
        have hA18_11111101100 : ∀ b30 : Nat, A18 3 #[true, true, true, true, true, true, false, true, true, false, false] [(2, .pointer (some ⟨b1, 0, none⟩)), (3, .pointer (some ⟨b2, 0, none⟩)), (4, .pointer (some ⟨b3, 0, none⟩)), (6, .pointer (some ⟨b4, 0, none⟩)), (7, .int .i64 v11), (8, .pointer (some ⟨b30, 0, none⟩)), (13, .int .i64 v11), (14, .bool true), (17, .tuple #[.agg (cf 64 (iv r15.1)), .int .i64 r15.2]), (18, .int .i64 v11), (19, .pointer (some ⟨b1, v11.toNat * 64, none⟩)), (20, .agg (cf 64 (iv (shf a0_four (v11.toNat * 64))))), (21, .agg (cf 64 (iv a1_steps))), (22, .tuple #[.agg (cf 64 (iv r15.1)), .int .i64 r15.2]), (24, .int .i64 r15.2)] [.blk b30 23 (cf 64 (iv zf)), .blk b4 34 (cf 256 (iv v12)), .blk b3 23 (cf 64 (iv zf)), .blk b2 23 (cf 64 (iv a1_steps)), .blk b1 34 (cf 256 (iv a0_four))] := by
          intro b30
          rw [hA18]
          refine AW.step 6 [] (by kernel_rfl) ⟨⟨_, rfl, ?_⟩, trivial⟩
          · refine RW.yi (.agg (cf 64 (iv r15.1))) rfl rfl (Yi.pv _ rfl) ?_
            refine RW.nil ?_
            have ht := hA18_11111111100 b30
            rw [hA18] at ht
            refine AW.to rfl ?_ (fun _ hM => hM) ht
            exact fun _ hs => hs.sub ⟨rfl, rfl, rfl, rfl, rfl, rfl, rfl, rfl, rfl, rfl, rfl, rfl, rfl, rfl, rfl, rfl, trivial⟩
        have hA18_11111110000 : A18 4 #[true, true, true, true, true, true, true, false, false, false, false] [(2, .pointer (some ⟨b1, 0, none⟩)), (3, .pointer (some ⟨b2, 0, none⟩)), (4, .pointer (some ⟨b3, 0, none⟩)), (6, .pointer (some ⟨b4, 0, none⟩)), (7, .int .i64 v11), (13, .int .i64 v11), (14, .bool true), (17, .tuple #[.agg (cf 64 (iv r15.1)), .int .i64 r15.2]), (18, .int .i64 v11), (19, .pointer (some ⟨b1, v11.toNat * 64, none⟩)), (20, .agg (cf 64 (iv (shf a0_four (v11.toNat * 64))))), (21, .agg (cf 64 (iv a1_steps))), (22, .tuple #[.agg (cf 64 (iv r15.1)), .int .i64 r15.2]), (23, .agg (cf 64 (iv r15.1)))] [.blk b4 34 (cf 256 (iv v12)), .blk b3 23 (cf 64 (iv zf)), .blk b2 23 (cf 64 (iv a1_steps)), .blk b1 34 (cf 256 (iv a0_four))] := by
          rw [hA18]
          refine AW.step 7 [8] (by kernel_rfl) ⟨⟨_, rfl, ?_⟩, ⟨_, rfl, ?_⟩, trivial⟩
          · refine RW.yi (.int .i64 r15.2) rfl rfl (Yi.pv _ rfl) ?_
            refine RW.nil ?_
            have ht := hA18_11111111000
            rw [hA18] at ht
            refine AW.to rfl ?_ (fun _ hM => hM) ht
            exact fun _ hs => hs.sub ⟨rfl, rfl, rfl, rfl, rfl, rfl, rfl, rfl, rfl, rfl, rfl, rfl, rfl, rfl, rfl, trivial⟩
          · refine RW.alloc (z := .agg (cf 64 (iv zf))) (cf 64 (iv zf)) rfl rfl (fun _ => by kernel_rfl) rfl (fun b29 => ?_)
            refine RW.nil ?_
            have ht := hA18_11111110100 b29
            rw [hA18] at ht
            refine AW.to rfl ?_ (fun _ hM => hM) ht
            exact fun _ hs => hs.sub ⟨rfl, rfl, rfl, rfl, rfl, rfl, rfl, rfl, rfl, rfl, rfl, rfl, rfl, rfl, rfl, trivial⟩
        have hA18_11111101000 : A18 4 #[true, true, true, true, true, true, false, true, false, false, false] [(2, .pointer (some ⟨b1, 0, none⟩)), (3, .pointer (some ⟨b2, 0, none⟩)), (4, .pointer (some ⟨b3, 0, none⟩)), (6, .pointer (some ⟨b4, 0, none⟩)), (7, .int .i64 v11), (13, .int .i64 v11), (14, .bool true), (17, .tuple #[.agg (cf 64 (iv r15.1)), .int .i64 r15.2]), (18, .int .i64 v11), (19, .pointer (some ⟨b1, v11.toNat * 64, none⟩)), (20, .agg (cf 64 (iv (shf a0_four (v11.toNat * 64))))), (21, .agg (cf 64 (iv a1_steps))), (22, .tuple #[.agg (cf 64 (iv r15.1)), .int .i64 r15.2]), (24, .int .i64 r15.2)] [.blk b4 34 (cf 256 (iv v12)), .blk b3 23 (cf 64 (iv zf)), .blk b2 23 (cf 64 (iv a1_steps)), .blk b1 34 (cf 256 (iv a0_four))] := by
          rw [hA18]
          refine AW.step 6 [8] (by kernel_rfl) ⟨⟨_, rfl, ?_⟩, ⟨_, rfl, ?_⟩, trivial⟩
          · refine RW.yi (.agg (cf 64 (iv r15.1))) rfl rfl (Yi.pv _ rfl) ?_
            refine RW.nil ?_
            have ht := hA18_11111111000
            rw [hA18] at ht
            refine AW.to rfl ?_ (fun _ hM => hM) ht
            exact fun _ hs => hs.sub ⟨rfl, rfl, rfl, rfl, rfl, rfl, rfl, rfl, rfl, rfl, rfl, rfl, rfl, rfl, rfl, trivial⟩
          · refine RW.alloc (z := .agg (cf 64 (iv zf))) (cf 64 (iv zf)) rfl rfl (fun _ => by kernel_rfl) rfl (fun b30 => ?_)
            refine RW.nil ?_
            have ht := hA18_11111101100 b30
            rw [hA18] at ht
            refine AW.to rfl ?_ (fun _ hM => hM) ht
            exact fun _ hs => hs.sub ⟨rfl, rfl, rfl, rfl, rfl, rfl, rfl, rfl, rfl, rfl, rfl, rfl, rfl, rfl, rfl, trivial⟩
        have hA18_11111100100 : ∀ b28 : Nat, A18 4 #[true, true, true, true, true, true, false, false, true, false, false] [(2, .pointer (some ⟨b1, 0, none⟩)), (3, .pointer (some ⟨b2, 0, none⟩)), (4, .pointer (some ⟨b3, 0, none⟩)), (6, .pointer (some ⟨b4, 0, none⟩)), (7, .int .i64 v11), (8, .pointer (some ⟨b28, 0, none⟩)), (13, .int .i64 v11), (14, .bool true), (17, .tuple #[.agg (cf 64 (iv r15.1)), .int .i64 r15.2]), (18, .int .i64 v11), (19, .pointer (some ⟨b1, v11.toNat * 64, none⟩)), (20, .agg (cf 64 (iv (shf a0_four (v11.toNat * 64))))), (21, .agg (cf 64 (iv a1_steps))), (22, .tuple #[.agg (cf 64 (iv r15.1)), .int .i64 r15.2])] [.blk b28 23 (cf 64 (iv zf)), .blk b4 34 (cf 256 (iv v12)), .blk b3 23 (cf 64 (iv zf)), .blk b2 23 (cf 64 (iv a1_steps)), .blk b1 34 (cf 256 (iv a0_four))] := by
          intro b28
          rw [hA18]
          refine AW.step 6 [7] (by kernel_rfl) ⟨⟨_, rfl, ?_⟩, ⟨_, rfl, ?_⟩, trivial⟩
          · refine RW.yi (.agg (cf 64 (iv r15.1))) rfl rfl (Yi.pv _ rfl) ?_
            refine RW.nil ?_
            have ht := hA18_11111110100 b28
            rw [hA18] at ht
            refine AW.to rfl ?_ (fun _ hM => hM) ht
            exact fun _ hs => hs.sub ⟨rfl, rfl, rfl, rfl, rfl, rfl, rfl, rfl, rfl, rfl, rfl, rfl, rfl, rfl, rfl, trivial⟩
          · refine RW.yi (.int .i64 r15.2) rfl rfl (Yi.pv _ rfl) ?_
            refine RW.nil ?_
            have ht := hA18_11111101100 b28
            rw [hA18] at ht
            refine AW.to rfl ?_ (fun _ hM => hM) ht
            exact fun _ hs => hs.sub ⟨rfl, rfl, rfl, rfl, rfl, rfl, rfl, rfl, rfl, rfl, rfl, rfl, rfl, rfl, rfl, trivial⟩
        have hA18_11111100000 : A18 5 #[true, true, true, true, true, true, false, false, false, false, false] [(2, .pointer (some ⟨b1, 0, none⟩)), (3, .pointer (some ⟨b2, 0, none⟩)), (4, .pointer (some ⟨b3, 0, none⟩)), (6, .pointer (some ⟨b4, 0, none⟩)), (7, .int .i64 v11), (13, .int .i64 v11), (14, .bool true), (17, .tuple #[.agg (cf 64 (iv r15.1)), .int .i64 r15.2]), (18, .int .i64 v11), (19, .pointer (some ⟨b1, v11.toNat * 64, none⟩)), (20, .agg (cf 64 (iv (shf a0_four (v11.toNat * 64))))), (21, .agg (cf 64 (iv a1_steps))), (22, .tuple #[.agg (cf 64 (iv r15.1)), .int .i64 r15.2])] [.blk b4 34 (cf 256 (iv v12)), .blk b3 23 (cf 64 (iv zf)), .blk b2 23 (cf 64 (iv a1_steps)), .blk b1 34 (cf 256 (iv a0_four))] := by
          rw [hA18]
          refine AW.step 6 [7, 8] (by kernel_rfl) ⟨⟨_, rfl, ?_⟩, ⟨_, rfl, ?_⟩, ⟨_, rfl, ?_⟩, trivial⟩
          · refine RW.yi (.agg (cf 64 (iv r15.1))) rfl rfl (Yi.pv _ rfl) ?_
            refine RW.nil ?_
            have ht := hA18_11111110000
            rw [hA18] at ht
            refine AW.to rfl ?_ (fun _ hM => hM) ht
            exact fun _ hs => hs.sub ⟨rfl, rfl, rfl, rfl, rfl, rfl, rfl, rfl, rfl, rfl, rfl, rfl, rfl, rfl, trivial⟩
          · refine RW.yi (.int .i64 r15.2) rfl rfl (Yi.pv _ rfl) ?_
            refine RW.nil ?_
            have ht := hA18_11111101000
            rw [hA18] at ht
            refine AW.to rfl ?_ (fun _ hM => hM) ht
            exact fun _ hs => hs.sub ⟨rfl, rfl, rfl, rfl, rfl, rfl, rfl, rfl, rfl, rfl, rfl, rfl, rfl, rfl, trivial⟩
          · refine RW.alloc (z := .agg (cf 64 (iv zf))) (cf 64 (iv zf)) rfl rfl (fun _ => by kernel_rfl) rfl (fun b28 => ?_)
            refine RW.nil ?_
            have ht := hA18_11111100100 b28
            rw [hA18] at ht
            refine AW.to rfl ?_ (fun _ hM => hM) ht
            exact fun _ hs => hs.sub ⟨rfl, rfl, rfl, rfl, rfl, rfl, rfl, rfl, rfl, rfl, rfl, rfl, rfl, rfl, trivial⟩
        have hA18_11111000100 : ∀ b27 : Nat, A18 5 #[true, true, true, true, true, false, false, false, true, false, false] [(2, .pointer (some ⟨b1, 0, none⟩)), (3, .pointer (some ⟨b2, 0, none⟩)), (4, .pointer (some ⟨b3, 0, none⟩)), (6, .pointer (some ⟨b4, 0, none⟩)), (7, .int .i64 v11), (8, .pointer (some ⟨b27, 0, none⟩)), (13, .int .i64 v11), (14, .bool true), (18, .int .i64 v11), (19, .pointer (some ⟨b1, v11.toNat * 64, none⟩)), (20, .agg (cf 64 (iv (shf a0_four (v11.toNat * 64))))), (21, .agg (cf 64 (iv a1_steps))), (22, .tuple #[.agg (cf 64 (iv r15.1)), .int .i64 r15.2])] [.blk b27 23 (cf 64 (iv zf)), .blk b4 34 (cf 256 (iv v12)), .blk b3 23 (cf 64 (iv zf)), .blk b2 23 (cf 64 (iv a1_steps)), .blk b1 34 (cf 256 (iv a0_four))] := by
          intro b27
          rw [hA18]
          refine AW.step 5 [] (by kernel_rfl) ⟨⟨_, rfl, ?_⟩, trivial⟩
          · refine RW.yi (.tuple #[.agg (cf 64 (iv r15.1)), .int .i64 r15.2]) rfl rfl (Yi.pv _ rfl) ?_
            refine RW.nil ?_
            have ht := hA18_11111100100 b27
            rw [hA18] at ht
            refine AW.to rfl ?_ (fun _ hM => hM) ht
            exact fun _ hs => hs.sub ⟨rfl, rfl, rfl, rfl, rfl, rfl, rfl, rfl, rfl, rfl, rfl, rfl, rfl, rfl, trivial⟩
        have hA18_11111000000 : A18 6 #[true, true, true, true, true, false, false, false, false, false, false] [(2, .pointer (some ⟨b1, 0, none⟩)), (3, .pointer (some ⟨b2, 0, none⟩)), (4, .pointer (some ⟨b3, 0, none⟩)), (6, .pointer (some ⟨b4, 0, none⟩)), (7, .int .i64 v11), (13, .int .i64 v11), (14, .bool true), (18, .int .i64 v11), (19, .pointer (some ⟨b1, v11.toNat * 64, none⟩)), (20, .agg (cf 64 (iv (shf a0_four (v11.toNat * 64))))), (21, .agg (cf 64 (iv a1_steps))), (22, .tuple #[.agg (cf 64 (iv r15.1)), .int .i64 r15.2])] [.blk b4 34 (cf 256 (iv v12)), .blk b3 23 (cf 64 (iv zf)), .blk b2 23 (cf 64 (iv a1_steps)), .blk b1 34 (cf 256 (iv a0_four))] := by
          rw [hA18]
          refine AW.step 5 [8] (by kernel_rfl) ⟨⟨_, rfl, ?_⟩, ⟨_, rfl, ?_⟩, trivial⟩
          · refine RW.yi (.tuple #[.agg (cf 64 (iv r15.1)), .int .i64 r15.2]) rfl rfl (Yi.pv _ rfl) ?_
            refine RW.nil ?_
            have ht := hA18_11111100000
            rw [hA18] at ht
            refine AW.to rfl ?_ (fun _ hM => hM) ht
            exact fun _ hs => hs.sub ⟨rfl, rfl, rfl, rfl, rfl, rfl, rfl, rfl, rfl, rfl, rfl, rfl, rfl, trivial⟩
          · refine RW.alloc (z := .agg (cf 64 (iv zf))) (cf 64 (iv zf)) rfl rfl (fun _ => by kernel_rfl) rfl (fun b27 => ?_)
            refine RW.nil ?_
            have ht := hA18_11111000100 b27
            rw [hA18] at ht
            refine AW.to rfl ?_ (fun _ hM => hM) ht
            exact fun _ hs => hs.sub ⟨rfl, rfl, rfl, rfl, rfl, rfl, rfl, rfl, rfl, rfl, rfl, rfl, rfl, trivial⟩
        have hA18_11110000100 : ∀ b26 : Nat, A18 6 #[true, true, true, true, false, false, false, false, true, false, false] [(2, .pointer (some ⟨b1, 0, none⟩)), (3, .pointer (some ⟨b2, 0, none⟩)), (4, .pointer (some ⟨b3, 0, none⟩)), (6, .pointer (some ⟨b4, 0, none⟩)), (7, .int .i64 v11), (8, .pointer (some ⟨b26, 0, none⟩)), (13, .int .i64 v11), (14, .bool true), (18, .int .i64 v11), (19, .pointer (some ⟨b1, v11.toNat * 64, none⟩)), (20, .agg (cf 64 (iv (shf a0_four (v11.toNat * 64))))), (21, .agg (cf 64 (iv a1_steps)))] [.blk b26 23 (cf 64 (iv zf)), .blk b4 34 (cf 256 (iv v12)), .blk b3 23 (cf 64 (iv zf)), .blk b2 23 (cf 64 (iv a1_steps)), .blk b1 34 (cf 256 (iv a0_four))] := by
          intro b26
          rw [hA18]
          refine AW.step 4 [] (by kernel_rfl) ⟨⟨_, rfl, ?_⟩, trivial⟩
          · refine RW.ca (.tuple #[.agg (cf 64 (iv r15.1)), .int .i64 r15.2]) rfl rfl (Ca.call rfl rfl Tryd.call39 (fun w _ => c_rUp K (shf a0_four (v11.toNat * 64)) a1_steps r15 w hr15)) ?_
            refine RW.nil ?_
            have ht := hA18_11111000100 b26
            rw [hA18] at ht
            refine AW.to rfl ?_ (fun _ hM => hM) ht
            exact fun _ hs => hs.sub ⟨rfl, rfl, rfl, rfl, rfl, rfl, rfl, rfl, rfl, rfl, rfl, rfl, rfl, trivial⟩
        have hA18_11110000000 : A18 7 #[true, true, true, true, false, false, false, false, false, false, false] [(2, .pointer (some ⟨b1, 0, none⟩)), (3, .pointer (some ⟨b2, 0, none⟩)), (4, .pointer (some ⟨b3, 0, none⟩)), (6, .pointer (some ⟨b4, 0, none⟩)), (7, .int .i64 v11), (13, .int .i64 v11), (14, .bool true), (18, .int .i64 v11), (19, .pointer (some ⟨b1, v11.toNat * 64, none⟩)), (20, .agg (cf 64 (iv (shf a0_four (v11.toNat * 64))))), (21, .agg (cf 64 (iv a1_steps)))] [.blk b4 34 (cf 256 (iv v12)), .blk b3 23 (cf 64 (iv zf)), .blk b2 23 (cf 64 (iv a1_steps)), .blk b1 34 (cf 256 (iv a0_four))] := by
          rw [hA18]
          refine AW.step 4 [8] (by kernel_rfl) ⟨⟨_, rfl, ?_⟩, ⟨_, rfl, ?_⟩, trivial⟩
          · refine RW.ca (.tuple #[.agg (cf 64 (iv r15.1)), .int .i64 r15.2]) rfl rfl (Ca.call rfl rfl Tryd.call39 (fun w _ => c_rUp K (shf a0_four (v11.toNat * 64)) a1_steps r15 w hr15)) ?_
            refine RW.nil ?_
            have ht := hA18_11111000000
            rw [hA18] at ht
            refine AW.to rfl ?_ (fun _ hM => hM) ht
            exact fun _ hs => hs.sub ⟨rfl, rfl, rfl, rfl, rfl, rfl, rfl, rfl, rfl, rfl, rfl, rfl, trivial⟩
          · refine RW.alloc (z := .agg (cf 64 (iv zf))) (cf 64 (iv zf)) rfl rfl (fun _ => by kernel_rfl) rfl (fun b26 => ?_)
            refine RW.nil ?_
            have ht := hA18_11110000100 b26
            rw [hA18] at ht
            refine AW.to rfl ?_ (fun _ hM => hM) ht
            exact fun _ hs => hs.sub ⟨rfl, rfl, rfl, rfl, rfl, rfl, rfl, rfl, rfl, rfl, rfl, rfl, trivial⟩
        have hA18_11100000100 : ∀ b24 : Nat, A18 7 #[true, true, true, false, false, false, false, false, true, false, false] [(2, .pointer (some ⟨b1, 0, none⟩)), (3, .pointer (some ⟨b2, 0, none⟩)), (4, .pointer (some ⟨b3, 0, none⟩)), (6, .pointer (some ⟨b4, 0, none⟩)), (7, .int .i64 v11), (8, .pointer (some ⟨b24, 0, none⟩)), (13, .int .i64 v11), (14, .bool true), (18, .int .i64 v11), (19, .pointer (some ⟨b1, v11.toNat * 64, none⟩)), (20, .agg (cf 64 (iv (shf a0_four (v11.toNat * 64)))))] [.blk b24 23 (cf 64 (iv zf)), .blk b4 34 (cf 256 (iv v12)), .blk b3 23 (cf 64 (iv zf)), .blk b2 23 (cf 64 (iv a1_steps)), .blk b1 34 (cf 256 (iv a0_four))] := by
          intro b24
          rw [hA18]
          refine AW.step 3 [] (by kernel_rfl) ⟨⟨_, rfl, ?_⟩, trivial⟩
          · refine RW.yi (.agg (cf 64 (iv a1_steps))) rfl rfl (Yi.loadW (i := 3) rfl rfl Tryd.isAgg23 Tryd.sizeOf23) ?_
            refine RW.nil ?_
            have ht := hA18_11110000100 b24
            rw [hA18] at ht
            refine AW.to rfl ?_ (fun _ hM => hM) ht
            exact fun _ hs => hs.sub ⟨rfl, rfl, rfl, rfl, rfl, rfl, rfl, rfl, rfl, rfl, rfl, rfl, trivial⟩
        have hA18_11010000100 : ∀ b25 : Nat, A18 7 #[true, true, false, true, false, false, false, false, true, false, false] [(2, .pointer (some ⟨b1, 0, none⟩)), (3, .pointer (some ⟨b2, 0, none⟩)), (4, .pointer (some ⟨b3, 0, none⟩)), (6, .pointer (some ⟨b4, 0, none⟩)), (7, .int .i64 v11), (8, .pointer (some ⟨b25, 0, none⟩)), (13, .int .i64 v11), (14, .bool true), (18, .int .i64 v11), (19, .pointer (some ⟨b1, v11.toNat * 64, none⟩)), (21, .agg (cf 64 (iv a1_steps)))] [.blk b25 23 (cf 64 (iv zf)), .blk b4 34 (cf 256 (iv v12)), .blk b3 23 (cf 64 (iv zf)), .blk b2 23 (cf 64 (iv a1_steps)), .blk b1 34 (cf 256 (iv a0_four))] := by
          intro b25
          rw [hA18]
          refine AW.step 2 [] (by kernel_rfl) ⟨⟨_, rfl, ?_⟩, trivial⟩
          · refine RW.yi (.agg (cf 64 (iv (shf a0_four (v11.toNat * 64))))) rfl rfl (Yi.loadP (i := 4) rfl rfl Tryd.isAgg23 Tryd.sizeOf23 (by omega)) ?_
            refine RW.nil ?_
            have ht := hA18_11110000100 b25
            rw [hA18] at ht
            refine AW.to rfl ?_ (fun _ hM => hM) ht
            exact fun _ hs => hs.sub ⟨rfl, rfl, rfl, rfl, rfl, rfl, rfl, rfl, rfl, rfl, rfl, rfl, trivial⟩
        have hA18_11100000000 : A18 8 #[true, true, true, false, false, false, false, false, false, false, false] [(2, .pointer (some ⟨b1, 0, none⟩)), (3, .pointer (some ⟨b2, 0, none⟩)), (4, .pointer (some ⟨b3, 0, none⟩)), (6, .pointer (some ⟨b4, 0, none⟩)), (7, .int .i64 v11), (13, .int .i64 v11), (14, .bool true), (18, .int .i64 v11), (19, .pointer (some ⟨b1, v11.toNat * 64, none⟩)), (20, .agg (cf 64 (iv (shf a0_four (v11.toNat * 64)))))] [.blk b4 34 (cf 256 (iv v12)), .blk b3 23 (cf 64 (iv zf)), .blk b2 23 (cf 64 (iv a1_steps)), .blk b1 34 (cf 256 (iv a0_four))] := by
          rw [hA18]
          refine AW.step 3 [8] (by kernel_rfl) ⟨⟨_, rfl, ?_⟩, ⟨_, rfl, ?_⟩, trivial⟩
          · refine RW.yi (.agg (cf 64 (iv a1_steps))) rfl rfl (Yi.loadW (i := 2) rfl rfl Tryd.isAgg23 Tryd.sizeOf23) ?_
            refine RW.nil ?_
            have ht := hA18_11110000000
            rw [hA18] at ht
            refine AW.to rfl ?_ (fun _ hM => hM) ht
            exact fun _ hs => hs.sub ⟨rfl, rfl, rfl, rfl, rfl, rfl, rfl, rfl, rfl, rfl, rfl, trivial⟩
          · refine RW.alloc (z := .agg (cf 64 (iv zf))) (cf 64 (iv zf)) rfl rfl (fun _ => by kernel_rfl) rfl (fun b24 => ?_)
            refine RW.nil ?_
            have ht := hA18_11100000100 b24
            rw [hA18] at ht
            refine AW.to rfl ?_ (fun _ hM => hM) ht
            exact fun _ hs => hs.sub ⟨rfl, rfl, rfl, rfl, rfl, rfl, rfl, rfl, rfl, rfl, rfl, trivial⟩
        have hA18_11010000000 : A18 8 #[true, true, false, true, false, false, false, false, false, false, false] [(2, .pointer (some ⟨b1, 0, none⟩)), (3, .pointer (some ⟨b2, 0, none⟩)), (4, .pointer (some ⟨b3, 0, none⟩)), (6, .pointer (some ⟨b4, 0, none⟩)), (7, .int .i64 v11), (13, .int .i64 v11), (14, .bool true), (18, .int .i64 v11), (19, .pointer (some ⟨b1, v11.toNat * 64, none⟩)), (21, .agg (cf 64 (iv a1_steps)))] [.blk b4 34 (cf 256 (iv v12)), .blk b3 23 (cf 64 (iv zf)), .blk b2 23 (cf 64 (iv a1_steps)), .blk b1 34 (cf 256 (iv a0_four))] := by
          rw [hA18]
          refine AW.step 2 [8] (by kernel_rfl) ⟨⟨_, rfl, ?_⟩, ⟨_, rfl, ?_⟩, trivial⟩
          · refine RW.yi (.agg (cf 64 (iv (shf a0_four (v11.toNat * 64))))) rfl rfl (Yi.loadP (i := 3) rfl rfl Tryd.isAgg23 Tryd.sizeOf23 (by omega)) ?_
            refine RW.nil ?_
            have ht := hA18_11110000000
            rw [hA18] at ht
            refine AW.to rfl ?_ (fun _ hM => hM) ht
            exact fun _ hs => hs.sub ⟨rfl, rfl, rfl, rfl, rfl, rfl, rfl, rfl, rfl, rfl, rfl, trivial⟩
          · refine RW.alloc (z := .agg (cf 64 (iv zf))) (cf 64 (iv zf)) rfl rfl (fun _ => by kernel_rfl) rfl (fun b25 => ?_)
            refine RW.nil ?_
            have ht := hA18_11010000100 b25
            rw [hA18] at ht
            refine AW.to rfl ?_ (fun _ hM => hM) ht
            exact fun _ hs => hs.sub ⟨rfl, rfl, rfl, rfl, rfl, rfl, rfl, rfl, rfl, rfl, rfl, trivial⟩
        have hA18_11000000100 : ∀ b22 : Nat, A18 8 #[true, true, false, false, false, false, false, false, true, false, false] [(2, .pointer (some ⟨b1, 0, none⟩)), (3, .pointer (some ⟨b2, 0, none⟩)), (4, .pointer (some ⟨b3, 0, none⟩)), (6, .pointer (some ⟨b4, 0, none⟩)), (7, .int .i64 v11), (8, .pointer (some ⟨b22, 0, none⟩)), (13, .int .i64 v11), (14, .bool true), (18, .int .i64 v11), (19, .pointer (some ⟨b1, v11.toNat * 64, none⟩))] [.blk b22 23 (cf 64 (iv zf)), .blk b4 34 (cf 256 (iv v12)), .blk b3 23 (cf 64 (iv zf)), .blk b2 23 (cf 64 (iv a1_steps)), .blk b1 34 (cf 256 (iv a0_four))] := by
          intro b22
          rw [hA18]
          refine AW.step 2 [3] (by kernel_rfl) ⟨⟨_, rfl, ?_⟩, ⟨_, rfl, ?_⟩, trivial⟩
          · refine RW.yi (.agg (cf 64 (iv (shf a0_four (v11.toNat * 64))))) rfl rfl (Yi.loadP (i := 4) rfl rfl Tryd.isAgg23 Tryd.sizeOf23 (by omega)) ?_
            refine RW.nil ?_
            have ht := hA18_11100000100 b22
            rw [hA18] at ht
            refine AW.to rfl ?_ (fun _ hM => hM) ht
            exact fun _ hs => hs.sub ⟨rfl, rfl, rfl, rfl, rfl, rfl, rfl, rfl, rfl, rfl, rfl, trivial⟩
          · refine RW.yi (.agg (cf 64 (iv a1_steps))) rfl rfl (Yi.loadW (i := 3) rfl rfl Tryd.isAgg23 Tryd.sizeOf23) ?_
            refine RW.nil ?_
            have ht := hA18_11010000100 b22
            rw [hA18] at ht
            refine AW.to rfl ?_ (fun _ hM => hM) ht
            exact fun _ hs => hs.sub ⟨rfl, rfl, rfl, rfl, rfl, rfl, rfl, rfl, rfl, rfl, rfl, trivial⟩
        have hA18_10010000100 : ∀ b23 : Nat, A18 8 #[true, false, false, true, false, false, false, false, true, false, false] [(2, .pointer (some ⟨b1, 0, none⟩)), (3, .pointer (some ⟨b2, 0, none⟩)), (4, .pointer (some ⟨b3, 0, none⟩)), (6, .pointer (some ⟨b4, 0, none⟩)), (7, .int .i64 v11), (8, .pointer (some ⟨b23, 0, none⟩)), (13, .int .i64 v11), (14, .bool true), (18, .int .i64 v11), (21, .agg (cf 64 (iv a1_steps)))] [.blk b23 23 (cf 64 (iv zf)), .blk b4 34 (cf 256 (iv v12)), .blk b3 23 (cf 64 (iv zf)), .blk b2 23 (cf 64 (iv a1_steps)), .blk b1 34 (cf 256 (iv a0_four))] := by
          intro b23
          rw [hA18]
          refine AW.step 1 [] (by kernel_rfl) ⟨⟨_, rfl, ?_⟩, trivial⟩
          · refine RW.yi (.pointer (some ⟨b1, v11.toNat * 64, none⟩)) rfl rfl (Yi.indexAddr' _ Tryd.underlying34 Tryd.sizeOf23 rfl rfl g14.1 g14.2 (by omega)) ?_
            refine RW.nil ?_
            have ht := hA18_11010000100 b23
            rw [hA18] at ht
            refine AW.to rfl ?_ (fun _ hM => hM) ht
            exact fun _ hs => hs.sub ⟨rfl, rfl, rfl, rfl, rfl, rfl, rfl, rfl, rfl, rfl, rfl, trivial⟩
        have hA18_11000000000 : A18 9 #[true, true, false, false, false, false, false, false, false, false, false] [(2, .pointer (some ⟨b1, 0, none⟩)), (3, .pointer (some ⟨b2, 0, none⟩)), (4, .pointer (some ⟨b3, 0, none⟩)), (6, .pointer (some ⟨b4, 0, none⟩)), (7, .int .i64 v11), (13, .int .i64 v11), (14, .bool true), (18, .int .i64 v11), (19, .pointer (some ⟨b1, v11.toNat * 64, none⟩))] [.blk b4 34 (cf 256 (iv v12)), .blk b3 23 (cf 64 (iv zf)), .blk b2 23 (cf 64 (iv a1_steps)), .blk b1 34 (cf 256 (iv a0_four))] := by
          rw [hA18]
          refine AW.step 2 [3, 8] (by kernel_rfl) ⟨⟨_, rfl, ?_⟩, ⟨_, rfl, ?_⟩, ⟨_, rfl, ?_⟩, trivial⟩
          · refine RW.yi (.agg (cf 64 (iv (shf a0_four (v11.toNat * 64))))) rfl rfl (Yi.loadP (i := 3) rfl rfl Tryd.isAgg23 Tryd.sizeOf23 (by omega)) ?_
            refine RW.nil ?_
            have ht := hA18_11100000000
            rw [hA18] at ht
            refine AW.to rfl ?_ (fun _ hM => hM) ht
            exact fun _ hs => hs.sub ⟨rfl, rfl, rfl, rfl, rfl, rfl, rfl, rfl, rfl, rfl, trivial⟩
          · refine RW.yi (.agg (cf 64 (iv a1_steps))) rfl rfl (Yi.loadW (i := 2) rfl rfl Tryd.isAgg23 Tryd.sizeOf23) ?_
            refine RW.nil ?_
            have ht := hA18_11010000000
            rw [hA18] at ht
            refine AW.to rfl ?_ (fun _ hM => hM) ht
            exact fun _ hs => hs.sub ⟨rfl, rfl, rfl, rfl, rfl, rfl, rfl, rfl, rfl, rfl, trivial⟩
          · refine RW.alloc (z := .agg (cf 64 (iv zf))) (cf 64 (iv zf)) rfl rfl (fun _ => by kernel_rfl) rfl (fun b22 => ?_)
            refine RW.nil ?_
            have ht := hA18_11000000100 b22
            rw [hA18] at ht
            refine AW.to rfl ?_ (fun _ hM => hM) ht
            exact fun _ hs => hs.sub ⟨rfl, rfl, rfl, rfl, rfl, rfl, rfl, rfl, rfl, rfl, trivial⟩
        have hA18_10010000000 : A18 9 #[true, false, false, true, false, false, false, false, false, false, false] [(2, .pointer (some ⟨b1, 0, none⟩)), (3, .pointer (some ⟨b2, 0, none⟩)), (4, .pointer (some ⟨b3, 0, none⟩)), (6, .pointer (some ⟨b4, 0, none⟩)), (7, .int .i64 v11), (13, .int .i64 v11), (14, .bool true), (18, .int .i64 v11), (21, .agg (cf 64 (iv a1_steps)))] [.blk b4 34 (cf 256 (iv v12)), .blk b3 23 (cf 64 (iv zf)), .blk b2 23 (cf 64 (iv a1_steps)), .blk b1 34 (cf 256 (iv a0_four))] := by
          rw [hA18]
          refine AW.step 1 [8] (by kernel_rfl) ⟨⟨_, rfl, ?_⟩, ⟨_, rfl, ?_⟩, trivial⟩
          · refine RW.yi (.pointer (some ⟨b1, v11.toNat * 64, none⟩)) rfl rfl (Yi.indexAddr' _ Tryd.underlying34 Tryd.sizeOf23 rfl rfl g14.1 g14.2 (by omega)) ?_
            refine RW.nil ?_
            have ht := hA18_11010000000
            rw [hA18] at ht
            refine AW.to rfl ?_ (fun _ hM => hM) ht
            exact fun _ hs => hs.sub ⟨rfl, rfl, rfl, rfl, rfl, rfl, rfl, rfl, rfl, rfl, trivial⟩
          · refine RW.alloc (z := .agg (cf 64 (iv zf))) (cf 64 (iv zf)) rfl rfl (fun _ => by kernel_rfl) rfl (fun b23 => ?_)
            refine RW.nil ?_
            have ht := hA18_10010000100 b23
            rw [hA18] at ht
            refine AW.to rfl ?_ (fun _ hM => hM) ht
            exact fun _ hs => hs.sub ⟨rfl, rfl, rfl, rfl, rfl, rfl, rfl, rfl, rfl, rfl, trivial⟩
        have hA18_10000000100 : ∀ b20 : Nat, A18 9 #[true, false, false, false, false, false, false, false, true, false, false] [(2, .pointer (some ⟨b1, 0, none⟩)), (3, .pointer (some ⟨b2, 0, none⟩)), (4, .pointer (some ⟨b3, 0, none⟩)), (6, .pointer (some ⟨b4, 0, none⟩)), (7, .int .i64 v11), (8, .pointer (some ⟨b20, 0, none⟩)), (13, .int .i64 v11), (14, .bool true), (18, .int .i64 v11)] [.blk b20 23 (cf 64 (iv zf)), .blk b4 34 (cf 256 (iv v12)), .blk b3 23 (cf 64 (iv zf)), .blk b2 23 (cf 64 (iv a1_steps)), .blk b1 34 (cf 256 (iv a0_four))] := by
          intro b20
          rw [hA18]
          refine AW.step 1 [3] (by kernel_rfl) ⟨⟨_, rfl, ?_⟩, ⟨_, rfl, ?_⟩, trivial⟩
          · refine RW.yi (.pointer (some ⟨b1, v11.toNat * 64, none⟩)) rfl rfl (Yi.indexAddr' _ Tryd.underlying34 Tryd.sizeOf23 rfl rfl g14.1 g14.2 (by omega)) ?_
            refine RW.nil ?_
            have ht := hA18_11000000100 b20
            rw [hA18] at ht
            refine AW.to rfl ?_ (fun _ hM => hM) ht
            exact fun _ hs => hs.sub ⟨rfl, rfl, rfl, rfl, rfl, rfl, rfl, rfl, rfl, rfl, trivial⟩
          · refine RW.yi (.agg (cf 64 (iv a1_steps))) rfl rfl (Yi.loadW (i := 3) rfl rfl Tryd.isAgg23 Tryd.sizeOf23) ?_
            refine RW.nil ?_
            have ht := hA18_10010000100 b20
            rw [hA18] at ht
            refine AW.to rfl ?_ (fun _ hM => hM) ht
            exact fun _ hs => hs.sub ⟨rfl, rfl, rfl, rfl, rfl, rfl, rfl, rfl, rfl, rfl, trivial⟩
        have hA18_00010000100 : ∀ b21 : Nat, A18 9 #[false, false, false, true, false, false, false, false, true, false, false] [(2, .pointer (some ⟨b1, 0, none⟩)), (3, .pointer (some ⟨b2, 0, none⟩)), (4, .pointer (some ⟨b3, 0, none⟩)), (6, .pointer (some ⟨b4, 0, none⟩)), (7, .int .i64 v11), (8, .pointer (some ⟨b21, 0, none⟩)), (13, .int .i64 v11), (14, .bool true), (21, .agg (cf 64 (iv a1_steps)))] [.blk b21 23 (cf 64 (iv zf)), .blk b4 34 (cf 256 (iv v12)), .blk b3 23 (cf 64 (iv zf)), .blk b2 23 (cf 64 (iv a1_steps)), .blk b1 34 (cf 256 (iv a0_four))] := by
          intro b21
          rw [hA18]
          refine AW.step 0 [] (by kernel_rfl) ⟨⟨_, rfl, ?_⟩, trivial⟩
          · refine RW.yi (.int .i64 v11) rfl rfl (Yi.pv _ rfl) ?_
            refine RW.nil ?_
            have ht := hA18_10010000100 b21
            rw [hA18] at ht
            refine AW.to rfl ?_ (fun _ hM => hM) ht
            exact fun _ hs => hs.sub ⟨rfl, rfl, rfl, rfl, rfl, rfl, rfl, rfl, rfl, rfl, trivial⟩
        have hA18_10000000000 : A18 10 #[true, false, false, false, false, false, false, false, false, false, false] [(2, .pointer (some ⟨b1, 0, none⟩)), (3, .pointer (some ⟨b2, 0, none⟩)), (4, .pointer (some ⟨b3, 0, none⟩)), (6, .pointer (some ⟨b4, 0, none⟩)), (7, .int .i64 v11), (13, .int .i64 v11), (14, .bool true), (18, .int .i64 v11)] [.blk b4 34 (cf 256 (iv v12)), .blk b3 23 (cf 64 (iv zf)), .blk b2 23 (cf 64 (iv a1_steps)), .blk b1 34 (cf 256 (iv a0_four))] := by
          rw [hA18]
          refine AW.step 1 [3, 8] (by kernel_rfl) ⟨⟨_, rfl, ?_⟩, ⟨_, rfl, ?_⟩, ⟨_, rfl, ?_⟩, trivial⟩
          · refine RW.yi (.pointer (some ⟨b1, v11.toNat * 64, none⟩)) rfl rfl (Yi.indexAddr' _ Tryd.underlying34 Tryd.sizeOf23 rfl rfl g14.1 g14.2 (by omega)) ?_
            refine RW.nil ?_
            have ht := hA18_11000000000
            rw [hA18] at ht
            refine AW.to rfl ?_ (fun _ hM => hM) ht
            exact fun _ hs => hs.sub ⟨rfl, rfl, rfl, rfl, rfl, rfl, rfl, rfl, rfl, trivial⟩
          · refine RW.yi (.agg (cf 64 (iv a1_steps))) rfl rfl (Yi.loadW (i := 2) rfl rfl Tryd.isAgg23 Tryd.sizeOf23) ?_
            refine RW.nil ?_
            have ht := hA18_10010000000
            rw [hA18] at ht
            refine AW.to rfl ?_ (fun _ hM => hM) ht
            exact fun _ hs => hs.sub ⟨rfl, rfl, rfl, rfl, rfl, rfl, rfl, rfl, rfl, trivial⟩
          · refine RW.alloc (z := .agg (cf 64 (iv zf))) (cf 64 (iv zf)) rfl rfl (fun _ => by kernel_rfl) rfl (fun b20 => ?_)
            refine RW.nil ?_
            have ht := hA18_10000000100 b20
            rw [hA18] at ht
            refine AW.to rfl ?_ (fun _ hM => hM) ht
            exact fun _ hs => hs.sub ⟨rfl, rfl, rfl, rfl, rfl, rfl, rfl, rfl, rfl, trivial⟩
        have hA18_00010000000 : A18 10 #[false, false, false, true, false, false, false, false, false, false, false] [(2, .pointer (some ⟨b1, 0, none⟩)), (3, .pointer (some ⟨b2, 0, none⟩)), (4, .pointer (some ⟨b3, 0, none⟩)), (6, .pointer (some ⟨b4, 0, none⟩)), (7, .int .i64 v11), (13, .int .i64 v11), (14, .bool true), (21, .agg (cf 64 (iv a1_steps)))] [.blk b4 34 (cf 256 (iv v12)), .blk b3 23 (cf 64 (iv zf)), .blk b2 23 (cf 64 (iv a1_steps)), .blk b1 34 (cf 256 (iv a0_four))] := by
          rw [hA18]
          refine AW.step 0 [8] (by kernel_rfl) ⟨⟨_, rfl, ?_⟩, ⟨_, rfl, ?_⟩, trivial⟩
          · refine RW.yi (.int .i64 v11) rfl rfl (Yi.pv _ rfl) ?_
            refine RW.nil ?_
            have ht := hA18_10010000000
            rw [hA18] at ht
            refine AW.to rfl ?_ (fun _ hM => hM) ht
            exact fun _ hs => hs.sub ⟨rfl, rfl, rfl, rfl, rfl, rfl, rfl, rfl, rfl, trivial⟩
          · refine RW.alloc (z := .agg (cf 64 (iv zf))) (cf 64 (iv zf)) rfl rfl (fun _ => by kernel_rfl) rfl (fun b21 => ?_)
            refine RW.nil ?_
            have ht := hA18_00010000100 b21
            rw [hA18] at ht
            refine AW.to rfl ?_ (fun _ hM => hM) ht
            exact fun _ hs => hs.sub ⟨rfl, rfl, rfl, rfl, rfl, rfl, rfl, rfl, rfl, trivial⟩
        have hA18_00000000100 : ∀ b19 : Nat, A18 10 #[false, false, false, false, false, false, false, false, true, false, false] [(2, .pointer (some ⟨b1, 0, none⟩)), (3, .pointer (some ⟨b2, 0, none⟩)), (4, .pointer (some ⟨b3, 0, none⟩)), (6, .pointer (some ⟨b4, 0, none⟩)), (7, .int .i64 v11), (8, .pointer (some ⟨b19, 0, none⟩)), (13, .int .i64 v11), (14, .bool true)] [.blk b19 23 (cf 64 (iv zf)), .blk b4 34 (cf 256 (iv v12)), .blk b3 23 (cf 64 (iv zf)), .blk b2 23 (cf 64 (iv a1_steps)), .blk b1 34 (cf 256 (iv a0_four))] := by
          intro b19
          rw [hA18]
          refine AW.step 0 [3] (by kernel_rfl) ⟨⟨_, rfl, ?_⟩, ⟨_, rfl, ?_⟩, trivial⟩
          · refine RW.yi (.int .i64 v11) rfl rfl (Yi.pv _ rfl) ?_
            refine RW.nil ?_
            have ht := hA18_10000000100 b19
            rw [hA18] at ht
            refine AW.to rfl ?_ (fun _ hM => hM) ht
            exact fun _ hs => hs.sub ⟨rfl, rfl, rfl, rfl, rfl, rfl, rfl, rfl, rfl, trivial⟩
          · refine RW.yi (.agg (cf 64 (iv a1_steps))) rfl rfl (Yi.loadW (i := 3) rfl rfl Tryd.isAgg23 Tryd.sizeOf23) ?_
            refine RW.nil ?_
            have ht := hA18_00010000100 b19
            rw [hA18] at ht
            refine AW.to rfl ?_ (fun _ hM => hM) ht
            exact fun _ hs => hs.sub ⟨rfl, rfl, rfl, rfl, rfl, rfl, rfl, rfl, rfl, trivial⟩
        have hA18_00000000000 : A18 11 #[false, false, false, false, false, false, false, false, false, false, false] [(2, .pointer (some ⟨b1, 0, none⟩)), (3, .pointer (some ⟨b2, 0, none⟩)), (4, .pointer (some ⟨b3, 0, none⟩)), (6, .pointer (some ⟨b4, 0, none⟩)), (7, .int .i64 v11), (13, .int .i64 v11), (14, .bool true)] [.blk b4 34 (cf 256 (iv v12)), .blk b3 23 (cf 64 (iv zf)), .blk b2 23 (cf 64 (iv a1_steps)), .blk b1 34 (cf 256 (iv a0_four))] := by
          rw [hA18]
          refine AW.step 0 [3, 8] (by kernel_rfl) ⟨⟨_, rfl, ?_⟩, ⟨_, rfl, ?_⟩, ⟨_, rfl, ?_⟩, trivial⟩
          · refine RW.yi (.int .i64 v11) rfl rfl (Yi.pv _ rfl) ?_
            refine RW.nil ?_
            have ht := hA18_10000000000
            rw [hA18] at ht
            refine AW.to rfl ?_ (fun _ hM => hM) ht
            exact fun _ hs => hs.sub ⟨rfl, rfl, rfl, rfl, rfl, rfl, rfl, rfl, trivial⟩
          · refine RW.yi (.agg (cf 64 (iv a1_steps))) rfl rfl (Yi.loadW (i := 2) rfl rfl Tryd.isAgg23 Tryd.sizeOf23) ?_
            refine RW.nil ?_
            have ht := hA18_00010000000
            rw [hA18] at ht
            refine AW.to rfl ?_ (fun _ hM => hM) ht
            exact fun _ hs => hs.sub ⟨rfl, rfl, rfl, rfl, rfl, rfl, rfl, rfl, trivial⟩
          · refine RW.alloc (z := .agg (cf 64 (iv zf))) (cf 64 (iv zf)) rfl rfl (fun _ => by kernel_rfl) rfl (fun b19 => ?_)
            refine RW.nil ?_
            have ht := hA18_00000000100 b19
            rw [hA18] at ht
            refine AW.to rfl ?_ (fun _ hM => hM) ht
            exact fun _ hs => hs.sub ⟨rfl, rfl, rfl, rfl, rfl, rfl, rfl, rfl, trivial⟩
        rw [hA18] at hA18_00000000000 ⊢
        exact fun a w hs hM => hA18_00000000000 a w (hs.sub ⟨rfl, rfl, rfl, rfl, rfl, rfl, rfl, trivial⟩) hM
      · replace hm := (if_neg h13).symm.trans hm
        refine CW.cond_false rfl ?_
        refine CW.exit ?_
        refine EW.thx ?_
        refine EW.thx ?_
        refine EW.blx ?_
        refine EW.thn ?_
        exact fun a w hs hM => ⟨v12, hs.sub ⟨rfl, rfl, rfl, trivial⟩, hM.sub (.cons_cons _ (.cons_cons _ (.cons_cons _ (.cons _ .slnil)))), hm⟩
  · rintro a w ⟨v5, hs, hM, hm⟩
    unfold rTold_j1 at hm
    refine CW.enter hs hM ?_
    refine CW.seq ?_
    refine CW.region ?_
    refine RW.yi (.agg (cf 256 (iv v5))) rfl rfl (Yi.loadW (i := 0) rfl rfl Tryd.isAgg34 Tryd.sizeOf34) ?_
    obtain ⟨r6, hr6, hm⟩ := of_bind hm
    refine RW.ca (.tuple #[.agg (cf 64 (iv r6.1)), .int .i64 r6.2]) rfl rfl (Ca.call rfl rfl Tryd.call21 (fun w _ => c_rMerge K v5 r6 w hr6)) ?_
    refine RW.yi (.tuple #[.agg (cf 64 (iv r6.1)), .int .i64 r6.2]) rfl rfl (Yi.pv _ rfl) ?_
    refine RW.yi (.agg (cf 64 (iv r6.1))) rfl rfl (Yi.pv _ rfl) ?_
    refine RW.yi (.int .i64 r6.2) rfl rfl (Yi.pv _ rfl) ?_
    refine RW.alloc (z := .agg (cf 64 (iv zf))) (cf 64 (iv zf)) rfl rfl (fun _ => by kernel_rfl) rfl (fun b7 => ?_)
    refine RW.storeW (i := 0) (cs' := cf 64 (iv r6.1)) rfl rfl rfl rfl (by rw [cf_size]; kernel_rfl) (by simp only [cf_size]) (iv_one _ _) ?_
    refine RW.yi (.int .i64 r6.2) rfl rfl (Yi.pv _ rfl) ?_
    refine RW.nil ?_
    refine EW.next ?_
    refine CW.seq ?_
    refine CW.seq ?_
    refine CW.region ?_
    refine RW.yi (.int .i64 r6.2) rfl rfl (Yi.pv _ rfl) ?_
    refine RW.yi (.bool (decide (¬ r6.2 = 0))) rfl rfl (Yi.pv _ rfl) ?_
    refine RW.nil ?_
    refine EW.next ?_
    refine CW.fork 38 (¬ r6.2 = 0) rfl (fun h8 => ?_) (fun h8 => ?_)
    · replace hm := (if_pos h8).symm.trans hm
      refine CW.cond_true rfl ?_
      refine CW.seq ?_
      refine CW.region ?_
      refine RW.yi (.agg (cf 64 (iv zf))) rfl rfl (Yi.build (vs := []) _ rfl rfl (fun _ => by kernel_rfl)) ?_
      refine RW.yi (.int .i64 r6.2) rfl rfl (Yi.pv _ rfl) ?_
      refine RW.storeW (i := 2) (cs' := cf 64 (iv zf)) rfl rfl rfl rfl (by rw [cf_size]; kernel_rfl) (by simp only [cf_size]) (iv_one _ _) ?_
      refine RW.yi (.int .i64 r6.2) rfl rfl (Yi.pv _ rfl) ?_
      refine RW.nil ?_
      refine EW.next ?_
      refine CW.ret ?_
      refine EW.thr ?_
      obtain rfl := Option.some.inj hm
      exact EW.done (rs := [.cell 4 23, .tmp 5]) rfl (.cellW (i := 2) rfl rfl Tryd.isAgg23 Tryd.sizeOf23 (.tmp (t := 5) (v := .int .i64 r6.2) rfl .nil)) (fun _ hM => ⟨rfl, hM.below⟩)
    · replace hm := (if_neg h8).symm.trans hm
      refine CW.cond_false rfl ?_
      refine CW.skip ?_
      refine EW.next ?_
      refine CW.seq ?_
      refine CW.region ?_
      refine RW.yi (.agg (cf 64 (iv r6.1))) rfl rfl (Yi.loadW (i := 0) rfl rfl Tryd.isAgg23 Tryd.sizeOf23) ?_
      refine RW.yi (.agg (cf 64 (iv a1_steps))) rfl rfl (Yi.loadW (i := 3) rfl rfl Tryd.isAgg23 Tryd.sizeOf23) ?_
      obtain ⟨r9, hr9, hm⟩ := of_bind hm
      refine RW.ca (.tuple #[.agg (cf 64 (iv r9.1)), .int .i64 r9.2]) rfl rfl (Ca.call rfl rfl Tryd.call40 (fun w _ => c_rDown K r6.1 a1_steps r9 w hr9)) ?_
      refine RW.yi (.agg (cf 64 (iv r9.1))) rfl rfl (Yi.pv _ rfl) ?_
      refine RW.yi (.int .i64 r9.2) rfl rfl (Yi.pv _ rfl) ?_
      refine RW.storeW (i := 2) (cs' := cf 64 (iv r9.1)) rfl rfl rfl rfl (by rw [cf_size]; kernel_rfl) (by simp only [cf_size]) (iv_one _ _) ?_
      refine RW.yi (.int .i64 r9.2) rfl rfl (Yi.pv _ rfl) ?_
      refine RW.nil ?_
      refine EW.next ?_
      refine CW.ret ?_
      obtain rfl := Option.some.inj hm
      exact EW.done (rs := [.cell 4 23, .tmp 5]) rfl (.cellW (i := 2) rfl rfl Tryd.isAgg23 Tryd.sizeOf23 (.tmp (t := 5) (v := .int .i64 r9.2) rfl .nil)) (fun _ hM => ⟨rfl, hM.below⟩)
def lawHalfTold (K : Nat) (a0_four : (Nat → Int)) (a1_steps : (Nat → Int)) : Option (Bool) :=
  ((told K a0_four a1_steps).bind fun r3 => ((rTold K a0_four a1_steps).bind fun r5 => (if eqF 64 r3.1 r5.1 then (if r3.2 = r5.2 then ((awake10 K ).bind fun r9 => some r9) else some false) else some false)))

theorem c_lawHalfTold (K : Nat) (a0_four : (Nat → Int)) (a1_steps : (Nat → Int)) (r : Bool) (w0 : World) (hG : Gl GH w0) (hm : lawHalfTold K a0_four a1_steps = some r) : Calls Tryd.prog 13 #[.agg (cf 256 (iv a0_four)), .agg (cf 64 (iv a1_steps))] w0 fun e w' => e = .returned (.bool r) ∧ Below w0.heap.size w0 w' := by
  unfold lawHalfTold at hm
  refine calls_CW (n := 32) w0 [] [] Tryd.func13 rfl rfl rfl (Mem.begin w0) ?_
  refine CW.seq ?_
  refine CW.region ?_
  refine RW.box (v := .agg (cf 256 (iv a0_four))) rfl rfl rfl (fun b1 => ?_)
  refine RW.box (v := .agg (cf 64 (iv a1_steps))) rfl rfl rfl (fun b2 => ?_)
  refine RW.yi (.bool false) rfl rfl (Yi.pv _ rfl) ?_
  refine RW.nil ?_
  refine EW.next ?_
  refine CW.seq ?_
  refine CW.region ?_
  refine RW.yi (.agg (cf 256 (iv a0_four))) rfl rfl (Yi.loadW (i := 1) rfl rfl Tryd.isAgg34 Tryd.sizeOf34) ?_
  refine RW.yi (.agg (cf 64 (iv a1_steps))) rfl rfl (Yi.loadW (i := 0) rfl rfl Tryd.isAgg23 Tryd.sizeOf23) ?_
  obtain ⟨r3, hr3, hm⟩ := of_bind hm
  refine RW.ca (.tuple #[.agg (cf 64 (iv r3.1)), .int .i64 r3.2]) rfl rfl (Ca.call rfl rfl Tryd.call28 (fun w hM => c_told K a0_four a1_steps r3 w (hG.keep hM rfl) hr3)) ?_
  refine RW.yi (.tuple #[.agg (cf 64 (iv r3.1)), .int .i64 r3.2]) rfl rfl (Yi.pv _ rfl) ?_
  refine RW.yi (.agg (cf 64 (iv r3.1))) rfl rfl (Yi.pv _ rfl) ?_
  refine RW.yi (.int .i64 r3.2) rfl rfl (Yi.pv _ rfl) ?_
  refine RW.alloc (z := .agg (cf 64 (iv zf))) (cf 64 (iv zf)) rfl rfl (fun _ => by kernel_rfl) rfl (fun b4 => ?_)
  refine RW.storeW (i := 0) (cs' := cf 64 (iv r3.1)) rfl rfl rfl rfl (by rw [cf_size]; kernel_rfl) (by simp only [cf_size]) (iv_one _ _) ?_
  refine RW.yi (.int .i64 r3.2) rfl rfl (Yi.pv _ rfl) ?_
  refine RW.nil ?_
  refine EW.next ?_
  refine CW.seq ?_
  refine CW.region ?_
  refine RW.yi (.agg (cf 256 (iv a0_four))) rfl rfl (Yi.loadW (i := 2) rfl rfl Tryd.isAgg34 Tryd.sizeOf34) ?_
  refine RW.yi (.agg (cf 64 (iv a1_steps))) rfl rfl (Yi.loadW (i := 1) rfl rfl Tryd.isAgg23 Tryd.sizeOf23) ?_
  obtain ⟨r5, hr5, hm⟩ := of_bind hm
  refine RW.ca (.tuple #[.agg (cf 64 (iv r5.1)), .int .i64 r5.2]) rfl rfl (Ca.call rfl rfl Tryd.call29 (fun w _ => c_rTold K a0_four a1_steps r5 w hr5)) ?_
  refine RW.yi (.tuple #[.agg (cf 64 (iv r5.1)), .int .i64 r5.2]) rfl rfl (Yi.pv _ rfl) ?_
  refine RW.yi (.agg (cf 64 (iv r5.1))) rfl rfl (Yi.pv _ rfl) ?_
  refine RW.yi (.int .i64 r5.2) rfl rfl (Yi.pv _ rfl) ?_
  refine RW.alloc (z := .agg (cf 64 (iv zf))) (cf 64 (iv zf)) rfl rfl (fun _ => by kernel_rfl) rfl (fun b6 => ?_)
  refine RW.storeW (i := 0) (cs' := cf 64 (iv r5.1)) rfl rfl rfl rfl (by rw [cf_size]; kernel_rfl) (by simp only [cf_size]) (iv_one _ _) ?_
  refine RW.yi (.int .i64 r5.2) rfl rfl (Yi.pv _ rfl) ?_
  refine RW.nil ?_
  refine EW.next ?_
  refine CW.seq ?_
  refine CW.region ?_
  refine RW.yi (.agg (cf 64 (iv r3.1))) rfl rfl (Yi.loadW (i := 1) rfl rfl Tryd.isAgg23 Tryd.sizeOf23) ?_
  refine RW.yi (.agg (cf 64 (iv r5.1))) rfl rfl (Yi.loadW (i := 0) rfl rfl Tryd.isAgg23 Tryd.sizeOf23) ?_
  refine RW.yi (.bool (decide (eqF 64 r3.1 r5.1))) rfl rfl (Yi.eqA Tryd.underlying23 Tryd.eqGuardType23 Tryd.underlying3 Tryd.sizeOf3 Tryd.isAgg3 rfl rfl) ?_
  refine RW.yi (.bool (decide (eqF 64 r3.1 r5.1))) rfl rfl (Yi.pv _ rfl) ?_
  refine RW.fork 24 (eqF 64 r3.1 r5.1) rfl (fun h7 => ?_) (fun h7 => ?_)
  · replace hm := (if_pos h7).symm.trans hm
    refine RW.yi (.int .i64 r3.2) rfl rfl (Yi.pv _ rfl) ?_
    refine RW.yi (.int .i64 r5.2) rfl rfl (Yi.pv _ rfl) ?_
    refine RW.yi (.bool (decide (r3.2 = r5.2))) rfl rfl (Yi.pv _ rfl) ?_
    refine RW.yi (.bool (decide (r3.2 = r5.2))) rfl rfl (Yi.pv _ rfl) ?_
    refine RW.yi (.bool (decide (r3.2 = r5.2))) rfl rfl (Yi.pv _ rfl) ?_
    refine RW.fork 29 (r3.2 = r5.2) rfl (fun h8 => ?_) (fun h8 => ?_)
    · replace hm := (if_pos h8).symm.trans hm
      obtain ⟨r9, hr9, hm⟩ := of_bind hm
      refine RW.ca (.bool r9) rfl rfl (Ca.call rfl rfl Tryd.call24 (fun w hM => c_awake10 K  r9 w (hG.keep hM rfl) hr9)) ?_
      refine RW.yi (.bool r9) rfl rfl (Yi.pv _ rfl) ?_
      refine RW.yi (.bool r9) rfl rfl (Yi.pv _ rfl) ?_
      refine RW.nil ?_
      refine EW.next ?_
      refine CW.ret ?_
      obtain rfl := Option.some.inj hm
      exact EW.done (rs := [.tmp 4]) rfl (.tmp (t := 4) (v := .bool r9) rfl .nil) (fun _ hM => ⟨rfl, hM.below⟩)
    · replace hm := (if_neg h8).symm.trans hm
      refine RW.pass rfl rfl ?_
      refine RW.yi (.bool false) rfl rfl (Yi.pv _ rfl) ?_
      refine RW.yi (.bool false) rfl rfl (Yi.pv _ rfl) ?_
      refine RW.nil ?_
      refine EW.next ?_
      refine CW.ret ?_
      obtain rfl := Option.some.inj hm
      exact EW.done (rs := [.tmp 4]) rfl (.tmp (t := 4) (v := .bool false) rfl .nil) (fun _ hM => ⟨rfl, hM.below⟩)
  · replace hm := (if_neg h7).symm.trans hm
    refine RW.pass rfl rfl ?_
    refine RW.pass rfl rfl ?_
    refine RW.pass rfl rfl ?_
    refine RW.yi (.bool false) rfl rfl (Yi.pv _ rfl) ?_
    refine RW.yi (.bool false) rfl rfl (Yi.pv _ rfl) ?_
    refine RW.pass rfl rfl ?_
    refine RW.yi (.bool false) rfl rfl (Yi.pv _ rfl) ?_
    refine RW.yi (.bool false) rfl rfl (Yi.pv _ rfl) ?_
    refine RW.nil ?_
    refine EW.next ?_
    refine CW.ret ?_
    obtain rfl := Option.some.inj hm
    exact EW.done (rs := [.tmp 4]) rfl (.tmp (t := 4) (v := .bool false) rfl .nil) (fun _ hM => ⟨rfl, hM.below⟩)
def lawHalfFlat (K : Nat) (a0_n : Int) (a1_steps : (Nat → Int)) : Option (Bool) :=
  (if a0_n < (-1023) then ((awake10 K ).bind fun r3 => some r3) else (if 1023 < a0_n then ((awake10 K ).bind fun r5 => some r5) else ((rIn K a1_steps 1 255).bind fun r6 => (if r6 = true then ((told K (wrt (wrt (wrt (wrt zf 0 64 (upd zf 0 a0_n)) 64 64 (upd zf 0 a0_n)) 128 64 (upd zf 0 a0_n)) 192 64 (upd zf 0 a0_n)) a1_steps).bind fun r9 => (if (r9.1 0) = a0_n then (if r9.2 = 0 then ((awake10 K ).bind fun r13 => some r13) else some false) else some false)) else ((awake10 K ).bind fun r14 => some r14)))))

theorem c_lawHalfFlat (K : Nat) (a0_n : Int) (a1_steps : (Nat → Int)) (r : Bool) (w0 : World) (hG : Gl GH w0) (hm : lawHalfFlat K a0_n a1_steps = some r) : Calls Tryd.prog 14 #[.int .i64 a0_n, .agg (cf 64 (iv a1_steps))] w0 fun e w' => e = .returned (.bool r) ∧ Below w0.heap.size w0 w' := by
  unfold lawHalfFlat at hm
  refine calls_CW (n := 43) w0 [] [] Tryd.func14 rfl rfl rfl (Mem.begin w0) ?_
  refine CW.seq ?_
  refine CW.region ?_
  refine RW.box (v := .agg (cf 64 (iv a1_steps))) rfl rfl rfl (fun b1 => ?_)
  refine RW.yi (.bool false) rfl rfl (Yi.pv _ rfl) ?_
  refine RW.nil ?_
  refine EW.next ?_
  refine CW.seq ?_
  refine CW.seq ?_
  refine CW.region ?_
  refine RW.yi (.int .i64 a0_n) rfl rfl (Yi.pv _ rfl) ?_
  refine RW.yi (.bool (decide (a0_n < (-1023)))) rfl rfl (Yi.pv _ rfl) ?_
  refine RW.yi (.bool (decide (a0_n < (-1023)))) rfl rfl (Yi.pv _ rfl) ?_
  refine RW.fork 10 (a0_n < (-1023)) rfl (fun h2 => ?_) (fun h2 => ?_)
  · replace hm := (if_pos h2).symm.trans hm
    refine RW.pass rfl rfl ?_
    refine RW.pass rfl rfl ?_
    refine RW.yi (.bool true) rfl rfl (Yi.pv _ rfl) ?_
    refine RW.yi (.bool true) rfl rfl (Yi.pv _ rfl) ?_
    refine RW.pass rfl rfl ?_
    refine RW.pass rfl rfl ?_
    refine RW.pass rfl rfl ?_
    refine RW.yi (.bool true) rfl rfl (Yi.pv _ rfl) ?_
    refine RW.nil ?_
    refine EW.next ?_
    refine CW.cond_true rfl ?_
    refine CW.seq ?_
    refine CW.region ?_
    obtain ⟨r3, hr3, hm⟩ := of_bind hm
    refine RW.ca (.bool r3) rfl rfl (Ca.call rfl rfl Tryd.call24 (fun w hM => c_awake10 K  r3 w (hG.keep hM rfl) hr3)) ?_
    refine RW.yi (.bool r3) rfl rfl (Yi.pv _ rfl) ?_
    refine RW.nil ?_
    refine EW.next ?_
    refine CW.ret ?_
    refine EW.thr ?_
    obtain rfl := Option.some.inj hm
    exact EW.done (rs := [.tmp 4]) rfl (.tmp (t := 4) (v := .bool r3) rfl .nil) (fun _ hM => ⟨rfl, hM.below⟩)
  · replace hm := (if_neg h2).symm.trans hm
    refine RW.yi (.int .i64 a0_n) rfl rfl (Yi.pv _ rfl) ?_
    refine RW.yi (.bool (decide (1023 < a0_n))) rfl rfl (Yi.pv _ rfl) ?_
    refine RW.yi (.bool (decide (1023 < a0_n))) rfl rfl (Yi.pv _ rfl) ?_
    refine RW.yi (.bool (decide (1023 < a0_n))) rfl rfl (Yi.pv _ rfl) ?_
    refine RW.fork 14 (1023 < a0_n) rfl (fun h4 => ?_) (fun h4 => ?_)
    · replace hm := (if_pos h4).symm.trans hm
      refine RW.pass rfl rfl ?_
      refine RW.pass rfl rfl ?_
      refine RW.pass rfl rfl ?_
      refine RW.yi (.bool true) rfl rfl (Yi.pv _ rfl) ?_
      refine RW.nil ?_
      refine EW.next ?_
      refine CW.cond_true rfl ?_
      refine CW.seq ?_
      refine CW.region ?_
      obtain ⟨r5, hr5, hm⟩ := of_bind hm
      refine RW.ca (.bool r5) rfl rfl (Ca.call rfl rfl Tryd.call24 (fun w hM => c_awake10 K  r5 w (hG.keep hM rfl) hr5)) ?_
      refine RW.yi (.bool r5) rfl rfl (Yi.pv _ rfl) ?_
      refine RW.nil ?_
      refine EW.next ?_
      refine CW.ret ?_
      refine EW.thr ?_
      obtain rfl := Option.some.inj hm
      exact EW.done (rs := [.tmp 4]) rfl (.tmp (t := 4) (v := .bool r5) rfl .nil) (fun _ hM => ⟨rfl, hM.below⟩)
    · replace hm := (if_neg h4).symm.trans hm
      refine RW.yi (.agg (cf 64 (iv a1_steps))) rfl rfl (Yi.loadW (i := 0) rfl rfl Tryd.isAgg23 Tryd.sizeOf23) ?_
      obtain ⟨r6, hr6, hm⟩ := of_bind hm
      refine RW.ca (.bool r6) rfl rfl (Ca.call rfl rfl Tryd.call25 (fun w _ => c_rIn K a1_steps 1 255 r6 w hr6)) ?_
      refine RW.forkB 16 (r6) rfl (fun h7 => ?_) (fun h7 => ?_)
      · replace hm := (if_pos h7).symm.trans hm
        refine RW.yi (.bool false) rfl rfl (Yi.pv _ rfl) ?_
        refine RW.yi (.bool false) rfl rfl (Yi.pv _ rfl) ?_
        refine RW.nil ?_
        refine EW.next ?_
        refine CW.cond_false rfl ?_
        refine CW.skip ?_
        refine EW.next ?_
        refine CW.seq ?_
        refine CW.region ?_
        refine RW.yi (.int .i64 a0_n) rfl rfl (Yi.pv _ rfl) ?_
        refine RW.yi (.agg (cf 64 (iv (upd zf 0 a0_n)))) rfl rfl (Yi.build (vs := [.int .i64 a0_n]) _ rfl rfl (fun _ => by kernel_rfl)) ?_
        refine RW.alloc (z := .agg (cf 64 (iv zf))) (cf 64 (iv zf)) rfl rfl (fun _ => by kernel_rfl) rfl (fun b8 => ?_)
        refine RW.storeW (i := 0) (cs' := cf 64 (iv (upd zf 0 a0_n))) rfl rfl rfl rfl (by rw [cf_size]; kernel_rfl) (by simp only [cf_size]) (iv_one _ _) ?_
        refine RW.nil ?_
        refine EW.next ?_
        refine CW.seq ?_
        refine CW.region ?_
        refine RW.yi (.agg (cf 64 (iv (upd zf 0 a0_n)))) rfl rfl (Yi.loadW (i := 0) rfl rfl Tryd.isAgg23 Tryd.sizeOf23) ?_
        refine RW.yi (.agg (cf 64 (iv (upd zf 0 a0_n)))) rfl rfl (Yi.loadW (i := 0) rfl rfl Tryd.isAgg23 Tryd.sizeOf23) ?_
        refine RW.yi (.agg (cf 64 (iv (upd zf 0 a0_n)))) rfl rfl (Yi.loadW (i := 0) rfl rfl Tryd.isAgg23 Tryd.sizeOf23) ?_
        refine RW.yi (.agg (cf 64 (iv (upd zf 0 a0_n)))) rfl rfl (Yi.loadW (i := 0) rfl rfl Tryd.isAgg23 Tryd.sizeOf23) ?_
        refine RW.yi (.agg (cf 256 (iv (wrt (wrt (wrt (wrt zf 0 64 (upd zf 0 a0_n)) 64 64 (upd zf 0 a0_n)) 128 64 (upd zf 0 a0_n)) 192 64 (upd zf 0 a0_n))))) rfl rfl (Yi.build (vs := [.agg (cf 64 (iv (upd zf 0 a0_n))), .agg (cf 64 (iv (upd zf 0 a0_n))), .agg (cf 64 (iv (upd zf 0 a0_n))), .agg (cf 64 (iv (upd zf 0 a0_n)))]) _ rfl rfl (fun _ => by kernel_rfl)) ?_
        refine RW.yi (.agg (cf 64 (iv a1_steps))) rfl rfl (Yi.loadW (i := 1) rfl rfl Tryd.isAgg23 Tryd.sizeOf23) ?_
        obtain ⟨r9, hr9, hm⟩ := of_bind hm
        refine RW.ca (.tuple #[.agg (cf 64 (iv r9.1)), .int .i64 r9.2]) rfl rfl (Ca.call rfl rfl Tryd.call28 (fun w hM => c_told K (wrt (wrt (wrt (wrt zf 0 64 (upd zf 0 a0_n)) 64 64 (upd zf 0 a0_n)) 128 64 (upd zf 0 a0_n)) 192 64 (upd zf 0 a0_n)) a1_steps r9 w (hG.keep hM rfl) hr9)) ?_
        refine RW.yi (.tuple #[.agg (cf 64 (iv r9.1)), .int .i64 r9.2]) rfl rfl (Yi.pv _ rfl) ?_
        refine RW.yi (.agg (cf 64 (iv r9.1))) rfl rfl (Yi.pv _ rfl) ?_
        refine RW.yi (.int .i64 r9.2) rfl rfl (Yi.pv _ rfl) ?_
        refine RW.alloc (z := .agg (cf 64 (iv zf))) (cf 64 (iv zf)) rfl rfl (fun _ => by kernel_rfl) rfl (fun b10 => ?_)
        refine RW.storeW (i := 0) (cs' := cf 64 (iv r9.1)) rfl rfl rfl rfl (by rw [cf_size]; kernel_rfl) (by simp only [cf_size]) (iv_one _ _) ?_
        refine RW.yi (.int .i64 r9.2) rfl rfl (Yi.pv _ rfl) ?_
        refine RW.nil ?_
        refine EW.next ?_
        refine CW.seq ?_
        refine CW.region ?_
        refine RW.yi (.pointer (some ⟨b10, 0, none⟩)) rfl rfl (Yi.indexAddr' _ Tryd.underlying23 Tryd.sizeOf3 rfl rfl (by decide) (by decide) (by omega)) ?_
        refine RW.yi (.int .i64 (r9.1 0)) rfl rfl (Yi.load1 (i := 0) _ rfl rfl Tryd.isAgg3 (cf_get (by omega))) ?_
        refine RW.yi (.int .i64 a0_n) rfl rfl (Yi.pv _ rfl) ?_
        refine RW.yi (.bool (decide ((r9.1 0) = a0_n))) rfl rfl (Yi.pv _ rfl) ?_
        refine RW.yi (.bool (decide ((r9.1 0) = a0_n))) rfl rfl (Yi.pv _ rfl) ?_
        refine RW.fork 36 ((r9.1 0) = a0_n) rfl (fun h11 => ?_) (fun h11 => ?_)
        · replace hm := (if_pos h11).symm.trans hm
          refine RW.yi (.int .i64 r9.2) rfl rfl (Yi.pv _ rfl) ?_
          refine RW.yi (.bool (decide (r9.2 = 0))) rfl rfl (Yi.pv _ rfl) ?_
          refine RW.yi (.bool (decide (r9.2 = 0))) rfl rfl (Yi.pv _ rfl) ?_
          refine RW.yi (.bool (decide (r9.2 = 0))) rfl rfl (Yi.pv _ rfl) ?_
          refine RW.fork 40 (r9.2 = 0) rfl (fun h12 => ?_) (fun h12 => ?_)
          · replace hm := (if_pos h12).symm.trans hm
            obtain ⟨r13, hr13, hm⟩ := of_bind hm
            refine RW.ca (.bool r13) rfl rfl (Ca.call rfl rfl Tryd.call24 (fun w hM => c_awake10 K  r13 w (hG.keep hM rfl) hr13)) ?_
            refine RW.yi (.bool r13) rfl rfl (Yi.pv _ rfl) ?_
            refine RW.yi (.bool r13) rfl rfl (Yi.pv _ rfl) ?_
            refine RW.nil ?_
            refine EW.next ?_
            refine CW.ret ?_
            obtain rfl := Option.some.inj hm
            exact EW.done (rs := [.tmp 4]) rfl (.tmp (t := 4) (v := .bool r13) rfl .nil) (fun _ hM => ⟨rfl, hM.below⟩)
          · replace hm := (if_neg h12).symm.trans hm
            refine RW.pass rfl rfl ?_
            refine RW.yi (.bool false) rfl rfl (Yi.pv _ rfl) ?_
            refine RW.yi (.bool false) rfl rfl (Yi.pv _ rfl) ?_
            refine RW.nil ?_
            refine EW.next ?_
            refine CW.ret ?_
            obtain rfl := Option.some.inj hm
            exact EW.done (rs := [.tmp 4]) rfl (.tmp (t := 4) (v := .bool false) rfl .nil) (fun _ hM => ⟨rfl, hM.below⟩)
        · replace hm := (if_neg h11).symm.trans hm
          refine RW.pass rfl rfl ?_
          refine RW.pass rfl rfl ?_
          refine RW.yi (.bool false) rfl rfl (Yi.pv _ rfl) ?_
          refine RW.yi (.bool false) rfl rfl (Yi.pv _ rfl) ?_
          refine RW.pass rfl rfl ?_
          refine RW.yi (.bool false) rfl rfl (Yi.pv _ rfl) ?_
          refine RW.yi (.bool false) rfl rfl (Yi.pv _ rfl) ?_
          refine RW.nil ?_
          refine EW.next ?_
          refine CW.ret ?_
          obtain rfl := Option.some.inj hm
          exact EW.done (rs := [.tmp 4]) rfl (.tmp (t := 4) (v := .bool false) rfl .nil) (fun _ hM => ⟨rfl, hM.below⟩)
      · replace hm := (if_neg h7).symm.trans hm
        refine RW.yi (.bool true) rfl rfl (Yi.pv _ rfl) ?_
        refine RW.yi (.bool true) rfl rfl (Yi.pv _ rfl) ?_
        refine RW.nil ?_
        refine EW.next ?_
        refine CW.cond_true rfl ?_
        refine CW.seq ?_
        refine CW.region ?_
        obtain ⟨r14, hr14, hm⟩ := of_bind hm
        refine RW.ca (.bool r14) rfl rfl (Ca.call rfl rfl Tryd.call24 (fun w hM => c_awake10 K  r14 w (hG.keep hM rfl) hr14)) ?_
        refine RW.yi (.bool r14) rfl rfl (Yi.pv _ rfl) ?_
        refine RW.nil ?_
        refine EW.next ?_
        refine CW.ret ?_
        refine EW.thr ?_
        obtain rfl := Option.some.inj hm
        exact EW.done (rs := [.tmp 4]) rfl (.tmp (t := 4) (v := .bool r14) rfl .nil) (fun _ hM => ⟨rfl, hM.below⟩)
end Go.Proofs.YtfpafpmcfkapkaaDoor