import Derived.Test.YtfpafpmcfkapkaaDoorTB
import Derived.Test.YtfpafpmcfkapkaaDoorK5
set_option maxRecDepth 100000
namespace Go.Proofs.YtfpafpmcfkapkaaDoor
open Go Go.RowKit K
def fwd (K : Nat) (a0_b : (Nat → Int)) : Option ((Nat → Int) × Int) :=
  ((dWithin K a0_b (-2048) 2047).bind fun r3 => (if r3 = true then ((both K wavesF a0_b).bind fun r5 => some (r5, 0)) else some (zf, 2)))

theorem c_fwd (K : Nat) (a0_b : (Nat → Int)) (r : (Nat → Int) × Int) (w0 : World) (hG : Gl GG w0) (hm : fwd K a0_b = some r) : Calls Tryd.prog 15 #[.agg (cf 64 (iv a0_b))] w0 fun e w' => e = .returned (.tuple #[.agg (cf 64 (iv r.1)), .int .i64 r.2]) ∧ Below w0.heap.size w0 w' := by
  unfold fwd at hm
  refine calls_CW (n := 11) w0 [] [] Tryd.func15 rfl rfl rfl (Mem.begin w0) ?_
  refine CW.seq ?_
  refine CW.region ?_
  refine RW.box (v := .agg (cf 64 (iv a0_b))) rfl rfl rfl (fun b1 => ?_)
  refine RW.alloc (z := .agg (cf 64 (iv zf))) (cf 64 (iv zf)) rfl rfl (fun _ => by kernel_rfl) rfl (fun b2 => ?_)
  refine RW.yi (.int .i64 0) rfl rfl (Yi.pv _ rfl) ?_
  refine RW.nil ?_
  refine EW.next ?_
  refine CW.seq ?_
  refine CW.seq ?_
  refine CW.region ?_
  refine RW.yi (.agg (cf 64 (iv a0_b))) rfl rfl (Yi.loadW (i := 1) rfl rfl Tryd.isAgg23 Tryd.sizeOf23) ?_
  obtain ⟨r3, hr3, hm⟩ := of_bind hm
  refine RW.ca (.bool r3) rfl rfl (Ca.call rfl rfl Tryd.call30 (fun w _ => c_dWithin K a0_b (-2048) 2047 r3 w hr3)) ?_
  refine RW.forkB 5 (r3) rfl (fun h4 => ?_) (fun h4 => ?_)
  · replace hm := (if_pos h4).symm.trans hm
    refine RW.yi (.bool false) rfl rfl (Yi.pv _ rfl) ?_
    refine RW.nil ?_
    refine EW.next ?_
    refine CW.cond_false rfl ?_
    refine CW.skip ?_
    refine EW.next ?_
    refine CW.seq ?_
    refine CW.region ?_
    refine RW.yi (.agg (cf 64 (iv wavesF))) rfl rfl (Yi.loadG (i := 0) hG rfl rfl rfl Tryd.isAgg46 Tryd.sizeOf46) ?_
    refine RW.yi (.agg (cf 64 (iv a0_b))) rfl rfl (Yi.loadW (i := 1) rfl rfl Tryd.isAgg23 Tryd.sizeOf23) ?_
    obtain ⟨r5, hr5, hm⟩ := of_bind hm
    refine RW.ca (.agg (cf 64 (iv r5))) rfl rfl (Ca.call rfl rfl Tryd.call31 (fun w _ => c_both K wavesF a0_b r5 w hr5)) ?_
    refine RW.storeW (i := 0) (cs' := cf 64 (iv r5)) rfl rfl rfl rfl (by rw [cf_size]; kernel_rfl) (by simp only [cf_size]) (iv_one _ _) ?_
    refine RW.yi (.int .i64 0) rfl rfl (Yi.pv _ rfl) ?_
    refine RW.nil ?_
    refine EW.next ?_
    refine CW.ret ?_
    obtain rfl := Option.some.inj hm
    exact EW.done (rs := [.cell 2 23, .tmp 3]) rfl (.cellW (i := 0) rfl rfl Tryd.isAgg23 Tryd.sizeOf23 (.tmp (t := 3) (v := .int .i64 0) rfl .nil)) (fun _ hM => ⟨rfl, hM.below⟩)
  · replace hm := (if_neg h4).symm.trans hm
    refine RW.yi (.bool true) rfl rfl (Yi.pv _ rfl) ?_
    refine RW.nil ?_
    refine EW.next ?_
    refine CW.cond_true rfl ?_
    refine CW.seq ?_
    refine CW.region ?_
    refine RW.yi (.agg (cf 64 (iv zf))) rfl rfl (Yi.build (vs := []) _ rfl rfl (fun _ => by kernel_rfl)) ?_
    refine RW.storeW (i := 0) (cs' := cf 64 (iv zf)) rfl rfl rfl rfl (by rw [cf_size]; kernel_rfl) (by simp only [cf_size]) (iv_one _ _) ?_
    refine RW.yi (.int .i64 2) rfl rfl (Yi.pv _ rfl) ?_
    refine RW.nil ?_
    refine EW.next ?_
    refine CW.ret ?_
    refine EW.thr ?_
    obtain rfl := Option.some.inj hm
    exact EW.done (rs := [.cell 2 23, .tmp 3]) rfl (.cellW (i := 0) rfl rfl Tryd.isAgg23 Tryd.sizeOf23 (.tmp (t := 3) (v := .int .i64 2) rfl .nil)) (fun _ hM => ⟨rfl, hM.below⟩)
def invd (K : Nat) (a0_b : (Nat → Int)) : Option ((Nat → Int) × Int) :=
  ((dWithin K a0_b (-1048576) 1048576).bind fun r3 => (if r3 = true then ((turned K wavesF).bind fun r5 => ((both K r5 a0_b).bind fun r6 => some (r6, 0))) else some (zf, 2)))

theorem c_invd (K : Nat) (a0_b : (Nat → Int)) (r : (Nat → Int) × Int) (w0 : World) (hG : Gl GG w0) (hm : invd K a0_b = some r) : Calls Tryd.prog 26 #[.agg (cf 64 (iv a0_b))] w0 fun e w' => e = .returned (.tuple #[.agg (cf 64 (iv r.1)), .int .i64 r.2]) ∧ Below w0.heap.size w0 w' := by
  unfold invd at hm
  refine calls_CW (n := 12) w0 [] [] Tryd.func26 rfl rfl rfl (Mem.begin w0) ?_
  refine CW.seq ?_
  refine CW.region ?_
  refine RW.box (v := .agg (cf 64 (iv a0_b))) rfl rfl rfl (fun b1 => ?_)
  refine RW.alloc (z := .agg (cf 64 (iv zf))) (cf 64 (iv zf)) rfl rfl (fun _ => by kernel_rfl) rfl (fun b2 => ?_)
  refine RW.yi (.int .i64 0) rfl rfl (Yi.pv _ rfl) ?_
  refine RW.nil ?_
  refine EW.next ?_
  refine CW.seq ?_
  refine CW.seq ?_
  refine CW.region ?_
  refine RW.yi (.agg (cf 64 (iv a0_b))) rfl rfl (Yi.loadW (i := 1) rfl rfl Tryd.isAgg23 Tryd.sizeOf23) ?_
  obtain ⟨r3, hr3, hm⟩ := of_bind hm
  refine RW.ca (.bool r3) rfl rfl (Ca.call rfl rfl Tryd.call30 (fun w _ => c_dWithin K a0_b (-1048576) 1048576 r3 w hr3)) ?_
  refine RW.forkB 5 (r3) rfl (fun h4 => ?_) (fun h4 => ?_)
  · replace hm := (if_pos h4).symm.trans hm
    refine RW.yi (.bool false) rfl rfl (Yi.pv _ rfl) ?_
    refine RW.nil ?_
    refine EW.next ?_
    refine CW.cond_false rfl ?_
    refine CW.skip ?_
    refine EW.next ?_
    refine CW.seq ?_
    refine CW.tailC 4 (by kernel_rfl) (by kernel_rfl) ?_
    refine TW.yi (.agg (cf 64 (iv wavesF))) rfl rfl (Yi.loadG (i := 0) hG rfl rfl rfl Tryd.isAgg46 Tryd.sizeOf46) ?_
    obtain ⟨r5, hr5, hm⟩ := of_bind hm
    refine TW.ca (.agg (cf 64 (iv r5))) rfl rfl (Ca.call rfl rfl Tryd.call36 (fun w _ => c_turned K wavesF r5 w hr5)) ?_
    refine TW.yi (.agg (cf 64 (iv a0_b))) rfl rfl (Yi.loadW (i := 1) rfl rfl Tryd.isAgg23 Tryd.sizeOf23) ?_
    obtain ⟨r6, hr6, hm⟩ := of_bind hm
    refine TW.ca (.agg (cf 64 (iv r6))) rfl rfl (Ca.call rfl rfl Tryd.call31 (fun w _ => c_both K r5 a0_b r6 w hr6)) ?_
    refine TW.nil ?_
    refine RW.storeW (i := 0) (cs' := cf 64 (iv r6)) rfl rfl rfl rfl (by rw [cf_size]; kernel_rfl) (by simp only [cf_size]) (iv_one _ _) ?_
    refine RW.yi (.int .i64 0) rfl rfl (Yi.pv _ rfl) ?_
    refine RW.nil ?_
    refine EW.next ?_
    refine CW.ret ?_
    obtain rfl := Option.some.inj hm
    exact EW.done (rs := [.cell 2 23, .tmp 3]) rfl (.cellW (i := 0) rfl rfl Tryd.isAgg23 Tryd.sizeOf23 (.tmp (t := 3) (v := .int .i64 0) rfl .nil)) (fun _ hM => ⟨rfl, hM.below⟩)
  · replace hm := (if_neg h4).symm.trans hm
    refine RW.yi (.bool true) rfl rfl (Yi.pv _ rfl) ?_
    refine RW.nil ?_
    refine EW.next ?_
    refine CW.cond_true rfl ?_
    refine CW.seq ?_
    refine CW.region ?_
    refine RW.yi (.agg (cf 64 (iv zf))) rfl rfl (Yi.build (vs := []) _ rfl rfl (fun _ => by kernel_rfl)) ?_
    refine RW.storeW (i := 0) (cs' := cf 64 (iv zf)) rfl rfl rfl rfl (by rw [cf_size]; kernel_rfl) (by simp only [cf_size]) (iv_one _ _) ?_
    refine RW.yi (.int .i64 2) rfl rfl (Yi.pv _ rfl) ?_
    refine RW.nil ?_
    refine EW.next ?_
    refine CW.ret ?_
    refine EW.thr ?_
    obtain rfl := Option.some.inj hm
    exact EW.done (rs := [.cell 2 23, .tmp 3]) rfl (.cellW (i := 0) rfl rfl Tryd.isAgg23 Tryd.sizeOf23 (.tmp (t := 3) (v := .int .i64 2) rfl .nil)) (fun _ hM => ⟨rfl, hM.below⟩)
end Go.Proofs.YtfpafpmcfkapkaaDoor