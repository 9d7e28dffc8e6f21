import Derived.Test.YtfpafpmcfkapkaaDoorH1
import Derived.Test.YtfpafpmcfkapkaaDoorH2
import Derived.Test.YtfpafpmcfkapkaaDoorK5
set_option maxRecDepth 100000
namespace Go.Proofs.YtfpafpmcfkapkaaDoor
open Go Go.RowKit K
def awake10 (K : Nat)  : Option (Bool) :=
  ((merge K (wrt (wrt (wrt (wrt zf 0 64 (upd zf 0 800)) 64 64 (upd zf 0 800)) 128 64 (upd zf 0 800)) 192 64 (upd zf 0 800))).bind fun r2 => (if eqF 64 r2.1 (upd zf 0 800) then (if r2.2 = 0 then ((part K 1 1 0).bind fun r6 => some (decide (r6 = (-2624)))) else some false) else some false))

theorem c_awake10 (K : Nat)  (r : Bool) (w0 : World) (hG : Gl GH w0) (hm : awake10 K  = some r) : Calls Tryd.prog 24 #[] w0 fun e w' => e = .returned (.bool r) ∧ Below w0.heap.size w0 w' := by
  unfold awake10 at hm
  refine calls_CW (n := 25) w0 [] [] Tryd.func24 rfl rfl rfl (Mem.begin w0) ?_
  refine CW.seq ?_
  refine CW.region ?_
  refine RW.yi (.bool false) rfl rfl (Yi.pv _ rfl) ?_
  refine RW.nil ?_
  refine EW.next ?_
  refine CW.seq ?_
  refine CW.region ?_
  refine RW.yi (.agg (cf 64 (iv (upd zf 0 800)))) rfl rfl (Yi.build (vs := [.int .i64 800]) _ rfl rfl (fun _ => by kernel_rfl)) ?_
  refine RW.alloc (z := .agg (cf 64 (iv zf))) (cf 64 (iv zf)) rfl rfl (fun _ => by kernel_rfl) rfl (fun b1 => ?_)
  refine RW.storeW (i := 0) (cs' := cf 64 (iv (upd zf 0 800))) rfl rfl rfl rfl (by rw [cf_size]; kernel_rfl) (by simp only [cf_size]) (iv_one _ _) ?_
  refine RW.nil ?_
  refine EW.next ?_
  refine CW.seq ?_
  refine CW.region ?_
  refine RW.yi (.agg (cf 64 (iv (upd zf 0 800)))) rfl rfl (Yi.loadW (i := 0) rfl rfl Tryd.isAgg23 Tryd.sizeOf23) ?_
  refine RW.yi (.agg (cf 64 (iv (upd zf 0 800)))) rfl rfl (Yi.loadW (i := 0) rfl rfl Tryd.isAgg23 Tryd.sizeOf23) ?_
  refine RW.yi (.agg (cf 64 (iv (upd zf 0 800)))) rfl rfl (Yi.loadW (i := 0) rfl rfl Tryd.isAgg23 Tryd.sizeOf23) ?_
  refine RW.yi (.agg (cf 64 (iv (upd zf 0 800)))) rfl rfl (Yi.loadW (i := 0) rfl rfl Tryd.isAgg23 Tryd.sizeOf23) ?_
  refine RW.yi (.agg (cf 256 (iv (wrt (wrt (wrt (wrt zf 0 64 (upd zf 0 800)) 64 64 (upd zf 0 800)) 128 64 (upd zf 0 800)) 192 64 (upd zf 0 800))))) rfl rfl (Yi.build (vs := [.agg (cf 64 (iv (upd zf 0 800))), .agg (cf 64 (iv (upd zf 0 800))), .agg (cf 64 (iv (upd zf 0 800))), .agg (cf 64 (iv (upd zf 0 800)))]) _ rfl rfl (fun _ => by kernel_rfl)) ?_
  obtain ⟨r2, hr2, hm⟩ := of_bind hm
  refine RW.ca (.tuple #[.agg (cf 64 (iv r2.1)), .int .i64 r2.2]) rfl rfl (Ca.call rfl rfl Tryd.call20 (fun w hM => c_merge K (wrt (wrt (wrt (wrt zf 0 64 (upd zf 0 800)) 64 64 (upd zf 0 800)) 128 64 (upd zf 0 800)) 192 64 (upd zf 0 800)) r2 w (hG.keep hM rfl) hr2)) ?_
  refine RW.yi (.tuple #[.agg (cf 64 (iv r2.1)), .int .i64 r2.2]) rfl rfl (Yi.pv _ rfl) ?_
  refine RW.yi (.agg (cf 64 (iv r2.1))) rfl rfl (Yi.pv _ rfl) ?_
  refine RW.yi (.int .i64 r2.2) rfl rfl (Yi.pv _ rfl) ?_
  refine RW.alloc (z := .agg (cf 64 (iv zf))) (cf 64 (iv zf)) rfl rfl (fun _ => by kernel_rfl) rfl (fun b3 => ?_)
  refine RW.storeW (i := 0) (cs' := cf 64 (iv r2.1)) rfl rfl rfl rfl (by rw [cf_size]; kernel_rfl) (by simp only [cf_size]) (iv_one _ _) ?_
  refine RW.yi (.int .i64 r2.2) rfl rfl (Yi.pv _ rfl) ?_
  refine RW.nil ?_
  refine EW.next ?_
  refine CW.seq ?_
  refine CW.region ?_
  refine RW.yi (.agg (cf 64 (iv r2.1))) rfl rfl (Yi.loadW (i := 0) rfl rfl Tryd.isAgg23 Tryd.sizeOf23) ?_
  refine RW.yi (.agg (cf 64 (iv (upd zf 0 800)))) rfl rfl (Yi.loadW (i := 1) rfl rfl Tryd.isAgg23 Tryd.sizeOf23) ?_
  refine RW.yi (.bool (decide (eqF 64 r2.1 (upd zf 0 800)))) rfl rfl (Yi.eqA Tryd.underlying23 Tryd.eqGuardType23 Tryd.underlying3 Tryd.sizeOf3 Tryd.isAgg3 rfl rfl) ?_
  refine RW.yi (.bool (decide (eqF 64 r2.1 (upd zf 0 800)))) rfl rfl (Yi.pv _ rfl) ?_
  refine RW.fork 17 (eqF 64 r2.1 (upd zf 0 800)) rfl (fun h4 => ?_) (fun h4 => ?_)
  · replace hm := (if_pos h4).symm.trans hm
    refine RW.yi (.int .i64 r2.2) rfl rfl (Yi.pv _ rfl) ?_
    refine RW.yi (.bool (decide (r2.2 = 0))) rfl rfl (Yi.pv _ rfl) ?_
    refine RW.yi (.bool (decide (r2.2 = 0))) rfl rfl (Yi.pv _ rfl) ?_
    refine RW.yi (.bool (decide (r2.2 = 0))) rfl rfl (Yi.pv _ rfl) ?_
    refine RW.fork 21 (r2.2 = 0) rfl (fun h5 => ?_) (fun h5 => ?_)
    · replace hm := (if_pos h5).symm.trans hm
      obtain ⟨r6, hr6, hm⟩ := of_bind hm
      refine RW.ca (.int .i64 r6) rfl rfl (Ca.call rfl rfl Tryd.call23 (fun w hM => c_part K 1 1 0 r6 w (hG.keep hM rfl) hr6)) ?_
      refine RW.yi (.bool (decide (r6 = (-2624)))) rfl rfl (Yi.pv _ rfl) ?_
      refine RW.yi (.bool (decide (r6 = (-2624)))) rfl rfl (Yi.pv _ rfl) ?_
      refine RW.yi (.bool (decide (r6 = (-2624)))) rfl rfl (Yi.pv _ rfl) ?_
      refine RW.nil ?_
      refine EW.next ?_
      refine CW.ret ?_
      obtain rfl := Option.some.inj hm
      exact EW.done (rs := [.tmp 0]) rfl (.tmp (t := 0) (v := .bool (decide (r6 = (-2624)))) rfl .nil) (fun _ hM => ⟨rfl, hM.below⟩)
    · replace hm := (if_neg h5).symm.trans hm
      refine RW.pass rfl rfl ?_
      refine RW.pass rfl rfl ?_
      refine RW.yi (.bool false) rfl rfl (Yi.pv _ rfl) ?_
      refine RW.yi (.bool false) rfl rfl (Yi.pv _ rfl) ?_
      refine RW.nil ?_
      refine EW.next ?_
      refine CW.ret ?_
      obtain rfl := Option.some.inj hm
      exact EW.done (rs := [.tmp 0]) rfl (.tmp (t := 0) (v := .bool false) rfl .nil) (fun _ hM => ⟨rfl, hM.below⟩)
  · replace hm := (if_neg h4).symm.trans hm
    refine RW.pass rfl rfl ?_
    refine RW.pass rfl rfl ?_
    refine RW.yi (.bool false) rfl rfl (Yi.pv _ rfl) ?_
    refine RW.yi (.bool false) rfl rfl (Yi.pv _ rfl) ?_
    refine RW.pass rfl rfl ?_
    refine RW.pass rfl rfl ?_
    refine RW.yi (.bool false) rfl rfl (Yi.pv _ rfl) ?_
    refine RW.yi (.bool false) rfl rfl (Yi.pv _ rfl) ?_
    refine RW.nil ?_
    refine EW.next ?_
    refine CW.ret ?_
    obtain rfl := Option.some.inj hm
    exact EW.done (rs := [.tmp 0]) rfl (.tmp (t := 0) (v := .bool false) rfl .nil) (fun _ hM => ⟨rfl, hM.below⟩)
def lawHalfMerges_j1 (K : Nat)  (a1 : Int) (a2 : Int) (a3 : Int) (r2 : ((Nat → Int) × Int)) (r4 : ((Nat → Int) × Int)) (v6 : Int) : Option (Bool) :=
  (if eqF 64 r2.1 r4.1 then (if r2.2 = r4.2 then ((part K a1 a2 a3).bind fun r9 => (if r9 = v6 then ((awake10 K ).bind fun r11 => some r11) else some false)) else some false) else some false)

def lawHalfMerges (K : Nat) (a0 : (Nat → Int)) (a1 : Int) (a2 : Int) (a3 : Int) : Option (Bool) :=
  ((merge K a0).bind fun r2 => ((rMerge K a0).bind fun r4 => (if a1 = 0 then (if 0 ≤ a2 then (if a2 < 8 then (if 0 ≤ a3 then (if a3 < 4 then ((rParts K ).bind fun r17 => (if 0 ≤ (w64 ((w64 ((w64 (32 * a1)) + (w64 (4 * a2)))) + a3)) ∧ (w64 ((w64 ((w64 (32 * a1)) + (w64 (4 * a2)))) + a3)) < (r17.length : Int) then lawHalfMerges_j1 K a1 a2 a3 r2 r4 (r17.getD ((w64 ((w64 ((w64 (32 * a1)) + (w64 (4 * a2)))) + a3)).toNat) 0) else none)) else lawHalfMerges_j1 K a1 a2 a3 r2 r4 0) else lawHalfMerges_j1 K a1 a2 a3 r2 r4 0) else lawHalfMerges_j1 K a1 a2 a3 r2 r4 0) else lawHalfMerges_j1 K a1 a2 a3 r2 r4 0) else (if a1 = 1 then (if 0 ≤ a2 then (if a2 < 8 then (if 0 ≤ a3 then (if a3 < 4 then ((rParts K ).bind fun r26 => (if 0 ≤ (w64 ((w64 ((w64 (32 * a1)) + (w64 (4 * a2)))) + a3)) ∧ (w64 ((w64 ((w64 (32 * a1)) + (w64 (4 * a2)))) + a3)) < (r26.length : Int) then lawHalfMerges_j1 K a1 a2 a3 r2 r4 (r26.getD ((w64 ((w64 ((w64 (32 * a1)) + (w64 (4 * a2)))) + a3)).toNat) 0) else none)) else lawHalfMerges_j1 K a1 a2 a3 r2 r4 0) else lawHalfMerges_j1 K a1 a2 a3 r2 r4 0) else lawHalfMerges_j1 K a1 a2 a3 r2 r4 0) else lawHalfMerges_j1 K a1 a2 a3 r2 r4 0) else lawHalfMerges_j1 K a1 a2 a3 r2 r4 0))))

theorem c_lawHalfMerges (K : Nat) (a0 : (Nat → Int)) (a1 : Int) (a2 : Int) (a3 : Int) (r : Bool) (w0 : World) (hG : Gl GH w0) (hm : lawHalfMerges K a0 a1 a2 a3 = some r) : Calls Tryd.prog 5 #[.agg (cf 256 (iv a0)), .int .i64 a1, .int .i64 a2, .int .i64 a3] w0 fun e w' => e = .returned (.bool r) ∧ Below w0.heap.size w0 w' := by
  unfold lawHalfMerges at hm
  refine calls_CW (n := 75) w0 [] [] Tryd.func5 rfl rfl rfl (Mem.begin w0) ?_
  refine CW.seq ?_
  refine CW.region ?_
  refine RW.box (v := .agg (cf 256 (iv a0))) rfl rfl rfl (fun b1 => ?_)
  refine RW.yi (.bool false) rfl rfl (Yi.pv _ rfl) ?_
  refine RW.nil ?_
  refine EW.next ?_
  refine CW.seq ?_
  refine CW.region ?_
  refine RW.yi (.agg (cf 256 (iv a0))) rfl rfl (Yi.loadW (i := 0) rfl rfl Tryd.isAgg34 Tryd.sizeOf34) ?_
  obtain ⟨r2, hr2, hm⟩ := of_bind hm
  refine RW.ca (.tuple #[.agg (cf 64 (iv r2.1)), .int .i64 r2.2]) rfl rfl (Ca.call rfl rfl Tryd.call20 (fun w hM => c_merge K a0 r2 w (hG.keep hM rfl) hr2)) ?_
  refine RW.yi (.tuple #[.agg (cf 64 (iv r2.1)), .int .i64 r2.2]) rfl rfl (Yi.pv _ rfl) ?_
  refine RW.yi (.agg (cf 64 (iv r2.1))) rfl rfl (Yi.pv _ rfl) ?_
  refine RW.yi (.int .i64 r2.2) rfl rfl (Yi.pv _ rfl) ?_
  refine RW.alloc (z := .agg (cf 64 (iv zf))) (cf 64 (iv zf)) rfl rfl (fun _ => by kernel_rfl) rfl (fun b3 => ?_)
  refine RW.storeW (i := 0) (cs' := cf 64 (iv r2.1)) rfl rfl rfl rfl (by rw [cf_size]; kernel_rfl) (by simp only [cf_size]) (iv_one _ _) ?_
  refine RW.yi (.int .i64 r2.2) rfl rfl (Yi.pv _ rfl) ?_
  refine RW.nil ?_
  refine EW.next ?_
  refine CW.seq ?_
  refine CW.region ?_
  refine RW.yi (.agg (cf 256 (iv a0))) rfl rfl (Yi.loadW (i := 1) rfl rfl Tryd.isAgg34 Tryd.sizeOf34) ?_
  obtain ⟨r4, hr4, hm⟩ := of_bind hm
  refine RW.ca (.tuple #[.agg (cf 64 (iv r4.1)), .int .i64 r4.2]) rfl rfl (Ca.call rfl rfl Tryd.call21 (fun w _ => c_rMerge K a0 r4 w hr4)) ?_
  refine RW.yi (.tuple #[.agg (cf 64 (iv r4.1)), .int .i64 r4.2]) rfl rfl (Yi.pv _ rfl) ?_
  refine RW.yi (.agg (cf 64 (iv r4.1))) rfl rfl (Yi.pv _ rfl) ?_
  refine RW.yi (.int .i64 r4.2) rfl rfl (Yi.pv _ rfl) ?_
  refine RW.alloc (z := .agg (cf 64 (iv zf))) (cf 64 (iv zf)) rfl rfl (fun _ => by kernel_rfl) rfl (fun b5 => ?_)
  refine RW.storeW (i := 0) (cs' := cf 64 (iv r4.1)) rfl rfl rfl rfl (by rw [cf_size]; kernel_rfl) (by simp only [cf_size]) (iv_one _ _) ?_
  refine RW.yi (.int .i64 r4.2) rfl rfl (Yi.pv _ rfl) ?_
  refine RW.nil ?_
  refine EW.next ?_
  refine CW.seq ?_
  refine CW.region ?_
  refine RW.yi (.int .i64 0) rfl rfl (Yi.pv _ rfl) ?_
  refine RW.nil ?_
  refine EW.next ?_
  refine CW.join (fun a w => ∃ (v6 : Int), St 75 [(1, .int .i64 a1), (2, .int .i64 a2), (3, .int .i64 a3), (9, .pointer (some ⟨b3, 0, none⟩)), (10, .int .i64 r2.2), (11, .pointer (some ⟨b5, 0, none⟩)), (12, .int .i64 r4.2), (13, .int .i64 v6)] a ∧ Mem w0 [] [.blk b5 23 (cf 64 (iv r4.1)), .blk b3 23 (cf 64 (iv r2.1))] w ∧ lawHalfMerges_j1 K a1 a2 a3 r2 r4 v6 = some r) ?_ ?_
  · refine CW.seq ?_
    refine CW.region ?_
    refine RW.yi (.int .i64 a1) rfl rfl (Yi.pv _ rfl) ?_
    refine RW.yi (.bool (decide (a1 = 0))) rfl rfl (Yi.pv _ rfl) ?_
    refine RW.yi (.bool (decide (a1 = 0))) rfl rfl (Yi.pv _ rfl) ?_
    refine RW.fork 26 (a1 = 0) rfl (fun h12 => ?_) (fun h12 => ?_)
    · replace hm := (if_pos h12).symm.trans hm
      refine RW.pass rfl rfl ?_
      refine RW.pass rfl rfl ?_
      refine RW.yi (.bool true) rfl rfl (Yi.pv _ rfl) ?_
      refine RW.yi (.bool true) rfl rfl (Yi.pv _ rfl) ?_
      refine RW.yi (.int .i64 a2) rfl rfl (Yi.pv _ rfl) ?_
      refine RW.yi (.bool (decide (0 ≤ a2))) rfl rfl (Yi.pv _ rfl) ?_
      refine RW.yi (.bool (decide (0 ≤ a2))) rfl rfl (Yi.pv _ rfl) ?_
      refine RW.yi (.bool (decide (0 ≤ a2))) rfl rfl (Yi.pv _ rfl) ?_
      refine RW.fork 34 (0 ≤ a2) rfl (fun h13 => ?_) (fun h13 => ?_)
      · replace hm := (if_pos h13).symm.trans hm
        refine RW.yi (.int .i64 a2) rfl rfl (Yi.pv _ rfl) ?_
        refine RW.yi (.bool (decide (a2 < 8))) rfl rfl (Yi.pv _ rfl) ?_
        refine RW.yi (.bool (decide (a2 < 8))) rfl rfl (Yi.pv _ rfl) ?_
        refine RW.yi (.bool (decide (a2 < 8))) rfl rfl (Yi.pv _ rfl) ?_
        refine RW.fork 38 (a2 < 8) rfl (fun h14 => ?_) (fun h14 => ?_)
        · replace hm := (if_pos h14).symm.trans hm
          refine RW.yi (.int .i64 a3) rfl rfl (Yi.pv _ rfl) ?_
          refine RW.yi (.bool (decide (0 ≤ a3))) rfl rfl (Yi.pv _ rfl) ?_
          refine RW.yi (.bool (decide (0 ≤ a3))) rfl rfl (Yi.pv _ rfl) ?_
          refine RW.yi (.bool (decide (0 ≤ a3))) rfl rfl (Yi.pv _ rfl) ?_
          refine RW.fork 42 (0 ≤ a3) rfl (fun h15 => ?_) (fun h15 => ?_)
          · replace hm := (if_pos h15).symm.trans hm
            refine RW.yi (.int .i64 a3) rfl rfl (Yi.pv _ rfl) ?_
            refine RW.yi (.bool (decide (a3 < 4))) rfl rfl (Yi.pv _ rfl) ?_
            refine RW.yi (.bool (decide (a3 < 4))) rfl rfl (Yi.pv _ rfl) ?_
            refine RW.nil ?_
            refine EW.next ?_
            refine CW.fork 45 (a3 < 4) rfl (fun h16 => ?_) (fun h16 => ?_)
            · replace hm := (if_pos h16).symm.trans hm
              refine CW.cond_true rfl ?_
              refine CW.region ?_
              obtain ⟨r17, hr17, hm⟩ := of_bind hm
              refine RW.caS (fun s18 => s18) (e := 3) (sz := 1) (m := r17.length) (cs := ic r17) rfl rfl rfl rfl Tryd.call22 (fun w _ => c_rParts K  r17 w hr17) (fun s18 => ?_)
              refine RW.yi (.int .i64 a1) rfl rfl (Yi.pv _ rfl) ?_
              refine RW.yi (.int .i64 (w64 (32 * a1))) rfl rfl (Yi.pv _ rfl) ?_
              refine RW.yi (.int .i64 a2) rfl rfl (Yi.pv _ rfl) ?_
              refine RW.yi (.int .i64 (w64 (4 * a2))) rfl rfl (Yi.pv _ rfl) ?_
              refine RW.yi (.int .i64 (w64 ((w64 (32 * a1)) + (w64 (4 * a2))))) rfl rfl (Yi.pv _ rfl) ?_
              refine RW.yi (.int .i64 a3) rfl rfl (Yi.pv _ rfl) ?_
              refine RW.yi (.int .i64 (w64 ((w64 ((w64 (32 * a1)) + (w64 (4 * a2)))) + a3))) rfl rfl (Yi.pv _ rfl) ?_
              obtain ⟨g20, hm⟩ := of_guard hm
              refine RW.yi (.pointer (some (eaddr s18 1 ((w64 ((w64 ((w64 (32 * a1)) + (w64 (4 * a2)))) + a3)).toNat) 0))) rfl rfl (Yi.idxS (m := r17.length) Tryd.underlying27 Tryd.sizeOf3 rfl rfl (fun _ hM => hM.rd (i := 0) rfl) g20.1 g20.2) ?_
              refine RW.yi (.int .i64 (r17.getD ((w64 ((w64 ((w64 (32 * a1)) + (w64 (4 * a2)))) + a3)).toNat) 0)) rfl rfl (Yi.loadS (m := r17.length) (cs := ic r17) _ rfl (fun _ hM => hM.rd (i := 0) rfl) Tryd.isAgg3 (by omega) (by decide) (by rw [Nat.mul_one, Nat.add_zero]; exact ic_get (by omega))) ?_
              refine RW.yi (.int .i64 (r17.getD ((w64 ((w64 ((w64 (32 * a1)) + (w64 (4 * a2)))) + a3)).toNat) 0)) rfl rfl (Yi.pv _ rfl) ?_
              refine RW.nil ?_
              refine EW.thn ?_
              exact fun a w hs hM => ⟨(r17.getD ((w64 ((w64 ((w64 (32 * a1)) + (w64 (4 * a2)))) + a3)).toNat) 0), hs.sub ⟨rfl, rfl, rfl, rfl, rfl, rfl, rfl, rfl, trivial⟩, hM.sub (.cons _ (.cons_cons _ (.cons_cons _ (.cons _ .slnil)))), hm⟩
            · replace hm := (if_neg h16).symm.trans hm
              refine CW.cond_false rfl ?_
              refine CW.skip ?_
              refine EW.thn ?_
              exact fun a w hs hM => ⟨0, hs.sub ⟨rfl, rfl, rfl, rfl, rfl, rfl, rfl, rfl, trivial⟩, hM.sub (.cons_cons _ (.cons_cons _ (.cons _ .slnil))), hm⟩
          · replace hm := (if_neg h15).symm.trans hm
            refine RW.pass rfl rfl ?_
            refine RW.pass rfl rfl ?_
            refine RW.yi (.bool false) rfl rfl (Yi.pv _ rfl) ?_
            refine RW.nil ?_
            refine EW.next ?_
            refine CW.cond_false rfl ?_
            refine CW.skip ?_
            refine EW.thn ?_
            exact fun a w hs hM => ⟨0, hs.sub ⟨rfl, rfl, rfl, rfl, rfl, rfl, rfl, rfl, trivial⟩, hM.sub (.cons_cons _ (.cons_cons _ (.cons _ .slnil))), hm⟩
        · replace hm := (if_neg h14).symm.trans hm
          refine RW.pass rfl rfl ?_
          refine RW.pass rfl rfl ?_
          refine RW.yi (.bool false) rfl rfl (Yi.pv _ rfl) ?_
          refine RW.yi (.bool false) rfl rfl (Yi.pv _ rfl) ?_
          refine RW.pass rfl rfl ?_
          refine RW.pass rfl rfl ?_
          refine RW.yi (.bool false) rfl rfl (Yi.pv _ rfl) ?_
          refine RW.nil ?_
          refine EW.next ?_
          refine CW.cond_false rfl ?_
          refine CW.skip ?_
          refine EW.thn ?_
          exact fun a w hs hM => ⟨0, hs.sub ⟨rfl, rfl, rfl, rfl, rfl, rfl, rfl, rfl, trivial⟩, hM.sub (.cons_cons _ (.cons_cons _ (.cons _ .slnil))), hm⟩
      · replace hm := (if_neg h13).symm.trans hm
        refine RW.pass rfl rfl ?_
        refine RW.pass rfl rfl ?_
        refine RW.yi (.bool false) rfl rfl (Yi.pv _ rfl) ?_
        refine RW.yi (.bool false) rfl rfl (Yi.pv _ rfl) ?_
        refine RW.pass rfl rfl ?_
        refine RW.pass rfl rfl ?_
        refine RW.yi (.bool false) rfl rfl (Yi.pv _ rfl) ?_
        refine RW.yi (.bool false) rfl rfl (Yi.pv _ rfl) ?_
        refine RW.pass rfl rfl ?_
        refine RW.pass rfl rfl ?_
        refine RW.yi (.bool false) rfl rfl (Yi.pv _ rfl) ?_
        refine RW.nil ?_
        refine EW.next ?_
        refine CW.cond_false rfl ?_
        refine CW.skip ?_
        refine EW.thn ?_
        exact fun a w hs hM => ⟨0, hs.sub ⟨rfl, rfl, rfl, rfl, rfl, rfl, rfl, rfl, trivial⟩, hM.sub (.cons_cons _ (.cons_cons _ (.cons _ .slnil))), hm⟩
    · replace hm := (if_neg h12).symm.trans hm
      refine RW.yi (.int .i64 a1) rfl rfl (Yi.pv _ rfl) ?_
      refine RW.yi (.bool (decide (a1 = 1))) rfl rfl (Yi.pv _ rfl) ?_
      refine RW.yi (.bool (decide (a1 = 1))) rfl rfl (Yi.pv _ rfl) ?_
      refine RW.yi (.bool (decide (a1 = 1))) rfl rfl (Yi.pv _ rfl) ?_
      refine RW.fork 30 (a1 = 1) rfl (fun h21 => ?_) (fun h21 => ?_)
      · replace hm := (if_pos h21).symm.trans hm
        refine RW.yi (.int .i64 a2) rfl rfl (Yi.pv _ rfl) ?_
        refine RW.yi (.bool (decide (0 ≤ a2))) rfl rfl (Yi.pv _ rfl) ?_
        refine RW.yi (.bool (decide (0 ≤ a2))) rfl rfl (Yi.pv _ rfl) ?_
        refine RW.yi (.bool (decide (0 ≤ a2))) rfl rfl (Yi.pv _ rfl) ?_
        refine RW.fork 34 (0 ≤ a2) rfl (fun h22 => ?_) (fun h22 => ?_)
        · replace hm := (if_pos h22).symm.trans hm
          refine RW.yi (.int .i64 a2) rfl rfl (Yi.pv _ rfl) ?_
          refine RW.yi (.bool (decide (a2 < 8))) rfl rfl (Yi.pv _ rfl) ?_
          refine RW.yi (.bool (decide (a2 < 8))) rfl rfl (Yi.pv _ rfl) ?_
          refine RW.yi (.bool (decide (a2 < 8))) rfl rfl (Yi.pv _ rfl) ?_
          refine RW.fork 38 (a2 < 8) rfl (fun h23 => ?_) (fun h23 => ?_)
          · replace hm := (if_pos h23).symm.trans hm
            refine RW.yi (.int .i64 a3) rfl rfl (Yi.pv _ rfl) ?_
            refine RW.yi (.bool (decide (0 ≤ a3))) rfl rfl (Yi.pv _ rfl) ?_
            refine RW.yi (.bool (decide (0 ≤ a3))) rfl rfl (Yi.pv _ rfl) ?_
            refine RW.yi (.bool (decide (0 ≤ a3))) rfl rfl (Yi.pv _ rfl) ?_
            refine RW.fork 42 (0 ≤ a3) rfl (fun h24 => ?_) (fun h24 => ?_)
            · replace hm := (if_pos h24).symm.trans hm
              refine RW.yi (.int .i64 a3) rfl rfl (Yi.pv _ rfl) ?_
              refine RW.yi (.bool (decide (a3 < 4))) rfl rfl (Yi.pv _ rfl) ?_
              refine RW.yi (.bool (decide (a3 < 4))) rfl rfl (Yi.pv _ rfl) ?_
              refine RW.nil ?_
              refine EW.next ?_
              refine CW.fork 45 (a3 < 4) rfl (fun h25 => ?_) (fun h25 => ?_)
              · replace hm := (if_pos h25).symm.trans hm
                refine CW.cond_true rfl ?_
                refine CW.region ?_
                obtain ⟨r26, hr26, hm⟩ := of_bind hm
                refine RW.caS (fun s27 => s27) (e := 3) (sz := 1) (m := r26.length) (cs := ic r26) rfl rfl rfl rfl Tryd.call22 (fun w _ => c_rParts K  r26 w hr26) (fun s27 => ?_)
                refine RW.yi (.int .i64 a1) rfl rfl (Yi.pv _ rfl) ?_
                refine RW.yi (.int .i64 (w64 (32 * a1))) rfl rfl (Yi.pv _ rfl) ?_
                refine RW.yi (.int .i64 a2) rfl rfl (Yi.pv _ rfl) ?_
                refine RW.yi (.int .i64 (w64 (4 * a2))) rfl rfl (Yi.pv _ rfl) ?_
                refine RW.yi (.int .i64 (w64 ((w64 (32 * a1)) + (w64 (4 * a2))))) rfl rfl (Yi.pv _ rfl) ?_
                refine RW.yi (.int .i64 a3) rfl rfl (Yi.pv _ rfl) ?_
                refine RW.yi (.int .i64 (w64 ((w64 ((w64 (32 * a1)) + (w64 (4 * a2)))) + a3))) rfl rfl (Yi.pv _ rfl) ?_
                obtain ⟨g29, hm⟩ := of_guard hm
                refine RW.yi (.pointer (some (eaddr s27 1 ((w64 ((w64 ((w64 (32 * a1)) + (w64 (4 * a2)))) + a3)).toNat) 0))) rfl rfl (Yi.idxS (m := r26.length) Tryd.underlying27 Tryd.sizeOf3 rfl rfl (fun _ hM => hM.rd (i := 0) rfl) g29.1 g29.2) ?_
                refine RW.yi (.int .i64 (r26.getD ((w64 ((w64 ((w64 (32 * a1)) + (w64 (4 * a2)))) + a3)).toNat) 0)) rfl rfl (Yi.loadS (m := r26.length) (cs := ic r26) _ rfl (fun _ hM => hM.rd (i := 0) rfl) Tryd.isAgg3 (by omega) (by decide) (by rw [Nat.mul_one, Nat.add_zero]; exact ic_get (by omega))) ?_
                refine RW.yi (.int .i64 (r26.getD ((w64 ((w64 ((w64 (32 * a1)) + (w64 (4 * a2)))) + a3)).toNat) 0)) rfl rfl (Yi.pv _ rfl) ?_
                refine RW.nil ?_
                refine EW.thn ?_
                exact fun a w hs hM => ⟨(r26.getD ((w64 ((w64 ((w64 (32 * a1)) + (w64 (4 * a2)))) + a3)).toNat) 0), hs.sub ⟨rfl, rfl, rfl, rfl, rfl, rfl, rfl, rfl, trivial⟩, hM.sub (.cons _ (.cons_cons _ (.cons_cons _ (.cons _ .slnil)))), hm⟩
              · replace hm := (if_neg h25).symm.trans hm
                refine CW.cond_false rfl ?_
                refine CW.skip ?_
                refine EW.thn ?_
                exact fun a w hs hM => ⟨0, hs.sub ⟨rfl, rfl, rfl, rfl, rfl, rfl, rfl, rfl, trivial⟩, hM.sub (.cons_cons _ (.cons_cons _ (.cons _ .slnil))), hm⟩
            · replace hm := (if_neg h24).symm.trans hm
              refine RW.pass rfl rfl ?_
              refine RW.pass rfl rfl ?_
              refine RW.yi (.bool false) rfl rfl (Yi.pv _ rfl) ?_
              refine RW.nil ?_
              refine EW.next ?_
              refine CW.cond_false rfl ?_
              refine CW.skip ?_
              refine EW.thn ?_
              exact fun a w hs hM => ⟨0, hs.sub ⟨rfl, rfl, rfl, rfl, rfl, rfl, rfl, rfl, trivial⟩, hM.sub (.cons_cons _ (.cons_cons _ (.cons _ .slnil))), hm⟩
          · replace hm := (if_neg h23).symm.trans hm
            refine RW.pass rfl rfl ?_
            refine RW.pass rfl rfl ?_
            refine RW.yi (.bool false) rfl rfl (Yi.pv _ rfl) ?_
            refine RW.yi (.bool false) rfl rfl (Yi.pv _ rfl) ?_
            refine RW.pass rfl rfl ?_
            refine RW.pass rfl rfl ?_
            refine RW.yi (.bool false) rfl rfl (Yi.pv _ rfl) ?_
            refine RW.nil ?_
            refine EW.next ?_
            refine CW.cond_false rfl ?_
            refine CW.skip ?_
            refine EW.thn ?_
            exact fun a w hs hM => ⟨0, hs.sub ⟨rfl, rfl, rfl, rfl, rfl, rfl, rfl, rfl, trivial⟩, hM.sub (.cons_cons _ (.cons_cons _ (.cons _ .slnil))), hm⟩
        · replace hm := (if_neg h22).symm.trans hm
          refine RW.pass rfl rfl ?_
          refine RW.pass rfl rfl ?_
          refine RW.yi (.bool false) rfl rfl (Yi.pv _ rfl) ?_
          refine RW.yi (.bool false) rfl rfl (Yi.pv _ rfl) ?_
          refine RW.pass rfl rfl ?_
          refine RW.pass rfl rfl ?_
          refine RW.yi (.bool false) rfl rfl (Yi.pv _ rfl) ?_
          refine RW.yi (.bool false) rfl rfl (Yi.pv _ rfl) ?_
          refine RW.pass rfl rfl ?_
          refine RW.pass rfl rfl ?_
          refine RW.yi (.bool false) rfl rfl (Yi.pv _ rfl) ?_
          refine RW.nil ?_
          refine EW.next ?_
          refine CW.cond_false rfl ?_
          refine CW.skip ?_
          refine EW.thn ?_
          exact fun a w hs hM => ⟨0, hs.sub ⟨rfl, rfl, rfl, rfl, rfl, rfl, rfl, rfl, trivial⟩, hM.sub (.cons_cons _ (.cons_cons _ (.cons _ .slnil))), hm⟩
      · replace hm := (if_neg h21).symm.trans hm
        refine RW.pass rfl rfl ?_
        refine RW.pass rfl rfl ?_
        refine RW.yi (.bool false) rfl rfl (Yi.pv _ rfl) ?_
        refine RW.yi (.bool false) rfl rfl (Yi.pv _ rfl) ?_
        refine RW.pass rfl rfl ?_
        refine RW.pass rfl rfl ?_
        refine RW.yi (.bool false) rfl rfl (Yi.pv _ rfl) ?_
        refine RW.yi (.bool false) rfl rfl (Yi.pv _ rfl) ?_
        refine RW.pass rfl rfl ?_
        refine RW.pass rfl rfl ?_
        refine RW.yi (.bool false) rfl rfl (Yi.pv _ rfl) ?_
        refine RW.yi (.bool false) rfl rfl (Yi.pv _ rfl) ?_
        refine RW.pass rfl rfl ?_
        refine RW.pass rfl rfl ?_
        refine RW.yi (.bool false) rfl rfl (Yi.pv _ rfl) ?_
        refine RW.nil ?_
        refine EW.next ?_
        refine CW.cond_false rfl ?_
        refine CW.skip ?_
        refine EW.thn ?_
        exact fun a w hs hM => ⟨0, hs.sub ⟨rfl, rfl, rfl, rfl, rfl, rfl, rfl, rfl, trivial⟩, hM.sub (.cons_cons _ (.cons_cons _ (.cons _ .slnil))), hm⟩
  · rintro a w ⟨v6, hs, hM, hm⟩
    unfold lawHalfMerges_j1 at hm
    refine CW.enter hs hM ?_
    refine CW.seq ?_
    refine CW.region ?_
    refine RW.yi (.agg (cf 64 (iv r2.1))) rfl rfl (Yi.loadW (i := 1) rfl rfl Tryd.isAgg23 Tryd.sizeOf23) ?_
    refine RW.yi (.agg (cf 64 (iv r4.1))) rfl rfl (Yi.loadW (i := 0) rfl rfl Tryd.isAgg23 Tryd.sizeOf23) ?_
    refine RW.yi (.bool (decide (eqF 64 r2.1 r4.1))) rfl rfl (Yi.eqA Tryd.underlying23 Tryd.eqGuardType23 Tryd.underlying3 Tryd.sizeOf3 Tryd.isAgg3 rfl rfl) ?_
    refine RW.yi (.bool (decide (eqF 64 r2.1 r4.1))) rfl rfl (Yi.pv _ rfl) ?_
    refine RW.fork 59 (eqF 64 r2.1 r4.1) rfl (fun h7 => ?_) (fun h7 => ?_)
    · replace hm := (if_pos h7).symm.trans hm
      refine RW.yi (.int .i64 r2.2) rfl rfl (Yi.pv _ rfl) ?_
      refine RW.yi (.int .i64 r4.2) rfl rfl (Yi.pv _ rfl) ?_
      refine RW.yi (.bool (decide (r2.2 = r4.2))) rfl rfl (Yi.pv _ rfl) ?_
      refine RW.yi (.bool (decide (r2.2 = r4.2))) rfl rfl (Yi.pv _ rfl) ?_
      refine RW.yi (.bool (decide (r2.2 = r4.2))) rfl rfl (Yi.pv _ rfl) ?_
      refine RW.fork 64 (r2.2 = r4.2) rfl (fun h8 => ?_) (fun h8 => ?_)
      · replace hm := (if_pos h8).symm.trans hm
        refine RW.yi (.int .i64 a1) rfl rfl (Yi.pv _ rfl) ?_
        refine RW.yi (.int .i64 a2) rfl rfl (Yi.pv _ rfl) ?_
        refine RW.yi (.int .i64 a3) rfl rfl (Yi.pv _ rfl) ?_
        obtain ⟨r9, hr9, hm⟩ := of_bind hm
        refine RW.ca (.int .i64 r9) rfl rfl (Ca.call rfl rfl Tryd.call23 (fun w hM => c_part K a1 a2 a3 r9 w (hG.keep hM rfl) hr9)) ?_
        refine RW.yi (.int .i64 v6) rfl rfl (Yi.pv _ rfl) ?_
        refine RW.yi (.bool (decide (r9 = v6))) rfl rfl (Yi.pv _ rfl) ?_
        refine RW.yi (.bool (decide (r9 = v6))) rfl rfl (Yi.pv _ rfl) ?_
        refine RW.yi (.bool (decide (r9 = v6))) rfl rfl (Yi.pv _ rfl) ?_
        refine RW.fork 72 (r9 = v6) rfl (fun h10 => ?_) (fun h10 => ?_)
        · replace hm := (if_pos h10).symm.trans hm
          obtain ⟨r11, hr11, hm⟩ := of_bind hm
          refine RW.ca (.bool r11) rfl rfl (Ca.call rfl rfl Tryd.call24 (fun w hM => c_awake10 K  r11 w (hG.keep hM rfl) hr11)) ?_
          refine RW.yi (.bool r11) rfl rfl (Yi.pv _ rfl) ?_
          refine RW.yi (.bool r11) rfl rfl (Yi.pv _ rfl) ?_
          refine RW.nil ?_
          refine EW.next ?_
          refine CW.ret ?_
          obtain rfl := Option.some.inj hm
          exact EW.done (rs := [.tmp 8]) rfl (.tmp (t := 8) (v := .bool r11) rfl .nil) (fun _ hM => ⟨rfl, hM.below⟩)
        · replace hm := (if_neg h10).symm.trans hm
          refine RW.pass rfl rfl ?_
          refine RW.yi (.bool false) rfl rfl (Yi.pv _ rfl) ?_
          refine RW.yi (.bool false) rfl rfl (Yi.pv _ rfl) ?_
          refine RW.nil ?_
          refine EW.next ?_
          refine CW.ret ?_
          obtain rfl := Option.some.inj hm
          exact EW.done (rs := [.tmp 8]) rfl (.tmp (t := 8) (v := .bool false) rfl .nil) (fun _ hM => ⟨rfl, hM.below⟩)
      · replace hm := (if_neg h8).symm.trans hm
        refine RW.pass rfl rfl ?_
        refine RW.pass rfl rfl ?_
        refine RW.pass rfl rfl ?_
        refine RW.pass rfl rfl ?_
        refine RW.pass rfl rfl ?_
        refine RW.pass rfl rfl ?_
        refine RW.yi (.bool false) rfl rfl (Yi.pv _ rfl) ?_
        refine RW.yi (.bool false) rfl rfl (Yi.pv _ rfl) ?_
        refine RW.pass rfl rfl ?_
        refine RW.yi (.bool false) rfl rfl (Yi.pv _ rfl) ?_
        refine RW.yi (.bool false) rfl rfl (Yi.pv _ rfl) ?_
        refine RW.nil ?_
        refine EW.next ?_
        refine CW.ret ?_
        obtain rfl := Option.some.inj hm
        exact EW.done (rs := [.tmp 8]) rfl (.tmp (t := 8) (v := .bool false) rfl .nil) (fun _ hM => ⟨rfl, hM.below⟩)
    · replace hm := (if_neg h7).symm.trans hm
      refine RW.pass rfl rfl ?_
      refine RW.pass rfl rfl ?_
      refine RW.pass rfl rfl ?_
      refine RW.yi (.bool false) rfl rfl (Yi.pv _ rfl) ?_
      refine RW.yi (.bool false) rfl rfl (Yi.pv _ rfl) ?_
      refine RW.pass rfl rfl ?_
      refine RW.pass rfl rfl ?_
      refine RW.pass rfl rfl ?_
      refine RW.pass rfl rfl ?_
      refine RW.pass rfl rfl ?_
      refine RW.pass rfl rfl ?_
      refine RW.yi (.bool false) rfl rfl (Yi.pv _ rfl) ?_
      refine RW.yi (.bool false) rfl rfl (Yi.pv _ rfl) ?_
      refine RW.pass rfl rfl ?_
      refine RW.yi (.bool false) rfl rfl (Yi.pv _ rfl) ?_
      refine RW.yi (.bool false) rfl rfl (Yi.pv _ rfl) ?_
      refine RW.nil ?_
      refine EW.next ?_
      refine CW.ret ?_
      obtain rfl := Option.some.inj hm
      exact EW.done (rs := [.tmp 8]) rfl (.tmp (t := 8) (v := .bool false) rfl .nil) (fun _ hM => ⟨rfl, hM.below⟩)
def lawHalfNoughts_j1 (K : Nat)  (a0 : (Nat → Int)) (a1 : Int) (a2 : Int)  : Option (Bool) :=
  (if 0 ≤ (Int.tmod (w64 (a1)) 64) ∧ (Int.tmod (w64 (a1)) 64) < 64 then ((merge K a0).bind fun r8 => ((merge K (upd a0 ((Int.tmod (w64 (a1)) 64).toNat) a2)).bind fun r10 => (if eqF 64 r8.1 r10.1 then (if r8.2 = r10.2 then ((awake10 K ).bind fun r14 => some r14) else some false) else some false))) else none)

def lawHalfNoughts (K : Nat) (a0 : (Nat → Int)) (a1 : Int) (a2 : Int) : Option (Bool) :=
  ((merge K zf).bind fun r2 => (if ¬ eqF 64 r2.1 zf then some false else (if ¬ r2.2 = 0 then some false else (if (w64 (Int.tdiv (Int.tmod (w64 (a1)) 64) 8)) < 4 then (if (Int.tmod (Int.tmod (w64 (a1)) 64) 8) < 4 then ((awake10 K ).bind fun r17 => some r17) else (if a2 < (-1048576) then ((awake10 K ).bind fun r19 => some r19) else (if 1048576 < a2 then ((awake10 K ).bind fun r21 => some r21) else (if 0 ≤ (Int.tmod (w64 (a1)) 64) ∧ (Int.tmod (w64 (a1)) 64) < 64 then (if (a0 ((Int.tmod (w64 (a1)) 64).toNat)) < (-1048576) then ((awake10 K ).bind fun r24 => some r24) else (if 1048576 < (a0 ((Int.tmod (w64 (a1)) 64).toNat)) then ((awake10 K ).bind fun r26 => some r26) else lawHalfNoughts_j1 K a0 a1 a2)) else none)))) else (if a2 < (-1048576) then ((awake10 K ).bind fun r28 => some r28) else (if 1048576 < a2 then ((awake10 K ).bind fun r30 => some r30) else (if 0 ≤ (Int.tmod (w64 (a1)) 64) ∧ (Int.tmod (w64 (a1)) 64) < 64 then (if (a0 ((Int.tmod (w64 (a1)) 64).toNat)) < (-1048576) then ((awake10 K ).bind fun r33 => some r33) else (if 1048576 < (a0 ((Int.tmod (w64 (a1)) 64).toNat)) then ((awake10 K ).bind fun r35 => some r35) else lawHalfNoughts_j1 K a0 a1 a2)) else none)))))))

theorem c_lawHalfNoughts (K : Nat) (a0 : (Nat → Int)) (a1 : Int) (a2 : Int) (r : Bool) (w0 : World) (hG : Gl GH w0) (hm : lawHalfNoughts K a0 a1 a2 = some r) : Calls Tryd.prog 6 #[.agg (cf 256 (iv a0)), .int .u8 a1, .int .i64 a2] w0 fun e w' => e = .returned (.bool r) ∧ Below w0.heap.size w0 w' := by
  unfold lawHalfNoughts at hm
  refine calls_CW (n := 87) w0 [] [] Tryd.func6 rfl rfl rfl (Mem.begin w0) ?_
  refine CW.seq ?_
  refine CW.region ?_
  refine RW.box (v := .agg (cf 256 (iv a0))) rfl rfl rfl (fun b1 => ?_)
  refine RW.yi (.bool false) rfl rfl (Yi.pv _ rfl) ?_
  refine RW.nil ?_
  refine EW.next ?_
  refine CW.seq ?_
  refine CW.region ?_
  refine RW.yi (.agg (cf 256 (iv zf))) rfl rfl (Yi.build (vs := []) _ rfl rfl (fun _ => by kernel_rfl)) ?_
  obtain ⟨r2, hr2, hm⟩ := of_bind hm
  refine RW.ca (.tuple #[.agg (cf 64 (iv r2.1)), .int .i64 r2.2]) rfl rfl (Ca.call rfl rfl Tryd.call20 (fun w hM => c_merge K zf r2 w (hG.keep hM rfl) hr2)) ?_
  refine RW.yi (.tuple #[.agg (cf 64 (iv r2.1)), .int .i64 r2.2]) rfl rfl (Yi.pv _ rfl) ?_
  refine RW.yi (.agg (cf 64 (iv r2.1))) rfl rfl (Yi.pv _ rfl) ?_
  refine RW.yi (.int .i64 r2.2) rfl rfl (Yi.pv _ rfl) ?_
  refine RW.alloc (z := .agg (cf 64 (iv zf))) (cf 64 (iv zf)) rfl rfl (fun _ => by kernel_rfl) rfl (fun b3 => ?_)
  refine RW.storeW (i := 0) (cs' := cf 64 (iv r2.1)) rfl rfl rfl rfl (by rw [cf_size]; kernel_rfl) (by simp only [cf_size]) (iv_one _ _) ?_
  refine RW.yi (.int .i64 r2.2) rfl rfl (Yi.pv _ rfl) ?_
  refine RW.nil ?_
  refine EW.next ?_
  refine CW.seq ?_
  refine CW.seq ?_
  refine CW.region ?_
  refine RW.yi (.agg (cf 64 (iv r2.1))) rfl rfl (Yi.loadW (i := 0) rfl rfl Tryd.isAgg23 Tryd.sizeOf23) ?_
  refine RW.yi (.agg (cf 64 (iv zf))) rfl rfl (Yi.build (vs := []) _ rfl rfl (fun _ => by kernel_rfl)) ?_
  refine RW.yi (.bool (decide (¬ eqF 64 r2.1 zf))) rfl rfl (Yi.neqA Tryd.underlying23 Tryd.eqGuardType23 Tryd.underlying3 Tryd.sizeOf3 Tryd.isAgg3 rfl rfl) ?_
  refine RW.yi (.bool (decide (¬ eqF 64 r2.1 zf))) rfl rfl (Yi.pv _ rfl) ?_
  refine RW.fork 23 (¬ eqF 64 r2.1 zf) rfl (fun h4 => ?_) (fun h4 => ?_)
  · replace hm := (if_pos h4).symm.trans hm
    refine RW.pass rfl rfl ?_
    refine RW.pass rfl rfl ?_
    refine RW.yi (.bool true) rfl rfl (Yi.pv _ rfl) ?_
    refine RW.nil ?_
    refine EW.next ?_
    refine CW.cond_true rfl ?_
    refine CW.seq ?_
    refine CW.region ?_
    refine RW.yi (.bool false) rfl rfl (Yi.pv _ rfl) ?_
    refine RW.nil ?_
    refine EW.next ?_
    refine CW.ret ?_
    refine EW.thr ?_
    obtain rfl := Option.some.inj hm
    exact EW.done (rs := [.tmp 6]) rfl (.tmp (t := 6) (v := .bool false) rfl .nil) (fun _ hM => ⟨rfl, hM.below⟩)
  · replace hm := (if_neg h4).symm.trans hm
    refine RW.yi (.int .i64 r2.2) rfl rfl (Yi.pv _ rfl) ?_
    refine RW.yi (.bool (decide (¬ r2.2 = 0))) rfl rfl (Yi.pv _ rfl) ?_
    refine RW.yi (.bool (decide (¬ r2.2 = 0))) rfl rfl (Yi.pv _ rfl) ?_
    refine RW.nil ?_
    refine EW.next ?_
    refine CW.fork 26 (¬ r2.2 = 0) rfl (fun h5 => ?_) (fun h5 => ?_)
    · replace hm := (if_pos h5).symm.trans hm
      refine CW.cond_true rfl ?_
      refine CW.seq ?_
      refine CW.region ?_
      refine RW.yi (.bool false) rfl rfl (Yi.pv _ rfl) ?_
      refine RW.nil ?_
      refine EW.next ?_
      refine CW.ret ?_
      refine EW.thr ?_
      obtain rfl := Option.some.inj hm
      exact EW.done (rs := [.tmp 6]) rfl (.tmp (t := 6) (v := .bool false) rfl .nil) (fun _ hM => ⟨rfl, hM.below⟩)
    · replace hm := (if_neg h5).symm.trans hm
      refine CW.cond_false rfl ?_
      refine CW.skip ?_
      refine EW.next ?_
      refine CW.seq ?_
      refine CW.region ?_
      refine RW.yi (.agg (cf 256 (iv a0))) rfl rfl (Yi.loadW (i := 1) rfl rfl Tryd.isAgg34 Tryd.sizeOf34) ?_
      refine RW.alloc (z := .agg (cf 256 (iv zf))) (cf 256 (iv zf)) rfl rfl (fun _ => by kernel_rfl) rfl (fun b6 => ?_)
      refine RW.storeW (i := 0) (cs' := cf 256 (iv a0)) rfl rfl rfl rfl (by rw [cf_size]; kernel_rfl) (by simp only [cf_size]) (iv_one _ _) ?_
      refine RW.nil ?_
      refine EW.next ?_
      refine CW.seq ?_
      refine CW.region ?_
      refine RW.yi (.int .u8 a1) rfl rfl (Yi.pv _ rfl) ?_
      refine RW.yi (.int .i64 (w64 (a1))) rfl rfl (Yi.conv ⟨_, Tryd.underlying5⟩ Tryd.underlying3 rfl) ?_
      refine RW.yi (.int .i64 (Int.tmod (w64 (a1)) 64)) rfl rfl (Yi.rem rfl rfl (by decide)) ?_
      refine RW.yi (.int .i64 (Int.tmod (w64 (a1)) 64)) rfl rfl (Yi.pv _ rfl) ?_
      refine RW.nil ?_
      refine EW.next ?_
      refine CW.join (fun a w => St 87 [(2, .int .i64 a2), (3, .pointer (some ⟨b1, 0, none⟩)), (9, .pointer (some ⟨b6, 0, none⟩)), (10, .int .i64 (Int.tmod (w64 (a1)) 64))] a ∧ Mem w0 [] [.blk b6 34 (cf 256 (iv a0)), .blk b1 34 (cf 256 (iv a0))] w ∧ lawHalfNoughts_j1 K a0 a1 a2 = some r) ?_ ?_
      · refine CW.seq ?_
        refine CW.region ?_
        refine RW.yi (.int .i64 (Int.tmod (w64 (a1)) 64)) rfl rfl (Yi.pv _ rfl) ?_
        refine RW.yi (.int .i64 (w64 (Int.tdiv (Int.tmod (w64 (a1)) 64) 8))) rfl rfl (Yi.quo rfl rfl (by decide)) ?_
        refine RW.yi (.bool (decide ((w64 (Int.tdiv (Int.tmod (w64 (a1)) 64) 8)) < 4))) rfl rfl (Yi.pv _ rfl) ?_
        refine RW.yi (.bool (decide ((w64 (Int.tdiv (Int.tmod (w64 (a1)) 64) 8)) < 4))) rfl rfl (Yi.pv _ rfl) ?_
        refine RW.fork 34 ((w64 (Int.tdiv (Int.tmod (w64 (a1)) 64) 8)) < 4) rfl (fun h15 => ?_) (fun h15 => ?_)
        · replace hm := (if_pos h15).symm.trans hm
          refine RW.yi (.int .i64 (Int.tmod (w64 (a1)) 64)) rfl rfl (Yi.pv _ rfl) ?_
          refine RW.yi (.int .i64 (Int.tmod (Int.tmod (w64 (a1)) 64) 8)) rfl rfl (Yi.rem rfl rfl (by decide)) ?_
          refine RW.yi (.bool (decide ((Int.tmod (Int.tmod (w64 (a1)) 64) 8) < 4))) rfl rfl (Yi.pv _ rfl) ?_
          refine RW.yi (.bool (decide ((Int.tmod (Int.tmod (w64 (a1)) 64) 8) < 4))) rfl rfl (Yi.pv _ rfl) ?_
          refine RW.yi (.bool (decide ((Int.tmod (Int.tmod (w64 (a1)) 64) 8) < 4))) rfl rfl (Yi.pv _ rfl) ?_
          refine RW.fork 39 ((Int.tmod (Int.tmod (w64 (a1)) 64) 8) < 4) rfl (fun h16 => ?_) (fun h16 => ?_)
          · replace hm := (if_pos h16).symm.trans hm
            refine RW.pass rfl rfl ?_
            refine RW.pass rfl rfl ?_
            refine RW.yi (.bool true) rfl rfl (Yi.pv _ rfl) ?_
            refine RW.yi (.bool true) rfl rfl (Yi.pv _ rfl) ?_
            refine RW.pass rfl rfl ?_
            refine RW.pass rfl rfl ?_
            refine RW.yi (.bool true) rfl rfl (Yi.pv _ rfl) ?_
            refine RW.yi (.bool true) rfl rfl (Yi.pv _ rfl) ?_
            refine RW.pass rfl rfl ?_
            refine RW.pass rfl rfl ?_
            refine RW.pass rfl rfl ?_
            refine RW.pass rfl rfl ?_
            refine RW.pass rfl rfl ?_
            refine RW.yi (.bool true) rfl rfl (Yi.pv _ rfl) ?_
            refine RW.yi (.bool true) rfl rfl (Yi.pv _ rfl) ?_
            refine RW.pass rfl rfl ?_
            refine RW.pass rfl rfl ?_
            refine RW.pass rfl rfl ?_
            refine RW.pass rfl rfl ?_
            refine RW.pass rfl rfl ?_
            refine RW.yi (.bool true) rfl rfl (Yi.pv _ rfl) ?_
            refine RW.nil ?_
            refine EW.next ?_
            refine CW.cond_true rfl ?_
            refine CW.seq ?_
            refine CW.region ?_
            obtain ⟨r17, hr17, hm⟩ := of_bind hm
            refine RW.ca (.bool r17) rfl rfl (Ca.call rfl rfl Tryd.call24 (fun w hM => c_awake10 K  r17 w (hG.keep hM rfl) hr17)) ?_
            refine RW.yi (.bool r17) rfl rfl (Yi.pv _ rfl) ?_
            refine RW.nil ?_
            refine EW.next ?_
            refine CW.ret ?_
            refine EW.thr ?_
            obtain rfl := Option.some.inj hm
            exact EW.done (rs := [.tmp 6]) rfl (.tmp (t := 6) (v := .bool r17) rfl .nil) (fun _ hM => ⟨rfl, hM.below⟩)
          · replace hm := (if_neg h16).symm.trans hm
            refine RW.yi (.int .i64 a2) rfl rfl (Yi.pv _ rfl) ?_
            refine RW.yi (.bool (decide (a2 < (-1048576)))) rfl rfl (Yi.pv _ rfl) ?_
            refine RW.yi (.bool (decide (a2 < (-1048576)))) rfl rfl (Yi.pv _ rfl) ?_
            refine RW.yi (.bool (decide (a2 < (-1048576)))) rfl rfl (Yi.pv _ rfl) ?_
            refine RW.fork 43 (a2 < (-1048576)) rfl (fun h18 => ?_) (fun h18 => ?_)
            · replace hm := (if_pos h18).symm.trans hm
              refine RW.pass rfl rfl ?_
              refine RW.pass rfl rfl ?_
              refine RW.yi (.bool true) rfl rfl (Yi.pv _ rfl) ?_
              refine RW.yi (.bool true) rfl rfl (Yi.pv _ rfl) ?_
              refine RW.pass rfl rfl ?_
              refine RW.pass rfl rfl ?_
              refine RW.pass rfl rfl ?_
              refine RW.pass rfl rfl ?_
              refine RW.pass rfl rfl ?_
              refine RW.yi (.bool true) rfl rfl (Yi.pv _ rfl) ?_
              refine RW.yi (.bool true) rfl rfl (Yi.pv _ rfl) ?_
              refine RW.pass rfl rfl ?_
              refine RW.pass rfl rfl ?_
              refine RW.pass rfl rfl ?_
              refine RW.pass rfl rfl ?_
              refine RW.pass rfl rfl ?_
              refine RW.yi (.bool true) rfl rfl (Yi.pv _ rfl) ?_
              refine RW.nil ?_
              refine EW.next ?_
              refine CW.cond_true rfl ?_
              refine CW.seq ?_
              refine CW.region ?_
              obtain ⟨r19, hr19, hm⟩ := of_bind hm
              refine RW.ca (.bool r19) rfl rfl (Ca.call rfl rfl Tryd.call24 (fun w hM => c_awake10 K  r19 w (hG.keep hM rfl) hr19)) ?_
              refine RW.yi (.bool r19) rfl rfl (Yi.pv _ rfl) ?_
              refine RW.nil ?_
              refine EW.next ?_
              refine CW.ret ?_
              refine EW.thr ?_
              obtain rfl := Option.some.inj hm
              exact EW.done (rs := [.tmp 6]) rfl (.tmp (t := 6) (v := .bool r19) rfl .nil) (fun _ hM => ⟨rfl, hM.below⟩)
            · replace hm := (if_neg h18).symm.trans hm
              refine RW.yi (.int .i64 a2) rfl rfl (Yi.pv _ rfl) ?_
              refine RW.yi (.bool (decide (1048576 < a2))) rfl rfl (Yi.pv _ rfl) ?_
              refine RW.yi (.bool (decide (1048576 < a2))) rfl rfl (Yi.pv _ rfl) ?_
              refine RW.yi (.bool (decide (1048576 < a2))) rfl rfl (Yi.pv _ rfl) ?_
              refine RW.fork 47 (1048576 < a2) rfl (fun h20 => ?_) (fun h20 => ?_)
              · replace hm := (if_pos h20).symm.trans hm
                refine RW.pass rfl rfl ?_
                refine RW.pass rfl rfl ?_
                refine RW.pass rfl rfl ?_
                refine RW.pass rfl rfl ?_
                refine RW.pass rfl rfl ?_
                refine RW.yi (.bool true) rfl rfl (Yi.pv _ rfl) ?_
                refine RW.yi (.bool true) rfl rfl (Yi.pv _ rfl) ?_
                refine RW.pass rfl rfl ?_
                refine RW.pass rfl rfl ?_
                refine RW.pass rfl rfl ?_
                refine RW.pass rfl rfl ?_
                refine RW.pass rfl rfl ?_
                refine RW.yi (.bool true) rfl rfl (Yi.pv _ rfl) ?_
                refine RW.nil ?_
                refine EW.next ?_
                refine CW.cond_true rfl ?_
                refine CW.seq ?_
                refine CW.region ?_
                obtain ⟨r21, hr21, hm⟩ := of_bind hm
                refine RW.ca (.bool r21) rfl rfl (Ca.call rfl rfl Tryd.call24 (fun w hM => c_awake10 K  r21 w (hG.keep hM rfl) hr21)) ?_
                refine RW.yi (.bool r21) rfl rfl (Yi.pv _ rfl) ?_
                refine RW.nil ?_
                refine EW.next ?_
                refine CW.ret ?_
                refine EW.thr ?_
                obtain rfl := Option.some.inj hm
                exact EW.done (rs := [.tmp 6]) rfl (.tmp (t := 6) (v := .bool r21) rfl .nil) (fun _ hM => ⟨rfl, hM.below⟩)
              · replace hm := (if_neg h20).symm.trans hm
                refine RW.yi (.int .i64 (Int.tmod (w64 (a1)) 64)) rfl rfl (Yi.pv _ rfl) ?_
                refine RW.yi (.pointer (some ⟨b1, 0, none⟩)) rfl rfl (Yi.indexAddr' _ Tryd.underlying34 Tryd.sizeOf23 rfl rfl (by decide) (by decide) (by omega)) ?_
                obtain ⟨g22, hm⟩ := of_guard hm
                refine RW.yi (.pointer (some ⟨b1, (Int.tmod (w64 (a1)) 64).toNat, none⟩)) rfl rfl (Yi.indexAddr' _ Tryd.underlying23 Tryd.sizeOf3 rfl rfl g22.1 g22.2 (by omega)) ?_
                refine RW.yi (.int .i64 (a0 ((Int.tmod (w64 (a1)) 64).toNat))) rfl rfl (Yi.load1 (i := 2) _ rfl rfl Tryd.isAgg3 (cf_get (by omega))) ?_
                refine RW.yi (.bool (decide ((a0 ((Int.tmod (w64 (a1)) 64).toNat)) < (-1048576)))) rfl rfl (Yi.pv _ rfl) ?_
                refine RW.yi (.bool (decide ((a0 ((Int.tmod (w64 (a1)) 64).toNat)) < (-1048576)))) rfl rfl (Yi.pv _ rfl) ?_
                refine RW.yi (.bool (decide ((a0 ((Int.tmod (w64 (a1)) 64).toNat)) < (-1048576)))) rfl rfl (Yi.pv _ rfl) ?_
                refine RW.fork 54 ((a0 ((Int.tmod (w64 (a1)) 64).toNat)) < (-1048576)) rfl (fun h23 => ?_) (fun h23 => ?_)
                · replace hm := (if_pos h23).symm.trans hm
                  refine RW.pass rfl rfl ?_
                  refine RW.pass rfl rfl ?_
                  refine RW.pass rfl rfl ?_
                  refine RW.pass rfl rfl ?_
                  refine RW.pass rfl rfl ?_
                  refine RW.yi (.bool true) rfl rfl (Yi.pv _ rfl) ?_
                  refine RW.nil ?_
                  refine EW.next ?_
                  refine CW.cond_true rfl ?_
                  refine CW.seq ?_
                  refine CW.region ?_
                  obtain ⟨r24, hr24, hm⟩ := of_bind hm
                  refine RW.ca (.bool r24) rfl rfl (Ca.call rfl rfl Tryd.call24 (fun w hM => c_awake10 K  r24 w (hG.keep hM rfl) hr24)) ?_
                  refine RW.yi (.bool r24) rfl rfl (Yi.pv _ rfl) ?_
                  refine RW.nil ?_
                  refine EW.next ?_
                  refine CW.ret ?_
                  refine EW.thr ?_
                  obtain rfl := Option.some.inj hm
                  exact EW.done (rs := [.tmp 6]) rfl (.tmp (t := 6) (v := .bool r24) rfl .nil) (fun _ hM => ⟨rfl, hM.below⟩)
                · replace hm := (if_neg h23).symm.trans hm
                  refine RW.yi (.int .i64 (Int.tmod (w64 (a1)) 64)) rfl rfl (Yi.pv _ rfl) ?_
                  refine RW.yi (.pointer (some ⟨b1, 0, none⟩)) rfl rfl (Yi.indexAddr' _ Tryd.underlying34 Tryd.sizeOf23 rfl rfl (by decide) (by decide) (by omega)) ?_
                  refine RW.yi (.pointer (some ⟨b1, (Int.tmod (w64 (a1)) 64).toNat, none⟩)) rfl rfl (Yi.indexAddr' _ Tryd.underlying23 Tryd.sizeOf3 rfl rfl g22.1 g22.2 (by omega)) ?_
                  refine RW.yi (.int .i64 (a0 ((Int.tmod (w64 (a1)) 64).toNat))) rfl rfl (Yi.load1 (i := 2) _ rfl rfl Tryd.isAgg3 (cf_get (by omega))) ?_
                  refine RW.yi (.bool (decide (1048576 < (a0 ((Int.tmod (w64 (a1)) 64).toNat))))) rfl rfl (Yi.pv _ rfl) ?_
                  refine RW.yi (.bool (decide (1048576 < (a0 ((Int.tmod (w64 (a1)) 64).toNat))))) rfl rfl (Yi.pv _ rfl) ?_
                  refine RW.nil ?_
                  refine EW.next ?_
                  refine CW.fork 60 (1048576 < (a0 ((Int.tmod (w64 (a1)) 64).toNat))) rfl (fun h25 => ?_) (fun h25 => ?_)
                  · replace hm := (if_pos h25).symm.trans hm
                    refine CW.cond_true rfl ?_
                    refine CW.seq ?_
                    refine CW.region ?_
                    obtain ⟨r26, hr26, hm⟩ := of_bind hm
                    refine RW.ca (.bool r26) rfl rfl (Ca.call rfl rfl Tryd.call24 (fun w hM => c_awake10 K  r26 w (hG.keep hM rfl) hr26)) ?_
                    refine RW.yi (.bool r26) rfl rfl (Yi.pv _ rfl) ?_
                    refine RW.nil ?_
                    refine EW.next ?_
                    refine CW.ret ?_
                    refine EW.thr ?_
                    obtain rfl := Option.some.inj hm
                    exact EW.done (rs := [.tmp 6]) rfl (.tmp (t := 6) (v := .bool r26) rfl .nil) (fun _ hM => ⟨rfl, hM.below⟩)
                  · replace hm := (if_neg h25).symm.trans hm
                    refine CW.cond_false rfl ?_
                    refine CW.skip ?_
                    refine EW.thn ?_
                    exact fun a w hs hM => ⟨hs.sub ⟨rfl, rfl, rfl, rfl, trivial⟩, hM.sub (.cons_cons _ (.cons _ (.cons_cons _ .slnil))), hm⟩
        · replace hm := (if_neg h15).symm.trans hm
          refine RW.pass rfl rfl ?_
          refine RW.pass rfl rfl ?_
          refine RW.pass rfl rfl ?_
          refine RW.yi (.bool false) rfl rfl (Yi.pv _ rfl) ?_
          refine RW.yi (.bool false) rfl rfl (Yi.pv _ rfl) ?_
          refine RW.yi (.int .i64 a2) rfl rfl (Yi.pv _ rfl) ?_
          refine RW.yi (.bool (decide (a2 < (-1048576)))) rfl rfl (Yi.pv _ rfl) ?_
          refine RW.yi (.bool (decide (a2 < (-1048576)))) rfl rfl (Yi.pv _ rfl) ?_
          refine RW.yi (.bool (decide (a2 < (-1048576)))) rfl rfl (Yi.pv _ rfl) ?_
          refine RW.fork 43 (a2 < (-1048576)) rfl (fun h27 => ?_) (fun h27 => ?_)
          · replace hm := (if_pos h27).symm.trans hm
            refine RW.pass rfl rfl ?_
            refine RW.pass rfl rfl ?_
            refine RW.yi (.bool true) rfl rfl (Yi.pv _ rfl) ?_
            refine RW.yi (.bool true) rfl rfl (Yi.pv _ rfl) ?_
            refine RW.pass rfl rfl ?_
            refine RW.pass rfl rfl ?_
            refine RW.pass rfl rfl ?_
            refine RW.pass rfl rfl ?_
            refine RW.pass rfl rfl ?_
            refine RW.yi (.bool true) rfl rfl (Yi.pv _ rfl) ?_
            refine RW.yi (.bool true) rfl rfl (Yi.pv _ rfl) ?_
            refine RW.pass rfl rfl ?_
            refine RW.pass rfl rfl ?_
            refine RW.pass rfl rfl ?_
            refine RW.pass rfl rfl ?_
            refine RW.pass rfl rfl ?_
            refine RW.yi (.bool true) rfl rfl (Yi.pv _ rfl) ?_
            refine RW.nil ?_
            refine EW.next ?_
            refine CW.cond_true rfl ?_
            refine CW.seq ?_
            refine CW.region ?_
            obtain ⟨r28, hr28, hm⟩ := of_bind hm
            refine RW.ca (.bool r28) rfl rfl (Ca.call rfl rfl Tryd.call24 (fun w hM => c_awake10 K  r28 w (hG.keep hM rfl) hr28)) ?_
            refine RW.yi (.bool r28) rfl rfl (Yi.pv _ rfl) ?_
            refine RW.nil ?_
            refine EW.next ?_
            refine CW.ret ?_
            refine EW.thr ?_
            obtain rfl := Option.some.inj hm
            exact EW.done (rs := [.tmp 6]) rfl (.tmp (t := 6) (v := .bool r28) rfl .nil) (fun _ hM => ⟨rfl, hM.below⟩)
          · replace hm := (if_neg h27).symm.trans hm
            refine RW.yi (.int .i64 a2) rfl rfl (Yi.pv _ rfl) ?_
            refine RW.yi (.bool (decide (1048576 < a2))) rfl rfl (Yi.pv _ rfl) ?_
            refine RW.yi (.bool (decide (1048576 < a2))) rfl rfl (Yi.pv _ rfl) ?_
            refine RW.yi (.bool (decide (1048576 < a2))) rfl rfl (Yi.pv _ rfl) ?_
            refine RW.fork 47 (1048576 < a2) rfl (fun h29 => ?_) (fun h29 => ?_)
            · replace hm := (if_pos h29).symm.trans hm
              refine RW.pass rfl rfl ?_
              refine RW.pass rfl rfl ?_
              refine RW.pass rfl rfl ?_
              refine RW.pass rfl rfl ?_
              refine RW.pass rfl rfl ?_
              refine RW.yi (.bool true) rfl rfl (Yi.pv _ rfl) ?_
              refine RW.yi (.bool true) rfl rfl (Yi.pv _ rfl) ?_
              refine RW.pass rfl rfl ?_
              refine RW.pass rfl rfl ?_
              refine RW.pass rfl rfl ?_
              refine RW.pass rfl rfl ?_
              refine RW.pass rfl rfl ?_
              refine RW.yi (.bool true) rfl rfl (Yi.pv _ rfl) ?_
              refine RW.nil ?_
              refine EW.next ?_
              refine CW.cond_true rfl ?_
              refine CW.seq ?_
              refine CW.region ?_
              obtain ⟨r30, hr30, hm⟩ := of_bind hm
              refine RW.ca (.bool r30) rfl rfl (Ca.call rfl rfl Tryd.call24 (fun w hM => c_awake10 K  r30 w (hG.keep hM rfl) hr30)) ?_
              refine RW.yi (.bool r30) rfl rfl (Yi.pv _ rfl) ?_
              refine RW.nil ?_
              refine EW.next ?_
              refine CW.ret ?_
              refine EW.thr ?_
              obtain rfl := Option.some.inj hm
              exact EW.done (rs := [.tmp 6]) rfl (.tmp (t := 6) (v := .bool r30) rfl .nil) (fun _ hM => ⟨rfl, hM.below⟩)
            · replace hm := (if_neg h29).symm.trans hm
              refine RW.yi (.int .i64 (Int.tmod (w64 (a1)) 64)) rfl rfl (Yi.pv _ rfl) ?_
              refine RW.yi (.pointer (some ⟨b1, 0, none⟩)) rfl rfl (Yi.indexAddr' _ Tryd.underlying34 Tryd.sizeOf23 rfl rfl (by decide) (by decide) (by omega)) ?_
              obtain ⟨g31, hm⟩ := of_guard hm
              refine RW.yi (.pointer (some ⟨b1, (Int.tmod (w64 (a1)) 64).toNat, none⟩)) rfl rfl (Yi.indexAddr' _ Tryd.underlying23 Tryd.sizeOf3 rfl rfl g31.1 g31.2 (by omega)) ?_
              refine RW.yi (.int .i64 (a0 ((Int.tmod (w64 (a1)) 64).toNat))) rfl rfl (Yi.load1 (i := 2) _ rfl rfl Tryd.isAgg3 (cf_get (by omega))) ?_
              refine RW.yi (.bool (decide ((a0 ((Int.tmod (w64 (a1)) 64).toNat)) < (-1048576)))) rfl rfl (Yi.pv _ rfl) ?_
              refine RW.yi (.bool (decide ((a0 ((Int.tmod (w64 (a1)) 64).toNat)) < (-1048576)))) rfl rfl (Yi.pv _ rfl) ?_
              refine RW.yi (.bool (decide ((a0 ((Int.tmod (w64 (a1)) 64).toNat)) < (-1048576)))) rfl rfl (Yi.pv _ rfl) ?_
              refine RW.fork 54 ((a0 ((Int.tmod (w64 (a1)) 64).toNat)) < (-1048576)) rfl (fun h32 => ?_) (fun h32 => ?_)
              · replace hm := (if_pos h32).symm.trans hm
                refine RW.pass rfl rfl ?_
                refine RW.pass rfl rfl ?_
                refine RW.pass rfl rfl ?_
                refine RW.pass rfl rfl ?_
                refine RW.pass rfl rfl ?_
                refine RW.yi (.bool true) rfl rfl (Yi.pv _ rfl) ?_
                refine RW.nil ?_
                refine EW.next ?_
                refine CW.cond_true rfl ?_
                refine CW.seq ?_
                refine CW.region ?_
                obtain ⟨r33, hr33, hm⟩ := of_bind hm
                refine RW.ca (.bool r33) rfl rfl (Ca.call rfl rfl Tryd.call24 (fun w hM => c_awake10 K  r33 w (hG.keep hM rfl) hr33)) ?_
                refine RW.yi (.bool r33) rfl rfl (Yi.pv _ rfl) ?_
                refine RW.nil ?_
                refine EW.next ?_
                refine CW.ret ?_
                refine EW.thr ?_
                obtain rfl := Option.some.inj hm
                exact EW.done (rs := [.tmp 6]) rfl (.tmp (t := 6) (v := .bool r33) rfl .nil) (fun _ hM => ⟨rfl, hM.below⟩)
              · replace hm := (if_neg h32).symm.trans hm
                refine RW.yi (.int .i64 (Int.tmod (w64 (a1)) 64)) rfl rfl (Yi.pv _ rfl) ?_
                refine RW.yi (.pointer (some ⟨b1, 0, none⟩)) rfl rfl (Yi.indexAddr' _ Tryd.underlying34 Tryd.sizeOf23 rfl rfl (by decide) (by decide) (by omega)) ?_
                refine RW.yi (.pointer (some ⟨b1, (Int.tmod (w64 (a1)) 64).toNat, none⟩)) rfl rfl (Yi.indexAddr' _ Tryd.underlying23 Tryd.sizeOf3 rfl rfl g31.1 g31.2 (by omega)) ?_
                refine RW.yi (.int .i64 (a0 ((Int.tmod (w64 (a1)) 64).toNat))) rfl rfl (Yi.load1 (i := 2) _ rfl rfl Tryd.isAgg3 (cf_get (by omega))) ?_
                refine RW.yi (.bool (decide (1048576 < (a0 ((Int.tmod (w64 (a1)) 64).toNat))))) rfl rfl (Yi.pv _ rfl) ?_
                refine RW.yi (.bool (decide (1048576 < (a0 ((Int.tmod (w64 (a1)) 64).toNat))))) rfl rfl (Yi.pv _ rfl) ?_
                refine RW.nil ?_
                refine EW.next ?_
                refine CW.fork 60 (1048576 < (a0 ((Int.tmod (w64 (a1)) 64).toNat))) rfl (fun h34 => ?_) (fun h34 => ?_)
                · replace hm := (if_pos h34).symm.trans hm
                  refine CW.cond_true rfl ?_
                  refine CW.seq ?_
                  refine CW.region ?_
                  obtain ⟨r35, hr35, hm⟩ := of_bind hm
                  refine RW.ca (.bool r35) rfl rfl (Ca.call rfl rfl Tryd.call24 (fun w hM => c_awake10 K  r35 w (hG.keep hM rfl) hr35)) ?_
                  refine RW.yi (.bool r35) rfl rfl (Yi.pv _ rfl) ?_
                  refine RW.nil ?_
                  refine EW.next ?_
                  refine CW.ret ?_
                  refine EW.thr ?_
                  obtain rfl := Option.some.inj hm
                  exact EW.done (rs := [.tmp 6]) rfl (.tmp (t := 6) (v := .bool r35) rfl .nil) (fun _ hM => ⟨rfl, hM.below⟩)
                · replace hm := (if_neg h34).symm.trans hm
                  refine CW.cond_false rfl ?_
                  refine CW.skip ?_
                  refine EW.thn ?_
                  exact fun a w hs hM => ⟨hs.sub ⟨rfl, rfl, rfl, rfl, trivial⟩, hM.sub (.cons_cons _ (.cons _ (.cons_cons _ .slnil))), hm⟩
      · rintro a w ⟨hs, hM, hm⟩
        unfold lawHalfNoughts_j1 at hm
        refine CW.enter hs hM ?_
        refine CW.seq ?_
        refine CW.region ?_
        refine RW.yi (.int .i64 (Int.tmod (w64 (a1)) 64)) rfl rfl (Yi.pv _ rfl) ?_
        refine RW.yi (.int .i64 a2) rfl rfl (Yi.pv _ rfl) ?_
        refine RW.yi (.pointer (some ⟨b6, 0, none⟩)) rfl rfl (Yi.indexAddr' _ Tryd.underlying34 Tryd.sizeOf23 rfl rfl (by decide) (by decide) (by omega)) ?_
        obtain ⟨g7, hm⟩ := of_guard hm
        refine RW.yi (.pointer (some ⟨b6, (Int.tmod (w64 (a1)) 64).toNat, none⟩)) rfl rfl (Yi.indexAddr' _ Tryd.underlying23 Tryd.sizeOf3 rfl rfl g7.1 g7.2 (by omega)) ?_
        refine RW.store1 (i := 0) (cs' := cf 256 (iv (upd a0 ((Int.tmod (w64 (a1)) 64).toNat) a2))) rfl rfl rfl rfl Tryd.sizeOf3 rfl rfl (by rw [cf_size]; omega) (by rw [cf_set, iv_upd]) ?_
        refine RW.nil ?_
        refine EW.next ?_
        refine CW.seq ?_
        refine CW.region ?_
        refine RW.yi (.agg (cf 256 (iv a0))) rfl rfl (Yi.loadW (i := 1) rfl rfl Tryd.isAgg34 Tryd.sizeOf34) ?_
        obtain ⟨r8, hr8, hm⟩ := of_bind hm
        refine RW.ca (.tuple #[.agg (cf 64 (iv r8.1)), .int .i64 r8.2]) rfl rfl (Ca.call rfl rfl Tryd.call20 (fun w hM => c_merge K a0 r8 w (hG.keep hM rfl) hr8)) ?_
        refine RW.yi (.tuple #[.agg (cf 64 (iv r8.1)), .int .i64 r8.2]) rfl rfl (Yi.pv _ rfl) ?_
        refine RW.yi (.agg (cf 64 (iv r8.1))) rfl rfl (Yi.pv _ rfl) ?_
        refine RW.yi (.int .i64 r8.2) rfl rfl (Yi.pv _ rfl) ?_
        refine RW.alloc (z := .agg (cf 64 (iv zf))) (cf 64 (iv zf)) rfl rfl (fun _ => by kernel_rfl) rfl (fun b9 => ?_)
        refine RW.storeW (i := 0) (cs' := cf 64 (iv r8.1)) rfl rfl rfl rfl (by rw [cf_size]; kernel_rfl) (by simp only [cf_size]) (iv_one _ _) ?_
        refine RW.yi (.int .i64 r8.2) rfl rfl (Yi.pv _ rfl) ?_
        refine RW.nil ?_
        refine EW.next ?_
        refine CW.seq ?_
        refine CW.region ?_
        refine RW.yi (.agg (cf 256 (iv (upd a0 ((Int.tmod (w64 (a1)) 64).toNat) a2)))) rfl rfl (Yi.loadW (i := 1) rfl rfl Tryd.isAgg34 Tryd.sizeOf34) ?_
        obtain ⟨r10, hr10, hm⟩ := of_bind hm
        refine RW.ca (.tuple #[.agg (cf 64 (iv r10.1)), .int .i64 r10.2]) rfl rfl (Ca.call rfl rfl Tryd.call20 (fun w hM => c_merge K (upd a0 ((Int.tmod (w64 (a1)) 64).toNat) a2) r10 w (hG.keep hM rfl) hr10)) ?_
        refine RW.yi (.tuple #[.agg (cf 64 (iv r10.1)), .int .i64 r10.2]) rfl rfl (Yi.pv _ rfl) ?_
        refine RW.yi (.agg (cf 64 (iv r10.1))) rfl rfl (Yi.pv _ rfl) ?_
        refine RW.yi (.int .i64 r10.2) rfl rfl (Yi.pv _ rfl) ?_
        refine RW.alloc (z := .agg (cf 64 (iv zf))) (cf 64 (iv zf)) rfl rfl (fun _ => by kernel_rfl) rfl (fun b11 => ?_)
        refine RW.storeW (i := 0) (cs' := cf 64 (iv r10.1)) rfl rfl rfl rfl (by rw [cf_size]; kernel_rfl) (by simp only [cf_size]) (iv_one _ _) ?_
        refine RW.yi (.int .i64 r10.2) rfl rfl (Yi.pv _ rfl) ?_
        refine RW.nil ?_
        refine EW.next ?_
        refine CW.seq ?_
        refine CW.region ?_
        refine RW.yi (.agg (cf 64 (iv r8.1))) rfl rfl (Yi.loadW (i := 1) rfl rfl Tryd.isAgg23 Tryd.sizeOf23) ?_
        refine RW.yi (.agg (cf 64 (iv r10.1))) rfl rfl (Yi.loadW (i := 0) rfl rfl Tryd.isAgg23 Tryd.sizeOf23) ?_
        refine RW.yi (.bool (decide (eqF 64 r8.1 r10.1))) rfl rfl (Yi.eqA Tryd.underlying23 Tryd.eqGuardType23 Tryd.underlying3 Tryd.sizeOf3 Tryd.isAgg3 rfl rfl) ?_
        refine RW.yi (.bool (decide (eqF 64 r8.1 r10.1))) rfl rfl (Yi.pv _ rfl) ?_
        refine RW.fork 79 (eqF 64 r8.1 r10.1) rfl (fun h12 => ?_) (fun h12 => ?_)
        · replace hm := (if_pos h12).symm.trans hm
          refine RW.yi (.int .i64 r8.2) rfl rfl (Yi.pv _ rfl) ?_
          refine RW.yi (.int .i64 r10.2) rfl rfl (Yi.pv _ rfl) ?_
          refine RW.yi (.bool (decide (r8.2 = r10.2))) rfl rfl (Yi.pv _ rfl) ?_
          refine RW.yi (.bool (decide (r8.2 = r10.2))) rfl rfl (Yi.pv _ rfl) ?_
          refine RW.yi (.bool (decide (r8.2 = r10.2))) rfl rfl (Yi.pv _ rfl) ?_
          refine RW.fork 84 (r8.2 = r10.2) rfl (fun h13 => ?_) (fun h13 => ?_)
          · replace hm := (if_pos h13).symm.trans hm
            obtain ⟨r14, hr14, hm⟩ := of_bind hm
            refine RW.ca (.bool r14) rfl rfl (Ca.call rfl rfl Tryd.call24 (fun w hM => c_awake10 K  r14 w (hG.keep hM rfl) hr14)) ?_
            refine RW.yi (.bool r14) rfl rfl (Yi.pv _ rfl) ?_
            refine RW.yi (.bool r14) rfl rfl (Yi.pv _ rfl) ?_
            refine RW.nil ?_
            refine EW.next ?_
            refine CW.ret ?_
            obtain rfl := Option.some.inj hm
            exact EW.done (rs := [.tmp 6]) rfl (.tmp (t := 6) (v := .bool r14) rfl .nil) (fun _ hM => ⟨rfl, hM.below⟩)
          · replace hm := (if_neg h13).symm.trans hm
            refine RW.pass rfl rfl ?_
            refine RW.yi (.bool false) rfl rfl (Yi.pv _ rfl) ?_
            refine RW.yi (.bool false) rfl rfl (Yi.pv _ rfl) ?_
            refine RW.nil ?_
            refine EW.next ?_
            refine CW.ret ?_
            obtain rfl := Option.some.inj hm
            exact EW.done (rs := [.tmp 6]) rfl (.tmp (t := 6) (v := .bool false) rfl .nil) (fun _ hM => ⟨rfl, hM.below⟩)
        · replace hm := (if_neg h12).symm.trans hm
          refine RW.pass rfl rfl ?_
          refine RW.pass rfl rfl ?_
          refine RW.pass rfl rfl ?_
          refine RW.yi (.bool false) rfl rfl (Yi.pv _ rfl) ?_
          refine RW.yi (.bool false) rfl rfl (Yi.pv _ rfl) ?_
          refine RW.pass rfl rfl ?_
          refine RW.yi (.bool false) rfl rfl (Yi.pv _ rfl) ?_
          refine RW.yi (.bool false) rfl rfl (Yi.pv _ rfl) ?_
          refine RW.nil ?_
          refine EW.next ?_
          refine CW.ret ?_
          obtain rfl := Option.some.inj hm
          exact EW.done (rs := [.tmp 6]) rfl (.tmp (t := 6) (v := .bool false) rfl .nil) (fun _ hM => ⟨rfl, hM.below⟩)
def lawHalfTurned_j2 (K : Nat)  (r4 : ((Nat → Int) × Int)) (r6 : ((Nat → Int) × Int))  : Option (Bool) :=
  (if r4.2 = r6.2 then ((awake10 K ).bind fun r9 => some r9) else some false)

def lawHalfTurned_l1 (K : Nat) (r4 : ((Nat → Int) × Int)) (r6 : ((Nat → Int) × Int)) : Nat → Int →  Option (Bool)
  | 0, _ => none
  | k1 + 1, v10 =>
    (if v10 < 64 then (if 0 ≤ v10 ∧ v10 < 64 then (if 0 ≤ (w64 ((w64 ((Int.tmod v10 8) * 8)) + (w64 (Int.tdiv v10 8)))) ∧ (w64 ((w64 ((Int.tmod v10 8) * 8)) + (w64 (Int.tdiv v10 8)))) < 64 then (if ¬ (r4.1 v10.toNat) = (r6.1 ((w64 ((w64 ((Int.tmod v10 8) * 8)) + (w64 (Int.tdiv v10 8)))).toNat)) then some false else (lawHalfTurned_l1 K r4 r6 k1) (w64 (v10 + 1))) else none) else none) else lawHalfTurned_j2 K r4 r6)

def lawHalfTurned_j1 (K : Nat)  (a0 : (Nat → Int)) (v3 : (Nat → Int)) : Option (Bool) :=
  ((merge K a0).bind fun r4 => ((merge K v3).bind fun r6 => lawHalfTurned_l1 K r4 r6 K 0))

def lawHalfTurned_j3 (_ : Nat) (cb_lawHalfTurned_l2 : Int → (Nat → Int) → Option (Bool)) (v16 : Int) (v19 : (Nat → Int)) : Option (Bool) :=
  cb_lawHalfTurned_l2 (w64 (v16 + 1)) v19

def lawHalfTurned_l3 (K : Nat) (cb_lawHalfTurned_l2 : Int → (Nat → Int) → Option (Bool)) (a0 : (Nat → Int)) (v16 : Int) : Nat → Int → (Nat → Int) →  Option (Bool)
  | 0, _, _ => none
  | k3 + 1, v22, v23 =>
    (if v22 < 64 then (if 0 ≤ v22 ∧ v22 < 64 then (if 0 ≤ (w64 ((w64 ((Int.tmod v16 2) * 2)) + (w64 (Int.tdiv v16 2)))) ∧ (w64 ((w64 ((Int.tmod v16 2) * 2)) + (w64 (Int.tdiv v16 2)))) < 4 then (if 0 ≤ (w64 ((w64 ((Int.tmod v22 8) * 8)) + (w64 (Int.tdiv v22 8)))) ∧ (w64 ((w64 ((Int.tmod v22 8) * 8)) + (w64 (Int.tdiv v22 8)))) < 64 then (lawHalfTurned_l3 K cb_lawHalfTurned_l2 a0 v16 k3) (w64 (v22 + 1)) (upd v23 ((w64 ((w64 ((Int.tmod v16 2) * 2)) + (w64 (Int.tdiv v16 2)))).toNat * 64 + (w64 ((w64 ((Int.tmod v22 8) * 8)) + (w64 (Int.tdiv v22 8)))).toNat) ((shf a0 (v16.toNat * 64)) v22.toNat)) else none) else none) else none) else lawHalfTurned_j3 K cb_lawHalfTurned_l2 v16 v23)

def lawHalfTurned_l2 (K : Nat) (a0 : (Nat → Int)) : Nat → Int → (Nat → Int) →  Option (Bool)
  | 0, _, _ => none
  | k2 + 1, v16, v17 =>
    (if v16 < 4 then (if 0 ≤ v16 ∧ v16 < 4 then lawHalfTurned_l3 K (lawHalfTurned_l2 K a0 k2) a0 v16 K 0 v17 else none) else lawHalfTurned_j1 K a0 v17)

def lawHalfTurned (K : Nat) (a0 : (Nat → Int)) : Option (Bool) :=
  lawHalfTurned_l2 K a0 K 0 zf

theorem c_lawHalfTurned (K : Nat) (a0 : (Nat → Int)) (r : Bool) (w0 : World) (hG : Gl GH w0) (hm : lawHalfTurned K a0 = some r) : Calls Tryd.prog 7 #[.agg (cf 256 (iv a0))] w0 fun e w' => e = .returned (.bool r) ∧ Below w0.heap.size w0 w' := by
  unfold lawHalfTurned at hm
  refine calls_CW (n := 71) w0 [] [] Tryd.func7 rfl rfl rfl (Mem.begin w0) ?_
  refine CW.seq ?_
  refine CW.region ?_
  refine RW.box (v := .agg (cf 256 (iv a0))) rfl rfl rfl (fun b1 => ?_)
  refine RW.yi (.bool false) rfl rfl (Yi.pv _ rfl) ?_
  refine RW.nil ?_
  refine EW.next ?_
  refine CW.seq ?_
  refine CW.region ?_
  refine RW.alloc (z := .agg (cf 256 (iv zf))) (cf 256 (iv zf)) rfl rfl (fun _ => by kernel_rfl) rfl (fun b2 => ?_)
  refine RW.nil ?_
  refine EW.next ?_
  refine CW.join (fun a w => ∃ (v3 : (Nat → Int)), St 71 [(1, .pointer (some ⟨b1, 0, none⟩)), (3, .pointer (some ⟨b2, 0, none⟩))] a ∧ Mem w0 [] [.blk b2 34 (cf 256 (iv v3)), .blk b1 34 (cf 256 (iv a0))] w ∧ lawHalfTurned_j1 K a0 v3 = some r) ?_ ?_
  · refine CW.seq ?_
    refine CW.region ?_
    refine RW.yi (.int .i64 0) rfl rfl (Yi.pv _ rfl) ?_
    refine RW.nil ?_
    refine EW.next ?_
    refine CW.block ?_
    refine CW.loop (fun k a w => ∃ (v16 : Int) (v17 : (Nat → Int)), St 71 [(1, .pointer (some ⟨b1, 0, none⟩)), (3, .pointer (some ⟨b2, 0, none⟩)), (12, .int .i64 v16)] a ∧ Mem w0 [] [.blk b2 34 (cf 256 (iv v17)), .blk b1 34 (cf 256 (iv a0))] w ∧ lawHalfTurned_l2 K a0 k v16 v17 = some r) K ?_ ?_ ?_
    · rintro a w ⟨_, _, _, _, hm⟩
      rw [lawHalfTurned_l2.eq_1] at hm
      cases hm
    · exact fun a w hs hM => ⟨0, zf, hs.sub ⟨rfl, rfl, rfl, trivial⟩, hM.sub (.cons_cons _ (.cons_cons _ .slnil)), hm⟩
    · rintro k2 a w ⟨v16, v17, hs, hM, hm⟩
      rw [lawHalfTurned_l2.eq_2] at hm
      refine CW.enter hs hM ?_
      refine CW.seq ?_
      refine CW.region ?_
      refine RW.yi (.bool (decide (v16 < 4))) rfl rfl (Yi.pv _ rfl) ?_
      refine RW.nil ?_
      refine EW.next ?_
      refine CW.seq ?_
      refine CW.fork 13 (v16 < 4) rfl (fun h18 => ?_) (fun h18 => ?_)
      · replace hm := (if_pos h18).symm.trans hm
        refine CW.cond_true rfl ?_
        refine CW.skip ?_
        refine EW.next ?_
        refine CW.join (fun a w => ∃ (v19 : (Nat → Int)), St 71 [(1, .pointer (some ⟨b1, 0, none⟩)), (3, .pointer (some ⟨b2, 0, none⟩)), (12, .int .i64 v16)] a ∧ Mem w0 [] [.blk b2 34 (cf 256 (iv v19)), .blk b1 34 (cf 256 (iv a0))] w ∧ lawHalfTurned_j3 K (lawHalfTurned_l2 K a0 k2) v16 v19 = some r) ?_ ?_
        · refine CW.block ?_
          refine CW.seq ?_
          refine CW.region ?_
          refine RW.yi (.int .i64 v16) rfl rfl (Yi.pv _ rfl) ?_
          refine RW.yi (.int .i64 v16) rfl rfl (Yi.pv _ rfl) ?_
          refine RW.nil ?_
          refine EW.next ?_
          refine CW.seq ?_
          refine CW.region ?_
          refine RW.yi (.int .i64 v16) rfl rfl (Yi.pv _ rfl) ?_
          obtain ⟨g20, hm⟩ := of_guard hm
          refine RW.yi (.pointer (some ⟨b1, v16.toNat * 64, none⟩)) rfl rfl (Yi.indexAddr' _ Tryd.underlying34 Tryd.sizeOf23 rfl rfl g20.1 g20.2 (by omega)) ?_
          refine RW.yi (.agg (cf 64 (iv (shf a0 (v16.toNat * 64))))) rfl rfl (Yi.loadP (i := 1) rfl rfl Tryd.isAgg23 Tryd.sizeOf23 (by omega)) ?_
          refine RW.yi (.int .i64 0) rfl rfl (Yi.pv _ rfl) ?_
          refine RW.nil ?_
          refine EW.next ?_
          refine CW.block ?_
          refine CW.loop (fun k a w => ∃ (v22 : Int) (v23 : (Nat → Int)), St 71 [(1, .pointer (some ⟨b1, 0, none⟩)), (3, .pointer (some ⟨b2, 0, none⟩)), (4, .int .i64 v16), (12, .int .i64 v16), (17, .agg (cf 64 (iv (shf a0 (v16.toNat * 64))))), (18, .int .i64 v22)] a ∧ Mem w0 [] [.blk b2 34 (cf 256 (iv v23)), .blk b1 34 (cf 256 (iv a0))] w ∧ lawHalfTurned_l3 K (lawHalfTurned_l2 K a0 k2) a0 v16 k v22 v23 = some r) K ?_ ?_ ?_
          · rintro a w ⟨_, _, _, _, hm⟩
            rw [lawHalfTurned_l3.eq_1] at hm
            cases hm
          · exact fun a w hs hM => ⟨0, v17, hs.sub ⟨rfl, rfl, rfl, rfl, rfl, rfl, trivial⟩, hM.sub (.cons_cons _ (.cons_cons _ .slnil)), hm⟩
          · rintro k3 a w ⟨v22, v23, hs, hM, hm⟩
            rw [lawHalfTurned_l3.eq_2] at hm
            refine CW.enter hs hM ?_
            refine CW.seq ?_
            refine CW.region ?_
            refine RW.yi (.bool (decide (v22 < 64))) rfl rfl (Yi.pv _ rfl) ?_
            refine RW.nil ?_
            refine EW.next ?_
            refine CW.seq ?_
            refine CW.fork 19 (v22 < 64) rfl (fun h24 => ?_) (fun h24 => ?_)
            · replace hm := (if_pos h24).symm.trans hm
              refine CW.cond_true rfl ?_
              refine CW.skip ?_
              refine EW.next ?_
              refine CW.seq ?_
              refine CW.block ?_
              refine CW.seq ?_
              refine CW.region ?_
              refine RW.yi (.int .i64 v22) rfl rfl (Yi.pv _ rfl) ?_
              obtain ⟨g25, hm⟩ := of_guard hm
              refine RW.yi (.int .i64 ((shf a0 (v16.toNat * 64)) v22.toNat)) rfl rfl (Yi.index _ Tryd.underlying23 Tryd.sizeOf3 Tryd.isAgg3 rfl rfl g25.1 g25.2 (cf_get (by omega))) ?_
              refine RW.yi (.int .i64 v22) rfl rfl (Yi.pv _ rfl) ?_
              refine RW.yi (.int .i64 ((shf a0 (v16.toNat * 64)) v22.toNat)) rfl rfl (Yi.pv _ rfl) ?_
              refine RW.nil ?_
              refine EW.next ?_
              refine CW.region ?_
              refine RW.yi (.int .i64 v16) rfl rfl (Yi.pv _ rfl) ?_
              refine RW.yi (.int .i64 (Int.tmod v16 2)) rfl rfl (Yi.rem rfl rfl (by decide)) ?_
              refine RW.yi (.int .i64 (w64 ((Int.tmod v16 2) * 2))) rfl rfl (Yi.pv _ rfl) ?_
              refine RW.yi (.int .i64 v16) rfl rfl (Yi.pv _ rfl) ?_
              refine RW.yi (.int .i64 (w64 (Int.tdiv v16 2))) rfl rfl (Yi.quo rfl rfl (by decide)) ?_
              refine RW.yi (.int .i64 (w64 ((w64 ((Int.tmod v16 2) * 2)) + (w64 (Int.tdiv v16 2))))) rfl rfl (Yi.pv _ rfl) ?_
              refine RW.yi (.int .i64 v22) rfl rfl (Yi.pv _ rfl) ?_
              refine RW.yi (.int .i64 (Int.tmod v22 8)) rfl rfl (Yi.rem rfl rfl (by decide)) ?_
              refine RW.yi (.int .i64 (w64 ((Int.tmod v22 8) * 8))) rfl rfl (Yi.pv _ rfl) ?_
              refine RW.yi (.int .i64 v22) rfl rfl (Yi.pv _ rfl) ?_
              refine RW.yi (.int .i64 (w64 (Int.tdiv v22 8))) rfl rfl (Yi.quo rfl rfl (by decide)) ?_
              refine RW.yi (.int .i64 (w64 ((w64 ((Int.tmod v22 8) * 8)) + (w64 (Int.tdiv v22 8))))) rfl rfl (Yi.pv _ rfl) ?_
              refine RW.yi (.int .i64 ((shf a0 (v16.toNat * 64)) v22.toNat)) rfl rfl (Yi.pv _ rfl) ?_
              obtain ⟨g26, hm⟩ := of_guard hm
              refine RW.yi (.pointer (some ⟨b2, (w64 ((w64 ((Int.tmod v16 2) * 2)) + (w64 (Int.tdiv v16 2)))).toNat * 64, none⟩)) rfl rfl (Yi.indexAddr' _ Tryd.underlying34 Tryd.sizeOf23 rfl rfl g26.1 g26.2 (by omega)) ?_
              obtain ⟨g27, hm⟩ := of_guard hm
              refine RW.yi (.pointer (some ⟨b2, (w64 ((w64 ((Int.tmod v16 2) * 2)) + (w64 (Int.tdiv v16 2)))).toNat * 64 + (w64 ((w64 ((Int.tmod v22 8) * 8)) + (w64 (Int.tdiv v22 8)))).toNat, none⟩)) rfl rfl (Yi.indexAddr' _ Tryd.underlying23 Tryd.sizeOf3 rfl rfl g27.1 g27.2 (by omega)) ?_
              refine RW.store1 (i := 0) (cs' := cf 256 (iv (upd v23 ((w64 ((w64 ((Int.tmod v16 2) * 2)) + (w64 (Int.tdiv v16 2)))).toNat * 64 + (w64 ((w64 ((Int.tmod v22 8) * 8)) + (w64 (Int.tdiv v22 8)))).toNat) ((shf a0 (v16.toNat * 64)) v22.toNat)))) rfl rfl rfl rfl Tryd.sizeOf3 rfl rfl (by rw [cf_size]; omega) (by rw [cf_set, iv_upd]) ?_
              refine RW.nil ?_
              refine EW.bln ?_
              refine EW.next ?_
              refine CW.region ?_
              refine RW.yi (.int .i64 (w64 (v22 + 1))) rfl rfl (Yi.pv _ rfl) ?_
              refine RW.yi (.int .i64 (w64 (v22 + 1))) rfl rfl (Yi.pv _ rfl) ?_
              refine RW.nil ?_
              refine EW.thn ?_
              exact fun a w hs hM => ⟨(w64 (v22 + 1)), (upd v23 ((w64 ((w64 ((Int.tmod v16 2) * 2)) + (w64 (Int.tdiv v16 2)))).toNat * 64 + (w64 ((w64 ((Int.tmod v22 8) * 8)) + (w64 (Int.tdiv v22 8)))).toNat) ((shf a0 (v16.toNat * 64)) v22.toNat)), hs.sub ⟨rfl, rfl, rfl, rfl, rfl, rfl, trivial⟩, hM.sub (.cons_cons _ (.cons_cons _ .slnil)), hm⟩
            · replace hm := (if_neg h24).symm.trans hm
              refine CW.cond_false rfl ?_
              refine CW.exit ?_
              refine EW.thx ?_
              refine EW.thx ?_
              refine EW.blx ?_
              refine EW.bln ?_
              refine EW.thn ?_
              exact fun a w hs hM => ⟨v23, hs.sub ⟨rfl, rfl, rfl, trivial⟩, hM.sub (.cons_cons _ (.cons_cons _ .slnil)), hm⟩
        · rintro a w ⟨v19, hs, hM, hm⟩
          unfold lawHalfTurned_j3 at hm
          refine CW.enter hs hM ?_
          refine CW.region ?_
          refine RW.yi (.int .i64 (w64 (v16 + 1))) rfl rfl (Yi.pv _ rfl) ?_
          refine RW.yi (.int .i64 (w64 (v16 + 1))) rfl rfl (Yi.pv _ rfl) ?_
          refine RW.nil ?_
          refine EW.thn ?_
          exact fun a w hs hM => ⟨(w64 (v16 + 1)), v19, hs.sub ⟨rfl, rfl, rfl, trivial⟩, hM.sub (.cons_cons _ (.cons_cons _ .slnil)), hm⟩
      · replace hm := (if_neg h18).symm.trans hm
        refine CW.cond_false rfl ?_
        refine CW.exit ?_
        refine EW.thx ?_
        refine EW.thx ?_
        refine EW.blx ?_
        refine EW.thn ?_
        exact fun a w hs hM => ⟨v17, hs.sub ⟨rfl, rfl, trivial⟩, hM.sub (.cons_cons _ (.cons_cons _ .slnil)), hm⟩
  · rintro a w ⟨v3, hs, hM, hm⟩
    unfold lawHalfTurned_j1 at hm
    refine CW.enter hs hM ?_
    refine CW.seq ?_
    refine CW.region ?_
    refine RW.yi (.agg (cf 256 (iv a0))) rfl rfl (Yi.loadW (i := 1) rfl rfl Tryd.isAgg34 Tryd.sizeOf34) ?_
    obtain ⟨r4, hr4, hm⟩ := of_bind hm
    refine RW.ca (.tuple #[.agg (cf 64 (iv r4.1)), .int .i64 r4.2]) rfl rfl (Ca.call rfl rfl Tryd.call20 (fun w hM => c_merge K a0 r4 w (hG.keep hM rfl) hr4)) ?_
    refine RW.yi (.tuple #[.agg (cf 64 (iv r4.1)), .int .i64 r4.2]) rfl rfl (Yi.pv _ rfl) ?_
    refine RW.yi (.agg (cf 64 (iv r4.1))) rfl rfl (Yi.pv _ rfl) ?_
    refine RW.yi (.int .i64 r4.2) rfl rfl (Yi.pv _ rfl) ?_
    refine RW.alloc (z := .agg (cf 64 (iv zf))) (cf 64 (iv zf)) rfl rfl (fun _ => by kernel_rfl) rfl (fun b5 => ?_)
    refine RW.storeW (i := 0) (cs' := cf 64 (iv r4.1)) rfl rfl rfl rfl (by rw [cf_size]; kernel_rfl) (by simp only [cf_size]) (iv_one _ _) ?_
    refine RW.yi (.int .i64 r4.2) rfl rfl (Yi.pv _ rfl) ?_
    refine RW.nil ?_
    refine EW.next ?_
    refine CW.seq ?_
    refine CW.region ?_
    refine RW.yi (.agg (cf 256 (iv v3))) rfl rfl (Yi.loadW (i := 1) rfl rfl Tryd.isAgg34 Tryd.sizeOf34) ?_
    obtain ⟨r6, hr6, hm⟩ := of_bind hm
    refine RW.ca (.tuple #[.agg (cf 64 (iv r6.1)), .int .i64 r6.2]) rfl rfl (Ca.call rfl rfl Tryd.call20 (fun w hM => c_merge K v3 r6 w (hG.keep hM rfl) hr6)) ?_
    refine RW.yi (.tuple #[.agg (cf 64 (iv r6.1)), .int .i64 r6.2]) rfl rfl (Yi.pv _ rfl) ?_
    refine RW.yi (.agg (cf 64 (iv r6.1))) rfl rfl (Yi.pv _ rfl) ?_
    refine RW.yi (.int .i64 r6.2) rfl rfl (Yi.pv _ rfl) ?_
    refine RW.alloc (z := .agg (cf 64 (iv zf))) (cf 64 (iv zf)) rfl rfl (fun _ => by kernel_rfl) rfl (fun b7 => ?_)
    refine RW.storeW (i := 0) (cs' := cf 64 (iv r6.1)) rfl rfl rfl rfl (by rw [cf_size]; kernel_rfl) (by simp only [cf_size]) (iv_one _ _) ?_
    refine RW.yi (.int .i64 r6.2) rfl rfl (Yi.pv _ rfl) ?_
    refine RW.nil ?_
    refine EW.next ?_
    refine CW.join (fun a w => St 71 [(8, .int .i64 r4.2), (10, .int .i64 r6.2)] a ∧ Mem w0 [] [] w ∧ lawHalfTurned_j2 K r4 r6 = some r) ?_ ?_
    · refine CW.seq ?_
      refine CW.region ?_
      refine RW.yi (.int .i64 0) rfl rfl (Yi.pv _ rfl) ?_
      refine RW.nil ?_
      refine EW.next ?_
      refine CW.block ?_
      refine CW.loop (fun k a w => ∃ (v10 : Int), St 71 [(7, .pointer (some ⟨b5, 0, none⟩)), (8, .int .i64 r4.2), (9, .pointer (some ⟨b7, 0, none⟩)), (10, .int .i64 r6.2), (49, .int .i64 v10)] a ∧ Mem w0 [] [.blk b7 23 (cf 64 (iv r6.1)), .blk b5 23 (cf 64 (iv r4.1))] w ∧ lawHalfTurned_l1 K r4 r6 k v10 = some r) K ?_ ?_ ?_
      · rintro a w ⟨_, _, _, hm⟩
        rw [lawHalfTurned_l1.eq_1] at hm
        cases hm
      · exact fun a w hs hM => ⟨0, hs.sub ⟨rfl, rfl, rfl, rfl, rfl, trivial⟩, hM.sub (.cons_cons _ (.cons_cons _ (.cons _ (.cons _ .slnil)))), hm⟩
      · rintro k1 a w ⟨v10, hs, hM, hm⟩
        rw [lawHalfTurned_l1.eq_2] at hm
        refine CW.enter hs hM ?_
        refine CW.seq ?_
        refine CW.region ?_
        refine RW.yi (.bool (decide (v10 < 64))) rfl rfl (Yi.pv _ rfl) ?_
        refine RW.nil ?_
        refine EW.next ?_
        refine CW.seq ?_
        refine CW.fork 50 (v10 < 64) rfl (fun h11 => ?_) (fun h11 => ?_)
        · replace hm := (if_pos h11).symm.trans hm
          refine CW.cond_true rfl ?_
          refine CW.skip ?_
          refine EW.next ?_
          refine CW.seq ?_
          refine CW.block ?_
          refine CW.seq ?_
          refine CW.region ?_
          refine RW.yi (.int .i64 v10) rfl rfl (Yi.pv _ rfl) ?_
          refine RW.yi (.int .i64 v10) rfl rfl (Yi.pv _ rfl) ?_
          refine RW.nil ?_
          refine EW.next ?_
          refine CW.seq ?_
          refine CW.draws (by kernel_rfl) (by kernel_rfl) ?_
          refine QW.yi (.int .i64 v10) rfl rfl (Yi.pv _ rfl) ?_
          obtain ⟨g12, hm⟩ := of_guard hm
          refine QW.yi (.pointer (some ⟨b5, v10.toNat, none⟩)) rfl rfl (Yi.indexAddr' _ Tryd.underlying23 Tryd.sizeOf3 rfl rfl g12.1 g12.2 (by omega)) ?_
          refine QW.yi (.int .i64 (r4.1 v10.toNat)) rfl rfl (Yi.load1 (i := 1) _ rfl rfl Tryd.isAgg3 (cf_get (by omega))) ?_
          refine QW.yi (.int .i64 v10) rfl rfl (Yi.pv _ rfl) ?_
          refine QW.yi (.int .i64 (Int.tmod v10 8)) rfl rfl (Yi.rem rfl rfl (by decide)) ?_
          refine QW.yi (.int .i64 (w64 ((Int.tmod v10 8) * 8))) rfl rfl (Yi.pv _ rfl) ?_
          refine QW.yi (.int .i64 v10) rfl rfl (Yi.pv _ rfl) ?_
          refine QW.yi (.int .i64 (w64 (Int.tdiv v10 8))) rfl rfl (Yi.quo rfl rfl (by decide)) ?_
          refine QW.yi (.int .i64 (w64 ((w64 ((Int.tmod v10 8) * 8)) + (w64 (Int.tdiv v10 8))))) rfl rfl (Yi.pv _ rfl) ?_
          obtain ⟨g13, hm⟩ := of_guard hm
          refine QW.yi (.pointer (some ⟨b7, (w64 ((w64 ((Int.tmod v10 8) * 8)) + (w64 (Int.tdiv v10 8)))).toNat, none⟩)) rfl rfl (Yi.indexAddr' _ Tryd.underlying23 Tryd.sizeOf3 rfl rfl g13.1 g13.2 (by omega)) ?_
          refine QW.yi (.int .i64 (r6.1 ((w64 ((w64 ((Int.tmod v10 8) * 8)) + (w64 (Int.tdiv v10 8)))).toNat))) rfl rfl (Yi.load1 (i := 0) _ rfl rfl Tryd.isAgg3 (cf_get (by omega))) ?_
          refine QW.yi (.bool (decide (¬ (r4.1 v10.toNat) = (r6.1 ((w64 ((w64 ((Int.tmod v10 8) * 8)) + (w64 (Int.tdiv v10 8)))).toNat))))) rfl rfl (Yi.pv _ rfl) ?_
          refine QW.nil ?_
          refine EW.next ?_
          refine CW.fork 63 (¬ (r4.1 v10.toNat) = (r6.1 ((w64 ((w64 ((Int.tmod v10 8) * 8)) + (w64 (Int.tdiv v10 8)))).toNat))) rfl (fun h14 => ?_) (fun h14 => ?_)
          · replace hm := (if_pos h14).symm.trans hm
            refine CW.cond_true rfl ?_
            refine CW.seq ?_
            refine CW.region ?_
            refine RW.yi (.bool false) rfl rfl (Yi.pv _ rfl) ?_
            refine RW.nil ?_
            refine EW.next ?_
            refine CW.ret ?_
            refine EW.blr ?_
            refine EW.thr ?_
            refine EW.thr ?_
            refine EW.blr ?_
            refine EW.thr ?_
            obtain rfl := Option.some.inj hm
            exact EW.done (rs := [.tmp 2]) rfl (.tmp (t := 2) (v := .bool false) rfl .nil) (fun _ hM => ⟨rfl, hM.below⟩)
          · replace hm := (if_neg h14).symm.trans hm
            refine CW.cond_false rfl ?_
            refine CW.skip ?_
            refine EW.bln ?_
            refine EW.next ?_
            refine CW.region ?_
            refine RW.yi (.int .i64 (w64 (v10 + 1))) rfl rfl (Yi.pv _ rfl) ?_
            refine RW.yi (.int .i64 (w64 (v10 + 1))) rfl rfl (Yi.pv _ rfl) ?_
            refine RW.nil ?_
            refine EW.thn ?_
            exact fun a w hs hM => ⟨(w64 (v10 + 1)), hs.sub ⟨rfl, rfl, rfl, rfl, rfl, trivial⟩, hM.sub (.cons_cons _ (.cons_cons _ .slnil)), hm⟩
        · replace hm := (if_neg h11).symm.trans hm
          refine CW.cond_false rfl ?_
          refine CW.exit ?_
          refine EW.thx ?_
          refine EW.thx ?_
          refine EW.blx ?_
          refine EW.thn ?_
          exact fun a w hs hM => ⟨hs.sub ⟨rfl, rfl, trivial⟩, hM.sub (.cons _ (.cons _ .slnil)), hm⟩
    · rintro a w ⟨hs, hM, hm⟩
      unfold lawHalfTurned_j2 at hm
      refine CW.enter hs hM ?_
      refine CW.seq ?_
      refine CW.region ?_
      refine RW.yi (.int .i64 r4.2) rfl rfl (Yi.pv _ rfl) ?_
      refine RW.yi (.int .i64 r6.2) rfl rfl (Yi.pv _ rfl) ?_
      refine RW.yi (.bool (decide (r4.2 = r6.2))) rfl rfl (Yi.pv _ rfl) ?_
      refine RW.yi (.bool (decide (r4.2 = r6.2))) rfl rfl (Yi.pv _ rfl) ?_
      refine RW.fork 68 (r4.2 = r6.2) rfl (fun h8 => ?_) (fun h8 => ?_)
      · replace hm := (if_pos h8).symm.trans hm
        obtain ⟨r9, hr9, hm⟩ := of_bind hm
        refine RW.ca (.bool r9) rfl rfl (Ca.call rfl rfl Tryd.call24 (fun w hM => c_awake10 K  r9 w (hG.keep hM rfl) hr9)) ?_
        refine RW.yi (.bool r9) rfl rfl (Yi.pv _ rfl) ?_
        refine RW.yi (.bool r9) rfl rfl (Yi.pv _ rfl) ?_
        refine RW.nil ?_
        refine EW.next ?_
        refine CW.ret ?_
        obtain rfl := Option.some.inj hm
        exact EW.done (rs := [.tmp 2]) rfl (.tmp (t := 2) (v := .bool r9) rfl .nil) (fun _ hM => ⟨rfl, hM.below⟩)
      · replace hm := (if_neg h8).symm.trans hm
        refine RW.pass rfl rfl ?_
        refine RW.yi (.bool false) rfl rfl (Yi.pv _ rfl) ?_
        refine RW.yi (.bool false) rfl rfl (Yi.pv _ rfl) ?_
        refine RW.nil ?_
        refine EW.next ?_
        refine CW.ret ?_
        obtain rfl := Option.some.inj hm
        exact EW.done (rs := [.tmp 2]) rfl (.tmp (t := 2) (v := .bool false) rfl .nil) (fun _ hM => ⟨rfl, hM.below⟩)
def lawHalfSigns_j2 (K : Nat)  (r6 : ((Nat → Int) × Int)) (r4 : ((Nat → Int) × Int))  : Option (Bool) :=
  (if r4.2 = 0 then (if r6.2 = 0 then ((awake10 K ).bind fun r10 => some r10) else some false) else some false)

def lawHalfSigns_l1 (K : Nat) (r6 : ((Nat → Int) × Int)) (r4 : ((Nat → Int) × Int)) : Nat → Int →  Option (Bool)
  | 0, _ => none
  | k1 + 1, v11 =>
    (if v11 < 64 then (if 0 ≤ v11 ∧ v11 < 64 then (if ¬ (r4.1 v11.toNat) = (w64 (0 - (r6.1 v11.toNat))) then some false else (lawHalfSigns_l1 K r6 r4 k1) (w64 (v11 + 1))) else none) else lawHalfSigns_j2 K r6 r4)

def lawHalfSigns_j1 (K : Nat)  (a0 : (Nat → Int)) (v3 : (Nat → Int)) : Option (Bool) :=
  ((merge K a0).bind fun r4 => ((merge K v3).bind fun r6 => lawHalfSigns_l1 K r6 r4 K 0))

def lawHalfSigns_j3 (_ : Nat) (cb_lawHalfSigns_l2 : Int → (Nat → Int) → Option (Bool)) (v16 : Int) (v19 : (Nat → Int)) : Option (Bool) :=
  cb_lawHalfSigns_l2 (w64 (v16 + 1)) v19

def lawHalfSigns_l3 (K : Nat) (cb_lawHalfSigns_l2 : Int → (Nat → Int) → Option (Bool)) (a0 : (Nat → Int)) (v16 : Int) : Nat → Int → (Nat → Int) →  Option (Bool)
  | 0, _, _ => none
  | k3 + 1, v24, v25 =>
    (if v24 < 64 then (if 0 ≤ v24 ∧ v24 < 64 then (lawHalfSigns_l3 K cb_lawHalfSigns_l2 a0 v16 k3) (w64 (v24 + 1)) (upd v25 (v16.toNat * 64 + v24.toNat) (w64 (0 - ((shf a0 (v16.toNat * 64)) v24.toNat)))) else none) else lawHalfSigns_j3 K cb_lawHalfSigns_l2 v16 v25)

def lawHalfSigns_l2 (K : Nat) (a0 : (Nat → Int)) : Nat → Int → (Nat → Int) →  Option (Bool)
  | 0, _, _ => none
  | k2 + 1, v16, v17 =>
    (if v16 < 4 then (if 0 ≤ v16 ∧ v16 < 4 then ((rIn K (shf a0 (v16.toNat * 64)) (-1048576) 1048576).bind fun r21 => (if r21 = true then lawHalfSigns_l3 K (lawHalfSigns_l2 K a0 k2) a0 v16 K 0 v17 else ((awake10 K ).bind fun r28 => some r28))) else none) else lawHalfSigns_j1 K a0 v17)

def lawHalfSigns (K : Nat) (a0 : (Nat → Int)) : Option (Bool) :=
  lawHalfSigns_l2 K a0 K 0 zf

theorem c_lawHalfSigns (K : Nat) (a0 : (Nat → Int)) (r : Bool) (w0 : World) (hG : Gl GH w0) (hm : lawHalfSigns K a0 = some r) : Calls Tryd.prog 8 #[.agg (cf 256 (iv a0))] w0 fun e w' => e = .returned (.bool r) ∧ Below w0.heap.size w0 w' := by
  unfold lawHalfSigns at hm
  refine calls_CW (n := 67) w0 [] [] Tryd.func8 rfl rfl rfl (Mem.begin w0) ?_
  refine CW.seq ?_
  refine CW.region ?_
  refine RW.box (v := .agg (cf 256 (iv a0))) rfl rfl rfl (fun b1 => ?_)
  refine RW.yi (.bool false) rfl rfl (Yi.pv _ rfl) ?_
  refine RW.nil ?_
  refine EW.next ?_
  refine CW.seq ?_
  refine CW.region ?_
  refine RW.alloc (z := .agg (cf 256 (iv zf))) (cf 256 (iv zf)) rfl rfl (fun _ => by kernel_rfl) rfl (fun b2 => ?_)
  refine RW.nil ?_
  refine EW.next ?_
  refine CW.join (fun a w => ∃ (v3 : (Nat → Int)), St 67 [(1, .pointer (some ⟨b1, 0, none⟩)), (3, .pointer (some ⟨b2, 0, none⟩))] a ∧ Mem w0 [] [.blk b2 34 (cf 256 (iv v3)), .blk b1 34 (cf 256 (iv a0))] w ∧ lawHalfSigns_j1 K a0 v3 = some r) ?_ ?_
  · refine CW.seq ?_
    refine CW.region ?_
    refine RW.yi (.int .i64 0) rfl rfl (Yi.pv _ rfl) ?_
    refine RW.nil ?_
    refine EW.next ?_
    refine CW.block ?_
    refine CW.loop (fun k a w => ∃ (v16 : Int) (v17 : (Nat → Int)), St 67 [(1, .pointer (some ⟨b1, 0, none⟩)), (3, .pointer (some ⟨b2, 0, none⟩)), (12, .int .i64 v16)] a ∧ Mem w0 [] [.blk b2 34 (cf 256 (iv v17)), .blk b1 34 (cf 256 (iv a0))] w ∧ lawHalfSigns_l2 K a0 k v16 v17 = some r) K ?_ ?_ ?_
    · rintro a w ⟨_, _, _, _, hm⟩
      rw [lawHalfSigns_l2.eq_1] at hm
      cases hm
    · exact fun a w hs hM => ⟨0, zf, hs.sub ⟨rfl, rfl, rfl, trivial⟩, hM.sub (.cons_cons _ (.cons_cons _ .slnil)), hm⟩
    · rintro k2 a w ⟨v16, v17, hs, hM, hm⟩
      rw [lawHalfSigns_l2.eq_2] at hm
      refine CW.enter hs hM ?_
      refine CW.seq ?_
      refine CW.region ?_
      refine RW.yi (.bool (decide (v16 < 4))) rfl rfl (Yi.pv _ rfl) ?_
      refine RW.nil ?_
      refine EW.next ?_
      refine CW.seq ?_
      refine CW.fork 13 (v16 < 4) rfl (fun h18 => ?_) (fun h18 => ?_)
      · replace hm := (if_pos h18).symm.trans hm
        refine CW.cond_true rfl ?_
        refine CW.skip ?_
        refine EW.next ?_
        refine CW.join (fun a w => ∃ (v19 : (Nat → Int)), St 67 [(1, .pointer (some ⟨b1, 0, none⟩)), (3, .pointer (some ⟨b2, 0, none⟩)), (12, .int .i64 v16)] a ∧ Mem w0 [] [.blk b2 34 (cf 256 (iv v19)), .blk b1 34 (cf 256 (iv a0))] w ∧ lawHalfSigns_j3 K (lawHalfSigns_l2 K a0 k2) v16 v19 = some r) ?_ ?_
        · refine CW.block ?_
          refine CW.seq ?_
          refine CW.region ?_
          refine RW.yi (.int .i64 v16) rfl rfl (Yi.pv _ rfl) ?_
          refine RW.yi (.int .i64 v16) rfl rfl (Yi.pv _ rfl) ?_
          refine RW.nil ?_
          refine EW.next ?_
          refine CW.seq ?_
          refine CW.seq ?_
          refine CW.region ?_
          refine RW.yi (.int .i64 v16) rfl rfl (Yi.pv _ rfl) ?_
          obtain ⟨g20, hm⟩ := of_guard hm
          refine RW.yi (.pointer (some ⟨b1, v16.toNat * 64, none⟩)) rfl rfl (Yi.indexAddr' _ Tryd.underlying34 Tryd.sizeOf23 rfl rfl g20.1 g20.2 (by omega)) ?_
          refine RW.yi (.agg (cf 64 (iv (shf a0 (v16.toNat * 64))))) rfl rfl (Yi.loadP (i := 1) rfl rfl Tryd.isAgg23 Tryd.sizeOf23 (by omega)) ?_
          obtain ⟨r21, hr21, hm⟩ := of_bind hm
          refine RW.ca (.bool r21) rfl rfl (Ca.call rfl rfl Tryd.call25 (fun w _ => c_rIn K (shf a0 (v16.toNat * 64)) (-1048576) 1048576 r21 w hr21)) ?_
          refine RW.forkB 18 (r21) rfl (fun h22 => ?_) (fun h22 => ?_)
          · replace hm := (if_pos h22).symm.trans hm
            refine RW.yi (.bool false) rfl rfl (Yi.pv _ rfl) ?_
            refine RW.nil ?_
            refine EW.next ?_
            refine CW.cond_false rfl ?_
            refine CW.skip ?_
            refine EW.next ?_
            refine CW.seq ?_
            refine CW.region ?_
            refine RW.yi (.int .i64 v16) rfl rfl (Yi.pv _ rfl) ?_
            refine RW.yi (.pointer (some ⟨b1, v16.toNat * 64, none⟩)) rfl rfl (Yi.indexAddr' _ Tryd.underlying34 Tryd.sizeOf23 rfl rfl g20.1 g20.2 (by omega)) ?_
            refine RW.yi (.agg (cf 64 (iv (shf a0 (v16.toNat * 64))))) rfl rfl (Yi.loadP (i := 1) rfl rfl Tryd.isAgg23 Tryd.sizeOf23 (by omega)) ?_
            refine RW.yi (.int .i64 0) rfl rfl (Yi.pv _ rfl) ?_
            refine RW.nil ?_
            refine EW.next ?_
            refine CW.block ?_
            refine CW.loop (fun k a w => ∃ (v24 : Int) (v25 : (Nat → Int)), St 67 [(1, .pointer (some ⟨b1, 0, none⟩)), (3, .pointer (some ⟨b2, 0, none⟩)), (4, .int .i64 v16), (12, .int .i64 v16), (23, .agg (cf 64 (iv (shf a0 (v16.toNat * 64))))), (24, .int .i64 v24)] a ∧ Mem w0 [] [.blk b2 34 (cf 256 (iv v25)), .blk b1 34 (cf 256 (iv a0))] w ∧ lawHalfSigns_l3 K (lawHalfSigns_l2 K a0 k2) a0 v16 k v24 v25 = some r) K ?_ ?_ ?_
            · rintro a w ⟨_, _, _, _, hm⟩
              rw [lawHalfSigns_l3.eq_1] at hm
              cases hm
            · exact fun a w hs hM => ⟨0, v17, hs.sub ⟨rfl, rfl, rfl, rfl, rfl, rfl, trivial⟩, hM.sub (.cons_cons _ (.cons_cons _ .slnil)), hm⟩
            · rintro k3 a w ⟨v24, v25, hs, hM, hm⟩
              rw [lawHalfSigns_l3.eq_2] at hm
              refine CW.enter hs hM ?_
              refine CW.seq ?_
              refine CW.region ?_
              refine RW.yi (.bool (decide (v24 < 64))) rfl rfl (Yi.pv _ rfl) ?_
              refine RW.nil ?_
              refine EW.next ?_
              refine CW.seq ?_
              refine CW.fork 25 (v24 < 64) rfl (fun h26 => ?_) (fun h26 => ?_)
              · replace hm := (if_pos h26).symm.trans hm
                refine CW.cond_true rfl ?_
                refine CW.skip ?_
                refine EW.next ?_
                refine CW.seq ?_
                refine CW.block ?_
                refine CW.seq ?_
                refine CW.region ?_
                refine RW.yi (.int .i64 v24) rfl rfl (Yi.pv _ rfl) ?_
                obtain ⟨g27, hm⟩ := of_guard hm
                refine RW.yi (.int .i64 ((shf a0 (v16.toNat * 64)) v24.toNat)) rfl rfl (Yi.index _ Tryd.underlying23 Tryd.sizeOf3 Tryd.isAgg3 rfl rfl g27.1 g27.2 (cf_get (by omega))) ?_
                refine RW.yi (.int .i64 v24) rfl rfl (Yi.pv _ rfl) ?_
                refine RW.yi (.int .i64 ((shf a0 (v16.toNat * 64)) v24.toNat)) rfl rfl (Yi.pv _ rfl) ?_
                refine RW.nil ?_
                refine EW.next ?_
                refine CW.region ?_
                refine RW.yi (.int .i64 v16) rfl rfl (Yi.pv _ rfl) ?_
                refine RW.yi (.int .i64 v24) rfl rfl (Yi.pv _ rfl) ?_
                refine RW.yi (.int .i64 ((shf a0 (v16.toNat * 64)) v24.toNat)) rfl rfl (Yi.pv _ rfl) ?_
                refine RW.yi (.int .i64 (w64 (0 - ((shf a0 (v16.toNat * 64)) v24.toNat)))) rfl rfl (Yi.pv _ rfl) ?_
                refine RW.yi (.pointer (some ⟨b2, v16.toNat * 64, none⟩)) rfl rfl (Yi.indexAddr' _ Tryd.underlying34 Tryd.sizeOf23 rfl rfl g20.1 g20.2 (by omega)) ?_
                refine RW.yi (.pointer (some ⟨b2, v16.toNat * 64 + v24.toNat, none⟩)) rfl rfl (Yi.indexAddr' _ Tryd.underlying23 Tryd.sizeOf3 rfl rfl g27.1 g27.2 (by omega)) ?_
                refine RW.store1 (i := 0) (cs' := cf 256 (iv (upd v25 (v16.toNat * 64 + v24.toNat) (w64 (0 - ((shf a0 (v16.toNat * 64)) v24.toNat)))))) rfl rfl rfl rfl Tryd.sizeOf3 rfl rfl (by rw [cf_size]; omega) (by rw [cf_set, iv_upd]) ?_
                refine RW.nil ?_
                refine EW.bln ?_
                refine EW.next ?_
                refine CW.region ?_
                refine RW.yi (.int .i64 (w64 (v24 + 1))) rfl rfl (Yi.pv _ rfl) ?_
                refine RW.yi (.int .i64 (w64 (v24 + 1))) rfl rfl (Yi.pv _ rfl) ?_
                refine RW.nil ?_
                refine EW.thn ?_
                exact fun a w hs hM => ⟨(w64 (v24 + 1)), (upd v25 (v16.toNat * 64 + v24.toNat) (w64 (0 - ((shf a0 (v16.toNat * 64)) v24.toNat)))), hs.sub ⟨rfl, rfl, rfl, rfl, rfl, rfl, trivial⟩, hM.sub (.cons_cons _ (.cons_cons _ .slnil)), hm⟩
              · replace hm := (if_neg h26).symm.trans hm
                refine CW.cond_false rfl ?_
                refine CW.exit ?_
                refine EW.thx ?_
                refine EW.thx ?_
                refine EW.blx ?_
                refine EW.bln ?_
                refine EW.thn ?_
                exact fun a w hs hM => ⟨v25, hs.sub ⟨rfl, rfl, rfl, trivial⟩, hM.sub (.cons_cons _ (.cons_cons _ .slnil)), hm⟩
          · replace hm := (if_neg h22).symm.trans hm
            refine RW.yi (.bool true) rfl rfl (Yi.pv _ rfl) ?_
            refine RW.nil ?_
            refine EW.next ?_
            refine CW.cond_true rfl ?_
            refine CW.seq ?_
            refine CW.region ?_
            obtain ⟨r28, hr28, hm⟩ := of_bind hm
            refine RW.ca (.bool r28) rfl rfl (Ca.call rfl rfl Tryd.call24 (fun w hM => c_awake10 K  r28 w (hG.keep hM rfl) hr28)) ?_
            refine RW.yi (.bool r28) rfl rfl (Yi.pv _ rfl) ?_
            refine RW.nil ?_
            refine EW.next ?_
            refine CW.ret ?_
            refine EW.thr ?_
            refine EW.blr ?_
            refine EW.thr ?_
            refine EW.thr ?_
            refine EW.blr ?_
            refine EW.thr ?_
            obtain rfl := Option.some.inj hm
            exact EW.done (rs := [.tmp 2]) rfl (.tmp (t := 2) (v := .bool r28) rfl .nil) (fun _ hM => ⟨rfl, hM.below⟩)
        · rintro a w ⟨v19, hs, hM, hm⟩
          unfold lawHalfSigns_j3 at hm
          refine CW.enter hs hM ?_
          refine CW.region ?_
          refine RW.yi (.int .i64 (w64 (v16 + 1))) rfl rfl (Yi.pv _ rfl) ?_
          refine RW.yi (.int .i64 (w64 (v16 + 1))) rfl rfl (Yi.pv _ rfl) ?_
          refine RW.nil ?_
          refine EW.thn ?_
          exact fun a w hs hM => ⟨(w64 (v16 + 1)), v19, hs.sub ⟨rfl, rfl, rfl, trivial⟩, hM.sub (.cons_cons _ (.cons_cons _ .slnil)), hm⟩
      · replace hm := (if_neg h18).symm.trans hm
        refine CW.cond_false rfl ?_
        refine CW.exit ?_
        refine EW.thx ?_
        refine EW.thx ?_
        refine EW.blx ?_
        refine EW.thn ?_
        exact fun a w hs hM => ⟨v17, hs.sub ⟨rfl, rfl, trivial⟩, hM.sub (.cons_cons _ (.cons_cons _ .slnil)), hm⟩
  · rintro a w ⟨v3, hs, hM, hm⟩
    unfold lawHalfSigns_j1 at hm
    refine CW.enter hs hM ?_
    refine CW.seq ?_
    refine CW.region ?_
    refine RW.yi (.agg (cf 256 (iv a0))) rfl rfl (Yi.loadW (i := 1) rfl rfl Tryd.isAgg34 Tryd.sizeOf34) ?_
    obtain ⟨r4, hr4, hm⟩ := of_bind hm
    refine RW.ca (.tuple #[.agg (cf 64 (iv r4.1)), .int .i64 r4.2]) rfl rfl (Ca.call rfl rfl Tryd.call20 (fun w hM => c_merge K a0 r4 w (hG.keep hM rfl) hr4)) ?_
    refine RW.yi (.tuple #[.agg (cf 64 (iv r4.1)), .int .i64 r4.2]) rfl rfl (Yi.pv _ rfl) ?_
    refine RW.yi (.agg (cf 64 (iv r4.1))) rfl rfl (Yi.pv _ rfl) ?_
    refine RW.yi (.int .i64 r4.2) rfl rfl (Yi.pv _ rfl) ?_
    refine RW.alloc (z := .agg (cf 64 (iv zf))) (cf 64 (iv zf)) rfl rfl (fun _ => by kernel_rfl) rfl (fun b5 => ?_)
    refine RW.storeW (i := 0) (cs' := cf 64 (iv r4.1)) rfl rfl rfl rfl (by rw [cf_size]; kernel_rfl) (by simp only [cf_size]) (iv_one _ _) ?_
    refine RW.yi (.int .i64 r4.2) rfl rfl (Yi.pv _ rfl) ?_
    refine RW.nil ?_
    refine EW.next ?_
    refine CW.seq ?_
    refine CW.region ?_
    refine RW.yi (.agg (cf 256 (iv v3))) rfl rfl (Yi.loadW (i := 1) rfl rfl Tryd.isAgg34 Tryd.sizeOf34) ?_
    obtain ⟨r6, hr6, hm⟩ := of_bind hm
    refine RW.ca (.tuple #[.agg (cf 64 (iv r6.1)), .int .i64 r6.2]) rfl rfl (Ca.call rfl rfl Tryd.call20 (fun w hM => c_merge K v3 r6 w (hG.keep hM rfl) hr6)) ?_
    refine RW.yi (.tuple #[.agg (cf 64 (iv r6.1)), .int .i64 r6.2]) rfl rfl (Yi.pv _ rfl) ?_
    refine RW.yi (.agg (cf 64 (iv r6.1))) rfl rfl (Yi.pv _ rfl) ?_
    refine RW.yi (.int .i64 r6.2) rfl rfl (Yi.pv _ rfl) ?_
    refine RW.alloc (z := .agg (cf 64 (iv zf))) (cf 64 (iv zf)) rfl rfl (fun _ => by kernel_rfl) rfl (fun b7 => ?_)
    refine RW.storeW (i := 0) (cs' := cf 64 (iv r6.1)) rfl rfl rfl rfl (by rw [cf_size]; kernel_rfl) (by simp only [cf_size]) (iv_one _ _) ?_
    refine RW.yi (.int .i64 r6.2) rfl rfl (Yi.pv _ rfl) ?_
    refine RW.nil ?_
    refine EW.next ?_
    refine CW.join (fun a w => St 67 [(8, .int .i64 r4.2), (10, .int .i64 r6.2)] a ∧ Mem w0 [] [] w ∧ lawHalfSigns_j2 K r6 r4 = some r) ?_ ?_
    · refine CW.seq ?_
      refine CW.region ?_
      refine RW.yi (.int .i64 0) rfl rfl (Yi.pv _ rfl) ?_
      refine RW.nil ?_
      refine EW.next ?_
      refine CW.block ?_
      refine CW.loop (fun k a w => ∃ (v11 : Int), St 67 [(7, .pointer (some ⟨b5, 0, none⟩)), (8, .int .i64 r4.2), (9, .pointer (some ⟨b7, 0, none⟩)), (10, .int .i64 r6.2), (46, .int .i64 v11)] a ∧ Mem w0 [] [.blk b7 23 (cf 64 (iv r6.1)), .blk b5 23 (cf 64 (iv r4.1))] w ∧ lawHalfSigns_l1 K r6 r4 k v11 = some r) K ?_ ?_ ?_
      · rintro a w ⟨_, _, _, hm⟩
        rw [lawHalfSigns_l1.eq_1] at hm
        cases hm
      · exact fun a w hs hM => ⟨0, hs.sub ⟨rfl, rfl, rfl, rfl, rfl, trivial⟩, hM.sub (.cons_cons _ (.cons_cons _ (.cons _ (.cons _ .slnil)))), hm⟩
      · rintro k1 a w ⟨v11, hs, hM, hm⟩
        rw [lawHalfSigns_l1.eq_2] at hm
        refine CW.enter hs hM ?_
        refine CW.seq ?_
        refine CW.region ?_
        refine RW.yi (.bool (decide (v11 < 64))) rfl rfl (Yi.pv _ rfl) ?_
        refine RW.nil ?_
        refine EW.next ?_
        refine CW.seq ?_
        refine CW.fork 47 (v11 < 64) rfl (fun h12 => ?_) (fun h12 => ?_)
        · replace hm := (if_pos h12).symm.trans hm
          refine CW.cond_true rfl ?_
          refine CW.skip ?_
          refine EW.next ?_
          refine CW.seq ?_
          refine CW.block ?_
          refine CW.seq ?_
          refine CW.region ?_
          refine RW.yi (.int .i64 v11) rfl rfl (Yi.pv _ rfl) ?_
          refine RW.yi (.int .i64 v11) rfl rfl (Yi.pv _ rfl) ?_
          refine RW.nil ?_
          refine EW.next ?_
          refine CW.seq ?_
          refine CW.draws (by kernel_rfl) (by kernel_rfl) ?_
          refine QW.yi (.int .i64 v11) rfl rfl (Yi.pv _ rfl) ?_
          obtain ⟨g13, hm⟩ := of_guard hm
          refine QW.yi (.pointer (some ⟨b5, v11.toNat, none⟩)) rfl rfl (Yi.indexAddr' _ Tryd.underlying23 Tryd.sizeOf3 rfl rfl g13.1 g13.2 (by omega)) ?_
          refine QW.yi (.int .i64 (r4.1 v11.toNat)) rfl rfl (Yi.load1 (i := 1) _ rfl rfl Tryd.isAgg3 (cf_get (by omega))) ?_
          refine QW.yi (.int .i64 v11) rfl rfl (Yi.pv _ rfl) ?_
          refine QW.yi (.pointer (some ⟨b7, v11.toNat, none⟩)) rfl rfl (Yi.indexAddr' _ Tryd.underlying23 Tryd.sizeOf3 rfl rfl g13.1 g13.2 (by omega)) ?_
          refine QW.yi (.int .i64 (r6.1 v11.toNat)) rfl rfl (Yi.load1 (i := 0) _ rfl rfl Tryd.isAgg3 (cf_get (by omega))) ?_
          refine QW.yi (.int .i64 (w64 (0 - (r6.1 v11.toNat)))) rfl rfl (Yi.pv _ rfl) ?_
          refine QW.yi (.bool (decide (¬ (r4.1 v11.toNat) = (w64 (0 - (r6.1 v11.toNat)))))) rfl rfl (Yi.pv _ rfl) ?_
          refine QW.nil ?_
          refine EW.next ?_
          refine CW.fork 56 (¬ (r4.1 v11.toNat) = (w64 (0 - (r6.1 v11.toNat)))) rfl (fun h14 => ?_) (fun h14 => ?_)
          · replace hm := (if_pos h14).symm.trans hm
            refine CW.cond_true rfl ?_
            refine CW.seq ?_
            refine CW.region ?_
            refine RW.yi (.bool false) rfl rfl (Yi.pv _ rfl) ?_
            refine RW.nil ?_
            refine EW.next ?_
            refine CW.ret ?_
            refine EW.blr ?_
            refine EW.thr ?_
            refine EW.thr ?_
            refine EW.blr ?_
            refine EW.thr ?_
            obtain rfl := Option.some.inj hm
            exact EW.done (rs := [.tmp 2]) rfl (.tmp (t := 2) (v := .bool false) rfl .nil) (fun _ hM => ⟨rfl, hM.below⟩)
          · replace hm := (if_neg h14).symm.trans hm
            refine CW.cond_false rfl ?_
            refine CW.skip ?_
            refine EW.bln ?_
            refine EW.next ?_
            refine CW.region ?_
            refine RW.yi (.int .i64 (w64 (v11 + 1))) rfl rfl (Yi.pv _ rfl) ?_
            refine RW.yi (.int .i64 (w64 (v11 + 1))) rfl rfl (Yi.pv _ rfl) ?_
            refine RW.nil ?_
            refine EW.thn ?_
            exact fun a w hs hM => ⟨(w64 (v11 + 1)), hs.sub ⟨rfl, rfl, rfl, rfl, rfl, trivial⟩, hM.sub (.cons_cons _ (.cons_cons _ .slnil)), hm⟩
        · replace hm := (if_neg h12).symm.trans hm
          refine CW.cond_false rfl ?_
          refine CW.exit ?_
          refine EW.thx ?_
          refine EW.thx ?_
          refine EW.blx ?_
          refine EW.thn ?_
          exact fun a w hs hM => ⟨hs.sub ⟨rfl, rfl, trivial⟩, hM.sub (.cons _ (.cons _ .slnil)), hm⟩
    · rintro a w ⟨hs, hM, hm⟩
      unfold lawHalfSigns_j2 at hm
      refine CW.enter hs hM ?_
      refine CW.seq ?_
      refine CW.region ?_
      refine RW.yi (.int .i64 r4.2) rfl rfl (Yi.pv _ rfl) ?_
      refine RW.yi (.bool (decide (r4.2 = 0))) rfl rfl (Yi.pv _ rfl) ?_
      refine RW.yi (.bool (decide (r4.2 = 0))) rfl rfl (Yi.pv _ rfl) ?_
      refine RW.fork 60 (r4.2 = 0) rfl (fun h8 => ?_) (fun h8 => ?_)
      · replace hm := (if_pos h8).symm.trans hm
        refine RW.yi (.int .i64 r6.2) rfl rfl (Yi.pv _ rfl) ?_
        refine RW.yi (.bool (decide (r6.2 = 0))) rfl rfl (Yi.pv _ rfl) ?_
        refine RW.yi (.bool (decide (r6.2 = 0))) rfl rfl (Yi.pv _ rfl) ?_
        refine RW.yi (.bool (decide (r6.2 = 0))) rfl rfl (Yi.pv _ rfl) ?_
        refine RW.fork 64 (r6.2 = 0) rfl (fun h9 => ?_) (fun h9 => ?_)
        · replace hm := (if_pos h9).symm.trans hm
          obtain ⟨r10, hr10, hm⟩ := of_bind hm
          refine RW.ca (.bool r10) rfl rfl (Ca.call rfl rfl Tryd.call24 (fun w hM => c_awake10 K  r10 w (hG.keep hM rfl) hr10)) ?_
          refine RW.yi (.bool r10) rfl rfl (Yi.pv _ rfl) ?_
          refine RW.yi (.bool r10) rfl rfl (Yi.pv _ rfl) ?_
          refine RW.nil ?_
          refine EW.next ?_
          refine CW.ret ?_
          obtain rfl := Option.some.inj hm
          exact EW.done (rs := [.tmp 2]) rfl (.tmp (t := 2) (v := .bool r10) rfl .nil) (fun _ hM => ⟨rfl, hM.below⟩)
        · replace hm := (if_neg h9).symm.trans hm
          refine RW.pass rfl rfl ?_
          refine RW.yi (.bool false) rfl rfl (Yi.pv _ rfl) ?_
          refine RW.yi (.bool false) rfl rfl (Yi.pv _ rfl) ?_
          refine RW.nil ?_
          refine EW.next ?_
          refine CW.ret ?_
          obtain rfl := Option.some.inj hm
          exact EW.done (rs := [.tmp 2]) rfl (.tmp (t := 2) (v := .bool false) rfl .nil) (fun _ hM => ⟨rfl, hM.below⟩)
      · replace hm := (if_neg h8).symm.trans hm
        refine RW.pass rfl rfl ?_
        refine RW.pass rfl rfl ?_
        refine RW.yi (.bool false) rfl rfl (Yi.pv _ rfl) ?_
        refine RW.yi (.bool false) rfl rfl (Yi.pv _ rfl) ?_
        refine RW.pass rfl rfl ?_
        refine RW.yi (.bool false) rfl rfl (Yi.pv _ rfl) ?_
        refine RW.yi (.bool false) rfl rfl (Yi.pv _ rfl) ?_
        refine RW.nil ?_
        refine EW.next ?_
        refine CW.ret ?_
        obtain rfl := Option.some.inj hm
        exact EW.done (rs := [.tmp 2]) rfl (.tmp (t := 2) (v := .bool false) rfl .nil) (fun _ hM => ⟨rfl, hM.below⟩)
end Go.Proofs.YtfpafpmcfkapkaaDoor