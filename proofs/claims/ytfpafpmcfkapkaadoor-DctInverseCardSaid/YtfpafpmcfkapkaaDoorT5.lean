import Derived.Test.YtfpafpmcfkapkaaDoorT1
import Derived.Test.YtfpafpmcfkapkaaDoorT4
import Derived.Test.YtfpafpmcfkapkaaDoorK5
set_option maxRecDepth 100000
namespace Go.Proofs.YtfpafpmcfkapkaaDoor
open Go Go.RowKit K
def awake9_j1 (K : Nat)   (v2 : (Nat → Int)) : Option (Bool) :=
  ((fwd K v2).bind fun r3 => (if eqF 64 r3.1 (upd zf 0 800) then (if r3.2 = 0 then ((wave K 1 7).bind fun r7 => some (decide (r7 = (-4017)))) else some false) else some false))

def awake9_l1 (K : Nat)  : Nat → Int → (Nat → Int) →  Option (Bool)
  | 0, _, _ => none
  | k1 + 1, v9, v10 =>
    (if v9 < 64 then (if 0 ≤ v9 ∧ v9 < 64 then (awake9_l1 K k1) (w64 (v9 + 1)) (upd v10 v9.toNat 100) else none) else awake9_j1 K v10)

def awake9 (K : Nat)  : Option (Bool) :=
  awake9_l1 K K 0 zf

theorem c_awake9 (K : Nat)  (r : Bool) (w0 : World) (hG : Gl GG w0) (hm : awake9 K  = some r) : Calls Tryd.prog 19 #[] w0 fun e w' => e = .returned (.bool r) ∧ Below w0.heap.size w0 w' := by
  unfold awake9 at hm
  refine calls_CW (n := 27) w0 [] [] Tryd.func19 rfl rfl rfl (Mem.begin w0) ?_
  refine CW.seq ?_
  refine CW.region ?_
  refine RW.yi (.bool false) rfl rfl (Yi.pv _ rfl) ?_
  refine RW.nil ?_
  refine EW.next ?_
  refine CW.seq ?_
  refine CW.region ?_
  refine RW.alloc (z := .agg (cf 64 (iv zf))) (cf 64 (iv zf)) rfl rfl (fun _ => by kernel_rfl) rfl (fun b1 => ?_)
  refine RW.nil ?_
  refine EW.next ?_
  refine CW.join (fun a w => ∃ (v2 : (Nat → Int)), St 27 [(1, .pointer (some ⟨b1, 0, none⟩))] a ∧ Mem w0 [] [.blk b1 23 (cf 64 (iv v2))] w ∧ awake9_j1 K v2 = some r) ?_ ?_
  · refine CW.seq ?_
    refine CW.region ?_
    refine RW.yi (.int .i64 0) rfl rfl (Yi.pv _ rfl) ?_
    refine RW.nil ?_
    refine EW.next ?_
    refine CW.block ?_
    refine CW.loop (fun k a w => ∃ (v9 : Int) (v10 : (Nat → Int)), St 27 [(1, .pointer (some ⟨b1, 0, none⟩)), (5, .int .i64 v9)] a ∧ Mem w0 [] [.blk b1 23 (cf 64 (iv v10))] w ∧ awake9_l1 K k v9 v10 = some r) K ?_ ?_ ?_
    · rintro a w ⟨_, _, _, _, hm⟩
      rw [awake9_l1.eq_1] at hm
      cases hm
    · exact fun a w hs hM => ⟨0, zf, hs.sub ⟨rfl, rfl, trivial⟩, hM.sub (.cons_cons _ .slnil), hm⟩
    · rintro k1 a w ⟨v9, v10, hs, hM, hm⟩
      rw [awake9_l1.eq_2] at hm
      refine CW.enter hs hM ?_
      refine CW.seq ?_
      refine CW.region ?_
      refine RW.yi (.bool (decide (v9 < 64))) rfl rfl (Yi.pv _ rfl) ?_
      refine RW.nil ?_
      refine EW.next ?_
      refine CW.seq ?_
      refine CW.fork 6 (v9 < 64) rfl (fun h11 => ?_) (fun h11 => ?_)
      · replace hm := (if_pos h11).symm.trans hm
        refine CW.cond_true rfl ?_
        refine CW.skip ?_
        refine EW.next ?_
        refine CW.seq ?_
        refine CW.block ?_
        refine CW.seq ?_
        refine CW.region ?_
        refine RW.yi (.int .i64 v9) rfl rfl (Yi.pv _ rfl) ?_
        refine RW.yi (.int .i64 v9) rfl rfl (Yi.pv _ rfl) ?_
        refine RW.nil ?_
        refine EW.next ?_
        refine CW.region ?_
        refine RW.yi (.int .i64 v9) rfl rfl (Yi.pv _ rfl) ?_
        obtain ⟨g12, hm⟩ := of_guard hm
        refine RW.yi (.pointer (some ⟨b1, v9.toNat, none⟩)) rfl rfl (Yi.indexAddr' _ Tryd.underlying23 Tryd.sizeOf3 rfl rfl g12.1 g12.2 (by omega)) ?_
        refine RW.store1 (i := 0) (cs' := cf 64 (iv (upd v10 v9.toNat 100))) rfl rfl rfl rfl Tryd.sizeOf3 rfl rfl (by rw [cf_size]; omega) (by rw [cf_set, iv_upd]) ?_
        refine RW.nil ?_
        refine EW.bln ?_
        refine EW.next ?_
        refine CW.region ?_
        refine RW.yi (.int .i64 (w64 (v9 + 1))) rfl rfl (Yi.pv _ rfl) ?_
        refine RW.yi (.int .i64 (w64 (v9 + 1))) rfl rfl (Yi.pv _ rfl) ?_
        refine RW.nil ?_
        refine EW.thn ?_
        exact fun a w hs hM => ⟨(w64 (v9 + 1)), (upd v10 v9.toNat 100), hs.sub ⟨rfl, rfl, trivial⟩, hM.sub (.cons_cons _ .slnil), hm⟩
      · replace hm := (if_neg h11).symm.trans hm
        refine CW.cond_false rfl ?_
        refine CW.exit ?_
        refine EW.thx ?_
        refine EW.thx ?_
        refine EW.blx ?_
        refine EW.thn ?_
        exact fun a w hs hM => ⟨v10, hs.sub ⟨rfl, trivial⟩, hM.sub (.cons_cons _ .slnil), hm⟩
  · rintro a w ⟨v2, hs, hM, hm⟩
    unfold awake9_j1 at hm
    refine CW.enter hs hM ?_
    refine CW.seq ?_
    refine CW.region ?_
    refine RW.yi (.agg (cf 64 (iv v2))) rfl rfl (Yi.loadW (i := 0) rfl rfl Tryd.isAgg23 Tryd.sizeOf23) ?_
    obtain ⟨r3, hr3, hm⟩ := of_bind hm
    refine RW.ca (.tuple #[.agg (cf 64 (iv r3.1)), .int .i64 r3.2]) rfl rfl (Ca.call rfl rfl Tryd.call15 (fun w hM => c_fwd K v2 r3 w (hG.keep hM rfl) hr3)) ?_
    refine RW.yi (.tuple #[.agg (cf 64 (iv r3.1)), .int .i64 r3.2]) rfl rfl (Yi.pv _ rfl) ?_
    refine RW.yi (.agg (cf 64 (iv r3.1))) rfl rfl (Yi.pv _ rfl) ?_
    refine RW.yi (.int .i64 r3.2) rfl rfl (Yi.pv _ rfl) ?_
    refine RW.alloc (z := .agg (cf 64 (iv zf))) (cf 64 (iv zf)) rfl rfl (fun _ => by kernel_rfl) rfl (fun b4 => ?_)
    refine RW.storeW (i := 0) (cs' := cf 64 (iv r3.1)) rfl rfl rfl rfl (by rw [cf_size]; kernel_rfl) (by simp only [cf_size]) (iv_one _ _) ?_
    refine RW.yi (.int .i64 r3.2) rfl rfl (Yi.pv _ rfl) ?_
    refine RW.nil ?_
    refine EW.next ?_
    refine CW.seq ?_
    refine CW.region ?_
    refine RW.yi (.agg (cf 64 (iv r3.1))) rfl rfl (Yi.loadW (i := 0) rfl rfl Tryd.isAgg23 Tryd.sizeOf23) ?_
    refine RW.yi (.agg (cf 64 (iv (upd zf 0 800)))) rfl rfl (Yi.build (vs := [.int .i64 800]) _ rfl rfl (fun _ => by kernel_rfl)) ?_
    refine RW.yi (.bool (decide (eqF 64 r3.1 (upd zf 0 800)))) rfl rfl (Yi.eqA Tryd.underlying23 Tryd.eqGuardType23 Tryd.underlying3 Tryd.sizeOf3 Tryd.isAgg3 rfl rfl) ?_
    refine RW.yi (.bool (decide (eqF 64 r3.1 (upd zf 0 800)))) rfl rfl (Yi.pv _ rfl) ?_
    refine RW.fork 19 (eqF 64 r3.1 (upd zf 0 800)) rfl (fun h5 => ?_) (fun h5 => ?_)
    · replace hm := (if_pos h5).symm.trans hm
      refine RW.yi (.int .i64 r3.2) rfl rfl (Yi.pv _ rfl) ?_
      refine RW.yi (.bool (decide (r3.2 = 0))) rfl rfl (Yi.pv _ rfl) ?_
      refine RW.yi (.bool (decide (r3.2 = 0))) rfl rfl (Yi.pv _ rfl) ?_
      refine RW.yi (.bool (decide (r3.2 = 0))) rfl rfl (Yi.pv _ rfl) ?_
      refine RW.fork 23 (r3.2 = 0) rfl (fun h6 => ?_) (fun h6 => ?_)
      · replace hm := (if_pos h6).symm.trans hm
        obtain ⟨r7, hr7, hm⟩ := of_bind hm
        refine RW.ca (.int .i64 r7) rfl rfl (Ca.call rfl rfl Tryd.call18 (fun w hM => c_wave K 1 7 r7 w (hG.keep hM rfl) hr7)) ?_
        refine RW.yi (.bool (decide (r7 = (-4017)))) rfl rfl (Yi.pv _ rfl) ?_
        refine RW.yi (.bool (decide (r7 = (-4017)))) rfl rfl (Yi.pv _ rfl) ?_
        refine RW.yi (.bool (decide (r7 = (-4017)))) rfl rfl (Yi.pv _ rfl) ?_
        refine RW.nil ?_
        refine EW.next ?_
        refine CW.ret ?_
        obtain rfl := Option.some.inj hm
        exact EW.done (rs := [.tmp 0]) rfl (.tmp (t := 0) (v := .bool (decide (r7 = (-4017)))) rfl .nil) (fun _ hM => ⟨rfl, hM.below⟩)
      · replace hm := (if_neg h6).symm.trans hm
        refine RW.pass rfl rfl ?_
        refine RW.pass rfl rfl ?_
        refine RW.yi (.bool false) rfl rfl (Yi.pv _ rfl) ?_
        refine RW.yi (.bool false) rfl rfl (Yi.pv _ rfl) ?_
        refine RW.nil ?_
        refine EW.next ?_
        refine CW.ret ?_
        obtain rfl := Option.some.inj hm
        exact EW.done (rs := [.tmp 0]) rfl (.tmp (t := 0) (v := .bool false) rfl .nil) (fun _ hM => ⟨rfl, hM.below⟩)
    · replace hm := (if_neg h5).symm.trans hm
      refine RW.pass rfl rfl ?_
      refine RW.pass rfl rfl ?_
      refine RW.yi (.bool false) rfl rfl (Yi.pv _ rfl) ?_
      refine RW.yi (.bool false) rfl rfl (Yi.pv _ rfl) ?_
      refine RW.pass rfl rfl ?_
      refine RW.pass rfl rfl ?_
      refine RW.yi (.bool false) rfl rfl (Yi.pv _ rfl) ?_
      refine RW.yi (.bool false) rfl rfl (Yi.pv _ rfl) ?_
      refine RW.nil ?_
      refine EW.next ?_
      refine CW.ret ?_
      obtain rfl := Option.some.inj hm
      exact EW.done (rs := [.tmp 0]) rfl (.tmp (t := 0) (v := .bool false) rfl .nil) (fun _ hM => ⟨rfl, hM.below⟩)
def lawDctForward_j1 (K : Nat)  (a1_u : Int) (a2_x : Int) (r2 : ((Nat → Int) × Int)) (r4 : ((Nat → Int) × Int)) (v6 : Int) : Option (Bool) :=
  (if eqF 64 r2.1 r4.1 then (if r2.2 = r4.2 then ((wave K a1_u a2_x).bind fun r9 => (if r9 = v6 then ((awake9 K ).bind fun r11 => some r11) else some false)) else some false) else some false)

def lawDctForward (K : Nat) (a0_b : (Nat → Int)) (a1_u : Int) (a2_x : Int) : Option (Bool) :=
  ((fwd K a0_b).bind fun r2 => ((rFwd K a0_b).bind fun r4 => (if 0 ≤ a1_u then (if a1_u < 8 then (if 0 ≤ a2_x then (if a2_x < 8 then ((rWaves K ).bind fun r16 => (if 0 ≤ (w64 ((w64 (8 * a1_u)) + a2_x)) ∧ (w64 ((w64 (8 * a1_u)) + a2_x)) < (r16.length : Int) then lawDctForward_j1 K a1_u a2_x r2 r4 (r16.getD ((w64 ((w64 (8 * a1_u)) + a2_x)).toNat) 0) else none)) else lawDctForward_j1 K a1_u a2_x r2 r4 0) else lawDctForward_j1 K a1_u a2_x r2 r4 0) else lawDctForward_j1 K a1_u a2_x r2 r4 0) else lawDctForward_j1 K a1_u a2_x r2 r4 0)))

theorem c_lawDctForward (K : Nat) (a0_b : (Nat → Int)) (a1_u : Int) (a2_x : Int) (r : Bool) (w0 : World) (hG : Gl GG w0) (hm : lawDctForward K a0_b a1_u a2_x = some r) : Calls Tryd.prog 3 #[.agg (cf 64 (iv a0_b)), .int .i64 a1_u, .int .i64 a2_x] w0 fun e w' => e = .returned (.bool r) ∧ Below w0.heap.size w0 w' := by
  unfold lawDctForward at hm
  refine calls_CW (n := 61) w0 [] [] Tryd.func3 rfl rfl rfl (Mem.begin w0) ?_
  refine CW.seq ?_
  refine CW.region ?_
  refine RW.box (v := .agg (cf 64 (iv a0_b))) rfl rfl rfl (fun b1 => ?_)
  refine RW.yi (.bool false) rfl rfl (Yi.pv _ rfl) ?_
  refine RW.nil ?_
  refine EW.next ?_
  refine CW.seq ?_
  refine CW.region ?_
  refine RW.yi (.agg (cf 64 (iv a0_b))) rfl rfl (Yi.loadW (i := 0) rfl rfl Tryd.isAgg23 Tryd.sizeOf23) ?_
  obtain ⟨r2, hr2, hm⟩ := of_bind hm
  refine RW.ca (.tuple #[.agg (cf 64 (iv r2.1)), .int .i64 r2.2]) rfl rfl (Ca.call rfl rfl Tryd.call15 (fun w hM => c_fwd K a0_b r2 w (hG.keep hM rfl) hr2)) ?_
  refine RW.yi (.tuple #[.agg (cf 64 (iv r2.1)), .int .i64 r2.2]) rfl rfl (Yi.pv _ rfl) ?_
  refine RW.yi (.agg (cf 64 (iv r2.1))) rfl rfl (Yi.pv _ rfl) ?_
  refine RW.yi (.int .i64 r2.2) rfl rfl (Yi.pv _ rfl) ?_
  refine RW.alloc (z := .agg (cf 64 (iv zf))) (cf 64 (iv zf)) rfl rfl (fun _ => by kernel_rfl) rfl (fun b3 => ?_)
  refine RW.storeW (i := 0) (cs' := cf 64 (iv r2.1)) rfl rfl rfl rfl (by rw [cf_size]; kernel_rfl) (by simp only [cf_size]) (iv_one _ _) ?_
  refine RW.yi (.int .i64 r2.2) rfl rfl (Yi.pv _ rfl) ?_
  refine RW.nil ?_
  refine EW.next ?_
  refine CW.seq ?_
  refine CW.region ?_
  refine RW.yi (.agg (cf 64 (iv a0_b))) rfl rfl (Yi.loadW (i := 1) rfl rfl Tryd.isAgg23 Tryd.sizeOf23) ?_
  obtain ⟨r4, hr4, hm⟩ := of_bind hm
  refine RW.ca (.tuple #[.agg (cf 64 (iv r4.1)), .int .i64 r4.2]) rfl rfl (Ca.call rfl rfl Tryd.call16 (fun w _ => c_rFwd K a0_b r4 w hr4)) ?_
  refine RW.yi (.tuple #[.agg (cf 64 (iv r4.1)), .int .i64 r4.2]) rfl rfl (Yi.pv _ rfl) ?_
  refine RW.yi (.agg (cf 64 (iv r4.1))) rfl rfl (Yi.pv _ rfl) ?_
  refine RW.yi (.int .i64 r4.2) rfl rfl (Yi.pv _ rfl) ?_
  refine RW.alloc (z := .agg (cf 64 (iv zf))) (cf 64 (iv zf)) rfl rfl (fun _ => by kernel_rfl) rfl (fun b5 => ?_)
  refine RW.storeW (i := 0) (cs' := cf 64 (iv r4.1)) rfl rfl rfl rfl (by rw [cf_size]; kernel_rfl) (by simp only [cf_size]) (iv_one _ _) ?_
  refine RW.yi (.int .i64 r4.2) rfl rfl (Yi.pv _ rfl) ?_
  refine RW.nil ?_
  refine EW.next ?_
  refine CW.seq ?_
  refine CW.region ?_
  refine RW.yi (.int .i64 0) rfl rfl (Yi.pv _ rfl) ?_
  refine RW.nil ?_
  refine EW.next ?_
  refine CW.join (fun a w => ∃ (v6 : Int), St 61 [(1, .int .i64 a1_u), (2, .int .i64 a2_x), (7, .pointer (some ⟨b3, 0, none⟩)), (8, .int .i64 r2.2), (9, .pointer (some ⟨b5, 0, none⟩)), (10, .int .i64 r4.2), (11, .int .i64 v6)] a ∧ Mem w0 [] [.blk b5 23 (cf 64 (iv r4.1)), .blk b3 23 (cf 64 (iv r2.1))] w ∧ lawDctForward_j1 K a1_u a2_x r2 r4 v6 = some r) ?_ ?_
  · refine CW.seq ?_
    refine CW.region ?_
    refine RW.yi (.int .i64 a1_u) rfl rfl (Yi.pv _ rfl) ?_
    refine RW.yi (.bool (decide (0 ≤ a1_u))) rfl rfl (Yi.pv _ rfl) ?_
    refine RW.yi (.bool (decide (0 ≤ a1_u))) rfl rfl (Yi.pv _ rfl) ?_
    refine RW.fork 24 (0 ≤ a1_u) rfl (fun h12 => ?_) (fun h12 => ?_)
    · replace hm := (if_pos h12).symm.trans hm
      refine RW.yi (.int .i64 a1_u) rfl rfl (Yi.pv _ rfl) ?_
      refine RW.yi (.bool (decide (a1_u < 8))) rfl rfl (Yi.pv _ rfl) ?_
      refine RW.yi (.bool (decide (a1_u < 8))) rfl rfl (Yi.pv _ rfl) ?_
      refine RW.yi (.bool (decide (a1_u < 8))) rfl rfl (Yi.pv _ rfl) ?_
      refine RW.fork 28 (a1_u < 8) rfl (fun h13 => ?_) (fun h13 => ?_)
      · replace hm := (if_pos h13).symm.trans hm
        refine RW.yi (.int .i64 a2_x) rfl rfl (Yi.pv _ rfl) ?_
        refine RW.yi (.bool (decide (0 ≤ a2_x))) rfl rfl (Yi.pv _ rfl) ?_
        refine RW.yi (.bool (decide (0 ≤ a2_x))) rfl rfl (Yi.pv _ rfl) ?_
        refine RW.yi (.bool (decide (0 ≤ a2_x))) rfl rfl (Yi.pv _ rfl) ?_
        refine RW.fork 32 (0 ≤ a2_x) rfl (fun h14 => ?_) (fun h14 => ?_)
        · replace hm := (if_pos h14).symm.trans hm
          refine RW.yi (.int .i64 a2_x) rfl rfl (Yi.pv _ rfl) ?_
          refine RW.yi (.bool (decide (a2_x < 8))) rfl rfl (Yi.pv _ rfl) ?_
          refine RW.yi (.bool (decide (a2_x < 8))) rfl rfl (Yi.pv _ rfl) ?_
          refine RW.nil ?_
          refine EW.next ?_
          refine CW.fork 35 (a2_x < 8) rfl (fun h15 => ?_) (fun h15 => ?_)
          · replace hm := (if_pos h15).symm.trans hm
            refine CW.cond_true rfl ?_
            refine CW.region ?_
            obtain ⟨r16, hr16, hm⟩ := of_bind hm
            refine RW.caS (fun s17 => s17) (e := 3) (sz := 1) (m := r16.length) (cs := ic r16) rfl rfl rfl rfl Tryd.call17 (fun w _ => c_rWaves K  r16 w hr16) (fun s17 => ?_)
            refine RW.yi (.int .i64 a1_u) rfl rfl (Yi.pv _ rfl) ?_
            refine RW.yi (.int .i64 (w64 (8 * a1_u))) rfl rfl (Yi.pv _ rfl) ?_
            refine RW.yi (.int .i64 a2_x) rfl rfl (Yi.pv _ rfl) ?_
            refine RW.yi (.int .i64 (w64 ((w64 (8 * a1_u)) + a2_x))) rfl rfl (Yi.pv _ rfl) ?_
            obtain ⟨g19, hm⟩ := of_guard hm
            refine RW.yi (.pointer (some (eaddr s17 1 ((w64 ((w64 (8 * a1_u)) + a2_x)).toNat) 0))) rfl rfl (Yi.idxS (m := r16.length) Tryd.underlying27 Tryd.sizeOf3 rfl rfl (fun _ hM => hM.rd (i := 0) rfl) g19.1 g19.2) ?_
            refine RW.yi (.int .i64 (r16.getD ((w64 ((w64 (8 * a1_u)) + a2_x)).toNat) 0)) rfl rfl (Yi.loadS (m := r16.length) (cs := ic r16) _ rfl (fun _ hM => hM.rd (i := 0) rfl) Tryd.isAgg3 (by omega) (by decide) (by rw [Nat.mul_one, Nat.add_zero]; exact ic_get (by omega))) ?_
            refine RW.yi (.int .i64 (r16.getD ((w64 ((w64 (8 * a1_u)) + a2_x)).toNat) 0)) rfl rfl (Yi.pv _ rfl) ?_
            refine RW.nil ?_
            refine EW.thn ?_
            exact fun a w hs hM => ⟨(r16.getD ((w64 ((w64 (8 * a1_u)) + a2_x)).toNat) 0), hs.sub ⟨rfl, rfl, rfl, rfl, rfl, rfl, rfl, trivial⟩, hM.sub (.cons _ (.cons_cons _ (.cons_cons _ (.cons _ .slnil)))), hm⟩
          · replace hm := (if_neg h15).symm.trans hm
            refine CW.cond_false rfl ?_
            refine CW.skip ?_
            refine EW.thn ?_
            exact fun a w hs hM => ⟨0, hs.sub ⟨rfl, rfl, rfl, rfl, rfl, rfl, rfl, trivial⟩, hM.sub (.cons_cons _ (.cons_cons _ (.cons _ .slnil))), hm⟩
        · replace hm := (if_neg h14).symm.trans hm
          refine RW.pass rfl rfl ?_
          refine RW.pass rfl rfl ?_
          refine RW.yi (.bool false) rfl rfl (Yi.pv _ rfl) ?_
          refine RW.nil ?_
          refine EW.next ?_
          refine CW.cond_false rfl ?_
          refine CW.skip ?_
          refine EW.thn ?_
          exact fun a w hs hM => ⟨0, hs.sub ⟨rfl, rfl, rfl, rfl, rfl, rfl, rfl, trivial⟩, hM.sub (.cons_cons _ (.cons_cons _ (.cons _ .slnil))), hm⟩
      · replace hm := (if_neg h13).symm.trans hm
        refine RW.pass rfl rfl ?_
        refine RW.pass rfl rfl ?_
        refine RW.yi (.bool false) rfl rfl (Yi.pv _ rfl) ?_
        refine RW.yi (.bool false) rfl rfl (Yi.pv _ rfl) ?_
        refine RW.pass rfl rfl ?_
        refine RW.pass rfl rfl ?_
        refine RW.yi (.bool false) rfl rfl (Yi.pv _ rfl) ?_
        refine RW.nil ?_
        refine EW.next ?_
        refine CW.cond_false rfl ?_
        refine CW.skip ?_
        refine EW.thn ?_
        exact fun a w hs hM => ⟨0, hs.sub ⟨rfl, rfl, rfl, rfl, rfl, rfl, rfl, trivial⟩, hM.sub (.cons_cons _ (.cons_cons _ (.cons _ .slnil))), hm⟩
    · replace hm := (if_neg h12).symm.trans hm
      refine RW.pass rfl rfl ?_
      refine RW.pass rfl rfl ?_
      refine RW.yi (.bool false) rfl rfl (Yi.pv _ rfl) ?_
      refine RW.yi (.bool false) rfl rfl (Yi.pv _ rfl) ?_
      refine RW.pass rfl rfl ?_
      refine RW.pass rfl rfl ?_
      refine RW.yi (.bool false) rfl rfl (Yi.pv _ rfl) ?_
      refine RW.yi (.bool false) rfl rfl (Yi.pv _ rfl) ?_
      refine RW.pass rfl rfl ?_
      refine RW.pass rfl rfl ?_
      refine RW.yi (.bool false) rfl rfl (Yi.pv _ rfl) ?_
      refine RW.nil ?_
      refine EW.next ?_
      refine CW.cond_false rfl ?_
      refine CW.skip ?_
      refine EW.thn ?_
      exact fun a w hs hM => ⟨0, hs.sub ⟨rfl, rfl, rfl, rfl, rfl, rfl, rfl, trivial⟩, hM.sub (.cons_cons _ (.cons_cons _ (.cons _ .slnil))), hm⟩
  · rintro a w ⟨v6, hs, hM, hm⟩
    unfold lawDctForward_j1 at hm
    refine CW.enter hs hM ?_
    refine CW.seq ?_
    refine CW.region ?_
    refine RW.yi (.agg (cf 64 (iv r2.1))) rfl rfl (Yi.loadW (i := 1) rfl rfl Tryd.isAgg23 Tryd.sizeOf23) ?_
    refine RW.yi (.agg (cf 64 (iv r4.1))) rfl rfl (Yi.loadW (i := 0) rfl rfl Tryd.isAgg23 Tryd.sizeOf23) ?_
    refine RW.yi (.bool (decide (eqF 64 r2.1 r4.1))) rfl rfl (Yi.eqA Tryd.underlying23 Tryd.eqGuardType23 Tryd.underlying3 Tryd.sizeOf3 Tryd.isAgg3 rfl rfl) ?_
    refine RW.yi (.bool (decide (eqF 64 r2.1 r4.1))) rfl rfl (Yi.pv _ rfl) ?_
    refine RW.fork 46 (eqF 64 r2.1 r4.1) rfl (fun h7 => ?_) (fun h7 => ?_)
    · replace hm := (if_pos h7).symm.trans hm
      refine RW.yi (.int .i64 r2.2) rfl rfl (Yi.pv _ rfl) ?_
      refine RW.yi (.int .i64 r4.2) rfl rfl (Yi.pv _ rfl) ?_
      refine RW.yi (.bool (decide (r2.2 = r4.2))) rfl rfl (Yi.pv _ rfl) ?_
      refine RW.yi (.bool (decide (r2.2 = r4.2))) rfl rfl (Yi.pv _ rfl) ?_
      refine RW.yi (.bool (decide (r2.2 = r4.2))) rfl rfl (Yi.pv _ rfl) ?_
      refine RW.fork 51 (r2.2 = r4.2) rfl (fun h8 => ?_) (fun h8 => ?_)
      · replace hm := (if_pos h8).symm.trans hm
        refine RW.yi (.int .i64 a1_u) rfl rfl (Yi.pv _ rfl) ?_
        refine RW.yi (.int .i64 a2_x) rfl rfl (Yi.pv _ rfl) ?_
        obtain ⟨r9, hr9, hm⟩ := of_bind hm
        refine RW.ca (.int .i64 r9) rfl rfl (Ca.call rfl rfl Tryd.call18 (fun w hM => c_wave K a1_u a2_x r9 w (hG.keep hM rfl) hr9)) ?_
        refine RW.yi (.int .i64 v6) rfl rfl (Yi.pv _ rfl) ?_
        refine RW.yi (.bool (decide (r9 = v6))) rfl rfl (Yi.pv _ rfl) ?_
        refine RW.yi (.bool (decide (r9 = v6))) rfl rfl (Yi.pv _ rfl) ?_
        refine RW.yi (.bool (decide (r9 = v6))) rfl rfl (Yi.pv _ rfl) ?_
        refine RW.fork 58 (r9 = v6) rfl (fun h10 => ?_) (fun h10 => ?_)
        · replace hm := (if_pos h10).symm.trans hm
          obtain ⟨r11, hr11, hm⟩ := of_bind hm
          refine RW.ca (.bool r11) rfl rfl (Ca.call rfl rfl Tryd.call19 (fun w hM => c_awake9 K  r11 w (hG.keep hM rfl) hr11)) ?_
          refine RW.yi (.bool r11) rfl rfl (Yi.pv _ rfl) ?_
          refine RW.yi (.bool r11) rfl rfl (Yi.pv _ rfl) ?_
          refine RW.nil ?_
          refine EW.next ?_
          refine CW.ret ?_
          obtain rfl := Option.some.inj hm
          exact EW.done (rs := [.tmp 6]) rfl (.tmp (t := 6) (v := .bool r11) rfl .nil) (fun _ hM => ⟨rfl, hM.below⟩)
        · replace hm := (if_neg h10).symm.trans hm
          refine RW.pass rfl rfl ?_
          refine RW.yi (.bool false) rfl rfl (Yi.pv _ rfl) ?_
          refine RW.yi (.bool false) rfl rfl (Yi.pv _ rfl) ?_
          refine RW.nil ?_
          refine EW.next ?_
          refine CW.ret ?_
          obtain rfl := Option.some.inj hm
          exact EW.done (rs := [.tmp 6]) rfl (.tmp (t := 6) (v := .bool false) rfl .nil) (fun _ hM => ⟨rfl, hM.below⟩)
      · replace hm := (if_neg h8).symm.trans hm
        refine RW.pass rfl rfl ?_
        refine RW.pass rfl rfl ?_
        refine RW.pass rfl rfl ?_
        refine RW.pass rfl rfl ?_
        refine RW.pass rfl rfl ?_
        refine RW.yi (.bool false) rfl rfl (Yi.pv _ rfl) ?_
        refine RW.yi (.bool false) rfl rfl (Yi.pv _ rfl) ?_
        refine RW.pass rfl rfl ?_
        refine RW.yi (.bool false) rfl rfl (Yi.pv _ rfl) ?_
        refine RW.yi (.bool false) rfl rfl (Yi.pv _ rfl) ?_
        refine RW.nil ?_
        refine EW.next ?_
        refine CW.ret ?_
        obtain rfl := Option.some.inj hm
        exact EW.done (rs := [.tmp 6]) rfl (.tmp (t := 6) (v := .bool false) rfl .nil) (fun _ hM => ⟨rfl, hM.below⟩)
    · replace hm := (if_neg h7).symm.trans hm
      refine RW.pass rfl rfl ?_
      refine RW.pass rfl rfl ?_
      refine RW.pass rfl rfl ?_
      refine RW.yi (.bool false) rfl rfl (Yi.pv _ rfl) ?_
      refine RW.yi (.bool false) rfl rfl (Yi.pv _ rfl) ?_
      refine RW.pass rfl rfl ?_
      refine RW.pass rfl rfl ?_
      refine RW.pass rfl rfl ?_
      refine RW.pass rfl rfl ?_
      refine RW.pass rfl rfl ?_
      refine RW.yi (.bool false) rfl rfl (Yi.pv _ rfl) ?_
      refine RW.yi (.bool false) rfl rfl (Yi.pv _ rfl) ?_
      refine RW.pass rfl rfl ?_
      refine RW.yi (.bool false) rfl rfl (Yi.pv _ rfl) ?_
      refine RW.yi (.bool false) rfl rfl (Yi.pv _ rfl) ?_
      refine RW.nil ?_
      refine EW.next ?_
      refine CW.ret ?_
      obtain rfl := Option.some.inj hm
      exact EW.done (rs := [.tmp 6]) rfl (.tmp (t := 6) (v := .bool false) rfl .nil) (fun _ hM => ⟨rfl, hM.below⟩)
def lawDctInverse (K : Nat) (a0_b : (Nat → Int)) : Option (Bool) :=
  ((invd K a0_b).bind fun r2 => ((rInv K a0_b).bind fun r4 => (if eqF 64 r2.1 r4.1 then (if r2.2 = r4.2 then ((awake9 K ).bind fun r8 => some r8) else some false) else some false)))

theorem c_lawDctInverse (K : Nat) (a0_b : (Nat → Int)) (r : Bool) (w0 : World) (hG : Gl GG w0) (hm : lawDctInverse K a0_b = some r) : Calls Tryd.prog 9 #[.agg (cf 64 (iv a0_b))] w0 fun e w' => e = .returned (.bool r) ∧ Below w0.heap.size w0 w' := by
  unfold lawDctInverse at hm
  refine calls_CW (n := 28) w0 [] [] Tryd.func9 rfl rfl rfl (Mem.begin w0) ?_
  refine CW.seq ?_
  refine CW.region ?_
  refine RW.box (v := .agg (cf 64 (iv a0_b))) rfl rfl rfl (fun b1 => ?_)
  refine RW.yi (.bool false) rfl rfl (Yi.pv _ rfl) ?_
  refine RW.nil ?_
  refine EW.next ?_
  refine CW.seq ?_
  refine CW.region ?_
  refine RW.yi (.agg (cf 64 (iv a0_b))) rfl rfl (Yi.loadW (i := 0) rfl rfl Tryd.isAgg23 Tryd.sizeOf23) ?_
  obtain ⟨r2, hr2, hm⟩ := of_bind hm
  refine RW.ca (.tuple #[.agg (cf 64 (iv r2.1)), .int .i64 r2.2]) rfl rfl (Ca.call rfl rfl Tryd.call26 (fun w hM => c_invd K a0_b r2 w (hG.keep hM rfl) hr2)) ?_
  refine RW.yi (.tuple #[.agg (cf 64 (iv r2.1)), .int .i64 r2.2]) rfl rfl (Yi.pv _ rfl) ?_
  refine RW.yi (.agg (cf 64 (iv r2.1))) rfl rfl (Yi.pv _ rfl) ?_
  refine RW.yi (.int .i64 r2.2) rfl rfl (Yi.pv _ rfl) ?_
  refine RW.alloc (z := .agg (cf 64 (iv zf))) (cf 64 (iv zf)) rfl rfl (fun _ => by kernel_rfl) rfl (fun b3 => ?_)
  refine RW.storeW (i := 0) (cs' := cf 64 (iv r2.1)) rfl rfl rfl rfl (by rw [cf_size]; kernel_rfl) (by simp only [cf_size]) (iv_one _ _) ?_
  refine RW.yi (.int .i64 r2.2) rfl rfl (Yi.pv _ rfl) ?_
  refine RW.nil ?_
  refine EW.next ?_
  refine CW.seq ?_
  refine CW.region ?_
  refine RW.yi (.agg (cf 64 (iv a0_b))) rfl rfl (Yi.loadW (i := 1) rfl rfl Tryd.isAgg23 Tryd.sizeOf23) ?_
  obtain ⟨r4, hr4, hm⟩ := of_bind hm
  refine RW.ca (.tuple #[.agg (cf 64 (iv r4.1)), .int .i64 r4.2]) rfl rfl (Ca.call rfl rfl Tryd.call27 (fun w _ => c_rInv K a0_b r4 w hr4)) ?_
  refine RW.yi (.tuple #[.agg (cf 64 (iv r4.1)), .int .i64 r4.2]) rfl rfl (Yi.pv _ rfl) ?_
  refine RW.yi (.agg (cf 64 (iv r4.1))) rfl rfl (Yi.pv _ rfl) ?_
  refine RW.yi (.int .i64 r4.2) rfl rfl (Yi.pv _ rfl) ?_
  refine RW.alloc (z := .agg (cf 64 (iv zf))) (cf 64 (iv zf)) rfl rfl (fun _ => by kernel_rfl) rfl (fun b5 => ?_)
  refine RW.storeW (i := 0) (cs' := cf 64 (iv r4.1)) rfl rfl rfl rfl (by rw [cf_size]; kernel_rfl) (by simp only [cf_size]) (iv_one _ _) ?_
  refine RW.yi (.int .i64 r4.2) rfl rfl (Yi.pv _ rfl) ?_
  refine RW.nil ?_
  refine EW.next ?_
  refine CW.seq ?_
  refine CW.region ?_
  refine RW.yi (.agg (cf 64 (iv r2.1))) rfl rfl (Yi.loadW (i := 1) rfl rfl Tryd.isAgg23 Tryd.sizeOf23) ?_
  refine RW.yi (.agg (cf 64 (iv r4.1))) rfl rfl (Yi.loadW (i := 0) rfl rfl Tryd.isAgg23 Tryd.sizeOf23) ?_
  refine RW.yi (.bool (decide (eqF 64 r2.1 r4.1))) rfl rfl (Yi.eqA Tryd.underlying23 Tryd.eqGuardType23 Tryd.underlying3 Tryd.sizeOf3 Tryd.isAgg3 rfl rfl) ?_
  refine RW.yi (.bool (decide (eqF 64 r2.1 r4.1))) rfl rfl (Yi.pv _ rfl) ?_
  refine RW.fork 20 (eqF 64 r2.1 r4.1) rfl (fun h6 => ?_) (fun h6 => ?_)
  · replace hm := (if_pos h6).symm.trans hm
    refine RW.yi (.int .i64 r2.2) rfl rfl (Yi.pv _ rfl) ?_
    refine RW.yi (.int .i64 r4.2) rfl rfl (Yi.pv _ rfl) ?_
    refine RW.yi (.bool (decide (r2.2 = r4.2))) rfl rfl (Yi.pv _ rfl) ?_
    refine RW.yi (.bool (decide (r2.2 = r4.2))) rfl rfl (Yi.pv _ rfl) ?_
    refine RW.yi (.bool (decide (r2.2 = r4.2))) rfl rfl (Yi.pv _ rfl) ?_
    refine RW.fork 25 (r2.2 = r4.2) rfl (fun h7 => ?_) (fun h7 => ?_)
    · replace hm := (if_pos h7).symm.trans hm
      obtain ⟨r8, hr8, hm⟩ := of_bind hm
      refine RW.ca (.bool r8) rfl rfl (Ca.call rfl rfl Tryd.call19 (fun w hM => c_awake9 K  r8 w (hG.keep hM rfl) hr8)) ?_
      refine RW.yi (.bool r8) rfl rfl (Yi.pv _ rfl) ?_
      refine RW.yi (.bool r8) rfl rfl (Yi.pv _ rfl) ?_
      refine RW.nil ?_
      refine EW.next ?_
      refine CW.ret ?_
      obtain rfl := Option.some.inj hm
      exact EW.done (rs := [.tmp 2]) rfl (.tmp (t := 2) (v := .bool r8) rfl .nil) (fun _ hM => ⟨rfl, hM.below⟩)
    · replace hm := (if_neg h7).symm.trans hm
      refine RW.pass rfl rfl ?_
      refine RW.yi (.bool false) rfl rfl (Yi.pv _ rfl) ?_
      refine RW.yi (.bool false) rfl rfl (Yi.pv _ rfl) ?_
      refine RW.nil ?_
      refine EW.next ?_
      refine CW.ret ?_
      obtain rfl := Option.some.inj hm
      exact EW.done (rs := [.tmp 2]) rfl (.tmp (t := 2) (v := .bool false) rfl .nil) (fun _ hM => ⟨rfl, hM.below⟩)
  · replace hm := (if_neg h6).symm.trans hm
    refine RW.pass rfl rfl ?_
    refine RW.pass rfl rfl ?_
    refine RW.pass rfl rfl ?_
    refine RW.yi (.bool false) rfl rfl (Yi.pv _ rfl) ?_
    refine RW.yi (.bool false) rfl rfl (Yi.pv _ rfl) ?_
    refine RW.pass rfl rfl ?_
    refine RW.yi (.bool false) rfl rfl (Yi.pv _ rfl) ?_
    refine RW.yi (.bool false) rfl rfl (Yi.pv _ rfl) ?_
    refine RW.nil ?_
    refine EW.next ?_
    refine CW.ret ?_
    obtain rfl := Option.some.inj hm
    exact EW.done (rs := [.tmp 2]) rfl (.tmp (t := 2) (v := .bool false) rfl .nil) (fun _ hM => ⟨rfl, hM.below⟩)
def lawDctNear_j1 (K : Nat)  (r4 : ((Nat → Int) × Int)) (r6 : ((Nat → Int) × Int))  : Option (Bool) :=
  (if r4.2 = 0 then (if r6.2 = 0 then ((awake9 K ).bind fun r10 => some r10) else some false) else some false)

def lawDctNear_l1 (K : Nat) (a0_b : (Nat → Int)) (r4 : ((Nat → Int) × Int)) (r6 : ((Nat → Int) × Int)) : Nat → Int →  Option (Bool)
  | 0, _ => none
  | k1 + 1, v11 =>
    (if v11 < 64 then (if 0 ≤ v11 ∧ v11 < 64 then (if 4 < (w64 ((a0_b v11.toNat) - (r6.1 v11.toNat))) then some false else (if (w64 ((a0_b v11.toNat) - (r6.1 v11.toNat))) < (-4) then some false else (lawDctNear_l1 K a0_b r4 r6 k1) (w64 (v11 + 1)))) else none) else lawDctNear_j1 K r4 r6)

def lawDctNear (K : Nat) (a0_b : (Nat → Int)) : Option (Bool) :=
  ((rIn K a0_b (-128) 127).bind fun r2 => (if r2 = true then ((fwd K a0_b).bind fun r4 => ((invd K r4.1).bind fun r6 => lawDctNear_l1 K a0_b r4 r6 K 0)) else ((awake9 K ).bind fun r16 => some r16)))

theorem c_lawDctNear (K : Nat) (a0_b : (Nat → Int)) (r : Bool) (w0 : World) (hG : Gl GG w0) (hm : lawDctNear K a0_b = some r) : Calls Tryd.prog 10 #[.agg (cf 64 (iv a0_b))] w0 fun e w' => e = .returned (.bool r) ∧ Below w0.heap.size w0 w' := by
  unfold lawDctNear at hm
  refine calls_CW (n := 49) w0 [] [] Tryd.func10 rfl rfl rfl (Mem.begin w0) ?_
  refine CW.seq ?_
  refine CW.region ?_
  refine RW.box (v := .agg (cf 64 (iv a0_b))) rfl rfl rfl (fun b1 => ?_)
  refine RW.yi (.bool false) rfl rfl (Yi.pv _ rfl) ?_
  refine RW.nil ?_
  refine EW.next ?_
  refine CW.seq ?_
  refine CW.seq ?_
  refine CW.region ?_
  refine RW.yi (.agg (cf 64 (iv a0_b))) rfl rfl (Yi.loadW (i := 0) rfl rfl Tryd.isAgg23 Tryd.sizeOf23) ?_
  obtain ⟨r2, hr2, hm⟩ := of_bind hm
  refine RW.ca (.bool r2) rfl rfl (Ca.call rfl rfl Tryd.call25 (fun w _ => c_rIn K a0_b (-128) 127 r2 w hr2)) ?_
  refine RW.forkB 10 (r2) rfl (fun h3 => ?_) (fun h3 => ?_)
  · replace hm := (if_pos h3).symm.trans hm
    refine RW.yi (.bool false) rfl rfl (Yi.pv _ rfl) ?_
    refine RW.nil ?_
    refine EW.next ?_
    refine CW.cond_false rfl ?_
    refine CW.skip ?_
    refine EW.next ?_
    refine CW.seq ?_
    refine CW.region ?_
    refine RW.yi (.agg (cf 64 (iv a0_b))) rfl rfl (Yi.loadW (i := 0) rfl rfl Tryd.isAgg23 Tryd.sizeOf23) ?_
    obtain ⟨r4, hr4, hm⟩ := of_bind hm
    refine RW.ca (.tuple #[.agg (cf 64 (iv r4.1)), .int .i64 r4.2]) rfl rfl (Ca.call rfl rfl Tryd.call15 (fun w hM => c_fwd K a0_b r4 w (hG.keep hM rfl) hr4)) ?_
    refine RW.yi (.tuple #[.agg (cf 64 (iv r4.1)), .int .i64 r4.2]) rfl rfl (Yi.pv _ rfl) ?_
    refine RW.yi (.agg (cf 64 (iv r4.1))) rfl rfl (Yi.pv _ rfl) ?_
    refine RW.yi (.int .i64 r4.2) rfl rfl (Yi.pv _ rfl) ?_
    refine RW.alloc (z := .agg (cf 64 (iv zf))) (cf 64 (iv zf)) rfl rfl (fun _ => by kernel_rfl) rfl (fun b5 => ?_)
    refine RW.storeW (i := 0) (cs' := cf 64 (iv r4.1)) rfl rfl rfl rfl (by rw [cf_size]; kernel_rfl) (by simp only [cf_size]) (iv_one _ _) ?_
    refine RW.yi (.int .i64 r4.2) rfl rfl (Yi.pv _ rfl) ?_
    refine RW.nil ?_
    refine EW.next ?_
    refine CW.seq ?_
    refine CW.region ?_
    refine RW.yi (.agg (cf 64 (iv r4.1))) rfl rfl (Yi.loadW (i := 0) rfl rfl Tryd.isAgg23 Tryd.sizeOf23) ?_
    obtain ⟨r6, hr6, hm⟩ := of_bind hm
    refine RW.ca (.tuple #[.agg (cf 64 (iv r6.1)), .int .i64 r6.2]) rfl rfl (Ca.call rfl rfl Tryd.call26 (fun w hM => c_invd K r4.1 r6 w (hG.keep hM rfl) hr6)) ?_
    refine RW.yi (.tuple #[.agg (cf 64 (iv r6.1)), .int .i64 r6.2]) rfl rfl (Yi.pv _ rfl) ?_
    refine RW.yi (.agg (cf 64 (iv r6.1))) rfl rfl (Yi.pv _ rfl) ?_
    refine RW.yi (.int .i64 r6.2) rfl rfl (Yi.pv _ rfl) ?_
    refine RW.alloc (z := .agg (cf 64 (iv zf))) (cf 64 (iv zf)) rfl rfl (fun _ => by kernel_rfl) rfl (fun b7 => ?_)
    refine RW.storeW (i := 0) (cs' := cf 64 (iv r6.1)) rfl rfl rfl rfl (by rw [cf_size]; kernel_rfl) (by simp only [cf_size]) (iv_one _ _) ?_
    refine RW.yi (.int .i64 r6.2) rfl rfl (Yi.pv _ rfl) ?_
    refine RW.nil ?_
    refine EW.next ?_
    refine CW.join (fun a w => St 49 [(4, .int .i64 r4.2), (6, .int .i64 r6.2)] a ∧ Mem w0 [] [] w ∧ lawDctNear_j1 K r4 r6 = some r) ?_ ?_
    · refine CW.seq ?_
      refine CW.region ?_
      refine RW.yi (.int .i64 0) rfl rfl (Yi.pv _ rfl) ?_
      refine RW.nil ?_
      refine EW.next ?_
      refine CW.block ?_
      refine CW.loop (fun k a w => ∃ (v11 : Int), St 49 [(1, .pointer (some ⟨b1, 0, none⟩)), (4, .int .i64 r4.2), (5, .pointer (some ⟨b7, 0, none⟩)), (6, .int .i64 r6.2), (23, .int .i64 v11)] a ∧ Mem w0 [] [.blk b7 23 (cf 64 (iv r6.1)), .blk b1 23 (cf 64 (iv a0_b))] w ∧ lawDctNear_l1 K a0_b r4 r6 k v11 = some r) K ?_ ?_ ?_
      · rintro a w ⟨_, _, _, hm⟩
        rw [lawDctNear_l1.eq_1] at hm
        cases hm
      · exact fun a w hs hM => ⟨0, hs.sub ⟨rfl, rfl, rfl, rfl, rfl, trivial⟩, hM.sub (.cons_cons _ (.cons _ (.cons_cons _ .slnil))), hm⟩
      · rintro k1 a w ⟨v11, hs, hM, hm⟩
        rw [lawDctNear_l1.eq_2] at hm
        refine CW.enter hs hM ?_
        refine CW.seq ?_
        refine CW.region ?_
        refine RW.yi (.bool (decide (v11 < 64))) rfl rfl (Yi.pv _ rfl) ?_
        refine RW.nil ?_
        refine EW.next ?_
        refine CW.seq ?_
        refine CW.fork 24 (v11 < 64) rfl (fun h12 => ?_) (fun h12 => ?_)
        · replace hm := (if_pos h12).symm.trans hm
          refine CW.cond_true rfl ?_
          refine CW.skip ?_
          refine EW.next ?_
          refine CW.seq ?_
          refine CW.block ?_
          refine CW.seq ?_
          refine CW.region ?_
          refine RW.yi (.int .i64 v11) rfl rfl (Yi.pv _ rfl) ?_
          refine RW.yi (.int .i64 v11) rfl rfl (Yi.pv _ rfl) ?_
          refine RW.nil ?_
          refine EW.next ?_
          refine CW.seq ?_
          refine CW.draws (by kernel_rfl) (by kernel_rfl) ?_
          refine QW.yi (.int .i64 v11) rfl rfl (Yi.pv _ rfl) ?_
          obtain ⟨g13, hm⟩ := of_guard hm
          refine QW.yi (.pointer (some ⟨b1, v11.toNat, none⟩)) rfl rfl (Yi.indexAddr' _ Tryd.underlying23 Tryd.sizeOf3 rfl rfl g13.1 g13.2 (by omega)) ?_
          refine QW.yi (.int .i64 (a0_b v11.toNat)) rfl rfl (Yi.load1 (i := 1) _ rfl rfl Tryd.isAgg3 (cf_get (by omega))) ?_
          refine QW.yi (.int .i64 v11) rfl rfl (Yi.pv _ rfl) ?_
          refine QW.yi (.pointer (some ⟨b7, v11.toNat, none⟩)) rfl rfl (Yi.indexAddr' _ Tryd.underlying23 Tryd.sizeOf3 rfl rfl g13.1 g13.2 (by omega)) ?_
          refine QW.yi (.int .i64 (r6.1 v11.toNat)) rfl rfl (Yi.load1 (i := 0) _ rfl rfl Tryd.isAgg3 (cf_get (by omega))) ?_
          refine QW.yi (.int .i64 (w64 ((a0_b v11.toNat) - (r6.1 v11.toNat)))) rfl rfl (Yi.pv _ rfl) ?_
          refine QW.yi (.int .i64 (w64 ((a0_b v11.toNat) - (r6.1 v11.toNat)))) rfl rfl (Yi.pv _ rfl) ?_
          refine QW.nil ?_
          refine EW.next ?_
          refine CW.seq ?_
          refine CW.region ?_
          refine RW.yi (.int .i64 (w64 ((a0_b v11.toNat) - (r6.1 v11.toNat)))) rfl rfl (Yi.pv _ rfl) ?_
          refine RW.yi (.bool (decide (4 < (w64 ((a0_b v11.toNat) - (r6.1 v11.toNat)))))) rfl rfl (Yi.pv _ rfl) ?_
          refine RW.yi (.bool (decide (4 < (w64 ((a0_b v11.toNat) - (r6.1 v11.toNat)))))) rfl rfl (Yi.pv _ rfl) ?_
          refine RW.fork 35 (4 < (w64 ((a0_b v11.toNat) - (r6.1 v11.toNat)))) rfl (fun h14 => ?_) (fun h14 => ?_)
          · replace hm := (if_pos h14).symm.trans hm
            refine RW.pass rfl rfl ?_
            refine RW.pass rfl rfl ?_
            refine RW.yi (.bool true) rfl rfl (Yi.pv _ rfl) ?_
            refine RW.nil ?_
            refine EW.next ?_
            refine CW.cond_true rfl ?_
            refine CW.seq ?_
            refine CW.region ?_
            refine RW.yi (.bool false) rfl rfl (Yi.pv _ rfl) ?_
            refine RW.nil ?_
            refine EW.next ?_
            refine CW.ret ?_
            refine EW.blr ?_
            refine EW.thr ?_
            refine EW.thr ?_
            refine EW.blr ?_
            refine EW.thr ?_
            obtain rfl := Option.some.inj hm
            exact EW.done (rs := [.tmp 2]) rfl (.tmp (t := 2) (v := .bool false) rfl .nil) (fun _ hM => ⟨rfl, hM.below⟩)
          · replace hm := (if_neg h14).symm.trans hm
            refine RW.yi (.int .i64 (w64 ((a0_b v11.toNat) - (r6.1 v11.toNat)))) rfl rfl (Yi.pv _ rfl) ?_
            refine RW.yi (.bool (decide ((w64 ((a0_b v11.toNat) - (r6.1 v11.toNat))) < (-4)))) rfl rfl (Yi.pv _ rfl) ?_
            refine RW.yi (.bool (decide ((w64 ((a0_b v11.toNat) - (r6.1 v11.toNat))) < (-4)))) rfl rfl (Yi.pv _ rfl) ?_
            refine RW.nil ?_
            refine EW.next ?_
            refine CW.fork 38 ((w64 ((a0_b v11.toNat) - (r6.1 v11.toNat))) < (-4)) rfl (fun h15 => ?_) (fun h15 => ?_)
            · replace hm := (if_pos h15).symm.trans hm
              refine CW.cond_true rfl ?_
              refine CW.seq ?_
              refine CW.region ?_
              refine RW.yi (.bool false) rfl rfl (Yi.pv _ rfl) ?_
              refine RW.nil ?_
              refine EW.next ?_
              refine CW.ret ?_
              refine EW.blr ?_
              refine EW.thr ?_
              refine EW.thr ?_
              refine EW.blr ?_
              refine EW.thr ?_
              obtain rfl := Option.some.inj hm
              exact EW.done (rs := [.tmp 2]) rfl (.tmp (t := 2) (v := .bool false) rfl .nil) (fun _ hM => ⟨rfl, hM.below⟩)
            · replace hm := (if_neg h15).symm.trans hm
              refine CW.cond_false rfl ?_
              refine CW.skip ?_
              refine EW.bln ?_
              refine EW.next ?_
              refine CW.region ?_
              refine RW.yi (.int .i64 (w64 (v11 + 1))) rfl rfl (Yi.pv _ rfl) ?_
              refine RW.yi (.int .i64 (w64 (v11 + 1))) rfl rfl (Yi.pv _ rfl) ?_
              refine RW.nil ?_
              refine EW.thn ?_
              exact fun a w hs hM => ⟨(w64 (v11 + 1)), hs.sub ⟨rfl, rfl, rfl, rfl, rfl, trivial⟩, hM.sub (.cons_cons _ (.cons_cons _ .slnil)), hm⟩
        · replace hm := (if_neg h12).symm.trans hm
          refine CW.cond_false rfl ?_
          refine CW.exit ?_
          refine EW.thx ?_
          refine EW.thx ?_
          refine EW.blx ?_
          refine EW.thn ?_
          exact fun a w hs hM => ⟨hs.sub ⟨rfl, rfl, trivial⟩, hM.sub (.cons _ (.cons _ .slnil)), hm⟩
    · rintro a w ⟨hs, hM, hm⟩
      unfold lawDctNear_j1 at hm
      refine CW.enter hs hM ?_
      refine CW.seq ?_
      refine CW.region ?_
      refine RW.yi (.int .i64 r4.2) rfl rfl (Yi.pv _ rfl) ?_
      refine RW.yi (.bool (decide (r4.2 = 0))) rfl rfl (Yi.pv _ rfl) ?_
      refine RW.yi (.bool (decide (r4.2 = 0))) rfl rfl (Yi.pv _ rfl) ?_
      refine RW.fork 42 (r4.2 = 0) rfl (fun h8 => ?_) (fun h8 => ?_)
      · replace hm := (if_pos h8).symm.trans hm
        refine RW.yi (.int .i64 r6.2) rfl rfl (Yi.pv _ rfl) ?_
        refine RW.yi (.bool (decide (r6.2 = 0))) rfl rfl (Yi.pv _ rfl) ?_
        refine RW.yi (.bool (decide (r6.2 = 0))) rfl rfl (Yi.pv _ rfl) ?_
        refine RW.yi (.bool (decide (r6.2 = 0))) rfl rfl (Yi.pv _ rfl) ?_
        refine RW.fork 46 (r6.2 = 0) rfl (fun h9 => ?_) (fun h9 => ?_)
        · replace hm := (if_pos h9).symm.trans hm
          obtain ⟨r10, hr10, hm⟩ := of_bind hm
          refine RW.ca (.bool r10) rfl rfl (Ca.call rfl rfl Tryd.call19 (fun w hM => c_awake9 K  r10 w (hG.keep hM rfl) hr10)) ?_
          refine RW.yi (.bool r10) rfl rfl (Yi.pv _ rfl) ?_
          refine RW.yi (.bool r10) rfl rfl (Yi.pv _ rfl) ?_
          refine RW.nil ?_
          refine EW.next ?_
          refine CW.ret ?_
          obtain rfl := Option.some.inj hm
          exact EW.done (rs := [.tmp 2]) rfl (.tmp (t := 2) (v := .bool r10) rfl .nil) (fun _ hM => ⟨rfl, hM.below⟩)
        · replace hm := (if_neg h9).symm.trans hm
          refine RW.pass rfl rfl ?_
          refine RW.yi (.bool false) rfl rfl (Yi.pv _ rfl) ?_
          refine RW.yi (.bool false) rfl rfl (Yi.pv _ rfl) ?_
          refine RW.nil ?_
          refine EW.next ?_
          refine CW.ret ?_
          obtain rfl := Option.some.inj hm
          exact EW.done (rs := [.tmp 2]) rfl (.tmp (t := 2) (v := .bool false) rfl .nil) (fun _ hM => ⟨rfl, hM.below⟩)
      · replace hm := (if_neg h8).symm.trans hm
        refine RW.pass rfl rfl ?_
        refine RW.pass rfl rfl ?_
        refine RW.yi (.bool false) rfl rfl (Yi.pv _ rfl) ?_
        refine RW.yi (.bool false) rfl rfl (Yi.pv _ rfl) ?_
        refine RW.pass rfl rfl ?_
        refine RW.yi (.bool false) rfl rfl (Yi.pv _ rfl) ?_
        refine RW.yi (.bool false) rfl rfl (Yi.pv _ rfl) ?_
        refine RW.nil ?_
        refine EW.next ?_
        refine CW.ret ?_
        obtain rfl := Option.some.inj hm
        exact EW.done (rs := [.tmp 2]) rfl (.tmp (t := 2) (v := .bool false) rfl .nil) (fun _ hM => ⟨rfl, hM.below⟩)
  · replace hm := (if_neg h3).symm.trans hm
    refine RW.yi (.bool true) rfl rfl (Yi.pv _ rfl) ?_
    refine RW.nil ?_
    refine EW.next ?_
    refine CW.cond_true rfl ?_
    refine CW.seq ?_
    refine CW.region ?_
    obtain ⟨r16, hr16, hm⟩ := of_bind hm
    refine RW.ca (.bool r16) rfl rfl (Ca.call rfl rfl Tryd.call19 (fun w hM => c_awake9 K  r16 w (hG.keep hM rfl) hr16)) ?_
    refine RW.yi (.bool r16) rfl rfl (Yi.pv _ rfl) ?_
    refine RW.nil ?_
    refine EW.next ?_
    refine CW.ret ?_
    refine EW.thr ?_
    obtain rfl := Option.some.inj hm
    exact EW.done (rs := [.tmp 2]) rfl (.tmp (t := 2) (v := .bool r16) rfl .nil) (fun _ hM => ⟨rfl, hM.below⟩)
def lawDctTurns_j2 (K : Nat)    : Option (Bool) :=
  ((awake9 K ).bind fun r14 => some r14)

def lawDctTurns_l1 (K : Nat) (r6 : ((Nat → Int) × Int)) (r8 : ((Nat → Int) × Int)) (r10 : ((Nat → Int) × Int)) (r12 : ((Nat → Int) × Int)) : Nat → Int →  Option (Bool)
  | 0, _ => none
  | k1 + 1, v15 =>
    (if v15 < 64 then (if 0 ≤ v15 ∧ v15 < 64 then (if ¬ (r6.1 v15.toNat) = (w64 (0 - (r8.1 v15.toNat))) then some false else (if ¬ (r10.1 v15.toNat) = (w64 (0 - (r12.1 v15.toNat))) then some false else (lawDctTurns_l1 K r6 r8 r10 r12 k1) (w64 (v15 + 1)))) else none) else lawDctTurns_j2 K)

def lawDctTurns_j1 (K : Nat)  (a0 : (Nat → Int)) (v5 : (Nat → Int)) : Option (Bool) :=
  ((fwd K a0).bind fun r6 => ((fwd K v5).bind fun r8 => ((invd K a0).bind fun r10 => ((invd K v5).bind fun r12 => lawDctTurns_l1 K r6 r8 r10 r12 K 0))))

def lawDctTurns_l2 (K : Nat) (a0 : (Nat → Int)) : Nat → Int → (Nat → Int) →  Option (Bool)
  | 0, _, _ => none
  | k2 + 1, v21, v22 =>
    (if v21 < 64 then (if 0 ≤ v21 ∧ v21 < 64 then (lawDctTurns_l2 K a0 k2) (w64 (v21 + 1)) (upd v22 v21.toNat (w64 (0 - (a0 v21.toNat)))) else none) else lawDctTurns_j1 K a0 v22)

def lawDctTurns (K : Nat) (a0 : (Nat → Int)) : Option (Bool) :=
  ((rIn K a0 (-2047) 2047).bind fun r2 => (if r2 = true then lawDctTurns_l2 K a0 K 0 zf else ((awake9 K ).bind fun r25 => some r25)))

theorem c_lawDctTurns (K : Nat) (a0 : (Nat → Int)) (r : Bool) (w0 : World) (hG : Gl GG w0) (hm : lawDctTurns K a0 = some r) : Calls Tryd.prog 11 #[.agg (cf 64 (iv a0))] w0 fun e w' => e = .returned (.bool r) ∧ Below w0.heap.size w0 w' := by
  unfold lawDctTurns at hm
  refine calls_CW (n := 72) w0 [] [] Tryd.func11 rfl rfl rfl (Mem.begin w0) ?_
  refine CW.seq ?_
  refine CW.region ?_
  refine RW.box (v := .agg (cf 64 (iv a0))) rfl rfl rfl (fun b1 => ?_)
  refine RW.yi (.bool false) rfl rfl (Yi.pv _ rfl) ?_
  refine RW.nil ?_
  refine EW.next ?_
  refine CW.seq ?_
  refine CW.seq ?_
  refine CW.region ?_
  refine RW.yi (.agg (cf 64 (iv a0))) rfl rfl (Yi.loadW (i := 0) rfl rfl Tryd.isAgg23 Tryd.sizeOf23) ?_
  obtain ⟨r2, hr2, hm⟩ := of_bind hm
  refine RW.ca (.bool r2) rfl rfl (Ca.call rfl rfl Tryd.call25 (fun w _ => c_rIn K a0 (-2047) 2047 r2 w hr2)) ?_
  refine RW.forkB 16 (r2) rfl (fun h3 => ?_) (fun h3 => ?_)
  · replace hm := (if_pos h3).symm.trans hm
    refine RW.yi (.bool false) rfl rfl (Yi.pv _ rfl) ?_
    refine RW.nil ?_
    refine EW.next ?_
    refine CW.cond_false rfl ?_
    refine CW.skip ?_
    refine EW.next ?_
    refine CW.seq ?_
    refine CW.region ?_
    refine RW.alloc (z := .agg (cf 64 (iv zf))) (cf 64 (iv zf)) rfl rfl (fun _ => by kernel_rfl) rfl (fun b4 => ?_)
    refine RW.nil ?_
    refine EW.next ?_
    refine CW.join (fun a w => ∃ (v5 : (Nat → Int)), St 72 [(1, .pointer (some ⟨b1, 0, none⟩)), (3, .pointer (some ⟨b4, 0, none⟩))] a ∧ Mem w0 [] [.blk b4 23 (cf 64 (iv v5)), .blk b1 23 (cf 64 (iv a0))] w ∧ lawDctTurns_j1 K a0 v5 = some r) ?_ ?_
    · refine CW.seq ?_
      refine CW.region ?_
      refine RW.yi (.agg (cf 64 (iv a0))) rfl rfl (Yi.loadW (i := 1) rfl rfl Tryd.isAgg23 Tryd.sizeOf23) ?_
      refine RW.yi (.int .i64 0) rfl rfl (Yi.pv _ rfl) ?_
      refine RW.nil ?_
      refine EW.next ?_
      refine CW.block ?_
      refine CW.loop (fun k a w => ∃ (v21 : Int) (v22 : (Nat → Int)), St 72 [(1, .pointer (some ⟨b1, 0, none⟩)), (3, .pointer (some ⟨b4, 0, none⟩)), (19, .agg (cf 64 (iv a0))), (20, .int .i64 v21)] a ∧ Mem w0 [] [.blk b4 23 (cf 64 (iv v22)), .blk b1 23 (cf 64 (iv a0))] w ∧ lawDctTurns_l2 K a0 k v21 v22 = some r) K ?_ ?_ ?_
      · rintro a w ⟨_, _, _, _, hm⟩
        rw [lawDctTurns_l2.eq_1] at hm
        cases hm
      · exact fun a w hs hM => ⟨0, zf, hs.sub ⟨rfl, rfl, rfl, rfl, trivial⟩, hM.sub (.cons_cons _ (.cons_cons _ .slnil)), hm⟩
      · rintro k2 a w ⟨v21, v22, hs, hM, hm⟩
        rw [lawDctTurns_l2.eq_2] at hm
        refine CW.enter hs hM ?_
        refine CW.seq ?_
        refine CW.region ?_
        refine RW.yi (.bool (decide (v21 < 64))) rfl rfl (Yi.pv _ rfl) ?_
        refine RW.nil ?_
        refine EW.next ?_
        refine CW.seq ?_
        refine CW.fork 21 (v21 < 64) rfl (fun h23 => ?_) (fun h23 => ?_)
        · replace hm := (if_pos h23).symm.trans hm
          refine CW.cond_true rfl ?_
          refine CW.skip ?_
          refine EW.next ?_
          refine CW.seq ?_
          refine CW.block ?_
          refine CW.seq ?_
          refine CW.region ?_
          refine RW.yi (.int .i64 v21) rfl rfl (Yi.pv _ rfl) ?_
          obtain ⟨g24, hm⟩ := of_guard hm
          refine RW.yi (.int .i64 (a0 v21.toNat)) rfl rfl (Yi.index _ Tryd.underlying23 Tryd.sizeOf3 Tryd.isAgg3 rfl rfl g24.1 g24.2 (cf_get (by omega))) ?_
          refine RW.yi (.int .i64 v21) rfl rfl (Yi.pv _ rfl) ?_
          refine RW.yi (.int .i64 (a0 v21.toNat)) rfl rfl (Yi.pv _ rfl) ?_
          refine RW.nil ?_
          refine EW.next ?_
          refine CW.region ?_
          refine RW.yi (.int .i64 v21) rfl rfl (Yi.pv _ rfl) ?_
          refine RW.yi (.int .i64 (a0 v21.toNat)) rfl rfl (Yi.pv _ rfl) ?_
          refine RW.yi (.int .i64 (w64 (0 - (a0 v21.toNat)))) rfl rfl (Yi.pv _ rfl) ?_
          refine RW.yi (.pointer (some ⟨b4, v21.toNat, none⟩)) rfl rfl (Yi.indexAddr' _ Tryd.underlying23 Tryd.sizeOf3 rfl rfl g24.1 g24.2 (by omega)) ?_
          refine RW.store1 (i := 0) (cs' := cf 64 (iv (upd v22 v21.toNat (w64 (0 - (a0 v21.toNat)))))) rfl rfl rfl rfl Tryd.sizeOf3 rfl rfl (by rw [cf_size]; omega) (by rw [cf_set, iv_upd]) ?_
          refine RW.nil ?_
          refine EW.bln ?_
          refine EW.next ?_
          refine CW.region ?_
          refine RW.yi (.int .i64 (w64 (v21 + 1))) rfl rfl (Yi.pv _ rfl) ?_
          refine RW.yi (.int .i64 (w64 (v21 + 1))) rfl rfl (Yi.pv _ rfl) ?_
          refine RW.nil ?_
          refine EW.thn ?_
          exact fun a w hs hM => ⟨(w64 (v21 + 1)), (upd v22 v21.toNat (w64 (0 - (a0 v21.toNat)))), hs.sub ⟨rfl, rfl, rfl, rfl, trivial⟩, hM.sub (.cons_cons _ (.cons_cons _ .slnil)), hm⟩
        · replace hm := (if_neg h23).symm.trans hm
          refine CW.cond_false rfl ?_
          refine CW.exit ?_
          refine EW.thx ?_
          refine EW.thx ?_
          refine EW.blx ?_
          refine EW.thn ?_
          exact fun a w hs hM => ⟨v22, hs.sub ⟨rfl, rfl, trivial⟩, hM.sub (.cons_cons _ (.cons_cons _ .slnil)), hm⟩
    · rintro a w ⟨v5, hs, hM, hm⟩
      unfold lawDctTurns_j1 at hm
      refine CW.enter hs hM ?_
      refine CW.seq ?_
      refine CW.region ?_
      refine RW.yi (.agg (cf 64 (iv a0))) rfl rfl (Yi.loadW (i := 1) rfl rfl Tryd.isAgg23 Tryd.sizeOf23) ?_
      obtain ⟨r6, hr6, hm⟩ := of_bind hm
      refine RW.ca (.tuple #[.agg (cf 64 (iv r6.1)), .int .i64 r6.2]) rfl rfl (Ca.call rfl rfl Tryd.call15 (fun w hM => c_fwd K a0 r6 w (hG.keep hM rfl) hr6)) ?_
      refine RW.yi (.tuple #[.agg (cf 64 (iv r6.1)), .int .i64 r6.2]) rfl rfl (Yi.pv _ rfl) ?_
      refine RW.yi (.agg (cf 64 (iv r6.1))) rfl rfl (Yi.pv _ rfl) ?_
      refine RW.yi (.int .i64 r6.2) rfl rfl (Yi.pv _ rfl) ?_
      refine RW.alloc (z := .agg (cf 64 (iv zf))) (cf 64 (iv zf)) rfl rfl (fun _ => by kernel_rfl) rfl (fun b7 => ?_)
      refine RW.storeW (i := 0) (cs' := cf 64 (iv r6.1)) rfl rfl rfl rfl (by rw [cf_size]; kernel_rfl) (by simp only [cf_size]) (iv_one _ _) ?_
      refine RW.yi (.int .i64 r6.2) rfl rfl (Yi.pv _ rfl) ?_
      refine RW.nil ?_
      refine EW.next ?_
      refine CW.seq ?_
      refine CW.region ?_
      refine RW.yi (.agg (cf 64 (iv v5))) rfl rfl (Yi.loadW (i := 1) rfl rfl Tryd.isAgg23 Tryd.sizeOf23) ?_
      obtain ⟨r8, hr8, hm⟩ := of_bind hm
      refine RW.ca (.tuple #[.agg (cf 64 (iv r8.1)), .int .i64 r8.2]) rfl rfl (Ca.call rfl rfl Tryd.call15 (fun w hM => c_fwd K v5 r8 w (hG.keep hM rfl) hr8)) ?_
      refine RW.yi (.tuple #[.agg (cf 64 (iv r8.1)), .int .i64 r8.2]) rfl rfl (Yi.pv _ rfl) ?_
      refine RW.yi (.agg (cf 64 (iv r8.1))) rfl rfl (Yi.pv _ rfl) ?_
      refine RW.yi (.int .i64 r8.2) rfl rfl (Yi.pv _ rfl) ?_
      refine RW.alloc (z := .agg (cf 64 (iv zf))) (cf 64 (iv zf)) rfl rfl (fun _ => by kernel_rfl) rfl (fun b9 => ?_)
      refine RW.storeW (i := 0) (cs' := cf 64 (iv r8.1)) rfl rfl rfl rfl (by rw [cf_size]; kernel_rfl) (by simp only [cf_size]) (iv_one _ _) ?_
      refine RW.yi (.int .i64 r8.2) rfl rfl (Yi.pv _ rfl) ?_
      refine RW.nil ?_
      refine EW.next ?_
      refine CW.seq ?_
      refine CW.region ?_
      refine RW.yi (.agg (cf 64 (iv a0))) rfl rfl (Yi.loadW (i := 3) rfl rfl Tryd.isAgg23 Tryd.sizeOf23) ?_
      obtain ⟨r10, hr10, hm⟩ := of_bind hm
      refine RW.ca (.tuple #[.agg (cf 64 (iv r10.1)), .int .i64 r10.2]) rfl rfl (Ca.call rfl rfl Tryd.call26 (fun w hM => c_invd K a0 r10 w (hG.keep hM rfl) hr10)) ?_
      refine RW.yi (.tuple #[.agg (cf 64 (iv r10.1)), .int .i64 r10.2]) rfl rfl (Yi.pv _ rfl) ?_
      refine RW.yi (.agg (cf 64 (iv r10.1))) rfl rfl (Yi.pv _ rfl) ?_
      refine RW.yi (.int .i64 r10.2) rfl rfl (Yi.pv _ rfl) ?_
      refine RW.alloc (z := .agg (cf 64 (iv zf))) (cf 64 (iv zf)) rfl rfl (fun _ => by kernel_rfl) rfl (fun b11 => ?_)
      refine RW.storeW (i := 0) (cs' := cf 64 (iv r10.1)) rfl rfl rfl rfl (by rw [cf_size]; kernel_rfl) (by simp only [cf_size]) (iv_one _ _) ?_
      refine RW.yi (.int .i64 r10.2) rfl rfl (Yi.pv _ rfl) ?_
      refine RW.nil ?_
      refine EW.next ?_
      refine CW.seq ?_
      refine CW.region ?_
      refine RW.yi (.agg (cf 64 (iv v5))) rfl rfl (Yi.loadW (i := 3) rfl rfl Tryd.isAgg23 Tryd.sizeOf23) ?_
      obtain ⟨r12, hr12, hm⟩ := of_bind hm
      refine RW.ca (.tuple #[.agg (cf 64 (iv r12.1)), .int .i64 r12.2]) rfl rfl (Ca.call rfl rfl Tryd.call26 (fun w hM => c_invd K v5 r12 w (hG.keep hM rfl) hr12)) ?_
      refine RW.yi (.tuple #[.agg (cf 64 (iv r12.1)), .int .i64 r12.2]) rfl rfl (Yi.pv _ rfl) ?_
      refine RW.yi (.agg (cf 64 (iv r12.1))) rfl rfl (Yi.pv _ rfl) ?_
      refine RW.yi (.int .i64 r12.2) rfl rfl (Yi.pv _ rfl) ?_
      refine RW.alloc (z := .agg (cf 64 (iv zf))) (cf 64 (iv zf)) rfl rfl (fun _ => by kernel_rfl) rfl (fun b13 => ?_)
      refine RW.storeW (i := 0) (cs' := cf 64 (iv r12.1)) rfl rfl rfl rfl (by rw [cf_size]; kernel_rfl) (by simp only [cf_size]) (iv_one _ _) ?_
      refine RW.yi (.int .i64 r12.2) rfl rfl (Yi.pv _ rfl) ?_
      refine RW.nil ?_
      refine EW.next ?_
      refine CW.join (fun a w => St 72 [] a ∧ Mem w0 [] [] w ∧ lawDctTurns_j2 K = some r) ?_ ?_
      · refine CW.seq ?_
        refine CW.region ?_
        refine RW.yi (.int .i64 0) rfl rfl (Yi.pv _ rfl) ?_
        refine RW.nil ?_
        refine EW.next ?_
        refine CW.block ?_
        refine CW.loop (fun k a w => ∃ (v15 : Int), St 72 [(6, .pointer (some ⟨b7, 0, none⟩)), (8, .pointer (some ⟨b9, 0, none⟩)), (10, .pointer (some ⟨b11, 0, none⟩)), (12, .pointer (some ⟨b13, 0, none⟩)), (49, .int .i64 v15)] a ∧ Mem w0 [] [.blk b13 23 (cf 64 (iv r12.1)), .blk b11 23 (cf 64 (iv r10.1)), .blk b9 23 (cf 64 (iv r8.1)), .blk b7 23 (cf 64 (iv r6.1))] w ∧ lawDctTurns_l1 K r6 r8 r10 r12 k v15 = some r) K ?_ ?_ ?_
        · rintro a w ⟨_, _, _, hm⟩
          rw [lawDctTurns_l1.eq_1] at hm
          cases hm
        · exact fun a w hs hM => ⟨0, hs.sub ⟨rfl, rfl, rfl, rfl, rfl, trivial⟩, hM.sub (.cons_cons _ (.cons_cons _ (.cons_cons _ (.cons_cons _ (.cons _ (.cons _ .slnil)))))), hm⟩
        · rintro k1 a w ⟨v15, hs, hM, hm⟩
          rw [lawDctTurns_l1.eq_2] at hm
          refine CW.enter hs hM ?_
          refine CW.seq ?_
          refine CW.region ?_
          refine RW.yi (.bool (decide (v15 < 64))) rfl rfl (Yi.pv _ rfl) ?_
          refine RW.nil ?_
          refine EW.next ?_
          refine CW.seq ?_
          refine CW.fork 50 (v15 < 64) rfl (fun h16 => ?_) (fun h16 => ?_)
          · replace hm := (if_pos h16).symm.trans hm
            refine CW.cond_true rfl ?_
            refine CW.skip ?_
            refine EW.next ?_
            refine CW.seq ?_
            refine CW.block ?_
            refine CW.seq ?_
            refine CW.region ?_
            refine RW.yi (.int .i64 v15) rfl rfl (Yi.pv _ rfl) ?_
            refine RW.yi (.int .i64 v15) rfl rfl (Yi.pv _ rfl) ?_
            refine RW.nil ?_
            refine EW.next ?_
            refine CW.seq ?_
            refine CW.draws (by kernel_rfl) (by kernel_rfl) ?_
            refine QW.yi (.int .i64 v15) rfl rfl (Yi.pv _ rfl) ?_
            obtain ⟨g17, hm⟩ := of_guard hm
            refine QW.yi (.pointer (some ⟨b7, v15.toNat, none⟩)) rfl rfl (Yi.indexAddr' _ Tryd.underlying23 Tryd.sizeOf3 rfl rfl g17.1 g17.2 (by omega)) ?_
            refine QW.yi (.int .i64 (r6.1 v15.toNat)) rfl rfl (Yi.load1 (i := 3) _ rfl rfl Tryd.isAgg3 (cf_get (by omega))) ?_
            refine QW.yi (.int .i64 v15) rfl rfl (Yi.pv _ rfl) ?_
            refine QW.yi (.pointer (some ⟨b9, v15.toNat, none⟩)) rfl rfl (Yi.indexAddr' _ Tryd.underlying23 Tryd.sizeOf3 rfl rfl g17.1 g17.2 (by omega)) ?_
            refine QW.yi (.int .i64 (r8.1 v15.toNat)) rfl rfl (Yi.load1 (i := 2) _ rfl rfl Tryd.isAgg3 (cf_get (by omega))) ?_
            refine QW.yi (.int .i64 (w64 (0 - (r8.1 v15.toNat)))) rfl rfl (Yi.pv _ rfl) ?_
            refine QW.yi (.bool (decide (¬ (r6.1 v15.toNat) = (w64 (0 - (r8.1 v15.toNat)))))) rfl rfl (Yi.pv _ rfl) ?_
            refine QW.yi (.bool (decide (¬ (r6.1 v15.toNat) = (w64 (0 - (r8.1 v15.toNat)))))) rfl rfl (Yi.pv _ rfl) ?_
            refine QW.fork 60 (¬ (r6.1 v15.toNat) = (w64 (0 - (r8.1 v15.toNat)))) rfl (fun h18 => ?_) (fun h18 => ?_)
            · replace hm := (if_pos h18).symm.trans hm
              refine QW.pass rfl rfl ?_
              refine QW.pass rfl rfl ?_
              refine QW.pass rfl rfl ?_
              refine QW.pass rfl rfl ?_
              refine QW.pass rfl rfl ?_
              refine QW.pass rfl rfl ?_
              refine QW.pass rfl rfl ?_
              refine QW.pass rfl rfl ?_
              refine QW.yi (.bool true) rfl rfl (Yi.pv _ rfl) ?_
              refine QW.nil ?_
              refine EW.next ?_
              refine CW.cond_true rfl ?_
              refine CW.seq ?_
              refine CW.region ?_
              refine RW.yi (.bool false) rfl rfl (Yi.pv _ rfl) ?_
              refine RW.nil ?_
              refine EW.next ?_
              refine CW.ret ?_
              refine EW.blr ?_
              refine EW.thr ?_
              refine EW.thr ?_
              refine EW.blr ?_
              refine EW.thr ?_
              obtain rfl := Option.some.inj hm
              exact EW.done (rs := [.tmp 2]) rfl (.tmp (t := 2) (v := .bool false) rfl .nil) (fun _ hM => ⟨rfl, hM.below⟩)
            · replace hm := (if_neg h18).symm.trans hm
              refine QW.yi (.int .i64 v15) rfl rfl (Yi.pv _ rfl) ?_
              refine QW.yi (.pointer (some ⟨b11, v15.toNat, none⟩)) rfl rfl (Yi.indexAddr' _ Tryd.underlying23 Tryd.sizeOf3 rfl rfl g17.1 g17.2 (by omega)) ?_
              refine QW.yi (.int .i64 (r10.1 v15.toNat)) rfl rfl (Yi.load1 (i := 1) _ rfl rfl Tryd.isAgg3 (cf_get (by omega))) ?_
              refine QW.yi (.int .i64 v15) rfl rfl (Yi.pv _ rfl) ?_
              refine QW.yi (.pointer (some ⟨b13, v15.toNat, none⟩)) rfl rfl (Yi.indexAddr' _ Tryd.underlying23 Tryd.sizeOf3 rfl rfl g17.1 g17.2 (by omega)) ?_
              refine QW.yi (.int .i64 (r12.1 v15.toNat)) rfl rfl (Yi.load1 (i := 0) _ rfl rfl Tryd.isAgg3 (cf_get (by omega))) ?_
              refine QW.yi (.int .i64 (w64 (0 - (r12.1 v15.toNat)))) rfl rfl (Yi.pv _ rfl) ?_
              refine QW.yi (.bool (decide (¬ (r10.1 v15.toNat) = (w64 (0 - (r12.1 v15.toNat)))))) rfl rfl (Yi.pv _ rfl) ?_
              refine QW.yi (.bool (decide (¬ (r10.1 v15.toNat) = (w64 (0 - (r12.1 v15.toNat)))))) rfl rfl (Yi.pv _ rfl) ?_
              refine QW.nil ?_
              refine EW.next ?_
              refine CW.fork 69 (¬ (r10.1 v15.toNat) = (w64 (0 - (r12.1 v15.toNat)))) rfl (fun h19 => ?_) (fun h19 => ?_)
              · replace hm := (if_pos h19).symm.trans hm
                refine CW.cond_true rfl ?_
                refine CW.seq ?_
                refine CW.region ?_
                refine RW.yi (.bool false) rfl rfl (Yi.pv _ rfl) ?_
                refine RW.nil ?_
                refine EW.next ?_
                refine CW.ret ?_
                refine EW.blr ?_
                refine EW.thr ?_
                refine EW.thr ?_
                refine EW.blr ?_
                refine EW.thr ?_
                obtain rfl := Option.some.inj hm
                exact EW.done (rs := [.tmp 2]) rfl (.tmp (t := 2) (v := .bool false) rfl .nil) (fun _ hM => ⟨rfl, hM.below⟩)
              · replace hm := (if_neg h19).symm.trans hm
                refine CW.cond_false rfl ?_
                refine CW.skip ?_
                refine EW.bln ?_
                refine EW.next ?_
                refine CW.region ?_
                refine RW.yi (.int .i64 (w64 (v15 + 1))) rfl rfl (Yi.pv _ rfl) ?_
                refine RW.yi (.int .i64 (w64 (v15 + 1))) rfl rfl (Yi.pv _ rfl) ?_
                refine RW.nil ?_
                refine EW.thn ?_
                exact fun a w hs hM => ⟨(w64 (v15 + 1)), hs.sub ⟨rfl, rfl, rfl, rfl, rfl, trivial⟩, hM.sub (.cons_cons _ (.cons_cons _ (.cons_cons _ (.cons_cons _ .slnil)))), hm⟩
          · replace hm := (if_neg h16).symm.trans hm
            refine CW.cond_false rfl ?_
            refine CW.exit ?_
            refine EW.thx ?_
            refine EW.thx ?_
            refine EW.blx ?_
            refine EW.thn ?_
            exact fun a w hs hM => ⟨hs.sub trivial, hM.sub (.cons _ (.cons _ (.cons _ (.cons _ .slnil)))), hm⟩
      · rintro a w ⟨hs, hM, hm⟩
        unfold lawDctTurns_j2 at hm
        refine CW.enter hs hM ?_
        refine CW.seq ?_
        refine CW.region ?_
        obtain ⟨r14, hr14, hm⟩ := of_bind hm
        refine RW.ca (.bool r14) rfl rfl (Ca.call rfl rfl Tryd.call19 (fun w hM => c_awake9 K  r14 w (hG.keep hM rfl) hr14)) ?_
        refine RW.yi (.bool r14) rfl rfl (Yi.pv _ rfl) ?_
        refine RW.nil ?_
        refine EW.next ?_
        refine CW.ret ?_
        obtain rfl := Option.some.inj hm
        exact EW.done (rs := [.tmp 2]) rfl (.tmp (t := 2) (v := .bool r14) rfl .nil) (fun _ hM => ⟨rfl, hM.below⟩)
  · replace hm := (if_neg h3).symm.trans hm
    refine RW.yi (.bool true) rfl rfl (Yi.pv _ rfl) ?_
    refine RW.nil ?_
    refine EW.next ?_
    refine CW.cond_true rfl ?_
    refine CW.seq ?_
    refine CW.region ?_
    obtain ⟨r25, hr25, hm⟩ := of_bind hm
    refine RW.ca (.bool r25) rfl rfl (Ca.call rfl rfl Tryd.call19 (fun w hM => c_awake9 K  r25 w (hG.keep hM rfl) hr25)) ?_
    refine RW.yi (.bool r25) rfl rfl (Yi.pv _ rfl) ?_
    refine RW.nil ?_
    refine EW.next ?_
    refine CW.ret ?_
    refine EW.thr ?_
    obtain rfl := Option.some.inj hm
    exact EW.done (rs := [.tmp 2]) rfl (.tmp (t := 2) (v := .bool r25) rfl .nil) (fun _ hM => ⟨rfl, hM.below⟩)
def lawDctFlat_j1 (K : Nat)  (a0_n : Int) (v2 : (Nat → Int)) : Option (Bool) :=
  ((fwd K v2).bind fun r3 => (if a0_n < (-2048) then (if eqF 64 r3.1 zf then (if r3.2 = 2 then ((awake9 K ).bind fun r8 => some r8) else some false) else some false) else (if 2047 < a0_n then (if eqF 64 r3.1 zf then (if r3.2 = 2 then ((awake9 K ).bind fun r12 => some r12) else some false) else some false) else (if eqF 64 (upd r3.1 0 0) zf then (if r3.2 = 0 then ((awake9 K ).bind fun r15 => some r15) else some false) else some false))))

def lawDctFlat_l1 (K : Nat) (a0_n : Int) : Nat → Int → (Nat → Int) →  Option (Bool)
  | 0, _, _ => none
  | k1 + 1, v17, v18 =>
    (if v17 < 64 then (if 0 ≤ v17 ∧ v17 < 64 then (lawDctFlat_l1 K a0_n k1) (w64 (v17 + 1)) (upd v18 v17.toNat (w64 (a0_n))) else none) else lawDctFlat_j1 K a0_n v18)

def lawDctFlat (K : Nat) (a0_n : Int) : Option (Bool) :=
  lawDctFlat_l1 K a0_n K 0 zf

theorem c_lawDctFlat (K : Nat) (a0_n : Int) (r : Bool) (w0 : World) (hG : Gl GG w0) (hm : lawDctFlat K a0_n = some r) : Calls Tryd.prog 4 #[.int .i16 a0_n] w0 fun e w' => e = .returned (.bool r) ∧ Below w0.heap.size w0 w' := by
  unfold lawDctFlat at hm
  refine calls_CW (n := 47) w0 [] [] Tryd.func4 rfl rfl rfl (Mem.begin w0) ?_
  refine CW.seq ?_
  refine CW.region ?_
  refine RW.yi (.bool false) rfl rfl (Yi.pv _ rfl) ?_
  refine RW.nil ?_
  refine EW.next ?_
  refine CW.seq ?_
  refine CW.region ?_
  refine RW.alloc (z := .agg (cf 64 (iv zf))) (cf 64 (iv zf)) rfl rfl (fun _ => by kernel_rfl) rfl (fun b1 => ?_)
  refine RW.nil ?_
  refine EW.next ?_
  refine CW.join (fun a w => ∃ (v2 : (Nat → Int)), St 47 [(0, .int .i16 a0_n), (3, .pointer (some ⟨b1, 0, none⟩))] a ∧ Mem w0 [] [.blk b1 23 (cf 64 (iv v2))] w ∧ lawDctFlat_j1 K a0_n v2 = some r) ?_ ?_
  · refine CW.seq ?_
    refine CW.region ?_
    refine RW.yi (.int .i64 0) rfl rfl (Yi.pv _ rfl) ?_
    refine RW.nil ?_
    refine EW.next ?_
    refine CW.block ?_
    refine CW.loop (fun k a w => ∃ (v17 : Int) (v18 : (Nat → Int)), St 47 [(0, .int .i16 a0_n), (3, .pointer (some ⟨b1, 0, none⟩)), (7, .int .i64 v17)] a ∧ Mem w0 [] [.blk b1 23 (cf 64 (iv v18))] w ∧ lawDctFlat_l1 K a0_n k v17 v18 = some r) K ?_ ?_ ?_
    · rintro a w ⟨_, _, _, _, hm⟩
      rw [lawDctFlat_l1.eq_1] at hm
      cases hm
    · exact fun a w hs hM => ⟨0, zf, hs.sub ⟨rfl, rfl, rfl, trivial⟩, hM.sub (.cons_cons _ .slnil), hm⟩
    · rintro k1 a w ⟨v17, v18, hs, hM, hm⟩
      rw [lawDctFlat_l1.eq_2] at hm
      refine CW.enter hs hM ?_
      refine CW.seq ?_
      refine CW.region ?_
      refine RW.yi (.bool (decide (v17 < 64))) rfl rfl (Yi.pv _ rfl) ?_
      refine RW.nil ?_
      refine EW.next ?_
      refine CW.seq ?_
      refine CW.fork 8 (v17 < 64) rfl (fun h19 => ?_) (fun h19 => ?_)
      · replace hm := (if_pos h19).symm.trans hm
        refine CW.cond_true rfl ?_
        refine CW.skip ?_
        refine EW.next ?_
        refine CW.seq ?_
        refine CW.block ?_
        refine CW.seq ?_
        refine CW.region ?_
        refine RW.yi (.int .i64 v17) rfl rfl (Yi.pv _ rfl) ?_
        refine RW.yi (.int .i64 v17) rfl rfl (Yi.pv _ rfl) ?_
        refine RW.nil ?_
        refine EW.next ?_
        refine CW.region ?_
        refine RW.yi (.int .i64 v17) rfl rfl (Yi.pv _ rfl) ?_
        refine RW.yi (.int .i16 a0_n) rfl rfl (Yi.pv _ rfl) ?_
        refine RW.yi (.int .i64 (w64 (a0_n))) rfl rfl (Yi.conv ⟨_, Tryd.underlying32⟩ Tryd.underlying3 rfl) ?_
        obtain ⟨g20, hm⟩ := of_guard hm
        refine RW.yi (.pointer (some ⟨b1, v17.toNat, none⟩)) rfl rfl (Yi.indexAddr' _ Tryd.underlying23 Tryd.sizeOf3 rfl rfl g20.1 g20.2 (by omega)) ?_
        refine RW.store1 (i := 0) (cs' := cf 64 (iv (upd v18 v17.toNat (w64 (a0_n))))) rfl rfl rfl rfl Tryd.sizeOf3 rfl rfl (by rw [cf_size]; omega) (by rw [cf_set, iv_upd]) ?_
        refine RW.nil ?_
        refine EW.bln ?_
        refine EW.next ?_
        refine CW.region ?_
        refine RW.yi (.int .i64 (w64 (v17 + 1))) rfl rfl (Yi.pv _ rfl) ?_
        refine RW.yi (.int .i64 (w64 (v17 + 1))) rfl rfl (Yi.pv _ rfl) ?_
        refine RW.nil ?_
        refine EW.thn ?_
        exact fun a w hs hM => ⟨(w64 (v17 + 1)), (upd v18 v17.toNat (w64 (a0_n))), hs.sub ⟨rfl, rfl, rfl, trivial⟩, hM.sub (.cons_cons _ .slnil), hm⟩
      · replace hm := (if_neg h19).symm.trans hm
        refine CW.cond_false rfl ?_
        refine CW.exit ?_
        refine EW.thx ?_
        refine EW.thx ?_
        refine EW.blx ?_
        refine EW.thn ?_
        exact fun a w hs hM => ⟨v18, hs.sub ⟨rfl, rfl, trivial⟩, hM.sub (.cons_cons _ .slnil), hm⟩
  · rintro a w ⟨v2, hs, hM, hm⟩
    unfold lawDctFlat_j1 at hm
    refine CW.enter hs hM ?_
    refine CW.seq ?_
    refine CW.region ?_
    refine RW.yi (.agg (cf 64 (iv v2))) rfl rfl (Yi.loadW (i := 0) rfl rfl Tryd.isAgg23 Tryd.sizeOf23) ?_
    obtain ⟨r3, hr3, hm⟩ := of_bind hm
    refine RW.ca (.tuple #[.agg (cf 64 (iv r3.1)), .int .i64 r3.2]) rfl rfl (Ca.call rfl rfl Tryd.call15 (fun w hM => c_fwd K v2 r3 w (hG.keep hM rfl) hr3)) ?_
    refine RW.yi (.tuple #[.agg (cf 64 (iv r3.1)), .int .i64 r3.2]) rfl rfl (Yi.pv _ rfl) ?_
    refine RW.yi (.agg (cf 64 (iv r3.1))) rfl rfl (Yi.pv _ rfl) ?_
    refine RW.yi (.int .i64 r3.2) rfl rfl (Yi.pv _ rfl) ?_
    refine RW.alloc (z := .agg (cf 64 (iv zf))) (cf 64 (iv zf)) rfl rfl (fun _ => by kernel_rfl) rfl (fun b4 => ?_)
    refine RW.storeW (i := 0) (cs' := cf 64 (iv r3.1)) rfl rfl rfl rfl (by rw [cf_size]; kernel_rfl) (by simp only [cf_size]) (iv_one _ _) ?_
    refine RW.yi (.int .i64 r3.2) rfl rfl (Yi.pv _ rfl) ?_
    refine RW.nil ?_
    refine EW.next ?_
    refine CW.seq ?_
    refine CW.seq ?_
    refine CW.region ?_
    refine RW.yi (.int .i16 a0_n) rfl rfl (Yi.pv _ rfl) ?_
    refine RW.yi (.bool (decide (a0_n < (-2048)))) rfl rfl (Yi.pv _ rfl) ?_
    refine RW.yi (.bool (decide (a0_n < (-2048)))) rfl rfl (Yi.pv _ rfl) ?_
    refine RW.fork 22 (a0_n < (-2048)) rfl (fun h5 => ?_) (fun h5 => ?_)
    · replace hm := (if_pos h5).symm.trans hm
      refine RW.pass rfl rfl ?_
      refine RW.pass rfl rfl ?_
      refine RW.yi (.bool true) rfl rfl (Yi.pv _ rfl) ?_
      refine RW.nil ?_
      refine EW.next ?_
      refine CW.cond_true rfl ?_
      refine CW.seq ?_
      refine CW.region ?_
      refine RW.yi (.agg (cf 64 (iv r3.1))) rfl rfl (Yi.loadW (i := 0) rfl rfl Tryd.isAgg23 Tryd.sizeOf23) ?_
      refine RW.yi (.agg (cf 64 (iv zf))) rfl rfl (Yi.build (vs := []) _ rfl rfl (fun _ => by kernel_rfl)) ?_
      refine RW.yi (.bool (decide (eqF 64 r3.1 zf))) rfl rfl (Yi.eqA Tryd.underlying23 Tryd.eqGuardType23 Tryd.underlying3 Tryd.sizeOf3 Tryd.isAgg3 rfl rfl) ?_
      refine RW.yi (.bool (decide (eqF 64 r3.1 zf))) rfl rfl (Yi.pv _ rfl) ?_
      refine RW.fork 29 (eqF 64 r3.1 zf) rfl (fun h6 => ?_) (fun h6 => ?_)
      · replace hm := (if_pos h6).symm.trans hm
        refine RW.yi (.int .i64 r3.2) rfl rfl (Yi.pv _ rfl) ?_
        refine RW.yi (.bool (decide (r3.2 = 2))) rfl rfl (Yi.pv _ rfl) ?_
        refine RW.yi (.bool (decide (r3.2 = 2))) rfl rfl (Yi.pv _ rfl) ?_
        refine RW.yi (.bool (decide (r3.2 = 2))) rfl rfl (Yi.pv _ rfl) ?_
        refine RW.fork 33 (r3.2 = 2) rfl (fun h7 => ?_) (fun h7 => ?_)
        · replace hm := (if_pos h7).symm.trans hm
          obtain ⟨r8, hr8, hm⟩ := of_bind hm
          refine RW.ca (.bool r8) rfl rfl (Ca.call rfl rfl Tryd.call19 (fun w hM => c_awake9 K  r8 w (hG.keep hM rfl) hr8)) ?_
          refine RW.yi (.bool r8) rfl rfl (Yi.pv _ rfl) ?_
          refine RW.yi (.bool r8) rfl rfl (Yi.pv _ rfl) ?_
          refine RW.nil ?_
          refine EW.next ?_
          refine CW.ret ?_
          refine EW.thr ?_
          obtain rfl := Option.some.inj hm
          exact EW.done (rs := [.tmp 2]) rfl (.tmp (t := 2) (v := .bool r8) rfl .nil) (fun _ hM => ⟨rfl, hM.below⟩)
        · replace hm := (if_neg h7).symm.trans hm
          refine RW.pass rfl rfl ?_
          refine RW.yi (.bool false) rfl rfl (Yi.pv _ rfl) ?_
          refine RW.yi (.bool false) rfl rfl (Yi.pv _ rfl) ?_
          refine RW.nil ?_
          refine EW.next ?_
          refine CW.ret ?_
          refine EW.thr ?_
          obtain rfl := Option.some.inj hm
          exact EW.done (rs := [.tmp 2]) rfl (.tmp (t := 2) (v := .bool false) rfl .nil) (fun _ hM => ⟨rfl, hM.below⟩)
      · replace hm := (if_neg h6).symm.trans hm
        refine RW.pass rfl rfl ?_
        refine RW.pass rfl rfl ?_
        refine RW.yi (.bool false) rfl rfl (Yi.pv _ rfl) ?_
        refine RW.yi (.bool false) rfl rfl (Yi.pv _ rfl) ?_
        refine RW.pass rfl rfl ?_
        refine RW.yi (.bool false) rfl rfl (Yi.pv _ rfl) ?_
        refine RW.yi (.bool false) rfl rfl (Yi.pv _ rfl) ?_
        refine RW.nil ?_
        refine EW.next ?_
        refine CW.ret ?_
        refine EW.thr ?_
        obtain rfl := Option.some.inj hm
        exact EW.done (rs := [.tmp 2]) rfl (.tmp (t := 2) (v := .bool false) rfl .nil) (fun _ hM => ⟨rfl, hM.below⟩)
    · replace hm := (if_neg h5).symm.trans hm
      refine RW.yi (.int .i16 a0_n) rfl rfl (Yi.pv _ rfl) ?_
      refine RW.yi (.bool (decide (2047 < a0_n))) rfl rfl (Yi.pv _ rfl) ?_
      refine RW.yi (.bool (decide (2047 < a0_n))) rfl rfl (Yi.pv _ rfl) ?_
      refine RW.nil ?_
      refine EW.next ?_
      refine CW.fork 25 (2047 < a0_n) rfl (fun h9 => ?_) (fun h9 => ?_)
      · replace hm := (if_pos h9).symm.trans hm
        refine CW.cond_true rfl ?_
        refine CW.seq ?_
        refine CW.region ?_
        refine RW.yi (.agg (cf 64 (iv r3.1))) rfl rfl (Yi.loadW (i := 0) rfl rfl Tryd.isAgg23 Tryd.sizeOf23) ?_
        refine RW.yi (.agg (cf 64 (iv zf))) rfl rfl (Yi.build (vs := []) _ rfl rfl (fun _ => by kernel_rfl)) ?_
        refine RW.yi (.bool (decide (eqF 64 r3.1 zf))) rfl rfl (Yi.eqA Tryd.underlying23 Tryd.eqGuardType23 Tryd.underlying3 Tryd.sizeOf3 Tryd.isAgg3 rfl rfl) ?_
        refine RW.yi (.bool (decide (eqF 64 r3.1 zf))) rfl rfl (Yi.pv _ rfl) ?_
        refine RW.fork 29 (eqF 64 r3.1 zf) rfl (fun h10 => ?_) (fun h10 => ?_)
        · replace hm := (if_pos h10).symm.trans hm
          refine RW.yi (.int .i64 r3.2) rfl rfl (Yi.pv _ rfl) ?_
          refine RW.yi (.bool (decide (r3.2 = 2))) rfl rfl (Yi.pv _ rfl) ?_
          refine RW.yi (.bool (decide (r3.2 = 2))) rfl rfl (Yi.pv _ rfl) ?_
          refine RW.yi (.bool (decide (r3.2 = 2))) rfl rfl (Yi.pv _ rfl) ?_
          refine RW.fork 33 (r3.2 = 2) rfl (fun h11 => ?_) (fun h11 => ?_)
          · replace hm := (if_pos h11).symm.trans hm
            obtain ⟨r12, hr12, hm⟩ := of_bind hm
            refine RW.ca (.bool r12) rfl rfl (Ca.call rfl rfl Tryd.call19 (fun w hM => c_awake9 K  r12 w (hG.keep hM rfl) hr12)) ?_
            refine RW.yi (.bool r12) rfl rfl (Yi.pv _ rfl) ?_
            refine RW.yi (.bool r12) rfl rfl (Yi.pv _ rfl) ?_
            refine RW.nil ?_
            refine EW.next ?_
            refine CW.ret ?_
            refine EW.thr ?_
            obtain rfl := Option.some.inj hm
            exact EW.done (rs := [.tmp 2]) rfl (.tmp (t := 2) (v := .bool r12) rfl .nil) (fun _ hM => ⟨rfl, hM.below⟩)
          · replace hm := (if_neg h11).symm.trans hm
            refine RW.pass rfl rfl ?_
            refine RW.yi (.bool false) rfl rfl (Yi.pv _ rfl) ?_
            refine RW.yi (.bool false) rfl rfl (Yi.pv _ rfl) ?_
            refine RW.nil ?_
            refine EW.next ?_
            refine CW.ret ?_
            refine EW.thr ?_
            obtain rfl := Option.some.inj hm
            exact EW.done (rs := [.tmp 2]) rfl (.tmp (t := 2) (v := .bool false) rfl .nil) (fun _ hM => ⟨rfl, hM.below⟩)
        · replace hm := (if_neg h10).symm.trans hm
          refine RW.pass rfl rfl ?_
          refine RW.pass rfl rfl ?_
          refine RW.yi (.bool false) rfl rfl (Yi.pv _ rfl) ?_
          refine RW.yi (.bool false) rfl rfl (Yi.pv _ rfl) ?_
          refine RW.pass rfl rfl ?_
          refine RW.yi (.bool false) rfl rfl (Yi.pv _ rfl) ?_
          refine RW.yi (.bool false) rfl rfl (Yi.pv _ rfl) ?_
          refine RW.nil ?_
          refine EW.next ?_
          refine CW.ret ?_
          refine EW.thr ?_
          obtain rfl := Option.some.inj hm
          exact EW.done (rs := [.tmp 2]) rfl (.tmp (t := 2) (v := .bool false) rfl .nil) (fun _ hM => ⟨rfl, hM.below⟩)
      · replace hm := (if_neg h9).symm.trans hm
        refine CW.cond_false rfl ?_
        refine CW.skip ?_
        refine EW.next ?_
        refine CW.seq ?_
        refine CW.region ?_
        refine RW.yi (.pointer (some ⟨b4, 0, none⟩)) rfl rfl (Yi.indexAddr' _ Tryd.underlying23 Tryd.sizeOf3 rfl rfl (by decide) (by decide) (by omega)) ?_
        refine RW.store1 (i := 0) (cs' := cf 64 (iv (upd r3.1 0 0))) rfl rfl rfl rfl Tryd.sizeOf3 rfl rfl (by rw [cf_size]; omega) (by rw [cf_set, iv_upd]) ?_
        refine RW.nil ?_
        refine EW.next ?_
        refine CW.seq ?_
        refine CW.region ?_
        refine RW.yi (.agg (cf 64 (iv (upd r3.1 0 0)))) rfl rfl (Yi.loadW (i := 0) rfl rfl Tryd.isAgg23 Tryd.sizeOf23) ?_
        refine RW.yi (.agg (cf 64 (iv zf))) rfl rfl (Yi.build (vs := []) _ rfl rfl (fun _ => by kernel_rfl)) ?_
        refine RW.yi (.bool (decide (eqF 64 (upd r3.1 0 0) zf))) rfl rfl (Yi.eqA Tryd.underlying23 Tryd.eqGuardType23 Tryd.underlying3 Tryd.sizeOf3 Tryd.isAgg3 rfl rfl) ?_
        refine RW.yi (.bool (decide (eqF 64 (upd r3.1 0 0) zf))) rfl rfl (Yi.pv _ rfl) ?_
        refine RW.fork 40 (eqF 64 (upd r3.1 0 0) zf) rfl (fun h13 => ?_) (fun h13 => ?_)
        · replace hm := (if_pos h13).symm.trans hm
          refine RW.yi (.int .i64 r3.2) rfl rfl (Yi.pv _ rfl) ?_
          refine RW.yi (.bool (decide (r3.2 = 0))) rfl rfl (Yi.pv _ rfl) ?_
          refine RW.yi (.bool (decide (r3.2 = 0))) rfl rfl (Yi.pv _ rfl) ?_
          refine RW.yi (.bool (decide (r3.2 = 0))) rfl rfl (Yi.pv _ rfl) ?_
          refine RW.fork 44 (r3.2 = 0) rfl (fun h14 => ?_) (fun h14 => ?_)
          · replace hm := (if_pos h14).symm.trans hm
            obtain ⟨r15, hr15, hm⟩ := of_bind hm
            refine RW.ca (.bool r15) rfl rfl (Ca.call rfl rfl Tryd.call19 (fun w hM => c_awake9 K  r15 w (hG.keep hM rfl) hr15)) ?_
            refine RW.yi (.bool r15) rfl rfl (Yi.pv _ rfl) ?_
            refine RW.yi (.bool r15) rfl rfl (Yi.pv _ rfl) ?_
            refine RW.nil ?_
            refine EW.next ?_
            refine CW.ret ?_
            obtain rfl := Option.some.inj hm
            exact EW.done (rs := [.tmp 2]) rfl (.tmp (t := 2) (v := .bool r15) rfl .nil) (fun _ hM => ⟨rfl, hM.below⟩)
          · replace hm := (if_neg h14).symm.trans hm
            refine RW.pass rfl rfl ?_
            refine RW.yi (.bool false) rfl rfl (Yi.pv _ rfl) ?_
            refine RW.yi (.bool false) rfl rfl (Yi.pv _ rfl) ?_
            refine RW.nil ?_
            refine EW.next ?_
            refine CW.ret ?_
            obtain rfl := Option.some.inj hm
            exact EW.done (rs := [.tmp 2]) rfl (.tmp (t := 2) (v := .bool false) rfl .nil) (fun _ hM => ⟨rfl, hM.below⟩)
        · replace hm := (if_neg h13).symm.trans hm
          refine RW.pass rfl rfl ?_
          refine RW.pass rfl rfl ?_
          refine RW.yi (.bool false) rfl rfl (Yi.pv _ rfl) ?_
          refine RW.yi (.bool false) rfl rfl (Yi.pv _ rfl) ?_
          refine RW.pass rfl rfl ?_
          refine RW.yi (.bool false) rfl rfl (Yi.pv _ rfl) ?_
          refine RW.yi (.bool false) rfl rfl (Yi.pv _ rfl) ?_
          refine RW.nil ?_
          refine EW.next ?_
          refine CW.ret ?_
          obtain rfl := Option.some.inj hm
          exact EW.done (rs := [.tmp 2]) rfl (.tmp (t := 2) (v := .bool false) rfl .nil) (fun _ hM => ⟨rfl, hM.below⟩)
def lawDctTurned_j2 (K : Nat)  (r4 : ((Nat → Int) × Int)) (r6 : ((Nat → Int) × Int)) (r8 : ((Nat → Int) × Int)) (r10 : ((Nat → Int) × Int))  : Option (Bool) :=
  (if r4.2 = r6.2 then (if r8.2 = r10.2 then ((awake9 K ).bind fun r14 => some r14) else some false) else some false)

def lawDctTurned_l1 (K : Nat) (r4 : ((Nat → Int) × Int)) (r6 : ((Nat → Int) × Int)) (r8 : ((Nat → Int) × Int)) (r10 : ((Nat → Int) × Int)) : Nat → Int →  Option (Bool)
  | 0, _ => none
  | k1 + 1, v15 =>
    (if v15 < 64 then (if 0 ≤ v15 ∧ v15 < 64 then (if 0 ≤ (w64 ((w64 ((Int.tmod v15 8) * 8)) + (w64 (Int.tdiv v15 8)))) ∧ (w64 ((w64 ((Int.tmod v15 8) * 8)) + (w64 (Int.tdiv v15 8)))) < 64 then (if ¬ (r4.1 v15.toNat) = (r6.1 ((w64 ((w64 ((Int.tmod v15 8) * 8)) + (w64 (Int.tdiv v15 8)))).toNat)) then some false else (if ¬ (r8.1 v15.toNat) = (r10.1 ((w64 ((w64 ((Int.tmod v15 8) * 8)) + (w64 (Int.tdiv v15 8)))).toNat)) then some false else (lawDctTurned_l1 K r4 r6 r8 r10 k1) (w64 (v15 + 1)))) else none) else none) else lawDctTurned_j2 K r4 r6 r8 r10)

def lawDctTurned_j1 (K : Nat)  (a0 : (Nat → Int)) (v3 : (Nat → Int)) : Option (Bool) :=
  ((fwd K a0).bind fun r4 => ((fwd K v3).bind fun r6 => ((invd K a0).bind fun r8 => ((invd K v3).bind fun r10 => lawDctTurned_l1 K r4 r6 r8 r10 K 0))))

def lawDctTurned_l2 (K : Nat) (a0 : (Nat → Int)) : Nat → Int → (Nat → Int) →  Option (Bool)
  | 0, _, _ => none
  | k2 + 1, v22, v23 =>
    (if v22 < 64 then (if 0 ≤ v22 ∧ v22 < 64 then (if 0 ≤ (w64 ((w64 ((Int.tmod v22 8) * 8)) + (w64 (Int.tdiv v22 8)))) ∧ (w64 ((w64 ((Int.tmod v22 8) * 8)) + (w64 (Int.tdiv v22 8)))) < 64 then (lawDctTurned_l2 K a0 k2) (w64 (v22 + 1)) (upd v23 ((w64 ((w64 ((Int.tmod v22 8) * 8)) + (w64 (Int.tdiv v22 8)))).toNat) (a0 v22.toNat)) else none) else none) else lawDctTurned_j1 K a0 v23)

def lawDctTurned (K : Nat) (a0 : (Nat → Int)) : Option (Bool) :=
  lawDctTurned_l2 K a0 K 0 zf

theorem c_lawDctTurned (K : Nat) (a0 : (Nat → Int)) (r : Bool) (w0 : World) (hG : Gl GG w0) (hm : lawDctTurned K a0 = some r) : Calls Tryd.prog 12 #[.agg (cf 64 (iv a0))] w0 fun e w' => e = .returned (.bool r) ∧ Below w0.heap.size w0 w' := by
  unfold lawDctTurned at hm
  refine calls_CW (n := 89) w0 [] [] Tryd.func12 rfl rfl rfl (Mem.begin w0) ?_
  refine CW.seq ?_
  refine CW.region ?_
  refine RW.box (v := .agg (cf 64 (iv a0))) rfl rfl rfl (fun b1 => ?_)
  refine RW.yi (.bool false) rfl rfl (Yi.pv _ rfl) ?_
  refine RW.nil ?_
  refine EW.next ?_
  refine CW.seq ?_
  refine CW.region ?_
  refine RW.alloc (z := .agg (cf 64 (iv zf))) (cf 64 (iv zf)) rfl rfl (fun _ => by kernel_rfl) rfl (fun b2 => ?_)
  refine RW.nil ?_
  refine EW.next ?_
  refine CW.join (fun a w => ∃ (v3 : (Nat → Int)), St 89 [(1, .pointer (some ⟨b1, 0, none⟩)), (3, .pointer (some ⟨b2, 0, none⟩))] a ∧ Mem w0 [] [.blk b2 23 (cf 64 (iv v3)), .blk b1 23 (cf 64 (iv a0))] w ∧ lawDctTurned_j1 K a0 v3 = some r) ?_ ?_
  · refine CW.seq ?_
    refine CW.region ?_
    refine RW.yi (.int .i64 0) rfl rfl (Yi.pv _ rfl) ?_
    refine RW.nil ?_
    refine EW.next ?_
    refine CW.block ?_
    refine CW.loop (fun k a w => ∃ (v22 : Int) (v23 : (Nat → Int)), St 89 [(1, .pointer (some ⟨b1, 0, none⟩)), (3, .pointer (some ⟨b2, 0, none⟩)), (14, .int .i64 v22)] a ∧ Mem w0 [] [.blk b2 23 (cf 64 (iv v23)), .blk b1 23 (cf 64 (iv a0))] w ∧ lawDctTurned_l2 K a0 k v22 v23 = some r) K ?_ ?_ ?_
    · rintro a w ⟨_, _, _, _, hm⟩
      rw [lawDctTurned_l2.eq_1] at hm
      cases hm
    · exact fun a w hs hM => ⟨0, zf, hs.sub ⟨rfl, rfl, rfl, trivial⟩, hM.sub (.cons_cons _ (.cons_cons _ .slnil)), hm⟩
    · rintro k2 a w ⟨v22, v23, hs, hM, hm⟩
      rw [lawDctTurned_l2.eq_2] at hm
      refine CW.enter hs hM ?_
      refine CW.seq ?_
      refine CW.region ?_
      refine RW.yi (.bool (decide (v22 < 64))) rfl rfl (Yi.pv _ rfl) ?_
      refine RW.nil ?_
      refine EW.next ?_
      refine CW.seq ?_
      refine CW.fork 15 (v22 < 64) rfl (fun h24 => ?_) (fun h24 => ?_)
      · replace hm := (if_pos h24).symm.trans hm
        refine CW.cond_true rfl ?_
        refine CW.skip ?_
        refine EW.next ?_
        refine CW.seq ?_
        refine CW.block ?_
        refine CW.seq ?_
        refine CW.region ?_
        refine RW.yi (.int .i64 v22) rfl rfl (Yi.pv _ rfl) ?_
        refine RW.yi (.int .i64 v22) rfl rfl (Yi.pv _ rfl) ?_
        refine RW.nil ?_
        refine EW.next ?_
        refine CW.region ?_
        refine RW.yi (.int .i64 v22) rfl rfl (Yi.pv _ rfl) ?_
        refine RW.yi (.int .i64 (Int.tmod v22 8)) rfl rfl (Yi.rem rfl rfl (by decide)) ?_
        refine RW.yi (.int .i64 (w64 ((Int.tmod v22 8) * 8))) rfl rfl (Yi.pv _ rfl) ?_
        refine RW.yi (.int .i64 v22) rfl rfl (Yi.pv _ rfl) ?_
        refine RW.yi (.int .i64 (w64 (Int.tdiv v22 8))) rfl rfl (Yi.quo rfl rfl (by decide)) ?_
        refine RW.yi (.int .i64 (w64 ((w64 ((Int.tmod v22 8) * 8)) + (w64 (Int.tdiv v22 8))))) rfl rfl (Yi.pv _ rfl) ?_
        refine RW.yi (.int .i64 v22) rfl rfl (Yi.pv _ rfl) ?_
        obtain ⟨g25, hm⟩ := of_guard hm
        refine RW.yi (.pointer (some ⟨b1, v22.toNat, none⟩)) rfl rfl (Yi.indexAddr' _ Tryd.underlying23 Tryd.sizeOf3 rfl rfl g25.1 g25.2 (by omega)) ?_
        refine RW.yi (.int .i64 (a0 v22.toNat)) rfl rfl (Yi.load1 (i := 1) _ rfl rfl Tryd.isAgg3 (cf_get (by omega))) ?_
        obtain ⟨g26, hm⟩ := of_guard hm
        refine RW.yi (.pointer (some ⟨b2, (w64 ((w64 ((Int.tmod v22 8) * 8)) + (w64 (Int.tdiv v22 8)))).toNat, none⟩)) rfl rfl (Yi.indexAddr' _ Tryd.underlying23 Tryd.sizeOf3 rfl rfl g26.1 g26.2 (by omega)) ?_
        refine RW.store1 (i := 0) (cs' := cf 64 (iv (upd v23 ((w64 ((w64 ((Int.tmod v22 8) * 8)) + (w64 (Int.tdiv v22 8)))).toNat) (a0 v22.toNat)))) rfl rfl rfl rfl Tryd.sizeOf3 rfl rfl (by rw [cf_size]; omega) (by rw [cf_set, iv_upd]) ?_
        refine RW.nil ?_
        refine EW.bln ?_
        refine EW.next ?_
        refine CW.region ?_
        refine RW.yi (.int .i64 (w64 (v22 + 1))) rfl rfl (Yi.pv _ rfl) ?_
        refine RW.yi (.int .i64 (w64 (v22 + 1))) rfl rfl (Yi.pv _ rfl) ?_
        refine RW.nil ?_
        refine EW.thn ?_
        exact fun a w hs hM => ⟨(w64 (v22 + 1)), (upd v23 ((w64 ((w64 ((Int.tmod v22 8) * 8)) + (w64 (Int.tdiv v22 8)))).toNat) (a0 v22.toNat)), hs.sub ⟨rfl, rfl, rfl, trivial⟩, hM.sub (.cons_cons _ (.cons_cons _ .slnil)), hm⟩
      · replace hm := (if_neg h24).symm.trans hm
        refine CW.cond_false rfl ?_
        refine CW.exit ?_
        refine EW.thx ?_
        refine EW.thx ?_
        refine EW.blx ?_
        refine EW.thn ?_
        exact fun a w hs hM => ⟨v23, hs.sub ⟨rfl, rfl, trivial⟩, hM.sub (.cons_cons _ (.cons_cons _ .slnil)), hm⟩
  · rintro a w ⟨v3, hs, hM, hm⟩
    unfold lawDctTurned_j1 at hm
    refine CW.enter hs hM ?_
    refine CW.seq ?_
    refine CW.region ?_
    refine RW.yi (.agg (cf 64 (iv a0))) rfl rfl (Yi.loadW (i := 1) rfl rfl Tryd.isAgg23 Tryd.sizeOf23) ?_
    obtain ⟨r4, hr4, hm⟩ := of_bind hm
    refine RW.ca (.tuple #[.agg (cf 64 (iv r4.1)), .int .i64 r4.2]) rfl rfl (Ca.call rfl rfl Tryd.call15 (fun w hM => c_fwd K a0 r4 w (hG.keep hM rfl) hr4)) ?_
    refine RW.yi (.tuple #[.agg (cf 64 (iv r4.1)), .int .i64 r4.2]) rfl rfl (Yi.pv _ rfl) ?_
    refine RW.yi (.agg (cf 64 (iv r4.1))) rfl rfl (Yi.pv _ rfl) ?_
    refine RW.yi (.int .i64 r4.2) rfl rfl (Yi.pv _ rfl) ?_
    refine RW.alloc (z := .agg (cf 64 (iv zf))) (cf 64 (iv zf)) rfl rfl (fun _ => by kernel_rfl) rfl (fun b5 => ?_)
    refine RW.storeW (i := 0) (cs' := cf 64 (iv r4.1)) rfl rfl rfl rfl (by rw [cf_size]; kernel_rfl) (by simp only [cf_size]) (iv_one _ _) ?_
    refine RW.yi (.int .i64 r4.2) rfl rfl (Yi.pv _ rfl) ?_
    refine RW.nil ?_
    refine EW.next ?_
    refine CW.seq ?_
    refine CW.region ?_
    refine RW.yi (.agg (cf 64 (iv v3))) rfl rfl (Yi.loadW (i := 1) rfl rfl Tryd.isAgg23 Tryd.sizeOf23) ?_
    obtain ⟨r6, hr6, hm⟩ := of_bind hm
    refine RW.ca (.tuple #[.agg (cf 64 (iv r6.1)), .int .i64 r6.2]) rfl rfl (Ca.call rfl rfl Tryd.call15 (fun w hM => c_fwd K v3 r6 w (hG.keep hM rfl) hr6)) ?_
    refine RW.yi (.tuple #[.agg (cf 64 (iv r6.1)), .int .i64 r6.2]) rfl rfl (Yi.pv _ rfl) ?_
    refine RW.yi (.agg (cf 64 (iv r6.1))) rfl rfl (Yi.pv _ rfl) ?_
    refine RW.yi (.int .i64 r6.2) rfl rfl (Yi.pv _ rfl) ?_
    refine RW.alloc (z := .agg (cf 64 (iv zf))) (cf 64 (iv zf)) rfl rfl (fun _ => by kernel_rfl) rfl (fun b7 => ?_)
    refine RW.storeW (i := 0) (cs' := cf 64 (iv r6.1)) rfl rfl rfl rfl (by rw [cf_size]; kernel_rfl) (by simp only [cf_size]) (iv_one _ _) ?_
    refine RW.yi (.int .i64 r6.2) rfl rfl (Yi.pv _ rfl) ?_
    refine RW.nil ?_
    refine EW.next ?_
    refine CW.seq ?_
    refine CW.region ?_
    refine RW.yi (.agg (cf 64 (iv a0))) rfl rfl (Yi.loadW (i := 3) rfl rfl Tryd.isAgg23 Tryd.sizeOf23) ?_
    obtain ⟨r8, hr8, hm⟩ := of_bind hm
    refine RW.ca (.tuple #[.agg (cf 64 (iv r8.1)), .int .i64 r8.2]) rfl rfl (Ca.call rfl rfl Tryd.call26 (fun w hM => c_invd K a0 r8 w (hG.keep hM rfl) hr8)) ?_
    refine RW.yi (.tuple #[.agg (cf 64 (iv r8.1)), .int .i64 r8.2]) rfl rfl (Yi.pv _ rfl) ?_
    refine RW.yi (.agg (cf 64 (iv r8.1))) rfl rfl (Yi.pv _ rfl) ?_
    refine RW.yi (.int .i64 r8.2) rfl rfl (Yi.pv _ rfl) ?_
    refine RW.alloc (z := .agg (cf 64 (iv zf))) (cf 64 (iv zf)) rfl rfl (fun _ => by kernel_rfl) rfl (fun b9 => ?_)
    refine RW.storeW (i := 0) (cs' := cf 64 (iv r8.1)) rfl rfl rfl rfl (by rw [cf_size]; kernel_rfl) (by simp only [cf_size]) (iv_one _ _) ?_
    refine RW.yi (.int .i64 r8.2) rfl rfl (Yi.pv _ rfl) ?_
    refine RW.nil ?_
    refine EW.next ?_
    refine CW.seq ?_
    refine CW.region ?_
    refine RW.yi (.agg (cf 64 (iv v3))) rfl rfl (Yi.loadW (i := 3) rfl rfl Tryd.isAgg23 Tryd.sizeOf23) ?_
    obtain ⟨r10, hr10, hm⟩ := of_bind hm
    refine RW.ca (.tuple #[.agg (cf 64 (iv r10.1)), .int .i64 r10.2]) rfl rfl (Ca.call rfl rfl Tryd.call26 (fun w hM => c_invd K v3 r10 w (hG.keep hM rfl) hr10)) ?_
    refine RW.yi (.tuple #[.agg (cf 64 (iv r10.1)), .int .i64 r10.2]) rfl rfl (Yi.pv _ rfl) ?_
    refine RW.yi (.agg (cf 64 (iv r10.1))) rfl rfl (Yi.pv _ rfl) ?_
    refine RW.yi (.int .i64 r10.2) rfl rfl (Yi.pv _ rfl) ?_
    refine RW.alloc (z := .agg (cf 64 (iv zf))) (cf 64 (iv zf)) rfl rfl (fun _ => by kernel_rfl) rfl (fun b11 => ?_)
    refine RW.storeW (i := 0) (cs' := cf 64 (iv r10.1)) rfl rfl rfl rfl (by rw [cf_size]; kernel_rfl) (by simp only [cf_size]) (iv_one _ _) ?_
    refine RW.yi (.int .i64 r10.2) rfl rfl (Yi.pv _ rfl) ?_
    refine RW.nil ?_
    refine EW.next ?_
    refine CW.join (fun a w => St 89 [(6, .int .i64 r4.2), (8, .int .i64 r6.2), (10, .int .i64 r8.2), (12, .int .i64 r10.2)] a ∧ Mem w0 [] [] w ∧ lawDctTurned_j2 K r4 r6 r8 r10 = some r) ?_ ?_
    · refine CW.seq ?_
      refine CW.region ?_
      refine RW.yi (.int .i64 0) rfl rfl (Yi.pv _ rfl) ?_
      refine RW.nil ?_
      refine EW.next ?_
      refine CW.block ?_
      refine CW.loop (fun k a w => ∃ (v15 : Int), St 89 [(5, .pointer (some ⟨b5, 0, none⟩)), (6, .int .i64 r4.2), (7, .pointer (some ⟨b7, 0, none⟩)), (8, .int .i64 r6.2), (9, .pointer (some ⟨b9, 0, none⟩)), (10, .int .i64 r8.2), (11, .pointer (some ⟨b11, 0, none⟩)), (12, .int .i64 r10.2), (48, .int .i64 v15)] a ∧ Mem w0 [] [.blk b11 23 (cf 64 (iv r10.1)), .blk b9 23 (cf 64 (iv r8.1)), .blk b7 23 (cf 64 (iv r6.1)), .blk b5 23 (cf 64 (iv r4.1))] w ∧ lawDctTurned_l1 K r4 r6 r8 r10 k v15 = some r) K ?_ ?_ ?_
      · rintro a w ⟨_, _, _, hm⟩
        rw [lawDctTurned_l1.eq_1] at hm
        cases hm
      · exact fun a w hs hM => ⟨0, hs.sub ⟨rfl, rfl, rfl, rfl, rfl, rfl, rfl, rfl, rfl, trivial⟩, hM.sub (.cons_cons _ (.cons_cons _ (.cons_cons _ (.cons_cons _ (.cons _ (.cons _ .slnil)))))), hm⟩
      · rintro k1 a w ⟨v15, hs, hM, hm⟩
        rw [lawDctTurned_l1.eq_2] at hm
        refine CW.enter hs hM ?_
        refine CW.seq ?_
        refine CW.region ?_
        refine RW.yi (.bool (decide (v15 < 64))) rfl rfl (Yi.pv _ rfl) ?_
        refine RW.nil ?_
        refine EW.next ?_
        refine CW.seq ?_
        refine CW.fork 49 (v15 < 64) rfl (fun h16 => ?_) (fun h16 => ?_)
        · replace hm := (if_pos h16).symm.trans hm
          refine CW.cond_true rfl ?_
          refine CW.skip ?_
          refine EW.next ?_
          refine CW.seq ?_
          refine CW.block ?_
          refine CW.seq ?_
          refine CW.region ?_
          refine RW.yi (.int .i64 v15) rfl rfl (Yi.pv _ rfl) ?_
          refine RW.yi (.int .i64 v15) rfl rfl (Yi.pv _ rfl) ?_
          refine RW.nil ?_
          refine EW.next ?_
          refine CW.seq ?_
          refine CW.draws (by kernel_rfl) (by kernel_rfl) ?_
          refine QW.yi (.int .i64 v15) rfl rfl (Yi.pv _ rfl) ?_
          obtain ⟨g17, hm⟩ := of_guard hm
          refine QW.yi (.pointer (some ⟨b5, v15.toNat, none⟩)) rfl rfl (Yi.indexAddr' _ Tryd.underlying23 Tryd.sizeOf3 rfl rfl g17.1 g17.2 (by omega)) ?_
          refine QW.yi (.int .i64 (r4.1 v15.toNat)) rfl rfl (Yi.load1 (i := 3) _ rfl rfl Tryd.isAgg3 (cf_get (by omega))) ?_
          refine QW.yi (.int .i64 v15) rfl rfl (Yi.pv _ rfl) ?_
          refine QW.yi (.int .i64 (Int.tmod v15 8)) rfl rfl (Yi.rem rfl rfl (by decide)) ?_
          refine QW.yi (.int .i64 (w64 ((Int.tmod v15 8) * 8))) rfl rfl (Yi.pv _ rfl) ?_
          refine QW.yi (.int .i64 v15) rfl rfl (Yi.pv _ rfl) ?_
          refine QW.yi (.int .i64 (w64 (Int.tdiv v15 8))) rfl rfl (Yi.quo rfl rfl (by decide)) ?_
          refine QW.yi (.int .i64 (w64 ((w64 ((Int.tmod v15 8) * 8)) + (w64 (Int.tdiv v15 8))))) rfl rfl (Yi.pv _ rfl) ?_
          obtain ⟨g18, hm⟩ := of_guard hm
          refine QW.yi (.pointer (some ⟨b7, (w64 ((w64 ((Int.tmod v15 8) * 8)) + (w64 (Int.tdiv v15 8)))).toNat, none⟩)) rfl rfl (Yi.indexAddr' _ Tryd.underlying23 Tryd.sizeOf3 rfl rfl g18.1 g18.2 (by omega)) ?_
          refine QW.yi (.int .i64 (r6.1 ((w64 ((w64 ((Int.tmod v15 8) * 8)) + (w64 (Int.tdiv v15 8)))).toNat))) rfl rfl (Yi.load1 (i := 2) _ rfl rfl Tryd.isAgg3 (cf_get (by omega))) ?_
          refine QW.yi (.bool (decide (¬ (r4.1 v15.toNat) = (r6.1 ((w64 ((w64 ((Int.tmod v15 8) * 8)) + (w64 (Int.tdiv v15 8)))).toNat))))) rfl rfl (Yi.pv _ rfl) ?_
          refine QW.yi (.bool (decide (¬ (r4.1 v15.toNat) = (r6.1 ((w64 ((w64 ((Int.tmod v15 8) * 8)) + (w64 (Int.tdiv v15 8)))).toNat))))) rfl rfl (Yi.pv _ rfl) ?_
          refine QW.fork 63 (¬ (r4.1 v15.toNat) = (r6.1 ((w64 ((w64 ((Int.tmod v15 8) * 8)) + (w64 (Int.tdiv v15 8)))).toNat))) rfl (fun h19 => ?_) (fun h19 => ?_)
          · replace hm := (if_pos h19).symm.trans hm
            refine QW.pass rfl rfl ?_
            refine QW.pass rfl rfl ?_
            refine QW.pass rfl rfl ?_
            refine QW.pass rfl rfl ?_
            refine QW.pass rfl rfl ?_
            refine QW.pass rfl rfl ?_
            refine QW.pass rfl rfl ?_
            refine QW.pass rfl rfl ?_
            refine QW.pass rfl rfl ?_
            refine QW.pass rfl rfl ?_
            refine QW.pass rfl rfl ?_
            refine QW.pass rfl rfl ?_
            refine QW.yi (.bool true) rfl rfl (Yi.pv _ rfl) ?_
            refine QW.nil ?_
            refine EW.next ?_
            refine CW.cond_true rfl ?_
            refine CW.seq ?_
            refine CW.region ?_
            refine RW.yi (.bool false) rfl rfl (Yi.pv _ rfl) ?_
            refine RW.nil ?_
            refine EW.next ?_
            refine CW.ret ?_
            refine EW.blr ?_
            refine EW.thr ?_
            refine EW.thr ?_
            refine EW.blr ?_
            refine EW.thr ?_
            obtain rfl := Option.some.inj hm
            exact EW.done (rs := [.tmp 2]) rfl (.tmp (t := 2) (v := .bool false) rfl .nil) (fun _ hM => ⟨rfl, hM.below⟩)
          · replace hm := (if_neg h19).symm.trans hm
            refine QW.yi (.int .i64 v15) rfl rfl (Yi.pv _ rfl) ?_
            refine QW.yi (.pointer (some ⟨b9, v15.toNat, none⟩)) rfl rfl (Yi.indexAddr' _ Tryd.underlying23 Tryd.sizeOf3 rfl rfl g17.1 g17.2 (by omega)) ?_
            refine QW.yi (.int .i64 (r8.1 v15.toNat)) rfl rfl (Yi.load1 (i := 1) _ rfl rfl Tryd.isAgg3 (cf_get (by omega))) ?_
            refine QW.yi (.int .i64 v15) rfl rfl (Yi.pv _ rfl) ?_
            refine QW.yi (.int .i64 (Int.tmod v15 8)) rfl rfl (Yi.rem rfl rfl (by decide)) ?_
            refine QW.yi (.int .i64 (w64 ((Int.tmod v15 8) * 8))) rfl rfl (Yi.pv _ rfl) ?_
            refine QW.yi (.int .i64 v15) rfl rfl (Yi.pv _ rfl) ?_
            refine QW.yi (.int .i64 (w64 (Int.tdiv v15 8))) rfl rfl (Yi.quo rfl rfl (by decide)) ?_
            refine QW.yi (.int .i64 (w64 ((w64 ((Int.tmod v15 8) * 8)) + (w64 (Int.tdiv v15 8))))) rfl rfl (Yi.pv _ rfl) ?_
            refine QW.yi (.pointer (some ⟨b11, (w64 ((w64 ((Int.tmod v15 8) * 8)) + (w64 (Int.tdiv v15 8)))).toNat, none⟩)) rfl rfl (Yi.indexAddr' _ Tryd.underlying23 Tryd.sizeOf3 rfl rfl g18.1 g18.2 (by omega)) ?_
            refine QW.yi (.int .i64 (r10.1 ((w64 ((w64 ((Int.tmod v15 8) * 8)) + (w64 (Int.tdiv v15 8)))).toNat))) rfl rfl (Yi.load1 (i := 0) _ rfl rfl Tryd.isAgg3 (cf_get (by omega))) ?_
            refine QW.yi (.bool (decide (¬ (r8.1 v15.toNat) = (r10.1 ((w64 ((w64 ((Int.tmod v15 8) * 8)) + (w64 (Int.tdiv v15 8)))).toNat))))) rfl rfl (Yi.pv _ rfl) ?_
            refine QW.yi (.bool (decide (¬ (r8.1 v15.toNat) = (r10.1 ((w64 ((w64 ((Int.tmod v15 8) * 8)) + (w64 (Int.tdiv v15 8)))).toNat))))) rfl rfl (Yi.pv _ rfl) ?_
            refine QW.nil ?_
            refine EW.next ?_
            refine CW.fork 76 (¬ (r8.1 v15.toNat) = (r10.1 ((w64 ((w64 ((Int.tmod v15 8) * 8)) + (w64 (Int.tdiv v15 8)))).toNat))) rfl (fun h20 => ?_) (fun h20 => ?_)
            · replace hm := (if_pos h20).symm.trans hm
              refine CW.cond_true rfl ?_
              refine CW.seq ?_
              refine CW.region ?_
              refine RW.yi (.bool false) rfl rfl (Yi.pv _ rfl) ?_
              refine RW.nil ?_
              refine EW.next ?_
              refine CW.ret ?_
              refine EW.blr ?_
              refine EW.thr ?_
              refine EW.thr ?_
              refine EW.blr ?_
              refine EW.thr ?_
              obtain rfl := Option.some.inj hm
              exact EW.done (rs := [.tmp 2]) rfl (.tmp (t := 2) (v := .bool false) rfl .nil) (fun _ hM => ⟨rfl, hM.below⟩)
            · replace hm := (if_neg h20).symm.trans hm
              refine CW.cond_false rfl ?_
              refine CW.skip ?_
              refine EW.bln ?_
              refine EW.next ?_
              refine CW.region ?_
              refine RW.yi (.int .i64 (w64 (v15 + 1))) rfl rfl (Yi.pv _ rfl) ?_
              refine RW.yi (.int .i64 (w64 (v15 + 1))) rfl rfl (Yi.pv _ rfl) ?_
              refine RW.nil ?_
              refine EW.thn ?_
              exact fun a w hs hM => ⟨(w64 (v15 + 1)), hs.sub ⟨rfl, rfl, rfl, rfl, rfl, rfl, rfl, rfl, rfl, trivial⟩, hM.sub (.cons_cons _ (.cons_cons _ (.cons_cons _ (.cons_cons _ .slnil)))), hm⟩
        · replace hm := (if_neg h16).symm.trans hm
          refine CW.cond_false rfl ?_
          refine CW.exit ?_
          refine EW.thx ?_
          refine EW.thx ?_
          refine EW.blx ?_
          refine EW.thn ?_
          exact fun a w hs hM => ⟨hs.sub ⟨rfl, rfl, rfl, rfl, trivial⟩, hM.sub (.cons _ (.cons _ (.cons _ (.cons _ .slnil)))), hm⟩
    · rintro a w ⟨hs, hM, hm⟩
      unfold lawDctTurned_j2 at hm
      refine CW.enter hs hM ?_
      refine CW.seq ?_
      refine CW.region ?_
      refine RW.yi (.int .i64 r4.2) rfl rfl (Yi.pv _ rfl) ?_
      refine RW.yi (.int .i64 r6.2) rfl rfl (Yi.pv _ rfl) ?_
      refine RW.yi (.bool (decide (r4.2 = r6.2))) rfl rfl (Yi.pv _ rfl) ?_
      refine RW.yi (.bool (decide (r4.2 = r6.2))) rfl rfl (Yi.pv _ rfl) ?_
      refine RW.fork 81 (r4.2 = r6.2) rfl (fun h12 => ?_) (fun h12 => ?_)
      · replace hm := (if_pos h12).symm.trans hm
        refine RW.yi (.int .i64 r8.2) rfl rfl (Yi.pv _ rfl) ?_
        refine RW.yi (.int .i64 r10.2) rfl rfl (Yi.pv _ rfl) ?_
        refine RW.yi (.bool (decide (r8.2 = r10.2))) rfl rfl (Yi.pv _ rfl) ?_
        refine RW.yi (.bool (decide (r8.2 = r10.2))) rfl rfl (Yi.pv _ rfl) ?_
        refine RW.yi (.bool (decide (r8.2 = r10.2))) rfl rfl (Yi.pv _ rfl) ?_
        refine RW.fork 86 (r8.2 = r10.2) rfl (fun h13 => ?_) (fun h13 => ?_)
        · replace hm := (if_pos h13).symm.trans hm
          obtain ⟨r14, hr14, hm⟩ := of_bind hm
          refine RW.ca (.bool r14) rfl rfl (Ca.call rfl rfl Tryd.call19 (fun w hM => c_awake9 K  r14 w (hG.keep hM rfl) hr14)) ?_
          refine RW.yi (.bool r14) rfl rfl (Yi.pv _ rfl) ?_
          refine RW.yi (.bool r14) rfl rfl (Yi.pv _ rfl) ?_
          refine RW.nil ?_
          refine EW.next ?_
          refine CW.ret ?_
          obtain rfl := Option.some.inj hm
          exact EW.done (rs := [.tmp 2]) rfl (.tmp (t := 2) (v := .bool r14) rfl .nil) (fun _ hM => ⟨rfl, hM.below⟩)
        · replace hm := (if_neg h13).symm.trans hm
          refine RW.pass rfl rfl ?_
          refine RW.yi (.bool false) rfl rfl (Yi.pv _ rfl) ?_
          refine RW.yi (.bool false) rfl rfl (Yi.pv _ rfl) ?_
          refine RW.nil ?_
          refine EW.next ?_
          refine CW.ret ?_
          obtain rfl := Option.some.inj hm
          exact EW.done (rs := [.tmp 2]) rfl (.tmp (t := 2) (v := .bool false) rfl .nil) (fun _ hM => ⟨rfl, hM.below⟩)
      · replace hm := (if_neg h12).symm.trans hm
        refine RW.pass rfl rfl ?_
        refine RW.pass rfl rfl ?_
        refine RW.pass rfl rfl ?_
        refine RW.yi (.bool false) rfl rfl (Yi.pv _ rfl) ?_
        refine RW.yi (.bool false) rfl rfl (Yi.pv _ rfl) ?_
        refine RW.pass rfl rfl ?_
        refine RW.yi (.bool false) rfl rfl (Yi.pv _ rfl) ?_
        refine RW.yi (.bool false) rfl rfl (Yi.pv _ rfl) ?_
        refine RW.nil ?_
        refine EW.next ?_
        refine CW.ret ?_
        obtain rfl := Option.some.inj hm
        exact EW.done (rs := [.tmp 2]) rfl (.tmp (t := 2) (v := .bool false) rfl .nil) (fun _ hM => ⟨rfl, hM.below⟩)
end Go.Proofs.YtfpafpmcfkapkaaDoor