import Derived.Test.YtfpafpmcfkapkaaDoorH0
import Derived.Test.YtfpafpmcfkapkaaDoorK5
set_option maxRecDepth 100000
namespace Go.Proofs.YtfpafpmcfkapkaaDoor
open Go Go.RowKit K
def merge_j2 (_ : Nat)   (v4 : (Nat → Int)) : Option ((Nat → Int) × Int) :=
  some (v4, 0)

def merge_j3 (_ : Nat) (cb_merge_l1 : Int → (Nat → Int) → Option ((Nat → Int) × Int)) (v6 : Int) (v9 : (Nat → Int)) : Option ((Nat → Int) × Int) :=
  cb_merge_l1 (w64 (v6 + 1)) v9

def merge_j5 (_ : Nat) (cb_merge_l2 : Int → (Nat → Int) → Option ((Nat → Int) × Int)) (v13 : Int) (v16 : (Nat → Int)) : Option ((Nat → Int) × Int) :=
  cb_merge_l2 (w64 (v13 + 1)) v16

def merge_j6 (K : Nat) (cb_merge_l2 : Int → (Nat → Int) → Option ((Nat → Int) × Int)) (v13 : Int) (v14 : (Nat → Int)) (v6 : Int) (v17 : Int) : Option ((Nat → Int) × Int) :=
  (if 0 ≤ (w64 ((w64 (8 * v13)) + v6)) ∧ (w64 ((w64 (8 * v13)) + v6)) < 64 then merge_j5 K cb_merge_l2 v13 (upd v14 ((w64 ((w64 (8 * v13)) + v6)).toNat) (rnd v17 33554432)) else none)

def merge_j7 (_ : Nat) (cb_merge_l3 : Int → Int → Option ((Nat → Int) × Int)) (v20 : Int) (v22 : Int) : Option ((Nat → Int) × Int) :=
  cb_merge_l3 v22 (w64 (v20 + 1))

def merge_l4 (K : Nat) (cb_merge_l3 : Int → Int → Option ((Nat → Int) × Int)) (v11 : (Nat → Int)) (v13 : Int) (v20 : Int) : Nat → Int → Int →  Option ((Nat → Int) × Int)
  | 0, _, _ => none
  | k4 + 1, v25, v26 =>
    (if v26 < 4 then (if 0 ≤ v26 ∧ v26 < 4 then (if 0 ≤ v13 ∧ v13 < 8 then (merge_l4 K cb_merge_l3 v11 v13 v20 k4) (w64 (v25 + (w64 ((partsF (v20.toNat * 32 + v13.toNat * 4 + v26.toNat)) * ((shf v11 (v20.toNat * 4)) v26.toNat))))) (w64 (v26 + 1)) else none) else none) else merge_j7 K cb_merge_l3 v20 v25)

def merge_l3 (K : Nat) (cb_merge_l2 : Int → (Nat → Int) → Option ((Nat → Int) × Int)) (v11 : (Nat → Int)) (v13 : Int) (v14 : (Nat → Int)) (v6 : Int) : Nat → Int → Int →  Option ((Nat → Int) × Int)
  | 0, _, _ => none
  | k3 + 1, v19, v20 =>
    (if v20 < 2 then (if 0 ≤ v20 ∧ v20 < 2 then merge_l4 K (merge_l3 K cb_merge_l2 v11 v13 v14 v6 k3) v11 v13 v20 K v19 0 else none) else merge_j6 K cb_merge_l2 v13 v14 v6 v19)

def merge_l2 (K : Nat) (cb_merge_l1 : Int → (Nat → Int) → Option ((Nat → Int) × Int)) (v11 : (Nat → Int)) (v6 : Int) : Nat → Int → (Nat → Int) →  Option ((Nat → Int) × Int)
  | 0, _, _ => none
  | k2 + 1, v13, v14 =>
    (if v13 < 8 then merge_l3 K (merge_l2 K cb_merge_l1 v11 v6 k2) v11 v13 v14 v6 K 0 0 else merge_j3 K cb_merge_l1 v6 v14)

def merge_j4 (K : Nat) (cb_merge_l1 : Int → (Nat → Int) → Option ((Nat → Int) × Int)) (v7 : (Nat → Int)) (v6 : Int) (v11 : (Nat → Int)) : Option ((Nat → Int) × Int) :=
  merge_l2 K cb_merge_l1 v11 v6 K 0 v7

def merge_j8 (_ : Nat) (cb_merge_l5 : Int → (Nat → Int) → Option ((Nat → Int) × Int)) (v31 : Int) (v34 : (Nat → Int)) : Option ((Nat → Int) × Int) :=
  cb_merge_l5 (w64 (v31 + 1)) v34

def merge_l6 (K : Nat) (cb_merge_l5 : Int → (Nat → Int) → Option ((Nat → Int) × Int)) (a0 : (Nat → Int)) (v31 : Int) (v6 : Int) : Nat → Int → (Nat → Int) →  Option ((Nat → Int) × Int)
  | 0, _, _ => none
  | k6 + 1, v36, v37 =>
    (if v36 < 4 then ((across K a0 v31 v36 v6).bind fun r39 => (if 0 ≤ v31 ∧ v31 < 2 then (if 0 ≤ v36 ∧ v36 < 4 then (merge_l6 K cb_merge_l5 a0 v31 v6 k6) (w64 (v36 + 1)) (upd v37 (v31.toNat * 4 + v36.toNat) r39) else none) else none)) else merge_j8 K cb_merge_l5 v31 v37)

def merge_l5 (K : Nat) (cb_merge_l1 : Int → (Nat → Int) → Option ((Nat → Int) × Int)) (a0 : (Nat → Int)) (v7 : (Nat → Int)) (v6 : Int) : Nat → Int → (Nat → Int) →  Option ((Nat → Int) × Int)
  | 0, _, _ => none
  | k5 + 1, v31, v32 =>
    (if v31 < 2 then merge_l6 K (merge_l5 K cb_merge_l1 a0 v7 v6 k5) a0 v31 v6 K 0 v32 else merge_j4 K cb_merge_l1 v7 v6 v32)

def merge_l1 (K : Nat) (a0 : (Nat → Int)) : Nat → Int → (Nat → Int) →  Option ((Nat → Int) × Int)
  | 0, _, _ => none
  | k1 + 1, v6, v7 =>
    (if v6 < 8 then merge_l5 K (merge_l1 K a0 k1) a0 v7 v6 K 0 zf else merge_j2 K v7)

def merge_j1 (K : Nat)  (a0 : (Nat → Int))  : Option ((Nat → Int) × Int) :=
  merge_l1 K a0 K 0 zf

def merge_j9 (_ : Nat) (cb_merge_l7 : Int → Option ((Nat → Int) × Int)) (v42 : Int)  : Option ((Nat → Int) × Int) :=
  cb_merge_l7 (w64 (v42 + 1))

def merge_l8 (K : Nat) (cb_merge_l7 : Int → Option ((Nat → Int) × Int)) (a0 : (Nat → Int)) (v42 : Int) : Nat → Int →  Option ((Nat → Int) × Int)
  | 0, _ => none
  | k8 + 1, v46 =>
    (if v46 < 64 then (if 0 ≤ v46 ∧ v46 < 64 then (if ((shf a0 (v42.toNat * 64)) v46.toNat) < (-1048576) then some (zf, 2) else (if 1048576 < ((shf a0 (v42.toNat * 64)) v46.toNat) then some (zf, 2) else (merge_l8 K cb_merge_l7 a0 v42 k8) (w64 (v46 + 1)))) else none) else merge_j9 K cb_merge_l7 v42)

def merge_l7 (K : Nat) (a0 : (Nat → Int)) : Nat → Int →  Option ((Nat → Int) × Int)
  | 0, _ => none
  | k7 + 1, v42 =>
    (if v42 < 4 then (if 0 ≤ v42 ∧ v42 < 4 then merge_l8 K (merge_l7 K a0 k7) a0 v42 K 0 else none) else merge_j1 K a0)

def merge (K : Nat) (a0 : (Nat → Int)) : Option ((Nat → Int) × Int) :=
  merge_l7 K a0 K 0

theorem c_merge (K : Nat) (a0 : (Nat → Int)) (r : (Nat → Int) × Int) (w0 : World) (hG : Gl GH w0) (hm : merge K a0 = some r) : Calls Tryd.prog 20 #[.agg (cf 256 (iv a0))] w0 fun e w' => e = .returned (.tuple #[.agg (cf 64 (iv r.1)), .int .i64 r.2]) ∧ Below w0.heap.size w0 w' := by
  unfold merge at hm
  refine calls_CW (n := 94) w0 [] [] Tryd.func20 rfl rfl rfl (Mem.begin w0) ?_
  refine CW.seq ?_
  refine CW.region ?_
  refine RW.box (v := .agg (cf 256 (iv a0))) rfl rfl rfl (fun b1 => ?_)
  refine RW.alloc (z := .agg (cf 64 (iv zf))) (cf 64 (iv zf)) rfl rfl (fun _ => by kernel_rfl) rfl (fun b2 => ?_)
  refine RW.yi (.int .i64 0) rfl rfl (Yi.pv _ rfl) ?_
  refine RW.nil ?_
  refine EW.next ?_
  refine CW.join (fun a w => St 94 [(1, .pointer (some ⟨b1, 0, none⟩)), (2, .pointer (some ⟨b2, 0, none⟩))] a ∧ Mem w0 [] [.blk b2 23 (cf 64 (iv zf)), .blk b1 34 (cf 256 (iv a0))] w ∧ merge_j1 K a0 = some r) ?_ ?_
  · refine CW.seq ?_
    refine CW.region ?_
    refine RW.yi (.agg (cf 256 (iv a0))) rfl rfl (Yi.loadW (i := 1) rfl rfl Tryd.isAgg34 Tryd.sizeOf34) ?_
    refine RW.yi (.int .i64 0) rfl rfl (Yi.pv _ rfl) ?_
    refine RW.nil ?_
    refine EW.next ?_
    refine CW.block ?_
    refine CW.loop (fun k a w => ∃ (v42 : Int), St 94 [(1, .pointer (some ⟨b1, 0, none⟩)), (2, .pointer (some ⟨b2, 0, none⟩)), (20, .agg (cf 256 (iv a0))), (21, .int .i64 v42)] a ∧ Mem w0 [] [.blk b2 23 (cf 64 (iv zf)), .blk b1 34 (cf 256 (iv a0))] w ∧ merge_l7 K a0 k v42 = some r) K ?_ ?_ ?_
    · rintro a w ⟨_, _, _, hm⟩
      rw [merge_l7.eq_1] at hm
      cases hm
    · exact fun a w hs hM => ⟨0, hs.sub ⟨rfl, rfl, rfl, rfl, trivial⟩, hM.sub (.cons_cons _ (.cons_cons _ .slnil)), hm⟩
    · rintro k7 a w ⟨v42, hs, hM, hm⟩
      rw [merge_l7.eq_2] at hm
      refine CW.enter hs hM ?_
      refine CW.seq ?_
      refine CW.region ?_
      refine RW.yi (.bool (decide (v42 < 4))) rfl rfl (Yi.pv _ rfl) ?_
      refine RW.nil ?_
      refine EW.next ?_
      refine CW.seq ?_
      refine CW.fork 22 (v42 < 4) rfl (fun h43 => ?_) (fun h43 => ?_)
      · replace hm := (if_pos h43).symm.trans hm
        refine CW.cond_true rfl ?_
        refine CW.skip ?_
        refine EW.next ?_
        refine CW.join (fun a w => St 94 [(1, .pointer (some ⟨b1, 0, none⟩)), (2, .pointer (some ⟨b2, 0, none⟩)), (20, .agg (cf 256 (iv a0))), (21, .int .i64 v42)] a ∧ Mem w0 [] [.blk b2 23 (cf 64 (iv zf)), .blk b1 34 (cf 256 (iv a0))] w ∧ merge_j9 K (merge_l7 K a0 k7) v42 = some r) ?_ ?_
        · refine CW.block ?_
          refine CW.seq ?_
          refine CW.region ?_
          obtain ⟨g44, hm⟩ := of_guard hm
          refine RW.yi (.agg (cf 64 (iv (shf a0 (v42.toNat * 64))))) rfl rfl (Yi.indexP (N := 256) Tryd.underlying34 Tryd.sizeOf23 Tryd.isAgg23 rfl rfl g44.1 g44.2 (by decide)) ?_
          refine RW.alloc (z := .agg (cf 64 (iv zf))) (cf 64 (iv zf)) rfl rfl (fun _ => by kernel_rfl) rfl (fun b45 => ?_)
          refine RW.storeW (i := 0) (cs' := cf 64 (iv (shf a0 (v42.toNat * 64)))) rfl rfl rfl rfl (by rw [cf_size]; kernel_rfl) (by simp only [cf_size]) (iv_one _ _) ?_
          refine RW.nil ?_
          refine EW.next ?_
          refine CW.seq ?_
          refine CW.region ?_
          refine RW.yi (.agg (cf 64 (iv (shf a0 (v42.toNat * 64))))) rfl rfl (Yi.loadW (i := 0) rfl rfl Tryd.isAgg23 Tryd.sizeOf23) ?_
          refine RW.yi (.int .i64 0) rfl rfl (Yi.pv _ rfl) ?_
          refine RW.nil ?_
          refine EW.next ?_
          refine CW.block ?_
          refine CW.loop (fun k a w => ∃ (v46 : Int), St 94 [(1, .pointer (some ⟨b1, 0, none⟩)), (2, .pointer (some ⟨b2, 0, none⟩)), (20, .agg (cf 256 (iv a0))), (21, .int .i64 v42), (24, .agg (cf 64 (iv (shf a0 (v42.toNat * 64))))), (25, .int .i64 v46)] a ∧ Mem w0 [] [.blk b2 23 (cf 64 (iv zf)), .blk b1 34 (cf 256 (iv a0))] w ∧ merge_l8 K (merge_l7 K a0 k7) a0 v42 k v46 = some r) K ?_ ?_ ?_
          · rintro a w ⟨_, _, _, hm⟩
            rw [merge_l8.eq_1] at hm
            cases hm
          · exact fun a w hs hM => ⟨0, hs.sub ⟨rfl, rfl, rfl, rfl, rfl, rfl, trivial⟩, hM.sub (.cons _ (.cons_cons _ (.cons_cons _ .slnil))), hm⟩
          · rintro k8 a w ⟨v46, hs, hM, hm⟩
            rw [merge_l8.eq_2] at hm
            refine CW.enter hs hM ?_
            refine CW.seq ?_
            refine CW.region ?_
            refine RW.yi (.bool (decide (v46 < 64))) rfl rfl (Yi.pv _ rfl) ?_
            refine RW.nil ?_
            refine EW.next ?_
            refine CW.seq ?_
            refine CW.fork 26 (v46 < 64) rfl (fun h47 => ?_) (fun h47 => ?_)
            · replace hm := (if_pos h47).symm.trans hm
              refine CW.cond_true rfl ?_
              refine CW.skip ?_
              refine EW.next ?_
              refine CW.seq ?_
              refine CW.block ?_
              refine CW.seq ?_
              refine CW.region ?_
              obtain ⟨g48, hm⟩ := of_guard hm
              refine RW.yi (.int .i64 ((shf a0 (v42.toNat * 64)) v46.toNat)) rfl rfl (Yi.index _ Tryd.underlying23 Tryd.sizeOf3 Tryd.isAgg3 rfl rfl g48.1 g48.2 (cf_get (by omega))) ?_
              refine RW.yi (.int .i64 ((shf a0 (v42.toNat * 64)) v46.toNat)) rfl rfl (Yi.pv _ rfl) ?_
              refine RW.nil ?_
              refine EW.next ?_
              refine CW.seq ?_
              refine CW.region ?_
              refine RW.yi (.int .i64 ((shf a0 (v42.toNat * 64)) v46.toNat)) rfl rfl (Yi.pv _ rfl) ?_
              refine RW.yi (.bool (decide (((shf a0 (v42.toNat * 64)) v46.toNat) < (-1048576)))) rfl rfl (Yi.pv _ rfl) ?_
              refine RW.yi (.bool (decide (((shf a0 (v42.toNat * 64)) v46.toNat) < (-1048576)))) rfl rfl (Yi.pv _ rfl) ?_
              refine RW.fork 30 (((shf a0 (v42.toNat * 64)) v46.toNat) < (-1048576)) rfl (fun h49 => ?_) (fun h49 => ?_)
              · replace hm := (if_pos h49).symm.trans hm
                refine RW.pass rfl rfl ?_
                refine RW.pass rfl rfl ?_
                refine RW.yi (.bool true) rfl rfl (Yi.pv _ rfl) ?_
                refine RW.nil ?_
                refine EW.next ?_
                refine CW.cond_true rfl ?_
                refine CW.seq ?_
                refine CW.region ?_
                refine RW.yi (.agg (cf 64 (iv zf))) rfl rfl (Yi.build (vs := []) _ rfl rfl (fun _ => by kernel_rfl)) ?_
                refine RW.storeW (i := 0) (cs' := cf 64 (iv zf)) rfl rfl rfl rfl (by rw [cf_size]; kernel_rfl) (by simp only [cf_size]) (iv_one _ _) ?_
                refine RW.yi (.int .i64 2) rfl rfl (Yi.pv _ rfl) ?_
                refine RW.nil ?_
                refine EW.next ?_
                refine CW.ret ?_
                refine EW.blr ?_
                refine EW.thr ?_
                refine EW.thr ?_
                refine EW.blr ?_
                refine EW.blr ?_
                refine EW.thr ?_
                refine EW.thr ?_
                refine EW.blr ?_
                refine EW.thr ?_
                obtain rfl := Option.some.inj hm
                exact EW.done (rs := [.cell 2 23, .tmp 3]) rfl (.cellW (i := 0) rfl rfl Tryd.isAgg23 Tryd.sizeOf23 (.tmp (t := 3) (v := .int .i64 2) rfl .nil)) (fun _ hM => ⟨rfl, hM.below⟩)
              · replace hm := (if_neg h49).symm.trans hm
                refine RW.yi (.int .i64 ((shf a0 (v42.toNat * 64)) v46.toNat)) rfl rfl (Yi.pv _ rfl) ?_
                refine RW.yi (.bool (decide (1048576 < ((shf a0 (v42.toNat * 64)) v46.toNat)))) rfl rfl (Yi.pv _ rfl) ?_
                refine RW.yi (.bool (decide (1048576 < ((shf a0 (v42.toNat * 64)) v46.toNat)))) rfl rfl (Yi.pv _ rfl) ?_
                refine RW.nil ?_
                refine EW.next ?_
                refine CW.fork 33 (1048576 < ((shf a0 (v42.toNat * 64)) v46.toNat)) rfl (fun h50 => ?_) (fun h50 => ?_)
                · replace hm := (if_pos h50).symm.trans hm
                  refine CW.cond_true rfl ?_
                  refine CW.seq ?_
                  refine CW.region ?_
                  refine RW.yi (.agg (cf 64 (iv zf))) rfl rfl (Yi.build (vs := []) _ rfl rfl (fun _ => by kernel_rfl)) ?_
                  refine RW.storeW (i := 0) (cs' := cf 64 (iv zf)) rfl rfl rfl rfl (by rw [cf_size]; kernel_rfl) (by simp only [cf_size]) (iv_one _ _) ?_
                  refine RW.yi (.int .i64 2) rfl rfl (Yi.pv _ rfl) ?_
                  refine RW.nil ?_
                  refine EW.next ?_
                  refine CW.ret ?_
                  refine EW.blr ?_
                  refine EW.thr ?_
                  refine EW.thr ?_
                  refine EW.blr ?_
                  refine EW.blr ?_
                  refine EW.thr ?_
                  refine EW.thr ?_
                  refine EW.blr ?_
                  refine EW.thr ?_
                  obtain rfl := Option.some.inj hm
                  exact EW.done (rs := [.cell 2 23, .tmp 3]) rfl (.cellW (i := 0) rfl rfl Tryd.isAgg23 Tryd.sizeOf23 (.tmp (t := 3) (v := .int .i64 2) rfl .nil)) (fun _ hM => ⟨rfl, hM.below⟩)
                · replace hm := (if_neg h50).symm.trans hm
                  refine CW.cond_false rfl ?_
                  refine CW.skip ?_
                  refine EW.bln ?_
                  refine EW.next ?_
                  refine CW.region ?_
                  refine RW.yi (.int .i64 (w64 (v46 + 1))) rfl rfl (Yi.pv _ rfl) ?_
                  refine RW.yi (.int .i64 (w64 (v46 + 1))) rfl rfl (Yi.pv _ rfl) ?_
                  refine RW.nil ?_
                  refine EW.thn ?_
                  exact fun a w hs hM => ⟨(w64 (v46 + 1)), hs.sub ⟨rfl, rfl, rfl, rfl, rfl, rfl, trivial⟩, hM.sub (.cons_cons _ (.cons_cons _ .slnil)), hm⟩
            · replace hm := (if_neg h47).symm.trans hm
              refine CW.cond_false rfl ?_
              refine CW.exit ?_
              refine EW.thx ?_
              refine EW.thx ?_
              refine EW.blx ?_
              refine EW.bln ?_
              refine EW.thn ?_
              exact fun a w hs hM => ⟨hs.sub ⟨rfl, rfl, rfl, rfl, trivial⟩, hM.sub (.cons_cons _ (.cons_cons _ .slnil)), hm⟩
        · rintro a w ⟨hs, hM, hm⟩
          unfold merge_j9 at hm
          refine CW.enter hs hM ?_
          refine CW.region ?_
          refine RW.yi (.int .i64 (w64 (v42 + 1))) rfl rfl (Yi.pv _ rfl) ?_
          refine RW.yi (.int .i64 (w64 (v42 + 1))) rfl rfl (Yi.pv _ rfl) ?_
          refine RW.nil ?_
          refine EW.thn ?_
          exact fun a w hs hM => ⟨(w64 (v42 + 1)), hs.sub ⟨rfl, rfl, rfl, rfl, trivial⟩, hM.sub (.cons_cons _ (.cons_cons _ .slnil)), hm⟩
      · replace hm := (if_neg h43).symm.trans hm
        refine CW.cond_false rfl ?_
        refine CW.exit ?_
        refine EW.thx ?_
        refine EW.thx ?_
        refine EW.blx ?_
        refine EW.thn ?_
        exact fun a w hs hM => ⟨hs.sub ⟨rfl, rfl, trivial⟩, hM.sub (.cons_cons _ (.cons_cons _ .slnil)), hm⟩
  · rintro a w ⟨hs, hM, hm⟩
    unfold merge_j1 at hm
    refine CW.enter hs hM ?_
    refine CW.seq ?_
    refine CW.region ?_
    refine RW.yi (.func (.func 33) #[] #[.pointer (some ⟨b1, 0, none⟩)]) rfl rfl (Yi.makeFunc rfl rfl) ?_
    refine RW.yi (.func (.func 33) #[] #[.pointer (some ⟨b1, 0, none⟩)]) rfl rfl (Yi.pv _ rfl) ?_
    refine RW.nil ?_
    refine EW.next ?_
    refine CW.seq ?_
    refine CW.region ?_
    refine RW.alloc (z := .agg (cf 64 (iv zf))) (cf 64 (iv zf)) rfl rfl (fun _ => by kernel_rfl) rfl (fun b3 => ?_)
    refine RW.nil ?_
    refine EW.next ?_
    refine CW.join (fun a w => ∃ (v4 : (Nat → Int)), St 94 [(2, .pointer (some ⟨b2, 0, none⟩)), (9, .pointer (some ⟨b3, 0, none⟩))] a ∧ Mem w0 [] [.blk b3 23 (cf 64 (iv v4)), .blk b2 23 (cf 64 (iv zf))] w ∧ merge_j2 K v4 = some r) ?_ ?_
    · refine CW.seq ?_
      refine CW.region ?_
      refine RW.yi (.int .i64 0) rfl rfl (Yi.pv _ rfl) ?_
      refine RW.nil ?_
      refine EW.next ?_
      refine CW.block ?_
      refine CW.loop (fun k a w => ∃ (v6 : Int) (v7 : (Nat → Int)), St 94 [(2, .pointer (some ⟨b2, 0, none⟩)), (8, .func (.func 33) #[] #[.pointer (some ⟨b1, 0, none⟩)]), (9, .pointer (some ⟨b3, 0, none⟩)), (38, .int .i64 v6)] a ∧ Mem w0 [] [.blk b3 23 (cf 64 (iv v7)), .blk b2 23 (cf 64 (iv zf)), .blk b1 34 (cf 256 (iv a0))] w ∧ merge_l1 K a0 k v6 v7 = some r) K ?_ ?_ ?_
      · rintro a w ⟨_, _, _, _, hm⟩
        rw [merge_l1.eq_1] at hm
        cases hm
      · exact fun a w hs hM => ⟨0, zf, hs.sub ⟨rfl, rfl, rfl, rfl, trivial⟩, hM.sub (.cons_cons _ (.cons_cons _ (.cons_cons _ .slnil))), hm⟩
      · rintro k1 a w ⟨v6, v7, hs, hM, hm⟩
        rw [merge_l1.eq_2] at hm
        refine CW.enter hs hM ?_
        refine CW.seq ?_
        refine CW.region ?_
        refine RW.yi (.bool (decide (v6 < 8))) rfl rfl (Yi.pv _ rfl) ?_
        refine RW.nil ?_
        refine EW.next ?_
        refine CW.seq ?_
        refine CW.fork 39 (v6 < 8) rfl (fun h8 => ?_) (fun h8 => ?_)
        · replace hm := (if_pos h8).symm.trans hm
          refine CW.cond_true rfl ?_
          refine CW.skip ?_
          refine EW.next ?_
          refine CW.join (fun a w => ∃ (v9 : (Nat → Int)), St 94 [(2, .pointer (some ⟨b2, 0, none⟩)), (8, .func (.func 33) #[] #[.pointer (some ⟨b1, 0, none⟩)]), (9, .pointer (some ⟨b3, 0, none⟩)), (38, .int .i64 v6)] a ∧ Mem w0 [] [.blk b3 23 (cf 64 (iv v9)), .blk b2 23 (cf 64 (iv zf)), .blk b1 34 (cf 256 (iv a0))] w ∧ merge_j3 K (merge_l1 K a0 k1) v6 v9 = some r) ?_ ?_
          · refine CW.block ?_
            refine CW.seq ?_
            refine CW.region ?_
            refine RW.yi (.int .i64 v6) rfl rfl (Yi.pv _ rfl) ?_
            refine RW.yi (.int .i64 v6) rfl rfl (Yi.pv _ rfl) ?_
            refine RW.nil ?_
            refine EW.next ?_
            refine CW.seq ?_
            refine CW.region ?_
            refine RW.alloc (z := .agg (cf 8 (iv zf))) (cf 8 (iv zf)) rfl rfl (fun _ => by kernel_rfl) rfl (fun b10 => ?_)
            refine RW.nil ?_
            refine EW.next ?_
            refine CW.join (fun a w => ∃ (v11 : (Nat → Int)), St 94 [(2, .pointer (some ⟨b2, 0, none⟩)), (8, .func (.func 33) #[] #[.pointer (some ⟨b1, 0, none⟩)]), (9, .pointer (some ⟨b3, 0, none⟩)), (10, .int .i64 v6), (11, .pointer (some ⟨b10, 0, none⟩)), (38, .int .i64 v6)] a ∧ Mem w0 [] [.blk b10 51 (cf 8 (iv v11)), .blk b3 23 (cf 64 (iv v7)), .blk b2 23 (cf 64 (iv zf)), .blk b1 34 (cf 256 (iv a0))] w ∧ merge_j4 K (merge_l1 K a0 k1) v7 v6 v11 = some r) ?_ ?_
            · refine CW.seq ?_
              refine CW.region ?_
              refine RW.yi (.int .i64 0) rfl rfl (Yi.pv _ rfl) ?_
              refine RW.nil ?_
              refine EW.next ?_
              refine CW.block ?_
              refine CW.loop (fun k a w => ∃ (v31 : Int) (v32 : (Nat → Int)), St 94 [(2, .pointer (some ⟨b2, 0, none⟩)), (8, .func (.func 33) #[] #[.pointer (some ⟨b1, 0, none⟩)]), (9, .pointer (some ⟨b3, 0, none⟩)), (10, .int .i64 v6), (11, .pointer (some ⟨b10, 0, none⟩)), (38, .int .i64 v6), (41, .int .i64 v31)] a ∧ Mem w0 [] [.blk b10 51 (cf 8 (iv v32)), .blk b3 23 (cf 64 (iv v7)), .blk b2 23 (cf 64 (iv zf)), .blk b1 34 (cf 256 (iv a0))] w ∧ merge_l5 K (merge_l1 K a0 k1) a0 v7 v6 k v31 v32 = some r) K ?_ ?_ ?_
              · rintro a w ⟨_, _, _, _, hm⟩
                rw [merge_l5.eq_1] at hm
                cases hm
              · exact fun a w hs hM => ⟨0, zf, hs.sub ⟨rfl, rfl, rfl, rfl, rfl, rfl, rfl, trivial⟩, hM.sub (.cons_cons _ (.cons_cons _ (.cons_cons _ (.cons_cons _ .slnil)))), hm⟩
              · rintro k5 a w ⟨v31, v32, hs, hM, hm⟩
                rw [merge_l5.eq_2] at hm
                refine CW.enter hs hM ?_
                refine CW.seq ?_
                refine CW.region ?_
                refine RW.yi (.bool (decide (v31 < 2))) rfl rfl (Yi.pv _ rfl) ?_
                refine RW.nil ?_
                refine EW.next ?_
                refine CW.seq ?_
                refine CW.fork 42 (v31 < 2) rfl (fun h33 => ?_) (fun h33 => ?_)
                · replace hm := (if_pos h33).symm.trans hm
                  refine CW.cond_true rfl ?_
                  refine CW.skip ?_
                  refine EW.next ?_
                  refine CW.join (fun a w => ∃ (v34 : (Nat → Int)), St 94 [(2, .pointer (some ⟨b2, 0, none⟩)), (8, .func (.func 33) #[] #[.pointer (some ⟨b1, 0, none⟩)]), (9, .pointer (some ⟨b3, 0, none⟩)), (10, .int .i64 v6), (11, .pointer (some ⟨b10, 0, none⟩)), (38, .int .i64 v6), (41, .int .i64 v31)] a ∧ Mem w0 [] [.blk b10 51 (cf 8 (iv v34)), .blk b3 23 (cf 64 (iv v7)), .blk b2 23 (cf 64 (iv zf)), .blk b1 34 (cf 256 (iv a0))] w ∧ merge_j8 K (merge_l5 K (merge_l1 K a0 k1) a0 v7 v6 k5) v31 v34 = some r) ?_ ?_
                  · refine CW.block ?_
                    refine CW.seq ?_
                    refine CW.region ?_
                    refine RW.yi (.int .i64 v31) rfl rfl (Yi.pv _ rfl) ?_
                    refine RW.yi (.int .i64 v31) rfl rfl (Yi.pv _ rfl) ?_
                    refine RW.nil ?_
                    refine EW.next ?_
                    refine CW.seq ?_
                    refine CW.region ?_
                    refine RW.yi (.int .i64 0) rfl rfl (Yi.pv _ rfl) ?_
                    refine RW.nil ?_
                    refine EW.next ?_
                    refine CW.block ?_
                    refine CW.loop (fun k a w => ∃ (v36 : Int) (v37 : (Nat → Int)), St 94 [(2, .pointer (some ⟨b2, 0, none⟩)), (8, .func (.func 33) #[] #[.pointer (some ⟨b1, 0, none⟩)]), (9, .pointer (some ⟨b3, 0, none⟩)), (10, .int .i64 v6), (11, .pointer (some ⟨b10, 0, none⟩)), (12, .int .i64 v31), (38, .int .i64 v6), (41, .int .i64 v31), (44, .int .i64 v36)] a ∧ Mem w0 [] [.blk b10 51 (cf 8 (iv v37)), .blk b3 23 (cf 64 (iv v7)), .blk b2 23 (cf 64 (iv zf)), .blk b1 34 (cf 256 (iv a0))] w ∧ merge_l6 K (merge_l5 K (merge_l1 K a0 k1) a0 v7 v6 k5) a0 v31 v6 k v36 v37 = some r) K ?_ ?_ ?_
                    · rintro a w ⟨_, _, _, _, hm⟩
                      rw [merge_l6.eq_1] at hm
                      cases hm
                    · exact fun a w hs hM => ⟨0, v32, hs.sub ⟨rfl, rfl, rfl, rfl, rfl, rfl, rfl, rfl, rfl, trivial⟩, hM.sub (.cons_cons _ (.cons_cons _ (.cons_cons _ (.cons_cons _ .slnil)))), hm⟩
                    · rintro k6 a w ⟨v36, v37, hs, hM, hm⟩
                      rw [merge_l6.eq_2] at hm
                      refine CW.enter hs hM ?_
                      refine CW.seq ?_
                      refine CW.region ?_
                      refine RW.yi (.bool (decide (v36 < 4))) rfl rfl (Yi.pv _ rfl) ?_
                      refine RW.nil ?_
                      refine EW.next ?_
                      refine CW.seq ?_
                      refine CW.fork 45 (v36 < 4) rfl (fun h38 => ?_) (fun h38 => ?_)
                      · replace hm := (if_pos h38).symm.trans hm
                        refine CW.cond_true rfl ?_
                        refine CW.skip ?_
                        refine EW.next ?_
                        refine CW.seq ?_
                        refine CW.block ?_
                        refine CW.seq ?_
                        refine CW.region ?_
                        refine RW.yi (.int .i64 v36) rfl rfl (Yi.pv _ rfl) ?_
                        refine RW.yi (.int .i64 v36) rfl rfl (Yi.pv _ rfl) ?_
                        refine RW.nil ?_
                        refine EW.next ?_
                        refine CW.tailC 9 (by kernel_rfl) (by kernel_rfl) ?_
                        refine TW.yi (.int .i64 v31) rfl rfl (Yi.pv _ rfl) ?_
                        refine TW.yi (.int .i64 v36) rfl rfl (Yi.pv _ rfl) ?_
                        refine TW.yi (.func (.func 33) #[] #[.pointer (some ⟨b1, 0, none⟩)]) rfl rfl (Yi.pv _ rfl) ?_
                        refine TW.yi (.int .i64 v31) rfl rfl (Yi.pv _ rfl) ?_
                        refine TW.yi (.int .i64 v36) rfl rfl (Yi.pv _ rfl) ?_
                        refine TW.yi (.int .i64 v6) rfl rfl (Yi.pv _ rfl) ?_
                        obtain ⟨r39, hr39, hm⟩ := of_bind hm
                        refine TW.ca (.int .i64 r39) rfl rfl (Ca.callC (cs := [.pointer (some ⟨b1, 0, none⟩)]) rfl rfl Tryd.call33 (fun w hM => c_across K a0 v31 v36 v6 b1 r39 w (Gl.cons (i := 3) (hG.keep hM rfl) hM rfl) hr39)) ?_
                        obtain ⟨g40, hm⟩ := of_guard hm
                        refine TW.yi (.pointer (some ⟨b10, v31.toNat * 4, none⟩)) rfl rfl (Yi.indexAddr' _ Tryd.underlying51 Tryd.sizeOf48 rfl rfl g40.1 g40.2 (by omega)) ?_
                        obtain ⟨g41, hm⟩ := of_guard hm
                        refine TW.yi (.pointer (some ⟨b10, v31.toNat * 4 + v36.toNat, none⟩)) rfl rfl (Yi.indexAddr' _ Tryd.underlying48 Tryd.sizeOf3 rfl rfl g41.1 g41.2 (by omega)) ?_
                        refine TW.nil ?_
                        refine RW.store1 (i := 0) (cs' := cf 8 (iv (upd v37 (v31.toNat * 4 + v36.toNat) r39))) rfl rfl rfl rfl Tryd.sizeOf3 rfl rfl (by rw [cf_size]; omega) (by rw [cf_set, iv_upd]) ?_
                        refine RW.nil ?_
                        refine EW.bln ?_
                        refine EW.next ?_
                        refine CW.region ?_
                        refine RW.yi (.int .i64 (w64 (v36 + 1))) rfl rfl (Yi.pv _ rfl) ?_
                        refine RW.yi (.int .i64 (w64 (v36 + 1))) rfl rfl (Yi.pv _ rfl) ?_
                        refine RW.nil ?_
                        refine EW.thn ?_
                        exact fun a w hs hM => ⟨(w64 (v36 + 1)), (upd v37 (v31.toNat * 4 + v36.toNat) r39), hs.sub ⟨rfl, rfl, rfl, rfl, rfl, rfl, rfl, rfl, rfl, trivial⟩, hM.sub (.cons_cons _ (.cons_cons _ (.cons_cons _ (.cons_cons _ .slnil)))), hm⟩
                      · replace hm := (if_neg h38).symm.trans hm
                        refine CW.cond_false rfl ?_
                        refine CW.exit ?_
                        refine EW.thx ?_
                        refine EW.thx ?_
                        refine EW.blx ?_
                        refine EW.bln ?_
                        refine EW.thn ?_
                        exact fun a w hs hM => ⟨v37, hs.sub ⟨rfl, rfl, rfl, rfl, rfl, rfl, rfl, trivial⟩, hM.sub (.cons_cons _ (.cons_cons _ (.cons_cons _ (.cons_cons _ .slnil)))), hm⟩
                  · rintro a w ⟨v34, hs, hM, hm⟩
                    unfold merge_j8 at hm
                    refine CW.enter hs hM ?_
                    refine CW.region ?_
                    refine RW.yi (.int .i64 (w64 (v31 + 1))) rfl rfl (Yi.pv _ rfl) ?_
                    refine RW.yi (.int .i64 (w64 (v31 + 1))) rfl rfl (Yi.pv _ rfl) ?_
                    refine RW.nil ?_
                    refine EW.thn ?_
                    exact fun a w hs hM => ⟨(w64 (v31 + 1)), v34, hs.sub ⟨rfl, rfl, rfl, rfl, rfl, rfl, rfl, trivial⟩, hM.sub (.cons_cons _ (.cons_cons _ (.cons_cons _ (.cons_cons _ .slnil)))), hm⟩
                · replace hm := (if_neg h33).symm.trans hm
                  refine CW.cond_false rfl ?_
                  refine CW.exit ?_
                  refine EW.thx ?_
                  refine EW.thx ?_
                  refine EW.blx ?_
                  refine EW.thn ?_
                  exact fun a w hs hM => ⟨v32, hs.sub ⟨rfl, rfl, rfl, rfl, rfl, rfl, trivial⟩, hM.sub (.cons_cons _ (.cons_cons _ (.cons_cons _ (.cons_cons _ .slnil)))), hm⟩
            · rintro a w ⟨v11, hs, hM, hm⟩
              unfold merge_j4 at hm
              refine CW.enter hs hM ?_
              refine CW.seq ?_
              refine CW.region ?_
              refine RW.yi (.int .i64 0) rfl rfl (Yi.pv _ rfl) ?_
              refine RW.nil ?_
              refine EW.next ?_
              refine CW.block ?_
              refine CW.loop (fun k a w => ∃ (v13 : Int) (v14 : (Nat → Int)), St 94 [(2, .pointer (some ⟨b2, 0, none⟩)), (8, .func (.func 33) #[] #[.pointer (some ⟨b1, 0, none⟩)]), (9, .pointer (some ⟨b3, 0, none⟩)), (10, .int .i64 v6), (11, .pointer (some ⟨b10, 0, none⟩)), (38, .int .i64 v6), (58, .int .i64 v13)] a ∧ Mem w0 [] [.blk b10 51 (cf 8 (iv v11)), .blk b3 23 (cf 64 (iv v14)), .blk b2 23 (cf 64 (iv zf)), .blk b1 34 (cf 256 (iv a0))] w ∧ merge_l2 K (merge_l1 K a0 k1) v11 v6 k v13 v14 = some r) K ?_ ?_ ?_
              · rintro a w ⟨_, _, _, _, hm⟩
                rw [merge_l2.eq_1] at hm
                cases hm
              · exact fun a w hs hM => ⟨0, v7, hs.sub ⟨rfl, rfl, rfl, rfl, rfl, rfl, rfl, trivial⟩, hM.sub (.cons_cons _ (.cons_cons _ (.cons_cons _ (.cons_cons _ .slnil)))), hm⟩
              · rintro k2 a w ⟨v13, v14, hs, hM, hm⟩
                rw [merge_l2.eq_2] at hm
                refine CW.enter hs hM ?_
                refine CW.seq ?_
                refine CW.region ?_
                refine RW.yi (.bool (decide (v13 < 8))) rfl rfl (Yi.pv _ rfl) ?_
                refine RW.nil ?_
                refine EW.next ?_
                refine CW.seq ?_
                refine CW.fork 59 (v13 < 8) rfl (fun h15 => ?_) (fun h15 => ?_)
                · replace hm := (if_pos h15).symm.trans hm
                  refine CW.cond_true rfl ?_
                  refine CW.skip ?_
                  refine EW.next ?_
                  refine CW.join (fun a w => ∃ (v16 : (Nat → Int)), St 94 [(2, .pointer (some ⟨b2, 0, none⟩)), (8, .func (.func 33) #[] #[.pointer (some ⟨b1, 0, none⟩)]), (9, .pointer (some ⟨b3, 0, none⟩)), (10, .int .i64 v6), (11, .pointer (some ⟨b10, 0, none⟩)), (38, .int .i64 v6), (58, .int .i64 v13)] a ∧ Mem w0 [] [.blk b10 51 (cf 8 (iv v11)), .blk b3 23 (cf 64 (iv v16)), .blk b2 23 (cf 64 (iv zf)), .blk b1 34 (cf 256 (iv a0))] w ∧ merge_j5 K (merge_l2 K (merge_l1 K a0 k1) v11 v6 k2) v13 v16 = some r) ?_ ?_
                  · refine CW.block ?_
                    refine CW.seq ?_
                    refine CW.region ?_
                    refine RW.yi (.int .i64 v13) rfl rfl (Yi.pv _ rfl) ?_
                    refine RW.yi (.int .i64 v13) rfl rfl (Yi.pv _ rfl) ?_
                    refine RW.nil ?_
                    refine EW.next ?_
                    refine CW.seq ?_
                    refine CW.region ?_
                    refine RW.yi (.int .i64 0) rfl rfl (Yi.pv _ rfl) ?_
                    refine RW.nil ?_
                    refine EW.next ?_
                    refine CW.join (fun a w => ∃ (v17 : Int), St 94 [(2, .pointer (some ⟨b2, 0, none⟩)), (8, .func (.func 33) #[] #[.pointer (some ⟨b1, 0, none⟩)]), (9, .pointer (some ⟨b3, 0, none⟩)), (10, .int .i64 v6), (11, .pointer (some ⟨b10, 0, none⟩)), (14, .int .i64 v13), (15, .int .i64 v17), (38, .int .i64 v6), (58, .int .i64 v13)] a ∧ Mem w0 [] [.blk b10 51 (cf 8 (iv v11)), .blk b3 23 (cf 64 (iv v14)), .blk b2 23 (cf 64 (iv zf)), .blk b1 34 (cf 256 (iv a0))] w ∧ merge_j6 K (merge_l2 K (merge_l1 K a0 k1) v11 v6 k2) v13 v14 v6 v17 = some r) ?_ ?_
                    · refine CW.seq ?_
                      refine CW.region ?_
                      refine RW.yi (.agg (cf 8 (iv v11))) rfl rfl (Yi.loadW (i := 0) rfl rfl Tryd.isAgg51 Tryd.sizeOf51) ?_
                      refine RW.yi (.int .i64 0) rfl rfl (Yi.pv _ rfl) ?_
                      refine RW.nil ?_
                      refine EW.next ?_
                      refine CW.block ?_
                      refine CW.loop (fun k a w => ∃ (v19 : Int) (v20 : Int), St 94 [(2, .pointer (some ⟨b2, 0, none⟩)), (8, .func (.func 33) #[] #[.pointer (some ⟨b1, 0, none⟩)]), (9, .pointer (some ⟨b3, 0, none⟩)), (10, .int .i64 v6), (11, .pointer (some ⟨b10, 0, none⟩)), (14, .int .i64 v13), (15, .int .i64 v19), (38, .int .i64 v6), (58, .int .i64 v13), (61, .agg (cf 8 (iv v11))), (62, .int .i64 v20)] a ∧ Mem w0 [] [.blk b10 51 (cf 8 (iv v11)), .blk b3 23 (cf 64 (iv v14)), .blk b2 23 (cf 64 (iv zf)), .blk b1 34 (cf 256 (iv a0))] w ∧ merge_l3 K (merge_l2 K (merge_l1 K a0 k1) v11 v6 k2) v11 v13 v14 v6 k v19 v20 = some r) K ?_ ?_ ?_
                      · rintro a w ⟨_, _, _, _, hm⟩
                        rw [merge_l3.eq_1] at hm
                        cases hm
                      · exact fun a w hs hM => ⟨0, 0, hs.sub ⟨rfl, rfl, rfl, rfl, rfl, rfl, rfl, rfl, rfl, rfl, rfl, trivial⟩, hM.sub (.cons_cons _ (.cons_cons _ (.cons_cons _ (.cons_cons _ .slnil)))), hm⟩
                      · rintro k3 a w ⟨v19, v20, hs, hM, hm⟩
                        rw [merge_l3.eq_2] at hm
                        refine CW.enter hs hM ?_
                        refine CW.seq ?_
                        refine CW.region ?_
                        refine RW.yi (.bool (decide (v20 < 2))) rfl rfl (Yi.pv _ rfl) ?_
                        refine RW.nil ?_
                        refine EW.next ?_
                        refine CW.seq ?_
                        refine CW.fork 63 (v20 < 2) rfl (fun h21 => ?_) (fun h21 => ?_)
                        · replace hm := (if_pos h21).symm.trans hm
                          refine CW.cond_true rfl ?_
                          refine CW.skip ?_
                          refine EW.next ?_
                          refine CW.join (fun a w => ∃ (v22 : Int), St 94 [(2, .pointer (some ⟨b2, 0, none⟩)), (8, .func (.func 33) #[] #[.pointer (some ⟨b1, 0, none⟩)]), (9, .pointer (some ⟨b3, 0, none⟩)), (10, .int .i64 v6), (11, .pointer (some ⟨b10, 0, none⟩)), (14, .int .i64 v13), (15, .int .i64 v22), (38, .int .i64 v6), (58, .int .i64 v13), (61, .agg (cf 8 (iv v11))), (62, .int .i64 v20)] a ∧ Mem w0 [] [.blk b10 51 (cf 8 (iv v11)), .blk b3 23 (cf 64 (iv v14)), .blk b2 23 (cf 64 (iv zf)), .blk b1 34 (cf 256 (iv a0))] w ∧ merge_j7 K (merge_l3 K (merge_l2 K (merge_l1 K a0 k1) v11 v6 k2) v11 v13 v14 v6 k3) v20 v22 = some r) ?_ ?_
                          · refine CW.block ?_
                            refine CW.seq ?_
                            refine CW.region ?_
                            refine RW.yi (.int .i64 v20) rfl rfl (Yi.pv _ rfl) ?_
                            obtain ⟨g23, hm⟩ := of_guard hm
                            refine RW.yi (.agg (cf 4 (iv (shf v11 (v20.toNat * 4))))) rfl rfl (Yi.indexP (N := 8) Tryd.underlying51 Tryd.sizeOf48 Tryd.isAgg48 rfl rfl g23.1 g23.2 (by decide)) ?_
                            refine RW.alloc (z := .agg (cf 4 (iv zf))) (cf 4 (iv zf)) rfl rfl (fun _ => by kernel_rfl) rfl (fun b24 => ?_)
                            refine RW.yi (.int .i64 v20) rfl rfl (Yi.pv _ rfl) ?_
                            refine RW.storeW (i := 0) (cs' := cf 4 (iv (shf v11 (v20.toNat * 4)))) rfl rfl rfl rfl (by rw [cf_size]; kernel_rfl) (by simp only [cf_size]) (iv_one _ _) ?_
                            refine RW.nil ?_
                            refine EW.next ?_
                            refine CW.seq ?_
                            refine CW.region ?_
                            refine RW.yi (.agg (cf 4 (iv (shf v11 (v20.toNat * 4))))) rfl rfl (Yi.loadW (i := 0) rfl rfl Tryd.isAgg48 Tryd.sizeOf48) ?_
                            refine RW.yi (.int .i64 0) rfl rfl (Yi.pv _ rfl) ?_
                            refine RW.nil ?_
                            refine EW.next ?_
                            refine CW.block ?_
                            refine CW.loop (fun k a w => ∃ (v25 : Int) (v26 : Int), St 94 [(2, .pointer (some ⟨b2, 0, none⟩)), (8, .func (.func 33) #[] #[.pointer (some ⟨b1, 0, none⟩)]), (9, .pointer (some ⟨b3, 0, none⟩)), (10, .int .i64 v6), (11, .pointer (some ⟨b10, 0, none⟩)), (14, .int .i64 v13), (15, .int .i64 v25), (16, .int .i64 v20), (38, .int .i64 v6), (58, .int .i64 v13), (61, .agg (cf 8 (iv v11))), (62, .int .i64 v20), (66, .agg (cf 4 (iv (shf v11 (v20.toNat * 4))))), (67, .int .i64 v26)] a ∧ Mem w0 [] [.blk b10 51 (cf 8 (iv v11)), .blk b3 23 (cf 64 (iv v14)), .blk b2 23 (cf 64 (iv zf)), .blk b1 34 (cf 256 (iv a0))] w ∧ merge_l4 K (merge_l3 K (merge_l2 K (merge_l1 K a0 k1) v11 v6 k2) v11 v13 v14 v6 k3) v11 v13 v20 k v25 v26 = some r) K ?_ ?_ ?_
                            · rintro a w ⟨_, _, _, _, hm⟩
                              rw [merge_l4.eq_1] at hm
                              cases hm
                            · exact fun a w hs hM => ⟨v19, 0, hs.sub ⟨rfl, rfl, rfl, rfl, rfl, rfl, rfl, rfl, rfl, rfl, rfl, rfl, rfl, rfl, trivial⟩, hM.sub (.cons _ (.cons_cons _ (.cons_cons _ (.cons_cons _ (.cons_cons _ .slnil))))), hm⟩
                            · rintro k4 a w ⟨v25, v26, hs, hM, hm⟩
                              rw [merge_l4.eq_2] at hm
                              refine CW.enter hs hM ?_
                              refine CW.seq ?_
                              refine CW.region ?_
                              refine RW.yi (.bool (decide (v26 < 4))) rfl rfl (Yi.pv _ rfl) ?_
                              refine RW.nil ?_
                              refine EW.next ?_
                              refine CW.seq ?_
                              refine CW.fork 68 (v26 < 4) rfl (fun h27 => ?_) (fun h27 => ?_)
                              · replace hm := (if_pos h27).symm.trans hm
                                refine CW.cond_true rfl ?_
                                refine CW.skip ?_
                                refine EW.next ?_
                                refine CW.seq ?_
                                refine CW.block ?_
                                refine CW.seq ?_
                                refine CW.region ?_
                                refine RW.yi (.int .i64 v26) rfl rfl (Yi.pv _ rfl) ?_
                                obtain ⟨g28, hm⟩ := of_guard hm
                                refine RW.yi (.int .i64 ((shf v11 (v20.toNat * 4)) v26.toNat)) rfl rfl (Yi.index _ Tryd.underlying48 Tryd.sizeOf3 Tryd.isAgg3 rfl rfl g28.1 g28.2 (cf_get (by omega))) ?_
                                refine RW.yi (.int .i64 v26) rfl rfl (Yi.pv _ rfl) ?_
                                refine RW.yi (.int .i64 ((shf v11 (v20.toNat * 4)) v26.toNat)) rfl rfl (Yi.pv _ rfl) ?_
                                refine RW.nil ?_
                                refine EW.next ?_
                                refine CW.region ?_
                                refine RW.yi (.int .i64 v25) rfl rfl (Yi.pv _ rfl) ?_
                                refine RW.yi (.int .i64 v20) rfl rfl (Yi.pv _ rfl) ?_
                                refine RW.yi (.int .i64 v13) rfl rfl (Yi.pv _ rfl) ?_
                                refine RW.yi (.int .i64 v26) rfl rfl (Yi.pv _ rfl) ?_
                                refine RW.yi (.pointer (some ⟨1, v20.toNat * 32, none⟩)) rfl rfl (Yi.indexAddr' _ Tryd.underlying50 Tryd.sizeOf49 rfl rfl g23.1 g23.2 (by omega)) ?_
                                obtain ⟨g29, hm⟩ := of_guard hm
                                refine RW.yi (.pointer (some ⟨1, v20.toNat * 32 + v13.toNat * 4, none⟩)) rfl rfl (Yi.indexAddr' _ Tryd.underlying49 Tryd.sizeOf48 rfl rfl g29.1 g29.2 (by omega)) ?_
                                refine RW.yi (.pointer (some ⟨1, v20.toNat * 32 + v13.toNat * 4 + v26.toNat, none⟩)) rfl rfl (Yi.indexAddr' _ Tryd.underlying48 Tryd.sizeOf3 rfl rfl g28.1 g28.2 (by omega)) ?_
                                refine RW.yi (.int .i64 (partsF (v20.toNat * 32 + v13.toNat * 4 + v26.toNat))) rfl rfl (Yi.loadG1 (i := 0) hG rfl rfl rfl Tryd.isAgg3 (by omega)) ?_
                                refine RW.yi (.int .i64 ((shf v11 (v20.toNat * 4)) v26.toNat)) rfl rfl (Yi.pv _ rfl) ?_
                                refine RW.yi (.int .i64 (w64 ((partsF (v20.toNat * 32 + v13.toNat * 4 + v26.toNat)) * ((shf v11 (v20.toNat * 4)) v26.toNat)))) rfl rfl (Yi.pv _ rfl) ?_
                                refine RW.yi (.int .i64 (w64 (v25 + (w64 ((partsF (v20.toNat * 32 + v13.toNat * 4 + v26.toNat)) * ((shf v11 (v20.toNat * 4)) v26.toNat)))))) rfl rfl (Yi.pv _ rfl) ?_
                                refine RW.yi (.int .i64 (w64 (v25 + (w64 ((partsF (v20.toNat * 32 + v13.toNat * 4 + v26.toNat)) * ((shf v11 (v20.toNat * 4)) v26.toNat)))))) rfl rfl (Yi.pv _ rfl) ?_
                                refine RW.nil ?_
                                refine EW.bln ?_
                                refine EW.next ?_
                                refine CW.region ?_
                                refine RW.yi (.int .i64 (w64 (v26 + 1))) rfl rfl (Yi.pv _ rfl) ?_
                                refine RW.yi (.int .i64 (w64 (v26 + 1))) rfl rfl (Yi.pv _ rfl) ?_
                                refine RW.nil ?_
                                refine EW.thn ?_
                                exact fun a w hs hM => ⟨(w64 (v25 + (w64 ((partsF (v20.toNat * 32 + v13.toNat * 4 + v26.toNat)) * ((shf v11 (v20.toNat * 4)) v26.toNat))))), (w64 (v26 + 1)), hs.sub ⟨rfl, rfl, rfl, rfl, rfl, rfl, rfl, rfl, rfl, rfl, rfl, rfl, rfl, rfl, trivial⟩, hM.sub (.cons_cons _ (.cons_cons _ (.cons_cons _ (.cons_cons _ .slnil)))), hm⟩
                              · replace hm := (if_neg h27).symm.trans hm
                                refine CW.cond_false rfl ?_
                                refine CW.exit ?_
                                refine EW.thx ?_
                                refine EW.thx ?_
                                refine EW.blx ?_
                                refine EW.bln ?_
                                refine EW.thn ?_
                                exact fun a w hs hM => ⟨v25, hs.sub ⟨rfl, rfl, rfl, rfl, rfl, rfl, rfl, rfl, rfl, rfl, rfl, trivial⟩, hM.sub (.cons_cons _ (.cons_cons _ (.cons_cons _ (.cons_cons _ .slnil)))), hm⟩
                          · rintro a w ⟨v22, hs, hM, hm⟩
                            unfold merge_j7 at hm
                            refine CW.enter hs hM ?_
                            refine CW.region ?_
                            refine RW.yi (.int .i64 (w64 (v20 + 1))) rfl rfl (Yi.pv _ rfl) ?_
                            refine RW.yi (.int .i64 (w64 (v20 + 1))) rfl rfl (Yi.pv _ rfl) ?_
                            refine RW.nil ?_
                            refine EW.thn ?_
                            exact fun a w hs hM => ⟨v22, (w64 (v20 + 1)), hs.sub ⟨rfl, rfl, rfl, rfl, rfl, rfl, rfl, rfl, rfl, rfl, rfl, trivial⟩, hM.sub (.cons_cons _ (.cons_cons _ (.cons_cons _ (.cons_cons _ .slnil)))), hm⟩
                        · replace hm := (if_neg h21).symm.trans hm
                          refine CW.cond_false rfl ?_
                          refine CW.exit ?_
                          refine EW.thx ?_
                          refine EW.thx ?_
                          refine EW.blx ?_
                          refine EW.thn ?_
                          exact fun a w hs hM => ⟨v19, hs.sub ⟨rfl, rfl, rfl, rfl, rfl, rfl, rfl, rfl, rfl, trivial⟩, hM.sub (.cons_cons _ (.cons_cons _ (.cons_cons _ (.cons_cons _ .slnil)))), hm⟩
                    · rintro a w ⟨v17, hs, hM, hm⟩
                      unfold merge_j6 at hm
                      refine CW.enter hs hM ?_
                      refine CW.region ?_
                      refine RW.yi (.int .i64 v13) rfl rfl (Yi.pv _ rfl) ?_
                      refine RW.yi (.int .i64 (w64 (8 * v13))) rfl rfl (Yi.pv _ rfl) ?_
                      refine RW.yi (.int .i64 v6) rfl rfl (Yi.pv _ rfl) ?_
                      refine RW.yi (.int .i64 (w64 ((w64 (8 * v13)) + v6))) rfl rfl (Yi.pv _ rfl) ?_
                      refine RW.yi (.int .i64 v17) rfl rfl (Yi.pv _ rfl) ?_
                      refine RW.ca (.int .i64 (rnd v17 33554432)) rfl rfl (Ca.call rfl rfl Tryd.call34 (fun w _ => c_Round v17 33554432 w)) ?_
                      obtain ⟨g18, hm⟩ := of_guard hm
                      refine RW.yi (.pointer (some ⟨b3, (w64 ((w64 (8 * v13)) + v6)).toNat, none⟩)) rfl rfl (Yi.indexAddr' _ Tryd.underlying23 Tryd.sizeOf3 rfl rfl g18.1 g18.2 (by omega)) ?_
                      refine RW.store1 (i := 1) (cs' := cf 64 (iv (upd v14 ((w64 ((w64 (8 * v13)) + v6)).toNat) (rnd v17 33554432)))) rfl rfl rfl rfl Tryd.sizeOf3 rfl rfl (by rw [cf_size]; omega) (by rw [cf_set, iv_upd]) ?_
                      refine RW.nil ?_
                      refine EW.bln ?_
                      refine EW.thn ?_
                      exact fun a w hs hM => ⟨(upd v14 ((w64 ((w64 (8 * v13)) + v6)).toNat) (rnd v17 33554432)), hs.sub ⟨rfl, rfl, rfl, rfl, rfl, rfl, rfl, trivial⟩, hM.sub (.cons_cons _ (.cons_cons _ (.cons_cons _ (.cons_cons _ .slnil)))), hm⟩
                  · rintro a w ⟨v16, hs, hM, hm⟩
                    unfold merge_j5 at hm
                    refine CW.enter hs hM ?_
                    refine CW.region ?_
                    refine RW.yi (.int .i64 (w64 (v13 + 1))) rfl rfl (Yi.pv _ rfl) ?_
                    refine RW.yi (.int .i64 (w64 (v13 + 1))) rfl rfl (Yi.pv _ rfl) ?_
                    refine RW.nil ?_
                    refine EW.thn ?_
                    exact fun a w hs hM => ⟨(w64 (v13 + 1)), v16, hs.sub ⟨rfl, rfl, rfl, rfl, rfl, rfl, rfl, trivial⟩, hM.sub (.cons_cons _ (.cons_cons _ (.cons_cons _ (.cons_cons _ .slnil)))), hm⟩
                · replace hm := (if_neg h15).symm.trans hm
                  refine CW.cond_false rfl ?_
                  refine CW.exit ?_
                  refine EW.thx ?_
                  refine EW.thx ?_
                  refine EW.blx ?_
                  refine EW.bln ?_
                  refine EW.thn ?_
                  exact fun a w hs hM => ⟨v14, hs.sub ⟨rfl, rfl, rfl, rfl, trivial⟩, hM.sub (.cons _ (.cons_cons _ (.cons_cons _ (.cons_cons _ .slnil)))), hm⟩
          · rintro a w ⟨v9, hs, hM, hm⟩
            unfold merge_j3 at hm
            refine CW.enter hs hM ?_
            refine CW.region ?_
            refine RW.yi (.int .i64 (w64 (v6 + 1))) rfl rfl (Yi.pv _ rfl) ?_
            refine RW.yi (.int .i64 (w64 (v6 + 1))) rfl rfl (Yi.pv _ rfl) ?_
            refine RW.nil ?_
            refine EW.thn ?_
            exact fun a w hs hM => ⟨(w64 (v6 + 1)), v9, hs.sub ⟨rfl, rfl, rfl, rfl, trivial⟩, hM.sub (.cons_cons _ (.cons_cons _ (.cons_cons _ .slnil))), hm⟩
        · replace hm := (if_neg h8).symm.trans hm
          refine CW.cond_false rfl ?_
          refine CW.exit ?_
          refine EW.thx ?_
          refine EW.thx ?_
          refine EW.blx ?_
          refine EW.thn ?_
          exact fun a w hs hM => ⟨v7, hs.sub ⟨rfl, rfl, trivial⟩, hM.sub (.cons_cons _ (.cons_cons _ (.cons _ .slnil))), hm⟩
    · rintro a w ⟨v4, hs, hM, hm⟩
      unfold merge_j2 at hm
      refine CW.enter hs hM ?_
      refine CW.seq ?_
      refine CW.region ?_
      refine RW.yi (.agg (cf 64 (iv v4))) rfl rfl (Yi.loadW (i := 0) rfl rfl Tryd.isAgg23 Tryd.sizeOf23) ?_
      refine RW.storeW (i := 1) (cs' := cf 64 (iv v4)) rfl rfl rfl rfl (by rw [cf_size]; kernel_rfl) (by simp only [cf_size]) (iv_one _ _) ?_
      refine RW.yi (.int .i64 0) rfl rfl (Yi.pv _ rfl) ?_
      refine RW.nil ?_
      refine EW.next ?_
      refine CW.ret ?_
      obtain rfl := Option.some.inj hm
      exact EW.done (rs := [.cell 2 23, .tmp 3]) rfl (.cellW (i := 1) rfl rfl Tryd.isAgg23 Tryd.sizeOf23 (.tmp (t := 3) (v := .int .i64 0) rfl .nil)) (fun _ hM => ⟨rfl, hM.below⟩)
end Go.Proofs.YtfpafpmcfkapkaaDoor