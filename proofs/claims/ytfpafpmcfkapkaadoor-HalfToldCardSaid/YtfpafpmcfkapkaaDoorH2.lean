import Derived.Test.YtfpafpmcfkapkaaDoorH0
import Derived.Test.YtfpafpmcfkapkaaDoorK5
set_option maxRecDepth 100000
namespace Go.Proofs.YtfpafpmcfkapkaaDoor
open Go Go.RowKit K
def rParts (_ : Nat)  : Option ((List Int)) :=
  some ([2896, 0, 0, 0, 2624, 1204, (-216), 66, 0, 2896, 0, 0, (-922), 2291, 1487, (-283), 0, 0, 2896, 0, 616, (-1021), 2225, 1420, 0, 0, 0, 2896, (-522), 805, (-1087), 2507, 2896, 0, 0, 0, (-2624), 1204, 216, 66, 0, (-2896), 0, 0, 922, 2291, (-1487), (-283), 0, 0, 2896, 0, (-616), (-1021), (-2225), 1420, 0, 0, 0, (-2896), 522, 805, 1087, 2507] : List Int)

theorem c_rParts (K : Nat)  (r : (List Int)) (w0 : World) (hm : rParts K  = some r) : Calls Tryd.prog 22 #[] w0 fun e w' => ∃ u, e = .returned (u) ∧ w'.ownsRow w0.heap.size 3 1 u r.length (ic r) ∧ Below w0.heap.size w0 w' := by
  unfold rParts at hm
  refine calls_CW (n := 2) w0 [] [] Tryd.func22 rfl rfl rfl (Mem.begin w0) ?_
  refine CW.seq ?_
  refine CW.region ?_
  refine RW.nilRow 3 1 ?_
  refine RW.yi (.slice none 0 0) rfl rfl (Yi.pv _ rfl) ?_
  refine RW.nil ?_
  refine EW.next ?_
  refine CW.seq ?_
  refine CW.region ?_
  refine RW.buildS (e := 3) (sz := 1) (vs := [.int .i64 2896, .int .i64 0, .int .i64 0, .int .i64 0, .int .i64 2624, .int .i64 1204, .int .i64 (-216), .int .i64 66, .int .i64 0, .int .i64 2896, .int .i64 0, .int .i64 0, .int .i64 (-922), .int .i64 2291, .int .i64 1487, .int .i64 (-283), .int .i64 0, .int .i64 0, .int .i64 2896, .int .i64 0, .int .i64 616, .int .i64 (-1021), .int .i64 2225, .int .i64 1420, .int .i64 0, .int .i64 0, .int .i64 0, .int .i64 2896, .int .i64 (-522), .int .i64 805, .int .i64 (-1087), .int .i64 2507, .int .i64 2896, .int .i64 0, .int .i64 0, .int .i64 0, .int .i64 (-2624), .int .i64 1204, .int .i64 216, .int .i64 66, .int .i64 0, .int .i64 (-2896), .int .i64 0, .int .i64 0, .int .i64 922, .int .i64 2291, .int .i64 (-1487), .int .i64 (-283), .int .i64 0, .int .i64 0, .int .i64 2896, .int .i64 0, .int .i64 (-616), .int .i64 (-1021), .int .i64 (-2225), .int .i64 1420, .int .i64 0, .int .i64 0, .int .i64 0, .int .i64 (-2896), .int .i64 522, .int .i64 805, .int .i64 1087, .int .i64 2507]) ((ic ([2896, 0, 0, 0, 2624, 1204, (-216), 66, 0, 2896, 0, 0, (-922), 2291, 1487, (-283), 0, 0, 2896, 0, 616, (-1021), 2225, 1420, 0, 0, 0, 2896, (-522), 805, (-1087), 2507, 2896, 0, 0, 0, (-2624), 1204, 216, 66, 0, (-2896), 0, 0, 922, 2291, (-1487), (-283), 0, 0, 2896, 0, (-616), (-1021), (-2225), 1420, 0, 0, 0, (-2896), 522, 805, 1087, 2507] : List Int)).toArray) rfl rfl rfl rfl rfl (by decide) (fun _ => by kernel_rfl) (fun s2 => ?_)
  refine RW.yi (s2) rfl rfl (Yi.pv _ rfl) ?_
  refine RW.nil ?_
  refine EW.next ?_
  refine CW.ret ?_
  obtain rfl := Option.some.inj hm
  exact EW.doneS (rs := [.tmp 0]) (i := 0) rfl (.tmp (t := 0) (v := s2) rfl .nil) rfl (fun _ hM ho => ⟨_, rfl, ho, hM.below⟩)
def rMerge_j2 (_ : Nat)   (v7 : (Nat → Int)) : Option ((Nat → Int) × Int) :=
  some (v7, 0)

def rMerge_j3 (_ : Nat) (cb_rMerge_l1 : Int → (Nat → Int) → Option ((Nat → Int) × Int)) (v9 : Int) (v12 : (Nat → Int)) : Option ((Nat → Int) × Int) :=
  cb_rMerge_l1 (w64 (v9 + 1)) v12

def rMerge_j4 (_ : Nat) (cb_rMerge_l2 : Int → (Nat → Int) → Option ((Nat → Int) × Int)) (v14 : Int) (v17 : (Nat → Int)) : Option ((Nat → Int) × Int) :=
  cb_rMerge_l2 (w64 (v14 + 1)) v17

def rMerge_j5 (K : Nat) (cb_rMerge_l2 : Int → (Nat → Int) → Option ((Nat → Int) × Int)) (v9 : Int) (v14 : Int) (v15 : (Nat → Int)) (v18 : Int) : Option ((Nat → Int) × Int) :=
  (if 0 ≤ (w64 ((w64 (8 * v9)) + v14)) ∧ (w64 ((w64 (8 * v9)) + v14)) < 64 then rMerge_j4 K cb_rMerge_l2 v14 (upd v15 ((w64 ((w64 (8 * v9)) + v14)).toNat) (rnd v18 33554432)) else none)

def rMerge_j6 (_ : Nat) (cb_rMerge_l3 : Int → Int → Option ((Nat → Int) × Int)) (v21 : Int) (v23 : Int) : Option ((Nat → Int) × Int) :=
  cb_rMerge_l3 v23 (w64 (v21 + 1))

def rMerge_j7 (_ : Nat) (cb_rMerge_l4 : Int → Int → Option ((Nat → Int) × Int)) (v25 : Int) (v27 : Int) : Option ((Nat → Int) × Int) :=
  cb_rMerge_l4 v27 (w64 (v25 + 1))

def rMerge_j8 (_ : Nat) (cb_rMerge_l5 : Int → Int → Option ((Nat → Int) × Int)) (v29 : Int) (v31 : Int) : Option ((Nat → Int) × Int) :=
  cb_rMerge_l5 v31 (w64 (v29 + 1))

def rMerge_l6 (K : Nat) (cb_rMerge_l5 : Int → Int → Option ((Nat → Int) × Int)) (a0 : (Nat → Int)) (r4 : ((List Int))) (v9 : Int) (v14 : Int) (v21 : Int) (v25 : Int) (v29 : Int) : Nat → Int → Int →  Option ((Nat → Int) × Int)
  | 0, _, _ => none
  | k6 + 1, v32, v33 =>
    (if v33 < 4 then (if 0 ≤ (w64 ((w64 ((w64 (32 * v21)) + (w64 (4 * v9)))) + v29)) ∧ (w64 ((w64 ((w64 (32 * v21)) + (w64 (4 * v9)))) + v29)) < (r4.length : Int) then (if 0 ≤ (w64 ((w64 ((w64 (32 * v25)) + (w64 (4 * v14)))) + v33)) ∧ (w64 ((w64 ((w64 (32 * v25)) + (w64 (4 * v14)))) + v33)) < (r4.length : Int) then (if 0 ≤ (w64 ((w64 (2 * v21)) + v25)) ∧ (w64 ((w64 (2 * v21)) + v25)) < 4 then (if 0 ≤ (w64 ((w64 (8 * v29)) + v33)) ∧ (w64 ((w64 (8 * v29)) + v33)) < 64 then (rMerge_l6 K cb_rMerge_l5 a0 r4 v9 v14 v21 v25 v29 k6) (w64 (v32 + (w64 ((w64 ((r4.getD ((w64 ((w64 ((w64 (32 * v21)) + (w64 (4 * v9)))) + v29)).toNat) 0) * (r4.getD ((w64 ((w64 ((w64 (32 * v25)) + (w64 (4 * v14)))) + v33)).toNat) 0))) * (a0 ((w64 ((w64 (2 * v21)) + v25)).toNat * 64 + (w64 ((w64 (8 * v29)) + v33)).toNat)))))) (w64 (v33 + 1)) else none) else none) else none) else none) else rMerge_j8 K cb_rMerge_l5 v29 v32)

def rMerge_l5 (K : Nat) (cb_rMerge_l4 : Int → Int → Option ((Nat → Int) × Int)) (a0 : (Nat → Int)) (r4 : ((List Int))) (v9 : Int) (v14 : Int) (v21 : Int) (v25 : Int) : Nat → Int → Int →  Option ((Nat → Int) × Int)
  | 0, _, _ => none
  | k5 + 1, v28, v29 =>
    (if v29 < 4 then rMerge_l6 K (rMerge_l5 K cb_rMerge_l4 a0 r4 v9 v14 v21 v25 k5) a0 r4 v9 v14 v21 v25 v29 K v28 0 else rMerge_j7 K cb_rMerge_l4 v25 v28)

def rMerge_l4 (K : Nat) (cb_rMerge_l3 : Int → Int → Option ((Nat → Int) × Int)) (a0 : (Nat → Int)) (r4 : ((List Int))) (v9 : Int) (v14 : Int) (v21 : Int) : Nat → Int → Int →  Option ((Nat → Int) × Int)
  | 0, _, _ => none
  | k4 + 1, v24, v25 =>
    (if v25 < 2 then rMerge_l5 K (rMerge_l4 K cb_rMerge_l3 a0 r4 v9 v14 v21 k4) a0 r4 v9 v14 v21 v25 K v24 0 else rMerge_j6 K cb_rMerge_l3 v21 v24)

def rMerge_l3 (K : Nat) (cb_rMerge_l2 : Int → (Nat → Int) → Option ((Nat → Int) × Int)) (a0 : (Nat → Int)) (r4 : ((List Int))) (v9 : Int) (v14 : Int) (v15 : (Nat → Int)) : Nat → Int → Int →  Option ((Nat → Int) × Int)
  | 0, _, _ => none
  | k3 + 1, v20, v21 =>
    (if v21 < 2 then rMerge_l4 K (rMerge_l3 K cb_rMerge_l2 a0 r4 v9 v14 v15 k3) a0 r4 v9 v14 v21 K v20 0 else rMerge_j5 K cb_rMerge_l2 v9 v14 v15 v20)

def rMerge_l2 (K : Nat) (cb_rMerge_l1 : Int → (Nat → Int) → Option ((Nat → Int) × Int)) (a0 : (Nat → Int)) (r4 : ((List Int))) (v9 : Int) : Nat → Int → (Nat → Int) →  Option ((Nat → Int) × Int)
  | 0, _, _ => none
  | k2 + 1, v14, v15 =>
    (if v14 < 8 then rMerge_l3 K (rMerge_l2 K cb_rMerge_l1 a0 r4 v9 k2) a0 r4 v9 v14 v15 K 0 0 else rMerge_j3 K cb_rMerge_l1 v9 v15)

def rMerge_l1 (K : Nat) (a0 : (Nat → Int)) (r4 : ((List Int))) : Nat → Int → (Nat → Int) →  Option ((Nat → Int) × Int)
  | 0, _, _ => none
  | k1 + 1, v9, v10 =>
    (if v9 < 8 then rMerge_l2 K (rMerge_l1 K a0 r4 k1) a0 r4 v9 K 0 v10 else rMerge_j2 K v10)

def rMerge_j1 (K : Nat)  (a0 : (Nat → Int))  : Option ((Nat → Int) × Int) :=
  ((rParts K ).bind fun r4 => rMerge_l1 K a0 r4 K 0 zf)

def rMerge_l7 (K : Nat) (a0 : (Nat → Int)) : Nat → Int →  Option ((Nat → Int) × Int)
  | 0, _ => none
  | k7 + 1, v39 =>
    (if v39 < 4 then (if 0 ≤ v39 ∧ v39 < 4 then ((rIn K (shf a0 (v39.toNat * 64)) (-1048576) 1048576).bind fun r42 => (if r42 = true then (rMerge_l7 K a0 k7) (w64 (v39 + 1)) else some (zf, 2))) else none) else rMerge_j1 K a0)

def rMerge (K : Nat) (a0 : (Nat → Int)) : Option ((Nat → Int) × Int) :=
  rMerge_l7 K a0 K 0

theorem c_rMerge (K : Nat) (a0 : (Nat → Int)) (r : (Nat → Int) × Int) (w0 : World) (hm : rMerge K a0 = some r) : Calls Tryd.prog 21 #[.agg (cf 256 (iv a0))] w0 fun e w' => e = .returned (.tuple #[.agg (cf 64 (iv r.1)), .int .i64 r.2]) ∧ Below w0.heap.size w0 w' := by
  unfold rMerge at hm
  refine calls_CW (n := 93) w0 [] [] Tryd.func21 rfl rfl rfl (Mem.begin w0) ?_
  refine CW.seq ?_
  refine CW.region ?_
  refine RW.box (v := .agg (cf 256 (iv a0))) rfl rfl rfl (fun b1 => ?_)
  refine RW.alloc (z := .agg (cf 64 (iv zf))) (cf 64 (iv zf)) rfl rfl (fun _ => by kernel_rfl) rfl (fun b2 => ?_)
  refine RW.yi (.int .i64 0) rfl rfl (Yi.pv _ rfl) ?_
  refine RW.nil ?_
  refine EW.next ?_
  refine CW.seq ?_
  refine CW.region ?_
  refine RW.yi (.agg (cf 64 (iv zf))) rfl rfl (Yi.build (vs := []) _ rfl rfl (fun _ => by kernel_rfl)) ?_
  refine RW.alloc (z := .agg (cf 64 (iv zf))) (cf 64 (iv zf)) rfl rfl (fun _ => by kernel_rfl) rfl (fun b3 => ?_)
  refine RW.storeW (i := 0) (cs' := cf 64 (iv zf)) rfl rfl rfl rfl (by rw [cf_size]; kernel_rfl) (by simp only [cf_size]) (iv_one _ _) ?_
  refine RW.nil ?_
  refine EW.next ?_
  refine CW.join (fun a w => St 93 [(1, .pointer (some ⟨b1, 0, none⟩)), (2, .pointer (some ⟨b2, 0, none⟩)), (4, .pointer (some ⟨b3, 0, none⟩))] a ∧ Mem w0 [] [.blk b3 23 (cf 64 (iv zf)), .blk b2 23 (cf 64 (iv zf)), .blk b1 34 (cf 256 (iv a0))] w ∧ rMerge_j1 K a0 = some r) ?_ ?_
  · refine CW.seq ?_
    refine CW.region ?_
    refine RW.yi (.int .i64 0) rfl rfl (Yi.pv _ rfl) ?_
    refine RW.nil ?_
    refine EW.next ?_
    refine CW.block ?_
    refine CW.loop (fun k a w => ∃ (v39 : Int), St 93 [(1, .pointer (some ⟨b1, 0, none⟩)), (2, .pointer (some ⟨b2, 0, none⟩)), (4, .pointer (some ⟨b3, 0, none⟩)), (5, .int .i64 v39)] a ∧ Mem w0 [] [.blk b3 23 (cf 64 (iv zf)), .blk b2 23 (cf 64 (iv zf)), .blk b1 34 (cf 256 (iv a0))] w ∧ rMerge_l7 K a0 k v39 = some r) K ?_ ?_ ?_
    · rintro a w ⟨_, _, _, hm⟩
      rw [rMerge_l7.eq_1] at hm
      cases hm
    · exact fun a w hs hM => ⟨0, hs.sub ⟨rfl, rfl, rfl, rfl, trivial⟩, hM.sub (.cons_cons _ (.cons_cons _ (.cons_cons _ .slnil))), hm⟩
    · rintro k7 a w ⟨v39, hs, hM, hm⟩
      rw [rMerge_l7.eq_2] at hm
      refine CW.enter hs hM ?_
      refine CW.seq ?_
      refine CW.seq ?_
      refine CW.region ?_
      refine RW.yi (.int .i64 v39) rfl rfl (Yi.pv _ rfl) ?_
      refine RW.yi (.bool (decide (v39 < 4))) rfl rfl (Yi.pv _ rfl) ?_
      refine RW.nil ?_
      refine EW.next ?_
      refine CW.fork 16 (v39 < 4) rfl (fun h40 => ?_) (fun h40 => ?_)
      · replace hm := (if_pos h40).symm.trans hm
        refine CW.cond_true rfl ?_
        refine CW.skip ?_
        refine EW.next ?_
        refine CW.seq ?_
        refine CW.block ?_
        refine CW.seq ?_
        refine CW.region ?_
        refine RW.yi (.int .i64 v39) rfl rfl (Yi.pv _ rfl) ?_
        obtain ⟨g41, hm⟩ := of_guard hm
        refine RW.yi (.pointer (some ⟨b1, v39.toNat * 64, none⟩)) rfl rfl (Yi.indexAddr' _ Tryd.underlying34 Tryd.sizeOf23 rfl rfl g41.1 g41.2 (by omega)) ?_
        refine RW.yi (.agg (cf 64 (iv (shf a0 (v39.toNat * 64))))) rfl rfl (Yi.loadP (i := 2) rfl rfl Tryd.isAgg23 Tryd.sizeOf23 (by omega)) ?_
        obtain ⟨r42, hr42, hm⟩ := of_bind hm
        refine RW.ca (.bool r42) rfl rfl (Ca.call rfl rfl Tryd.call25 (fun w _ => c_rIn K (shf a0 (v39.toNat * 64)) (-1048576) 1048576 r42 w hr42)) ?_
        refine RW.forkB 22 (r42) rfl (fun h43 => ?_) (fun h43 => ?_)
        · replace hm := (if_pos h43).symm.trans hm
          refine RW.yi (.bool false) rfl rfl (Yi.pv _ rfl) ?_
          refine RW.nil ?_
          refine EW.next ?_
          refine CW.cond_false rfl ?_
          refine CW.skip ?_
          refine EW.bln ?_
          refine EW.next ?_
          refine CW.region ?_
          refine RW.yi (.int .i64 v39) rfl rfl (Yi.pv _ rfl) ?_
          refine RW.yi (.int .i64 (w64 (v39 + 1))) rfl rfl (Yi.pv _ rfl) ?_
          refine RW.yi (.int .i64 (w64 (v39 + 1))) rfl rfl (Yi.pv _ rfl) ?_
          refine RW.nil ?_
          refine EW.thn ?_
          exact fun a w hs hM => ⟨(w64 (v39 + 1)), hs.sub ⟨rfl, rfl, rfl, rfl, trivial⟩, hM.sub (.cons_cons _ (.cons_cons _ (.cons_cons _ .slnil))), hm⟩
        · replace hm := (if_neg h43).symm.trans hm
          refine RW.yi (.bool true) rfl rfl (Yi.pv _ rfl) ?_
          refine RW.nil ?_
          refine EW.next ?_
          refine CW.cond_true rfl ?_
          refine CW.seq ?_
          refine CW.region ?_
          refine RW.yi (.agg (cf 64 (iv zf))) rfl rfl (Yi.loadW (i := 0) rfl rfl Tryd.isAgg23 Tryd.sizeOf23) ?_
          refine RW.storeW (i := 1) (cs' := cf 64 (iv zf)) rfl rfl rfl rfl (by rw [cf_size]; kernel_rfl) (by simp only [cf_size]) (iv_one _ _) ?_
          refine RW.yi (.int .i64 2) rfl rfl (Yi.pv _ rfl) ?_
          refine RW.nil ?_
          refine EW.next ?_
          refine CW.ret ?_
          refine EW.blr ?_
          refine EW.thr ?_
          refine EW.thr ?_
          refine EW.blr ?_
          refine EW.thr ?_
          obtain rfl := Option.some.inj hm
          exact EW.done (rs := [.cell 2 23, .tmp 3]) rfl (.cellW (i := 1) rfl rfl Tryd.isAgg23 Tryd.sizeOf23 (.tmp (t := 3) (v := .int .i64 2) rfl .nil)) (fun _ hM => ⟨rfl, hM.below⟩)
      · replace hm := (if_neg h40).symm.trans hm
        refine CW.cond_false rfl ?_
        refine CW.exit ?_
        refine EW.thx ?_
        refine EW.thx ?_
        refine EW.blx ?_
        refine EW.thn ?_
        exact fun a w hs hM => ⟨hs.sub ⟨rfl, rfl, rfl, trivial⟩, hM.sub (.cons_cons _ (.cons_cons _ (.cons_cons _ .slnil))), hm⟩
  · rintro a w ⟨hs, hM, hm⟩
    unfold rMerge_j1 at hm
    refine CW.enter hs hM ?_
    refine CW.seq ?_
    refine CW.region ?_
    obtain ⟨r4, hr4, hm⟩ := of_bind hm
    refine RW.caS (fun s5 => s5) (e := 3) (sz := 1) (m := r4.length) (cs := ic r4) rfl rfl rfl rfl Tryd.call22 (fun w _ => c_rParts K  r4 w hr4) (fun s5 => ?_)
    refine RW.yi (s5) rfl rfl (Yi.pv _ rfl) ?_
    refine RW.nil ?_
    refine EW.next ?_
    refine CW.join (fun a w => ∃ (v7 : (Nat → Int)), St 93 [(2, .pointer (some ⟨b2, 0, none⟩)), (4, .pointer (some ⟨b3, 0, none⟩))] a ∧ Mem w0 [] [.blk b3 23 (cf 64 (iv v7)), .blk b2 23 (cf 64 (iv zf))] w ∧ rMerge_j2 K v7 = some r) ?_ ?_
    · refine CW.seq ?_
      refine CW.region ?_
      refine RW.yi (.int .i64 0) rfl rfl (Yi.pv _ rfl) ?_
      refine RW.nil ?_
      refine EW.next ?_
      refine CW.block ?_
      refine CW.loop (fun k a w => ∃ (v9 : Int) (v10 : (Nat → Int)), St 93 [(1, .pointer (some ⟨b1, 0, none⟩)), (2, .pointer (some ⟨b2, 0, none⟩)), (4, .pointer (some ⟨b3, 0, none⟩)), (6, s5), (7, .int .i64 v9)] a ∧ Mem w0 [] [.row s5 3 1 r4.length (ic r4), .blk b3 23 (cf 64 (iv v10)), .blk b2 23 (cf 64 (iv zf)), .blk b1 34 (cf 256 (iv a0))] w ∧ rMerge_l1 K a0 r4 k v9 v10 = some r) K ?_ ?_ ?_
      · rintro a w ⟨_, _, _, _, hm⟩
        rw [rMerge_l1.eq_1] at hm
        cases hm
      · exact fun a w hs hM => ⟨0, zf, hs.sub ⟨rfl, rfl, rfl, rfl, rfl, trivial⟩, hM.sub (.cons_cons _ (.cons_cons _ (.cons_cons _ (.cons_cons _ .slnil)))), hm⟩
      · rintro k1 a w ⟨v9, v10, hs, hM, hm⟩
        rw [rMerge_l1.eq_2] at hm
        refine CW.enter hs hM ?_
        refine CW.seq ?_
        refine CW.seq ?_
        refine CW.region ?_
        refine RW.yi (.int .i64 v9) rfl rfl (Yi.pv _ rfl) ?_
        refine RW.yi (.bool (decide (v9 < 8))) rfl rfl (Yi.pv _ rfl) ?_
        refine RW.nil ?_
        refine EW.next ?_
        refine CW.fork 27 (v9 < 8) rfl (fun h11 => ?_) (fun h11 => ?_)
        · replace hm := (if_pos h11).symm.trans hm
          refine CW.cond_true rfl ?_
          refine CW.skip ?_
          refine EW.next ?_
          refine CW.join (fun a w => ∃ (v12 : (Nat → Int)), St 93 [(1, .pointer (some ⟨b1, 0, none⟩)), (2, .pointer (some ⟨b2, 0, none⟩)), (4, .pointer (some ⟨b3, 0, none⟩)), (6, s5), (7, .int .i64 v9)] a ∧ Mem w0 [] [.row s5 3 1 r4.length (ic r4), .blk b3 23 (cf 64 (iv v12)), .blk b2 23 (cf 64 (iv zf)), .blk b1 34 (cf 256 (iv a0))] w ∧ rMerge_j3 K (rMerge_l1 K a0 r4 k1) v9 v12 = some r) ?_ ?_
          · refine CW.block ?_
            refine CW.seq ?_
            refine CW.region ?_
            refine RW.yi (.int .i64 0) rfl rfl (Yi.pv _ rfl) ?_
            refine RW.nil ?_
            refine EW.next ?_
            refine CW.block ?_
            refine CW.loop (fun k a w => ∃ (v14 : Int) (v15 : (Nat → Int)), St 93 [(1, .pointer (some ⟨b1, 0, none⟩)), (2, .pointer (some ⟨b2, 0, none⟩)), (4, .pointer (some ⟨b3, 0, none⟩)), (6, s5), (7, .int .i64 v9), (8, .int .i64 v14)] a ∧ Mem w0 [] [.row s5 3 1 r4.length (ic r4), .blk b3 23 (cf 64 (iv v15)), .blk b2 23 (cf 64 (iv zf)), .blk b1 34 (cf 256 (iv a0))] w ∧ rMerge_l2 K (rMerge_l1 K a0 r4 k1) a0 r4 v9 k v14 v15 = some r) K ?_ ?_ ?_
            · rintro a w ⟨_, _, _, _, hm⟩
              rw [rMerge_l2.eq_1] at hm
              cases hm
            · exact fun a w hs hM => ⟨0, v10, hs.sub ⟨rfl, rfl, rfl, rfl, rfl, rfl, trivial⟩, hM.sub (.cons_cons _ (.cons_cons _ (.cons_cons _ (.cons_cons _ .slnil)))), hm⟩
            · rintro k2 a w ⟨v14, v15, hs, hM, hm⟩
              rw [rMerge_l2.eq_2] at hm
              refine CW.enter hs hM ?_
              refine CW.seq ?_
              refine CW.seq ?_
              refine CW.region ?_
              refine RW.yi (.int .i64 v14) rfl rfl (Yi.pv _ rfl) ?_
              refine RW.yi (.bool (decide (v14 < 8))) rfl rfl (Yi.pv _ rfl) ?_
              refine RW.nil ?_
              refine EW.next ?_
              refine CW.fork 31 (v14 < 8) rfl (fun h16 => ?_) (fun h16 => ?_)
              · replace hm := (if_pos h16).symm.trans hm
                refine CW.cond_true rfl ?_
                refine CW.skip ?_
                refine EW.next ?_
                refine CW.join (fun a w => ∃ (v17 : (Nat → Int)), St 93 [(1, .pointer (some ⟨b1, 0, none⟩)), (2, .pointer (some ⟨b2, 0, none⟩)), (4, .pointer (some ⟨b3, 0, none⟩)), (6, s5), (7, .int .i64 v9), (8, .int .i64 v14)] a ∧ Mem w0 [] [.row s5 3 1 r4.length (ic r4), .blk b3 23 (cf 64 (iv v17)), .blk b2 23 (cf 64 (iv zf)), .blk b1 34 (cf 256 (iv a0))] w ∧ rMerge_j4 K (rMerge_l2 K (rMerge_l1 K a0 r4 k1) a0 r4 v9 k2) v14 v17 = some r) ?_ ?_
                · refine CW.block ?_
                  refine CW.seq ?_
                  refine CW.region ?_
                  refine RW.yi (.int .i64 0) rfl rfl (Yi.pv _ rfl) ?_
                  refine RW.nil ?_
                  refine EW.next ?_
                  refine CW.join (fun a w => ∃ (v18 : Int), St 93 [(1, .pointer (some ⟨b1, 0, none⟩)), (2, .pointer (some ⟨b2, 0, none⟩)), (4, .pointer (some ⟨b3, 0, none⟩)), (6, s5), (7, .int .i64 v9), (8, .int .i64 v14), (9, .int .i64 v18)] a ∧ Mem w0 [] [.row s5 3 1 r4.length (ic r4), .blk b3 23 (cf 64 (iv v15)), .blk b2 23 (cf 64 (iv zf)), .blk b1 34 (cf 256 (iv a0))] w ∧ rMerge_j5 K (rMerge_l2 K (rMerge_l1 K a0 r4 k1) a0 r4 v9 k2) v9 v14 v15 v18 = some r) ?_ ?_
                  · refine CW.seq ?_
                    refine CW.region ?_
                    refine RW.yi (.int .i64 0) rfl rfl (Yi.pv _ rfl) ?_
                    refine RW.nil ?_
                    refine EW.next ?_
                    refine CW.block ?_
                    refine CW.loop (fun k a w => ∃ (v20 : Int) (v21 : Int), St 93 [(1, .pointer (some ⟨b1, 0, none⟩)), (2, .pointer (some ⟨b2, 0, none⟩)), (4, .pointer (some ⟨b3, 0, none⟩)), (6, s5), (7, .int .i64 v9), (8, .int .i64 v14), (9, .int .i64 v20), (10, .int .i64 v21)] a ∧ Mem w0 [] [.row s5 3 1 r4.length (ic r4), .blk b3 23 (cf 64 (iv v15)), .blk b2 23 (cf 64 (iv zf)), .blk b1 34 (cf 256 (iv a0))] w ∧ rMerge_l3 K (rMerge_l2 K (rMerge_l1 K a0 r4 k1) a0 r4 v9 k2) a0 r4 v9 v14 v15 k v20 v21 = some r) K ?_ ?_ ?_
                    · rintro a w ⟨_, _, _, _, hm⟩
                      rw [rMerge_l3.eq_1] at hm
                      cases hm
                    · exact fun a w hs hM => ⟨0, 0, hs.sub ⟨rfl, rfl, rfl, rfl, rfl, rfl, rfl, rfl, trivial⟩, hM.sub (.cons_cons _ (.cons_cons _ (.cons_cons _ (.cons_cons _ .slnil)))), hm⟩
                    · rintro k3 a w ⟨v20, v21, hs, hM, hm⟩
                      rw [rMerge_l3.eq_2] at hm
                      refine CW.enter hs hM ?_
                      refine CW.seq ?_
                      refine CW.seq ?_
                      refine CW.region ?_
                      refine RW.yi (.int .i64 v21) rfl rfl (Yi.pv _ rfl) ?_
                      refine RW.yi (.bool (decide (v21 < 2))) rfl rfl (Yi.pv _ rfl) ?_
                      refine RW.nil ?_
                      refine EW.next ?_
                      refine CW.fork 35 (v21 < 2) rfl (fun h22 => ?_) (fun h22 => ?_)
                      · replace hm := (if_pos h22).symm.trans hm
                        refine CW.cond_true rfl ?_
                        refine CW.skip ?_
                        refine EW.next ?_
                        refine CW.join (fun a w => ∃ (v23 : Int), St 93 [(1, .pointer (some ⟨b1, 0, none⟩)), (2, .pointer (some ⟨b2, 0, none⟩)), (4, .pointer (some ⟨b3, 0, none⟩)), (6, s5), (7, .int .i64 v9), (8, .int .i64 v14), (9, .int .i64 v23), (10, .int .i64 v21)] a ∧ Mem w0 [] [.row s5 3 1 r4.length (ic r4), .blk b3 23 (cf 64 (iv v15)), .blk b2 23 (cf 64 (iv zf)), .blk b1 34 (cf 256 (iv a0))] w ∧ rMerge_j6 K (rMerge_l3 K (rMerge_l2 K (rMerge_l1 K a0 r4 k1) a0 r4 v9 k2) a0 r4 v9 v14 v15 k3) v21 v23 = some r) ?_ ?_
                        · refine CW.block ?_
                          refine CW.seq ?_
                          refine CW.region ?_
                          refine RW.yi (.int .i64 0) rfl rfl (Yi.pv _ rfl) ?_
                          refine RW.nil ?_
                          refine EW.next ?_
                          refine CW.block ?_
                          refine CW.loop (fun k a w => ∃ (v24 : Int) (v25 : Int), St 93 [(1, .pointer (some ⟨b1, 0, none⟩)), (2, .pointer (some ⟨b2, 0, none⟩)), (4, .pointer (some ⟨b3, 0, none⟩)), (6, s5), (7, .int .i64 v9), (8, .int .i64 v14), (9, .int .i64 v24), (10, .int .i64 v21), (11, .int .i64 v25)] a ∧ Mem w0 [] [.row s5 3 1 r4.length (ic r4), .blk b3 23 (cf 64 (iv v15)), .blk b2 23 (cf 64 (iv zf)), .blk b1 34 (cf 256 (iv a0))] w ∧ rMerge_l4 K (rMerge_l3 K (rMerge_l2 K (rMerge_l1 K a0 r4 k1) a0 r4 v9 k2) a0 r4 v9 v14 v15 k3) a0 r4 v9 v14 v21 k v24 v25 = some r) K ?_ ?_ ?_
                          · rintro a w ⟨_, _, _, _, hm⟩
                            rw [rMerge_l4.eq_1] at hm
                            cases hm
                          · exact fun a w hs hM => ⟨v20, 0, hs.sub ⟨rfl, rfl, rfl, rfl, rfl, rfl, rfl, rfl, rfl, trivial⟩, hM.sub (.cons_cons _ (.cons_cons _ (.cons_cons _ (.cons_cons _ .slnil)))), hm⟩
                          · rintro k4 a w ⟨v24, v25, hs, hM, hm⟩
                            rw [rMerge_l4.eq_2] at hm
                            refine CW.enter hs hM ?_
                            refine CW.seq ?_
                            refine CW.seq ?_
                            refine CW.region ?_
                            refine RW.yi (.int .i64 v25) rfl rfl (Yi.pv _ rfl) ?_
                            refine RW.yi (.bool (decide (v25 < 2))) rfl rfl (Yi.pv _ rfl) ?_
                            refine RW.nil ?_
                            refine EW.next ?_
                            refine CW.fork 39 (v25 < 2) rfl (fun h26 => ?_) (fun h26 => ?_)
                            · replace hm := (if_pos h26).symm.trans hm
                              refine CW.cond_true rfl ?_
                              refine CW.skip ?_
                              refine EW.next ?_
                              refine CW.join (fun a w => ∃ (v27 : Int), St 93 [(1, .pointer (some ⟨b1, 0, none⟩)), (2, .pointer (some ⟨b2, 0, none⟩)), (4, .pointer (some ⟨b3, 0, none⟩)), (6, s5), (7, .int .i64 v9), (8, .int .i64 v14), (9, .int .i64 v27), (10, .int .i64 v21), (11, .int .i64 v25)] a ∧ Mem w0 [] [.row s5 3 1 r4.length (ic r4), .blk b3 23 (cf 64 (iv v15)), .blk b2 23 (cf 64 (iv zf)), .blk b1 34 (cf 256 (iv a0))] w ∧ rMerge_j7 K (rMerge_l4 K (rMerge_l3 K (rMerge_l2 K (rMerge_l1 K a0 r4 k1) a0 r4 v9 k2) a0 r4 v9 v14 v15 k3) a0 r4 v9 v14 v21 k4) v25 v27 = some r) ?_ ?_
                              · refine CW.block ?_
                                refine CW.seq ?_
                                refine CW.region ?_
                                refine RW.yi (.int .i64 0) rfl rfl (Yi.pv _ rfl) ?_
                                refine RW.nil ?_
                                refine EW.next ?_
                                refine CW.block ?_
                                refine CW.loop (fun k a w => ∃ (v28 : Int) (v29 : Int), St 93 [(1, .pointer (some ⟨b1, 0, none⟩)), (2, .pointer (some ⟨b2, 0, none⟩)), (4, .pointer (some ⟨b3, 0, none⟩)), (6, s5), (7, .int .i64 v9), (8, .int .i64 v14), (9, .int .i64 v28), (10, .int .i64 v21), (11, .int .i64 v25), (12, .int .i64 v29)] a ∧ Mem w0 [] [.row s5 3 1 r4.length (ic r4), .blk b3 23 (cf 64 (iv v15)), .blk b2 23 (cf 64 (iv zf)), .blk b1 34 (cf 256 (iv a0))] w ∧ rMerge_l5 K (rMerge_l4 K (rMerge_l3 K (rMerge_l2 K (rMerge_l1 K a0 r4 k1) a0 r4 v9 k2) a0 r4 v9 v14 v15 k3) a0 r4 v9 v14 v21 k4) a0 r4 v9 v14 v21 v25 k v28 v29 = some r) K ?_ ?_ ?_
                                · rintro a w ⟨_, _, _, _, hm⟩
                                  rw [rMerge_l5.eq_1] at hm
                                  cases hm
                                · exact fun a w hs hM => ⟨v24, 0, hs.sub ⟨rfl, rfl, rfl, rfl, rfl, rfl, rfl, rfl, rfl, rfl, trivial⟩, hM.sub (.cons_cons _ (.cons_cons _ (.cons_cons _ (.cons_cons _ .slnil)))), hm⟩
                                · rintro k5 a w ⟨v28, v29, hs, hM, hm⟩
                                  rw [rMerge_l5.eq_2] at hm
                                  refine CW.enter hs hM ?_
                                  refine CW.seq ?_
                                  refine CW.seq ?_
                                  refine CW.region ?_
                                  refine RW.yi (.int .i64 v29) rfl rfl (Yi.pv _ rfl) ?_
                                  refine RW.yi (.bool (decide (v29 < 4))) rfl rfl (Yi.pv _ rfl) ?_
                                  refine RW.nil ?_
                                  refine EW.next ?_
                                  refine CW.fork 43 (v29 < 4) rfl (fun h30 => ?_) (fun h30 => ?_)
                                  · replace hm := (if_pos h30).symm.trans hm
                                    refine CW.cond_true rfl ?_
                                    refine CW.skip ?_
                                    refine EW.next ?_
                                    refine CW.join (fun a w => ∃ (v31 : Int), St 93 [(1, .pointer (some ⟨b1, 0, none⟩)), (2, .pointer (some ⟨b2, 0, none⟩)), (4, .pointer (some ⟨b3, 0, none⟩)), (6, s5), (7, .int .i64 v9), (8, .int .i64 v14), (9, .int .i64 v31), (10, .int .i64 v21), (11, .int .i64 v25), (12, .int .i64 v29)] a ∧ Mem w0 [] [.row s5 3 1 r4.length (ic r4), .blk b3 23 (cf 64 (iv v15)), .blk b2 23 (cf 64 (iv zf)), .blk b1 34 (cf 256 (iv a0))] w ∧ rMerge_j8 K (rMerge_l5 K (rMerge_l4 K (rMerge_l3 K (rMerge_l2 K (rMerge_l1 K a0 r4 k1) a0 r4 v9 k2) a0 r4 v9 v14 v15 k3) a0 r4 v9 v14 v21 k4) a0 r4 v9 v14 v21 v25 k5) v29 v31 = some r) ?_ ?_
                                    · refine CW.block ?_
                                      refine CW.seq ?_
                                      refine CW.region ?_
                                      refine RW.yi (.int .i64 0) rfl rfl (Yi.pv _ rfl) ?_
                                      refine RW.nil ?_
                                      refine EW.next ?_
                                      refine CW.block ?_
                                      refine CW.loop (fun k a w => ∃ (v32 : Int) (v33 : Int), St 93 [(1, .pointer (some ⟨b1, 0, none⟩)), (2, .pointer (some ⟨b2, 0, none⟩)), (4, .pointer (some ⟨b3, 0, none⟩)), (6, s5), (7, .int .i64 v9), (8, .int .i64 v14), (9, .int .i64 v32), (10, .int .i64 v21), (11, .int .i64 v25), (12, .int .i64 v29), (13, .int .i64 v33)] a ∧ Mem w0 [] [.row s5 3 1 r4.length (ic r4), .blk b3 23 (cf 64 (iv v15)), .blk b2 23 (cf 64 (iv zf)), .blk b1 34 (cf 256 (iv a0))] w ∧ rMerge_l6 K (rMerge_l5 K (rMerge_l4 K (rMerge_l3 K (rMerge_l2 K (rMerge_l1 K a0 r4 k1) a0 r4 v9 k2) a0 r4 v9 v14 v15 k3) a0 r4 v9 v14 v21 k4) a0 r4 v9 v14 v21 v25 k5) a0 r4 v9 v14 v21 v25 v29 k v32 v33 = some r) K ?_ ?_ ?_
                                      · rintro a w ⟨_, _, _, _, hm⟩
                                        rw [rMerge_l6.eq_1] at hm
                                        cases hm
                                      · exact fun a w hs hM => ⟨v28, 0, hs.sub ⟨rfl, rfl, rfl, rfl, rfl, rfl, rfl, rfl, rfl, rfl, rfl, trivial⟩, hM.sub (.cons_cons _ (.cons_cons _ (.cons_cons _ (.cons_cons _ .slnil)))), hm⟩
                                      · rintro k6 a w ⟨v32, v33, hs, hM, hm⟩
                                        rw [rMerge_l6.eq_2] at hm
                                        refine CW.enter hs hM ?_
                                        refine CW.seq ?_
                                        refine CW.seq ?_
                                        refine CW.region ?_
                                        refine RW.yi (.int .i64 v33) rfl rfl (Yi.pv _ rfl) ?_
                                        refine RW.yi (.bool (decide (v33 < 4))) rfl rfl (Yi.pv _ rfl) ?_
                                        refine RW.nil ?_
                                        refine EW.next ?_
                                        refine CW.fork 47 (v33 < 4) rfl (fun h34 => ?_) (fun h34 => ?_)
                                        · replace hm := (if_pos h34).symm.trans hm
                                          refine CW.cond_true rfl ?_
                                          refine CW.skip ?_
                                          refine EW.next ?_
                                          refine CW.seq ?_
                                          refine CW.block ?_
                                          refine CW.draws (by kernel_rfl) (by kernel_rfl) ?_
                                          refine QW.yi (.int .i64 v32) rfl rfl (Yi.pv _ rfl) ?_
                                          refine QW.yi (s5) rfl rfl (Yi.pv _ rfl) ?_
                                          refine QW.yi (.int .i64 v21) rfl rfl (Yi.pv _ rfl) ?_
                                          refine QW.yi (.int .i64 (w64 (32 * v21))) rfl rfl (Yi.pv _ rfl) ?_
                                          refine QW.yi (.int .i64 v9) rfl rfl (Yi.pv _ rfl) ?_
                                          refine QW.yi (.int .i64 (w64 (4 * v9))) rfl rfl (Yi.pv _ rfl) ?_
                                          refine QW.yi (.int .i64 (w64 ((w64 (32 * v21)) + (w64 (4 * v9))))) rfl rfl (Yi.pv _ rfl) ?_
                                          refine QW.yi (.int .i64 v29) rfl rfl (Yi.pv _ rfl) ?_
                                          refine QW.yi (.int .i64 (w64 ((w64 ((w64 (32 * v21)) + (w64 (4 * v9)))) + v29))) rfl rfl (Yi.pv _ rfl) ?_
                                          obtain ⟨g35, hm⟩ := of_guard hm
                                          refine QW.yi (.pointer (some (eaddr s5 1 ((w64 ((w64 ((w64 (32 * v21)) + (w64 (4 * v9)))) + v29)).toNat) 0))) rfl rfl (Yi.idxS (m := r4.length) Tryd.underlying27 Tryd.sizeOf3 rfl rfl (fun _ hM => hM.rd (i := 0) rfl) g35.1 g35.2) ?_
                                          refine QW.yi (.int .i64 (r4.getD ((w64 ((w64 ((w64 (32 * v21)) + (w64 (4 * v9)))) + v29)).toNat) 0)) rfl rfl (Yi.loadS (m := r4.length) (cs := ic r4) _ rfl (fun _ hM => hM.rd (i := 0) rfl) Tryd.isAgg3 (by omega) (by decide) (by rw [Nat.mul_one, Nat.add_zero]; exact ic_get (by omega))) ?_
                                          refine QW.yi (s5) rfl rfl (Yi.pv _ rfl) ?_
                                          refine QW.yi (.int .i64 v25) rfl rfl (Yi.pv _ rfl) ?_
                                          refine QW.yi (.int .i64 (w64 (32 * v25))) rfl rfl (Yi.pv _ rfl) ?_
                                          refine QW.yi (.int .i64 v14) rfl rfl (Yi.pv _ rfl) ?_
                                          refine QW.yi (.int .i64 (w64 (4 * v14))) rfl rfl (Yi.pv _ rfl) ?_
                                          refine QW.yi (.int .i64 (w64 ((w64 (32 * v25)) + (w64 (4 * v14))))) rfl rfl (Yi.pv _ rfl) ?_
                                          refine QW.yi (.int .i64 v33) rfl rfl (Yi.pv _ rfl) ?_
                                          refine QW.yi (.int .i64 (w64 ((w64 ((w64 (32 * v25)) + (w64 (4 * v14)))) + v33))) rfl rfl (Yi.pv _ rfl) ?_
                                          obtain ⟨g36, hm⟩ := of_guard hm
                                          refine QW.yi (.pointer (some (eaddr s5 1 ((w64 ((w64 ((w64 (32 * v25)) + (w64 (4 * v14)))) + v33)).toNat) 0))) rfl rfl (Yi.idxS (m := r4.length) Tryd.underlying27 Tryd.sizeOf3 rfl rfl (fun _ hM => hM.rd (i := 0) rfl) g36.1 g36.2) ?_
                                          refine QW.yi (.int .i64 (r4.getD ((w64 ((w64 ((w64 (32 * v25)) + (w64 (4 * v14)))) + v33)).toNat) 0)) rfl rfl (Yi.loadS (m := r4.length) (cs := ic r4) _ rfl (fun _ hM => hM.rd (i := 0) rfl) Tryd.isAgg3 (by omega) (by decide) (by rw [Nat.mul_one, Nat.add_zero]; exact ic_get (by omega))) ?_
                                          refine QW.yi (.int .i64 (w64 ((r4.getD ((w64 ((w64 ((w64 (32 * v21)) + (w64 (4 * v9)))) + v29)).toNat) 0) * (r4.getD ((w64 ((w64 ((w64 (32 * v25)) + (w64 (4 * v14)))) + v33)).toNat) 0)))) rfl rfl (Yi.pv _ rfl) ?_
                                          refine QW.yi (.int .i64 v21) rfl rfl (Yi.pv _ rfl) ?_
                                          refine QW.yi (.int .i64 (w64 (2 * v21))) rfl rfl (Yi.pv _ rfl) ?_
                                          refine QW.yi (.int .i64 v25) rfl rfl (Yi.pv _ rfl) ?_
                                          refine QW.yi (.int .i64 (w64 ((w64 (2 * v21)) + v25))) rfl rfl (Yi.pv _ rfl) ?_
                                          refine QW.yi (.int .i64 v29) rfl rfl (Yi.pv _ rfl) ?_
                                          refine QW.yi (.int .i64 (w64 (8 * v29))) rfl rfl (Yi.pv _ rfl) ?_
                                          refine QW.yi (.int .i64 v33) rfl rfl (Yi.pv _ rfl) ?_
                                          refine QW.yi (.int .i64 (w64 ((w64 (8 * v29)) + v33))) rfl rfl (Yi.pv _ rfl) ?_
                                          obtain ⟨g37, hm⟩ := of_guard hm
                                          refine QW.yi (.pointer (some ⟨b1, (w64 ((w64 (2 * v21)) + v25)).toNat * 64, none⟩)) rfl rfl (Yi.indexAddr' _ Tryd.underlying34 Tryd.sizeOf23 rfl rfl g37.1 g37.2 (by omega)) ?_
                                          obtain ⟨g38, hm⟩ := of_guard hm
                                          refine QW.yi (.pointer (some ⟨b1, (w64 ((w64 (2 * v21)) + v25)).toNat * 64 + (w64 ((w64 (8 * v29)) + v33)).toNat, none⟩)) rfl rfl (Yi.indexAddr' _ Tryd.underlying23 Tryd.sizeOf3 rfl rfl g38.1 g38.2 (by omega)) ?_
                                          refine QW.yi (.int .i64 (a0 ((w64 ((w64 (2 * v21)) + v25)).toNat * 64 + (w64 ((w64 (8 * v29)) + v33)).toNat))) rfl rfl (Yi.load1 (i := 3) _ rfl rfl Tryd.isAgg3 (cf_get (by omega))) ?_
                                          refine QW.yi (.int .i64 (w64 ((w64 ((r4.getD ((w64 ((w64 ((w64 (32 * v21)) + (w64 (4 * v9)))) + v29)).toNat) 0) * (r4.getD ((w64 ((w64 ((w64 (32 * v25)) + (w64 (4 * v14)))) + v33)).toNat) 0))) * (a0 ((w64 ((w64 (2 * v21)) + v25)).toNat * 64 + (w64 ((w64 (8 * v29)) + v33)).toNat))))) rfl rfl (Yi.pv _ rfl) ?_
                                          refine QW.yi (.int .i64 (w64 (v32 + (w64 ((w64 ((r4.getD ((w64 ((w64 ((w64 (32 * v21)) + (w64 (4 * v9)))) + v29)).toNat) 0) * (r4.getD ((w64 ((w64 ((w64 (32 * v25)) + (w64 (4 * v14)))) + v33)).toNat) 0))) * (a0 ((w64 ((w64 (2 * v21)) + v25)).toNat * 64 + (w64 ((w64 (8 * v29)) + v33)).toNat))))))) rfl rfl (Yi.pv _ rfl) ?_
                                          refine QW.yi (.int .i64 (w64 (v32 + (w64 ((w64 ((r4.getD ((w64 ((w64 ((w64 (32 * v21)) + (w64 (4 * v9)))) + v29)).toNat) 0) * (r4.getD ((w64 ((w64 ((w64 (32 * v25)) + (w64 (4 * v14)))) + v33)).toNat) 0))) * (a0 ((w64 ((w64 (2 * v21)) + v25)).toNat * 64 + (w64 ((w64 (8 * v29)) + v33)).toNat))))))) rfl rfl (Yi.pv _ rfl) ?_
                                          refine QW.nil ?_
                                          refine EW.bln ?_
                                          refine EW.next ?_
                                          refine CW.region ?_
                                          refine RW.yi (.int .i64 v33) rfl rfl (Yi.pv _ rfl) ?_
                                          refine RW.yi (.int .i64 (w64 (v33 + 1))) rfl rfl (Yi.pv _ rfl) ?_
                                          refine RW.yi (.int .i64 (w64 (v33 + 1))) rfl rfl (Yi.pv _ rfl) ?_
                                          refine RW.nil ?_
                                          refine EW.thn ?_
                                          exact fun a w hs hM => ⟨(w64 (v32 + (w64 ((w64 ((r4.getD ((w64 ((w64 ((w64 (32 * v21)) + (w64 (4 * v9)))) + v29)).toNat) 0) * (r4.getD ((w64 ((w64 ((w64 (32 * v25)) + (w64 (4 * v14)))) + v33)).toNat) 0))) * (a0 ((w64 ((w64 (2 * v21)) + v25)).toNat * 64 + (w64 ((w64 (8 * v29)) + v33)).toNat)))))), (w64 (v33 + 1)), hs.sub ⟨rfl, rfl, rfl, rfl, rfl, rfl, rfl, rfl, rfl, rfl, rfl, trivial⟩, hM.sub (.cons_cons _ (.cons_cons _ (.cons_cons _ (.cons_cons _ .slnil)))), hm⟩
                                        · replace hm := (if_neg h34).symm.trans hm
                                          refine CW.cond_false rfl ?_
                                          refine CW.exit ?_
                                          refine EW.thx ?_
                                          refine EW.thx ?_
                                          refine EW.blx ?_
                                          refine EW.bln ?_
                                          refine EW.thn ?_
                                          exact fun a w hs hM => ⟨v32, hs.sub ⟨rfl, rfl, rfl, rfl, rfl, rfl, rfl, rfl, rfl, rfl, trivial⟩, hM.sub (.cons_cons _ (.cons_cons _ (.cons_cons _ (.cons_cons _ .slnil)))), hm⟩
                                    · rintro a w ⟨v31, hs, hM, hm⟩
                                      unfold rMerge_j8 at hm
                                      refine CW.enter hs hM ?_
                                      refine CW.region ?_
                                      refine RW.yi (.int .i64 v29) rfl rfl (Yi.pv _ rfl) ?_
                                      refine RW.yi (.int .i64 (w64 (v29 + 1))) rfl rfl (Yi.pv _ rfl) ?_
                                      refine RW.yi (.int .i64 (w64 (v29 + 1))) rfl rfl (Yi.pv _ rfl) ?_
                                      refine RW.nil ?_
                                      refine EW.thn ?_
                                      exact fun a w hs hM => ⟨v31, (w64 (v29 + 1)), hs.sub ⟨rfl, rfl, rfl, rfl, rfl, rfl, rfl, rfl, rfl, rfl, trivial⟩, hM.sub (.cons_cons _ (.cons_cons _ (.cons_cons _ (.cons_cons _ .slnil)))), hm⟩
                                  · replace hm := (if_neg h30).symm.trans hm
                                    refine CW.cond_false rfl ?_
                                    refine CW.exit ?_
                                    refine EW.thx ?_
                                    refine EW.thx ?_
                                    refine EW.blx ?_
                                    refine EW.bln ?_
                                    refine EW.thn ?_
                                    exact fun a w hs hM => ⟨v28, hs.sub ⟨rfl, rfl, rfl, rfl, rfl, rfl, rfl, rfl, rfl, trivial⟩, hM.sub (.cons_cons _ (.cons_cons _ (.cons_cons _ (.cons_cons _ .slnil)))), hm⟩
                              · rintro a w ⟨v27, hs, hM, hm⟩
                                unfold rMerge_j7 at hm
                                refine CW.enter hs hM ?_
                                refine CW.region ?_
                                refine RW.yi (.int .i64 v25) rfl rfl (Yi.pv _ rfl) ?_
                                refine RW.yi (.int .i64 (w64 (v25 + 1))) rfl rfl (Yi.pv _ rfl) ?_
                                refine RW.yi (.int .i64 (w64 (v25 + 1))) rfl rfl (Yi.pv _ rfl) ?_
                                refine RW.nil ?_
                                refine EW.thn ?_
                                exact fun a w hs hM => ⟨v27, (w64 (v25 + 1)), hs.sub ⟨rfl, rfl, rfl, rfl, rfl, rfl, rfl, rfl, rfl, trivial⟩, hM.sub (.cons_cons _ (.cons_cons _ (.cons_cons _ (.cons_cons _ .slnil)))), hm⟩
                            · replace hm := (if_neg h26).symm.trans hm
                              refine CW.cond_false rfl ?_
                              refine CW.exit ?_
                              refine EW.thx ?_
                              refine EW.thx ?_
                              refine EW.blx ?_
                              refine EW.bln ?_
                              refine EW.thn ?_
                              exact fun a w hs hM => ⟨v24, hs.sub ⟨rfl, rfl, rfl, rfl, rfl, rfl, rfl, rfl, trivial⟩, hM.sub (.cons_cons _ (.cons_cons _ (.cons_cons _ (.cons_cons _ .slnil)))), hm⟩
                        · rintro a w ⟨v23, hs, hM, hm⟩
                          unfold rMerge_j6 at hm
                          refine CW.enter hs hM ?_
                          refine CW.region ?_
                          refine RW.yi (.int .i64 v21) rfl rfl (Yi.pv _ rfl) ?_
                          refine RW.yi (.int .i64 (w64 (v21 + 1))) rfl rfl (Yi.pv _ rfl) ?_
                          refine RW.yi (.int .i64 (w64 (v21 + 1))) rfl rfl (Yi.pv _ rfl) ?_
                          refine RW.nil ?_
                          refine EW.thn ?_
                          exact fun a w hs hM => ⟨v23, (w64 (v21 + 1)), hs.sub ⟨rfl, rfl, rfl, rfl, rfl, rfl, rfl, rfl, trivial⟩, hM.sub (.cons_cons _ (.cons_cons _ (.cons_cons _ (.cons_cons _ .slnil)))), hm⟩
                      · replace hm := (if_neg h22).symm.trans hm
                        refine CW.cond_false rfl ?_
                        refine CW.exit ?_
                        refine EW.thx ?_
                        refine EW.thx ?_
                        refine EW.blx ?_
                        refine EW.thn ?_
                        exact fun a w hs hM => ⟨v20, hs.sub ⟨rfl, rfl, rfl, rfl, rfl, rfl, rfl, trivial⟩, hM.sub (.cons_cons _ (.cons_cons _ (.cons_cons _ (.cons_cons _ .slnil)))), hm⟩
                  · rintro a w ⟨v18, hs, hM, hm⟩
                    unfold rMerge_j5 at hm
                    refine CW.enter hs hM ?_
                    refine CW.region ?_
                    refine RW.yi (.int .i64 v9) rfl rfl (Yi.pv _ rfl) ?_
                    refine RW.yi (.int .i64 (w64 (8 * v9))) rfl rfl (Yi.pv _ rfl) ?_
                    refine RW.yi (.int .i64 v14) rfl rfl (Yi.pv _ rfl) ?_
                    refine RW.yi (.int .i64 (w64 ((w64 (8 * v9)) + v14))) rfl rfl (Yi.pv _ rfl) ?_
                    refine RW.yi (.int .i64 v18) rfl rfl (Yi.pv _ rfl) ?_
                    refine RW.ca (.int .i64 (rnd v18 33554432)) rfl rfl (Ca.call rfl rfl Tryd.call35 (fun w _ => c_rRound v18 33554432 w)) ?_
                    obtain ⟨g19, hm⟩ := of_guard hm
                    refine RW.yi (.pointer (some ⟨b3, (w64 ((w64 (8 * v9)) + v14)).toNat, none⟩)) rfl rfl (Yi.indexAddr' _ Tryd.underlying23 Tryd.sizeOf3 rfl rfl g19.1 g19.2 (by omega)) ?_
                    refine RW.store1 (i := 1) (cs' := cf 64 (iv (upd v15 ((w64 ((w64 (8 * v9)) + v14)).toNat) (rnd v18 33554432)))) rfl rfl rfl rfl Tryd.sizeOf3 rfl rfl (by rw [cf_size]; omega) (by rw [cf_set, iv_upd]) ?_
                    refine RW.nil ?_
                    refine EW.bln ?_
                    refine EW.thn ?_
                    exact fun a w hs hM => ⟨(upd v15 ((w64 ((w64 (8 * v9)) + v14)).toNat) (rnd v18 33554432)), hs.sub ⟨rfl, rfl, rfl, rfl, rfl, rfl, trivial⟩, hM.sub (.cons_cons _ (.cons_cons _ (.cons_cons _ (.cons_cons _ .slnil)))), hm⟩
                · rintro a w ⟨v17, hs, hM, hm⟩
                  unfold rMerge_j4 at hm
                  refine CW.enter hs hM ?_
                  refine CW.region ?_
                  refine RW.yi (.int .i64 v14) rfl rfl (Yi.pv _ rfl) ?_
                  refine RW.yi (.int .i64 (w64 (v14 + 1))) rfl rfl (Yi.pv _ rfl) ?_
                  refine RW.yi (.int .i64 (w64 (v14 + 1))) rfl rfl (Yi.pv _ rfl) ?_
                  refine RW.nil ?_
                  refine EW.thn ?_
                  exact fun a w hs hM => ⟨(w64 (v14 + 1)), v17, hs.sub ⟨rfl, rfl, rfl, rfl, rfl, rfl, trivial⟩, hM.sub (.cons_cons _ (.cons_cons _ (.cons_cons _ (.cons_cons _ .slnil)))), hm⟩
              · replace hm := (if_neg h16).symm.trans hm
                refine CW.cond_false rfl ?_
                refine CW.exit ?_
                refine EW.thx ?_
                refine EW.thx ?_
                refine EW.blx ?_
                refine EW.bln ?_
                refine EW.thn ?_
                exact fun a w hs hM => ⟨v15, hs.sub ⟨rfl, rfl, rfl, rfl, rfl, trivial⟩, hM.sub (.cons_cons _ (.cons_cons _ (.cons_cons _ (.cons_cons _ .slnil)))), hm⟩
          · rintro a w ⟨v12, hs, hM, hm⟩
            unfold rMerge_j3 at hm
            refine CW.enter hs hM ?_
            refine CW.region ?_
            refine RW.yi (.int .i64 v9) rfl rfl (Yi.pv _ rfl) ?_
            refine RW.yi (.int .i64 (w64 (v9 + 1))) rfl rfl (Yi.pv _ rfl) ?_
            refine RW.yi (.int .i64 (w64 (v9 + 1))) rfl rfl (Yi.pv _ rfl) ?_
            refine RW.nil ?_
            refine EW.thn ?_
            exact fun a w hs hM => ⟨(w64 (v9 + 1)), v12, hs.sub ⟨rfl, rfl, rfl, rfl, rfl, trivial⟩, hM.sub (.cons_cons _ (.cons_cons _ (.cons_cons _ (.cons_cons _ .slnil)))), hm⟩
        · replace hm := (if_neg h11).symm.trans hm
          refine CW.cond_false rfl ?_
          refine CW.exit ?_
          refine EW.thx ?_
          refine EW.thx ?_
          refine EW.blx ?_
          refine EW.thn ?_
          exact fun a w hs hM => ⟨v10, hs.sub ⟨rfl, rfl, trivial⟩, hM.sub (.cons _ (.cons_cons _ (.cons_cons _ (.cons _ .slnil)))), hm⟩
    · rintro a w ⟨v7, hs, hM, hm⟩
      unfold rMerge_j2 at hm
      refine CW.enter hs hM ?_
      refine CW.seq ?_
      refine CW.region ?_
      refine RW.yi (.agg (cf 64 (iv v7))) rfl rfl (Yi.loadW (i := 0) rfl rfl Tryd.isAgg23 Tryd.sizeOf23) ?_
      refine RW.storeW (i := 1) (cs' := cf 64 (iv v7)) rfl rfl rfl rfl (by rw [cf_size]; kernel_rfl) (by simp only [cf_size]) (iv_one _ _) ?_
      refine RW.yi (.int .i64 0) rfl rfl (Yi.pv _ rfl) ?_
      refine RW.nil ?_
      refine EW.next ?_
      refine CW.ret ?_
      obtain rfl := Option.some.inj hm
      exact EW.done (rs := [.cell 2 23, .tmp 3]) rfl (.cellW (i := 1) rfl rfl Tryd.isAgg23 Tryd.sizeOf23 (.tmp (t := 3) (v := .int .i64 0) rfl .nil)) (fun _ hM => ⟨rfl, hM.below⟩)
end Go.Proofs.YtfpafpmcfkapkaaDoor