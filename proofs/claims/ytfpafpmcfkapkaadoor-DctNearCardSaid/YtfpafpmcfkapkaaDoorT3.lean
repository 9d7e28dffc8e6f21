import Derived.Test.YtfpafpmcfkapkaaDoorT2
import Derived.Test.YtfpafpmcfkapkaaDoorK5
set_option maxRecDepth 100000
namespace Go.Proofs.YtfpafpmcfkapkaaDoor
open Go Go.RowKit K
def rSum_j1 (_ : Nat)   (v2 : Int) : Option (Int) :=
  some (rnd v2 67108864)

def rSum_j2 (_ : Nat) (cb_rSum_l1 : Int → Int → Option (Int)) (v4 : Int) (v6 : Int) : Option (Int) :=
  cb_rSum_l1 v6 (w64 (v4 + 1))

def rSum_j3 (_ : Nat) (cb_rSum_l2 : Int → Int → Option (Int)) (v8 : Int) (v10 : Int) : Option (Int) :=
  cb_rSum_l2 v10 (w64 (v8 + 1))

def rSum_l2 (K : Nat) (cb_rSum_l1 : Int → Int → Option (Int)) (a0 : (List Int)) (a1 : (Nat → Int)) (a2 : Int) (a3 : Int) (a4 : Bool) (v4 : Int) : Nat → Int → Int →  Option (Int)
  | 0, _, _ => none
  | k2 + 1, v7, v8 =>
    (if v8 < 8 then (if a4 = true then (if 0 ≤ (w64 ((w64 (8 * v4)) + a2)) ∧ (w64 ((w64 (8 * v4)) + a2)) < (a0.length : Int) then (if 0 ≤ (w64 ((w64 (8 * v8)) + a3)) ∧ (w64 ((w64 (8 * v8)) + a3)) < (a0.length : Int) then (if 0 ≤ (w64 ((w64 (8 * v4)) + v8)) ∧ (w64 ((w64 (8 * v4)) + v8)) < 64 then rSum_j3 K (rSum_l2 K cb_rSum_l1 a0 a1 a2 a3 a4 v4 k2) v8 (w64 (v7 + (w64 ((w64 ((a0.getD ((w64 ((w64 (8 * v4)) + a2)).toNat) 0) * (a0.getD ((w64 ((w64 (8 * v8)) + a3)).toNat) 0))) * (a1 ((w64 ((w64 (8 * v4)) + v8)).toNat)))))) else none) else none) else none) else (if 0 ≤ (w64 ((w64 (8 * a2)) + v4)) ∧ (w64 ((w64 (8 * a2)) + v4)) < (a0.length : Int) then (if 0 ≤ (w64 ((w64 (8 * a3)) + v8)) ∧ (w64 ((w64 (8 * a3)) + v8)) < (a0.length : Int) then (if 0 ≤ (w64 ((w64 (8 * v4)) + v8)) ∧ (w64 ((w64 (8 * v4)) + v8)) < 64 then rSum_j3 K (rSum_l2 K cb_rSum_l1 a0 a1 a2 a3 a4 v4 k2) v8 (w64 (v7 + (w64 ((w64 ((a0.getD ((w64 ((w64 (8 * a2)) + v4)).toNat) 0) * (a0.getD ((w64 ((w64 (8 * a3)) + v8)).toNat) 0))) * (a1 ((w64 ((w64 (8 * v4)) + v8)).toNat)))))) else none) else none) else none)) else rSum_j2 K cb_rSum_l1 v4 v7)

def rSum_l1 (K : Nat) (a0 : (List Int)) (a1 : (Nat → Int)) (a2 : Int) (a3 : Int) (a4 : Bool) : Nat → Int → Int →  Option (Int)
  | 0, _, _ => none
  | k1 + 1, v3, v4 =>
    (if v4 < 8 then rSum_l2 K (rSum_l1 K a0 a1 a2 a3 a4 k1) a0 a1 a2 a3 a4 v4 K v3 0 else rSum_j1 K v3)

def rSum (K : Nat) (a0 : (List Int)) (a1 : (Nat → Int)) (a2 : Int) (a3 : Int) (a4 : Bool) : Option (Int) :=
  rSum_l1 K a0 a1 a2 a3 a4 K 0 0

theorem c_rSum (K : Nat) (a0 : (List Int)) (a1 : (Nat → Int)) (a2 : Int) (a3 : Int) (a4 : Bool) (sa0 : Value) (r : Int) (w0 : World) (h0 : Rd 1 w0 sa0 a0.length (ic a0)) (hm : rSum K a0 a1 a2 a3 a4 = some r) : Calls Tryd.prog 42 #[sa0, .agg (cf 64 (iv a1)), .int .i64 a2, .int .i64 a3, .bool a4] w0 fun e w' => e = .returned (.int .i64 r) ∧ Below w0.heap.size w0 w' := by
  unfold rSum at hm
  refine calls_CW (n := 73) w0 [] [] Tryd.func42 rfl rfl rfl (Mem.begin w0) ?_
  refine CW.seq ?_
  refine CW.region ?_
  refine RW.box (v := .agg (cf 64 (iv a1))) rfl rfl rfl (fun b1 => ?_)
  refine RW.yi (.int .i64 0) rfl rfl (Yi.pv _ rfl) ?_
  refine RW.nil ?_
  refine EW.next ?_
  refine CW.seq ?_
  refine CW.region ?_
  refine RW.yi (.int .i64 0) rfl rfl (Yi.pv _ rfl) ?_
  refine RW.nil ?_
  refine EW.next ?_
  refine CW.join (fun a w => ∃ (v2 : Int), St 73 [(11, .int .i64 v2)] a ∧ Mem w0 [] [] w ∧ rSum_j1 K v2 = some r) ?_ ?_
  · refine CW.seq ?_
    refine CW.region ?_
    refine RW.yi (.int .i64 0) rfl rfl (Yi.pv _ rfl) ?_
    refine RW.nil ?_
    refine EW.next ?_
    refine CW.block ?_
    refine CW.loop (fun k a w => ∃ (v3 : Int) (v4 : Int), St 73 [(0, sa0), (2, .int .i64 a2), (3, .int .i64 a3), (4, .bool a4), (6, .pointer (some ⟨b1, 0, none⟩)), (11, .int .i64 v3), (12, .int .i64 v4)] a ∧ Mem w0 [] [.blk b1 23 (cf 64 (iv a1))] w ∧ rSum_l1 K a0 a1 a2 a3 a4 k v3 v4 = some r) K ?_ ?_ ?_
    · rintro a w ⟨_, _, _, _, hm⟩
      rw [rSum_l1.eq_1] at hm
      cases hm
    · exact fun a w hs hM => ⟨0, 0, hs.sub ⟨rfl, rfl, rfl, rfl, rfl, rfl, rfl, trivial⟩, hM.sub (.cons_cons _ .slnil), hm⟩
    · rintro k1 a w ⟨v3, v4, hs, hM, hm⟩
      rw [rSum_l1.eq_2] at hm
      refine CW.enter hs hM ?_
      refine CW.seq ?_
      refine CW.seq ?_
      refine CW.region ?_
      refine RW.yi (.int .i64 v4) rfl rfl (Yi.pv _ rfl) ?_
      refine RW.yi (.bool (decide (v4 < 8))) rfl rfl (Yi.pv _ rfl) ?_
      refine RW.nil ?_
      refine EW.next ?_
      refine CW.fork 15 (v4 < 8) rfl (fun h5 => ?_) (fun h5 => ?_)
      · replace hm := (if_pos h5).symm.trans hm
        refine CW.cond_true rfl ?_
        refine CW.skip ?_
        refine EW.next ?_
        refine CW.join (fun a w => ∃ (v6 : Int), St 73 [(0, sa0), (2, .int .i64 a2), (3, .int .i64 a3), (4, .bool a4), (6, .pointer (some ⟨b1, 0, none⟩)), (11, .int .i64 v6), (12, .int .i64 v4)] a ∧ Mem w0 [] [.blk b1 23 (cf 64 (iv a1))] w ∧ rSum_j2 K (rSum_l1 K a0 a1 a2 a3 a4 k1) v4 v6 = some r) ?_ ?_
        · refine CW.block ?_
          refine CW.seq ?_
          refine CW.region ?_
          refine RW.yi (.int .i64 0) rfl rfl (Yi.pv _ rfl) ?_
          refine RW.nil ?_
          refine EW.next ?_
          refine CW.block ?_
          refine CW.loop (fun k a w => ∃ (v7 : Int) (v8 : Int), St 73 [(0, sa0), (2, .int .i64 a2), (3, .int .i64 a3), (4, .bool a4), (6, .pointer (some ⟨b1, 0, none⟩)), (11, .int .i64 v7), (12, .int .i64 v4), (13, .int .i64 v8)] a ∧ Mem w0 [] [.blk b1 23 (cf 64 (iv a1))] w ∧ rSum_l2 K (rSum_l1 K a0 a1 a2 a3 a4 k1) a0 a1 a2 a3 a4 v4 k v7 v8 = some r) K ?_ ?_ ?_
          · rintro a w ⟨_, _, _, _, hm⟩
            rw [rSum_l2.eq_1] at hm
            cases hm
          · exact fun a w hs hM => ⟨v3, 0, hs.sub ⟨rfl, rfl, rfl, rfl, rfl, rfl, rfl, rfl, trivial⟩, hM.sub (.cons_cons _ .slnil), hm⟩
          · rintro k2 a w ⟨v7, v8, hs, hM, hm⟩
            rw [rSum_l2.eq_2] at hm
            refine CW.enter hs hM ?_
            refine CW.seq ?_
            refine CW.seq ?_
            refine CW.region ?_
            refine RW.yi (.int .i64 v8) rfl rfl (Yi.pv _ rfl) ?_
            refine RW.yi (.bool (decide (v8 < 8))) rfl rfl (Yi.pv _ rfl) ?_
            refine RW.nil ?_
            refine EW.next ?_
            refine CW.fork 19 (v8 < 8) rfl (fun h9 => ?_) (fun h9 => ?_)
            · replace hm := (if_pos h9).symm.trans hm
              refine CW.cond_true rfl ?_
              refine CW.skip ?_
              refine EW.next ?_
              refine CW.join (fun a w => ∃ (v10 : Int), St 73 [(0, sa0), (2, .int .i64 a2), (3, .int .i64 a3), (4, .bool a4), (6, .pointer (some ⟨b1, 0, none⟩)), (11, .int .i64 v10), (12, .int .i64 v4), (13, .int .i64 v8)] a ∧ Mem w0 [] [.blk b1 23 (cf 64 (iv a1))] w ∧ rSum_j3 K (rSum_l2 K (rSum_l1 K a0 a1 a2 a3 a4 k1) a0 a1 a2 a3 a4 v4 k2) v8 v10 = some r) ?_ ?_
              · refine CW.block ?_
                refine CW.seq ?_
                refine CW.region ?_
                refine RW.yi (.bool a4) rfl rfl (Yi.pv _ rfl) ?_
                refine RW.nil ?_
                refine EW.next ?_
                refine CW.forkB 22 (a4) rfl (fun h11 => ?_) (fun h11 => ?_)
                · replace hm := (if_pos h11).symm.trans hm
                  refine CW.cond_true rfl ?_
                  refine CW.draws (by kernel_rfl) (by kernel_rfl) ?_
                  refine QW.yi (.int .i64 v7) rfl rfl (Yi.pv _ rfl) ?_
                  refine QW.yi (sa0) rfl rfl (Yi.pv _ rfl) ?_
                  refine QW.yi (.int .i64 v4) rfl rfl (Yi.pv _ rfl) ?_
                  refine QW.yi (.int .i64 (w64 (8 * v4))) rfl rfl (Yi.pv _ rfl) ?_
                  refine QW.yi (.int .i64 a2) rfl rfl (Yi.pv _ rfl) ?_
                  refine QW.yi (.int .i64 (w64 ((w64 (8 * v4)) + a2))) rfl rfl (Yi.pv _ rfl) ?_
                  obtain ⟨g12, hm⟩ := of_guard hm
                  refine QW.yi (.pointer (some (eaddr sa0 1 ((w64 ((w64 (8 * v4)) + a2)).toNat) 0))) rfl rfl (Yi.idxS (m := a0.length) Tryd.underlying27 Tryd.sizeOf3 rfl rfl (fun _ hM => h0.mem hM rfl) g12.1 g12.2) ?_
                  refine QW.yi (.int .i64 (a0.getD ((w64 ((w64 (8 * v4)) + a2)).toNat) 0)) rfl rfl (Yi.loadS (m := a0.length) (cs := ic a0) _ rfl (fun _ hM => h0.mem hM rfl) Tryd.isAgg3 (by omega) (by decide) (by rw [Nat.mul_one, Nat.add_zero]; exact ic_get (by omega))) ?_
                  refine QW.yi (sa0) rfl rfl (Yi.pv _ rfl) ?_
                  refine QW.yi (.int .i64 v8) rfl rfl (Yi.pv _ rfl) ?_
                  refine QW.yi (.int .i64 (w64 (8 * v8))) rfl rfl (Yi.pv _ rfl) ?_
                  refine QW.yi (.int .i64 a3) rfl rfl (Yi.pv _ rfl) ?_
                  refine QW.yi (.int .i64 (w64 ((w64 (8 * v8)) + a3))) rfl rfl (Yi.pv _ rfl) ?_
                  obtain ⟨g13, hm⟩ := of_guard hm
                  refine QW.yi (.pointer (some (eaddr sa0 1 ((w64 ((w64 (8 * v8)) + a3)).toNat) 0))) rfl rfl (Yi.idxS (m := a0.length) Tryd.underlying27 Tryd.sizeOf3 rfl rfl (fun _ hM => h0.mem hM rfl) g13.1 g13.2) ?_
                  refine QW.yi (.int .i64 (a0.getD ((w64 ((w64 (8 * v8)) + a3)).toNat) 0)) rfl rfl (Yi.loadS (m := a0.length) (cs := ic a0) _ rfl (fun _ hM => h0.mem hM rfl) Tryd.isAgg3 (by omega) (by decide) (by rw [Nat.mul_one, Nat.add_zero]; exact ic_get (by omega))) ?_
                  refine QW.yi (.int .i64 (w64 ((a0.getD ((w64 ((w64 (8 * v4)) + a2)).toNat) 0) * (a0.getD ((w64 ((w64 (8 * v8)) + a3)).toNat) 0)))) rfl rfl (Yi.pv _ rfl) ?_
                  refine QW.yi (.int .i64 v4) rfl rfl (Yi.pv _ rfl) ?_
                  refine QW.yi (.int .i64 (w64 (8 * v4))) rfl rfl (Yi.pv _ rfl) ?_
                  refine QW.yi (.int .i64 v8) rfl rfl (Yi.pv _ rfl) ?_
                  refine QW.yi (.int .i64 (w64 ((w64 (8 * v4)) + v8))) rfl rfl (Yi.pv _ rfl) ?_
                  obtain ⟨g14, hm⟩ := of_guard hm
                  refine QW.yi (.pointer (some ⟨b1, (w64 ((w64 (8 * v4)) + v8)).toNat, none⟩)) rfl rfl (Yi.indexAddr' _ Tryd.underlying23 Tryd.sizeOf3 rfl rfl g14.1 g14.2 (by omega)) ?_
                  refine QW.yi (.int .i64 (a1 ((w64 ((w64 (8 * v4)) + v8)).toNat))) rfl rfl (Yi.load1 (i := 0) _ rfl rfl Tryd.isAgg3 (cf_get (by omega))) ?_
                  refine QW.yi (.int .i64 (w64 ((w64 ((a0.getD ((w64 ((w64 (8 * v4)) + a2)).toNat) 0) * (a0.getD ((w64 ((w64 (8 * v8)) + a3)).toNat) 0))) * (a1 ((w64 ((w64 (8 * v4)) + v8)).toNat))))) rfl rfl (Yi.pv _ rfl) ?_
                  refine QW.yi (.int .i64 (w64 (v7 + (w64 ((w64 ((a0.getD ((w64 ((w64 (8 * v4)) + a2)).toNat) 0) * (a0.getD ((w64 ((w64 (8 * v8)) + a3)).toNat) 0))) * (a1 ((w64 ((w64 (8 * v4)) + v8)).toNat))))))) rfl rfl (Yi.pv _ rfl) ?_
                  refine QW.yi (.int .i64 (w64 (v7 + (w64 ((w64 ((a0.getD ((w64 ((w64 (8 * v4)) + a2)).toNat) 0) * (a0.getD ((w64 ((w64 (8 * v8)) + a3)).toNat) 0))) * (a1 ((w64 ((w64 (8 * v4)) + v8)).toNat))))))) rfl rfl (Yi.pv _ rfl) ?_
                  refine QW.nil ?_
                  refine EW.bln ?_
                  refine EW.thn ?_
                  exact fun a w hs hM => ⟨(w64 (v7 + (w64 ((w64 ((a0.getD ((w64 ((w64 (8 * v4)) + a2)).toNat) 0) * (a0.getD ((w64 ((w64 (8 * v8)) + a3)).toNat) 0))) * (a1 ((w64 ((w64 (8 * v4)) + v8)).toNat)))))), hs.sub ⟨rfl, rfl, rfl, rfl, rfl, rfl, rfl, rfl, trivial⟩, hM.sub (.cons_cons _ .slnil), hm⟩
                · replace hm := (if_neg h11).symm.trans hm
                  refine CW.cond_false rfl ?_
                  refine CW.draws (by kernel_rfl) (by kernel_rfl) ?_
                  refine QW.yi (.int .i64 v7) rfl rfl (Yi.pv _ rfl) ?_
                  refine QW.yi (sa0) rfl rfl (Yi.pv _ rfl) ?_
                  refine QW.yi (.int .i64 a2) rfl rfl (Yi.pv _ rfl) ?_
                  refine QW.yi (.int .i64 (w64 (8 * a2))) rfl rfl (Yi.pv _ rfl) ?_
                  refine QW.yi (.int .i64 v4) rfl rfl (Yi.pv _ rfl) ?_
                  refine QW.yi (.int .i64 (w64 ((w64 (8 * a2)) + v4))) rfl rfl (Yi.pv _ rfl) ?_
                  obtain ⟨g15, hm⟩ := of_guard hm
                  refine QW.yi (.pointer (some (eaddr sa0 1 ((w64 ((w64 (8 * a2)) + v4)).toNat) 0))) rfl rfl (Yi.idxS (m := a0.length) Tryd.underlying27 Tryd.sizeOf3 rfl rfl (fun _ hM => h0.mem hM rfl) g15.1 g15.2) ?_
                  refine QW.yi (.int .i64 (a0.getD ((w64 ((w64 (8 * a2)) + v4)).toNat) 0)) rfl rfl (Yi.loadS (m := a0.length) (cs := ic a0) _ rfl (fun _ hM => h0.mem hM rfl) Tryd.isAgg3 (by omega) (by decide) (by rw [Nat.mul_one, Nat.add_zero]; exact ic_get (by omega))) ?_
                  refine QW.yi (sa0) rfl rfl (Yi.pv _ rfl) ?_
                  refine QW.yi (.int .i64 a3) rfl rfl (Yi.pv _ rfl) ?_
                  refine QW.yi (.int .i64 (w64 (8 * a3))) rfl rfl (Yi.pv _ rfl) ?_
                  refine QW.yi (.int .i64 v8) rfl rfl (Yi.pv _ rfl) ?_
                  refine QW.yi (.int .i64 (w64 ((w64 (8 * a3)) + v8))) rfl rfl (Yi.pv _ rfl) ?_
                  obtain ⟨g16, hm⟩ := of_guard hm
                  refine QW.yi (.pointer (some (eaddr sa0 1 ((w64 ((w64 (8 * a3)) + v8)).toNat) 0))) rfl rfl (Yi.idxS (m := a0.length) Tryd.underlying27 Tryd.sizeOf3 rfl rfl (fun _ hM => h0.mem hM rfl) g16.1 g16.2) ?_
                  refine QW.yi (.int .i64 (a0.getD ((w64 ((w64 (8 * a3)) + v8)).toNat) 0)) rfl rfl (Yi.loadS (m := a0.length) (cs := ic a0) _ rfl (fun _ hM => h0.mem hM rfl) Tryd.isAgg3 (by omega) (by decide) (by rw [Nat.mul_one, Nat.add_zero]; exact ic_get (by omega))) ?_
                  refine QW.yi (.int .i64 (w64 ((a0.getD ((w64 ((w64 (8 * a2)) + v4)).toNat) 0) * (a0.getD ((w64 ((w64 (8 * a3)) + v8)).toNat) 0)))) rfl rfl (Yi.pv _ rfl) ?_
                  refine QW.yi (.int .i64 v4) rfl rfl (Yi.pv _ rfl) ?_
                  refine QW.yi (.int .i64 (w64 (8 * v4))) rfl rfl (Yi.pv _ rfl) ?_
                  refine QW.yi (.int .i64 v8) rfl rfl (Yi.pv _ rfl) ?_
                  refine QW.yi (.int .i64 (w64 ((w64 (8 * v4)) + v8))) rfl rfl (Yi.pv _ rfl) ?_
                  obtain ⟨g17, hm⟩ := of_guard hm
                  refine QW.yi (.pointer (some ⟨b1, (w64 ((w64 (8 * v4)) + v8)).toNat, none⟩)) rfl rfl (Yi.indexAddr' _ Tryd.underlying23 Tryd.sizeOf3 rfl rfl g17.1 g17.2 (by omega)) ?_
                  refine QW.yi (.int .i64 (a1 ((w64 ((w64 (8 * v4)) + v8)).toNat))) rfl rfl (Yi.load1 (i := 0) _ rfl rfl Tryd.isAgg3 (cf_get (by omega))) ?_
                  refine QW.yi (.int .i64 (w64 ((w64 ((a0.getD ((w64 ((w64 (8 * a2)) + v4)).toNat) 0) * (a0.getD ((w64 ((w64 (8 * a3)) + v8)).toNat) 0))) * (a1 ((w64 ((w64 (8 * v4)) + v8)).toNat))))) rfl rfl (Yi.pv _ rfl) ?_
                  refine QW.yi (.int .i64 (w64 (v7 + (w64 ((w64 ((a0.getD ((w64 ((w64 (8 * a2)) + v4)).toNat) 0) * (a0.getD ((w64 ((w64 (8 * a3)) + v8)).toNat) 0))) * (a1 ((w64 ((w64 (8 * v4)) + v8)).toNat))))))) rfl rfl (Yi.pv _ rfl) ?_
                  refine QW.yi (.int .i64 (w64 (v7 + (w64 ((w64 ((a0.getD ((w64 ((w64 (8 * a2)) + v4)).toNat) 0) * (a0.getD ((w64 ((w64 (8 * a3)) + v8)).toNat) 0))) * (a1 ((w64 ((w64 (8 * v4)) + v8)).toNat))))))) rfl rfl (Yi.pv _ rfl) ?_
                  refine QW.nil ?_
                  refine EW.bln ?_
                  refine EW.thn ?_
                  exact fun a w hs hM => ⟨(w64 (v7 + (w64 ((w64 ((a0.getD ((w64 ((w64 (8 * a2)) + v4)).toNat) 0) * (a0.getD ((w64 ((w64 (8 * a3)) + v8)).toNat) 0))) * (a1 ((w64 ((w64 (8 * v4)) + v8)).toNat)))))), hs.sub ⟨rfl, rfl, rfl, rfl, rfl, rfl, rfl, rfl, trivial⟩, hM.sub (.cons_cons _ .slnil), hm⟩
              · rintro a w ⟨v10, hs, hM, hm⟩
                unfold rSum_j3 at hm
                refine CW.enter hs hM ?_
                refine CW.region ?_
                refine RW.yi (.int .i64 v8) rfl rfl (Yi.pv _ rfl) ?_
                refine RW.yi (.int .i64 (w64 (v8 + 1))) rfl rfl (Yi.pv _ rfl) ?_
                refine RW.yi (.int .i64 (w64 (v8 + 1))) rfl rfl (Yi.pv _ rfl) ?_
                refine RW.nil ?_
                refine EW.thn ?_
                exact fun a w hs hM => ⟨v10, (w64 (v8 + 1)), hs.sub ⟨rfl, rfl, rfl, rfl, rfl, rfl, rfl, rfl, trivial⟩, hM.sub (.cons_cons _ .slnil), hm⟩
            · replace hm := (if_neg h9).symm.trans hm
              refine CW.cond_false rfl ?_
              refine CW.exit ?_
              refine EW.thx ?_
              refine EW.thx ?_
              refine EW.blx ?_
              refine EW.bln ?_
              refine EW.thn ?_
              exact fun a w hs hM => ⟨v7, hs.sub ⟨rfl, rfl, rfl, rfl, rfl, rfl, rfl, trivial⟩, hM.sub (.cons_cons _ .slnil), hm⟩
        · rintro a w ⟨v6, hs, hM, hm⟩
          unfold rSum_j2 at hm
          refine CW.enter hs hM ?_
          refine CW.region ?_
          refine RW.yi (.int .i64 v4) rfl rfl (Yi.pv _ rfl) ?_
          refine RW.yi (.int .i64 (w64 (v4 + 1))) rfl rfl (Yi.pv _ rfl) ?_
          refine RW.yi (.int .i64 (w64 (v4 + 1))) rfl rfl (Yi.pv _ rfl) ?_
          refine RW.nil ?_
          refine EW.thn ?_
          exact fun a w hs hM => ⟨v6, (w64 (v4 + 1)), hs.sub ⟨rfl, rfl, rfl, rfl, rfl, rfl, rfl, trivial⟩, hM.sub (.cons_cons _ .slnil), hm⟩
      · replace hm := (if_neg h5).symm.trans hm
        refine CW.cond_false rfl ?_
        refine CW.exit ?_
        refine EW.thx ?_
        refine EW.thx ?_
        refine EW.blx ?_
        refine EW.thn ?_
        exact fun a w hs hM => ⟨v3, hs.sub ⟨rfl, trivial⟩, hM.sub (.cons _ .slnil), hm⟩
  · rintro a w ⟨v2, hs, hM, hm⟩
    unfold rSum_j1 at hm
    refine CW.enter hs hM ?_
    refine CW.seq ?_
    refine CW.region ?_
    refine RW.yi (.int .i64 v2) rfl rfl (Yi.pv _ rfl) ?_
    refine RW.ca (.int .i64 (rnd v2 67108864)) rfl rfl (Ca.call rfl rfl Tryd.call35 (fun w _ => c_rRound v2 67108864 w)) ?_
    refine RW.yi (.int .i64 (rnd v2 67108864)) rfl rfl (Yi.pv _ rfl) ?_
    refine RW.nil ?_
    refine EW.next ?_
    refine CW.ret ?_
    obtain rfl := Option.some.inj hm
    exact EW.done (rs := [.tmp 10]) rfl (.tmp (t := 10) (v := .int .i64 (rnd v2 67108864)) rfl .nil) (fun _ hM => ⟨rfl, hM.below⟩)
end Go.Proofs.YtfpafpmcfkapkaaDoor