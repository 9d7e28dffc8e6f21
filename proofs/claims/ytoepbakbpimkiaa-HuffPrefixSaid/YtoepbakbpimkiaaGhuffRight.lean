import Derived.Test.YtoepbakbpimkiaaN8
import Derived.Test.YtoepbakbpimkiaaProg
set_option maxRecDepth 100000
set_option maxHeartbeats 1000000
namespace Go.Proofs.Ytoepbakbpimkiaa
open Go Go.RowKit K

def huff_Right_j1 (_ : Nat) (a0_1 : (List Int)) (v12 : Int) : Option (Bool) :=
  some (decide (v12 = (a0_1.length : Int)))

def huff_Right_l1 (K : Nat) (a0_1 : (List Int)) (v12 : Int) : Nat → (Nat → Bool) → Int →  Option (Bool)
  | 0, _, _ => none
  | k1 + 1, v16, v17 =>
    (if v17 < (a0_1.length : Int) then (if 0 ≤ v17 ∧ v17 < (a0_1.length : Int) then (if (a0_1.getD v17.toNat 0) < 0 then some false else (if 255 < (a0_1.getD v17.toNat 0) then some false else (if 0 ≤ (a0_1.getD v17.toNat 0) ∧ (a0_1.getD v17.toNat 0) < 256 then (if (v16 ((a0_1.getD v17.toNat 0).toNat)) = true then some false else (huff_Right_l1 K a0_1 v12 k1) (upd v16 ((a0_1.getD v17.toNat 0).toNat) true) (w64 (v17 + 1))) else none))) else none) else huff_Right_j1 K a0_1 v12)

def huff_Right_j2 (K : Nat) (a0_1 : (List Int)) (v12 : Int) : Option (Bool) :=
  huff_Right_l1 K a0_1 v12 K zb 0

def huff_Right_j3 (_ : Nat) (cb_huff_Right_l2 : Int → Int → Int → Option (Bool)) (a0_0 : (Nat → Int)) (v29 : Int) (v30 : Int) (v31 : Int) : Option (Bool) :=
  cb_huff_Right_l2 (w64 ((shlI .i64 v29 1) + (a0_0 v31.toNat))) (w64 (v30 + (a0_0 v31.toNat))) (w64 (v31 + 1))

def huff_Right_l2 (K : Nat) (a0_0 : (Nat → Int)) (a0_1 : (List Int)) : Nat → Int → Int → Int →  Option (Bool)
  | 0, _, _, _ => none
  | k2 + 1, v29, v30, v31 =>
    (if v31 < 16 then (if 0 ≤ v31 ∧ v31 < 16 then (if (a0_0 v31.toNat) < 0 then some false else (if 255 < (a0_0 v31.toNat) then some false else (if 0 < (a0_0 v31.toNat) then (if 0 ≤ (w64 (v31 + 1)) then (if (w64 ((shlI .i64 1 (w64 (v31 + 1))) - 1)) < (w64 ((shlI .i64 v29 1) + (a0_0 v31.toNat))) then some false else huff_Right_j3 K (huff_Right_l2 K a0_0 a0_1 k2) a0_0 v29 v30 v31) else none) else huff_Right_j3 K (huff_Right_l2 K a0_0 a0_1 k2) a0_0 v29 v30 v31))) else none) else huff_Right_j2 K a0_1 v30)

def huff_Right (K : Nat) (a0_0 : (Nat → Int)) (a0_1 : (List Int)) : Option (Bool) :=
  (if (a0_1.length : Int) < 1 then some false else (if 256 < (a0_1.length : Int) then some false else huff_Right_l2 K a0_0 a0_1 K 0 0 0))

theorem c_huff_Right (K : Nat) (a0_0 : (Nat → Int)) (a0_1 : (List Int)) (sa0_1 : Value) (r : Bool) (w0 : World) (S : Own) (hM0 : Mem w0 S [ro sa0_1 1 a0_1.length (ec e1 a0_1)] w0) (hm : huff_Right K a0_0 a0_1 = some r) : Calls Try.prog 15 #[.agg (cat [(16, (iv a0_0)), p1 (sa0_1)])] w0 fun e w' => ∃ _u : Unit, e = .returned (.bool r) ∧ Mem w0 S [] w' := by
  unfold huff_Right at hm
  refine calls_CW (n := 77) w0 S [ro sa0_1 1 a0_1.length (ec e1 a0_1)] Try.func15 rfl rfl rfl hM0 ?_
  refine CW.seq ?_
  refine CW.region ?_
  refine RW.box (v := .agg (cat [(16, (iv a0_0)), p1 (sa0_1)])) rfl rfl rfl (fun b9 => ?_)
  refine RW.yi (.bool false) rfl rfl (Yi.pv _ rfl) ?_
  refine RW.nil ?_
  refine EW.next ?_
  refine CW.seq ?_
  refine CW.seq ?_
  refine CW.region ?_
  refine RW.yi (.pointer (some ⟨b9, 16, none⟩)) rfl rfl (Yi.fieldAddr (j := 1) Try.underlying25 rfl Try.sizeOf23 rfl) ?_
  refine RW.yi (sa0_1) rfl rfl (Yi.load1 (i := 0) _ rfl rfl Try.isAgg23 (cat_get1 (ps := [(16, (iv a0_0)), p1 (sa0_1)]) 1 rfl rfl)) ?_
  refine RW.yi (.int .i64 (a0_1.length : Int)) rfl rfl (Yi.lenS (cs := ec e1 a0_1) (m := a0_1.length) Try.underlying23 rfl (rdF 1 rfl)) ?_
  refine RW.yi (.bool (decide ((a0_1.length : Int) < 1))) rfl rfl (Yi.pv _ rfl) ?_
  refine RW.yi (.bool (decide ((a0_1.length : Int) < 1))) rfl rfl (Yi.pv _ rfl) ?_
  refine RW.fork 14 ((a0_1.length : Int) < 1) rfl (fun h10 => ?_) (fun h10 => ?_)
  · replace hm := (if_pos h10).symm.trans hm
    refine RW.pass rfl rfl ?_
    refine RW.pass rfl rfl ?_
    refine RW.pass rfl rfl ?_
    refine RW.pass rfl rfl ?_
    refine RW.yi (.bool true) rfl rfl (Yi.pv _ rfl) ?_
    refine RW.nil ?_
    refine EW.next ?_
    refine CW.cond_true rfl ?_
    refine CW.seq ?_
    refine CW.region ?_
    refine RW.yi (.bool false) rfl rfl (Yi.pv _ rfl) ?_
    refine RW.nil ?_
    refine EW.next ?_
    refine CW.ret ?_
    refine EW.thr ?_
    obtain rfl := Option.some.inj hm
    exact EW.done (rs := [.tmp 2]) rfl (.tmp (t := 2) (v := .bool false) rfl .nil) (fun _ hM => ⟨(), rfl, (hM.pick [] rfl rfl)⟩)
  · replace hm := (if_neg h10).symm.trans hm
    refine RW.yi (.pointer (some ⟨b9, 16, none⟩)) rfl rfl (Yi.fieldAddr (j := 1) Try.underlying25 rfl Try.sizeOf23 rfl) ?_
    refine RW.yi (sa0_1) rfl rfl (Yi.load1 (i := 0) _ rfl rfl Try.isAgg23 (cat_get1 (ps := [(16, (iv a0_0)), p1 (sa0_1)]) 1 rfl rfl)) ?_
    refine RW.yi (.int .i64 (a0_1.length : Int)) rfl rfl (Yi.lenS (cs := ec e1 a0_1) (m := a0_1.length) Try.underlying23 rfl (rdF 1 rfl)) ?_
    refine RW.yi (.bool (decide (256 < (a0_1.length : Int)))) rfl rfl (Yi.pv _ rfl) ?_
    refine RW.yi (.bool (decide (256 < (a0_1.length : Int)))) rfl rfl (Yi.pv _ rfl) ?_
    refine RW.nil ?_
    refine EW.next ?_
    refine CW.fork 19 (256 < (a0_1.length : Int)) rfl (fun h11 => ?_) (fun h11 => ?_)
    · replace hm := (if_pos h11).symm.trans hm
      refine CW.cond_true rfl ?_
      refine CW.seq ?_
      refine CW.region ?_
      refine RW.yi (.bool false) rfl rfl (Yi.pv _ rfl) ?_
      refine RW.nil ?_
      refine EW.next ?_
      refine CW.ret ?_
      refine EW.thr ?_
      obtain rfl := Option.some.inj hm
      exact EW.done (rs := [.tmp 2]) rfl (.tmp (t := 2) (v := .bool false) rfl .nil) (fun _ hM => ⟨(), rfl, (hM.pick [] rfl rfl)⟩)
    · replace hm := (if_neg h11).symm.trans hm
      refine CW.cond_false rfl ?_
      refine CW.skip ?_
      refine EW.next ?_
      refine CW.seq ?_
      refine CW.region ?_
      refine RW.yi (.int .i64 0) rfl rfl (Yi.pv _ rfl) ?_
      refine RW.yi (.int .i64 0) rfl rfl (Yi.pv _ rfl) ?_
      refine RW.nil ?_
      refine EW.next ?_
      refine CW.join (fun a w => ∃ (v12 : Int), St 77 [(1, .pointer (some ⟨b9, 0, none⟩)), (4, .int .i64 v12)] a ∧ Mem w0 S [.blk b9 25 (cat [(16, (iv a0_0)), p1 (sa0_1)]), ro sa0_1 1 a0_1.length (ec e1 a0_1)] w ∧ huff_Right_j2 K a0_1 v12 = some r) ?_ ?_
      · refine CW.seq ?_
        refine CW.region ?_
        refine RW.yi (.pointer (some ⟨b9, 0, none⟩)) rfl rfl (Yi.fieldAddr (j := 0) Try.underlying25 rfl Try.sizeOf22 rfl) ?_
        refine RW.yi (.agg (cf 16 (iv a0_0))) rfl rfl (Yi.to (Yi.loadA (i := 0) (j := 0) (m := 16) (cs := cat [(16, (iv a0_0)), p1 (sa0_1)]) rfl rfl Try.isAgg22 Try.sizeOf22 (by rw [cat_size]; show _ ≤ 17; omega)) (congrArg Value.agg (Eq.trans (cat_part (ps := [(16, (iv a0_0)), p1 (sa0_1)]) (nn := 16) (i := 0) (m := 16) 0 rfl (by decide) rfl rfl) (by rw [shf_zero])))) ?_
        refine RW.yi (.int .i64 0) rfl rfl (Yi.pv _ rfl) ?_
        refine RW.nil ?_
        refine EW.next ?_
        refine CW.block ?_
        refine CW.loop (fun k a w => ∃ (v29 : Int) (v30 : Int) (v31 : Int), St 77 [(1, .pointer (some ⟨b9, 0, none⟩)), (3, .int .i64 v29), (4, .int .i64 v30), (21, .agg (cf 16 (iv a0_0))), (22, .int .i64 v31)] a ∧ Mem w0 S [.blk b9 25 (cat [(16, (iv a0_0)), p1 (sa0_1)]), ro sa0_1 1 a0_1.length (ec e1 a0_1)] w ∧ huff_Right_l2 K a0_0 a0_1 k v29 v30 v31 = some r) K ?_ ?_ ?_
        · rintro a w ⟨_, _, _, _, _, hm⟩
          rw [huff_Right_l2.eq_1] at hm
          cases hm
        · exact fun a w hs hM => ⟨0, 0, 0, hs.sub ⟨rfl, rfl, rfl, rfl, rfl, trivial⟩, (hM.pick [0, 1] rfl rfl), hm⟩
        · rintro k2 a w ⟨v29, v30, v31, hs, hM, hm⟩
          rw [huff_Right_l2.eq_2] at hm
          refine CW.enter hs hM ?_
          refine CW.seq ?_
          refine CW.region ?_
          refine RW.yi (.bool (decide (v31 < 16))) rfl rfl (Yi.pv _ rfl) ?_
          refine RW.nil ?_
          refine EW.next ?_
          refine CW.seq ?_
          refine CW.fork 23 (v31 < 16) rfl (fun h35 => ?_) (fun h35 => ?_)
          · replace hm := (if_pos h35).symm.trans hm
            refine CW.cond_true rfl ?_
            refine CW.skip ?_
            refine EW.next ?_
            refine CW.join (fun a w => St 77 [(1, .pointer (some ⟨b9, 0, none⟩)), (3, .int .i64 (w64 ((shlI .i64 v29 1) + (a0_0 v31.toNat)))), (4, .int .i64 (w64 (v30 + (a0_0 v31.toNat)))), (21, .agg (cf 16 (iv a0_0))), (22, .int .i64 v31), (29, .int .i64 (a0_0 v31.toNat)), (30, .bool (decide (255 < (a0_0 v31.toNat))))] a ∧ Mem w0 S [.blk b9 25 (cat [(16, (iv a0_0)), p1 (sa0_1)]), ro sa0_1 1 a0_1.length (ec e1 a0_1)] w ∧ huff_Right_j3 K (huff_Right_l2 K a0_0 a0_1 k2) a0_0 v29 v30 v31 = some r) ?_ ?_
            · refine CW.block ?_
              refine CW.seq ?_
              refine CW.region ?_
              refine RW.yi (.int .i64 v31) rfl rfl (Yi.pv _ rfl) ?_
              obtain ⟨g36, hm⟩ := of_guard hm
              refine RW.yi (.int .i64 (a0_0 v31.toNat)) rfl rfl (Yi.index _ Try.underlying22 Try.sizeOf3 Try.isAgg3 rfl rfl g36.1 g36.2 (cf_get (by omega))) ?_
              refine RW.yi (.int .i64 v31) rfl rfl (Yi.pv _ rfl) ?_
              refine RW.yi (.int .i64 (a0_0 v31.toNat)) rfl rfl (Yi.pv _ rfl) ?_
              refine RW.nil ?_
              refine EW.next ?_
              refine CW.seq ?_
              refine CW.seq ?_
              refine CW.region ?_
              refine RW.yi (.int .i64 (a0_0 v31.toNat)) rfl rfl (Yi.pv _ rfl) ?_
              refine RW.yi (.bool (decide ((a0_0 v31.toNat) < 0))) rfl rfl (Yi.pv _ rfl) ?_
              refine RW.yi (.bool (decide ((a0_0 v31.toNat) < 0))) rfl rfl (Yi.pv _ rfl) ?_
              refine RW.fork 28 ((a0_0 v31.toNat) < 0) rfl (fun h37 => ?_) (fun h37 => ?_)
              · replace hm := (if_pos h37).symm.trans hm
                refine RW.pass rfl rfl ?_
                refine RW.pass rfl rfl ?_
                refine RW.yi (.bool true) rfl rfl (Yi.pv _ rfl) ?_
                refine RW.nil ?_
                refine EW.next ?_
                refine CW.cond_true rfl ?_
                refine CW.seq ?_
                refine CW.region ?_
                refine RW.yi (.bool false) rfl rfl (Yi.pv _ rfl) ?_
                refine RW.nil ?_
                refine EW.next ?_
                refine CW.ret ?_
                refine EW.thr ?_
                refine EW.blr ?_
                refine EW.thr ?_
                refine EW.thr ?_
                refine EW.blr ?_
                refine EW.thr ?_
                obtain rfl := Option.some.inj hm
                exact EW.done (rs := [.tmp 2]) rfl (.tmp (t := 2) (v := .bool false) rfl .nil) (fun _ hM => ⟨(), rfl, (hM.pick [] rfl rfl)⟩)
              · replace hm := (if_neg h37).symm.trans hm
                refine RW.yi (.int .i64 (a0_0 v31.toNat)) rfl rfl (Yi.pv _ rfl) ?_
                refine RW.yi (.bool (decide (255 < (a0_0 v31.toNat)))) rfl rfl (Yi.pv _ rfl) ?_
                refine RW.yi (.bool (decide (255 < (a0_0 v31.toNat)))) rfl rfl (Yi.pv _ rfl) ?_
                refine RW.nil ?_
                refine EW.next ?_
                refine CW.fork 31 (255 < (a0_0 v31.toNat)) rfl (fun h38 => ?_) (fun h38 => ?_)
                · replace hm := (if_pos h38).symm.trans hm
                  refine CW.cond_true rfl ?_
                  refine CW.seq ?_
                  refine CW.region ?_
                  refine RW.yi (.bool false) rfl rfl (Yi.pv _ rfl) ?_
                  refine RW.nil ?_
                  refine EW.next ?_
                  refine CW.ret ?_
                  refine EW.thr ?_
                  refine EW.blr ?_
                  refine EW.thr ?_
                  refine EW.thr ?_
                  refine EW.blr ?_
                  refine EW.thr ?_
                  obtain rfl := Option.some.inj hm
                  exact EW.done (rs := [.tmp 2]) rfl (.tmp (t := 2) (v := .bool false) rfl .nil) (fun _ hM => ⟨(), rfl, (hM.pick [] rfl rfl)⟩)
                · replace hm := (if_neg h38).symm.trans hm
                  refine CW.cond_false rfl ?_
                  refine CW.skip ?_
                  refine EW.next ?_
                  refine CW.seq ?_
                  refine CW.region ?_
                  refine RW.yi (.int .i64 v29) rfl rfl (Yi.pv _ rfl) ?_
                  refine RW.yi (.int .i64 (shlI .i64 v29 1)) rfl rfl (Yi.shl rfl rfl (by decide)) ?_
                  refine RW.yi (.int .i64 (a0_0 v31.toNat)) rfl rfl (Yi.pv _ rfl) ?_
                  refine RW.yi (.int .i64 (w64 ((shlI .i64 v29 1) + (a0_0 v31.toNat)))) rfl rfl (Yi.pv _ rfl) ?_
                  refine RW.yi (.int .i64 (w64 ((shlI .i64 v29 1) + (a0_0 v31.toNat)))) rfl rfl (Yi.pv _ rfl) ?_
                  refine RW.nil ?_
                  refine EW.next ?_
                  refine CW.seq ?_
                  refine CW.region ?_
                  refine RW.yi (.int .i64 v30) rfl rfl (Yi.pv _ rfl) ?_
                  refine RW.yi (.int .i64 (a0_0 v31.toNat)) rfl rfl (Yi.pv _ rfl) ?_
                  refine RW.yi (.int .i64 (w64 (v30 + (a0_0 v31.toNat)))) rfl rfl (Yi.pv _ rfl) ?_
                  refine RW.yi (.int .i64 (w64 (v30 + (a0_0 v31.toNat)))) rfl rfl (Yi.pv _ rfl) ?_
                  refine RW.nil ?_
                  refine EW.next ?_
                  refine CW.seq ?_
                  refine CW.region ?_
                  refine RW.yi (.int .i64 (a0_0 v31.toNat)) rfl rfl (Yi.pv _ rfl) ?_
                  refine RW.yi (.bool (decide (0 < (a0_0 v31.toNat)))) rfl rfl (Yi.pv _ rfl) ?_
                  refine RW.yi (.bool (decide (0 < (a0_0 v31.toNat)))) rfl rfl (Yi.pv _ rfl) ?_
                  refine RW.fork 41 (0 < (a0_0 v31.toNat)) rfl (fun h39 => ?_) (fun h39 => ?_)
                  · replace hm := (if_pos h39).symm.trans hm
                    refine RW.yi (.int .i64 (w64 ((shlI .i64 v29 1) + (a0_0 v31.toNat)))) rfl rfl (Yi.pv _ rfl) ?_
                    refine RW.yi (.int .i64 v31) rfl rfl (Yi.pv _ rfl) ?_
                    refine RW.yi (.int .i64 (w64 (v31 + 1))) rfl rfl (Yi.pv _ rfl) ?_
                    obtain ⟨g40, hm⟩ := of_guard hm
                    refine RW.yi (.int .i64 (shlI .i64 1 (w64 (v31 + 1)))) rfl rfl (Yi.shl rfl rfl g40) ?_
                    refine RW.yi (.int .i64 (w64 ((shlI .i64 1 (w64 (v31 + 1))) - 1))) rfl rfl (Yi.pv _ rfl) ?_
                    refine RW.yi (.bool (decide ((w64 ((shlI .i64 1 (w64 (v31 + 1))) - 1)) < (w64 ((shlI .i64 v29 1) + (a0_0 v31.toNat)))))) rfl rfl (Yi.pv _ rfl) ?_
                    refine RW.yi (.bool (decide ((w64 ((shlI .i64 1 (w64 (v31 + 1))) - 1)) < (w64 ((shlI .i64 v29 1) + (a0_0 v31.toNat)))))) rfl rfl (Yi.pv _ rfl) ?_
                    refine RW.nil ?_
                    refine EW.next ?_
                    refine CW.fork 48 ((w64 ((shlI .i64 1 (w64 (v31 + 1))) - 1)) < (w64 ((shlI .i64 v29 1) + (a0_0 v31.toNat)))) rfl (fun h41 => ?_) (fun h41 => ?_)
                    · replace hm := (if_pos h41).symm.trans hm
                      refine CW.cond_true rfl ?_
                      refine CW.seq ?_
                      refine CW.region ?_
                      refine RW.yi (.bool false) rfl rfl (Yi.pv _ rfl) ?_
                      refine RW.nil ?_
                      refine EW.next ?_
                      refine CW.ret ?_
                      refine EW.blr ?_
                      refine EW.thr ?_
                      refine EW.thr ?_
                      refine EW.blr ?_
                      refine EW.thr ?_
                      obtain rfl := Option.some.inj hm
                      exact EW.done (rs := [.tmp 2]) rfl (.tmp (t := 2) (v := .bool false) rfl .nil) (fun _ hM => ⟨(), rfl, (hM.pick [] rfl rfl)⟩)
                    · replace hm := (if_neg h41).symm.trans hm
                      refine CW.cond_false rfl ?_
                      refine CW.skip ?_
                      refine EW.bln ?_
                      refine EW.thn ?_
                      exact fun a w hs hM => ⟨hs.sub ⟨rfl, rfl, rfl, rfl, rfl, rfl, rfl, trivial⟩, (hM.pick [0, 1] rfl rfl), hm⟩
                  · replace hm := (if_neg h39).symm.trans hm
                    refine RW.pass rfl rfl ?_
                    refine RW.pass rfl rfl ?_
                    refine RW.pass rfl rfl ?_
                    refine RW.pass rfl rfl ?_
                    refine RW.pass rfl rfl ?_
                    refine RW.pass rfl rfl ?_
                    refine RW.yi (.bool false) rfl rfl (Yi.pv _ rfl) ?_
                    refine RW.nil ?_
                    refine EW.next ?_
                    refine CW.cond_false rfl ?_
                    refine CW.skip ?_
                    refine EW.bln ?_
                    refine EW.thn ?_
                    exact fun a w hs hM => ⟨hs.sub ⟨rfl, rfl, rfl, rfl, rfl, rfl, rfl, trivial⟩, (hM.pick [0, 1] rfl rfl), hm⟩
            · rintro a w ⟨hs, hM, hm⟩
              unfold huff_Right_j3 at hm
              refine CW.enter hs hM ?_
              refine CW.region ?_
              refine RW.yi (.int .i64 (w64 (v31 + 1))) rfl rfl (Yi.pv _ rfl) ?_
              refine RW.yi (.int .i64 (w64 (v31 + 1))) rfl rfl (Yi.pv _ rfl) ?_
              refine RW.nil ?_
              refine EW.thn ?_
              exact fun a w hs hM => ⟨(w64 ((shlI .i64 v29 1) + (a0_0 v31.toNat))), (w64 (v30 + (a0_0 v31.toNat))), (w64 (v31 + 1)), hs.sub ⟨rfl, rfl, rfl, rfl, rfl, trivial⟩, (hM.pick [0, 1] rfl rfl), hm⟩
          · replace hm := (if_neg h35).symm.trans hm
            refine CW.cond_false rfl ?_
            refine CW.exit ?_
            refine EW.thx ?_
            refine EW.thx ?_
            refine EW.blx ?_
            refine EW.thn ?_
            exact fun a w hs hM => ⟨v30, hs.sub ⟨rfl, rfl, trivial⟩, (hM.pick [0, 1] rfl rfl), hm⟩
      · rintro a w ⟨v12, hs, hM, hm⟩
        unfold huff_Right_j2 at hm
        refine CW.enter hs hM ?_
        refine CW.seq ?_
        refine CW.region ?_
        refine RW.yi (.agg (cf 256 (bv zb))) rfl rfl (Yi.build (vs := []) _ rfl rfl (fun _ => by kernel_rfl)) ?_
        refine RW.alloc (z := .agg (cf 256 (bv zb))) (cf 256 (bv zb)) rfl rfl (fun _ => by kernel_rfl) rfl (fun b13 => ?_)
        refine RW.storeW (i := 0) (cs' := cf 256 (bv zb)) rfl rfl rfl rfl (by rw [cf_size]; kernel_rfl) (by simp only [cf_size]) (bv_one _ _) ?_
        refine RW.nil ?_
        refine EW.next ?_
        refine CW.join (fun a w => St 77 [(1, .pointer (some ⟨b9, 0, none⟩)), (4, .int .i64 v12)] a ∧ Mem w0 S [.blk b9 25 (cat [(16, (iv a0_0)), p1 (sa0_1)]), ro sa0_1 1 a0_1.length (ec e1 a0_1)] w ∧ huff_Right_j1 K a0_1 v12 = some r) ?_ ?_
        · refine CW.seq ?_
          refine CW.region ?_
          refine RW.yi (.pointer (some ⟨b9, 16, none⟩)) rfl rfl (Yi.fieldAddr (j := 1) Try.underlying25 rfl Try.sizeOf23 rfl) ?_
          refine RW.yi (sa0_1) rfl rfl (Yi.load1 (i := 1) _ rfl rfl Try.isAgg23 (cat_get1 (ps := [(16, (iv a0_0)), p1 (sa0_1)]) 1 rfl rfl)) ?_
          refine RW.yi (.int .i64 (a0_1.length : Int)) rfl rfl (Yi.lenS (cs := ec e1 a0_1) (m := a0_1.length) Try.underlying23 rfl (rdF 2 rfl)) ?_
          refine RW.yi (.int .i64 0) rfl rfl (Yi.pv _ rfl) ?_
          refine RW.nil ?_
          refine EW.next ?_
          refine CW.block ?_
          refine CW.loop (fun k a w => ∃ (v16 : (Nat → Bool)) (v17 : Int), St 77 [(1, .pointer (some ⟨b9, 0, none⟩)), (4, .int .i64 v12), (7, .pointer (some ⟨b13, 0, none⟩)), (52, sa0_1), (53, .int .i64 (a0_1.length : Int)), (54, .int .i64 v17)] a ∧ Mem w0 S [.blk b9 25 (cat [(16, (iv a0_0)), p1 (sa0_1)]), ro sa0_1 1 a0_1.length (ec e1 a0_1), .blk b13 70 (cf 256 (bv v16))] w ∧ huff_Right_l1 K a0_1 v12 k v16 v17 = some r) K ?_ ?_ ?_
          · rintro a w ⟨_, _, _, _, hm⟩
            rw [huff_Right_l1.eq_1] at hm
            cases hm
          · exact fun a w hs hM => ⟨zb, 0, hs.sub ⟨rfl, rfl, rfl, rfl, rfl, rfl, trivial⟩, (hM.pick [1, 2, 0] rfl rfl), hm⟩
          · rintro k1 a w ⟨v16, v17, hs, hM, hm⟩
            rw [huff_Right_l1.eq_2] at hm
            refine CW.enter hs hM ?_
            refine CW.seq ?_
            refine CW.region ?_
            refine RW.yi (.bool (decide (v17 < (a0_1.length : Int)))) rfl rfl (Yi.pv _ rfl) ?_
            refine RW.nil ?_
            refine EW.next ?_
            refine CW.seq ?_
            refine CW.fork 55 (v17 < (a0_1.length : Int)) rfl (fun h20 => ?_) (fun h20 => ?_)
            · replace hm := (if_pos h20).symm.trans hm
              refine CW.cond_true rfl ?_
              refine CW.skip ?_
              refine EW.next ?_
              refine CW.seq ?_
              refine CW.block ?_
              refine CW.seq ?_
              refine CW.region ?_
              obtain ⟨g21, hm⟩ := of_guard hm
              refine RW.yi (.pointer (some (eaddr sa0_1 1 v17.toNat 0))) rfl rfl (Yi.idxS (m := a0_1.length) Try.underlying23 Try.sizeOf3 rfl rfl (rdF 1 rfl) g21.1 g21.2) ?_
              refine RW.yi (.int .i64 (a0_1.getD v17.toNat 0)) rfl rfl (Yi.loadS (m := a0_1.length) (cs := ec e1 a0_1) _ rfl (rdF 1 rfl) Try.isAgg3 (by omega) (by omega) (by rw [ec_get (d := 0) e1_is (by omega) (by decide)]; rfl)) ?_
              refine RW.yi (.int .i64 (a0_1.getD v17.toNat 0)) rfl rfl (Yi.pv _ rfl) ?_
              refine RW.nil ?_
              refine EW.next ?_
              refine CW.seq ?_
              refine CW.seq ?_
              refine CW.region ?_
              refine RW.yi (.int .i64 (a0_1.getD v17.toNat 0)) rfl rfl (Yi.pv _ rfl) ?_
              refine RW.yi (.bool (decide ((a0_1.getD v17.toNat 0) < 0))) rfl rfl (Yi.pv _ rfl) ?_
              refine RW.yi (.bool (decide ((a0_1.getD v17.toNat 0) < 0))) rfl rfl (Yi.pv _ rfl) ?_
              refine RW.fork 60 ((a0_1.getD v17.toNat 0) < 0) rfl (fun h22 => ?_) (fun h22 => ?_)
              · replace hm := (if_pos h22).symm.trans hm
                refine RW.pass rfl rfl ?_
                refine RW.pass rfl rfl ?_
                refine RW.yi (.bool true) rfl rfl (Yi.pv _ rfl) ?_
                refine RW.yi (.bool true) rfl rfl (Yi.pv _ rfl) ?_
                refine RW.pass rfl rfl ?_
                refine RW.pass rfl rfl ?_
                refine RW.pass rfl rfl ?_
                refine RW.yi (.bool true) rfl rfl (Yi.pv _ rfl) ?_
                refine RW.nil ?_
                refine EW.next ?_
                refine CW.cond_true rfl ?_
                refine CW.seq ?_
                refine CW.region ?_
                refine RW.yi (.bool false) rfl rfl (Yi.pv _ rfl) ?_
                refine RW.nil ?_
                refine EW.next ?_
                refine CW.ret ?_
                refine EW.thr ?_
                refine EW.blr ?_
                refine EW.thr ?_
                refine EW.thr ?_
                refine EW.blr ?_
                refine EW.thr ?_
                obtain rfl := Option.some.inj hm
                exact EW.done (rs := [.tmp 2]) rfl (.tmp (t := 2) (v := .bool false) rfl .nil) (fun _ hM => ⟨(), rfl, (hM.pick [] rfl rfl)⟩)
              · replace hm := (if_neg h22).symm.trans hm
                refine RW.yi (.int .i64 (a0_1.getD v17.toNat 0)) rfl rfl (Yi.pv _ rfl) ?_
                refine RW.yi (.bool (decide (255 < (a0_1.getD v17.toNat 0)))) rfl rfl (Yi.pv _ rfl) ?_
                refine RW.yi (.bool (decide (255 < (a0_1.getD v17.toNat 0)))) rfl rfl (Yi.pv _ rfl) ?_
                refine RW.yi (.bool (decide (255 < (a0_1.getD v17.toNat 0)))) rfl rfl (Yi.pv _ rfl) ?_
                refine RW.fork 64 (255 < (a0_1.getD v17.toNat 0)) rfl (fun h23 => ?_) (fun h23 => ?_)
                · replace hm := (if_pos h23).symm.trans hm
                  refine RW.pass rfl rfl ?_
                  refine RW.pass rfl rfl ?_
                  refine RW.pass rfl rfl ?_
                  refine RW.yi (.bool true) rfl rfl (Yi.pv _ rfl) ?_
                  refine RW.nil ?_
                  refine EW.next ?_
                  refine CW.cond_true rfl ?_
                  refine CW.seq ?_
                  refine CW.region ?_
                  refine RW.yi (.bool false) rfl rfl (Yi.pv _ rfl) ?_
                  refine RW.nil ?_
                  refine EW.next ?_
                  refine CW.ret ?_
                  refine EW.thr ?_
                  refine EW.blr ?_
                  refine EW.thr ?_
                  refine EW.thr ?_
                  refine EW.blr ?_
                  refine EW.thr ?_
                  obtain rfl := Option.some.inj hm
                  exact EW.done (rs := [.tmp 2]) rfl (.tmp (t := 2) (v := .bool false) rfl .nil) (fun _ hM => ⟨(), rfl, (hM.pick [] rfl rfl)⟩)
                · replace hm := (if_neg h23).symm.trans hm
                  refine RW.yi (.int .i64 (a0_1.getD v17.toNat 0)) rfl rfl (Yi.pv _ rfl) ?_
                  obtain ⟨g24, hm⟩ := of_guard hm
                  refine RW.yi (.pointer (some ⟨b13, (a0_1.getD v17.toNat 0).toNat, none⟩)) rfl rfl (Yi.indexAddr' _ Try.underlying70 Try.sizeOf4 rfl rfl g24.1 g24.2 (by omega)) ?_
                  refine RW.yi (.bool (v16 ((a0_1.getD v17.toNat 0).toNat))) rfl rfl (Yi.load1 (i := 2) _ rfl rfl Try.isAgg4 (cf_get (by omega))) ?_
                  refine RW.yi (.bool (v16 ((a0_1.getD v17.toNat 0).toNat))) rfl rfl (Yi.pv _ rfl) ?_
                  refine RW.nil ?_
                  refine EW.next ?_
                  refine CW.forkB 68 ((v16 ((a0_1.getD v17.toNat 0).toNat))) rfl (fun h25 => ?_) (fun h25 => ?_)
                  · replace hm := (if_pos h25).symm.trans hm
                    refine CW.cond_true rfl ?_
                    refine CW.seq ?_
                    refine CW.region ?_
                    refine RW.yi (.bool false) rfl rfl (Yi.pv _ rfl) ?_
                    refine RW.nil ?_
                    refine EW.next ?_
                    refine CW.ret ?_
                    refine EW.thr ?_
                    refine EW.blr ?_
                    refine EW.thr ?_
                    refine EW.thr ?_
                    refine EW.blr ?_
                    refine EW.thr ?_
                    obtain rfl := Option.some.inj hm
                    exact EW.done (rs := [.tmp 2]) rfl (.tmp (t := 2) (v := .bool false) rfl .nil) (fun _ hM => ⟨(), rfl, (hM.pick [] rfl rfl)⟩)
                  · replace hm := (if_neg h25).symm.trans hm
                    refine CW.cond_false rfl ?_
                    refine CW.skip ?_
                    refine EW.next ?_
                    refine CW.region ?_
                    refine RW.yi (.int .i64 (a0_1.getD v17.toNat 0)) rfl rfl (Yi.pv _ rfl) ?_
                    refine RW.yi (.pointer (some ⟨b13, (a0_1.getD v17.toNat 0).toNat, none⟩)) rfl rfl (Yi.indexAddr' _ Try.underlying70 Try.sizeOf4 rfl rfl g24.1 g24.2 (by omega)) ?_
                    refine RW.store1 (i := 2) (cs' := cf 256 (bv (upd v16 ((a0_1.getD v17.toNat 0).toNat) true))) rfl rfl rfl rfl Try.sizeOf4 rfl rfl (by rw [cf_size]; omega) (by rw [cf_set, bv_upd]) ?_
                    refine RW.nil ?_
                    refine EW.bln ?_
                    refine EW.next ?_
                    refine CW.region ?_
                    refine RW.yi (.int .i64 (w64 (v17 + 1))) rfl rfl (Yi.pv _ rfl) ?_
                    refine RW.yi (.int .i64 (w64 (v17 + 1))) rfl rfl (Yi.pv _ rfl) ?_
                    refine RW.nil ?_
                    refine EW.thn ?_
                    exact fun a w hs hM => ⟨(upd v16 ((a0_1.getD v17.toNat 0).toNat) true), (w64 (v17 + 1)), hs.sub ⟨rfl, rfl, rfl, rfl, rfl, rfl, trivial⟩, (hM.pick [0, 1, 2] rfl rfl), hm⟩
            · replace hm := (if_neg h20).symm.trans hm
              refine CW.cond_false rfl ?_
              refine CW.exit ?_
              refine EW.thx ?_
              refine EW.thx ?_
              refine EW.blx ?_
              refine EW.thn ?_
              exact fun a w hs hM => ⟨hs.sub ⟨rfl, rfl, trivial⟩, (hM.pick [0, 1] rfl rfl), hm⟩
        · rintro a w ⟨hs, hM, hm⟩
          unfold huff_Right_j1 at hm
          refine CW.enter hs hM ?_
          refine CW.seq ?_
          refine CW.region ?_
          refine RW.yi (.int .i64 v12) rfl rfl (Yi.pv _ rfl) ?_
          refine RW.yi (.pointer (some ⟨b9, 16, none⟩)) rfl rfl (Yi.fieldAddr (j := 1) Try.underlying25 rfl Try.sizeOf23 rfl) ?_
          refine RW.yi (sa0_1) rfl rfl (Yi.load1 (i := 0) _ rfl rfl Try.isAgg23 (cat_get1 (ps := [(16, (iv a0_0)), p1 (sa0_1)]) 1 rfl rfl)) ?_
          refine RW.yi (.int .i64 (a0_1.length : Int)) rfl rfl (Yi.lenS (cs := ec e1 a0_1) (m := a0_1.length) Try.underlying23 rfl (rdF 1 rfl)) ?_
          refine RW.yi (.bool (decide (v12 = (a0_1.length : Int)))) rfl rfl (Yi.pv _ rfl) ?_
          refine RW.yi (.bool (decide (v12 = (a0_1.length : Int)))) rfl rfl (Yi.pv _ rfl) ?_
          refine RW.nil ?_
          refine EW.next ?_
          refine CW.ret ?_
          obtain rfl := Option.some.inj hm
          exact EW.done (rs := [.tmp 2]) rfl (.tmp (t := 2) (v := .bool (decide (v12 = (a0_1.length : Int)))) rfl .nil) (fun _ hM => ⟨(), rfl, (hM.pick [] rfl rfl)⟩)

end Go.Proofs.Ytoepbakbpimkiaa
