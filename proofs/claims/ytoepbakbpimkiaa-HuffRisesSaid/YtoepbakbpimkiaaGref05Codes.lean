import Derived.Test.YtoepbakbpimkiaaN8
import Derived.Test.YtoepbakbpimkiaaProg
import Derived.Test.YtoepbakbpimkiaaGref04Power
set_option maxRecDepth 100000
set_option maxHeartbeats 1000000
namespace Go.Proofs.Ytoepbakbpimkiaa
open Go Go.RowKit K

def ref05_Codes_j1 (_ : Nat) (v39 : (List (Int × Int × Int))) : Option (Bool × (List (Int × Int × Int))) :=
  some (true, v39)

def ref05_Codes_j2 (_ : Nat) (cb_ref05_Codes_l1 : (List (Int × Int × Int)) → Int → Int → Option (Bool × (List (Int × Int × Int)))) (v49 : Int) (v56 : (List (Int × Int × Int))) (v58 : Int) : Option (Bool × (List (Int × Int × Int))) :=
  cb_ref05_Codes_l1 v56 v58 (w64 (v49 + 1))

def ref05_Codes_l2 (K : Nat) (cb_ref05_Codes_l1 : (List (Int × Int × Int)) → Int → Int → Option (Bool × (List (Int × Int × Int)))) (a0_0 : (Nat → Int)) (a0_1 : (List Int)) (v49 : Int) : Nat → (List (Int × Int × Int)) → Int → Int →  Option (Bool × (List (Int × Int × Int)))
  | 0, _, _, _ => none
  | k2 + 1, v63, v65, v66 =>
    (if 0 ≤ (w64 (v49 - 1)) ∧ (w64 (v49 - 1)) < 16 then (if v66 < (a0_0 ((w64 (v49 - 1)).toNat)) then ((ref04_Power K v49).bind fun r73 => (if (w64 (r73 - 2)) < v65 then some (false, ([] : List (Int × Int × Int))) else (if 0 ≤ (v63.length : Int) ∧ (v63.length : Int) < (a0_1.length : Int) then (if v63.length + ([((a0_1.getD ((v63.length : Int).toNat) 0), v65, v49)] : List (Int × Int × Int)).length ≤ 5864062014805 then (ref05_Codes_l2 K cb_ref05_Codes_l1 a0_0 a0_1 v49 k2) (v63 ++ ([((a0_1.getD ((v63.length : Int).toNat) 0), v65, v49)] : List (Int × Int × Int))) (w64 (v65 + 1)) (w64 (v66 + 1)) else none) else none))) else ref05_Codes_j2 K cb_ref05_Codes_l1 v49 v63 v65) else none)

def ref05_Codes_l1 (K : Nat) (a0_0 : (Nat → Int)) (a0_1 : (List Int)) : Nat → (List (Int × Int × Int)) → Int → Int →  Option (Bool × (List (Int × Int × Int)))
  | 0, _, _, _ => none
  | k1 + 1, v46, v48, v49 =>
    (if v49 ≤ 16 then ref05_Codes_l2 K (ref05_Codes_l1 K a0_0 a0_1 k1) a0_0 a0_1 v49 K v46 (w64 (v48 * 2)) 0 else ref05_Codes_j1 K v46)

def ref05_Codes_j3 (K : Nat) (a0_0 : (Nat → Int)) (a0_1 : (List Int)) : Option (Bool × (List (Int × Int × Int))) :=
  ref05_Codes_l1 K a0_0 a0_1 K ([] : List (Int × Int × Int)) 0 1

def ref05_Codes_j4 (_ : Nat) (cb_ref05_Codes_l3 : Int → Option (Bool × (List (Int × Int × Int)))) (v81 : Int) : Option (Bool × (List (Int × Int × Int))) :=
  cb_ref05_Codes_l3 (w64 (v81 + 1))

def ref05_Codes_l4 (K : Nat) (cb_ref05_Codes_l3 : Int → Option (Bool × (List (Int × Int × Int)))) (a0_1 : (List Int)) (v81 : Int) : Nat → Int →  Option (Bool × (List (Int × Int × Int)))
  | 0, _ => none
  | k4 + 1, v88 =>
    (if v88 < v81 then (if 0 ≤ v88 ∧ v88 < (a0_1.length : Int) then (if (a0_1.getD v88.toNat 0) = (a0_1.getD v81.toNat 0) then some (false, ([] : List (Int × Int × Int))) else (ref05_Codes_l4 K cb_ref05_Codes_l3 a0_1 v81 k4) (w64 (v88 + 1))) else none) else ref05_Codes_j4 K cb_ref05_Codes_l3 v81)

def ref05_Codes_l3 (K : Nat) (a0_0 : (Nat → Int)) (a0_1 : (List Int)) : Nat → Int →  Option (Bool × (List (Int × Int × Int)))
  | 0, _ => none
  | k3 + 1, v81 =>
    (if v81 < (a0_1.length : Int) then (if 0 ≤ v81 ∧ v81 < (a0_1.length : Int) then (if (a0_1.getD v81.toNat 0) < 0 then some (false, ([] : List (Int × Int × Int))) else (if 255 < (a0_1.getD v81.toNat 0) then some (false, ([] : List (Int × Int × Int))) else ref05_Codes_l4 K (ref05_Codes_l3 K a0_0 a0_1 k3) a0_1 v81 K 0)) else none) else ref05_Codes_j3 K a0_0 a0_1)

def ref05_Codes_j5 (K : Nat) (a0_0 : (Nat → Int)) (a0_1 : (List Int)) (v34 : Int) : Option (Bool × (List (Int × Int × Int))) :=
  (if ¬ v34 = (a0_1.length : Int) then some (false, ([] : List (Int × Int × Int))) else (if v34 < 1 then some (false, ([] : List (Int × Int × Int))) else (if 256 < v34 then some (false, ([] : List (Int × Int × Int))) else ref05_Codes_l3 K a0_0 a0_1 K 0)))

def ref05_Codes_l5 (K : Nat) (a0_0 : (Nat → Int)) (a0_1 : (List Int)) : Nat → Int → Int →  Option (Bool × (List (Int × Int × Int)))
  | 0, _, _ => none
  | k5 + 1, v95, v96 =>
    (if v96 < 16 then (if 0 ≤ v96 ∧ v96 < 16 then (if (a0_0 v96.toNat) < 0 then some (false, ([] : List (Int × Int × Int))) else (if 255 < (a0_0 v96.toNat) then some (false, ([] : List (Int × Int × Int))) else (ref05_Codes_l5 K a0_0 a0_1 k5) (w64 (v95 + (a0_0 v96.toNat))) (w64 (v96 + 1)))) else none) else ref05_Codes_j5 K a0_0 a0_1 v95)

def ref05_Codes (K : Nat) (a0_0 : (Nat → Int)) (a0_1 : (List Int)) : Option (Bool × (List (Int × Int × Int))) :=
  ref05_Codes_l5 K a0_0 a0_1 K 0 0

theorem c_ref05_Codes (K : Nat) (a0_0 : (Nat → Int)) (a0_1 : (List Int)) (sa0_1 : Value) (r : Bool × (List (Int × Int × Int))) (w0 : World) (S : Own) (hM0 : Mem w0 S [ro sa0_1 1 a0_1.length (ec e1 a0_1)] w0) (hm : ref05_Codes K a0_0 a0_1 = some r) : Calls Try.prog 14 #[.agg (cat [(16, (iv a0_0)), p1 (sa0_1)])] w0 fun e w' => ∃ u : Value, e = .returned (.tuple #[u, .bool r.1]) ∧ Mem w0 S [.row u 39 3 r.2.length (ec e3 r.2)] w' := by
  unfold ref05_Codes at hm
  refine calls_CW (n := 119) w0 S [ro sa0_1 1 a0_1.length (ec e1 a0_1)] Try.func14 rfl rfl rfl hM0 ?_
  refine CW.seq ?_
  refine CW.region ?_
  refine RW.box (v := .agg (cat [(16, (iv a0_0)), p1 (sa0_1)])) rfl rfl rfl (fun b33 => ?_)
  refine RW.yi (.slice none 0 0) rfl rfl (Yi.pv _ rfl) ?_
  refine RW.yi (.bool false) rfl rfl (Yi.pv _ rfl) ?_
  refine RW.nil ?_
  refine EW.next ?_
  refine CW.seq ?_
  refine CW.region ?_
  refine RW.yi (.int .i64 0) rfl rfl (Yi.pv _ rfl) ?_
  refine RW.nil ?_
  refine EW.next ?_
  refine CW.join (fun a w => ∃ (v34 : Int), St 119 [(1, .pointer (some ⟨b33, 0, none⟩)), (4, .int .i64 v34)] a ∧ Mem w0 S [.blk b33 25 (cat [(16, (iv a0_0)), p1 (sa0_1)]), ro sa0_1 1 a0_1.length (ec e1 a0_1)] w ∧ ref05_Codes_j5 K a0_0 a0_1 v34 = some r) ?_ ?_
  · refine CW.seq ?_
    refine CW.region ?_
    refine RW.yi (.int .i64 0) rfl rfl (Yi.pv _ rfl) ?_
    refine RW.nil ?_
    refine EW.next ?_
    refine CW.block ?_
    refine CW.loop (fun k a w => ∃ (v95 : Int) (v96 : Int), St 119 [(1, .pointer (some ⟨b33, 0, none⟩)), (4, .int .i64 v95), (5, .int .i64 v96)] a ∧ Mem w0 S [.blk b33 25 (cat [(16, (iv a0_0)), p1 (sa0_1)]), ro sa0_1 1 a0_1.length (ec e1 a0_1)] w ∧ ref05_Codes_l5 K a0_0 a0_1 k v95 v96 = some r) K ?_ ?_ ?_
    · rintro a w ⟨_, _, _, _, hm⟩
      rw [ref05_Codes_l5.eq_1] at hm
      cases hm
    · exact fun a w hs hM => ⟨0, 0, hs.sub ⟨rfl, rfl, rfl, trivial⟩, (hM.pick [0, 1] rfl rfl), hm⟩
    · rintro k5 a w ⟨v95, v96, hs, hM, hm⟩
      rw [ref05_Codes_l5.eq_2] at hm
      refine CW.enter hs hM ?_
      refine CW.seq ?_
      refine CW.seq ?_
      refine CW.region ?_
      refine RW.yi (.int .i64 v96) rfl rfl (Yi.pv _ rfl) ?_
      refine RW.yi (.bool (decide (v96 < 16))) rfl rfl (Yi.pv _ rfl) ?_
      refine RW.nil ?_
      refine EW.next ?_
      refine CW.fork 13 (v96 < 16) rfl (fun h99 => ?_) (fun h99 => ?_)
      · replace hm := (if_pos h99).symm.trans hm
        refine CW.cond_true rfl ?_
        refine CW.skip ?_
        refine EW.next ?_
        refine CW.seq ?_
        refine CW.block ?_
        refine CW.seq ?_
        refine CW.seq ?_
        refine CW.region ?_
        refine RW.yi (.int .i64 v96) rfl rfl (Yi.pv _ rfl) ?_
        refine RW.yi (.pointer (some ⟨b33, 0, none⟩)) rfl rfl (Yi.fieldAddr (j := 0) Try.underlying25 rfl Try.sizeOf22 rfl) ?_
        obtain ⟨g100, hm⟩ := of_guard hm
        refine RW.yi (.pointer (some ⟨b33, v96.toNat, none⟩)) rfl rfl (Yi.indexAddr' _ Try.underlying22 Try.sizeOf3 rfl rfl g100.1 g100.2 (by omega)) ?_
        refine RW.yi (.int .i64 (a0_0 v96.toNat)) rfl rfl (Yi.load1 (i := 0) _ rfl rfl Try.isAgg3 (cat_get' (ps := [(16, (iv a0_0)), p1 (sa0_1)]) (i := v96.toNat) 0 rfl (by omega) (show 0 + (v96.toNat) = v96.toNat by omega))) ?_
        refine RW.yi (.bool (decide ((a0_0 v96.toNat) < 0))) rfl rfl (Yi.pv _ rfl) ?_
        refine RW.yi (.bool (decide ((a0_0 v96.toNat) < 0))) rfl rfl (Yi.pv _ rfl) ?_
        refine RW.fork 21 ((a0_0 v96.toNat) < 0) rfl (fun h101 => ?_) (fun h101 => ?_)
        · replace hm := (if_pos h101).symm.trans hm
          refine RW.pass rfl rfl ?_
          refine RW.pass rfl rfl ?_
          refine RW.pass rfl rfl ?_
          refine RW.pass rfl rfl ?_
          refine RW.pass rfl rfl ?_
          refine RW.yi (.bool true) rfl rfl (Yi.pv _ rfl) ?_
          refine RW.nil ?_
          refine EW.next ?_
          refine CW.cond_true rfl ?_
          refine CW.seq ?_
          refine CW.region ?_
          refine RW.yi (.slice none 0 0) rfl rfl (Yi.pv _ rfl) ?_
          refine RW.yi (.bool false) rfl rfl (Yi.pv _ rfl) ?_
          refine RW.nil ?_
          refine EW.next ?_
          refine CW.ret ?_
          refine EW.thr ?_
          refine EW.blr ?_
          refine EW.thr ?_
          refine EW.thr ?_
          refine EW.blr ?_
          refine EW.thr ?_
          obtain rfl := Option.some.inj hm
          exact EW.done (rs := [.tmp 2, .tmp 3]) rfl (.tmp (t := 2) (v := .slice none 0 0) rfl (.tmp (t := 3) (v := .bool false) rfl .nil)) (fun _ hM => ⟨((.slice none 0 0)), rfl, ((hM.nilRow 39 3).pick [0] rfl rfl)⟩)
        · replace hm := (if_neg h101).symm.trans hm
          refine RW.yi (.int .i64 v96) rfl rfl (Yi.pv _ rfl) ?_
          refine RW.yi (.pointer (some ⟨b33, 0, none⟩)) rfl rfl (Yi.fieldAddr (j := 0) Try.underlying25 rfl Try.sizeOf22 rfl) ?_
          refine RW.yi (.pointer (some ⟨b33, v96.toNat, none⟩)) rfl rfl (Yi.indexAddr' _ Try.underlying22 Try.sizeOf3 rfl rfl g100.1 g100.2 (by omega)) ?_
          refine RW.yi (.int .i64 (a0_0 v96.toNat)) rfl rfl (Yi.load1 (i := 0) _ rfl rfl Try.isAgg3 (cat_get' (ps := [(16, (iv a0_0)), p1 (sa0_1)]) (i := v96.toNat) 0 rfl (by omega) (show 0 + (v96.toNat) = v96.toNat by omega))) ?_
          refine RW.yi (.bool (decide (255 < (a0_0 v96.toNat)))) rfl rfl (Yi.pv _ rfl) ?_
          refine RW.yi (.bool (decide (255 < (a0_0 v96.toNat)))) rfl rfl (Yi.pv _ rfl) ?_
          refine RW.nil ?_
          refine EW.next ?_
          refine CW.fork 27 (255 < (a0_0 v96.toNat)) rfl (fun h102 => ?_) (fun h102 => ?_)
          · replace hm := (if_pos h102).symm.trans hm
            refine CW.cond_true rfl ?_
            refine CW.seq ?_
            refine CW.region ?_
            refine RW.yi (.slice none 0 0) rfl rfl (Yi.pv _ rfl) ?_
            refine RW.yi (.bool false) rfl rfl (Yi.pv _ rfl) ?_
            refine RW.nil ?_
            refine EW.next ?_
            refine CW.ret ?_
            refine EW.thr ?_
            refine EW.blr ?_
            refine EW.thr ?_
            refine EW.thr ?_
            refine EW.blr ?_
            refine EW.thr ?_
            obtain rfl := Option.some.inj hm
            exact EW.done (rs := [.tmp 2, .tmp 3]) rfl (.tmp (t := 2) (v := .slice none 0 0) rfl (.tmp (t := 3) (v := .bool false) rfl .nil)) (fun _ hM => ⟨((.slice none 0 0)), rfl, ((hM.nilRow 39 3).pick [0] rfl rfl)⟩)
          · replace hm := (if_neg h102).symm.trans hm
            refine CW.cond_false rfl ?_
            refine CW.skip ?_
            refine EW.next ?_
            refine CW.region ?_
            refine RW.yi (.int .i64 v95) rfl rfl (Yi.pv _ rfl) ?_
            refine RW.yi (.int .i64 v96) rfl rfl (Yi.pv _ rfl) ?_
            refine RW.yi (.pointer (some ⟨b33, 0, none⟩)) rfl rfl (Yi.fieldAddr (j := 0) Try.underlying25 rfl Try.sizeOf22 rfl) ?_
            refine RW.yi (.pointer (some ⟨b33, v96.toNat, none⟩)) rfl rfl (Yi.indexAddr' _ Try.underlying22 Try.sizeOf3 rfl rfl g100.1 g100.2 (by omega)) ?_
            refine RW.yi (.int .i64 (a0_0 v96.toNat)) rfl rfl (Yi.load1 (i := 0) _ rfl rfl Try.isAgg3 (cat_get' (ps := [(16, (iv a0_0)), p1 (sa0_1)]) (i := v96.toNat) 0 rfl (by omega) (show 0 + (v96.toNat) = v96.toNat by omega))) ?_
            refine RW.yi (.int .i64 (w64 (v95 + (a0_0 v96.toNat)))) rfl rfl (Yi.pv _ rfl) ?_
            refine RW.yi (.int .i64 (w64 (v95 + (a0_0 v96.toNat)))) rfl rfl (Yi.pv _ rfl) ?_
            refine RW.nil ?_
            refine EW.bln ?_
            refine EW.next ?_
            refine CW.region ?_
            refine RW.yi (.int .i64 v96) rfl rfl (Yi.pv _ rfl) ?_
            refine RW.yi (.int .i64 (w64 (v96 + 1))) rfl rfl (Yi.pv _ rfl) ?_
            refine RW.yi (.int .i64 (w64 (v96 + 1))) rfl rfl (Yi.pv _ rfl) ?_
            refine RW.nil ?_
            refine EW.thn ?_
            exact fun a w hs hM => ⟨(w64 (v95 + (a0_0 v96.toNat))), (w64 (v96 + 1)), hs.sub ⟨rfl, rfl, rfl, trivial⟩, (hM.pick [0, 1] rfl rfl), hm⟩
      · replace hm := (if_neg h99).symm.trans hm
        refine CW.cond_false rfl ?_
        refine CW.exit ?_
        refine EW.thx ?_
        refine EW.thx ?_
        refine EW.blx ?_
        refine EW.thn ?_
        exact fun a w hs hM => ⟨v95, hs.sub ⟨rfl, rfl, trivial⟩, (hM.pick [0, 1] rfl rfl), hm⟩
  · rintro a w ⟨v34, hs, hM, hm⟩
    unfold ref05_Codes_j5 at hm
    refine CW.enter hs hM ?_
    refine CW.seq ?_
    refine CW.seq ?_
    refine CW.region ?_
    refine RW.yi (.int .i64 v34) rfl rfl (Yi.pv _ rfl) ?_
    refine RW.yi (.pointer (some ⟨b33, 16, none⟩)) rfl rfl (Yi.fieldAddr (j := 1) Try.underlying25 rfl Try.sizeOf23 rfl) ?_
    refine RW.yi (sa0_1) rfl rfl (Yi.load1 (i := 0) _ rfl rfl Try.isAgg23 (cat_get1 (ps := [(16, (iv a0_0)), p1 (sa0_1)]) 1 rfl rfl)) ?_
    refine RW.yi (.int .i64 (a0_1.length : Int)) rfl rfl (Yi.lenS (cs := ec e1 a0_1) (m := a0_1.length) Try.underlying23 rfl (rdF 1 rfl)) ?_
    refine RW.yi (.bool (decide (¬ v34 = (a0_1.length : Int)))) rfl rfl (Yi.pv _ rfl) ?_
    refine RW.yi (.bool (decide (¬ v34 = (a0_1.length : Int)))) rfl rfl (Yi.pv _ rfl) ?_
    refine RW.fork 39 (¬ v34 = (a0_1.length : Int)) rfl (fun h35 => ?_) (fun h35 => ?_)
    · replace hm := (if_pos h35).symm.trans hm
      refine RW.pass rfl rfl ?_
      refine RW.pass rfl rfl ?_
      refine RW.yi (.bool true) rfl rfl (Yi.pv _ rfl) ?_
      refine RW.yi (.bool true) rfl rfl (Yi.pv _ rfl) ?_
      refine RW.pass rfl rfl ?_
      refine RW.pass rfl rfl ?_
      refine RW.yi (.bool true) rfl rfl (Yi.pv _ rfl) ?_
      refine RW.nil ?_
      refine EW.next ?_
      refine CW.cond_true rfl ?_
      refine CW.seq ?_
      refine CW.region ?_
      refine RW.yi (.slice none 0 0) rfl rfl (Yi.pv _ rfl) ?_
      refine RW.yi (.bool false) rfl rfl (Yi.pv _ rfl) ?_
      refine RW.nil ?_
      refine EW.next ?_
      refine CW.ret ?_
      refine EW.thr ?_
      obtain rfl := Option.some.inj hm
      exact EW.done (rs := [.tmp 2, .tmp 3]) rfl (.tmp (t := 2) (v := .slice none 0 0) rfl (.tmp (t := 3) (v := .bool false) rfl .nil)) (fun _ hM => ⟨((.slice none 0 0)), rfl, ((hM.nilRow 39 3).pick [0] rfl rfl)⟩)
    · replace hm := (if_neg h35).symm.trans hm
      refine RW.yi (.int .i64 v34) rfl rfl (Yi.pv _ rfl) ?_
      refine RW.yi (.bool (decide (v34 < 1))) rfl rfl (Yi.pv _ rfl) ?_
      refine RW.yi (.bool (decide (v34 < 1))) rfl rfl (Yi.pv _ rfl) ?_
      refine RW.yi (.bool (decide (v34 < 1))) rfl rfl (Yi.pv _ rfl) ?_
      refine RW.fork 43 (v34 < 1) rfl (fun h36 => ?_) (fun h36 => ?_)
      · replace hm := (if_pos h36).symm.trans hm
        refine RW.pass rfl rfl ?_
        refine RW.pass rfl rfl ?_
        refine RW.yi (.bool true) rfl rfl (Yi.pv _ rfl) ?_
        refine RW.nil ?_
        refine EW.next ?_
        refine CW.cond_true rfl ?_
        refine CW.seq ?_
        refine CW.region ?_
        refine RW.yi (.slice none 0 0) rfl rfl (Yi.pv _ rfl) ?_
        refine RW.yi (.bool false) rfl rfl (Yi.pv _ rfl) ?_
        refine RW.nil ?_
        refine EW.next ?_
        refine CW.ret ?_
        refine EW.thr ?_
        obtain rfl := Option.some.inj hm
        exact EW.done (rs := [.tmp 2, .tmp 3]) rfl (.tmp (t := 2) (v := .slice none 0 0) rfl (.tmp (t := 3) (v := .bool false) rfl .nil)) (fun _ hM => ⟨((.slice none 0 0)), rfl, ((hM.nilRow 39 3).pick [0] rfl rfl)⟩)
      · replace hm := (if_neg h36).symm.trans hm
        refine RW.yi (.int .i64 v34) rfl rfl (Yi.pv _ rfl) ?_
        refine RW.yi (.bool (decide (256 < v34))) rfl rfl (Yi.pv _ rfl) ?_
        refine RW.yi (.bool (decide (256 < v34))) rfl rfl (Yi.pv _ rfl) ?_
        refine RW.nil ?_
        refine EW.next ?_
        refine CW.fork 46 (256 < v34) rfl (fun h37 => ?_) (fun h37 => ?_)
        · replace hm := (if_pos h37).symm.trans hm
          refine CW.cond_true rfl ?_
          refine CW.seq ?_
          refine CW.region ?_
          refine RW.yi (.slice none 0 0) rfl rfl (Yi.pv _ rfl) ?_
          refine RW.yi (.bool false) rfl rfl (Yi.pv _ rfl) ?_
          refine RW.nil ?_
          refine EW.next ?_
          refine CW.ret ?_
          refine EW.thr ?_
          obtain rfl := Option.some.inj hm
          exact EW.done (rs := [.tmp 2, .tmp 3]) rfl (.tmp (t := 2) (v := .slice none 0 0) rfl (.tmp (t := 3) (v := .bool false) rfl .nil)) (fun _ hM => ⟨((.slice none 0 0)), rfl, ((hM.nilRow 39 3).pick [0] rfl rfl)⟩)
        · replace hm := (if_neg h37).symm.trans hm
          refine CW.cond_false rfl ?_
          refine CW.skip ?_
          refine EW.next ?_
          refine CW.join (fun a w => St 119 [(1, .pointer (some ⟨b33, 0, none⟩))] a ∧ Mem w0 S [.blk b33 25 (cat [(16, (iv a0_0)), p1 (sa0_1)]), ro sa0_1 1 a0_1.length (ec e1 a0_1)] w ∧ ref05_Codes_j3 K a0_0 a0_1 = some r) ?_ ?_
          · refine CW.seq ?_
            refine CW.region ?_
            refine RW.yi (.int .i64 0) rfl rfl (Yi.pv _ rfl) ?_
            refine RW.nil ?_
            refine EW.next ?_
            refine CW.block ?_
            refine CW.loop (fun k a w => ∃ (v81 : Int), St 119 [(1, .pointer (some ⟨b33, 0, none⟩)), (6, .int .i64 v81)] a ∧ Mem w0 S [.blk b33 25 (cat [(16, (iv a0_0)), p1 (sa0_1)]), ro sa0_1 1 a0_1.length (ec e1 a0_1)] w ∧ ref05_Codes_l3 K a0_0 a0_1 k v81 = some r) K ?_ ?_ ?_
            · rintro a w ⟨_, _, _, hm⟩
              rw [ref05_Codes_l3.eq_1] at hm
              cases hm
            · exact fun a w hs hM => ⟨0, hs.sub ⟨rfl, rfl, trivial⟩, (hM.pick [0, 1] rfl rfl), hm⟩
            · rintro k3 a w ⟨v81, hs, hM, hm⟩
              rw [ref05_Codes_l3.eq_2] at hm
              refine CW.enter hs hM ?_
              refine CW.seq ?_
              refine CW.seq ?_
              refine CW.region ?_
              refine RW.yi (.int .i64 v81) rfl rfl (Yi.pv _ rfl) ?_
              refine RW.yi (.pointer (some ⟨b33, 16, none⟩)) rfl rfl (Yi.fieldAddr (j := 1) Try.underlying25 rfl Try.sizeOf23 rfl) ?_
              refine RW.yi (sa0_1) rfl rfl (Yi.load1 (i := 0) _ rfl rfl Try.isAgg23 (cat_get1 (ps := [(16, (iv a0_0)), p1 (sa0_1)]) 1 rfl rfl)) ?_
              refine RW.yi (.int .i64 (a0_1.length : Int)) rfl rfl (Yi.lenS (cs := ec e1 a0_1) (m := a0_1.length) Try.underlying23 rfl (rdF 1 rfl)) ?_
              refine RW.yi (.bool (decide (v81 < (a0_1.length : Int)))) rfl rfl (Yi.pv _ rfl) ?_
              refine RW.nil ?_
              refine EW.next ?_
              refine CW.fork 51 (v81 < (a0_1.length : Int)) rfl (fun h83 => ?_) (fun h83 => ?_)
              · replace hm := (if_pos h83).symm.trans hm
                refine CW.cond_true rfl ?_
                refine CW.skip ?_
                refine EW.next ?_
                refine CW.join (fun a w => St 119 [(1, .pointer (some ⟨b33, 0, none⟩)), (6, .int .i64 v81), (61, .pointer (some ⟨b33, 16, none⟩)), (62, sa0_1), (63, .int .i64 v81), (65, .int .i64 (a0_1.getD v81.toNat 0)), (66, .bool (decide (255 < (a0_1.getD v81.toNat 0))))] a ∧ Mem w0 S [.blk b33 25 (cat [(16, (iv a0_0)), p1 (sa0_1)]), ro sa0_1 1 a0_1.length (ec e1 a0_1)] w ∧ ref05_Codes_j4 K (ref05_Codes_l3 K a0_0 a0_1 k3) v81 = some r) ?_ ?_
                · refine CW.block ?_
                  refine CW.seq ?_
                  refine CW.seq ?_
                  refine CW.region ?_
                  refine RW.yi (.pointer (some ⟨b33, 16, none⟩)) rfl rfl (Yi.fieldAddr (j := 1) Try.underlying25 rfl Try.sizeOf23 rfl) ?_
                  refine RW.yi (sa0_1) rfl rfl (Yi.load1 (i := 0) _ rfl rfl Try.isAgg23 (cat_get1 (ps := [(16, (iv a0_0)), p1 (sa0_1)]) 1 rfl rfl)) ?_
                  refine RW.yi (.int .i64 v81) rfl rfl (Yi.pv _ rfl) ?_
                  obtain ⟨g84, hm⟩ := of_guard hm
                  refine RW.yi (.pointer (some (eaddr sa0_1 1 v81.toNat 0))) rfl rfl (Yi.idxS (m := a0_1.length) Try.underlying23 Try.sizeOf3 rfl rfl (rdF 1 rfl) g84.1 g84.2) ?_
                  refine RW.yi (.int .i64 (a0_1.getD v81.toNat 0)) rfl rfl (Yi.loadS (m := a0_1.length) (cs := ec e1 a0_1) _ rfl (rdF 1 rfl) Try.isAgg3 (by omega) (by omega) (by rw [ec_get (d := 0) e1_is (by omega) (by decide)]; rfl)) ?_
                  refine RW.yi (.bool (decide ((a0_1.getD v81.toNat 0) < 0))) rfl rfl (Yi.pv _ rfl) ?_
                  refine RW.yi (.bool (decide ((a0_1.getD v81.toNat 0) < 0))) rfl rfl (Yi.pv _ rfl) ?_
                  refine RW.fork 60 ((a0_1.getD v81.toNat 0) < 0) rfl (fun h85 => ?_) (fun h85 => ?_)
                  · replace hm := (if_pos h85).symm.trans hm
                    refine RW.pass rfl rfl ?_
                    refine RW.pass rfl rfl ?_
                    refine RW.pass rfl rfl ?_
                    refine RW.pass rfl rfl ?_
                    refine RW.pass rfl rfl ?_
                    refine RW.pass rfl rfl ?_
                    refine RW.yi (.bool true) rfl rfl (Yi.pv _ rfl) ?_
                    refine RW.nil ?_
                    refine EW.next ?_
                    refine CW.cond_true rfl ?_
                    refine CW.seq ?_
                    refine CW.region ?_
                    refine RW.yi (.slice none 0 0) rfl rfl (Yi.pv _ rfl) ?_
                    refine RW.yi (.bool false) rfl rfl (Yi.pv _ rfl) ?_
                    refine RW.nil ?_
                    refine EW.next ?_
                    refine CW.ret ?_
                    refine EW.thr ?_
                    refine EW.blr ?_
                    refine EW.thr ?_
                    refine EW.thr ?_
                    refine EW.blr ?_
                    refine EW.thr ?_
                    obtain rfl := Option.some.inj hm
                    exact EW.done (rs := [.tmp 2, .tmp 3]) rfl (.tmp (t := 2) (v := .slice none 0 0) rfl (.tmp (t := 3) (v := .bool false) rfl .nil)) (fun _ hM => ⟨((.slice none 0 0)), rfl, ((hM.nilRow 39 3).pick [0] rfl rfl)⟩)
                  · replace hm := (if_neg h85).symm.trans hm
                    refine RW.yi (.pointer (some ⟨b33, 16, none⟩)) rfl rfl (Yi.fieldAddr (j := 1) Try.underlying25 rfl Try.sizeOf23 rfl) ?_
                    refine RW.yi (sa0_1) rfl rfl (Yi.load1 (i := 0) _ rfl rfl Try.isAgg23 (cat_get1 (ps := [(16, (iv a0_0)), p1 (sa0_1)]) 1 rfl rfl)) ?_
                    refine RW.yi (.int .i64 v81) rfl rfl (Yi.pv _ rfl) ?_
                    refine RW.yi (.pointer (some (eaddr sa0_1 1 v81.toNat 0))) rfl rfl (Yi.idxS (m := a0_1.length) Try.underlying23 Try.sizeOf3 rfl rfl (rdF 1 rfl) g84.1 g84.2) ?_
                    refine RW.yi (.int .i64 (a0_1.getD v81.toNat 0)) rfl rfl (Yi.loadS (m := a0_1.length) (cs := ec e1 a0_1) _ rfl (rdF 1 rfl) Try.isAgg3 (by omega) (by omega) (by rw [ec_get (d := 0) e1_is (by omega) (by decide)]; rfl)) ?_
                    refine RW.yi (.bool (decide (255 < (a0_1.getD v81.toNat 0)))) rfl rfl (Yi.pv _ rfl) ?_
                    refine RW.yi (.bool (decide (255 < (a0_1.getD v81.toNat 0)))) rfl rfl (Yi.pv _ rfl) ?_
                    refine RW.nil ?_
                    refine EW.next ?_
                    refine CW.fork 67 (255 < (a0_1.getD v81.toNat 0)) rfl (fun h86 => ?_) (fun h86 => ?_)
                    · replace hm := (if_pos h86).symm.trans hm
                      refine CW.cond_true rfl ?_
                      refine CW.seq ?_
                      refine CW.region ?_
                      refine RW.yi (.slice none 0 0) rfl rfl (Yi.pv _ rfl) ?_
                      refine RW.yi (.bool false) rfl rfl (Yi.pv _ rfl) ?_
                      refine RW.nil ?_
                      refine EW.next ?_
                      refine CW.ret ?_
                      refine EW.thr ?_
                      refine EW.blr ?_
                      refine EW.thr ?_
                      refine EW.thr ?_
                      refine EW.blr ?_
                      refine EW.thr ?_
                      obtain rfl := Option.some.inj hm
                      exact EW.done (rs := [.tmp 2, .tmp 3]) rfl (.tmp (t := 2) (v := .slice none 0 0) rfl (.tmp (t := 3) (v := .bool false) rfl .nil)) (fun _ hM => ⟨((.slice none 0 0)), rfl, ((hM.nilRow 39 3).pick [0] rfl rfl)⟩)
                    · replace hm := (if_neg h86).symm.trans hm
                      refine CW.cond_false rfl ?_
                      refine CW.skip ?_
                      refine EW.next ?_
                      refine CW.seq ?_
                      refine CW.region ?_
                      refine RW.yi (.int .i64 0) rfl rfl (Yi.pv _ rfl) ?_
                      refine RW.nil ?_
                      refine EW.next ?_
                      refine CW.block ?_
                      refine CW.loop (fun k a w => ∃ (v88 : Int), St 119 [(1, .pointer (some ⟨b33, 0, none⟩)), (6, .int .i64 v81), (7, .int .i64 v88), (61, .pointer (some ⟨b33, 16, none⟩)), (62, sa0_1), (63, .int .i64 v81), (65, .int .i64 (a0_1.getD v81.toNat 0)), (66, .bool (decide (255 < (a0_1.getD v81.toNat 0))))] a ∧ Mem w0 S [.blk b33 25 (cat [(16, (iv a0_0)), p1 (sa0_1)]), ro sa0_1 1 a0_1.length (ec e1 a0_1)] w ∧ ref05_Codes_l4 K (ref05_Codes_l3 K a0_0 a0_1 k3) a0_1 v81 k v88 = some r) K ?_ ?_ ?_
                      · rintro a w ⟨_, _, _, hm⟩
                        rw [ref05_Codes_l4.eq_1] at hm
                        cases hm
                      · exact fun a w hs hM => ⟨0, hs.sub ⟨rfl, rfl, rfl, rfl, rfl, rfl, rfl, rfl, trivial⟩, (hM.pick [0, 1] rfl rfl), hm⟩
                      · rintro k4 a w ⟨v88, hs, hM, hm⟩
                        rw [ref05_Codes_l4.eq_2] at hm
                        refine CW.enter hs hM ?_
                        refine CW.seq ?_
                        refine CW.seq ?_
                        refine CW.region ?_
                        refine RW.yi (.int .i64 v88) rfl rfl (Yi.pv _ rfl) ?_
                        refine RW.yi (.int .i64 v81) rfl rfl (Yi.pv _ rfl) ?_
                        refine RW.yi (.bool (decide (v88 < v81))) rfl rfl (Yi.pv _ rfl) ?_
                        refine RW.nil ?_
                        refine EW.next ?_
                        refine CW.fork 70 (v88 < v81) rfl (fun h90 => ?_) (fun h90 => ?_)
                        · replace hm := (if_pos h90).symm.trans hm
                          refine CW.cond_true rfl ?_
                          refine CW.skip ?_
                          refine EW.next ?_
                          refine CW.seq ?_
                          refine CW.block ?_
                          refine CW.seq ?_
                          refine CW.draws (by kernel_rfl) (by kernel_rfl) ?_
                          refine QW.yi (.pointer (some ⟨b33, 16, none⟩)) rfl rfl (Yi.fieldAddr (j := 1) Try.underlying25 rfl Try.sizeOf23 rfl) ?_
                          refine QW.yi (sa0_1) rfl rfl (Yi.load1 (i := 0) _ rfl rfl Try.isAgg23 (cat_get1 (ps := [(16, (iv a0_0)), p1 (sa0_1)]) 1 rfl rfl)) ?_
                          refine QW.yi (.int .i64 v88) rfl rfl (Yi.pv _ rfl) ?_
                          obtain ⟨g91, hm⟩ := of_guard hm
                          refine QW.yi (.pointer (some (eaddr sa0_1 1 v88.toNat 0))) rfl rfl (Yi.idxS (m := a0_1.length) Try.underlying23 Try.sizeOf3 rfl rfl (rdF 1 rfl) g91.1 g91.2) ?_
                          refine QW.yi (.int .i64 (a0_1.getD v88.toNat 0)) rfl rfl (Yi.loadS (m := a0_1.length) (cs := ec e1 a0_1) _ rfl (rdF 1 rfl) Try.isAgg3 (by omega) (by omega) (by rw [ec_get (d := 0) e1_is (by omega) (by decide)]; rfl)) ?_
                          refine QW.yi (.pointer (some ⟨b33, 16, none⟩)) rfl rfl (Yi.fieldAddr (j := 1) Try.underlying25 rfl Try.sizeOf23 rfl) ?_
                          refine QW.yi (sa0_1) rfl rfl (Yi.load1 (i := 0) _ rfl rfl Try.isAgg23 (cat_get1 (ps := [(16, (iv a0_0)), p1 (sa0_1)]) 1 rfl rfl)) ?_
                          refine QW.yi (.int .i64 v81) rfl rfl (Yi.pv _ rfl) ?_
                          refine QW.yi (.pointer (some (eaddr sa0_1 1 v81.toNat 0))) rfl rfl (Yi.idxS (m := a0_1.length) Try.underlying23 Try.sizeOf3 rfl rfl (rdF 1 rfl) g84.1 g84.2) ?_
                          refine QW.yi (.int .i64 (a0_1.getD v81.toNat 0)) rfl rfl (Yi.loadS (m := a0_1.length) (cs := ec e1 a0_1) _ rfl (rdF 1 rfl) Try.isAgg3 (by omega) (by omega) (by rw [ec_get (d := 0) e1_is (by omega) (by decide)]; rfl)) ?_
                          refine QW.yi (.bool (decide ((a0_1.getD v88.toNat 0) = (a0_1.getD v81.toNat 0)))) rfl rfl (Yi.pv _ rfl) ?_
                          refine QW.nil ?_
                          refine EW.next ?_
                          refine CW.fork 83 ((a0_1.getD v88.toNat 0) = (a0_1.getD v81.toNat 0)) rfl (fun h92 => ?_) (fun h92 => ?_)
                          · replace hm := (if_pos h92).symm.trans hm
                            refine CW.cond_true rfl ?_
                            refine CW.seq ?_
                            refine CW.region ?_
                            refine RW.yi (.slice none 0 0) rfl rfl (Yi.pv _ rfl) ?_
                            refine RW.yi (.bool false) rfl rfl (Yi.pv _ rfl) ?_
                            refine RW.nil ?_
                            refine EW.next ?_
                            refine CW.ret ?_
                            refine EW.blr ?_
                            refine EW.thr ?_
                            refine EW.thr ?_
                            refine EW.blr ?_
                            refine EW.blr ?_
                            refine EW.thr ?_
                            refine EW.thr ?_
                            refine EW.blr ?_
                            refine EW.thr ?_
                            obtain rfl := Option.some.inj hm
                            exact EW.done (rs := [.tmp 2, .tmp 3]) rfl (.tmp (t := 2) (v := .slice none 0 0) rfl (.tmp (t := 3) (v := .bool false) rfl .nil)) (fun _ hM => ⟨((.slice none 0 0)), rfl, ((hM.nilRow 39 3).pick [0] rfl rfl)⟩)
                          · replace hm := (if_neg h92).symm.trans hm
                            refine CW.cond_false rfl ?_
                            refine CW.skip ?_
                            refine EW.bln ?_
                            refine EW.next ?_
                            refine CW.region ?_
                            refine RW.yi (.int .i64 v88) rfl rfl (Yi.pv _ rfl) ?_
                            refine RW.yi (.int .i64 (w64 (v88 + 1))) rfl rfl (Yi.pv _ rfl) ?_
                            refine RW.yi (.int .i64 (w64 (v88 + 1))) rfl rfl (Yi.pv _ rfl) ?_
                            refine RW.nil ?_
                            refine EW.thn ?_
                            exact fun a w hs hM => ⟨(w64 (v88 + 1)), hs.sub ⟨rfl, rfl, rfl, rfl, rfl, rfl, rfl, rfl, trivial⟩, (hM.pick [0, 1] rfl rfl), hm⟩
                        · replace hm := (if_neg h90).symm.trans hm
                          refine CW.cond_false rfl ?_
                          refine CW.exit ?_
                          refine EW.thx ?_
                          refine EW.thx ?_
                          refine EW.blx ?_
                          refine EW.bln ?_
                          refine EW.thn ?_
                          exact fun a w hs hM => ⟨hs.sub ⟨rfl, rfl, rfl, rfl, rfl, rfl, rfl, trivial⟩, (hM.pick [0, 1] rfl rfl), hm⟩
                · rintro a w ⟨hs, hM, hm⟩
                  unfold ref05_Codes_j4 at hm
                  refine CW.enter hs hM ?_
                  refine CW.region ?_
                  refine RW.yi (.int .i64 v81) rfl rfl (Yi.pv _ rfl) ?_
                  refine RW.yi (.int .i64 (w64 (v81 + 1))) rfl rfl (Yi.pv _ rfl) ?_
                  refine RW.yi (.int .i64 (w64 (v81 + 1))) rfl rfl (Yi.pv _ rfl) ?_
                  refine RW.nil ?_
                  refine EW.thn ?_
                  exact fun a w hs hM => ⟨(w64 (v81 + 1)), hs.sub ⟨rfl, rfl, trivial⟩, (hM.pick [0, 1] rfl rfl), hm⟩
              · replace hm := (if_neg h83).symm.trans hm
                refine CW.cond_false rfl ?_
                refine CW.exit ?_
                refine EW.thx ?_
                refine EW.thx ?_
                refine EW.blx ?_
                refine EW.thn ?_
                exact fun a w hs hM => ⟨hs.sub ⟨rfl, trivial⟩, (hM.pick [0, 1] rfl rfl), hm⟩
          · rintro a w ⟨hs, hM, hm⟩
            unfold ref05_Codes_j3 at hm
            refine CW.enter hs hM ?_
            refine CW.seq ?_
            refine CW.region ?_
            refine RW.yi (.slice none 0 0) rfl rfl (Yi.pv _ rfl) ?_
            refine RW.nil ?_
            refine EW.next ?_
            refine CW.seq ?_
            refine CW.region ?_
            refine RW.yi (.int .i64 0) rfl rfl (Yi.pv _ rfl) ?_
            refine RW.nil ?_
            refine EW.next ?_
            refine CW.join (fun a w => ∃ (v39 : (List (Int × Int × Int))) (s40 : Value), St 119 [(8, s40)] a ∧ Mem w0 S [.row s40 39 3 v39.length (ec e3 v39)] w ∧ ref05_Codes_j1 K v39 = some r) ?_ ?_
            · refine CW.seq ?_
              refine CW.region ?_
              refine RW.yi (.int .i64 1) rfl rfl (Yi.pv _ rfl) ?_
              refine RW.nil ?_
              refine EW.next ?_
              refine CW.block ?_
              refine CW.loop (fun k a w => ∃ (v46 : (List (Int × Int × Int))) (v48 : Int) (v49 : Int) (s47 : Value), St 119 [(1, .pointer (some ⟨b33, 0, none⟩)), (8, s47), (9, .int .i64 v48), (10, .int .i64 v49)] a ∧ Mem w0 S [.blk b33 25 (cat [(16, (iv a0_0)), p1 (sa0_1)]), ro sa0_1 1 a0_1.length (ec e1 a0_1), .row s47 39 3 v46.length (ec e3 v46)] w ∧ ref05_Codes_l1 K a0_0 a0_1 k v46 v48 v49 = some r) K ?_ ?_ ?_
              · rintro a w ⟨_, _, _, _, _, _, hm⟩
                rw [ref05_Codes_l1.eq_1] at hm
                cases hm
              · exact fun a w hs hM => ⟨([] : List (Int × Int × Int)), 0, 1, (.slice none 0 0), hs.sub ⟨rfl, rfl, rfl, rfl, trivial⟩, ((hM.nilRow 39 3).pick [1, 2, 0] rfl rfl), hm⟩
              · rintro k1 a w ⟨v46, v48, v49, s47, hs, hM, hm⟩
                rw [ref05_Codes_l1.eq_2] at hm
                refine CW.enter hs hM ?_
                refine CW.seq ?_
                refine CW.seq ?_
                refine CW.region ?_
                refine RW.yi (.int .i64 v49) rfl rfl (Yi.pv _ rfl) ?_
                refine RW.yi (.bool (decide (v49 ≤ 16))) rfl rfl (Yi.pv _ rfl) ?_
                refine RW.nil ?_
                refine EW.next ?_
                refine CW.fork 85 (v49 ≤ 16) rfl (fun h55 => ?_) (fun h55 => ?_)
                · replace hm := (if_pos h55).symm.trans hm
                  refine CW.cond_true rfl ?_
                  refine CW.skip ?_
                  refine EW.next ?_
                  refine CW.join (fun a w => ∃ (v56 : (List (Int × Int × Int))) (v58 : Int) (s57 : Value), St 119 [(1, .pointer (some ⟨b33, 0, none⟩)), (8, s57), (9, .int .i64 v58), (10, .int .i64 v49)] a ∧ Mem w0 S [.blk b33 25 (cat [(16, (iv a0_0)), p1 (sa0_1)]), ro sa0_1 1 a0_1.length (ec e1 a0_1), .row s57 39 3 v56.length (ec e3 v56)] w ∧ ref05_Codes_j2 K (ref05_Codes_l1 K a0_0 a0_1 k1) v49 v56 v58 = some r) ?_ ?_
                  · refine CW.block ?_
                    refine CW.seq ?_
                    refine CW.region ?_
                    refine RW.yi (.int .i64 v48) rfl rfl (Yi.pv _ rfl) ?_
                    refine RW.yi (.int .i64 (w64 (v48 * 2))) rfl rfl (Yi.pv _ rfl) ?_
                    refine RW.yi (.int .i64 (w64 (v48 * 2))) rfl rfl (Yi.pv _ rfl) ?_
                    refine RW.nil ?_
                    refine EW.next ?_
                    refine CW.seq ?_
                    refine CW.region ?_
                    refine RW.yi (.int .i64 0) rfl rfl (Yi.pv _ rfl) ?_
                    refine RW.nil ?_
                    refine EW.next ?_
                    refine CW.block ?_
                    refine CW.loop (fun k a w => ∃ (v63 : (List (Int × Int × Int))) (v65 : Int) (v66 : Int) (s64 : Value), St 119 [(1, .pointer (some ⟨b33, 0, none⟩)), (8, s64), (9, .int .i64 v65), (10, .int .i64 v49), (11, .int .i64 v66)] a ∧ Mem w0 S [.blk b33 25 (cat [(16, (iv a0_0)), p1 (sa0_1)]), ro sa0_1 1 a0_1.length (ec e1 a0_1), .row s64 39 3 v63.length (ec e3 v63)] w ∧ ref05_Codes_l2 K (ref05_Codes_l1 K a0_0 a0_1 k1) a0_0 a0_1 v49 k v63 v65 v66 = some r) K ?_ ?_ ?_
                    · rintro a w ⟨_, _, _, _, _, _, hm⟩
                      rw [ref05_Codes_l2.eq_1] at hm
                      cases hm
                    · exact fun a w hs hM => ⟨v46, (w64 (v48 * 2)), 0, s47, hs.sub ⟨rfl, rfl, rfl, rfl, rfl, trivial⟩, (hM.pick [0, 1, 2] rfl rfl), hm⟩
                    · rintro k2 a w ⟨v63, v65, v66, s64, hs, hM, hm⟩
                      rw [ref05_Codes_l2.eq_2] at hm
                      refine CW.enter hs hM ?_
                      refine CW.seq ?_
                      refine CW.seq ?_
                      refine CW.region ?_
                      refine RW.yi (.int .i64 v66) rfl rfl (Yi.pv _ rfl) ?_
                      refine RW.yi (.int .i64 v49) rfl rfl (Yi.pv _ rfl) ?_
                      refine RW.yi (.int .i64 (w64 (v49 - 1))) rfl rfl (Yi.pv _ rfl) ?_
                      refine RW.yi (.pointer (some ⟨b33, 0, none⟩)) rfl rfl (Yi.fieldAddr (j := 0) Try.underlying25 rfl Try.sizeOf22 rfl) ?_
                      obtain ⟨g71, hm⟩ := of_guard hm
                      refine RW.yi (.pointer (some ⟨b33, (w64 (v49 - 1)).toNat, none⟩)) rfl rfl (Yi.indexAddr' _ Try.underlying22 Try.sizeOf3 rfl rfl g71.1 g71.2 (by omega)) ?_
                      refine RW.yi (.int .i64 (a0_0 ((w64 (v49 - 1)).toNat))) rfl rfl (Yi.load1 (i := 0) _ rfl rfl Try.isAgg3 (cat_get' (ps := [(16, (iv a0_0)), p1 (sa0_1)]) (i := (w64 (v49 - 1)).toNat) 0 rfl (by omega) (show 0 + ((w64 (v49 - 1)).toNat) = (w64 (v49 - 1)).toNat by omega))) ?_
                      refine RW.yi (.bool (decide (v66 < (a0_0 ((w64 (v49 - 1)).toNat))))) rfl rfl (Yi.pv _ rfl) ?_
                      refine RW.nil ?_
                      refine EW.next ?_
                      refine CW.fork 96 (v66 < (a0_0 ((w64 (v49 - 1)).toNat))) rfl (fun h72 => ?_) (fun h72 => ?_)
                      · replace hm := (if_pos h72).symm.trans hm
                        refine CW.cond_true rfl ?_
                        refine CW.skip ?_
                        refine EW.next ?_
                        refine CW.seq ?_
                        refine CW.block ?_
                        refine CW.seq ?_
                        refine CW.seq ?_
                        refine CW.region ?_
                        refine RW.yi (.int .i64 v65) rfl rfl (Yi.pv _ rfl) ?_
                        refine RW.yi (.int .i64 v49) rfl rfl (Yi.pv _ rfl) ?_
                        obtain ⟨r73, hr73, hm⟩ := of_bind hm
                        refine RW.ca (.int .i64 r73) rfl rfl (Ca.call (cs := []) [] rfl rfl Try.call27 (fun w hM => lent0) (fun w S' hM => (c_ref04_Power K v49 r73 w S' hM hr73).mono (fun _ _ h => by obtain ⟨_, h1, h2⟩ := h; exact ⟨h1, h2⟩))) ?_
                        refine RW.yi (.int .i64 (w64 (r73 - 2))) rfl rfl (Yi.pv _ rfl) ?_
                        refine RW.yi (.bool (decide ((w64 (r73 - 2)) < v65))) rfl rfl (Yi.pv _ rfl) ?_
                        refine RW.nil ?_
                        refine EW.next ?_
                        refine CW.fork 103 ((w64 (r73 - 2)) < v65) rfl (fun h74 => ?_) (fun h74 => ?_)
                        · replace hm := (if_pos h74).symm.trans hm
                          refine CW.cond_true rfl ?_
                          refine CW.seq ?_
                          refine CW.region ?_
                          refine RW.yi (.slice none 0 0) rfl rfl (Yi.pv _ rfl) ?_
                          refine RW.yi (.bool false) rfl rfl (Yi.pv _ rfl) ?_
                          refine RW.nil ?_
                          refine EW.next ?_
                          refine CW.ret ?_
                          refine EW.thr ?_
                          refine EW.blr ?_
                          refine EW.thr ?_
                          refine EW.thr ?_
                          refine EW.blr ?_
                          refine EW.blr ?_
                          refine EW.thr ?_
                          refine EW.thr ?_
                          refine EW.blr ?_
                          refine EW.thr ?_
                          obtain rfl := Option.some.inj hm
                          exact EW.done (rs := [.tmp 2, .tmp 3]) rfl (.tmp (t := 2) (v := .slice none 0 0) rfl (.tmp (t := 3) (v := .bool false) rfl .nil)) (fun _ hM => ⟨((.slice none 0 0)), rfl, ((hM.nilRow 39 3).pick [0] rfl rfl)⟩)
                        · replace hm := (if_neg h74).symm.trans hm
                          refine CW.cond_false rfl ?_
                          refine CW.skip ?_
                          refine EW.next ?_
                          refine CW.seq ?_
                          refine CW.region ?_
                          refine RW.yi (s64) rfl rfl (Yi.pv _ rfl) ?_
                          refine RW.yi (.pointer (some ⟨b33, 16, none⟩)) rfl rfl (Yi.fieldAddr (j := 1) Try.underlying25 rfl Try.sizeOf23 rfl) ?_
                          refine RW.yi (sa0_1) rfl rfl (Yi.load1 (i := 0) _ rfl rfl Try.isAgg23 (cat_get1 (ps := [(16, (iv a0_0)), p1 (sa0_1)]) 1 rfl rfl)) ?_
                          refine RW.yi (s64) rfl rfl (Yi.pv _ rfl) ?_
                          refine RW.yi (.int .i64 (v63.length : Int)) rfl rfl (Yi.lenS (cs := ec e3 v63) (m := v63.length) Try.underlying35 rfl (rdW 2 rfl)) ?_
                          obtain ⟨g75, hm⟩ := of_guard hm
                          refine RW.yi (.pointer (some (eaddr sa0_1 1 ((v63.length : Int).toNat) 0))) rfl rfl (Yi.idxS (m := a0_1.length) Try.underlying23 Try.sizeOf3 rfl rfl (rdF 1 rfl) g75.1 g75.2) ?_
                          refine RW.yi (.int .i64 (a0_1.getD ((v63.length : Int).toNat) 0)) rfl rfl (Yi.loadS (m := a0_1.length) (cs := ec e1 a0_1) _ rfl (rdF 1 rfl) Try.isAgg3 (by omega) (by omega) (by rw [ec_get (d := 0) e1_is (by omega) (by decide)]; rfl)) ?_
                          refine RW.yi (.int .i64 v65) rfl rfl (Yi.pv _ rfl) ?_
                          refine RW.yi (.int .i64 v49) rfl rfl (Yi.pv _ rfl) ?_
                          refine RW.yi (.agg #[.int .i64 (a0_1.getD ((v63.length : Int).toNat) 0), .int .i64 v65, .int .i64 v49]) rfl rfl (Yi.build (vs := [.int .i64 (a0_1.getD ((v63.length : Int).toNat) 0), .int .i64 v65, .int .i64 v49]) _ rfl rfl (fun _ => by kernel_rfl)) ?_
                          refine RW.buildS (e := 39) (sz := 3) (vs := [.agg #[.int .i64 (a0_1.getD ((v63.length : Int).toNat) 0), .int .i64 v65, .int .i64 v49]]) ((ec e3 ([((a0_1.getD ((v63.length : Int).toNat) 0), v65, v49)] : List (Int × Int × Int))).toArray) rfl rfl rfl rfl rfl (by decide) (fun _ => by kernel_rfl) (fun s76 => ?_)
                          obtain ⟨g78, hm⟩ := of_guard hm
                          refine RW.app (i := 3) (e := 39) (sz := 3) (by_ := 24) (z := .agg #[.int .i64 0, .int .i64 0, .int .i64 0]) (m := v63.length) (mx := ([((a0_1.getD ((v63.length : Int).toNat) 0), v65, v49)] : List (Int × Int × Int)).length) (m' := (v63 ++ ([((a0_1.getD ((v63.length : Int).toNat) 0), v65, v49)] : List (Int × Int × Int))).length) (cs := ec e3 v63) (news := ec e3 ([((a0_1.getD ((v63.length : Int).toNat) 0), v65, v49)] : List (Int × Int × Int))) (cs' := ec e3 (v63 ++ ([((a0_1.getD ((v63.length : Int).toNat) 0), v65, v49)] : List (Int × Int × Int)))) rfl rfl Try.underlying35 (by kernel_rfl) rfl (by decide) (by decide) rfl rfl rfl (rdW 0 rfl) (ec_one e3_is _) (by omega) (ec_append _ _ _) (by simp only [List.length_append]) (fun s79 => ?_)
                          refine RW.yi (s79) rfl rfl (Yi.pv _ rfl) ?_
                          refine RW.nil ?_
                          refine EW.next ?_
                          refine CW.region ?_
                          refine RW.yi (.int .i64 v65) rfl rfl (Yi.pv _ rfl) ?_
                          refine RW.yi (.int .i64 (w64 (v65 + 1))) rfl rfl (Yi.pv _ rfl) ?_
                          refine RW.yi (.int .i64 (w64 (v65 + 1))) rfl rfl (Yi.pv _ rfl) ?_
                          refine RW.nil ?_
                          refine EW.bln ?_
                          refine EW.next ?_
                          refine CW.region ?_
                          refine RW.yi (.int .i64 v66) rfl rfl (Yi.pv _ rfl) ?_
                          refine RW.yi (.int .i64 (w64 (v66 + 1))) rfl rfl (Yi.pv _ rfl) ?_
                          refine RW.yi (.int .i64 (w64 (v66 + 1))) rfl rfl (Yi.pv _ rfl) ?_
                          refine RW.nil ?_
                          refine EW.thn ?_
                          exact fun a w hs hM => ⟨(v63 ++ ([((a0_1.getD ((v63.length : Int).toNat) 0), v65, v49)] : List (Int × Int × Int))), (w64 (v65 + 1)), (w64 (v66 + 1)), s79, hs.sub ⟨rfl, rfl, rfl, rfl, rfl, trivial⟩, (hM.pick [1, 2, 3] rfl rfl), hm⟩
                      · replace hm := (if_neg h72).symm.trans hm
                        refine CW.cond_false rfl ?_
                        refine CW.exit ?_
                        refine EW.thx ?_
                        refine EW.thx ?_
                        refine EW.blx ?_
                        refine EW.bln ?_
                        refine EW.thn ?_
                        exact fun a w hs hM => ⟨v63, v65, s64, hs.sub ⟨rfl, rfl, rfl, rfl, trivial⟩, (hM.pick [0, 1, 2] rfl rfl), hm⟩
                  · rintro a w ⟨v56, v58, s57, hs, hM, hm⟩
                    unfold ref05_Codes_j2 at hm
                    refine CW.enter hs hM ?_
                    refine CW.region ?_
                    refine RW.yi (.int .i64 v49) rfl rfl (Yi.pv _ rfl) ?_
                    refine RW.yi (.int .i64 (w64 (v49 + 1))) rfl rfl (Yi.pv _ rfl) ?_
                    refine RW.yi (.int .i64 (w64 (v49 + 1))) rfl rfl (Yi.pv _ rfl) ?_
                    refine RW.nil ?_
                    refine EW.thn ?_
                    exact fun a w hs hM => ⟨v56, v58, (w64 (v49 + 1)), s57, hs.sub ⟨rfl, rfl, rfl, rfl, trivial⟩, (hM.pick [0, 1, 2] rfl rfl), hm⟩
                · replace hm := (if_neg h55).symm.trans hm
                  refine CW.cond_false rfl ?_
                  refine CW.exit ?_
                  refine EW.thx ?_
                  refine EW.thx ?_
                  refine EW.blx ?_
                  refine EW.thn ?_
                  exact fun a w hs hM => ⟨v46, s47, hs.sub ⟨rfl, trivial⟩, (hM.pick [2] rfl rfl), hm⟩
            · rintro a w ⟨v39, s40, hs, hM, hm⟩
              unfold ref05_Codes_j1 at hm
              refine CW.enter hs hM ?_
              refine CW.seq ?_
              refine CW.region ?_
              refine RW.yi (s40) rfl rfl (Yi.pv _ rfl) ?_
              refine RW.yi (s40) rfl rfl (Yi.pv _ rfl) ?_
              refine RW.yi (.bool true) rfl rfl (Yi.pv _ rfl) ?_
              refine RW.nil ?_
              refine EW.next ?_
              refine CW.ret ?_
              obtain rfl := Option.some.inj hm
              exact EW.done (rs := [.tmp 2, .tmp 3]) rfl (.tmp (t := 2) (v := s40) rfl (.tmp (t := 3) (v := .bool true) rfl .nil)) (fun _ hM => ⟨(s40), rfl, (hM.pick [0] rfl rfl)⟩)

end Go.Proofs.Ytoepbakbpimkiaa
