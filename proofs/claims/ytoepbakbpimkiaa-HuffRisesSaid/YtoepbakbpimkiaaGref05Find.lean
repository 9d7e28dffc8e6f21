import Derived.Test.YtoepbakbpimkiaaN8
import Derived.Test.YtoepbakbpimkiaaProg
set_option maxRecDepth 100000
set_option maxHeartbeats 1000000
namespace Go.Proofs.Ytoepbakbpimkiaa
open Go Go.RowKit K

def ref05_Find_j1 (_ : Nat)  : Option (Int × Int × Int × Bool) :=
  some (0, 0, 0, false)

def ref05_Find_l1 (K : Nat) (a0_l : (List (Int × Int × Int))) (a1_value : Int) : Nat → Int →  Option (Int × Int × Int × Bool)
  | 0, _ => none
  | k1 + 1, v11 =>
    (if v11 < (a0_l.length : Int) then (if 0 ≤ v11 ∧ v11 < (a0_l.length : Int) then (if (a0_l.getD v11.toNat (0, 0, 0)).1 = a1_value then some (((a0_l.getD v11.toNat (0, 0, 0)).1), ((a0_l.getD v11.toNat (0, 0, 0)).2.1), ((a0_l.getD v11.toNat (0, 0, 0)).2.2), true) else (ref05_Find_l1 K a0_l a1_value k1) (w64 (v11 + 1))) else none) else ref05_Find_j1 K)

def ref05_Find (K : Nat) (a0_l : (List (Int × Int × Int))) (a1_value : Int) : Option (Int × Int × Int × Bool) :=
  ref05_Find_l1 K a0_l a1_value K 0

theorem c_ref05_Find (K : Nat) (a0_l : (List (Int × Int × Int))) (a1_value : Int) (sa0_l : Value) (r : Int × Int × Int × Bool) (w0 : World) (S : Own) (hM0 : Mem w0 S [ro sa0_l 3 a0_l.length (ec e3 a0_l)] w0) (hm : ref05_Find K a0_l a1_value = some r) : Calls Try.prog 16 #[sa0_l, .int .i64 a1_value] w0 fun e w' => ∃ _u : Unit, e = .returned (.tuple #[.agg #[.int .i64 r.1, .int .i64 r.2.1, .int .i64 r.2.2.1], .bool r.2.2.2]) ∧ Mem w0 S [] w' := by
  unfold ref05_Find at hm
  refine calls_CW (n := 25) w0 S [ro sa0_l 3 a0_l.length (ec e3 a0_l)] Try.func16 rfl rfl rfl hM0 ?_
  refine CW.seq ?_
  refine CW.region ?_
  refine RW.alloc (z := .agg #[.int .i64 0, .int .i64 0, .int .i64 0]) (#[.int .i64 0, .int .i64 0, .int .i64 0]) rfl rfl (fun _ => by kernel_rfl) rfl (fun b9 => ?_)
  refine RW.yi (.bool false) rfl rfl (Yi.pv _ rfl) ?_
  refine RW.nil ?_
  refine EW.next ?_
  refine CW.join (fun a w => St 25 [(4, .pointer (some ⟨b9, 0, none⟩))] a ∧ Mem w0 S [.blk b9 39 (#[.int .i64 0, .int .i64 0, .int .i64 0])] w ∧ ref05_Find_j1 K = some r) ?_ ?_
  · refine CW.seq ?_
    refine CW.region ?_
    refine RW.yi (.int .i64 0) rfl rfl (Yi.pv _ rfl) ?_
    refine RW.nil ?_
    refine EW.next ?_
    refine CW.block ?_
    refine CW.loop (fun k a w => ∃ (v11 : Int), St 25 [(0, sa0_l), (1, .int .i64 a1_value), (4, .pointer (some ⟨b9, 0, none⟩)), (6, .int .i64 v11)] a ∧ Mem w0 S [ro sa0_l 3 a0_l.length (ec e3 a0_l), .blk b9 39 (#[.int .i64 0, .int .i64 0, .int .i64 0])] w ∧ ref05_Find_l1 K a0_l a1_value k v11 = some r) K ?_ ?_ ?_
    · rintro a w ⟨_, _, _, hm⟩
      rw [ref05_Find_l1.eq_1] at hm
      cases hm
    · exact fun a w hs hM => ⟨0, hs.sub ⟨rfl, rfl, rfl, rfl, trivial⟩, (hM.pick [1, 0] rfl rfl), hm⟩
    · rintro k1 a w ⟨v11, hs, hM, hm⟩
      rw [ref05_Find_l1.eq_2] at hm
      refine CW.enter hs hM ?_
      refine CW.seq ?_
      refine CW.seq ?_
      refine CW.region ?_
      refine RW.yi (.int .i64 v11) rfl rfl (Yi.pv _ rfl) ?_
      refine RW.yi (sa0_l) rfl rfl (Yi.pv _ rfl) ?_
      refine RW.yi (.int .i64 (a0_l.length : Int)) rfl rfl (Yi.lenS (cs := ec e3 a0_l) (m := a0_l.length) Try.underlying35 rfl (rdF 0 rfl)) ?_
      refine RW.yi (.bool (decide (v11 < (a0_l.length : Int)))) rfl rfl (Yi.pv _ rfl) ?_
      refine RW.nil ?_
      refine EW.next ?_
      refine CW.fork 10 (v11 < (a0_l.length : Int)) rfl (fun h13 => ?_) (fun h13 => ?_)
      · replace hm := (if_pos h13).symm.trans hm
        refine CW.cond_true rfl ?_
        refine CW.skip ?_
        refine EW.next ?_
        refine CW.seq ?_
        refine CW.block ?_
        refine CW.seq ?_
        refine CW.region ?_
        refine RW.yi (sa0_l) rfl rfl (Yi.pv _ rfl) ?_
        refine RW.yi (.int .i64 v11) rfl rfl (Yi.pv _ rfl) ?_
        obtain ⟨g14, hm⟩ := of_guard hm
        refine RW.yi (.pointer (some (eaddr sa0_l 3 v11.toNat 0))) rfl rfl (Yi.idxS (m := a0_l.length) Try.underlying35 Try.sizeOf39 rfl rfl (rdF 0 rfl) g14.1 g14.2) ?_
        refine RW.yi (.pointer (some (eaddr sa0_l 3 v11.toNat 0))) rfl rfl (Yi.fieldE (j := 0) Try.underlying39 rfl Try.sizeOf3 rfl) ?_
        refine RW.yi (.int .i64 ((a0_l.getD v11.toNat (0, 0, 0)).1)) rfl rfl (Yi.loadS (m := a0_l.length) (cs := ec e3 a0_l) _ rfl (rdF 0 rfl) Try.isAgg3 (by omega) (by omega) (by rw [ec_get (d := (0, 0, 0)) e3_is (by omega) (by decide)]; rfl)) ?_
        refine RW.yi (.int .i64 a1_value) rfl rfl (Yi.pv _ rfl) ?_
        refine RW.yi (.bool (decide ((a0_l.getD v11.toNat (0, 0, 0)).1 = a1_value))) rfl rfl (Yi.pv _ rfl) ?_
        refine RW.nil ?_
        refine EW.next ?_
        refine CW.fork 19 ((a0_l.getD v11.toNat (0, 0, 0)).1 = a1_value) rfl (fun h15 => ?_) (fun h15 => ?_)
        · replace hm := (if_pos h15).symm.trans hm
          refine CW.cond_true rfl ?_
          refine CW.seq ?_
          refine CW.region ?_
          refine RW.yi (sa0_l) rfl rfl (Yi.pv _ rfl) ?_
          refine RW.yi (.int .i64 v11) rfl rfl (Yi.pv _ rfl) ?_
          refine RW.yi (.pointer (some (eaddr sa0_l 3 v11.toNat 0))) rfl rfl (Yi.idxS (m := a0_l.length) Try.underlying35 Try.sizeOf39 rfl rfl (rdF 0 rfl) g14.1 g14.2) ?_
          refine RW.yi (.agg #[.int .i64 ((a0_l.getD v11.toNat (0, 0, 0)).1), .int .i64 ((a0_l.getD v11.toNat (0, 0, 0)).2.1), .int .i64 ((a0_l.getD v11.toNat (0, 0, 0)).2.2)]) rfl rfl (Yi.loadSA (m := a0_l.length) (cs := ec e3 a0_l) _ rfl (rdF 0 rfl) Try.isAgg39 Try.sizeOf39 (by omega) (by rw [ec_elem e3_is (0, 0, 0) (by omega)]; rfl)) ?_
          refine RW.storeW (i := 1) (cs' := #[.int .i64 ((a0_l.getD v11.toNat (0, 0, 0)).1), .int .i64 ((a0_l.getD v11.toNat (0, 0, 0)).2.1), .int .i64 ((a0_l.getD v11.toNat (0, 0, 0)).2.2)]) rfl rfl rfl rfl (by kernel_rfl) rfl (by kernel_rfl) ?_
          refine RW.yi (.bool true) rfl rfl (Yi.pv _ rfl) ?_
          refine RW.nil ?_
          refine EW.next ?_
          refine CW.ret ?_
          refine EW.blr ?_
          refine EW.thr ?_
          refine EW.thr ?_
          refine EW.blr ?_
          refine EW.thr ?_
          obtain rfl := Option.some.inj hm
          exact EW.done (rs := [.cell 4 39, .tmp 5]) rfl (.cellW (i := 1) (cs := #[.int .i64 ((a0_l.getD v11.toNat (0, 0, 0)).1), .int .i64 ((a0_l.getD v11.toNat (0, 0, 0)).2.1), .int .i64 ((a0_l.getD v11.toNat (0, 0, 0)).2.2)]) rfl rfl Try.isAgg39 Try.sizeOf39 (.tmp (t := 5) (v := .bool true) rfl .nil)) (fun _ hM => ⟨(), rfl, (hM.pick [] rfl rfl)⟩)
        · replace hm := (if_neg h15).symm.trans hm
          refine CW.cond_false rfl ?_
          refine CW.skip ?_
          refine EW.bln ?_
          refine EW.next ?_
          refine CW.region ?_
          refine RW.yi (.int .i64 v11) rfl rfl (Yi.pv _ rfl) ?_
          refine RW.yi (.int .i64 (w64 (v11 + 1))) rfl rfl (Yi.pv _ rfl) ?_
          refine RW.yi (.int .i64 (w64 (v11 + 1))) rfl rfl (Yi.pv _ rfl) ?_
          refine RW.nil ?_
          refine EW.thn ?_
          exact fun a w hs hM => ⟨(w64 (v11 + 1)), hs.sub ⟨rfl, rfl, rfl, rfl, trivial⟩, (hM.pick [0, 1] rfl rfl), hm⟩
      · replace hm := (if_neg h13).symm.trans hm
        refine CW.cond_false rfl ?_
        refine CW.exit ?_
        refine EW.thx ?_
        refine EW.thx ?_
        refine EW.blx ?_
        refine EW.thn ?_
        exact fun a w hs hM => ⟨hs.sub ⟨rfl, trivial⟩, (hM.pick [1] rfl rfl), hm⟩
  · rintro a w ⟨hs, hM, hm⟩
    unfold ref05_Find_j1 at hm
    refine CW.enter hs hM ?_
    refine CW.seq ?_
    refine CW.region ?_
    refine RW.yi (.agg #[.int .i64 0, .int .i64 0, .int .i64 0]) rfl rfl (Yi.build (vs := []) _ rfl rfl (fun _ => by kernel_rfl)) ?_
    refine RW.storeW (i := 0) (cs' := #[.int .i64 0, .int .i64 0, .int .i64 0]) rfl rfl rfl rfl (by kernel_rfl) rfl (by kernel_rfl) ?_
    refine RW.yi (.bool false) rfl rfl (Yi.pv _ rfl) ?_
    refine RW.nil ?_
    refine EW.next ?_
    refine CW.ret ?_
    obtain rfl := Option.some.inj hm
    exact EW.done (rs := [.cell 4 39, .tmp 5]) rfl (.cellW (i := 0) (cs := #[.int .i64 0, .int .i64 0, .int .i64 0]) rfl rfl Try.isAgg39 Try.sizeOf39 (.tmp (t := 5) (v := .bool false) rfl .nil)) (fun _ hM => ⟨(), rfl, (hM.pick [] rfl rfl)⟩)

end Go.Proofs.Ytoepbakbpimkiaa
