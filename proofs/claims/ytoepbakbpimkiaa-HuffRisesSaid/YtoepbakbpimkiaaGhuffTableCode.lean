import Derived.Test.YtoepbakbpimkiaaN8
import Derived.Test.YtoepbakbpimkiaaProg
set_option maxRecDepth 100000
set_option maxHeartbeats 1000000
namespace Go.Proofs.Ytoepbakbpimkiaa
open Go Go.RowKit K

def huff_Table_Code (_ : Nat) (a0_t_0 : (Nat → Int)) (a0_t_1 : (List Int)) (a0_t_2 : (Nat → Int)) (a0_t_3 : (List MEnt)) (a1_value : Int) : Option (Int × Int × Bool) :=
  (if a1_value < 0 then some (0, 0, false) else (if 255 < a1_value then some (0, 0, false) else (if 0 ≤ a1_value ∧ a1_value < 256 then (if (a0_t_2 (1 + a1_value.toNat * 2)) = 0 then some (0, 0, false) else some (((shf a0_t_2 (a1_value.toNat * 2)) 0), ((shf a0_t_2 (a1_value.toNat * 2)) 1), true)) else none)))

theorem c_huff_Table_Code (K : Nat) (a0_t_0 : (Nat → Int)) (a0_t_1 : (List Int)) (a0_t_2 : (Nat → Int)) (a0_t_3 : (List MEnt)) (a1_value : Int) (ba0_t : Nat) (sa0_t_1 : Value) (ba0_t_3 : Nat) (r : Int × Int × Bool) (w0 : World) (S : Own) (hM0 : Mem w0 S [.blk ba0_t 67 (cat [(16, (iv a0_t_0)), p1 (sa0_t_1), (512, (iv a0_t_2)), p1 (.map (some ba0_t_3))]), .row sa0_t_1 3 1 a0_t_1.length (ec e1 a0_t_1), mpE ba0_t_3 a0_t_3] w0) (hm : huff_Table_Code K a0_t_0 a0_t_1 a0_t_2 a0_t_3 a1_value = some r) : Calls Try.prog 13 #[.pointer (some ⟨ba0_t, 0, none⟩), .int .i64 a1_value] w0 fun e w' => ∃ _u : Unit, e = .returned (.tuple #[.int .i64 r.1, .int .i64 r.2.1, .bool r.2.2]) ∧ Mem w0 S [.blk ba0_t 67 (cat [(16, (iv a0_t_0)), p1 (sa0_t_1), (512, (iv a0_t_2)), p1 (.map (some ba0_t_3))]), .row sa0_t_1 3 1 a0_t_1.length (ec e1 a0_t_1), mpE ba0_t_3 a0_t_3] w' := by
  unfold huff_Table_Code at hm
  refine calls_CW (n := 38) w0 S [.blk ba0_t 67 (cat [(16, (iv a0_t_0)), p1 (sa0_t_1), (512, (iv a0_t_2)), p1 (.map (some ba0_t_3))]), .row sa0_t_1 3 1 a0_t_1.length (ec e1 a0_t_1), mpE ba0_t_3 a0_t_3] Try.func13 rfl rfl rfl hM0 ?_
  refine CW.seq ?_
  refine CW.region ?_
  refine RW.yi (.int .i64 0) rfl rfl (Yi.pv _ rfl) ?_
  refine RW.yi (.int .i64 0) rfl rfl (Yi.pv _ rfl) ?_
  refine RW.yi (.bool false) rfl rfl (Yi.pv _ rfl) ?_
  refine RW.nil ?_
  refine EW.next ?_
  refine CW.seq ?_
  refine CW.seq ?_
  refine CW.region ?_
  refine RW.yi (.pointer (some ⟨ba0_t, 0, none⟩)) rfl rfl (Yi.pv _ rfl) ?_
  refine RW.yi (.bool false) rfl rfl (Yi.eqNil false rfl rfl Try.underlying27 (.inr ⟨rfl, rfl⟩)) ?_
  refine RW.yi (.bool false) rfl rfl (Yi.pv _ rfl) ?_
  refine RW.yi (.int .i64 a1_value) rfl rfl (Yi.pv _ rfl) ?_
  refine RW.yi (.bool (decide (a1_value < 0))) rfl rfl (Yi.pv _ rfl) ?_
  refine RW.yi (.bool (decide (a1_value < 0))) rfl rfl (Yi.pv _ rfl) ?_
  refine RW.yi (.bool (decide (a1_value < 0))) rfl rfl (Yi.pv _ rfl) ?_
  refine RW.fork 14 (a1_value < 0) rfl (fun h7 => ?_) (fun h7 => ?_)
  · replace hm := (if_pos h7).symm.trans hm
    refine RW.pass rfl rfl ?_
    refine RW.pass rfl rfl ?_
    refine RW.yi (.bool true) rfl rfl (Yi.pv _ rfl) ?_
    refine RW.yi (.bool true) rfl rfl (Yi.pv _ rfl) ?_
    refine RW.pass rfl rfl ?_
    refine RW.pass rfl rfl ?_
    refine RW.pass rfl rfl ?_
    refine RW.pass rfl rfl ?_
    refine RW.pass rfl rfl ?_
    refine RW.pass rfl rfl ?_
    refine RW.pass rfl rfl ?_
    refine RW.pass rfl rfl ?_
    refine RW.yi (.bool true) rfl rfl (Yi.pv _ rfl) ?_
    refine RW.nil ?_
    refine EW.next ?_
    refine CW.cond_true rfl ?_
    refine CW.seq ?_
    refine CW.region ?_
    refine RW.yi (.int .i64 0) rfl rfl (Yi.pv _ rfl) ?_
    refine RW.yi (.int .i64 0) rfl rfl (Yi.pv _ rfl) ?_
    refine RW.yi (.bool false) rfl rfl (Yi.pv _ rfl) ?_
    refine RW.nil ?_
    refine EW.next ?_
    refine CW.ret ?_
    refine EW.thr ?_
    obtain rfl := Option.some.inj hm
    exact EW.done (rs := [.tmp 4, .tmp 5, .tmp 6]) rfl (.tmp (t := 4) (v := .int .i64 0) rfl (.tmp (t := 5) (v := .int .i64 0) rfl (.tmp (t := 6) (v := .bool false) rfl .nil))) (fun _ hM => ⟨(), rfl, (hM.pick [0, 1, 2] rfl rfl)⟩)
  · replace hm := (if_neg h7).symm.trans hm
    refine RW.yi (.int .i64 a1_value) rfl rfl (Yi.pv _ rfl) ?_
    refine RW.yi (.bool (decide (255 < a1_value))) rfl rfl (Yi.pv _ rfl) ?_
    refine RW.yi (.bool (decide (255 < a1_value))) rfl rfl (Yi.pv _ rfl) ?_
    refine RW.yi (.bool (decide (255 < a1_value))) rfl rfl (Yi.pv _ rfl) ?_
    refine RW.fork 18 (255 < a1_value) rfl (fun h8 => ?_) (fun h8 => ?_)
    · replace hm := (if_pos h8).symm.trans hm
      refine RW.pass rfl rfl ?_
      refine RW.pass rfl rfl ?_
      refine RW.pass rfl rfl ?_
      refine RW.pass rfl rfl ?_
      refine RW.pass rfl rfl ?_
      refine RW.pass rfl rfl ?_
      refine RW.pass rfl rfl ?_
      refine RW.pass rfl rfl ?_
      refine RW.yi (.bool true) rfl rfl (Yi.pv _ rfl) ?_
      refine RW.nil ?_
      refine EW.next ?_
      refine CW.cond_true rfl ?_
      refine CW.seq ?_
      refine CW.region ?_
      refine RW.yi (.int .i64 0) rfl rfl (Yi.pv _ rfl) ?_
      refine RW.yi (.int .i64 0) rfl rfl (Yi.pv _ rfl) ?_
      refine RW.yi (.bool false) rfl rfl (Yi.pv _ rfl) ?_
      refine RW.nil ?_
      refine EW.next ?_
      refine CW.ret ?_
      refine EW.thr ?_
      obtain rfl := Option.some.inj hm
      exact EW.done (rs := [.tmp 4, .tmp 5, .tmp 6]) rfl (.tmp (t := 4) (v := .int .i64 0) rfl (.tmp (t := 5) (v := .int .i64 0) rfl (.tmp (t := 6) (v := .bool false) rfl .nil))) (fun _ hM => ⟨(), rfl, (hM.pick [0, 1, 2] rfl rfl)⟩)
    · replace hm := (if_neg h8).symm.trans hm
      refine RW.yi (.pointer (some ⟨ba0_t, 0, none⟩)) rfl rfl (Yi.pv _ rfl) ?_
      refine RW.yi (.int .i64 a1_value) rfl rfl (Yi.pv _ rfl) ?_
      refine RW.yi (.pointer (some ⟨ba0_t, 0, none⟩)) rfl rfl (Yi.nilCheck rfl (fun h => by cases h) (fun h => by cases h) (fun h => by cases h) (fun _ _ _ h => by cases h)) ?_
      refine RW.yi (.pointer (some ⟨ba0_t, 17, none⟩)) rfl rfl (Yi.fieldAddr (j := 1) Try.underlying67 rfl Try.sizeOf65 rfl) ?_
      obtain ⟨g9, hm⟩ := of_guard hm
      refine RW.yi (.pointer (some ⟨ba0_t, 17 + a1_value.toNat * 2, none⟩)) rfl rfl (Yi.indexAddr' _ Try.underlying65 Try.sizeOf64 rfl rfl g9.1 g9.2 (by omega)) ?_
      refine RW.yi (.pointer (some ⟨ba0_t, 18 + a1_value.toNat * 2, none⟩)) rfl rfl (Yi.fieldAddr' (j := 1) _ 1 Try.underlying64 rfl Try.sizeOf3 rfl rfl (by omega)) ?_
      refine RW.yi (.int .i64 (a0_t_2 (1 + a1_value.toNat * 2))) rfl rfl (Yi.load1 (i := 0) _ rfl rfl Try.isAgg3 (cat_get' (ps := [(16, (iv a0_t_0)), p1 (sa0_t_1), (512, (iv a0_t_2)), p1 (.map (some ba0_t_3))]) (i := 1 + a1_value.toNat * 2) 2 rfl (by omega) (show 17 + (1 + a1_value.toNat * 2) = 18 + a1_value.toNat * 2 by omega))) ?_
      refine RW.yi (.bool (decide ((a0_t_2 (1 + a1_value.toNat * 2)) = 0))) rfl rfl (Yi.pv _ rfl) ?_
      refine RW.yi (.bool (decide ((a0_t_2 (1 + a1_value.toNat * 2)) = 0))) rfl rfl (Yi.pv _ rfl) ?_
      refine RW.nil ?_
      refine EW.next ?_
      refine CW.fork 27 ((a0_t_2 (1 + a1_value.toNat * 2)) = 0) rfl (fun h10 => ?_) (fun h10 => ?_)
      · replace hm := (if_pos h10).symm.trans hm
        refine CW.cond_true rfl ?_
        refine CW.seq ?_
        refine CW.region ?_
        refine RW.yi (.int .i64 0) rfl rfl (Yi.pv _ rfl) ?_
        refine RW.yi (.int .i64 0) rfl rfl (Yi.pv _ rfl) ?_
        refine RW.yi (.bool false) rfl rfl (Yi.pv _ rfl) ?_
        refine RW.nil ?_
        refine EW.next ?_
        refine CW.ret ?_
        refine EW.thr ?_
        obtain rfl := Option.some.inj hm
        exact EW.done (rs := [.tmp 4, .tmp 5, .tmp 6]) rfl (.tmp (t := 4) (v := .int .i64 0) rfl (.tmp (t := 5) (v := .int .i64 0) rfl (.tmp (t := 6) (v := .bool false) rfl .nil))) (fun _ hM => ⟨(), rfl, (hM.pick [0, 1, 2] rfl rfl)⟩)
      · replace hm := (if_neg h10).symm.trans hm
        refine CW.cond_false rfl ?_
        refine CW.skip ?_
        refine EW.next ?_
        refine CW.seq ?_
        refine CW.region ?_
        refine RW.yi (.pointer (some ⟨ba0_t, 0, none⟩)) rfl rfl (Yi.pv _ rfl) ?_
        refine RW.yi (.int .i64 a1_value) rfl rfl (Yi.pv _ rfl) ?_
        refine RW.yi (.pointer (some ⟨ba0_t, 0, none⟩)) rfl rfl (Yi.nilCheck rfl (fun h => by cases h) (fun h => by cases h) (fun h => by cases h) (fun _ _ _ h => by cases h)) ?_
        refine RW.yi (.pointer (some ⟨ba0_t, 17, none⟩)) rfl rfl (Yi.fieldAddr (j := 1) Try.underlying67 rfl Try.sizeOf65 rfl) ?_
        refine RW.yi (.pointer (some ⟨ba0_t, 17 + a1_value.toNat * 2, none⟩)) rfl rfl (Yi.indexAddr' _ Try.underlying65 Try.sizeOf64 rfl rfl g9.1 g9.2 (by omega)) ?_
        refine RW.yi (.agg #[.int .i64 ((shf a0_t_2 (a1_value.toNat * 2)) 0), .int .i64 ((shf a0_t_2 (a1_value.toNat * 2)) 1)]) rfl rfl (Yi.to (Yi.loadA (i := 0) (j := 17 + a1_value.toNat * 2) (m := 2) (cs := cat [(16, (iv a0_t_0)), p1 (sa0_t_1), (512, (iv a0_t_2)), p1 (.map (some ba0_t_3))]) rfl rfl Try.isAgg64 Try.sizeOf64 (by rw [cat_size]; show _ ≤ 530; omega)) (congrArg Value.agg (Eq.trans (cat_part (ps := [(16, (iv a0_t_0)), p1 (sa0_t_1), (512, (iv a0_t_2)), p1 (.map (some ba0_t_3))]) (nn := 512) (i := a1_value.toNat * 2) (m := 2) 2 rfl (by omega) (show 17 + (a1_value.toNat * 2) = 17 + a1_value.toNat * 2 by omega) rfl) rfl))) ?_
        refine RW.alloc (z := .agg #[.int .i64 0, .int .i64 0]) (#[.int .i64 0, .int .i64 0]) rfl rfl (fun _ => by kernel_rfl) rfl (fun b11 => ?_)
        refine RW.storeW (i := 0) (cs' := #[.int .i64 ((shf a0_t_2 (a1_value.toNat * 2)) 0), .int .i64 ((shf a0_t_2 (a1_value.toNat * 2)) 1)]) rfl rfl rfl rfl (by kernel_rfl) rfl (by kernel_rfl) ?_
        refine RW.nil ?_
        refine EW.next ?_
        refine CW.seq ?_
        refine CW.draws (by kernel_rfl) (by kernel_rfl) ?_
        refine QW.yi (.pointer (some ⟨b11, 0, none⟩)) rfl rfl (Yi.fieldAddr (j := 0) Try.underlying64 rfl Try.sizeOf3 rfl) ?_
        refine QW.yi (.int .i64 ((shf a0_t_2 (a1_value.toNat * 2)) 0)) rfl rfl (Yi.load1 (i := 0) _ rfl rfl Try.isAgg3 rfl) ?_
        refine QW.yi (.pointer (some ⟨b11, 1, none⟩)) rfl rfl (Yi.fieldAddr (j := 1) Try.underlying64 rfl Try.sizeOf3 rfl) ?_
        refine QW.yi (.int .i64 ((shf a0_t_2 (a1_value.toNat * 2)) 1)) rfl rfl (Yi.load1 (i := 0) _ rfl rfl Try.isAgg3 rfl) ?_
        refine QW.yi (.int .i64 ((shf a0_t_2 (a1_value.toNat * 2)) 0)) rfl rfl (Yi.pv _ rfl) ?_
        refine QW.yi (.int .i64 ((shf a0_t_2 (a1_value.toNat * 2)) 1)) rfl rfl (Yi.pv _ rfl) ?_
        refine QW.yi (.bool true) rfl rfl (Yi.pv _ rfl) ?_
        refine QW.nil ?_
        refine EW.next ?_
        refine CW.ret ?_
        obtain rfl := Option.some.inj hm
        exact EW.done (rs := [.tmp 4, .tmp 5, .tmp 6]) rfl (.tmp (t := 4) (v := .int .i64 ((shf a0_t_2 (a1_value.toNat * 2)) 0)) rfl (.tmp (t := 5) (v := .int .i64 ((shf a0_t_2 (a1_value.toNat * 2)) 1)) rfl (.tmp (t := 6) (v := .bool true) rfl .nil))) (fun _ hM => ⟨(), rfl, (hM.pick [1, 2, 3] rfl rfl)⟩)

end Go.Proofs.Ytoepbakbpimkiaa
