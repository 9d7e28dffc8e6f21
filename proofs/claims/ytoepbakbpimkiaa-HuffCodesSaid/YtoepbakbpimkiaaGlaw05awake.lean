import Derived.Test.YtoepbakbpimkiaaN8
import Derived.Test.YtoepbakbpimkiaaProg
import Derived.Test.YtoepbakbpimkiaaGhuffNew
import Derived.Test.YtoepbakbpimkiaaGhuffTableCode
import Derived.Test.YtoepbakbpimkiaaGhuffTableCode2
set_option maxRecDepth 100000
set_option maxHeartbeats 1000000
namespace Go.Proofs.Ytoepbakbpimkiaa
open Go Go.RowKit K

def law05_awake (K : Nat)  : Option (Bool) :=
  ((huff_New K (upd (upd (upd zf 0 1) 1 0) 2 2) ([5, 6, 7] : List Int)).bind fun r10 => match r10 with | .inl r11 => ((huff_Table_Code K (upd (upd (upd zf 0 1) 1 0) 2 2) r11.2.1 r11.1 r11.2.2 7).bind fun r14 => ((huff_New K zf ([] : List Int)).bind fun r17 => match r17 with | .inl r18 => (if r14.1 = 5 then (if r14.2.1 = 3 then (if r14.2.2 = true then some false else some false) else some false) else some false) | .inr r24 => (if r14.1 = 5 then (if r14.2.1 = 3 then (if r14.2.2 = true then some true else some false) else some false) else some false))) | .inr r29 => ((huff_Table_Code_2 K 7).bind fun r31 => ((huff_New K zf ([] : List Int)).bind fun r32 => match r32 with | .inl r33 => some false | .inr r36 => some false)))

theorem c_law05_awake (K : Nat)   (r : Bool) (w0 : World) (S : Own) (hM0 : Mem w0 S [] w0) (hm : law05_awake K  = some r) : Calls Try.prog 10 #[] w0 fun e w' => ∃ _u : Unit, e = .returned (.bool r) ∧ Mem w0 S [] w' := by
  unfold law05_awake at hm
  refine calls_CW (n := 43) w0 S [] Try.func10 rfl rfl rfl hM0 ?_
  refine CW.seq ?_
  refine CW.region ?_
  refine RW.yi (.bool false) rfl rfl (Yi.pv _ rfl) ?_
  refine RW.nil ?_
  refine EW.next ?_
  refine CW.seq ?_
  refine CW.region ?_
  refine RW.yi (.agg (cf 16 (iv (upd (upd (upd zf 0 1) 1 0) 2 2)))) rfl rfl (Yi.build (vs := [.int .i64 1, .int .i64 0, .int .i64 2]) _ rfl rfl (fun _ => by kernel_rfl)) ?_
  refine RW.buildS (e := 3) (sz := 1) (vs := [.int .i64 5, .int .i64 6, .int .i64 7]) ((ec e1 ([5, 6, 7] : List Int)).toArray) rfl rfl rfl rfl rfl (by decide) (fun _ => by kernel_rfl) (fun s8 => ?_)
  refine RW.yi (.agg (cat [(16, (iv (upd (upd (upd zf 0 1) 1 0) 2 2))), p1 (s8)])) rfl rfl (Yi.buildM (vs := [.agg (cf 16 (iv (upd (upd (upd zf 0 1) 1 0) 2 2))), s8]) _ rfl rfl (fun w hM => by have e0 := rd_slice ((rdW 0 rfl) w hM); revert e0; generalize s8 = x0; rintro ⟨_, _, _, rfl⟩; show _ = _; kernel_rfl)) ?_
  obtain ⟨r10, hr10, hm⟩ := of_bind hm
  rcases r10 with r11 | r29
  · dsimp only at hm
    refine RW.callM (cs := []) [] [.row s8 3 1 ([5, 6, 7] : List Int).length (ec e1 ([5, 6, 7] : List Int))] [ro s8 1 ([5, 6, 7] : List Int).length (ec e1 ([5, 6, 7] : List Int))] [0] (fun (u12 : Nat × Value × Nat) => [.blk u12.1 67 (cat [(16, (iv (upd (upd (upd zf 0 1) 1 0) 2 2))), p1 (u12.2.1), (512, (iv r11.1)), p1 (.map (some u12.2.2))]), .row u12.2.1 3 1 r11.2.1.length (ec e1 r11.2.1), mpE u12.2.2 r11.2.2]) (fun (u12 : Nat × Value × Nat) => .tuple #[.pointer (some ⟨u12.1, 0, none⟩), .int .i64 0]) rfl rfl rfl rfl Try.call11 rfl rfl rfl (fun w hM => lentW (A := []) hM 0 rfl (lent0)) (.inl fun _ => rfl) (fun w S' hM => c_huff_New K (upd (upd (upd zf 0 1) 1 0) 2 2) ([5, 6, 7] : List Int) s8 (.inl r11) w S' hM hr10) (fun u12 => ?_)
    refine RW.yi (.tuple #[.pointer (some ⟨u12.1, 0, none⟩), .int .i64 0]) rfl rfl (Yi.pv _ rfl) ?_
    refine RW.yi (.pointer (some ⟨u12.1, 0, none⟩)) rfl rfl (Yi.pv _ rfl) ?_
    refine RW.yi (.int .i64 0) rfl rfl (Yi.pv _ rfl) ?_
    refine RW.yi (.pointer (some ⟨u12.1, 0, none⟩)) rfl rfl (Yi.pv _ rfl) ?_
    refine RW.yi (.int .i64 0) rfl rfl (Yi.pv _ rfl) ?_
    refine RW.nil ?_
    refine EW.next ?_
    refine CW.seq ?_
    refine CW.region ?_
    refine RW.yi (.pointer (some ⟨u12.1, 0, none⟩)) rfl rfl (Yi.pv _ rfl) ?_
    obtain ⟨r14, hr14, hm⟩ := of_bind hm
    refine RW.callM (cs := []) [.blk u12.1 67 (cat [(16, (iv (upd (upd (upd zf 0 1) 1 0) 2 2))), p1 (u12.2.1), (512, (iv r11.1)), p1 (.map (some u12.2.2))]), .row u12.2.1 3 1 r11.2.1.length (ec e1 r11.2.1), mpE u12.2.2 r11.2.2] [.row s8 3 1 ([5, 6, 7] : List Int).length (ec e1 ([5, 6, 7] : List Int))] [] [0, 1, 2, 3] (fun (_ : Unit) => [.blk u12.1 67 (cat [(16, (iv (upd (upd (upd zf 0 1) 1 0) 2 2))), p1 (u12.2.1), (512, (iv r11.1)), p1 (.map (some u12.2.2))]), .row u12.2.1 3 1 r11.2.1.length (ec e1 r11.2.1), mpE u12.2.2 r11.2.2]) (fun (_ : Unit) => .tuple #[.int .i64 r14.1, .int .i64 r14.2.1, .bool r14.2.2]) rfl rfl rfl rfl Try.call13 rfl rfl rfl (fun w hM => lent0) (.inl fun _ => rfl) (fun w S' hM => c_huff_Table_Code K (upd (upd (upd zf 0 1) 1 0) 2 2) r11.2.1 r11.1 r11.2.2 7 u12.1 u12.2.1 u12.2.2 r14 w S' hM hr14) (fun _ => ?_)
    refine RW.yi (.tuple #[.int .i64 r14.1, .int .i64 r14.2.1, .bool r14.2.2]) rfl rfl (Yi.pv _ rfl) ?_
    refine RW.yi (.int .i64 r14.1) rfl rfl (Yi.pv _ rfl) ?_
    refine RW.yi (.int .i64 r14.2.1) rfl rfl (Yi.pv _ rfl) ?_
    refine RW.yi (.bool r14.2.2) rfl rfl (Yi.pv _ rfl) ?_
    refine RW.yi (.int .i64 r14.1) rfl rfl (Yi.pv _ rfl) ?_
    refine RW.yi (.int .i64 r14.2.1) rfl rfl (Yi.pv _ rfl) ?_
    refine RW.yi (.bool r14.2.2) rfl rfl (Yi.pv _ rfl) ?_
    refine RW.nil ?_
    refine EW.next ?_
    refine CW.seq ?_
    refine CW.region ?_
    refine RW.yi (.agg (cat [(16, (iv zf)), p1 (.slice none 0 0)])) rfl rfl (Yi.build (vs := []) _ rfl rfl (fun _ => by kernel_rfl)) ?_
    obtain ⟨r17, hr17, hm⟩ := of_bind hm
    rcases r17 with r18 | r24
    · dsimp only at hm
      refine RW.callM (cs := []) [] [.blk u12.1 67 (cat [(16, (iv (upd (upd (upd zf 0 1) 1 0) 2 2))), p1 (u12.2.1), (512, (iv r11.1)), p1 (.map (some u12.2.2))]), .row u12.2.1 3 1 r11.2.1.length (ec e1 r11.2.1), mpE u12.2.2 r11.2.2, .row s8 3 1 ([5, 6, 7] : List Int).length (ec e1 ([5, 6, 7] : List Int))] [ro (.slice none 0 0) 1 ([] : List Int).length (ec e1 ([] : List Int))] [0, 1, 2, 3] (fun (u19 : Nat × Value × Nat) => [.blk u19.1 67 (cat [(16, (iv zf)), p1 (u19.2.1), (512, (iv r18.1)), p1 (.map (some u19.2.2))]), .row u19.2.1 3 1 r18.2.1.length (ec e1 r18.2.1), mpE u19.2.2 r18.2.2]) (fun (u19 : Nat × Value × Nat) => .tuple #[.pointer (some ⟨u19.1, 0, none⟩), .int .i64 0]) rfl rfl rfl rfl Try.call11 rfl rfl rfl (fun w hM => lentN (A := []) hM 0 1 (lent0) rfl) (.inl fun _ => rfl) (fun w S' hM => c_huff_New K zf ([] : List Int) (.slice none 0 0) (.inl r18) w S' hM hr17) (fun u19 => ?_)
      refine RW.yi (.tuple #[.pointer (some ⟨u19.1, 0, none⟩), .int .i64 0]) rfl rfl (Yi.pv _ rfl) ?_
      refine RW.yi (.pointer (some ⟨u19.1, 0, none⟩)) rfl rfl (Yi.pv _ rfl) ?_
      refine RW.yi (.int .i64 0) rfl rfl (Yi.pv _ rfl) ?_
      refine RW.yi (.pointer (some ⟨u19.1, 0, none⟩)) rfl rfl (Yi.pv _ rfl) ?_
      refine RW.yi (.int .i64 0) rfl rfl (Yi.pv _ rfl) ?_
      refine RW.nil ?_
      refine EW.next ?_
      refine CW.seq ?_
      refine CW.region ?_
      refine RW.yi (.int .i64 0) rfl rfl (Yi.pv _ rfl) ?_
      refine RW.yi (.bool true) rfl rfl (Yi.pv _ rfl) ?_
      refine RW.yi (.bool true) rfl rfl (Yi.pv _ rfl) ?_
      refine RW.yi (.int .i64 r14.1) rfl rfl (Yi.pv _ rfl) ?_
      refine RW.yi (.bool (decide (r14.1 = 5))) rfl rfl (Yi.pv _ rfl) ?_
      refine RW.yi (.bool (decide (r14.1 = 5))) rfl rfl (Yi.pv _ rfl) ?_
      refine RW.yi (.bool (decide (r14.1 = 5))) rfl rfl (Yi.pv _ rfl) ?_
      refine RW.fork 32 (r14.1 = 5) rfl (fun h21 => ?_) (fun h21 => ?_)
      · replace hm := (if_pos h21).symm.trans hm
        refine RW.yi (.int .i64 r14.2.1) rfl rfl (Yi.pv _ rfl) ?_
        refine RW.yi (.bool (decide (r14.2.1 = 3))) rfl rfl (Yi.pv _ rfl) ?_
        refine RW.yi (.bool (decide (r14.2.1 = 3))) rfl rfl (Yi.pv _ rfl) ?_
        refine RW.yi (.bool (decide (r14.2.1 = 3))) rfl rfl (Yi.pv _ rfl) ?_
        refine RW.fork 36 (r14.2.1 = 3) rfl (fun h22 => ?_) (fun h22 => ?_)
        · replace hm := (if_pos h22).symm.trans hm
          refine RW.yi (.bool r14.2.2) rfl rfl (Yi.pv _ rfl) ?_
          refine RW.yi (.bool r14.2.2) rfl rfl (Yi.pv _ rfl) ?_
          refine RW.yi (.bool r14.2.2) rfl rfl (Yi.pv _ rfl) ?_
          refine RW.forkB 39 (r14.2.2) rfl (fun h23 => ?_) (fun h23 => ?_)
          · replace hm := (if_pos h23).symm.trans hm
            refine RW.yi (.int .i64 0) rfl rfl (Yi.pv _ rfl) ?_
            refine RW.yi (.bool false) rfl rfl (Yi.pv _ rfl) ?_
            refine RW.yi (.bool false) rfl rfl (Yi.pv _ rfl) ?_
            refine RW.yi (.bool false) rfl rfl (Yi.pv _ rfl) ?_
            refine RW.nil ?_
            refine EW.next ?_
            refine CW.ret ?_
            obtain rfl := Option.some.inj hm
            exact EW.done (rs := [.tmp 0]) rfl (.tmp (t := 0) (v := .bool false) rfl .nil) (fun _ hM => ⟨(), rfl, (hM.pick [] rfl rfl)⟩)
          · replace hm := (if_neg h23).symm.trans hm
            refine RW.pass rfl rfl ?_
            refine RW.pass rfl rfl ?_
            refine RW.yi (.bool false) rfl rfl (Yi.pv _ rfl) ?_
            refine RW.yi (.bool false) rfl rfl (Yi.pv _ rfl) ?_
            refine RW.nil ?_
            refine EW.next ?_
            refine CW.ret ?_
            obtain rfl := Option.some.inj hm
            exact EW.done (rs := [.tmp 0]) rfl (.tmp (t := 0) (v := .bool false) rfl .nil) (fun _ hM => ⟨(), rfl, (hM.pick [] rfl rfl)⟩)
        · replace hm := (if_neg h22).symm.trans hm
          refine RW.pass rfl rfl ?_
          refine RW.yi (.bool false) rfl rfl (Yi.pv _ rfl) ?_
          refine RW.yi (.bool false) rfl rfl (Yi.pv _ rfl) ?_
          refine RW.pass rfl rfl ?_
          refine RW.pass rfl rfl ?_
          refine RW.yi (.bool false) rfl rfl (Yi.pv _ rfl) ?_
          refine RW.yi (.bool false) rfl rfl (Yi.pv _ rfl) ?_
          refine RW.nil ?_
          refine EW.next ?_
          refine CW.ret ?_
          obtain rfl := Option.some.inj hm
          exact EW.done (rs := [.tmp 0]) rfl (.tmp (t := 0) (v := .bool false) rfl .nil) (fun _ hM => ⟨(), rfl, (hM.pick [] rfl rfl)⟩)
      · replace hm := (if_neg h21).symm.trans hm
        refine RW.pass rfl rfl ?_
        refine RW.pass rfl rfl ?_
        refine RW.yi (.bool false) rfl rfl (Yi.pv _ rfl) ?_
        refine RW.yi (.bool false) rfl rfl (Yi.pv _ rfl) ?_
        refine RW.pass rfl rfl ?_
        refine RW.yi (.bool false) rfl rfl (Yi.pv _ rfl) ?_
        refine RW.yi (.bool false) rfl rfl (Yi.pv _ rfl) ?_
        refine RW.pass rfl rfl ?_
        refine RW.pass rfl rfl ?_
        refine RW.yi (.bool false) rfl rfl (Yi.pv _ rfl) ?_
        refine RW.yi (.bool false) rfl rfl (Yi.pv _ rfl) ?_
        refine RW.nil ?_
        refine EW.next ?_
        refine CW.ret ?_
        obtain rfl := Option.some.inj hm
        exact EW.done (rs := [.tmp 0]) rfl (.tmp (t := 0) (v := .bool false) rfl .nil) (fun _ hM => ⟨(), rfl, (hM.pick [] rfl rfl)⟩)
    · dsimp only at hm
      refine RW.callM (cs := []) [] [.blk u12.1 67 (cat [(16, (iv (upd (upd (upd zf 0 1) 1 0) 2 2))), p1 (u12.2.1), (512, (iv r11.1)), p1 (.map (some u12.2.2))]), .row u12.2.1 3 1 r11.2.1.length (ec e1 r11.2.1), mpE u12.2.2 r11.2.2, .row s8 3 1 ([5, 6, 7] : List Int).length (ec e1 ([5, 6, 7] : List Int))] [ro (.slice none 0 0) 1 ([] : List Int).length (ec e1 ([] : List Int))] [0, 1, 2, 3] (fun (_ : Unit) => []) (fun (_ : Unit) => .tuple #[.pointer none, .int .i64 4]) rfl rfl rfl rfl Try.call11 rfl rfl rfl (fun w hM => lentN (A := []) hM 0 1 (lent0) rfl) (.inl fun _ => rfl) (fun w S' hM => c_huff_New K zf ([] : List Int) (.slice none 0 0) (.inr r24) w S' hM hr17) (fun _ => ?_)
      refine RW.yi (.tuple #[.pointer none, .int .i64 4]) rfl rfl (Yi.pv _ rfl) ?_
      refine RW.yi (.pointer none) rfl rfl (Yi.pv _ rfl) ?_
      refine RW.yi (.int .i64 4) rfl rfl (Yi.pv _ rfl) ?_
      refine RW.yi (.pointer none) rfl rfl (Yi.pv _ rfl) ?_
      refine RW.yi (.int .i64 4) rfl rfl (Yi.pv _ rfl) ?_
      refine RW.nil ?_
      refine EW.next ?_
      refine CW.seq ?_
      refine CW.region ?_
      refine RW.yi (.int .i64 0) rfl rfl (Yi.pv _ rfl) ?_
      refine RW.yi (.bool true) rfl rfl (Yi.pv _ rfl) ?_
      refine RW.yi (.bool true) rfl rfl (Yi.pv _ rfl) ?_
      refine RW.yi (.int .i64 r14.1) rfl rfl (Yi.pv _ rfl) ?_
      refine RW.yi (.bool (decide (r14.1 = 5))) rfl rfl (Yi.pv _ rfl) ?_
      refine RW.yi (.bool (decide (r14.1 = 5))) rfl rfl (Yi.pv _ rfl) ?_
      refine RW.yi (.bool (decide (r14.1 = 5))) rfl rfl (Yi.pv _ rfl) ?_
      refine RW.fork 32 (r14.1 = 5) rfl (fun h26 => ?_) (fun h26 => ?_)
      · replace hm := (if_pos h26).symm.trans hm
        refine RW.yi (.int .i64 r14.2.1) rfl rfl (Yi.pv _ rfl) ?_
        refine RW.yi (.bool (decide (r14.2.1 = 3))) rfl rfl (Yi.pv _ rfl) ?_
        refine RW.yi (.bool (decide (r14.2.1 = 3))) rfl rfl (Yi.pv _ rfl) ?_
        refine RW.yi (.bool (decide (r14.2.1 = 3))) rfl rfl (Yi.pv _ rfl) ?_
        refine RW.fork 36 (r14.2.1 = 3) rfl (fun h27 => ?_) (fun h27 => ?_)
        · replace hm := (if_pos h27).symm.trans hm
          refine RW.yi (.bool r14.2.2) rfl rfl (Yi.pv _ rfl) ?_
          refine RW.yi (.bool r14.2.2) rfl rfl (Yi.pv _ rfl) ?_
          refine RW.yi (.bool r14.2.2) rfl rfl (Yi.pv _ rfl) ?_
          refine RW.forkB 39 (r14.2.2) rfl (fun h28 => ?_) (fun h28 => ?_)
          · replace hm := (if_pos h28).symm.trans hm
            refine RW.yi (.int .i64 4) rfl rfl (Yi.pv _ rfl) ?_
            refine RW.yi (.bool true) rfl rfl (Yi.pv _ rfl) ?_
            refine RW.yi (.bool true) rfl rfl (Yi.pv _ rfl) ?_
            refine RW.yi (.bool true) rfl rfl (Yi.pv _ rfl) ?_
            refine RW.nil ?_
            refine EW.next ?_
            refine CW.ret ?_
            obtain rfl := Option.some.inj hm
            exact EW.done (rs := [.tmp 0]) rfl (.tmp (t := 0) (v := .bool true) rfl .nil) (fun _ hM => ⟨(), rfl, (hM.pick [] rfl rfl)⟩)
          · replace hm := (if_neg h28).symm.trans hm
            refine RW.pass rfl rfl ?_
            refine RW.pass rfl rfl ?_
            refine RW.yi (.bool false) rfl rfl (Yi.pv _ rfl) ?_
            refine RW.yi (.bool false) rfl rfl (Yi.pv _ rfl) ?_
            refine RW.nil ?_
            refine EW.next ?_
            refine CW.ret ?_
            obtain rfl := Option.some.inj hm
            exact EW.done (rs := [.tmp 0]) rfl (.tmp (t := 0) (v := .bool false) rfl .nil) (fun _ hM => ⟨(), rfl, (hM.pick [] rfl rfl)⟩)
        · replace hm := (if_neg h27).symm.trans hm
          refine RW.pass rfl rfl ?_
          refine RW.yi (.bool false) rfl rfl (Yi.pv _ rfl) ?_
          refine RW.yi (.bool false) rfl rfl (Yi.pv _ rfl) ?_
          refine RW.pass rfl rfl ?_
          refine RW.pass rfl rfl ?_
          refine RW.yi (.bool false) rfl rfl (Yi.pv _ rfl) ?_
          refine RW.yi (.bool false) rfl rfl (Yi.pv _ rfl) ?_
          refine RW.nil ?_
          refine EW.next ?_
          refine CW.ret ?_
          obtain rfl := Option.some.inj hm
          exact EW.done (rs := [.tmp 0]) rfl (.tmp (t := 0) (v := .bool false) rfl .nil) (fun _ hM => ⟨(), rfl, (hM.pick [] rfl rfl)⟩)
      · replace hm := (if_neg h26).symm.trans hm
        refine RW.pass rfl rfl ?_
        refine RW.pass rfl rfl ?_
        refine RW.yi (.bool false) rfl rfl (Yi.pv _ rfl) ?_
        refine RW.yi (.bool false) rfl rfl (Yi.pv _ rfl) ?_
        refine RW.pass rfl rfl ?_
        refine RW.yi (.bool false) rfl rfl (Yi.pv _ rfl) ?_
        refine RW.yi (.bool false) rfl rfl (Yi.pv _ rfl) ?_
        refine RW.pass rfl rfl ?_
        refine RW.pass rfl rfl ?_
        refine RW.yi (.bool false) rfl rfl (Yi.pv _ rfl) ?_
        refine RW.yi (.bool false) rfl rfl (Yi.pv _ rfl) ?_
        refine RW.nil ?_
        refine EW.next ?_
        refine CW.ret ?_
        obtain rfl := Option.some.inj hm
        exact EW.done (rs := [.tmp 0]) rfl (.tmp (t := 0) (v := .bool false) rfl .nil) (fun _ hM => ⟨(), rfl, (hM.pick [] rfl rfl)⟩)
  · dsimp only at hm
    refine RW.callM (cs := []) [] [.row s8 3 1 ([5, 6, 7] : List Int).length (ec e1 ([5, 6, 7] : List Int))] [ro s8 1 ([5, 6, 7] : List Int).length (ec e1 ([5, 6, 7] : List Int))] [0] (fun (_ : Unit) => []) (fun (_ : Unit) => .tuple #[.pointer none, .int .i64 4]) rfl rfl rfl rfl Try.call11 rfl rfl rfl (fun w hM => lentW (A := []) hM 0 rfl (lent0)) (.inl fun _ => rfl) (fun w S' hM => c_huff_New K (upd (upd (upd zf 0 1) 1 0) 2 2) ([5, 6, 7] : List Int) s8 (.inr r29) w S' hM hr10) (fun _ => ?_)
    refine RW.yi (.tuple #[.pointer none, .int .i64 4]) rfl rfl (Yi.pv _ rfl) ?_
    refine RW.yi (.pointer none) rfl rfl (Yi.pv _ rfl) ?_
    refine RW.yi (.int .i64 4) rfl rfl (Yi.pv _ rfl) ?_
    refine RW.yi (.pointer none) rfl rfl (Yi.pv _ rfl) ?_
    refine RW.yi (.int .i64 4) rfl rfl (Yi.pv _ rfl) ?_
    refine RW.nil ?_
    refine EW.next ?_
    refine CW.seq ?_
    refine CW.region ?_
    refine RW.yi (.pointer none) rfl rfl (Yi.pv _ rfl) ?_
    obtain ⟨r31, hr31, hm⟩ := of_bind hm
    refine RW.ca (.tuple #[.int .i64 0, .int .i64 0, .bool false]) rfl rfl (Ca.call (cs := []) [] rfl rfl Try.call13 (fun w hM => lent0) (fun w S' hM => (c_huff_Table_Code_2 K 7 r31 w S' hM hr31).mono (fun _ _ h => by obtain ⟨_, h1, h2⟩ := h; exact ⟨h1, h2⟩))) ?_
    refine RW.yi (.tuple #[.int .i64 0, .int .i64 0, .bool false]) rfl rfl (Yi.pv _ rfl) ?_
    refine RW.yi (.int .i64 0) rfl rfl (Yi.pv _ rfl) ?_
    refine RW.yi (.int .i64 0) rfl rfl (Yi.pv _ rfl) ?_
    refine RW.yi (.bool false) rfl rfl (Yi.pv _ rfl) ?_
    refine RW.yi (.int .i64 0) rfl rfl (Yi.pv _ rfl) ?_
    refine RW.yi (.int .i64 0) rfl rfl (Yi.pv _ rfl) ?_
    refine RW.yi (.bool false) rfl rfl (Yi.pv _ rfl) ?_
    refine RW.nil ?_
    refine EW.next ?_
    refine CW.seq ?_
    refine CW.region ?_
    refine RW.yi (.agg (cat [(16, (iv zf)), p1 (.slice none 0 0)])) rfl rfl (Yi.build (vs := []) _ rfl rfl (fun _ => by kernel_rfl)) ?_
    obtain ⟨r32, hr32, hm⟩ := of_bind hm
    rcases r32 with r33 | r36
    · dsimp only at hm
      refine RW.callM (cs := []) [] [.row s8 3 1 ([5, 6, 7] : List Int).length (ec e1 ([5, 6, 7] : List Int))] [ro (.slice none 0 0) 1 ([] : List Int).length (ec e1 ([] : List Int))] [0] (fun (u34 : Nat × Value × Nat) => [.blk u34.1 67 (cat [(16, (iv zf)), p1 (u34.2.1), (512, (iv r33.1)), p1 (.map (some u34.2.2))]), .row u34.2.1 3 1 r33.2.1.length (ec e1 r33.2.1), mpE u34.2.2 r33.2.2]) (fun (u34 : Nat × Value × Nat) => .tuple #[.pointer (some ⟨u34.1, 0, none⟩), .int .i64 0]) rfl rfl rfl rfl Try.call11 rfl rfl rfl (fun w hM => lentN (A := []) hM 0 1 (lent0) rfl) (.inl fun _ => rfl) (fun w S' hM => c_huff_New K zf ([] : List Int) (.slice none 0 0) (.inl r33) w S' hM hr32) (fun u34 => ?_)
      refine RW.yi (.tuple #[.pointer (some ⟨u34.1, 0, none⟩), .int .i64 0]) rfl rfl (Yi.pv _ rfl) ?_
      refine RW.yi (.pointer (some ⟨u34.1, 0, none⟩)) rfl rfl (Yi.pv _ rfl) ?_
      refine RW.yi (.int .i64 0) rfl rfl (Yi.pv _ rfl) ?_
      refine RW.yi (.pointer (some ⟨u34.1, 0, none⟩)) rfl rfl (Yi.pv _ rfl) ?_
      refine RW.yi (.int .i64 0) rfl rfl (Yi.pv _ rfl) ?_
      refine RW.nil ?_
      refine EW.next ?_
      refine CW.seq ?_
      refine CW.region ?_
      refine RW.yi (.int .i64 4) rfl rfl (Yi.pv _ rfl) ?_
      refine RW.yi (.bool false) rfl rfl (Yi.pv _ rfl) ?_
      refine RW.yi (.bool false) rfl rfl (Yi.pv _ rfl) ?_
      refine RW.pass rfl rfl ?_
      refine RW.pass rfl rfl ?_
      refine RW.yi (.bool false) rfl rfl (Yi.pv _ rfl) ?_
      refine RW.yi (.bool false) rfl rfl (Yi.pv _ rfl) ?_
      refine RW.pass rfl rfl ?_
      refine RW.pass rfl rfl ?_
      refine RW.yi (.bool false) rfl rfl (Yi.pv _ rfl) ?_
      refine RW.yi (.bool false) rfl rfl (Yi.pv _ rfl) ?_
      refine RW.pass rfl rfl ?_
      refine RW.yi (.bool false) rfl rfl (Yi.pv _ rfl) ?_
      refine RW.yi (.bool false) rfl rfl (Yi.pv _ rfl) ?_
      refine RW.pass rfl rfl ?_
      refine RW.pass rfl rfl ?_
      refine RW.yi (.bool false) rfl rfl (Yi.pv _ rfl) ?_
      refine RW.yi (.bool false) rfl rfl (Yi.pv _ rfl) ?_
      refine RW.nil ?_
      refine EW.next ?_
      refine CW.ret ?_
      obtain rfl := Option.some.inj hm
      exact EW.done (rs := [.tmp 0]) rfl (.tmp (t := 0) (v := .bool false) rfl .nil) (fun _ hM => ⟨(), rfl, (hM.pick [] rfl rfl)⟩)
    · dsimp only at hm
      refine RW.callM (cs := []) [] [.row s8 3 1 ([5, 6, 7] : List Int).length (ec e1 ([5, 6, 7] : List Int))] [ro (.slice none 0 0) 1 ([] : List Int).length (ec e1 ([] : List Int))] [0] (fun (_ : Unit) => []) (fun (_ : Unit) => .tuple #[.pointer none, .int .i64 4]) rfl rfl rfl rfl Try.call11 rfl rfl rfl (fun w hM => lentN (A := []) hM 0 1 (lent0) rfl) (.inl fun _ => rfl) (fun w S' hM => c_huff_New K zf ([] : List Int) (.slice none 0 0) (.inr r36) w S' hM hr32) (fun _ => ?_)
      refine RW.yi (.tuple #[.pointer none, .int .i64 4]) rfl rfl (Yi.pv _ rfl) ?_
      refine RW.yi (.pointer none) rfl rfl (Yi.pv _ rfl) ?_
      refine RW.yi (.int .i64 4) rfl rfl (Yi.pv _ rfl) ?_
      refine RW.yi (.pointer none) rfl rfl (Yi.pv _ rfl) ?_
      refine RW.yi (.int .i64 4) rfl rfl (Yi.pv _ rfl) ?_
      refine RW.nil ?_
      refine EW.next ?_
      refine CW.seq ?_
      refine CW.region ?_
      refine RW.yi (.int .i64 4) rfl rfl (Yi.pv _ rfl) ?_
      refine RW.yi (.bool false) rfl rfl (Yi.pv _ rfl) ?_
      refine RW.yi (.bool false) rfl rfl (Yi.pv _ rfl) ?_
      refine RW.pass rfl rfl ?_
      refine RW.pass rfl rfl ?_
      refine RW.yi (.bool false) rfl rfl (Yi.pv _ rfl) ?_
      refine RW.yi (.bool false) rfl rfl (Yi.pv _ rfl) ?_
      refine RW.pass rfl rfl ?_
      refine RW.pass rfl rfl ?_
      refine RW.yi (.bool false) rfl rfl (Yi.pv _ rfl) ?_
      refine RW.yi (.bool false) rfl rfl (Yi.pv _ rfl) ?_
      refine RW.pass rfl rfl ?_
      refine RW.yi (.bool false) rfl rfl (Yi.pv _ rfl) ?_
      refine RW.yi (.bool false) rfl rfl (Yi.pv _ rfl) ?_
      refine RW.pass rfl rfl ?_
      refine RW.pass rfl rfl ?_
      refine RW.yi (.bool false) rfl rfl (Yi.pv _ rfl) ?_
      refine RW.yi (.bool false) rfl rfl (Yi.pv _ rfl) ?_
      refine RW.nil ?_
      refine EW.next ?_
      refine CW.ret ?_
      obtain rfl := Option.some.inj hm
      exact EW.done (rs := [.tmp 0]) rfl (.tmp (t := 0) (v := .bool false) rfl .nil) (fun _ hM => ⟨(), rfl, (hM.pick [] rfl rfl)⟩)

end Go.Proofs.Ytoepbakbpimkiaa
