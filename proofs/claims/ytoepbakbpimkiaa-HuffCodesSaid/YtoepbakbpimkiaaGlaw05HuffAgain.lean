import Derived.Test.YtoepbakbpimkiaaN8
import Derived.Test.YtoepbakbpimkiaaProg
import Derived.Test.YtoepbakbpimkiaaGhuffNew
import Derived.Test.YtoepbakbpimkiaaGhuffTableCode
import Derived.Test.YtoepbakbpimkiaaGhuffTableCode2
import Derived.Test.YtoepbakbpimkiaaGhuffTableSpec
import Derived.Test.YtoepbakbpimkiaaGhuffTableSpec2
import Derived.Test.YtoepbakbpimkiaaGlaw05awake
import Derived.Test.YtoepbakbpimkiaaGlaw05own
set_option maxRecDepth 100000
set_option maxHeartbeats 1000000
namespace Go.Proofs.Ytoepbakbpimkiaa
open Go Go.RowKit K

def law05_HuffAgain (K : Nat) (a0_0 : (Nat → Int)) (a0_1 : (List Int)) (a1 : Int) : Option (Bool) :=
  (if 300 < (a0_1.length : Int) then ((law05_awake K ).bind fun r13 => some r13) else ((law05_own K a0_0 a0_1).bind fun r14 => ((huff_New K a0_0 (([] : List Int) ++ a0_1)).bind fun r17 => match r17 with | .inl r18 => ((huff_Table_Spec K a0_0 r18.2.1 r18.1 r18.2.2).bind fun r21 => ((huff_New K a0_0 r21).bind fun r25 => match r25 with | .inl r26 => ((huff_Table_Code K a0_0 r18.2.1 r18.1 r18.2.2 a1).bind fun r29 => ((huff_Table_Code K a0_0 r26.2.1 r26.1 r26.2.2 a1).bind fun r32 => (if r29.1 = r32.1 then (if r29.2.1 = r32.2.1 then (if r29.2.2 = true then (if r32.2.2 = true then ((law05_awake K ).bind fun r39 => some r39) else some false) else (if r32.2.2 = true then some false else ((law05_awake K ).bind fun r41 => some r41))) else some false) else some false))) | .inr r42 => ((huff_Table_Code K a0_0 r18.2.1 r18.1 r18.2.2 a1).bind fun r44 => ((huff_Table_Code_2 K a1).bind fun r47 => some false)))) | .inr r48 => ((huff_Table_Spec_2 K ).bind fun r50 => ((huff_New K zf ([] : List Int)).bind fun r51 => match r51 with | .inl r52 => some false | .inr r55 => ((law05_awake K ).bind fun r57 => some r57))))))

theorem c_law05_HuffAgain (K : Nat) (a0_0 : (Nat → Int)) (a0_1 : (List Int)) (a1 : Int) (sa0_1 : Value) (r : Bool) (w0 : World) (S : Own) (hM0 : Mem w0 S [ro sa0_1 1 a0_1.length (ec e1 a0_1)] w0) (hm : law05_HuffAgain K a0_0 a0_1 a1 = some r) : Calls Try.prog 6 #[.agg (cat [(16, (iv a0_0)), p1 (sa0_1)]), .int .i64 a1] w0 fun e w' => ∃ _u : Unit, e = .returned (.bool r) ∧ Mem w0 S [] w' := by
  unfold law05_HuffAgain at hm
  refine calls_CW (n := 77) w0 S [ro sa0_1 1 a0_1.length (ec e1 a0_1)] Try.func6 rfl rfl rfl hM0 ?_
  refine CW.seq ?_
  refine CW.region ?_
  refine RW.box (v := .agg (cat [(16, (iv a0_0)), p1 (sa0_1)])) rfl rfl rfl (fun b11 => ?_)
  refine RW.yi (.bool false) rfl rfl (Yi.pv _ rfl) ?_
  refine RW.nil ?_
  refine EW.next ?_
  refine CW.seq ?_
  refine CW.seq ?_
  refine CW.region ?_
  refine RW.yi (.pointer (some ⟨b11, 16, none⟩)) rfl rfl (Yi.fieldAddr (j := 1) Try.underlying25 rfl Try.sizeOf23 rfl) ?_
  refine RW.yi (sa0_1) rfl rfl (Yi.load1 (i := 0) _ rfl rfl Try.isAgg23 (cat_get1 (ps := [(16, (iv a0_0)), p1 (sa0_1)]) 1 rfl rfl)) ?_
  refine RW.yi (.int .i64 (a0_1.length : Int)) rfl rfl (Yi.lenS (cs := ec e1 a0_1) (m := a0_1.length) Try.underlying23 rfl (rdF 1 rfl)) ?_
  refine RW.yi (.bool (decide (300 < (a0_1.length : Int)))) rfl rfl (Yi.pv _ rfl) ?_
  refine RW.nil ?_
  refine EW.next ?_
  refine CW.fork 18 (300 < (a0_1.length : Int)) rfl (fun h12 => ?_) (fun h12 => ?_)
  · replace hm := (if_pos h12).symm.trans hm
    refine CW.cond_true rfl ?_
    refine CW.seq ?_
    refine CW.region ?_
    obtain ⟨r13, hr13, hm⟩ := of_bind hm
    refine RW.ca (.bool r13) rfl rfl (Ca.call (cs := []) [] rfl rfl Try.call10 (fun w hM => lent0) (fun w S' hM => (c_law05_awake K  r13 w S' hM hr13).mono (fun _ _ h => by obtain ⟨_, h1, h2⟩ := h; exact ⟨h1, h2⟩))) ?_
    refine RW.yi (.bool r13) rfl rfl (Yi.pv _ rfl) ?_
    refine RW.nil ?_
    refine EW.next ?_
    refine CW.ret ?_
    refine EW.thr ?_
    obtain rfl := Option.some.inj hm
    exact EW.done (rs := [.tmp 4]) rfl (.tmp (t := 4) (v := .bool r13) rfl .nil) (fun _ hM => ⟨(), rfl, (hM.pick [] rfl rfl)⟩)
  · replace hm := (if_neg h12).symm.trans hm
    refine CW.cond_false rfl ?_
    refine CW.skip ?_
    refine EW.next ?_
    refine CW.seq ?_
    refine CW.region ?_
    refine RW.yi (.agg (cat [(16, (iv a0_0)), p1 (sa0_1)])) rfl rfl (Yi.loadW (i := 0) rfl rfl Try.isAgg25 (by simp only [cat_size]; exact Try.sizeOf25)) ?_
    obtain ⟨r14, hr14, hm⟩ := of_bind hm
    refine RW.callM (cs := []) [] [.blk b11 25 (cat [(16, (iv a0_0)), p1 (sa0_1)]), ro sa0_1 1 a0_1.length (ec e1 a0_1)] [ro sa0_1 1 a0_1.length (ec e1 a0_1)] [0, 1] (fun (u15 : Value) => [.row u15 3 1 (([] : List Int) ++ a0_1).length (ec e1 (([] : List Int) ++ a0_1))]) (fun (u15 : Value) => .agg (cat [(16, (iv a0_0)), p1 (u15)])) rfl rfl rfl rfl Try.call12 rfl rfl rfl (fun w hM => lentF (A := []) hM 1 rfl (lent0)) (.inl fun _ => rfl) (fun w S' hM => c_law05_own K a0_0 a0_1 sa0_1 r14 w S' hM hr14) (fun u15 => ?_)
    obtain ⟨r17, hr17, hm⟩ := of_bind hm
    rcases r17 with r18 | r48
    · dsimp only at hm
      refine RW.callM (cs := []) [] [.row u15 3 1 (([] : List Int) ++ a0_1).length (ec e1 (([] : List Int) ++ a0_1)), .blk b11 25 (cat [(16, (iv a0_0)), p1 (sa0_1)]), ro sa0_1 1 a0_1.length (ec e1 a0_1)] [ro u15 1 (([] : List Int) ++ a0_1).length (ec e1 (([] : List Int) ++ a0_1))] [0, 1, 2] (fun (u19 : Nat × Value × Nat) => [.blk u19.1 67 (cat [(16, (iv a0_0)), p1 (u19.2.1), (512, (iv r18.1)), p1 (.map (some u19.2.2))]), .row u19.2.1 3 1 r18.2.1.length (ec e1 r18.2.1), mpE u19.2.2 r18.2.2]) (fun (u19 : Nat × Value × Nat) => .tuple #[.pointer (some ⟨u19.1, 0, none⟩), .int .i64 0]) rfl rfl rfl rfl Try.call11 rfl rfl rfl (fun w hM => lentW (A := []) hM 0 rfl (lent0)) (.inl fun _ => rfl) (fun w S' hM => c_huff_New K a0_0 (([] : List Int) ++ a0_1) u15 (.inl r18) w S' hM hr17) (fun u19 => ?_)
      refine RW.yi (.tuple #[.pointer (some ⟨u19.1, 0, none⟩), .int .i64 0]) rfl rfl (Yi.pv _ rfl) ?_
      refine RW.yi (.pointer (some ⟨u19.1, 0, none⟩)) rfl rfl (Yi.pv _ rfl) ?_
      refine RW.yi (.int .i64 0) rfl rfl (Yi.pv _ rfl) ?_
      refine RW.yi (.pointer (some ⟨u19.1, 0, none⟩)) rfl rfl (Yi.pv _ rfl) ?_
      refine RW.yi (.int .i64 0) rfl rfl (Yi.pv _ rfl) ?_
      refine RW.nil ?_
      refine EW.next ?_
      refine CW.seq ?_
      refine CW.region ?_
      refine RW.yi (.pointer (some ⟨u19.1, 0, none⟩)) rfl rfl (Yi.pv _ rfl) ?_
      obtain ⟨r21, hr21, hm⟩ := of_bind hm
      refine RW.callM (cs := []) [.blk u19.1 67 (cat [(16, (iv a0_0)), p1 (u19.2.1), (512, (iv r18.1)), p1 (.map (some u19.2.2))]), .row u19.2.1 3 1 r18.2.1.length (ec e1 r18.2.1), mpE u19.2.2 r18.2.2] [.row u15 3 1 (([] : List Int) ++ a0_1).length (ec e1 (([] : List Int) ++ a0_1)), .blk b11 25 (cat [(16, (iv a0_0)), p1 (sa0_1)]), ro sa0_1 1 a0_1.length (ec e1 a0_1)] [] [0, 1, 2, 3, 4, 5] (fun (u22 : Value) => [.row u22 3 1 r21.length (ec e1 r21), .blk u19.1 67 (cat [(16, (iv a0_0)), p1 (u19.2.1), (512, (iv r18.1)), p1 (.map (some u19.2.2))]), .row u19.2.1 3 1 r18.2.1.length (ec e1 r18.2.1), mpE u19.2.2 r18.2.2]) (fun (u22 : Value) => .agg (cat [(16, (iv a0_0)), p1 (u22)])) rfl rfl rfl rfl Try.call17 rfl rfl rfl (fun w hM => lent0) (.inl fun _ => rfl) (fun w S' hM => c_huff_Table_Spec K a0_0 r18.2.1 r18.1 r18.2.2 u19.1 u19.2.1 u19.2.2 r21 w S' hM hr21) (fun u22 => ?_)
      obtain ⟨r25, hr25, hm⟩ := of_bind hm
      rcases r25 with r26 | r42
      · dsimp only at hm
        refine RW.callM (cs := []) [] [.row u22 3 1 r21.length (ec e1 r21), .blk u19.1 67 (cat [(16, (iv a0_0)), p1 (u19.2.1), (512, (iv r18.1)), p1 (.map (some u19.2.2))]), .row u19.2.1 3 1 r18.2.1.length (ec e1 r18.2.1), mpE u19.2.2 r18.2.2, .row u15 3 1 (([] : List Int) ++ a0_1).length (ec e1 (([] : List Int) ++ a0_1)), .blk b11 25 (cat [(16, (iv a0_0)), p1 (sa0_1)]), ro sa0_1 1 a0_1.length (ec e1 a0_1)] [ro u22 1 r21.length (ec e1 r21)] [0, 1, 2, 3, 4, 5, 6] (fun (u27 : Nat × Value × Nat) => [.blk u27.1 67 (cat [(16, (iv a0_0)), p1 (u27.2.1), (512, (iv r26.1)), p1 (.map (some u27.2.2))]), .row u27.2.1 3 1 r26.2.1.length (ec e1 r26.2.1), mpE u27.2.2 r26.2.2]) (fun (u27 : Nat × Value × Nat) => .tuple #[.pointer (some ⟨u27.1, 0, none⟩), .int .i64 0]) rfl rfl rfl rfl Try.call11 rfl rfl rfl (fun w hM => lentW (A := []) hM 0 rfl (lent0)) (.inl fun _ => rfl) (fun w S' hM => c_huff_New K a0_0 r21 u22 (.inl r26) w S' hM hr25) (fun u27 => ?_)
        refine RW.yi (.tuple #[.pointer (some ⟨u27.1, 0, none⟩), .int .i64 0]) rfl rfl (Yi.pv _ rfl) ?_
        refine RW.yi (.pointer (some ⟨u27.1, 0, none⟩)) rfl rfl (Yi.pv _ rfl) ?_
        refine RW.yi (.int .i64 0) rfl rfl (Yi.pv _ rfl) ?_
        refine RW.yi (.pointer (some ⟨u27.1, 0, none⟩)) rfl rfl (Yi.pv _ rfl) ?_
        refine RW.yi (.int .i64 0) rfl rfl (Yi.pv _ rfl) ?_
        refine RW.nil ?_
        refine EW.next ?_
        refine CW.seq ?_
        refine CW.seq ?_
        refine CW.region ?_
        refine RW.yi (.int .i64 0) rfl rfl (Yi.pv _ rfl) ?_
        refine RW.yi (.bool false) rfl rfl (Yi.pv _ rfl) ?_
        refine RW.nil ?_
        refine EW.next ?_
        refine CW.cond_false rfl ?_
        refine CW.skip ?_
        refine EW.next ?_
        refine CW.seq ?_
        refine CW.region ?_
        refine RW.yi (.pointer (some ⟨u19.1, 0, none⟩)) rfl rfl (Yi.pv _ rfl) ?_
        refine RW.yi (.int .i64 a1) rfl rfl (Yi.pv _ rfl) ?_
        obtain ⟨r29, hr29, hm⟩ := of_bind hm
        refine RW.callM (cs := []) [.blk u19.1 67 (cat [(16, (iv a0_0)), p1 (u19.2.1), (512, (iv r18.1)), p1 (.map (some u19.2.2))]), .row u19.2.1 3 1 r18.2.1.length (ec e1 r18.2.1), mpE u19.2.2 r18.2.2] [.blk u27.1 67 (cat [(16, (iv a0_0)), p1 (u27.2.1), (512, (iv r26.1)), p1 (.map (some u27.2.2))]), .row u27.2.1 3 1 r26.2.1.length (ec e1 r26.2.1), mpE u27.2.2 r26.2.2, .row u22 3 1 r21.length (ec e1 r21), .row u15 3 1 (([] : List Int) ++ a0_1).length (ec e1 (([] : List Int) ++ a0_1)), .blk b11 25 (cat [(16, (iv a0_0)), p1 (sa0_1)]), ro sa0_1 1 a0_1.length (ec e1 a0_1)] [] [4, 5, 6, 0, 1, 2, 3, 7, 8, 9] (fun (_ : Unit) => [.blk u19.1 67 (cat [(16, (iv a0_0)), p1 (u19.2.1), (512, (iv r18.1)), p1 (.map (some u19.2.2))]), .row u19.2.1 3 1 r18.2.1.length (ec e1 r18.2.1), mpE u19.2.2 r18.2.2]) (fun (_ : Unit) => .tuple #[.int .i64 r29.1, .int .i64 r29.2.1, .bool r29.2.2]) rfl rfl rfl rfl Try.call13 rfl rfl rfl (fun w hM => lent0) (.inl fun _ => rfl) (fun w S' hM => c_huff_Table_Code K a0_0 r18.2.1 r18.1 r18.2.2 a1 u19.1 u19.2.1 u19.2.2 r29 w S' hM hr29) (fun _ => ?_)
        refine RW.yi (.tuple #[.int .i64 r29.1, .int .i64 r29.2.1, .bool r29.2.2]) rfl rfl (Yi.pv _ rfl) ?_
        refine RW.yi (.int .i64 r29.1) rfl rfl (Yi.pv _ rfl) ?_
        refine RW.yi (.int .i64 r29.2.1) rfl rfl (Yi.pv _ rfl) ?_
        refine RW.yi (.bool r29.2.2) rfl rfl (Yi.pv _ rfl) ?_
        refine RW.yi (.int .i64 r29.1) rfl rfl (Yi.pv _ rfl) ?_
        refine RW.yi (.int .i64 r29.2.1) rfl rfl (Yi.pv _ rfl) ?_
        refine RW.yi (.bool r29.2.2) rfl rfl (Yi.pv _ rfl) ?_
        refine RW.nil ?_
        refine EW.next ?_
        refine CW.seq ?_
        refine CW.region ?_
        refine RW.yi (.pointer (some ⟨u27.1, 0, none⟩)) rfl rfl (Yi.pv _ rfl) ?_
        refine RW.yi (.int .i64 a1) rfl rfl (Yi.pv _ rfl) ?_
        obtain ⟨r32, hr32, hm⟩ := of_bind hm
        refine RW.callM (cs := []) [.blk u27.1 67 (cat [(16, (iv a0_0)), p1 (u27.2.1), (512, (iv r26.1)), p1 (.map (some u27.2.2))]), .row u27.2.1 3 1 r26.2.1.length (ec e1 r26.2.1), mpE u27.2.2 r26.2.2] [.blk u19.1 67 (cat [(16, (iv a0_0)), p1 (u19.2.1), (512, (iv r18.1)), p1 (.map (some u19.2.2))]), .row u19.2.1 3 1 r18.2.1.length (ec e1 r18.2.1), mpE u19.2.2 r18.2.2, .row u22 3 1 r21.length (ec e1 r21), .row u15 3 1 (([] : List Int) ++ a0_1).length (ec e1 (([] : List Int) ++ a0_1)), .blk b11 25 (cat [(16, (iv a0_0)), p1 (sa0_1)]), ro sa0_1 1 a0_1.length (ec e1 a0_1)] [] [3, 4, 5, 0, 1, 2, 6, 7, 8, 9] (fun (_ : Unit) => [.blk u27.1 67 (cat [(16, (iv a0_0)), p1 (u27.2.1), (512, (iv r26.1)), p1 (.map (some u27.2.2))]), .row u27.2.1 3 1 r26.2.1.length (ec e1 r26.2.1), mpE u27.2.2 r26.2.2]) (fun (_ : Unit) => .tuple #[.int .i64 r32.1, .int .i64 r32.2.1, .bool r32.2.2]) rfl rfl rfl rfl Try.call13 rfl rfl rfl (fun w hM => lent0) (.inl fun _ => rfl) (fun w S' hM => c_huff_Table_Code K a0_0 r26.2.1 r26.1 r26.2.2 a1 u27.1 u27.2.1 u27.2.2 r32 w S' hM hr32) (fun _ => ?_)
        refine RW.yi (.tuple #[.int .i64 r32.1, .int .i64 r32.2.1, .bool r32.2.2]) rfl rfl (Yi.pv _ rfl) ?_
        refine RW.yi (.int .i64 r32.1) rfl rfl (Yi.pv _ rfl) ?_
        refine RW.yi (.int .i64 r32.2.1) rfl rfl (Yi.pv _ rfl) ?_
        refine RW.yi (.bool r32.2.2) rfl rfl (Yi.pv _ rfl) ?_
        refine RW.yi (.int .i64 r32.1) rfl rfl (Yi.pv _ rfl) ?_
        refine RW.yi (.int .i64 r32.2.1) rfl rfl (Yi.pv _ rfl) ?_
        refine RW.yi (.bool r32.2.2) rfl rfl (Yi.pv _ rfl) ?_
        refine RW.nil ?_
        refine EW.next ?_
        refine CW.seq ?_
        refine CW.region ?_
        refine RW.yi (.int .i64 0) rfl rfl (Yi.pv _ rfl) ?_
        refine RW.yi (.bool true) rfl rfl (Yi.pv _ rfl) ?_
        refine RW.yi (.bool true) rfl rfl (Yi.pv _ rfl) ?_
        refine RW.yi (.int .i64 r29.1) rfl rfl (Yi.pv _ rfl) ?_
        refine RW.yi (.int .i64 r32.1) rfl rfl (Yi.pv _ rfl) ?_
        refine RW.yi (.bool (decide (r29.1 = r32.1))) rfl rfl (Yi.pv _ rfl) ?_
        refine RW.yi (.bool (decide (r29.1 = r32.1))) rfl rfl (Yi.pv _ rfl) ?_
        refine RW.yi (.bool (decide (r29.1 = r32.1))) rfl rfl (Yi.pv _ rfl) ?_
        refine RW.fork 64 (r29.1 = r32.1) rfl (fun h35 => ?_) (fun h35 => ?_)
        · replace hm := (if_pos h35).symm.trans hm
          refine RW.yi (.int .i64 r29.2.1) rfl rfl (Yi.pv _ rfl) ?_
          refine RW.yi (.int .i64 r32.2.1) rfl rfl (Yi.pv _ rfl) ?_
          refine RW.yi (.bool (decide (r29.2.1 = r32.2.1))) rfl rfl (Yi.pv _ rfl) ?_
          refine RW.yi (.bool (decide (r29.2.1 = r32.2.1))) rfl rfl (Yi.pv _ rfl) ?_
          refine RW.yi (.bool (decide (r29.2.1 = r32.2.1))) rfl rfl (Yi.pv _ rfl) ?_
          refine RW.fork 69 (r29.2.1 = r32.2.1) rfl (fun h36 => ?_) (fun h36 => ?_)
          · replace hm := (if_pos h36).symm.trans hm
            refine RW.yi (.bool r29.2.2) rfl rfl (Yi.pv _ rfl) ?_
            refine RW.yi (.bool r32.2.2) rfl rfl (Yi.pv _ rfl) ?_
            refine RW.forkB 70 (r29.2.2) rfl (fun h37 => ?_) (fun h37 => ?_)
            · replace hm := (if_pos h37).symm.trans hm
              refine RW.forkB 71 (r32.2.2) rfl (fun h38 => ?_) (fun h38 => ?_)
              · replace hm := (if_pos h38).symm.trans hm
                refine RW.yi (.bool true) rfl rfl (Yi.eqB (b := true) (c := true) rfl rfl Try.underlying4) ?_
                refine RW.yi (.bool true) rfl rfl (Yi.pv _ rfl) ?_
                refine RW.yi (.bool true) rfl rfl (Yi.pv _ rfl) ?_
                obtain ⟨r39, hr39, hm⟩ := of_bind hm
                refine RW.ca (.bool r39) rfl rfl (Ca.call (cs := []) [] rfl rfl Try.call10 (fun w hM => lent0) (fun w S' hM => (c_law05_awake K  r39 w S' hM hr39).mono (fun _ _ h => by obtain ⟨_, h1, h2⟩ := h; exact ⟨h1, h2⟩))) ?_
                refine RW.yi (.bool r39) rfl rfl (Yi.pv _ rfl) ?_
                refine RW.yi (.bool r39) rfl rfl (Yi.pv _ rfl) ?_
                refine RW.nil ?_
                refine EW.next ?_
                refine CW.ret ?_
                obtain rfl := Option.some.inj hm
                exact EW.done (rs := [.tmp 4]) rfl (.tmp (t := 4) (v := .bool r39) rfl .nil) (fun _ hM => ⟨(), rfl, (hM.pick [] rfl rfl)⟩)
              · replace hm := (if_neg h38).symm.trans hm
                refine RW.yi (.bool false) rfl rfl (Yi.eqB (b := true) (c := false) rfl rfl Try.underlying4) ?_
                refine RW.yi (.bool false) rfl rfl (Yi.pv _ rfl) ?_
                refine RW.yi (.bool false) rfl rfl (Yi.pv _ rfl) ?_
                refine RW.pass rfl rfl ?_
                refine RW.yi (.bool false) rfl rfl (Yi.pv _ rfl) ?_
                refine RW.yi (.bool false) rfl rfl (Yi.pv _ rfl) ?_
                refine RW.nil ?_
                refine EW.next ?_
                refine CW.ret ?_
                obtain rfl := Option.some.inj hm
                exact EW.done (rs := [.tmp 4]) rfl (.tmp (t := 4) (v := .bool false) rfl .nil) (fun _ hM => ⟨(), rfl, (hM.pick [] rfl rfl)⟩)
            · replace hm := (if_neg h37).symm.trans hm
              refine RW.forkB 71 (r32.2.2) rfl (fun h40 => ?_) (fun h40 => ?_)
              · replace hm := (if_pos h40).symm.trans hm
                refine RW.yi (.bool false) rfl rfl (Yi.eqB (b := false) (c := true) rfl rfl Try.underlying4) ?_
                refine RW.yi (.bool false) rfl rfl (Yi.pv _ rfl) ?_
                refine RW.yi (.bool false) rfl rfl (Yi.pv _ rfl) ?_
                refine RW.pass rfl rfl ?_
                refine RW.yi (.bool false) rfl rfl (Yi.pv _ rfl) ?_
                refine RW.yi (.bool false) rfl rfl (Yi.pv _ rfl) ?_
                refine RW.nil ?_
                refine EW.next ?_
                refine CW.ret ?_
                obtain rfl := Option.some.inj hm
                exact EW.done (rs := [.tmp 4]) rfl (.tmp (t := 4) (v := .bool false) rfl .nil) (fun _ hM => ⟨(), rfl, (hM.pick [] rfl rfl)⟩)
              · replace hm := (if_neg h40).symm.trans hm
                refine RW.yi (.bool true) rfl rfl (Yi.eqB (b := false) (c := false) rfl rfl Try.underlying4) ?_
                refine RW.yi (.bool true) rfl rfl (Yi.pv _ rfl) ?_
                refine RW.yi (.bool true) rfl rfl (Yi.pv _ rfl) ?_
                obtain ⟨r41, hr41, hm⟩ := of_bind hm
                refine RW.ca (.bool r41) rfl rfl (Ca.call (cs := []) [] rfl rfl Try.call10 (fun w hM => lent0) (fun w S' hM => (c_law05_awake K  r41 w S' hM hr41).mono (fun _ _ h => by obtain ⟨_, h1, h2⟩ := h; exact ⟨h1, h2⟩))) ?_
                refine RW.yi (.bool r41) rfl rfl (Yi.pv _ rfl) ?_
                refine RW.yi (.bool r41) rfl rfl (Yi.pv _ rfl) ?_
                refine RW.nil ?_
                refine EW.next ?_
                refine CW.ret ?_
                obtain rfl := Option.some.inj hm
                exact EW.done (rs := [.tmp 4]) rfl (.tmp (t := 4) (v := .bool r41) rfl .nil) (fun _ hM => ⟨(), rfl, (hM.pick [] rfl rfl)⟩)
          · replace hm := (if_neg h36).symm.trans hm
            refine RW.pass rfl rfl ?_
            refine RW.pass rfl rfl ?_
            refine RW.pass rfl rfl ?_
            refine RW.yi (.bool false) rfl rfl (Yi.pv _ rfl) ?_
            refine RW.yi (.bool false) rfl rfl (Yi.pv _ rfl) ?_
            refine RW.pass rfl rfl ?_
            refine RW.yi (.bool false) rfl rfl (Yi.pv _ rfl) ?_
            refine RW.yi (.bool false) rfl rfl (Yi.pv _ rfl) ?_
            refine RW.nil ?_
            refine EW.next ?_
            refine CW.ret ?_
            obtain rfl := Option.some.inj hm
            exact EW.done (rs := [.tmp 4]) rfl (.tmp (t := 4) (v := .bool false) rfl .nil) (fun _ hM => ⟨(), rfl, (hM.pick [] rfl rfl)⟩)
        · replace hm := (if_neg h35).symm.trans hm
          refine RW.pass rfl rfl ?_
          refine RW.pass rfl rfl ?_
          refine RW.pass rfl rfl ?_
          refine RW.yi (.bool false) rfl rfl (Yi.pv _ rfl) ?_
          refine RW.yi (.bool false) rfl rfl (Yi.pv _ rfl) ?_
          refine RW.pass rfl rfl ?_
          refine RW.pass rfl rfl ?_
          refine RW.pass rfl rfl ?_
          refine RW.yi (.bool false) rfl rfl (Yi.pv _ rfl) ?_
          refine RW.yi (.bool false) rfl rfl (Yi.pv _ rfl) ?_
          refine RW.pass rfl rfl ?_
          refine RW.yi (.bool false) rfl rfl (Yi.pv _ rfl) ?_
          refine RW.yi (.bool false) rfl rfl (Yi.pv _ rfl) ?_
          refine RW.nil ?_
          refine EW.next ?_
          refine CW.ret ?_
          obtain rfl := Option.some.inj hm
          exact EW.done (rs := [.tmp 4]) rfl (.tmp (t := 4) (v := .bool false) rfl .nil) (fun _ hM => ⟨(), rfl, (hM.pick [] rfl rfl)⟩)
      · dsimp only at hm
        refine RW.callM (cs := []) [] [.row u22 3 1 r21.length (ec e1 r21), .blk u19.1 67 (cat [(16, (iv a0_0)), p1 (u19.2.1), (512, (iv r18.1)), p1 (.map (some u19.2.2))]), .row u19.2.1 3 1 r18.2.1.length (ec e1 r18.2.1), mpE u19.2.2 r18.2.2, .row u15 3 1 (([] : List Int) ++ a0_1).length (ec e1 (([] : List Int) ++ a0_1)), .blk b11 25 (cat [(16, (iv a0_0)), p1 (sa0_1)]), ro sa0_1 1 a0_1.length (ec e1 a0_1)] [ro u22 1 r21.length (ec e1 r21)] [0, 1, 2, 3, 4, 5, 6] (fun (_ : Unit) => []) (fun (_ : Unit) => .tuple #[.pointer none, .int .i64 4]) rfl rfl rfl rfl Try.call11 rfl rfl rfl (fun w hM => lentW (A := []) hM 0 rfl (lent0)) (.inl fun _ => rfl) (fun w S' hM => c_huff_New K a0_0 r21 u22 (.inr r42) w S' hM hr25) (fun _ => ?_)
        refine RW.yi (.tuple #[.pointer none, .int .i64 4]) rfl rfl (Yi.pv _ rfl) ?_
        refine RW.yi (.pointer none) rfl rfl (Yi.pv _ rfl) ?_
        refine RW.yi (.int .i64 4) rfl rfl (Yi.pv _ rfl) ?_
        refine RW.yi (.pointer none) rfl rfl (Yi.pv _ rfl) ?_
        refine RW.yi (.int .i64 4) rfl rfl (Yi.pv _ rfl) ?_
        refine RW.nil ?_
        refine EW.next ?_
        refine CW.seq ?_
        refine CW.seq ?_
        refine CW.region ?_
        refine RW.yi (.int .i64 0) rfl rfl (Yi.pv _ rfl) ?_
        refine RW.yi (.bool false) rfl rfl (Yi.pv _ rfl) ?_
        refine RW.nil ?_
        refine EW.next ?_
        refine CW.cond_false rfl ?_
        refine CW.skip ?_
        refine EW.next ?_
        refine CW.seq ?_
        refine CW.region ?_
        refine RW.yi (.pointer (some ⟨u19.1, 0, none⟩)) rfl rfl (Yi.pv _ rfl) ?_
        refine RW.yi (.int .i64 a1) rfl rfl (Yi.pv _ rfl) ?_
        obtain ⟨r44, hr44, hm⟩ := of_bind hm
        refine RW.callM (cs := []) [.blk u19.1 67 (cat [(16, (iv a0_0)), p1 (u19.2.1), (512, (iv r18.1)), p1 (.map (some u19.2.2))]), .row u19.2.1 3 1 r18.2.1.length (ec e1 r18.2.1), mpE u19.2.2 r18.2.2] [.row u22 3 1 r21.length (ec e1 r21), .row u15 3 1 (([] : List Int) ++ a0_1).length (ec e1 (([] : List Int) ++ a0_1)), .blk b11 25 (cat [(16, (iv a0_0)), p1 (sa0_1)]), ro sa0_1 1 a0_1.length (ec e1 a0_1)] [] [1, 2, 3, 0, 4, 5, 6] (fun (_ : Unit) => [.blk u19.1 67 (cat [(16, (iv a0_0)), p1 (u19.2.1), (512, (iv r18.1)), p1 (.map (some u19.2.2))]), .row u19.2.1 3 1 r18.2.1.length (ec e1 r18.2.1), mpE u19.2.2 r18.2.2]) (fun (_ : Unit) => .tuple #[.int .i64 r44.1, .int .i64 r44.2.1, .bool r44.2.2]) rfl rfl rfl rfl Try.call13 rfl rfl rfl (fun w hM => lent0) (.inl fun _ => rfl) (fun w S' hM => c_huff_Table_Code K a0_0 r18.2.1 r18.1 r18.2.2 a1 u19.1 u19.2.1 u19.2.2 r44 w S' hM hr44) (fun _ => ?_)
        refine RW.yi (.tuple #[.int .i64 r44.1, .int .i64 r44.2.1, .bool r44.2.2]) rfl rfl (Yi.pv _ rfl) ?_
        refine RW.yi (.int .i64 r44.1) rfl rfl (Yi.pv _ rfl) ?_
        refine RW.yi (.int .i64 r44.2.1) rfl rfl (Yi.pv _ rfl) ?_
        refine RW.yi (.bool r44.2.2) rfl rfl (Yi.pv _ rfl) ?_
        refine RW.yi (.int .i64 r44.1) rfl rfl (Yi.pv _ rfl) ?_
        refine RW.yi (.int .i64 r44.2.1) rfl rfl (Yi.pv _ rfl) ?_
        refine RW.yi (.bool r44.2.2) rfl rfl (Yi.pv _ rfl) ?_
        refine RW.nil ?_
        refine EW.next ?_
        refine CW.seq ?_
        refine CW.region ?_
        refine RW.yi (.pointer none) rfl rfl (Yi.pv _ rfl) ?_
        refine RW.yi (.int .i64 a1) rfl rfl (Yi.pv _ rfl) ?_
        obtain ⟨r47, hr47, hm⟩ := of_bind hm
        refine RW.ca (.tuple #[.int .i64 0, .int .i64 0, .bool false]) rfl rfl (Ca.call (cs := []) [] rfl rfl Try.call13 (fun w hM => lent0) (fun w S' hM => (c_huff_Table_Code_2 K a1 r47 w S' hM hr47).mono (fun _ _ h => by obtain ⟨_, h1, h2⟩ := h; exact ⟨h1, h2⟩))) ?_
        refine RW.yi (.tuple #[.int .i64 0, .int .i64 0, .bool false]) rfl rfl (Yi.pv _ rfl) ?_
        refine RW.yi (.int .i64 0) rfl rfl (Yi.pv _ rfl) ?_
        refine RW.yi (.int .i64 0) rfl rfl (Yi.pv _ rfl) ?_
        refine RW.yi (.bool false) rfl rfl (Yi.pv _ rfl) ?_
        refine RW.yi (.int .i64 0) rfl rfl (Yi.pv _ rfl) ?_
        refine RW.yi (.int .i64 0) rfl rfl (Yi.pv _ rfl) ?_
        refine RW.yi (.bool false) rfl rfl (Yi.pv _ rfl) ?_
        refine RW.nil ?_
        refine EW.next ?_
        refine CW.seq ?_
        refine CW.region ?_
        refine RW.yi (.int .i64 4) rfl rfl (Yi.pv _ rfl) ?_
        refine RW.yi (.bool false) rfl rfl (Yi.pv _ rfl) ?_
        refine RW.yi (.bool false) rfl rfl (Yi.pv _ rfl) ?_
        refine RW.pass rfl rfl ?_
        refine RW.pass rfl rfl ?_
        refine RW.pass rfl rfl ?_
        refine RW.yi (.bool false) rfl rfl (Yi.pv _ rfl) ?_
        refine RW.yi (.bool false) rfl rfl (Yi.pv _ rfl) ?_
        refine RW.pass rfl rfl ?_
        refine RW.pass rfl rfl ?_
        refine RW.pass rfl rfl ?_
        refine RW.yi (.bool false) rfl rfl (Yi.pv _ rfl) ?_
        refine RW.yi (.bool false) rfl rfl (Yi.pv _ rfl) ?_
        refine RW.pass rfl rfl ?_
        refine RW.pass rfl rfl ?_
        refine RW.pass rfl rfl ?_
        refine RW.yi (.bool false) rfl rfl (Yi.pv _ rfl) ?_
        refine RW.yi (.bool false) rfl rfl (Yi.pv _ rfl) ?_
        refine RW.pass rfl rfl ?_
        refine RW.yi (.bool false) rfl rfl (Yi.pv _ rfl) ?_
        refine RW.yi (.bool false) rfl rfl (Yi.pv _ rfl) ?_
        refine RW.nil ?_
        refine EW.next ?_
        refine CW.ret ?_
        obtain rfl := Option.some.inj hm
        exact EW.done (rs := [.tmp 4]) rfl (.tmp (t := 4) (v := .bool false) rfl .nil) (fun _ hM => ⟨(), rfl, (hM.pick [] rfl rfl)⟩)
    · dsimp only at hm
      refine RW.callM (cs := []) [] [.row u15 3 1 (([] : List Int) ++ a0_1).length (ec e1 (([] : List Int) ++ a0_1)), .blk b11 25 (cat [(16, (iv a0_0)), p1 (sa0_1)]), ro sa0_1 1 a0_1.length (ec e1 a0_1)] [ro u15 1 (([] : List Int) ++ a0_1).length (ec e1 (([] : List Int) ++ a0_1))] [0, 1, 2] (fun (_ : Unit) => []) (fun (_ : Unit) => .tuple #[.pointer none, .int .i64 4]) rfl rfl rfl rfl Try.call11 rfl rfl rfl (fun w hM => lentW (A := []) hM 0 rfl (lent0)) (.inl fun _ => rfl) (fun w S' hM => c_huff_New K a0_0 (([] : List Int) ++ a0_1) u15 (.inr r48) w S' hM hr17) (fun _ => ?_)
      refine RW.yi (.tuple #[.pointer none, .int .i64 4]) rfl rfl (Yi.pv _ rfl) ?_
      refine RW.yi (.pointer none) rfl rfl (Yi.pv _ rfl) ?_
      refine RW.yi (.int .i64 4) rfl rfl (Yi.pv _ rfl) ?_
      refine RW.yi (.pointer none) rfl rfl (Yi.pv _ rfl) ?_
      refine RW.yi (.int .i64 4) rfl rfl (Yi.pv _ rfl) ?_
      refine RW.nil ?_
      refine EW.next ?_
      refine CW.seq ?_
      refine CW.region ?_
      refine RW.yi (.pointer none) rfl rfl (Yi.pv _ rfl) ?_
      obtain ⟨r50, hr50, hm⟩ := of_bind hm
      refine RW.ca (.agg (cat [(16, (iv zf)), p1 (.slice none 0 0)])) rfl rfl (Ca.call (cs := []) [] rfl rfl Try.call17 (fun w hM => lent0) (fun w S' hM => (c_huff_Table_Spec_2 K  r50 w S' hM hr50).mono (fun _ _ h => by obtain ⟨_, h1, h2⟩ := h; exact ⟨h1, h2⟩))) ?_
      obtain ⟨r51, hr51, hm⟩ := of_bind hm
      rcases r51 with r52 | r55
      · dsimp only at hm
        refine RW.callM (cs := []) [] [.row u15 3 1 (([] : List Int) ++ a0_1).length (ec e1 (([] : List Int) ++ a0_1)), .blk b11 25 (cat [(16, (iv a0_0)), p1 (sa0_1)]), ro sa0_1 1 a0_1.length (ec e1 a0_1)] [ro (.slice none 0 0) 1 ([] : List Int).length (ec e1 ([] : List Int))] [0, 1, 2] (fun (u53 : Nat × Value × Nat) => [.blk u53.1 67 (cat [(16, (iv zf)), p1 (u53.2.1), (512, (iv r52.1)), p1 (.map (some u53.2.2))]), .row u53.2.1 3 1 r52.2.1.length (ec e1 r52.2.1), mpE u53.2.2 r52.2.2]) (fun (u53 : Nat × Value × Nat) => .tuple #[.pointer (some ⟨u53.1, 0, none⟩), .int .i64 0]) rfl rfl rfl rfl Try.call11 rfl rfl rfl (fun w hM => lentN (A := []) hM 0 1 (lent0) rfl) (.inl fun _ => rfl) (fun w S' hM => c_huff_New K zf ([] : List Int) (.slice none 0 0) (.inl r52) w S' hM hr51) (fun u53 => ?_)
        refine RW.yi (.tuple #[.pointer (some ⟨u53.1, 0, none⟩), .int .i64 0]) rfl rfl (Yi.pv _ rfl) ?_
        refine RW.yi (.pointer (some ⟨u53.1, 0, none⟩)) rfl rfl (Yi.pv _ rfl) ?_
        refine RW.yi (.int .i64 0) rfl rfl (Yi.pv _ rfl) ?_
        refine RW.yi (.pointer (some ⟨u53.1, 0, none⟩)) rfl rfl (Yi.pv _ rfl) ?_
        refine RW.yi (.int .i64 0) rfl rfl (Yi.pv _ rfl) ?_
        refine RW.nil ?_
        refine EW.next ?_
        refine CW.seq ?_
        refine CW.seq ?_
        refine CW.region ?_
        refine RW.yi (.int .i64 4) rfl rfl (Yi.pv _ rfl) ?_
        refine RW.yi (.bool true) rfl rfl (Yi.pv _ rfl) ?_
        refine RW.nil ?_
        refine EW.next ?_
        refine CW.cond_true rfl ?_
        refine CW.seq ?_
        refine CW.region ?_
        refine RW.yi (.pointer none) rfl rfl (Yi.pv _ rfl) ?_
        refine RW.yi (.bool true) rfl rfl (Yi.eqNil true rfl rfl Try.underlying27 (.inl ⟨rfl, rfl⟩)) ?_
        refine RW.yi (.bool true) rfl rfl (Yi.pv _ rfl) ?_
        refine RW.yi (.int .i64 0) rfl rfl (Yi.pv _ rfl) ?_
        refine RW.yi (.bool false) rfl rfl (Yi.pv _ rfl) ?_
        refine RW.yi (.bool false) rfl rfl (Yi.pv _ rfl) ?_
        refine RW.yi (.bool false) rfl rfl (Yi.pv _ rfl) ?_
        refine RW.pass rfl rfl ?_
        refine RW.yi (.bool false) rfl rfl (Yi.pv _ rfl) ?_
        refine RW.yi (.bool false) rfl rfl (Yi.pv _ rfl) ?_
        refine RW.nil ?_
        refine EW.next ?_
        refine CW.ret ?_
        refine EW.thr ?_
        obtain rfl := Option.some.inj hm
        exact EW.done (rs := [.tmp 4]) rfl (.tmp (t := 4) (v := .bool false) rfl .nil) (fun _ hM => ⟨(), rfl, (hM.pick [] rfl rfl)⟩)
      · dsimp only at hm
        refine RW.callM (cs := []) [] [.row u15 3 1 (([] : List Int) ++ a0_1).length (ec e1 (([] : List Int) ++ a0_1)), .blk b11 25 (cat [(16, (iv a0_0)), p1 (sa0_1)]), ro sa0_1 1 a0_1.length (ec e1 a0_1)] [ro (.slice none 0 0) 1 ([] : List Int).length (ec e1 ([] : List Int))] [0, 1, 2] (fun (_ : Unit) => []) (fun (_ : Unit) => .tuple #[.pointer none, .int .i64 4]) rfl rfl rfl rfl Try.call11 rfl rfl rfl (fun w hM => lentN (A := []) hM 0 1 (lent0) rfl) (.inl fun _ => rfl) (fun w S' hM => c_huff_New K zf ([] : List Int) (.slice none 0 0) (.inr r55) w S' hM hr51) (fun _ => ?_)
        refine RW.yi (.tuple #[.pointer none, .int .i64 4]) rfl rfl (Yi.pv _ rfl) ?_
        refine RW.yi (.pointer none) rfl rfl (Yi.pv _ rfl) ?_
        refine RW.yi (.int .i64 4) rfl rfl (Yi.pv _ rfl) ?_
        refine RW.yi (.pointer none) rfl rfl (Yi.pv _ rfl) ?_
        refine RW.yi (.int .i64 4) rfl rfl (Yi.pv _ rfl) ?_
        refine RW.nil ?_
        refine EW.next ?_
        refine CW.seq ?_
        refine CW.seq ?_
        refine CW.region ?_
        refine RW.yi (.int .i64 4) rfl rfl (Yi.pv _ rfl) ?_
        refine RW.yi (.bool true) rfl rfl (Yi.pv _ rfl) ?_
        refine RW.nil ?_
        refine EW.next ?_
        refine CW.cond_true rfl ?_
        refine CW.seq ?_
        refine CW.region ?_
        refine RW.yi (.pointer none) rfl rfl (Yi.pv _ rfl) ?_
        refine RW.yi (.bool true) rfl rfl (Yi.eqNil true rfl rfl Try.underlying27 (.inl ⟨rfl, rfl⟩)) ?_
        refine RW.yi (.bool true) rfl rfl (Yi.pv _ rfl) ?_
        refine RW.yi (.int .i64 4) rfl rfl (Yi.pv _ rfl) ?_
        refine RW.yi (.bool true) rfl rfl (Yi.pv _ rfl) ?_
        refine RW.yi (.bool true) rfl rfl (Yi.pv _ rfl) ?_
        refine RW.yi (.bool true) rfl rfl (Yi.pv _ rfl) ?_
        obtain ⟨r57, hr57, hm⟩ := of_bind hm
        refine RW.ca (.bool r57) rfl rfl (Ca.call (cs := []) [] rfl rfl Try.call10 (fun w hM => lent0) (fun w S' hM => (c_law05_awake K  r57 w S' hM hr57).mono (fun _ _ h => by obtain ⟨_, h1, h2⟩ := h; exact ⟨h1, h2⟩))) ?_
        refine RW.yi (.bool r57) rfl rfl (Yi.pv _ rfl) ?_
        refine RW.yi (.bool r57) rfl rfl (Yi.pv _ rfl) ?_
        refine RW.nil ?_
        refine EW.next ?_
        refine CW.ret ?_
        refine EW.thr ?_
        obtain rfl := Option.some.inj hm
        exact EW.done (rs := [.tmp 4]) rfl (.tmp (t := 4) (v := .bool r57) rfl .nil) (fun _ hM => ⟨(), rfl, (hM.pick [] rfl rfl)⟩)

end Go.Proofs.Ytoepbakbpimkiaa
