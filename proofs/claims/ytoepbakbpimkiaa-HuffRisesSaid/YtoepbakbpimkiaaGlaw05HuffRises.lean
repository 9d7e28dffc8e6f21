import Derived.Test.YtoepbakbpimkiaaN8
import Derived.Test.YtoepbakbpimkiaaProg
import Derived.Test.YtoepbakbpimkiaaGhuffNew
import Derived.Test.YtoepbakbpimkiaaGhuffTableCode
import Derived.Test.YtoepbakbpimkiaaGlaw05awake
import Derived.Test.YtoepbakbpimkiaaGlaw05own
set_option maxRecDepth 100000
set_option maxHeartbeats 1000000
namespace Go.Proofs.Ytoepbakbpimkiaa
open Go Go.RowKit K

def law05_HuffRises_j1 (K : Nat)  : Option (Bool) :=
  ((law05_awake K ).bind fun r18 => some r18)

def law05_HuffRises_j2 (_ : Nat) (cb_law05_HuffRises_l1 : Int → Option (Bool)) (v20 : Int) (v34 : Int) (v35 : Int) (v36 : Bool) (v37 : Int) (v38 : Int) (v39 : Bool) (v40 : Bool) (v41 : Bool) : Option (Bool) :=
  cb_law05_HuffRises_l1 (w64 (v20 + 1))

def law05_HuffRises_l1 (K : Nat) (a0_0 : (Nat → Int)) (a0_1 : (List Int)) (r15 : ((Nat → Int) × (List Int) × (List MEnt))) : Nat → Int →  Option (Bool)
  | 0, _ => none
  | k1 + 1, v20 =>
    (if v20 < (a0_1.length : Int) then (if 0 ≤ (w64 (v20 - 1)) ∧ (w64 (v20 - 1)) < (a0_1.length : Int) then ((huff_Table_Code K a0_0 r15.2.1 r15.1 r15.2.2 (a0_1.getD ((w64 (v20 - 1)).toNat) 0)).bind fun r43 => (if 0 ≤ v20 ∧ v20 < (a0_1.length : Int) then ((huff_Table_Code K a0_0 r15.2.1 r15.1 r15.2.2 (a0_1.getD v20.toNat 0)).bind fun r47 => (if r43.2.2 = true then (if r47.2.2 = true then (if r47.2.1 < r43.2.1 then some false else (if r47.2.1 = r43.2.1 then (if ¬ r47.1 = (w64 (r43.1 + 1)) then some false else law05_HuffRises_j2 K (law05_HuffRises_l1 K a0_0 a0_1 r15 k1) v20 r47.2.1 r43.2.1 (decide (r47.2.1 < r43.2.1)) r47.2.1 r43.2.1 (decide (r47.2.1 = r43.2.1)) true (decide (¬ r47.1 = (w64 (r43.1 + 1))))) else law05_HuffRises_j2 K (law05_HuffRises_l1 K a0_0 a0_1 r15 k1) v20 r47.2.1 r43.2.1 (decide (r47.2.1 < r43.2.1)) r47.2.1 r43.2.1 (decide (r47.2.1 = r43.2.1)) false false)) else some false) else some false)) else none)) else none) else law05_HuffRises_j1 K)

def law05_HuffRises (K : Nat) (a0_0 : (Nat → Int)) (a0_1 : (List Int)) : Option (Bool) :=
  (if 300 < (a0_1.length : Int) then ((law05_awake K ).bind fun r10 => some r10) else ((law05_own K a0_0 a0_1).bind fun r11 => ((huff_New K a0_0 (([] : List Int) ++ a0_1)).bind fun r14 => match r14 with | .inl r15 => law05_HuffRises_l1 K a0_0 a0_1 r15 K 1 | .inr r55 => ((law05_awake K ).bind fun r57 => some r57))))

theorem c_law05_HuffRises (K : Nat) (a0_0 : (Nat → Int)) (a0_1 : (List Int)) (sa0_1 : Value) (r : Bool) (w0 : World) (S : Own) (hM0 : Mem w0 S [ro sa0_1 1 a0_1.length (ec e1 a0_1)] w0) (hm : law05_HuffRises K a0_0 a0_1 = some r) : Calls Try.prog 4 #[.agg (cat [(16, (iv a0_0)), p1 (sa0_1)])] w0 fun e w' => ∃ _u : Unit, e = .returned (.bool r) ∧ Mem w0 S [] w' := by
  unfold law05_HuffRises at hm
  refine calls_CW (n := 79) w0 S [ro sa0_1 1 a0_1.length (ec e1 a0_1)] Try.func4 rfl rfl rfl hM0 ?_
  refine CW.seq ?_
  refine CW.region ?_
  refine RW.box (v := .agg (cat [(16, (iv a0_0)), p1 (sa0_1)])) rfl rfl rfl (fun b8 => ?_)
  refine RW.yi (.bool false) rfl rfl (Yi.pv _ rfl) ?_
  refine RW.nil ?_
  refine EW.next ?_
  refine CW.seq ?_
  refine CW.seq ?_
  refine CW.region ?_
  refine RW.yi (.pointer (some ⟨b8, 16, none⟩)) rfl rfl (Yi.fieldAddr (j := 1) Try.underlying25 rfl Try.sizeOf23 rfl) ?_
  refine RW.yi (sa0_1) rfl rfl (Yi.load1 (i := 0) _ rfl rfl Try.isAgg23 (cat_get1 (ps := [(16, (iv a0_0)), p1 (sa0_1)]) 1 rfl rfl)) ?_
  refine RW.yi (.int .i64 (a0_1.length : Int)) rfl rfl (Yi.lenS (cs := ec e1 a0_1) (m := a0_1.length) Try.underlying23 rfl (rdF 1 rfl)) ?_
  refine RW.yi (.bool (decide (300 < (a0_1.length : Int)))) rfl rfl (Yi.pv _ rfl) ?_
  refine RW.nil ?_
  refine EW.next ?_
  refine CW.fork 15 (300 < (a0_1.length : Int)) rfl (fun h9 => ?_) (fun h9 => ?_)
  · replace hm := (if_pos h9).symm.trans hm
    refine CW.cond_true rfl ?_
    refine CW.seq ?_
    refine CW.region ?_
    obtain ⟨r10, hr10, hm⟩ := of_bind hm
    refine RW.ca (.bool r10) rfl rfl (Ca.call (cs := []) [] rfl rfl Try.call10 (fun w hM => lent0) (fun w S' hM => (c_law05_awake K  r10 w S' hM hr10).mono (fun _ _ h => by obtain ⟨_, h1, h2⟩ := h; exact ⟨h1, h2⟩))) ?_
    refine RW.yi (.bool r10) rfl rfl (Yi.pv _ rfl) ?_
    refine RW.nil ?_
    refine EW.next ?_
    refine CW.ret ?_
    refine EW.thr ?_
    obtain rfl := Option.some.inj hm
    exact EW.done (rs := [.tmp 2]) rfl (.tmp (t := 2) (v := .bool r10) rfl .nil) (fun _ hM => ⟨(), rfl, (hM.pick [] rfl rfl)⟩)
  · replace hm := (if_neg h9).symm.trans hm
    refine CW.cond_false rfl ?_
    refine CW.skip ?_
    refine EW.next ?_
    refine CW.seq ?_
    refine CW.region ?_
    refine RW.yi (.agg (cat [(16, (iv a0_0)), p1 (sa0_1)])) rfl rfl (Yi.loadW (i := 0) rfl rfl Try.isAgg25 (by simp only [cat_size]; exact Try.sizeOf25)) ?_
    obtain ⟨r11, hr11, hm⟩ := of_bind hm
    refine RW.callM (cs := []) [] [.blk b8 25 (cat [(16, (iv a0_0)), p1 (sa0_1)]), ro sa0_1 1 a0_1.length (ec e1 a0_1)] [ro sa0_1 1 a0_1.length (ec e1 a0_1)] [0, 1] (fun (u12 : Value) => [.row u12 3 1 (([] : List Int) ++ a0_1).length (ec e1 (([] : List Int) ++ a0_1))]) (fun (u12 : Value) => .agg (cat [(16, (iv a0_0)), p1 (u12)])) rfl rfl rfl rfl Try.call12 rfl rfl rfl (fun w hM => lentF (A := []) hM 1 rfl (lent0)) (.inl fun _ => rfl) (fun w S' hM => c_law05_own K a0_0 a0_1 sa0_1 r11 w S' hM hr11) (fun u12 => ?_)
    obtain ⟨r14, hr14, hm⟩ := of_bind hm
    rcases r14 with r15 | r55
    · dsimp only at hm
      refine RW.callM (cs := []) [] [.row u12 3 1 (([] : List Int) ++ a0_1).length (ec e1 (([] : List Int) ++ a0_1)), .blk b8 25 (cat [(16, (iv a0_0)), p1 (sa0_1)]), ro sa0_1 1 a0_1.length (ec e1 a0_1)] [ro u12 1 (([] : List Int) ++ a0_1).length (ec e1 (([] : List Int) ++ a0_1))] [0, 1, 2] (fun (u16 : Nat × Value × Nat) => [.blk u16.1 67 (cat [(16, (iv a0_0)), p1 (u16.2.1), (512, (iv r15.1)), p1 (.map (some u16.2.2))]), .row u16.2.1 3 1 r15.2.1.length (ec e1 r15.2.1), mpE u16.2.2 r15.2.2]) (fun (u16 : Nat × Value × Nat) => .tuple #[.pointer (some ⟨u16.1, 0, none⟩), .int .i64 0]) rfl rfl rfl rfl Try.call11 rfl rfl rfl (fun w hM => lentW (A := []) hM 0 rfl (lent0)) (.inl fun _ => rfl) (fun w S' hM => c_huff_New K a0_0 (([] : List Int) ++ a0_1) u12 (.inl r15) w S' hM hr14) (fun u16 => ?_)
      refine RW.yi (.tuple #[.pointer (some ⟨u16.1, 0, none⟩), .int .i64 0]) rfl rfl (Yi.pv _ rfl) ?_
      refine RW.yi (.pointer (some ⟨u16.1, 0, none⟩)) rfl rfl (Yi.pv _ rfl) ?_
      refine RW.yi (.int .i64 0) rfl rfl (Yi.pv _ rfl) ?_
      refine RW.yi (.pointer (some ⟨u16.1, 0, none⟩)) rfl rfl (Yi.pv _ rfl) ?_
      refine RW.yi (.int .i64 0) rfl rfl (Yi.pv _ rfl) ?_
      refine RW.nil ?_
      refine EW.next ?_
      refine CW.seq ?_
      refine CW.seq ?_
      refine CW.region ?_
      refine RW.yi (.int .i64 0) rfl rfl (Yi.pv _ rfl) ?_
      refine RW.yi (.bool false) rfl rfl (Yi.pv _ rfl) ?_
      refine RW.nil ?_
      refine EW.next ?_
      refine CW.cond_false rfl ?_
      refine CW.skip ?_
      refine EW.next ?_
      refine CW.join (fun a w => St 79 [] a ∧ Mem w0 S [] w ∧ law05_HuffRises_j1 K = some r) ?_ ?_
      · refine CW.seq ?_
        refine CW.region ?_
        refine RW.yi (.int .i64 1) rfl rfl (Yi.pv _ rfl) ?_
        refine RW.nil ?_
        refine EW.next ?_
        refine CW.block ?_
        refine CW.loop (fun k a w => ∃ (v20 : Int), St 79 [(1, .pointer (some ⟨b8, 0, none⟩)), (3, .pointer (some ⟨u16.1, 0, none⟩)), (5, .int .i64 v20)] a ∧ Mem w0 S [.blk b8 25 (cat [(16, (iv a0_0)), p1 (sa0_1)]), ro sa0_1 1 a0_1.length (ec e1 a0_1), .blk u16.1 67 (cat [(16, (iv a0_0)), p1 (u16.2.1), (512, (iv r15.1)), p1 (.map (some u16.2.2))]), .row u16.2.1 3 1 r15.2.1.length (ec e1 r15.2.1), mpE u16.2.2 r15.2.2] w ∧ law05_HuffRises_l1 K a0_0 a0_1 r15 k v20 = some r) K ?_ ?_ ?_
        · rintro a w ⟨_, _, _, hm⟩
          rw [law05_HuffRises_l1.eq_1] at hm
          cases hm
        · exact fun a w hs hM => ⟨1, hs.sub ⟨rfl, rfl, rfl, trivial⟩, (hM.pick [4, 5, 0, 1, 2] rfl rfl), hm⟩
        · rintro k1 a w ⟨v20, hs, hM, hm⟩
          rw [law05_HuffRises_l1.eq_2] at hm
          refine CW.enter hs hM ?_
          refine CW.seq ?_
          refine CW.seq ?_
          refine CW.region ?_
          refine RW.yi (.int .i64 v20) rfl rfl (Yi.pv _ rfl) ?_
          refine RW.yi (.pointer (some ⟨b8, 16, none⟩)) rfl rfl (Yi.fieldAddr (j := 1) Try.underlying25 rfl Try.sizeOf23 rfl) ?_
          refine RW.yi (sa0_1) rfl rfl (Yi.load1 (i := 0) _ rfl rfl Try.isAgg23 (cat_get1 (ps := [(16, (iv a0_0)), p1 (sa0_1)]) 1 rfl rfl)) ?_
          refine RW.yi (.int .i64 (a0_1.length : Int)) rfl rfl (Yi.lenS (cs := ec e1 a0_1) (m := a0_1.length) Try.underlying23 rfl (rdF 1 rfl)) ?_
          refine RW.yi (.bool (decide (v20 < (a0_1.length : Int)))) rfl rfl (Yi.pv _ rfl) ?_
          refine RW.nil ?_
          refine EW.next ?_
          refine CW.fork 30 (v20 < (a0_1.length : Int)) rfl (fun h23 => ?_) (fun h23 => ?_)
          · replace hm := (if_pos h23).symm.trans hm
            refine CW.cond_true rfl ?_
            refine CW.skip ?_
            refine EW.next ?_
            refine CW.join (fun a w => ∃ (v34 : Int) (v35 : Int) (v36 : Bool) (v37 : Int) (v38 : Int) (v39 : Bool) (v40 : Bool) (v41 : Bool), St 79 [(1, .pointer (some ⟨b8, 0, none⟩)), (3, .pointer (some ⟨u16.1, 0, none⟩)), (5, .int .i64 v20), (59, .bool true), (60, .bool false), (63, .int .i64 v34), (64, .int .i64 v35), (65, .bool v36), (68, .int .i64 v37), (69, .int .i64 v38), (70, .bool v39), (71, .bool v40), (76, .bool v41)] a ∧ Mem w0 S [.blk b8 25 (cat [(16, (iv a0_0)), p1 (sa0_1)]), ro sa0_1 1 a0_1.length (ec e1 a0_1), .blk u16.1 67 (cat [(16, (iv a0_0)), p1 (u16.2.1), (512, (iv r15.1)), p1 (.map (some u16.2.2))]), .row u16.2.1 3 1 r15.2.1.length (ec e1 r15.2.1), mpE u16.2.2 r15.2.2] w ∧ law05_HuffRises_j2 K (law05_HuffRises_l1 K a0_0 a0_1 r15 k1) v20 v34 v35 v36 v37 v38 v39 v40 v41 = some r) ?_ ?_
            · refine CW.block ?_
              refine CW.seq ?_
              refine CW.region ?_
              refine RW.yi (.pointer (some ⟨u16.1, 0, none⟩)) rfl rfl (Yi.pv _ rfl) ?_
              refine RW.yi (.pointer (some ⟨b8, 16, none⟩)) rfl rfl (Yi.fieldAddr (j := 1) Try.underlying25 rfl Try.sizeOf23 rfl) ?_
              refine RW.yi (sa0_1) rfl rfl (Yi.load1 (i := 0) _ rfl rfl Try.isAgg23 (cat_get1 (ps := [(16, (iv a0_0)), p1 (sa0_1)]) 1 rfl rfl)) ?_
              refine RW.yi (.int .i64 v20) rfl rfl (Yi.pv _ rfl) ?_
              refine RW.yi (.int .i64 (w64 (v20 - 1))) rfl rfl (Yi.pv _ rfl) ?_
              obtain ⟨g42, hm⟩ := of_guard hm
              refine RW.yi (.pointer (some (eaddr sa0_1 1 ((w64 (v20 - 1)).toNat) 0))) rfl rfl (Yi.idxS (m := a0_1.length) Try.underlying23 Try.sizeOf3 rfl rfl (rdF 1 rfl) g42.1 g42.2) ?_
              refine RW.yi (.int .i64 (a0_1.getD ((w64 (v20 - 1)).toNat) 0)) rfl rfl (Yi.loadS (m := a0_1.length) (cs := ec e1 a0_1) _ rfl (rdF 1 rfl) Try.isAgg3 (by omega) (by omega) (by rw [ec_get (d := 0) e1_is (by omega) (by decide)]; rfl)) ?_
              obtain ⟨r43, hr43, hm⟩ := of_bind hm
              refine RW.callM (cs := []) [.blk u16.1 67 (cat [(16, (iv a0_0)), p1 (u16.2.1), (512, (iv r15.1)), p1 (.map (some u16.2.2))]), .row u16.2.1 3 1 r15.2.1.length (ec e1 r15.2.1), mpE u16.2.2 r15.2.2] [.blk b8 25 (cat [(16, (iv a0_0)), p1 (sa0_1)]), ro sa0_1 1 a0_1.length (ec e1 a0_1)] [] [2, 3, 4, 0, 1] (fun (_ : Unit) => [.blk u16.1 67 (cat [(16, (iv a0_0)), p1 (u16.2.1), (512, (iv r15.1)), p1 (.map (some u16.2.2))]), .row u16.2.1 3 1 r15.2.1.length (ec e1 r15.2.1), mpE u16.2.2 r15.2.2]) (fun (_ : Unit) => .tuple #[.int .i64 r43.1, .int .i64 r43.2.1, .bool r43.2.2]) rfl rfl rfl rfl Try.call13 rfl rfl rfl (fun w hM => lent0) (.inl fun _ => rfl) (fun w S' hM => c_huff_Table_Code K a0_0 r15.2.1 r15.1 r15.2.2 (a0_1.getD ((w64 (v20 - 1)).toNat) 0) u16.1 u16.2.1 u16.2.2 r43 w S' hM hr43) (fun _ => ?_)
              refine RW.yi (.tuple #[.int .i64 r43.1, .int .i64 r43.2.1, .bool r43.2.2]) rfl rfl (Yi.pv _ rfl) ?_
              refine RW.yi (.int .i64 r43.1) rfl rfl (Yi.pv _ rfl) ?_
              refine RW.yi (.int .i64 r43.2.1) rfl rfl (Yi.pv _ rfl) ?_
              refine RW.yi (.bool r43.2.2) rfl rfl (Yi.pv _ rfl) ?_
              refine RW.yi (.int .i64 r43.1) rfl rfl (Yi.pv _ rfl) ?_
              refine RW.yi (.int .i64 r43.2.1) rfl rfl (Yi.pv _ rfl) ?_
              refine RW.yi (.bool r43.2.2) rfl rfl (Yi.pv _ rfl) ?_
              refine RW.nil ?_
              refine EW.next ?_
              refine CW.seq ?_
              refine CW.region ?_
              refine RW.yi (.pointer (some ⟨u16.1, 0, none⟩)) rfl rfl (Yi.pv _ rfl) ?_
              refine RW.yi (.pointer (some ⟨b8, 16, none⟩)) rfl rfl (Yi.fieldAddr (j := 1) Try.underlying25 rfl Try.sizeOf23 rfl) ?_
              refine RW.yi (sa0_1) rfl rfl (Yi.load1 (i := 3) _ rfl rfl Try.isAgg23 (cat_get1 (ps := [(16, (iv a0_0)), p1 (sa0_1)]) 1 rfl rfl)) ?_
              refine RW.yi (.int .i64 v20) rfl rfl (Yi.pv _ rfl) ?_
              obtain ⟨g46, hm⟩ := of_guard hm
              refine RW.yi (.pointer (some (eaddr sa0_1 1 v20.toNat 0))) rfl rfl (Yi.idxS (m := a0_1.length) Try.underlying23 Try.sizeOf3 rfl rfl (rdF 4 rfl) g46.1 g46.2) ?_
              refine RW.yi (.int .i64 (a0_1.getD v20.toNat 0)) rfl rfl (Yi.loadS (m := a0_1.length) (cs := ec e1 a0_1) _ rfl (rdF 4 rfl) Try.isAgg3 (by omega) (by omega) (by rw [ec_get (d := 0) e1_is (by omega) (by decide)]; rfl)) ?_
              obtain ⟨r47, hr47, hm⟩ := of_bind hm
              refine RW.callM (cs := []) [.blk u16.1 67 (cat [(16, (iv a0_0)), p1 (u16.2.1), (512, (iv r15.1)), p1 (.map (some u16.2.2))]), .row u16.2.1 3 1 r15.2.1.length (ec e1 r15.2.1), mpE u16.2.2 r15.2.2] [.blk b8 25 (cat [(16, (iv a0_0)), p1 (sa0_1)]), ro sa0_1 1 a0_1.length (ec e1 a0_1)] [] [0, 1, 2, 3, 4] (fun (_ : Unit) => [.blk u16.1 67 (cat [(16, (iv a0_0)), p1 (u16.2.1), (512, (iv r15.1)), p1 (.map (some u16.2.2))]), .row u16.2.1 3 1 r15.2.1.length (ec e1 r15.2.1), mpE u16.2.2 r15.2.2]) (fun (_ : Unit) => .tuple #[.int .i64 r47.1, .int .i64 r47.2.1, .bool r47.2.2]) rfl rfl rfl rfl Try.call13 rfl rfl rfl (fun w hM => lent0) (.inl fun _ => rfl) (fun w S' hM => c_huff_Table_Code K a0_0 r15.2.1 r15.1 r15.2.2 (a0_1.getD v20.toNat 0) u16.1 u16.2.1 u16.2.2 r47 w S' hM hr47) (fun _ => ?_)
              refine RW.yi (.tuple #[.int .i64 r47.1, .int .i64 r47.2.1, .bool r47.2.2]) rfl rfl (Yi.pv _ rfl) ?_
              refine RW.yi (.int .i64 r47.1) rfl rfl (Yi.pv _ rfl) ?_
              refine RW.yi (.int .i64 r47.2.1) rfl rfl (Yi.pv _ rfl) ?_
              refine RW.yi (.bool r47.2.2) rfl rfl (Yi.pv _ rfl) ?_
              refine RW.yi (.int .i64 r47.1) rfl rfl (Yi.pv _ rfl) ?_
              refine RW.yi (.int .i64 r47.2.1) rfl rfl (Yi.pv _ rfl) ?_
              refine RW.yi (.bool r47.2.2) rfl rfl (Yi.pv _ rfl) ?_
              refine RW.nil ?_
              refine EW.next ?_
              refine CW.seq ?_
              refine CW.region ?_
              refine RW.yi (.bool r43.2.2) rfl rfl (Yi.pv _ rfl) ?_
              refine RW.forkB 56 (r43.2.2) rfl (fun h50 => ?_) (fun h50 => ?_)
              · replace hm := (if_pos h50).symm.trans hm
                refine RW.yi (.bool false) rfl rfl (Yi.pv _ rfl) ?_
                refine RW.yi (.bool false) rfl rfl (Yi.pv _ rfl) ?_
                refine RW.yi (.bool r47.2.2) rfl rfl (Yi.pv _ rfl) ?_
                refine RW.forkB 59 (r47.2.2) rfl (fun h51 => ?_) (fun h51 => ?_)
                · replace hm := (if_pos h51).symm.trans hm
                  refine RW.yi (.bool false) rfl rfl (Yi.pv _ rfl) ?_
                  refine RW.yi (.bool false) rfl rfl (Yi.pv _ rfl) ?_
                  refine RW.yi (.bool false) rfl rfl (Yi.pv _ rfl) ?_
                  refine RW.yi (.int .i64 r47.2.1) rfl rfl (Yi.pv _ rfl) ?_
                  refine RW.yi (.int .i64 r43.2.1) rfl rfl (Yi.pv _ rfl) ?_
                  refine RW.yi (.bool (decide (r47.2.1 < r43.2.1))) rfl rfl (Yi.pv _ rfl) ?_
                  refine RW.yi (.bool (decide (r47.2.1 < r43.2.1))) rfl rfl (Yi.pv _ rfl) ?_
                  refine RW.yi (.bool (decide (r47.2.1 < r43.2.1))) rfl rfl (Yi.pv _ rfl) ?_
                  refine RW.fork 67 (r47.2.1 < r43.2.1) rfl (fun h52 => ?_) (fun h52 => ?_)
                  · replace hm := (if_pos h52).symm.trans hm
                    refine RW.pass rfl rfl ?_
                    refine RW.pass rfl rfl ?_
                    refine RW.pass rfl rfl ?_
                    refine RW.pass rfl rfl ?_
                    refine RW.pass rfl rfl ?_
                    refine RW.pass rfl rfl ?_
                    refine RW.pass rfl rfl ?_
                    refine RW.pass rfl rfl ?_
                    refine RW.pass rfl rfl ?_
                    refine RW.yi (.bool true) rfl rfl (Yi.pv _ rfl) ?_
                    refine RW.nil ?_
                    refine EW.next ?_
                    refine CW.cond_true rfl ?_
                    refine CW.seq ?_
                    refine CW.region ?_
                    refine RW.yi (.bool false) rfl rfl (Yi.pv _ rfl) ?_
                    refine RW.nil ?_
                    refine EW.next ?_
                    refine CW.ret ?_
                    refine EW.blr ?_
                    refine EW.thr ?_
                    refine EW.thr ?_
                    refine EW.blr ?_
                    refine EW.thr ?_
                    obtain rfl := Option.some.inj hm
                    exact EW.done (rs := [.tmp 2]) rfl (.tmp (t := 2) (v := .bool false) rfl .nil) (fun _ hM => ⟨(), rfl, (hM.pick [] rfl rfl)⟩)
                  · replace hm := (if_neg h52).symm.trans hm
                    refine RW.yi (.int .i64 r47.2.1) rfl rfl (Yi.pv _ rfl) ?_
                    refine RW.yi (.int .i64 r43.2.1) rfl rfl (Yi.pv _ rfl) ?_
                    refine RW.yi (.bool (decide (r47.2.1 = r43.2.1))) rfl rfl (Yi.pv _ rfl) ?_
                    refine RW.yi (.bool (decide (r47.2.1 = r43.2.1))) rfl rfl (Yi.pv _ rfl) ?_
                    refine RW.fork 71 (r47.2.1 = r43.2.1) rfl (fun h53 => ?_) (fun h53 => ?_)
                    · replace hm := (if_pos h53).symm.trans hm
                      refine RW.yi (.int .i64 r47.1) rfl rfl (Yi.pv _ rfl) ?_
                      refine RW.yi (.int .i64 r43.1) rfl rfl (Yi.pv _ rfl) ?_
                      refine RW.yi (.int .i64 (w64 (r43.1 + 1))) rfl rfl (Yi.pv _ rfl) ?_
                      refine RW.yi (.bool (decide (¬ r47.1 = (w64 (r43.1 + 1))))) rfl rfl (Yi.pv _ rfl) ?_
                      refine RW.yi (.bool (decide (¬ r47.1 = (w64 (r43.1 + 1))))) rfl rfl (Yi.pv _ rfl) ?_
                      refine RW.yi (.bool (decide (¬ r47.1 = (w64 (r43.1 + 1))))) rfl rfl (Yi.pv _ rfl) ?_
                      refine RW.nil ?_
                      refine EW.next ?_
                      refine CW.fork 77 (¬ r47.1 = (w64 (r43.1 + 1))) rfl (fun h54 => ?_) (fun h54 => ?_)
                      · replace hm := (if_pos h54).symm.trans hm
                        refine CW.cond_true rfl ?_
                        refine CW.seq ?_
                        refine CW.region ?_
                        refine RW.yi (.bool false) rfl rfl (Yi.pv _ rfl) ?_
                        refine RW.nil ?_
                        refine EW.next ?_
                        refine CW.ret ?_
                        refine EW.blr ?_
                        refine EW.thr ?_
                        refine EW.thr ?_
                        refine EW.blr ?_
                        refine EW.thr ?_
                        obtain rfl := Option.some.inj hm
                        exact EW.done (rs := [.tmp 2]) rfl (.tmp (t := 2) (v := .bool false) rfl .nil) (fun _ hM => ⟨(), rfl, (hM.pick [] rfl rfl)⟩)
                      · replace hm := (if_neg h54).symm.trans hm
                        refine CW.cond_false rfl ?_
                        refine CW.skip ?_
                        refine EW.bln ?_
                        refine EW.thn ?_
                        exact fun a w hs hM => ⟨r47.2.1, r43.2.1, (decide (r47.2.1 < r43.2.1)), r47.2.1, r43.2.1, (decide (r47.2.1 = r43.2.1)), true, (decide (¬ r47.1 = (w64 (r43.1 + 1)))), hs.sub ⟨rfl, rfl, rfl, rfl, rfl, rfl, rfl, rfl, rfl, rfl, rfl, rfl, rfl, trivial⟩, (hM.pick [3, 4, 0, 1, 2] rfl rfl), hm⟩
                    · replace hm := (if_neg h53).symm.trans hm
                      refine RW.pass rfl rfl ?_
                      refine RW.pass rfl rfl ?_
                      refine RW.pass rfl rfl ?_
                      refine RW.pass rfl rfl ?_
                      refine RW.yi (.bool false) rfl rfl (Yi.pv _ rfl) ?_
                      refine RW.yi (.bool false) rfl rfl (Yi.pv _ rfl) ?_
                      refine RW.nil ?_
                      refine EW.next ?_
                      refine CW.cond_false rfl ?_
                      refine CW.skip ?_
                      refine EW.bln ?_
                      refine EW.thn ?_
                      exact fun a w hs hM => ⟨r47.2.1, r43.2.1, (decide (r47.2.1 < r43.2.1)), r47.2.1, r43.2.1, (decide (r47.2.1 = r43.2.1)), false, false, hs.sub ⟨rfl, rfl, rfl, rfl, rfl, rfl, rfl, rfl, rfl, rfl, rfl, rfl, rfl, trivial⟩, (hM.pick [3, 4, 0, 1, 2] rfl rfl), hm⟩
                · replace hm := (if_neg h51).symm.trans hm
                  refine RW.yi (.bool true) rfl rfl (Yi.pv _ rfl) ?_
                  refine RW.yi (.bool true) rfl rfl (Yi.pv _ rfl) ?_
                  refine RW.yi (.bool true) rfl rfl (Yi.pv _ rfl) ?_
                  refine RW.pass rfl rfl ?_
                  refine RW.pass rfl rfl ?_
                  refine RW.pass rfl rfl ?_
                  refine RW.yi (.bool true) rfl rfl (Yi.pv _ rfl) ?_
                  refine RW.yi (.bool true) rfl rfl (Yi.pv _ rfl) ?_
                  refine RW.pass rfl rfl ?_
                  refine RW.pass rfl rfl ?_
                  refine RW.pass rfl rfl ?_
                  refine RW.pass rfl rfl ?_
                  refine RW.pass rfl rfl ?_
                  refine RW.pass rfl rfl ?_
                  refine RW.pass rfl rfl ?_
                  refine RW.pass rfl rfl ?_
                  refine RW.pass rfl rfl ?_
                  refine RW.yi (.bool true) rfl rfl (Yi.pv _ rfl) ?_
                  refine RW.nil ?_
                  refine EW.next ?_
                  refine CW.cond_true rfl ?_
                  refine CW.seq ?_
                  refine CW.region ?_
                  refine RW.yi (.bool false) rfl rfl (Yi.pv _ rfl) ?_
                  refine RW.nil ?_
                  refine EW.next ?_
                  refine CW.ret ?_
                  refine EW.blr ?_
                  refine EW.thr ?_
                  refine EW.thr ?_
                  refine EW.blr ?_
                  refine EW.thr ?_
                  obtain rfl := Option.some.inj hm
                  exact EW.done (rs := [.tmp 2]) rfl (.tmp (t := 2) (v := .bool false) rfl .nil) (fun _ hM => ⟨(), rfl, (hM.pick [] rfl rfl)⟩)
              · replace hm := (if_neg h50).symm.trans hm
                refine RW.yi (.bool true) rfl rfl (Yi.pv _ rfl) ?_
                refine RW.yi (.bool true) rfl rfl (Yi.pv _ rfl) ?_
                refine RW.pass rfl rfl ?_
                refine RW.pass rfl rfl ?_
                refine RW.yi (.bool true) rfl rfl (Yi.pv _ rfl) ?_
                refine RW.yi (.bool true) rfl rfl (Yi.pv _ rfl) ?_
                refine RW.pass rfl rfl ?_
                refine RW.pass rfl rfl ?_
                refine RW.pass rfl rfl ?_
                refine RW.yi (.bool true) rfl rfl (Yi.pv _ rfl) ?_
                refine RW.yi (.bool true) rfl rfl (Yi.pv _ rfl) ?_
                refine RW.pass rfl rfl ?_
                refine RW.pass rfl rfl ?_
                refine RW.pass rfl rfl ?_
                refine RW.pass rfl rfl ?_
                refine RW.pass rfl rfl ?_
                refine RW.pass rfl rfl ?_
                refine RW.pass rfl rfl ?_
                refine RW.pass rfl rfl ?_
                refine RW.pass rfl rfl ?_
                refine RW.yi (.bool true) rfl rfl (Yi.pv _ rfl) ?_
                refine RW.nil ?_
                refine EW.next ?_
                refine CW.cond_true rfl ?_
                refine CW.seq ?_
                refine CW.region ?_
                refine RW.yi (.bool false) rfl rfl (Yi.pv _ rfl) ?_
                refine RW.nil ?_
                refine EW.next ?_
                refine CW.ret ?_
                refine EW.blr ?_
                refine EW.thr ?_
                refine EW.thr ?_
                refine EW.blr ?_
                refine EW.thr ?_
                obtain rfl := Option.some.inj hm
                exact EW.done (rs := [.tmp 2]) rfl (.tmp (t := 2) (v := .bool false) rfl .nil) (fun _ hM => ⟨(), rfl, (hM.pick [] rfl rfl)⟩)
            · rintro a w ⟨v34, v35, v36, v37, v38, v39, v40, v41, hs, hM, hm⟩
              unfold law05_HuffRises_j2 at hm
              refine CW.enter hs hM ?_
              refine CW.region ?_
              refine RW.yi (.int .i64 v20) rfl rfl (Yi.pv _ rfl) ?_
              refine RW.yi (.int .i64 (w64 (v20 + 1))) rfl rfl (Yi.pv _ rfl) ?_
              refine RW.yi (.int .i64 (w64 (v20 + 1))) rfl rfl (Yi.pv _ rfl) ?_
              refine RW.nil ?_
              refine EW.thn ?_
              exact fun a w hs hM => ⟨(w64 (v20 + 1)), hs.sub ⟨rfl, rfl, rfl, trivial⟩, (hM.pick [0, 1, 2, 3, 4] rfl rfl), hm⟩
          · replace hm := (if_neg h23).symm.trans hm
            refine CW.cond_false rfl ?_
            refine CW.exit ?_
            refine EW.thx ?_
            refine EW.thx ?_
            refine EW.blx ?_
            refine EW.thn ?_
            exact fun a w hs hM => ⟨hs.sub trivial, (hM.pick [] rfl rfl), hm⟩
      · rintro a w ⟨hs, hM, hm⟩
        unfold law05_HuffRises_j1 at hm
        refine CW.enter hs hM ?_
        refine CW.seq ?_
        refine CW.region ?_
        obtain ⟨r18, hr18, hm⟩ := of_bind hm
        refine RW.ca (.bool r18) rfl rfl (Ca.call (cs := []) [] rfl rfl Try.call10 (fun w hM => lent0) (fun w S' hM => (c_law05_awake K  r18 w S' hM hr18).mono (fun _ _ h => by obtain ⟨_, h1, h2⟩ := h; exact ⟨h1, h2⟩))) ?_
        refine RW.yi (.bool r18) rfl rfl (Yi.pv _ rfl) ?_
        refine RW.nil ?_
        refine EW.next ?_
        refine CW.ret ?_
        obtain rfl := Option.some.inj hm
        exact EW.done (rs := [.tmp 2]) rfl (.tmp (t := 2) (v := .bool r18) rfl .nil) (fun _ hM => ⟨(), rfl, (hM.pick [] rfl rfl)⟩)
    · dsimp only at hm
      refine RW.callM (cs := []) [] [.row u12 3 1 (([] : List Int) ++ a0_1).length (ec e1 (([] : List Int) ++ a0_1)), .blk b8 25 (cat [(16, (iv a0_0)), p1 (sa0_1)]), ro sa0_1 1 a0_1.length (ec e1 a0_1)] [ro u12 1 (([] : List Int) ++ a0_1).length (ec e1 (([] : List Int) ++ a0_1))] [0, 1, 2] (fun (_ : Unit) => []) (fun (_ : Unit) => .tuple #[.pointer none, .int .i64 4]) rfl rfl rfl rfl Try.call11 rfl rfl rfl (fun w hM => lentW (A := []) hM 0 rfl (lent0)) (.inl fun _ => rfl) (fun w S' hM => c_huff_New K a0_0 (([] : List Int) ++ a0_1) u12 (.inr r55) w S' hM hr14) (fun _ => ?_)
      refine RW.yi (.tuple #[.pointer none, .int .i64 4]) rfl rfl (Yi.pv _ rfl) ?_
      refine RW.yi (.pointer none) rfl rfl (Yi.pv _ rfl) ?_
      refine RW.yi (.int .i64 4) rfl rfl (Yi.pv _ rfl) ?_
      refine RW.yi (.pointer none) rfl rfl (Yi.pv _ rfl) ?_
      refine RW.yi (.int .i64 4) rfl rfl (Yi.pv _ rfl) ?_
      refine RW.nil ?_
      refine EW.next ?_
      refine CW.seq ?_
      refine CW.seq ?_
      refine CW.region ?_
      refine RW.yi (.int .i64 4) rfl rfl (Yi.pv _ rfl) ?_
      refine RW.yi (.bool true) rfl rfl (Yi.pv _ rfl) ?_
      refine RW.nil ?_
      refine EW.next ?_
      refine CW.cond_true rfl ?_
      refine CW.seq ?_
      refine CW.region ?_
      obtain ⟨r57, hr57, hm⟩ := of_bind hm
      refine RW.ca (.bool r57) rfl rfl (Ca.call (cs := []) [] rfl rfl Try.call10 (fun w hM => lent0) (fun w S' hM => (c_law05_awake K  r57 w S' hM hr57).mono (fun _ _ h => by obtain ⟨_, h1, h2⟩ := h; exact ⟨h1, h2⟩))) ?_
      refine RW.yi (.bool r57) rfl rfl (Yi.pv _ rfl) ?_
      refine RW.nil ?_
      refine EW.next ?_
      refine CW.ret ?_
      refine EW.thr ?_
      obtain rfl := Option.some.inj hm
      exact EW.done (rs := [.tmp 2]) rfl (.tmp (t := 2) (v := .bool r57) rfl .nil) (fun _ hM => ⟨(), rfl, (hM.pick [] rfl rfl)⟩)

end Go.Proofs.Ytoepbakbpimkiaa
