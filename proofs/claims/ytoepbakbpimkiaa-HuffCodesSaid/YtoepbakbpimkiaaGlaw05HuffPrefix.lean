import Derived.Test.YtoepbakbpimkiaaN8
import Derived.Test.YtoepbakbpimkiaaProg
import Derived.Test.YtoepbakbpimkiaaGhuffNew
import Derived.Test.YtoepbakbpimkiaaGhuffTableCode
import Derived.Test.YtoepbakbpimkiaaGlaw05awake
import Derived.Test.YtoepbakbpimkiaaGlaw05own
set_option maxRecDepth 100000
set_option maxHeartbeats 1000000
namespace Go.Proofs.Ytoepbakbpimkiaa
open Go Go.RowKit K

def law05_HuffPrefix_j1 (K : Nat)  : Option (Bool) :=
  ((law05_awake K ).bind fun r22 => some r22)

def law05_HuffPrefix_j2 (_ : Nat) (cb_law05_HuffPrefix_l1 : Int → Option (Bool)) (v24 : Int) (v29 : Int) (v30 : Bool) (v31 : Int) (v32 : Bool) (v33 : Int) (v34 : Bool) (v35 : Int) (v36 : Int) (v37 : Int) (v38 : Int) (v39 : Bool) : Option (Bool) :=
  cb_law05_HuffPrefix_l1 (w64 (v24 + 1))

def law05_HuffPrefix_l2 (K : Nat) (cb_law05_HuffPrefix_l1 : Int → Option (Bool)) (a0_0 : (Nat → Int)) (a0_1 : (List Int)) (v24 : Int) (r19 : ((Nat → Int) × (List Int) × (List MEnt))) (r41 : (Int × Int × Bool)) : Nat → Int →  Option (Bool)
  | 0, _ => none
  | k2 + 1, v53 =>
    (if v53 < ((a0_1.take v24.toNat).length : Int) then (if 0 ≤ v53 ∧ v53 < ((a0_1.take v24.toNat).length : Int) then ((huff_Table_Code K a0_0 r19.2.1 r19.1 r19.2.2 ((a0_1.take v24.toNat).getD v53.toNat 0)).bind fun r58 => (if r41.2.1 < r58.2.1 then some false else (if r58.2.1 < 1 then some false else (if 0 ≤ (w64 (r41.2.1 - r58.2.1)) then (if (shrI .i64 r41.1 (w64 (r41.2.1 - r58.2.1))) = r58.1 then some false else (law05_HuffPrefix_l2 K cb_law05_HuffPrefix_l1 a0_0 a0_1 v24 r19 r41 k2) (w64 (v53 + 1))) else none)))) else none) else law05_HuffPrefix_j2 K cb_law05_HuffPrefix_l1 v24 r41.2.1 (decide (r41.2.1 < 1)) r41.2.1 (decide (16 < r41.2.1)) r41.1 (decide (r41.1 < 0)) r41.1 r41.2.1 (shlI .i64 1 r41.2.1) (w64 ((shlI .i64 1 r41.2.1) - 1)) (decide ((w64 ((shlI .i64 1 r41.2.1) - 1)) ≤ r41.1)))

def law05_HuffPrefix_l1 (K : Nat) (a0_0 : (Nat → Int)) (a0_1 : (List Int)) (r19 : ((Nat → Int) × (List Int) × (List MEnt))) : Nat → Int →  Option (Bool)
  | 0, _ => none
  | k1 + 1, v24 =>
    (if v24 < (a0_1.length : Int) then (if 0 ≤ v24 ∧ v24 < (a0_1.length : Int) then ((huff_Table_Code K a0_0 r19.2.1 r19.1 r19.2.2 (a0_1.getD v24.toNat 0)).bind fun r41 => (if r41.2.2 = true then (if r41.2.1 < 1 then some false else (if 16 < r41.2.1 then some false else (if r41.1 < 0 then some false else (if 0 ≤ r41.2.1 then (if (w64 ((shlI .i64 1 r41.2.1) - 1)) ≤ r41.1 then some false else (if 0 ≤ v24 ∧ v24 ≤ (a0_1.length : Int) then law05_HuffPrefix_l2 K (law05_HuffPrefix_l1 K a0_0 a0_1 r19 k1) a0_0 a0_1 v24 r19 r41 K 0 else none)) else none)))) else some false)) else none) else law05_HuffPrefix_j1 K)

def law05_HuffPrefix (K : Nat) (a0_0 : (Nat → Int)) (a0_1 : (List Int)) : Option (Bool) :=
  (if 300 < (a0_1.length : Int) then ((law05_awake K ).bind fun r14 => some r14) else ((law05_own K a0_0 a0_1).bind fun r15 => ((huff_New K a0_0 (([] : List Int) ++ a0_1)).bind fun r18 => match r18 with | .inl r19 => law05_HuffPrefix_l1 K a0_0 a0_1 r19 K 0 | .inr r65 => ((law05_awake K ).bind fun r67 => some r67))))

theorem c_law05_HuffPrefix (K : Nat) (a0_0 : (Nat → Int)) (a0_1 : (List Int)) (sa0_1 : Value) (r : Bool) (w0 : World) (S : Own) (hM0 : Mem w0 S [ro sa0_1 1 a0_1.length (ec e1 a0_1)] w0) (hm : law05_HuffPrefix K a0_0 a0_1 = some r) : Calls Try.prog 3 #[.agg (cat [(16, (iv a0_0)), p1 (sa0_1)])] w0 fun e w' => ∃ _u : Unit, e = .returned (.bool r) ∧ Mem w0 S [] w' := by
  unfold law05_HuffPrefix at hm
  refine calls_CW (n := 104) w0 S [ro sa0_1 1 a0_1.length (ec e1 a0_1)] Try.func3 rfl rfl rfl hM0 ?_
  refine CW.seq ?_
  refine CW.region ?_
  refine RW.box (v := .agg (cat [(16, (iv a0_0)), p1 (sa0_1)])) rfl rfl rfl (fun b12 => ?_)
  refine RW.yi (.bool false) rfl rfl (Yi.pv _ rfl) ?_
  refine RW.nil ?_
  refine EW.next ?_
  refine CW.seq ?_
  refine CW.seq ?_
  refine CW.region ?_
  refine RW.yi (.pointer (some ⟨b12, 16, none⟩)) rfl rfl (Yi.fieldAddr (j := 1) Try.underlying25 rfl Try.sizeOf23 rfl) ?_
  refine RW.yi (sa0_1) rfl rfl (Yi.load1 (i := 0) _ rfl rfl Try.isAgg23 (cat_get1 (ps := [(16, (iv a0_0)), p1 (sa0_1)]) 1 rfl rfl)) ?_
  refine RW.yi (.int .i64 (a0_1.length : Int)) rfl rfl (Yi.lenS (cs := ec e1 a0_1) (m := a0_1.length) Try.underlying23 rfl (rdF 1 rfl)) ?_
  refine RW.yi (.bool (decide (300 < (a0_1.length : Int)))) rfl rfl (Yi.pv _ rfl) ?_
  refine RW.nil ?_
  refine EW.next ?_
  refine CW.fork 18 (300 < (a0_1.length : Int)) rfl (fun h13 => ?_) (fun h13 => ?_)
  · replace hm := (if_pos h13).symm.trans hm
    refine CW.cond_true rfl ?_
    refine CW.seq ?_
    refine CW.region ?_
    obtain ⟨r14, hr14, hm⟩ := of_bind hm
    refine RW.ca (.bool r14) rfl rfl (Ca.call (cs := []) [] rfl rfl Try.call10 (fun w hM => lent0) (fun w S' hM => (c_law05_awake K  r14 w S' hM hr14).mono (fun _ _ h => by obtain ⟨_, h1, h2⟩ := h; exact ⟨h1, h2⟩))) ?_
    refine RW.yi (.bool r14) rfl rfl (Yi.pv _ rfl) ?_
    refine RW.nil ?_
    refine EW.next ?_
    refine CW.ret ?_
    refine EW.thr ?_
    obtain rfl := Option.some.inj hm
    exact EW.done (rs := [.tmp 2]) rfl (.tmp (t := 2) (v := .bool r14) rfl .nil) (fun _ hM => ⟨(), rfl, (hM.pick [] rfl rfl)⟩)
  · replace hm := (if_neg h13).symm.trans hm
    refine CW.cond_false rfl ?_
    refine CW.skip ?_
    refine EW.next ?_
    refine CW.seq ?_
    refine CW.region ?_
    refine RW.yi (.agg (cat [(16, (iv a0_0)), p1 (sa0_1)])) rfl rfl (Yi.loadW (i := 0) rfl rfl Try.isAgg25 (by simp only [cat_size]; exact Try.sizeOf25)) ?_
    obtain ⟨r15, hr15, hm⟩ := of_bind hm
    refine RW.callM (cs := []) [] [.blk b12 25 (cat [(16, (iv a0_0)), p1 (sa0_1)]), ro sa0_1 1 a0_1.length (ec e1 a0_1)] [ro sa0_1 1 a0_1.length (ec e1 a0_1)] [0, 1] (fun (u16 : Value) => [.row u16 3 1 (([] : List Int) ++ a0_1).length (ec e1 (([] : List Int) ++ a0_1))]) (fun (u16 : Value) => .agg (cat [(16, (iv a0_0)), p1 (u16)])) rfl rfl rfl rfl Try.call12 rfl rfl rfl (fun w hM => lentF (A := []) hM 1 rfl (lent0)) (.inl fun _ => rfl) (fun w S' hM => c_law05_own K a0_0 a0_1 sa0_1 r15 w S' hM hr15) (fun u16 => ?_)
    obtain ⟨r18, hr18, hm⟩ := of_bind hm
    rcases r18 with r19 | r65
    · dsimp only at hm
      refine RW.callM (cs := []) [] [.row u16 3 1 (([] : List Int) ++ a0_1).length (ec e1 (([] : List Int) ++ a0_1)), .blk b12 25 (cat [(16, (iv a0_0)), p1 (sa0_1)]), ro sa0_1 1 a0_1.length (ec e1 a0_1)] [ro u16 1 (([] : List Int) ++ a0_1).length (ec e1 (([] : List Int) ++ a0_1))] [0, 1, 2] (fun (u20 : Nat × Value × Nat) => [.blk u20.1 67 (cat [(16, (iv a0_0)), p1 (u20.2.1), (512, (iv r19.1)), p1 (.map (some u20.2.2))]), .row u20.2.1 3 1 r19.2.1.length (ec e1 r19.2.1), mpE u20.2.2 r19.2.2]) (fun (u20 : Nat × Value × Nat) => .tuple #[.pointer (some ⟨u20.1, 0, none⟩), .int .i64 0]) rfl rfl rfl rfl Try.call11 rfl rfl rfl (fun w hM => lentW (A := []) hM 0 rfl (lent0)) (.inl fun _ => rfl) (fun w S' hM => c_huff_New K a0_0 (([] : List Int) ++ a0_1) u16 (.inl r19) w S' hM hr18) (fun u20 => ?_)
      refine RW.yi (.tuple #[.pointer (some ⟨u20.1, 0, none⟩), .int .i64 0]) rfl rfl (Yi.pv _ rfl) ?_
      refine RW.yi (.pointer (some ⟨u20.1, 0, none⟩)) rfl rfl (Yi.pv _ rfl) ?_
      refine RW.yi (.int .i64 0) rfl rfl (Yi.pv _ rfl) ?_
      refine RW.yi (.pointer (some ⟨u20.1, 0, none⟩)) rfl rfl (Yi.pv _ rfl) ?_
      refine RW.yi (.int .i64 0) rfl rfl (Yi.pv _ rfl) ?_
      refine RW.nil ?_
      refine EW.next ?_
      refine CW.seq ?_
      refine CW.seq ?_
      refine CW.region ?_
      refine RW.yi (.int .i64 0) rfl rfl (Yi.pv _ rfl) ?_
      refine RW.yi (.bool false) rfl rfl (Yi.pv _ rfl) ?_
      refine RW.nil ?_
      refine EW.next ?_
      refine CW.cond_false rfl ?_
      refine CW.skip ?_
      refine EW.next ?_
      refine CW.join (fun a w => St 104 [] a ∧ Mem w0 S [] w ∧ law05_HuffPrefix_j1 K = some r) ?_ ?_
      · refine CW.seq ?_
        refine CW.region ?_
        refine RW.yi (.pointer (some ⟨b12, 16, none⟩)) rfl rfl (Yi.fieldAddr (j := 1) Try.underlying25 rfl Try.sizeOf23 rfl) ?_
        refine RW.yi (sa0_1) rfl rfl (Yi.load1 (i := 4) _ rfl rfl Try.isAgg23 (cat_get1 (ps := [(16, (iv a0_0)), p1 (sa0_1)]) 1 rfl rfl)) ?_
        refine RW.yi (.int .i64 (a0_1.length : Int)) rfl rfl (Yi.lenS (cs := ec e1 a0_1) (m := a0_1.length) Try.underlying23 rfl (rdF 5 rfl)) ?_
        refine RW.yi (.int .i64 0) rfl rfl (Yi.pv _ rfl) ?_
        refine RW.nil ?_
        refine EW.next ?_
        refine CW.block ?_
        refine CW.loop (fun k a w => ∃ (v24 : Int), St 104 [(1, .pointer (some ⟨b12, 0, none⟩)), (3, .pointer (some ⟨u20.1, 0, none⟩)), (34, sa0_1), (35, .int .i64 (a0_1.length : Int)), (36, .int .i64 v24)] a ∧ Mem w0 S [.blk b12 25 (cat [(16, (iv a0_0)), p1 (sa0_1)]), ro sa0_1 1 a0_1.length (ec e1 a0_1), .blk u20.1 67 (cat [(16, (iv a0_0)), p1 (u20.2.1), (512, (iv r19.1)), p1 (.map (some u20.2.2))]), .row u20.2.1 3 1 r19.2.1.length (ec e1 r19.2.1), mpE u20.2.2 r19.2.2] w ∧ law05_HuffPrefix_l1 K a0_0 a0_1 r19 k v24 = some r) K ?_ ?_ ?_
        · rintro a w ⟨_, _, _, hm⟩
          rw [law05_HuffPrefix_l1.eq_1] at hm
          cases hm
        · exact fun a w hs hM => ⟨0, hs.sub ⟨rfl, rfl, rfl, rfl, rfl, trivial⟩, (hM.pick [4, 5, 0, 1, 2] rfl rfl), hm⟩
        · rintro k1 a w ⟨v24, hs, hM, hm⟩
          rw [law05_HuffPrefix_l1.eq_2] at hm
          refine CW.enter hs hM ?_
          refine CW.seq ?_
          refine CW.region ?_
          refine RW.yi (.bool (decide (v24 < (a0_1.length : Int)))) rfl rfl (Yi.pv _ rfl) ?_
          refine RW.nil ?_
          refine EW.next ?_
          refine CW.seq ?_
          refine CW.fork 37 (v24 < (a0_1.length : Int)) rfl (fun h27 => ?_) (fun h27 => ?_)
          · replace hm := (if_pos h27).symm.trans hm
            refine CW.cond_true rfl ?_
            refine CW.skip ?_
            refine EW.next ?_
            refine CW.join (fun a w => ∃ (v29 : Int) (v30 : Bool) (v31 : Int) (v32 : Bool) (v33 : Int) (v34 : Bool) (v35 : Int) (v36 : Int) (v37 : Int) (v38 : Int) (v39 : Bool), St 104 [(1, .pointer (some ⟨b12, 0, none⟩)), (3, .pointer (some ⟨u20.1, 0, none⟩)), (34, sa0_1), (35, .int .i64 (a0_1.length : Int)), (36, .int .i64 v24), (51, .int .i64 v29), (52, .bool v30), (55, .int .i64 v31), (56, .bool v32), (59, .int .i64 v33), (60, .bool v34), (63, .int .i64 v35), (64, .int .i64 v36), (65, .int .i64 v37), (66, .int .i64 v38), (67, .bool v39)] a ∧ Mem w0 S [.blk b12 25 (cat [(16, (iv a0_0)), p1 (sa0_1)]), ro sa0_1 1 a0_1.length (ec e1 a0_1), .blk u20.1 67 (cat [(16, (iv a0_0)), p1 (u20.2.1), (512, (iv r19.1)), p1 (.map (some u20.2.2))]), .row u20.2.1 3 1 r19.2.1.length (ec e1 r19.2.1), mpE u20.2.2 r19.2.2] w ∧ law05_HuffPrefix_j2 K (law05_HuffPrefix_l1 K a0_0 a0_1 r19 k1) v24 v29 v30 v31 v32 v33 v34 v35 v36 v37 v38 v39 = some r) ?_ ?_
            · refine CW.block ?_
              refine CW.seq ?_
              refine CW.region ?_
              refine RW.yi (.int .i64 v24) rfl rfl (Yi.pv _ rfl) ?_
              obtain ⟨g40, hm⟩ := of_guard hm
              refine RW.yi (.pointer (some (eaddr sa0_1 1 v24.toNat 0))) rfl rfl (Yi.idxS (m := a0_1.length) Try.underlying23 Try.sizeOf3 rfl rfl (rdF 1 rfl) g40.1 g40.2) ?_
              refine RW.yi (.int .i64 (a0_1.getD v24.toNat 0)) rfl rfl (Yi.loadS (m := a0_1.length) (cs := ec e1 a0_1) _ rfl (rdF 1 rfl) Try.isAgg3 (by omega) (by omega) (by rw [ec_get (d := 0) e1_is (by omega) (by decide)]; rfl)) ?_
              refine RW.yi (.int .i64 v24) rfl rfl (Yi.pv _ rfl) ?_
              refine RW.yi (.int .i64 (a0_1.getD v24.toNat 0)) rfl rfl (Yi.pv _ rfl) ?_
              refine RW.nil ?_
              refine EW.next ?_
              refine CW.seq ?_
              refine CW.region ?_
              refine RW.yi (.pointer (some ⟨u20.1, 0, none⟩)) rfl rfl (Yi.pv _ rfl) ?_
              refine RW.yi (.int .i64 (a0_1.getD v24.toNat 0)) rfl rfl (Yi.pv _ rfl) ?_
              obtain ⟨r41, hr41, hm⟩ := of_bind hm
              refine RW.callM (cs := []) [.blk u20.1 67 (cat [(16, (iv a0_0)), p1 (u20.2.1), (512, (iv r19.1)), p1 (.map (some u20.2.2))]), .row u20.2.1 3 1 r19.2.1.length (ec e1 r19.2.1), mpE u20.2.2 r19.2.2] [.blk b12 25 (cat [(16, (iv a0_0)), p1 (sa0_1)]), ro sa0_1 1 a0_1.length (ec e1 a0_1)] [] [2, 3, 4, 0, 1] (fun (_ : Unit) => [.blk u20.1 67 (cat [(16, (iv a0_0)), p1 (u20.2.1), (512, (iv r19.1)), p1 (.map (some u20.2.2))]), .row u20.2.1 3 1 r19.2.1.length (ec e1 r19.2.1), mpE u20.2.2 r19.2.2]) (fun (_ : Unit) => .tuple #[.int .i64 r41.1, .int .i64 r41.2.1, .bool r41.2.2]) rfl rfl rfl rfl Try.call13 rfl rfl rfl (fun w hM => lent0) (.inl fun _ => rfl) (fun w S' hM => c_huff_Table_Code K a0_0 r19.2.1 r19.1 r19.2.2 (a0_1.getD v24.toNat 0) u20.1 u20.2.1 u20.2.2 r41 w S' hM hr41) (fun _ => ?_)
              refine RW.yi (.tuple #[.int .i64 r41.1, .int .i64 r41.2.1, .bool r41.2.2]) rfl rfl (Yi.pv _ rfl) ?_
              refine RW.yi (.int .i64 r41.1) rfl rfl (Yi.pv _ rfl) ?_
              refine RW.yi (.int .i64 r41.2.1) rfl rfl (Yi.pv _ rfl) ?_
              refine RW.yi (.bool r41.2.2) rfl rfl (Yi.pv _ rfl) ?_
              refine RW.yi (.int .i64 r41.1) rfl rfl (Yi.pv _ rfl) ?_
              refine RW.yi (.int .i64 r41.2.1) rfl rfl (Yi.pv _ rfl) ?_
              refine RW.yi (.bool r41.2.2) rfl rfl (Yi.pv _ rfl) ?_
              refine RW.nil ?_
              refine EW.next ?_
              refine CW.seq ?_
              refine CW.seq ?_
              refine CW.region ?_
              refine RW.yi (.bool r41.2.2) rfl rfl (Yi.pv _ rfl) ?_
              refine RW.forkB 48 (r41.2.2) rfl (fun h44 => ?_) (fun h44 => ?_)
              · replace hm := (if_pos h44).symm.trans hm
                refine RW.yi (.bool false) rfl rfl (Yi.pv _ rfl) ?_
                refine RW.yi (.bool false) rfl rfl (Yi.pv _ rfl) ?_
                refine RW.yi (.int .i64 r41.2.1) rfl rfl (Yi.pv _ rfl) ?_
                refine RW.yi (.bool (decide (r41.2.1 < 1))) rfl rfl (Yi.pv _ rfl) ?_
                refine RW.yi (.bool (decide (r41.2.1 < 1))) rfl rfl (Yi.pv _ rfl) ?_
                refine RW.yi (.bool (decide (r41.2.1 < 1))) rfl rfl (Yi.pv _ rfl) ?_
                refine RW.fork 54 (r41.2.1 < 1) rfl (fun h45 => ?_) (fun h45 => ?_)
                · replace hm := (if_pos h45).symm.trans hm
                  refine RW.pass rfl rfl ?_
                  refine RW.pass rfl rfl ?_
                  refine RW.yi (.bool true) rfl rfl (Yi.pv _ rfl) ?_
                  refine RW.yi (.bool true) rfl rfl (Yi.pv _ rfl) ?_
                  refine RW.pass rfl rfl ?_
                  refine RW.pass rfl rfl ?_
                  refine RW.yi (.bool true) rfl rfl (Yi.pv _ rfl) ?_
                  refine RW.yi (.bool true) rfl rfl (Yi.pv _ rfl) ?_
                  refine RW.pass rfl rfl ?_
                  refine RW.pass rfl rfl ?_
                  refine RW.pass rfl rfl ?_
                  refine RW.pass rfl rfl ?_
                  refine RW.pass rfl rfl ?_
                  refine RW.yi (.bool true) rfl rfl (Yi.pv _ rfl) ?_
                  refine RW.nil ?_
                  refine EW.next ?_
                  refine CW.cond_true rfl ?_
                  refine CW.seq ?_
                  refine CW.region ?_
                  refine RW.yi (.bool false) rfl rfl (Yi.pv _ rfl) ?_
                  refine RW.nil ?_
                  refine EW.next ?_
                  refine CW.ret ?_
                  refine EW.thr ?_
                  refine EW.blr ?_
                  refine EW.thr ?_
                  refine EW.thr ?_
                  refine EW.blr ?_
                  refine EW.thr ?_
                  obtain rfl := Option.some.inj hm
                  exact EW.done (rs := [.tmp 2]) rfl (.tmp (t := 2) (v := .bool false) rfl .nil) (fun _ hM => ⟨(), rfl, (hM.pick [] rfl rfl)⟩)
                · replace hm := (if_neg h45).symm.trans hm
                  refine RW.yi (.int .i64 r41.2.1) rfl rfl (Yi.pv _ rfl) ?_
                  refine RW.yi (.bool (decide (16 < r41.2.1))) rfl rfl (Yi.pv _ rfl) ?_
                  refine RW.yi (.bool (decide (16 < r41.2.1))) rfl rfl (Yi.pv _ rfl) ?_
                  refine RW.yi (.bool (decide (16 < r41.2.1))) rfl rfl (Yi.pv _ rfl) ?_
                  refine RW.fork 58 (16 < r41.2.1) rfl (fun h46 => ?_) (fun h46 => ?_)
                  · replace hm := (if_pos h46).symm.trans hm
                    refine RW.pass rfl rfl ?_
                    refine RW.pass rfl rfl ?_
                    refine RW.yi (.bool true) rfl rfl (Yi.pv _ rfl) ?_
                    refine RW.yi (.bool true) rfl rfl (Yi.pv _ rfl) ?_
                    refine RW.pass rfl rfl ?_
                    refine RW.pass rfl rfl ?_
                    refine RW.pass rfl rfl ?_
                    refine RW.pass rfl rfl ?_
                    refine RW.pass rfl rfl ?_
                    refine RW.yi (.bool true) rfl rfl (Yi.pv _ rfl) ?_
                    refine RW.nil ?_
                    refine EW.next ?_
                    refine CW.cond_true rfl ?_
                    refine CW.seq ?_
                    refine CW.region ?_
                    refine RW.yi (.bool false) rfl rfl (Yi.pv _ rfl) ?_
                    refine RW.nil ?_
                    refine EW.next ?_
                    refine CW.ret ?_
                    refine EW.thr ?_
                    refine EW.blr ?_
                    refine EW.thr ?_
                    refine EW.thr ?_
                    refine EW.blr ?_
                    refine EW.thr ?_
                    obtain rfl := Option.some.inj hm
                    exact EW.done (rs := [.tmp 2]) rfl (.tmp (t := 2) (v := .bool false) rfl .nil) (fun _ hM => ⟨(), rfl, (hM.pick [] rfl rfl)⟩)
                  · replace hm := (if_neg h46).symm.trans hm
                    refine RW.yi (.int .i64 r41.1) rfl rfl (Yi.pv _ rfl) ?_
                    refine RW.yi (.bool (decide (r41.1 < 0))) rfl rfl (Yi.pv _ rfl) ?_
                    refine RW.yi (.bool (decide (r41.1 < 0))) rfl rfl (Yi.pv _ rfl) ?_
                    refine RW.yi (.bool (decide (r41.1 < 0))) rfl rfl (Yi.pv _ rfl) ?_
                    refine RW.fork 62 (r41.1 < 0) rfl (fun h47 => ?_) (fun h47 => ?_)
                    · replace hm := (if_pos h47).symm.trans hm
                      refine RW.pass rfl rfl ?_
                      refine RW.pass rfl rfl ?_
                      refine RW.pass rfl rfl ?_
                      refine RW.pass rfl rfl ?_
                      refine RW.pass rfl rfl ?_
                      refine RW.yi (.bool true) rfl rfl (Yi.pv _ rfl) ?_
                      refine RW.nil ?_
                      refine EW.next ?_
                      refine CW.cond_true rfl ?_
                      refine CW.seq ?_
                      refine CW.region ?_
                      refine RW.yi (.bool false) rfl rfl (Yi.pv _ rfl) ?_
                      refine RW.nil ?_
                      refine EW.next ?_
                      refine CW.ret ?_
                      refine EW.thr ?_
                      refine EW.blr ?_
                      refine EW.thr ?_
                      refine EW.thr ?_
                      refine EW.blr ?_
                      refine EW.thr ?_
                      obtain rfl := Option.some.inj hm
                      exact EW.done (rs := [.tmp 2]) rfl (.tmp (t := 2) (v := .bool false) rfl .nil) (fun _ hM => ⟨(), rfl, (hM.pick [] rfl rfl)⟩)
                    · replace hm := (if_neg h47).symm.trans hm
                      refine RW.yi (.int .i64 r41.1) rfl rfl (Yi.pv _ rfl) ?_
                      refine RW.yi (.int .i64 r41.2.1) rfl rfl (Yi.pv _ rfl) ?_
                      obtain ⟨g48, hm⟩ := of_guard hm
                      refine RW.yi (.int .i64 (shlI .i64 1 r41.2.1)) rfl rfl (Yi.shl rfl rfl g48) ?_
                      refine RW.yi (.int .i64 (w64 ((shlI .i64 1 r41.2.1) - 1))) rfl rfl (Yi.pv _ rfl) ?_
                      refine RW.yi (.bool (decide ((w64 ((shlI .i64 1 r41.2.1) - 1)) ≤ r41.1))) rfl rfl (Yi.pv _ rfl) ?_
                      refine RW.yi (.bool (decide ((w64 ((shlI .i64 1 r41.2.1) - 1)) ≤ r41.1))) rfl rfl (Yi.pv _ rfl) ?_
                      refine RW.nil ?_
                      refine EW.next ?_
                      refine CW.fork 68 ((w64 ((shlI .i64 1 r41.2.1) - 1)) ≤ r41.1) rfl (fun h49 => ?_) (fun h49 => ?_)
                      · replace hm := (if_pos h49).symm.trans hm
                        refine CW.cond_true rfl ?_
                        refine CW.seq ?_
                        refine CW.region ?_
                        refine RW.yi (.bool false) rfl rfl (Yi.pv _ rfl) ?_
                        refine RW.nil ?_
                        refine EW.next ?_
                        refine CW.ret ?_
                        refine EW.thr ?_
                        refine EW.blr ?_
                        refine EW.thr ?_
                        refine EW.thr ?_
                        refine EW.blr ?_
                        refine EW.thr ?_
                        obtain rfl := Option.some.inj hm
                        exact EW.done (rs := [.tmp 2]) rfl (.tmp (t := 2) (v := .bool false) rfl .nil) (fun _ hM => ⟨(), rfl, (hM.pick [] rfl rfl)⟩)
                      · replace hm := (if_neg h49).symm.trans hm
                        refine CW.cond_false rfl ?_
                        refine CW.skip ?_
                        refine EW.next ?_
                        refine CW.seq ?_
                        refine CW.region ?_
                        refine RW.yi (.pointer (some ⟨b12, 16, none⟩)) rfl rfl (Yi.fieldAddr (j := 1) Try.underlying25 rfl Try.sizeOf23 rfl) ?_
                        refine RW.yi (sa0_1) rfl rfl (Yi.load1 (i := 3) _ rfl rfl Try.isAgg23 (cat_get1 (ps := [(16, (iv a0_0)), p1 (sa0_1)]) 1 rfl rfl)) ?_
                        refine RW.yi (.int .i64 v24) rfl rfl (Yi.pv _ rfl) ?_
                        obtain ⟨g50, hm⟩ := of_guard hm
                        refine RW.yi ((subS sa0_1 1 0 v24.toNat none)) rfl rfl (Yi.slice (sz := 1) (m := a0_1.length) (l' := 0) (h' := v24.toNat) (m' := none) (v := sa0_1) (cs := ec e1 a0_1) Try.underlying23 Try.sizeOf3 rfl (rdF 4 rfl) (.inl ⟨rfl, rfl⟩) (.inr ⟨_, _, _, rfl, rfl, (by omega)⟩) (.inl ⟨rfl, rfl⟩) (by omega) (by omega) (fun _ h => by cases h)) ?_
                        refine RW.conv (fun _ hM => hM.subRo 4 0 v24.toNat none rfl (by omega) (by omega) (fun _ h => by cases h) (k := (a0_1.take v24.toNat).length) (cs' := ec e1 (a0_1.take v24.toNat)) (by simp only [List.length_take, List.length_drop] <;> omega) (ec_subT e1_is a0_1 v24.toNat)) ?_
                        refine RW.yi (.int .i64 ((a0_1.take v24.toNat).length : Int)) rfl rfl (Yi.lenS (cs := ec e1 (a0_1.take v24.toNat)) (m := (a0_1.take v24.toNat).length) Try.underlying23 rfl (rdF 0 rfl)) ?_
                        refine RW.yi (.int .i64 0) rfl rfl (Yi.pv _ rfl) ?_
                        refine RW.nil ?_
                        refine EW.next ?_
                        refine CW.block ?_
                        refine CW.loop (fun k a w => ∃ (v53 : Int), St 104 [(1, .pointer (some ⟨b12, 0, none⟩)), (3, .pointer (some ⟨u20.1, 0, none⟩)), (7, .int .i64 r41.1), (8, .int .i64 r41.2.1), (34, sa0_1), (35, .int .i64 (a0_1.length : Int)), (36, .int .i64 v24), (51, .int .i64 r41.2.1), (52, .bool (decide (r41.2.1 < 1))), (55, .int .i64 r41.2.1), (56, .bool (decide (16 < r41.2.1))), (59, .int .i64 r41.1), (60, .bool (decide (r41.1 < 0))), (63, .int .i64 r41.1), (64, .int .i64 r41.2.1), (65, .int .i64 (shlI .i64 1 r41.2.1)), (66, .int .i64 (w64 ((shlI .i64 1 r41.2.1) - 1))), (67, .bool (decide ((w64 ((shlI .i64 1 r41.2.1) - 1)) ≤ r41.1))), (72, subS sa0_1 1 0 v24.toNat none), (73, .int .i64 ((a0_1.take v24.toNat).length : Int)), (74, .int .i64 v53)] a ∧ Mem w0 S [.blk b12 25 (cat [(16, (iv a0_0)), p1 (sa0_1)]), ro sa0_1 1 a0_1.length (ec e1 a0_1), .blk u20.1 67 (cat [(16, (iv a0_0)), p1 (u20.2.1), (512, (iv r19.1)), p1 (.map (some u20.2.2))]), .row u20.2.1 3 1 r19.2.1.length (ec e1 r19.2.1), mpE u20.2.2 r19.2.2, ro (subS sa0_1 1 0 v24.toNat none) 1 (a0_1.take v24.toNat).length (ec e1 (a0_1.take v24.toNat))] w ∧ law05_HuffPrefix_l2 K (law05_HuffPrefix_l1 K a0_0 a0_1 r19 k1) a0_0 a0_1 v24 r19 r41 k v53 = some r) K ?_ ?_ ?_
                        · rintro a w ⟨_, _, _, hm⟩
                          rw [law05_HuffPrefix_l2.eq_1] at hm
                          cases hm
                        · exact fun a w hs hM => ⟨0, hs.sub ⟨rfl, rfl, rfl, rfl, rfl, rfl, rfl, rfl, rfl, rfl, rfl, rfl, rfl, rfl, rfl, rfl, rfl, rfl, rfl, rfl, rfl, trivial⟩, (hM.pick [4, 5, 1, 2, 3, 0] rfl rfl), hm⟩
                        · rintro k2 a w ⟨v53, hs, hM, hm⟩
                          rw [law05_HuffPrefix_l2.eq_2] at hm
                          refine CW.enter hs hM ?_
                          refine CW.seq ?_
                          refine CW.region ?_
                          refine RW.yi (.bool (decide (v53 < ((a0_1.take v24.toNat).length : Int)))) rfl rfl (Yi.pv _ rfl) ?_
                          refine RW.nil ?_
                          refine EW.next ?_
                          refine CW.seq ?_
                          refine CW.fork 75 (v53 < ((a0_1.take v24.toNat).length : Int)) rfl (fun h56 => ?_) (fun h56 => ?_)
                          · replace hm := (if_pos h56).symm.trans hm
                            refine CW.cond_true rfl ?_
                            refine CW.skip ?_
                            refine EW.next ?_
                            refine CW.seq ?_
                            refine CW.block ?_
                            refine CW.seq ?_
                            refine CW.region ?_
                            obtain ⟨g57, hm⟩ := of_guard hm
                            refine RW.yi (.pointer (some (eaddr (subS sa0_1 1 0 v24.toNat none) 1 v53.toNat 0))) rfl rfl (Yi.idxS (m := (a0_1.take v24.toNat).length) Try.underlying23 Try.sizeOf3 rfl rfl (rdF 5 rfl) g57.1 g57.2) ?_
                            refine RW.yi (.int .i64 ((a0_1.take v24.toNat).getD v53.toNat 0)) rfl rfl (Yi.loadS (m := (a0_1.take v24.toNat).length) (cs := ec e1 (a0_1.take v24.toNat)) _ rfl (rdF 5 rfl) Try.isAgg3 (by omega) (by omega) (by rw [ec_get (d := 0) e1_is (by omega) (by decide)]; rfl)) ?_
                            refine RW.yi (.int .i64 ((a0_1.take v24.toNat).getD v53.toNat 0)) rfl rfl (Yi.pv _ rfl) ?_
                            refine RW.nil ?_
                            refine EW.next ?_
                            refine CW.seq ?_
                            refine CW.region ?_
                            refine RW.yi (.pointer (some ⟨u20.1, 0, none⟩)) rfl rfl (Yi.pv _ rfl) ?_
                            refine RW.yi (.int .i64 ((a0_1.take v24.toNat).getD v53.toNat 0)) rfl rfl (Yi.pv _ rfl) ?_
                            obtain ⟨r58, hr58, hm⟩ := of_bind hm
                            refine RW.callM (cs := []) [.blk u20.1 67 (cat [(16, (iv a0_0)), p1 (u20.2.1), (512, (iv r19.1)), p1 (.map (some u20.2.2))]), .row u20.2.1 3 1 r19.2.1.length (ec e1 r19.2.1), mpE u20.2.2 r19.2.2] [.blk b12 25 (cat [(16, (iv a0_0)), p1 (sa0_1)]), ro sa0_1 1 a0_1.length (ec e1 a0_1), ro (subS sa0_1 1 0 v24.toNat none) 1 (a0_1.take v24.toNat).length (ec e1 (a0_1.take v24.toNat))] [] [2, 3, 4, 0, 1, 5] (fun (_ : Unit) => [.blk u20.1 67 (cat [(16, (iv a0_0)), p1 (u20.2.1), (512, (iv r19.1)), p1 (.map (some u20.2.2))]), .row u20.2.1 3 1 r19.2.1.length (ec e1 r19.2.1), mpE u20.2.2 r19.2.2]) (fun (_ : Unit) => .tuple #[.int .i64 r58.1, .int .i64 r58.2.1, .bool r58.2.2]) rfl rfl rfl rfl Try.call13 rfl rfl rfl (fun w hM => lent0) (.inl fun _ => rfl) (fun w S' hM => c_huff_Table_Code K a0_0 r19.2.1 r19.1 r19.2.2 ((a0_1.take v24.toNat).getD v53.toNat 0) u20.1 u20.2.1 u20.2.2 r58 w S' hM hr58) (fun _ => ?_)
                            refine RW.yi (.tuple #[.int .i64 r58.1, .int .i64 r58.2.1, .bool r58.2.2]) rfl rfl (Yi.pv _ rfl) ?_
                            refine RW.yi (.int .i64 r58.1) rfl rfl (Yi.pv _ rfl) ?_
                            refine RW.yi (.int .i64 r58.2.1) rfl rfl (Yi.pv _ rfl) ?_
                            refine RW.yi (.bool r58.2.2) rfl rfl (Yi.pv _ rfl) ?_
                            refine RW.yi (.int .i64 r58.1) rfl rfl (Yi.pv _ rfl) ?_
                            refine RW.yi (.int .i64 r58.2.1) rfl rfl (Yi.pv _ rfl) ?_
                            refine RW.yi (.bool r58.2.2) rfl rfl (Yi.pv _ rfl) ?_
                            refine RW.nil ?_
                            refine EW.next ?_
                            refine CW.seq ?_
                            refine CW.region ?_
                            refine RW.yi (.int .i64 r58.2.1) rfl rfl (Yi.pv _ rfl) ?_
                            refine RW.yi (.int .i64 r41.2.1) rfl rfl (Yi.pv _ rfl) ?_
                            refine RW.yi (.bool (decide (r41.2.1 < r58.2.1))) rfl rfl (Yi.pv _ rfl) ?_
                            refine RW.yi (.bool (decide (r41.2.1 < r58.2.1))) rfl rfl (Yi.pv _ rfl) ?_
                            refine RW.fork 88 (r41.2.1 < r58.2.1) rfl (fun h61 => ?_) (fun h61 => ?_)
                            · replace hm := (if_pos h61).symm.trans hm
                              refine RW.pass rfl rfl ?_
                              refine RW.pass rfl rfl ?_
                              refine RW.yi (.bool true) rfl rfl (Yi.pv _ rfl) ?_
                              refine RW.yi (.bool true) rfl rfl (Yi.pv _ rfl) ?_
                              refine RW.pass rfl rfl ?_
                              refine RW.pass rfl rfl ?_
                              refine RW.pass rfl rfl ?_
                              refine RW.pass rfl rfl ?_
                              refine RW.pass rfl rfl ?_
                              refine RW.pass rfl rfl ?_
                              refine RW.pass rfl rfl ?_
                              refine RW.yi (.bool true) rfl rfl (Yi.pv _ rfl) ?_
                              refine RW.nil ?_
                              refine EW.next ?_
                              refine CW.cond_true rfl ?_
                              refine CW.seq ?_
                              refine CW.region ?_
                              refine RW.yi (.bool false) rfl rfl (Yi.pv _ rfl) ?_
                              refine RW.nil ?_
                              refine EW.next ?_
                              refine CW.ret ?_
                              refine EW.blr ?_
                              refine EW.thr ?_
                              refine EW.thr ?_
                              refine EW.blr ?_
                              refine EW.blr ?_
                              refine EW.thr ?_
                              refine EW.thr ?_
                              refine EW.blr ?_
                              refine EW.thr ?_
                              obtain rfl := Option.some.inj hm
                              exact EW.done (rs := [.tmp 2]) rfl (.tmp (t := 2) (v := .bool false) rfl .nil) (fun _ hM => ⟨(), rfl, (hM.pick [] rfl rfl)⟩)
                            · replace hm := (if_neg h61).symm.trans hm
                              refine RW.yi (.int .i64 r58.2.1) rfl rfl (Yi.pv _ rfl) ?_
                              refine RW.yi (.bool (decide (r58.2.1 < 1))) rfl rfl (Yi.pv _ rfl) ?_
                              refine RW.yi (.bool (decide (r58.2.1 < 1))) rfl rfl (Yi.pv _ rfl) ?_
                              refine RW.yi (.bool (decide (r58.2.1 < 1))) rfl rfl (Yi.pv _ rfl) ?_
                              refine RW.fork 92 (r58.2.1 < 1) rfl (fun h62 => ?_) (fun h62 => ?_)
                              · replace hm := (if_pos h62).symm.trans hm
                                refine RW.pass rfl rfl ?_
                                refine RW.pass rfl rfl ?_
                                refine RW.pass rfl rfl ?_
                                refine RW.pass rfl rfl ?_
                                refine RW.pass rfl rfl ?_
                                refine RW.pass rfl rfl ?_
                                refine RW.pass rfl rfl ?_
                                refine RW.yi (.bool true) rfl rfl (Yi.pv _ rfl) ?_
                                refine RW.nil ?_
                                refine EW.next ?_
                                refine CW.cond_true rfl ?_
                                refine CW.seq ?_
                                refine CW.region ?_
                                refine RW.yi (.bool false) rfl rfl (Yi.pv _ rfl) ?_
                                refine RW.nil ?_
                                refine EW.next ?_
                                refine CW.ret ?_
                                refine EW.blr ?_
                                refine EW.thr ?_
                                refine EW.thr ?_
                                refine EW.blr ?_
                                refine EW.blr ?_
                                refine EW.thr ?_
                                refine EW.thr ?_
                                refine EW.blr ?_
                                refine EW.thr ?_
                                obtain rfl := Option.some.inj hm
                                exact EW.done (rs := [.tmp 2]) rfl (.tmp (t := 2) (v := .bool false) rfl .nil) (fun _ hM => ⟨(), rfl, (hM.pick [] rfl rfl)⟩)
                              · replace hm := (if_neg h62).symm.trans hm
                                refine RW.yi (.int .i64 r41.1) rfl rfl (Yi.pv _ rfl) ?_
                                refine RW.yi (.int .i64 r41.2.1) rfl rfl (Yi.pv _ rfl) ?_
                                refine RW.yi (.int .i64 r58.2.1) rfl rfl (Yi.pv _ rfl) ?_
                                refine RW.yi (.int .i64 (w64 (r41.2.1 - r58.2.1))) rfl rfl (Yi.pv _ rfl) ?_
                                obtain ⟨g63, hm⟩ := of_guard hm
                                refine RW.yi (.int .i64 (shrI .i64 r41.1 (w64 (r41.2.1 - r58.2.1)))) rfl rfl (Yi.shr rfl rfl g63) ?_
                                refine RW.yi (.int .i64 r58.1) rfl rfl (Yi.pv _ rfl) ?_
                                refine RW.yi (.bool (decide ((shrI .i64 r41.1 (w64 (r41.2.1 - r58.2.1))) = r58.1))) rfl rfl (Yi.pv _ rfl) ?_
                                refine RW.yi (.bool (decide ((shrI .i64 r41.1 (w64 (r41.2.1 - r58.2.1))) = r58.1))) rfl rfl (Yi.pv _ rfl) ?_
                                refine RW.nil ?_
                                refine EW.next ?_
                                refine CW.fork 100 ((shrI .i64 r41.1 (w64 (r41.2.1 - r58.2.1))) = r58.1) rfl (fun h64 => ?_) (fun h64 => ?_)
                                · replace hm := (if_pos h64).symm.trans hm
                                  refine CW.cond_true rfl ?_
                                  refine CW.seq ?_
                                  refine CW.region ?_
                                  refine RW.yi (.bool false) rfl rfl (Yi.pv _ rfl) ?_
                                  refine RW.nil ?_
                                  refine EW.next ?_
                                  refine CW.ret ?_
                                  refine EW.blr ?_
                                  refine EW.thr ?_
                                  refine EW.thr ?_
                                  refine EW.blr ?_
                                  refine EW.blr ?_
                                  refine EW.thr ?_
                                  refine EW.thr ?_
                                  refine EW.blr ?_
                                  refine EW.thr ?_
                                  obtain rfl := Option.some.inj hm
                                  exact EW.done (rs := [.tmp 2]) rfl (.tmp (t := 2) (v := .bool false) rfl .nil) (fun _ hM => ⟨(), rfl, (hM.pick [] rfl rfl)⟩)
                                · replace hm := (if_neg h64).symm.trans hm
                                  refine CW.cond_false rfl ?_
                                  refine CW.skip ?_
                                  refine EW.bln ?_
                                  refine EW.next ?_
                                  refine CW.region ?_
                                  refine RW.yi (.int .i64 (w64 (v53 + 1))) rfl rfl (Yi.pv _ rfl) ?_
                                  refine RW.yi (.int .i64 (w64 (v53 + 1))) rfl rfl (Yi.pv _ rfl) ?_
                                  refine RW.nil ?_
                                  refine EW.thn ?_
                                  exact fun a w hs hM => ⟨(w64 (v53 + 1)), hs.sub ⟨rfl, rfl, rfl, rfl, rfl, rfl, rfl, rfl, rfl, rfl, rfl, rfl, rfl, rfl, rfl, rfl, rfl, rfl, rfl, rfl, rfl, trivial⟩, (hM.pick [3, 4, 0, 1, 2, 5] rfl rfl), hm⟩
                          · replace hm := (if_neg h56).symm.trans hm
                            refine CW.cond_false rfl ?_
                            refine CW.exit ?_
                            refine EW.thx ?_
                            refine EW.thx ?_
                            refine EW.blx ?_
                            refine EW.bln ?_
                            refine EW.thn ?_
                            exact fun a w hs hM => ⟨r41.2.1, (decide (r41.2.1 < 1)), r41.2.1, (decide (16 < r41.2.1)), r41.1, (decide (r41.1 < 0)), r41.1, r41.2.1, (shlI .i64 1 r41.2.1), (w64 ((shlI .i64 1 r41.2.1) - 1)), (decide ((w64 ((shlI .i64 1 r41.2.1) - 1)) ≤ r41.1)), hs.sub ⟨rfl, rfl, rfl, rfl, rfl, rfl, rfl, rfl, rfl, rfl, rfl, rfl, rfl, rfl, rfl, rfl, trivial⟩, (hM.pick [0, 1, 2, 3, 4] rfl rfl), hm⟩
              · replace hm := (if_neg h44).symm.trans hm
                refine RW.yi (.bool true) rfl rfl (Yi.pv _ rfl) ?_
                refine RW.yi (.bool true) rfl rfl (Yi.pv _ rfl) ?_
                refine RW.pass rfl rfl ?_
                refine RW.pass rfl rfl ?_
                refine RW.yi (.bool true) rfl rfl (Yi.pv _ rfl) ?_
                refine RW.yi (.bool true) rfl rfl (Yi.pv _ rfl) ?_
                refine RW.pass rfl rfl ?_
                refine RW.pass rfl rfl ?_
                refine RW.yi (.bool true) rfl rfl (Yi.pv _ rfl) ?_
                refine RW.yi (.bool true) rfl rfl (Yi.pv _ rfl) ?_
                refine RW.pass rfl rfl ?_
                refine RW.pass rfl rfl ?_
                refine RW.yi (.bool true) rfl rfl (Yi.pv _ rfl) ?_
                refine RW.yi (.bool true) rfl rfl (Yi.pv _ rfl) ?_
                refine RW.pass rfl rfl ?_
                refine RW.pass rfl rfl ?_
                refine RW.pass rfl rfl ?_
                refine RW.pass rfl rfl ?_
                refine RW.pass rfl rfl ?_
                refine RW.yi (.bool true) rfl rfl (Yi.pv _ rfl) ?_
                refine RW.nil ?_
                refine EW.next ?_
                refine CW.cond_true rfl ?_
                refine CW.seq ?_
                refine CW.region ?_
                refine RW.yi (.bool false) rfl rfl (Yi.pv _ rfl) ?_
                refine RW.nil ?_
                refine EW.next ?_
                refine CW.ret ?_
                refine EW.thr ?_
                refine EW.blr ?_
                refine EW.thr ?_
                refine EW.thr ?_
                refine EW.blr ?_
                refine EW.thr ?_
                obtain rfl := Option.some.inj hm
                exact EW.done (rs := [.tmp 2]) rfl (.tmp (t := 2) (v := .bool false) rfl .nil) (fun _ hM => ⟨(), rfl, (hM.pick [] rfl rfl)⟩)
            · rintro a w ⟨v29, v30, v31, v32, v33, v34, v35, v36, v37, v38, v39, hs, hM, hm⟩
              unfold law05_HuffPrefix_j2 at hm
              refine CW.enter hs hM ?_
              refine CW.region ?_
              refine RW.yi (.int .i64 (w64 (v24 + 1))) rfl rfl (Yi.pv _ rfl) ?_
              refine RW.yi (.int .i64 (w64 (v24 + 1))) rfl rfl (Yi.pv _ rfl) ?_
              refine RW.nil ?_
              refine EW.thn ?_
              exact fun a w hs hM => ⟨(w64 (v24 + 1)), hs.sub ⟨rfl, rfl, rfl, rfl, rfl, trivial⟩, (hM.pick [0, 1, 2, 3, 4] rfl rfl), hm⟩
          · replace hm := (if_neg h27).symm.trans hm
            refine CW.cond_false rfl ?_
            refine CW.exit ?_
            refine EW.thx ?_
            refine EW.thx ?_
            refine EW.blx ?_
            refine EW.thn ?_
            exact fun a w hs hM => ⟨hs.sub trivial, (hM.pick [] rfl rfl), hm⟩
      · rintro a w ⟨hs, hM, hm⟩
        unfold law05_HuffPrefix_j1 at hm
        refine CW.enter hs hM ?_
        refine CW.seq ?_
        refine CW.region ?_
        obtain ⟨r22, hr22, hm⟩ := of_bind hm
        refine RW.ca (.bool r22) rfl rfl (Ca.call (cs := []) [] rfl rfl Try.call10 (fun w hM => lent0) (fun w S' hM => (c_law05_awake K  r22 w S' hM hr22).mono (fun _ _ h => by obtain ⟨_, h1, h2⟩ := h; exact ⟨h1, h2⟩))) ?_
        refine RW.yi (.bool r22) rfl rfl (Yi.pv _ rfl) ?_
        refine RW.nil ?_
        refine EW.next ?_
        refine CW.ret ?_
        obtain rfl := Option.some.inj hm
        exact EW.done (rs := [.tmp 2]) rfl (.tmp (t := 2) (v := .bool r22) rfl .nil) (fun _ hM => ⟨(), rfl, (hM.pick [] rfl rfl)⟩)
    · dsimp only at hm
      refine RW.callM (cs := []) [] [.row u16 3 1 (([] : List Int) ++ a0_1).length (ec e1 (([] : List Int) ++ a0_1)), .blk b12 25 (cat [(16, (iv a0_0)), p1 (sa0_1)]), ro sa0_1 1 a0_1.length (ec e1 a0_1)] [ro u16 1 (([] : List Int) ++ a0_1).length (ec e1 (([] : List Int) ++ a0_1))] [0, 1, 2] (fun (_ : Unit) => []) (fun (_ : Unit) => .tuple #[.pointer none, .int .i64 4]) rfl rfl rfl rfl Try.call11 rfl rfl rfl (fun w hM => lentW (A := []) hM 0 rfl (lent0)) (.inl fun _ => rfl) (fun w S' hM => c_huff_New K a0_0 (([] : List Int) ++ a0_1) u16 (.inr r65) w S' hM hr18) (fun _ => ?_)
      refine RW.yi (.tuple #[.pointer none, .int .i64 4]) rfl rfl (Yi.pv _ rfl) ?_
      refine RW.yi (.pointer none) rfl rfl (Yi.pv _ rfl) ?_
      refine RW.yi (.int .i64 4) rfl rfl (Yi.pv _ rfl) ?_
      refine RW.yi (.pointer none) rfl rfl (Yi.pv _ rfl) ?_
      refine RW.yi (.int .i64 4) rfl rfl (Yi.pv _ rfl) ?_
      refine RW.nil ?_
      refine EW.next ?_
      refine CW.seq ?_
      refine CW.seq ?_
      refine CW.region ?_
      refine RW.yi (.int .i64 4) rfl rfl (Yi.pv _ rfl) ?_
      refine RW.yi (.bool true) rfl rfl (Yi.pv _ rfl) ?_
      refine RW.nil ?_
      refine EW.next ?_
      refine CW.cond_true rfl ?_
      refine CW.seq ?_
      refine CW.region ?_
      refine RW.yi (.pointer none) rfl rfl (Yi.pv _ rfl) ?_
      refine RW.yi (.bool true) rfl rfl (Yi.eqNil true rfl rfl Try.underlying27 (.inl ⟨rfl, rfl⟩)) ?_
      refine RW.yi (.bool true) rfl rfl (Yi.pv _ rfl) ?_
      obtain ⟨r67, hr67, hm⟩ := of_bind hm
      refine RW.ca (.bool r67) rfl rfl (Ca.call (cs := []) [] rfl rfl Try.call10 (fun w hM => lent0) (fun w S' hM => (c_law05_awake K  r67 w S' hM hr67).mono (fun _ _ h => by obtain ⟨_, h1, h2⟩ := h; exact ⟨h1, h2⟩))) ?_
      refine RW.yi (.bool r67) rfl rfl (Yi.pv _ rfl) ?_
      refine RW.yi (.bool r67) rfl rfl (Yi.pv _ rfl) ?_
      refine RW.nil ?_
      refine EW.next ?_
      refine CW.ret ?_
      refine EW.thr ?_
      obtain rfl := Option.some.inj hm
      exact EW.done (rs := [.tmp 2]) rfl (.tmp (t := 2) (v := .bool r67) rfl .nil) (fun _ hM => ⟨(), rfl, (hM.pick [] rfl rfl)⟩)

end Go.Proofs.Ytoepbakbpimkiaa
