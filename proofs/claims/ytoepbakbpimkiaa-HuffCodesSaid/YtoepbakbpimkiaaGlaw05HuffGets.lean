import Derived.Test.YtoepbakbpimkiaaN8
import Derived.Test.YtoepbakbpimkiaaProg
import Derived.Test.YtoepbakbpimkiaaGbitsNewReader
import Derived.Test.YtoepbakbpimkiaaGbitsReaderAt
import Derived.Test.YtoepbakbpimkiaaGhuffNew
import Derived.Test.YtoepbakbpimkiaaGhuffTableGet
import Derived.Test.YtoepbakbpimkiaaGlaw05awake
import Derived.Test.YtoepbakbpimkiaaGlaw05own
import Derived.Test.YtoepbakbpimkiaaGref05Codes
import Derived.Test.YtoepbakbpimkiaaGref05Get
set_option maxRecDepth 100000
set_option maxHeartbeats 1000000
namespace Go.Proofs.Ytoepbakbpimkiaa
open Go Go.RowKit K

def law05_HuffGets_j1 (K : Nat)  : Option (Bool) :=
  ((law05_awake K ).bind fun r29 => some r29)

def law05_HuffGets_j2 (_ : Nat) (cb_law05_HuffGets_l1 : Int → Int → Int → Int → (List Int) → Int → Option (Bool)) (v41 : Int) (v69 : Int) (v70 : Int) (v71 : Int) (v73 : Int) (v75 : (List Int)) (v77 : Int) (v78 : Int) (v79 : Bool) (v80 : Int) (v81 : Int) (v82 : Bool) : Option (Bool) :=
  cb_law05_HuffGets_l1 v69 v70 v71 v73 v75 (w64 (v41 + 1))

def law05_HuffGets_l1 (K : Nat) (a0_0 : (Nat → Int)) (a1 : (List Int)) (r10 : (Bool × (List (Int × Int × Int)))) (r22 : ((Nat → Int) × (List Int) × (List MEnt))) : Nat → Int → Int → Int → Int → (List Int) → Int →  Option (Bool)
  | 0, _, _, _, _, _, _ => none
  | k1 + 1, v33, v34, v35, v37, v39, v41 =>
    (if v41 < 40 then ((huff_Table_Get K a0_0 r22.2.1 r22.1 r22.2.2 v33 v34 v35 (([] : List Int) ++ a1)).bind fun r83 => ((ref05_Get K r10.2 a1 v37 v39).bind fun r87 => (if ¬ r83.1 = r87.2.1 then some false else (if ¬ r83.2.1 = r87.2.2.1 then some false else ((bits_Reader_At K r83.2.2.1 r83.2.2.2.1 r83.2.2.2.2 (([] : List Int) ++ a1)).bind fun r95 => (if ¬ r83.2.2.1 = r87.1 then some false else (if ¬ r83.2.1 = 0 then (if ¬ r83.2.1 = 6 then law05_HuffGets_j1 K else law05_HuffGets_j2 K (law05_HuffGets_l1 K a0_0 a1 r10 r22 k1) v41 r83.2.2.1 r83.2.2.2.1 r83.2.2.2.2 r87.1 r87.2.2.2 r83.2.1 r87.2.2.1 (decide (¬ r83.2.1 = r87.2.2.1)) r83.2.2.1 r87.1 (decide (¬ r83.2.2.1 = r87.1))) else law05_HuffGets_j2 K (law05_HuffGets_l1 K a0_0 a1 r10 r22 k1) v41 r83.2.2.1 r83.2.2.2.1 r83.2.2.2.2 r87.1 r87.2.2.2 r83.2.1 r87.2.2.1 (decide (¬ r83.2.1 = r87.2.2.1)) r83.2.2.1 r87.1 (decide (¬ r83.2.2.1 = r87.1))))))))) else law05_HuffGets_j1 K)

def law05_HuffGets (K : Nat) (a0_0 : (Nat → Int)) (a0_1 : (List Int)) (a1 : (List Int)) : Option (Bool) :=
  ((ref05_Codes K a0_0 a0_1).bind fun r10 => (if 300 < (a0_1.length : Int) then ((law05_awake K ).bind fun r14 => some r14) else (if 400 < (a1.length : Int) then ((law05_awake K ).bind fun r16 => some r16) else (if r10.1 = true then ((law05_own K a0_0 a0_1).bind fun r18 => ((huff_New K a0_0 (([] : List Int) ++ a0_1)).bind fun r21 => match r21 with | .inl r22 => ((bits_NewReader K a1).bind fun r25 => law05_HuffGets_l1 K a0_0 a1 r10 r22 K 0 0 0 0 ([] : List Int) 0) | .inr r104 => some false)) else ((law05_awake K ).bind fun r106 => some r106)))))

theorem c_law05_HuffGets (K : Nat) (a0_0 : (Nat → Int)) (a0_1 : (List Int)) (a1 : (List Int)) (sa0_1 : Value) (sa1 : Value) (r : Bool) (w0 : World) (S : Own) (hM0 : Mem w0 S [ro sa0_1 1 a0_1.length (ec e1 a0_1), ro sa1 1 a1.length (ec eb a1)] w0) (hm : law05_HuffGets K a0_0 a0_1 a1 = some r) : Calls Try.prog 7 #[.agg (cat [(16, (iv a0_0)), p1 (sa0_1)]), sa1] w0 fun e w' => ∃ _u : Unit, e = .returned (.bool r) ∧ Mem w0 S [] w' := by
  unfold law05_HuffGets at hm
  refine calls_CW (n := 86) w0 S [ro sa0_1 1 a0_1.length (ec e1 a0_1), ro sa1 1 a1.length (ec eb a1)] Try.func7 rfl rfl rfl hM0 ?_
  refine CW.seq ?_
  refine CW.region ?_
  refine RW.box (v := .agg (cat [(16, (iv a0_0)), p1 (sa0_1)])) rfl rfl rfl (fun b9 => ?_)
  refine RW.yi (.bool false) rfl rfl (Yi.pv _ rfl) ?_
  refine RW.nil ?_
  refine EW.next ?_
  refine CW.seq ?_
  refine CW.region ?_
  refine RW.yi (.agg (cat [(16, (iv a0_0)), p1 (sa0_1)])) rfl rfl (Yi.loadW (i := 0) rfl rfl Try.isAgg25 (by simp only [cat_size]; exact Try.sizeOf25)) ?_
  obtain ⟨r10, hr10, hm⟩ := of_bind hm
  refine RW.callM (cs := []) [] [.blk b9 25 (cat [(16, (iv a0_0)), p1 (sa0_1)]), ro sa0_1 1 a0_1.length (ec e1 a0_1), ro sa1 1 a1.length (ec eb a1)] [ro sa0_1 1 a0_1.length (ec e1 a0_1)] [0, 1, 2] (fun (u11 : Value) => [.row u11 39 3 r10.2.length (ec e3 r10.2)]) (fun (u11 : Value) => .tuple #[u11, .bool r10.1]) rfl rfl rfl rfl Try.call14 rfl rfl rfl (fun w hM => lentF (A := []) hM 1 rfl (lent0)) (.inl fun _ => rfl) (fun w S' hM => c_ref05_Codes K a0_0 a0_1 sa0_1 r10 w S' hM hr10) (fun u11 => ?_)
  refine RW.yi (.tuple #[u11, .bool r10.1]) rfl rfl (Yi.pv _ rfl) ?_
  refine RW.yi (u11) rfl rfl (Yi.pv _ rfl) ?_
  refine RW.yi (.bool r10.1) rfl rfl (Yi.pv _ rfl) ?_
  refine RW.yi (u11) rfl rfl (Yi.pv _ rfl) ?_
  refine RW.yi (.bool r10.1) rfl rfl (Yi.pv _ rfl) ?_
  refine RW.nil ?_
  refine EW.next ?_
  refine CW.seq ?_
  refine CW.seq ?_
  refine CW.region ?_
  refine RW.yi (.pointer (some ⟨b9, 16, none⟩)) rfl rfl (Yi.fieldAddr (j := 1) Try.underlying25 rfl Try.sizeOf23 rfl) ?_
  refine RW.yi (sa0_1) rfl rfl (Yi.load1 (i := 1) _ rfl rfl Try.isAgg23 (cat_get1 (ps := [(16, (iv a0_0)), p1 (sa0_1)]) 1 rfl rfl)) ?_
  refine RW.yi (.int .i64 (a0_1.length : Int)) rfl rfl (Yi.lenS (cs := ec e1 a0_1) (m := a0_1.length) Try.underlying23 rfl (rdF 2 rfl)) ?_
  refine RW.yi (.bool (decide (300 < (a0_1.length : Int)))) rfl rfl (Yi.pv _ rfl) ?_
  refine RW.yi (.bool (decide (300 < (a0_1.length : Int)))) rfl rfl (Yi.pv _ rfl) ?_
  refine RW.fork 25 (300 < (a0_1.length : Int)) rfl (fun h13 => ?_) (fun h13 => ?_)
  · replace hm := (if_pos h13).symm.trans hm
    refine RW.pass rfl rfl ?_
    refine RW.pass rfl rfl ?_
    refine RW.pass rfl rfl ?_
    refine RW.yi (.bool true) rfl rfl (Yi.pv _ rfl) ?_
    refine RW.yi (.bool true) rfl rfl (Yi.pv _ rfl) ?_
    refine RW.pass rfl rfl ?_
    refine RW.pass rfl rfl ?_
    refine RW.yi (.bool true) rfl rfl (Yi.pv _ rfl) ?_
    refine RW.nil ?_
    refine EW.next ?_
    refine CW.cond_true rfl ?_
    refine CW.seq ?_
    refine CW.region ?_
    obtain ⟨r14, hr14, hm⟩ := of_bind hm
    refine RW.ca (.bool r14) rfl rfl (Ca.call (cs := []) [] rfl rfl Try.call10 (fun w hM => lent0) (fun w S' hM => (c_law05_awake K  r14 w S' hM hr14).mono (fun _ _ h => by obtain ⟨_, h1, h2⟩ := h; exact ⟨h1, h2⟩))) ?_
    refine RW.yi (.bool r14) rfl rfl (Yi.pv _ rfl) ?_
    refine RW.nil ?_
    refine EW.next ?_
    refine CW.ret ?_
    refine EW.thr ?_
    obtain rfl := Option.some.inj hm
    exact EW.done (rs := [.tmp 4]) rfl (.tmp (t := 4) (v := .bool r14) rfl .nil) (fun _ hM => ⟨(), rfl, (hM.pick [] rfl rfl)⟩)
  · replace hm := (if_neg h13).symm.trans hm
    refine RW.yi (sa1) rfl rfl (Yi.pv _ rfl) ?_
    refine RW.yi (.int .i64 (a1.length : Int)) rfl rfl (Yi.lenS (cs := ec eb a1) (m := a1.length) Try.underlying44 rfl (rdF 3 rfl)) ?_
    refine RW.yi (.bool (decide (400 < (a1.length : Int)))) rfl rfl (Yi.pv _ rfl) ?_
    refine RW.yi (.bool (decide (400 < (a1.length : Int)))) rfl rfl (Yi.pv _ rfl) ?_
    refine RW.yi (.bool (decide (400 < (a1.length : Int)))) rfl rfl (Yi.pv _ rfl) ?_
    refine RW.fork 30 (400 < (a1.length : Int)) rfl (fun h15 => ?_) (fun h15 => ?_)
    · replace hm := (if_pos h15).symm.trans hm
      refine RW.pass rfl rfl ?_
      refine RW.pass rfl rfl ?_
      refine RW.yi (.bool true) rfl rfl (Yi.pv _ rfl) ?_
      refine RW.nil ?_
      refine EW.next ?_
      refine CW.cond_true rfl ?_
      refine CW.seq ?_
      refine CW.region ?_
      obtain ⟨r16, hr16, hm⟩ := of_bind hm
      refine RW.ca (.bool r16) rfl rfl (Ca.call (cs := []) [] rfl rfl Try.call10 (fun w hM => lent0) (fun w S' hM => (c_law05_awake K  r16 w S' hM hr16).mono (fun _ _ h => by obtain ⟨_, h1, h2⟩ := h; exact ⟨h1, h2⟩))) ?_
      refine RW.yi (.bool r16) rfl rfl (Yi.pv _ rfl) ?_
      refine RW.nil ?_
      refine EW.next ?_
      refine CW.ret ?_
      refine EW.thr ?_
      obtain rfl := Option.some.inj hm
      exact EW.done (rs := [.tmp 4]) rfl (.tmp (t := 4) (v := .bool r16) rfl .nil) (fun _ hM => ⟨(), rfl, (hM.pick [] rfl rfl)⟩)
    · replace hm := (if_neg h15).symm.trans hm
      refine RW.yi (.bool r10.1) rfl rfl (Yi.pv _ rfl) ?_
      refine RW.forkB 31 (r10.1) rfl (fun h17 => ?_) (fun h17 => ?_)
      · replace hm := (if_pos h17).symm.trans hm
        refine RW.yi (.bool false) rfl rfl (Yi.pv _ rfl) ?_
        refine RW.yi (.bool false) rfl rfl (Yi.pv _ rfl) ?_
        refine RW.nil ?_
        refine EW.next ?_
        refine CW.cond_false rfl ?_
        refine CW.skip ?_
        refine EW.next ?_
        refine CW.seq ?_
        refine CW.region ?_
        refine RW.yi (.agg (cat [(16, (iv a0_0)), p1 (sa0_1)])) rfl rfl (Yi.loadW (i := 1) rfl rfl Try.isAgg25 (by simp only [cat_size]; exact Try.sizeOf25)) ?_
        obtain ⟨r18, hr18, hm⟩ := of_bind hm
        refine RW.callM (cs := []) [] [.row u11 39 3 r10.2.length (ec e3 r10.2), .blk b9 25 (cat [(16, (iv a0_0)), p1 (sa0_1)]), ro sa0_1 1 a0_1.length (ec e1 a0_1), ro sa1 1 a1.length (ec eb a1)] [ro sa0_1 1 a0_1.length (ec e1 a0_1)] [0, 1, 2, 3] (fun (u19 : Value) => [.row u19 3 1 (([] : List Int) ++ a0_1).length (ec e1 (([] : List Int) ++ a0_1))]) (fun (u19 : Value) => .agg (cat [(16, (iv a0_0)), p1 (u19)])) rfl rfl rfl rfl Try.call12 rfl rfl rfl (fun w hM => lentF (A := []) hM 2 rfl (lent0)) (.inl fun _ => rfl) (fun w S' hM => c_law05_own K a0_0 a0_1 sa0_1 r18 w S' hM hr18) (fun u19 => ?_)
        obtain ⟨r21, hr21, hm⟩ := of_bind hm
        rcases r21 with r22 | r104
        · dsimp only at hm
          refine RW.callM (cs := []) [] [.row u19 3 1 (([] : List Int) ++ a0_1).length (ec e1 (([] : List Int) ++ a0_1)), .row u11 39 3 r10.2.length (ec e3 r10.2), .blk b9 25 (cat [(16, (iv a0_0)), p1 (sa0_1)]), ro sa0_1 1 a0_1.length (ec e1 a0_1), ro sa1 1 a1.length (ec eb a1)] [ro u19 1 (([] : List Int) ++ a0_1).length (ec e1 (([] : List Int) ++ a0_1))] [0, 1, 2, 3, 4] (fun (u23 : Nat × Value × Nat) => [.blk u23.1 67 (cat [(16, (iv a0_0)), p1 (u23.2.1), (512, (iv r22.1)), p1 (.map (some u23.2.2))]), .row u23.2.1 3 1 r22.2.1.length (ec e1 r22.2.1), mpE u23.2.2 r22.2.2]) (fun (u23 : Nat × Value × Nat) => .tuple #[.pointer (some ⟨u23.1, 0, none⟩), .int .i64 0]) rfl rfl rfl rfl Try.call11 rfl rfl rfl (fun w hM => lentW (A := []) hM 0 rfl (lent0)) (.inl fun _ => rfl) (fun w S' hM => c_huff_New K a0_0 (([] : List Int) ++ a0_1) u19 (.inl r22) w S' hM hr21) (fun u23 => ?_)
          refine RW.yi (.tuple #[.pointer (some ⟨u23.1, 0, none⟩), .int .i64 0]) rfl rfl (Yi.pv _ rfl) ?_
          refine RW.yi (.pointer (some ⟨u23.1, 0, none⟩)) rfl rfl (Yi.pv _ rfl) ?_
          refine RW.yi (.int .i64 0) rfl rfl (Yi.pv _ rfl) ?_
          refine RW.yi (.pointer (some ⟨u23.1, 0, none⟩)) rfl rfl (Yi.pv _ rfl) ?_
          refine RW.yi (.int .i64 0) rfl rfl (Yi.pv _ rfl) ?_
          refine RW.nil ?_
          refine EW.next ?_
          refine CW.seq ?_
          refine CW.seq ?_
          refine CW.region ?_
          refine RW.yi (.int .i64 0) rfl rfl (Yi.pv _ rfl) ?_
          refine RW.yi (.bool false) rfl rfl (Yi.pv _ rfl) ?_
          refine RW.nil ?_
          refine EW.next ?_
          refine CW.cond_false rfl ?_
          refine CW.skip ?_
          refine EW.next ?_
          refine CW.seq ?_
          refine CW.region ?_
          refine RW.yi (sa1) rfl rfl (Yi.pv _ rfl) ?_
          obtain ⟨r25, hr25, hm⟩ := of_bind hm
          refine RW.callM (cs := []) [] [.blk u23.1 67 (cat [(16, (iv a0_0)), p1 (u23.2.1), (512, (iv r22.1)), p1 (.map (some u23.2.2))]), .row u23.2.1 3 1 r22.2.1.length (ec e1 r22.2.1), mpE u23.2.2 r22.2.2, .row u19 3 1 (([] : List Int) ++ a0_1).length (ec e1 (([] : List Int) ++ a0_1)), .row u11 39 3 r10.2.length (ec e3 r10.2), .blk b9 25 (cat [(16, (iv a0_0)), p1 (sa0_1)]), ro sa0_1 1 a0_1.length (ec e1 a0_1), ro sa1 1 a1.length (ec eb a1)] [ro sa1 1 a1.length (ec eb a1)] [0, 1, 2, 3, 4, 5, 6, 7] (fun (u26 : Nat × Value) => [.blk u26.1 74 (#[.int .i64 0, .int .i64 0, .int .i64 0, u26.2]), .row u26.2 5 1 (([] : List Int) ++ a1).length (ec eb (([] : List Int) ++ a1))]) (fun (u26 : Nat × Value) => .pointer (some ⟨u26.1, 0, none⟩)) rfl rfl rfl rfl Try.call18 rfl rfl rfl (fun w hM => lentF (A := []) hM 7 rfl (lent0)) (.inl fun _ => rfl) (fun w S' hM => c_bits_NewReader K a1 sa1 r25 w S' hM hr25) (fun u26 => ?_)
          refine RW.yi (sa1) rfl rfl (Yi.pv _ rfl) ?_
          refine RW.yi (.agg #[sa1, .int .i64 0, .slice none 0 0]) rfl rfl (Yi.buildM (vs := [sa1]) _ rfl rfl (fun w hM => by have e0 := rd_slice ((rdF 9 rfl) w hM); revert e0; generalize sa1 = x0; rintro ⟨_, _, _, rfl⟩; show _ = _; kernel_rfl)) ?_
          refine RW.alloc (z := .agg #[.slice none 0 0, .int .i64 0, .slice none 0 0]) (#[.slice none 0 0, .int .i64 0, .slice none 0 0]) rfl rfl (fun _ => by kernel_rfl) rfl (fun b28 => ?_)
          refine RW.yi (.pointer (some ⟨u26.1, 0, none⟩)) rfl rfl (Yi.pv _ rfl) ?_
          refine RW.conv1 (fun w hM => ones_cat (ps := [p1 (sa1), p1 (.int .i64 0), p1 (.slice none 0 0)]) (ones_cons (fun _ => (rd_one ((rdF 10 rfl) w hM)).2) (ones_cons (fun _ => rfl) (ones_cons (fun _ => rfl) ones_nil)))) (fun hone => ?_)
          refine RW.storeQ (i := 0) (m := 3) (cs' := #[sa1, .int .i64 0, .slice none 0 0]) rfl rfl rfl rfl Try.sizeOf48 rfl (Nat.le_of_ble_eq_true rfl) hone (fun c' hs hget => (cat_spl (A := []) (X := [p1 (.slice none 0 0), p1 (.int .i64 0), p1 (.slice none 0 0)]) (B := []) (Y := [p1 (sa1), p1 (.int .i64 0), p1 (.slice none 0 0)]) rfl hs (by first | exact hget | (rw [cat_one]; exact hget)))) ?_
          refine RW.nil ?_
          refine EW.next ?_
          refine CW.join (fun a w => St 86 [] a ∧ Mem w0 S [] w ∧ law05_HuffGets_j1 K = some r) ?_ ?_
          · refine CW.seq ?_
            refine CW.region ?_
            refine RW.yi (.int .i64 0) rfl rfl (Yi.pv _ rfl) ?_
            refine RW.nil ?_
            refine EW.next ?_
            refine CW.block ?_
            refine CW.loop (fun k a w => ∃ (v33 : Int) (v34 : Int) (v35 : Int) (v37 : Int) (v39 : (List Int)) (v41 : Int) (s40 : Value), St 86 [(5, u11), (7, .pointer (some ⟨u23.1, 0, none⟩)), (9, .pointer (some ⟨u26.1, 0, none⟩)), (10, .pointer (some ⟨b28, 0, none⟩)), (47, .int .i64 v41)] a ∧ Mem w0 S [ro u11 3 r10.2.length (ec e3 r10.2), .blk u23.1 67 (cat [(16, (iv a0_0)), p1 (u23.2.1), (512, (iv r22.1)), p1 (.map (some u23.2.2))]), .row u23.2.1 3 1 r22.2.1.length (ec e1 r22.2.1), mpE u23.2.2 r22.2.2, .blk u26.1 74 (#[.int .i64 v33, .int .i64 v34, .int .i64 v35, u26.2]), .row u26.2 5 1 (([] : List Int) ++ a1).length (ec eb (([] : List Int) ++ a1)), .blk b28 48 (#[sa1, .int .i64 v37, s40]), ro sa1 1 a1.length (ec eb a1), ro s40 1 v39.length (ec e1 v39)] w ∧ law05_HuffGets_l1 K a0_0 a1 r10 r22 k v33 v34 v35 v37 v39 v41 = some r) K ?_ ?_ ?_
            · rintro a w ⟨_, _, _, _, _, _, _, _, _, hm⟩
              rw [law05_HuffGets_l1.eq_1] at hm
              cases hm
            · exact fun a w hs hM => ⟨0, 0, 0, 0, ([] : List Int), 0, (.slice none 0 0), hs.sub ⟨rfl, rfl, rfl, rfl, rfl, trivial⟩, (((hM.freeze 7 rfl).nilRo 1).pick [8, 4, 5, 6, 2, 3, 1, 11, 0] rfl rfl), hm⟩
            · rintro k1 a w ⟨v33, v34, v35, v37, v39, v41, s40, hs, hM, hm⟩
              rw [law05_HuffGets_l1.eq_2] at hm
              refine CW.enter hs hM ?_
              refine CW.seq ?_
              refine CW.region ?_
              refine RW.yi (.bool (decide (v41 < 40))) rfl rfl (Yi.pv _ rfl) ?_
              refine RW.nil ?_
              refine EW.next ?_
              refine CW.seq ?_
              refine CW.fork 48 (v41 < 40) rfl (fun h52 => ?_) (fun h52 => ?_)
              · replace hm := (if_pos h52).symm.trans hm
                refine CW.cond_true rfl ?_
                refine CW.skip ?_
                refine EW.next ?_
                refine CW.join (fun a w => ∃ (v69 : Int) (v70 : Int) (v71 : Int) (v73 : Int) (v75 : (List Int)) (v77 : Int) (v78 : Int) (v79 : Bool) (v80 : Int) (v81 : Int) (v82 : Bool) (s76 : Value), St 86 [(5, u11), (7, .pointer (some ⟨u23.1, 0, none⟩)), (9, .pointer (some ⟨u26.1, 0, none⟩)), (10, .pointer (some ⟨b28, 0, none⟩)), (47, .int .i64 v41), (67, .int .i64 v77), (68, .int .i64 v78), (69, .bool v79), (72, .pointer (some ⟨u26.1, 0, none⟩)), (73, .int .i64 v80), (74, .pointer (some ⟨b28, 1, none⟩)), (75, .int .i64 v81), (76, .bool v82)] a ∧ Mem w0 S [ro u11 3 r10.2.length (ec e3 r10.2), .blk u23.1 67 (cat [(16, (iv a0_0)), p1 (u23.2.1), (512, (iv r22.1)), p1 (.map (some u23.2.2))]), .row u23.2.1 3 1 r22.2.1.length (ec e1 r22.2.1), mpE u23.2.2 r22.2.2, .blk u26.1 74 (#[.int .i64 v69, .int .i64 v70, .int .i64 v71, u26.2]), .row u26.2 5 1 (([] : List Int) ++ a1).length (ec eb (([] : List Int) ++ a1)), .blk b28 48 (#[sa1, .int .i64 v73, s76]), ro sa1 1 a1.length (ec eb a1), ro s76 1 v75.length (ec e1 v75)] w ∧ law05_HuffGets_j2 K (law05_HuffGets_l1 K a0_0 a1 r10 r22 k1) v41 v69 v70 v71 v73 v75 v77 v78 v79 v80 v81 v82 = some r) ?_ ?_
                · refine CW.block ?_
                  refine CW.seq ?_
                  refine CW.region ?_
                  refine RW.yi (.pointer (some ⟨u23.1, 0, none⟩)) rfl rfl (Yi.pv _ rfl) ?_
                  refine RW.yi (.pointer (some ⟨u26.1, 0, none⟩)) rfl rfl (Yi.pv _ rfl) ?_
                  obtain ⟨r83, hr83, hm⟩ := of_bind hm
                  refine RW.callM (cs := []) [.blk u23.1 67 (cat [(16, (iv a0_0)), p1 (u23.2.1), (512, (iv r22.1)), p1 (.map (some u23.2.2))]), .row u23.2.1 3 1 r22.2.1.length (ec e1 r22.2.1), mpE u23.2.2 r22.2.2, .blk u26.1 74 (#[.int .i64 v33, .int .i64 v34, .int .i64 v35, u26.2]), .row u26.2 5 1 (([] : List Int) ++ a1).length (ec eb (([] : List Int) ++ a1))] [ro u11 3 r10.2.length (ec e3 r10.2), .blk b28 48 (#[sa1, .int .i64 v37, s40]), ro sa1 1 a1.length (ec eb a1), ro s40 1 v39.length (ec e1 v39)] [] [1, 2, 3, 4, 5, 0, 6, 7, 8] (fun (_ : Unit) => [.blk u23.1 67 (cat [(16, (iv a0_0)), p1 (u23.2.1), (512, (iv r22.1)), p1 (.map (some u23.2.2))]), .row u23.2.1 3 1 r22.2.1.length (ec e1 r22.2.1), mpE u23.2.2 r22.2.2, .blk u26.1 74 (#[.int .i64 r83.2.2.1, .int .i64 r83.2.2.2.1, .int .i64 r83.2.2.2.2, u26.2]), .row u26.2 5 1 (([] : List Int) ++ a1).length (ec eb (([] : List Int) ++ a1))]) (fun (_ : Unit) => .tuple #[.int .i64 r83.1, .int .i64 r83.2.1]) rfl rfl rfl rfl Try.call19 rfl rfl rfl (fun w hM => lent0) (.inl fun _ => rfl) (fun w S' hM => c_huff_Table_Get K a0_0 r22.2.1 r22.1 r22.2.2 v33 v34 v35 (([] : List Int) ++ a1) u23.1 u23.2.1 u23.2.2 u26.1 u26.2 r83 w S' hM hr83) (fun _ => ?_)
                  refine RW.yi (.tuple #[.int .i64 r83.1, .int .i64 r83.2.1]) rfl rfl (Yi.pv _ rfl) ?_
                  refine RW.yi (.int .i64 r83.1) rfl rfl (Yi.pv _ rfl) ?_
                  refine RW.yi (.int .i64 r83.2.1) rfl rfl (Yi.pv _ rfl) ?_
                  refine RW.yi (.int .i64 r83.1) rfl rfl (Yi.pv _ rfl) ?_
                  refine RW.yi (.int .i64 r83.2.1) rfl rfl (Yi.pv _ rfl) ?_
                  refine RW.nil ?_
                  refine EW.next ?_
                  refine CW.seq ?_
                  refine CW.region ?_
                  refine RW.yi (u11) rfl rfl (Yi.pv _ rfl) ?_
                  refine RW.yi (.agg #[sa1, .int .i64 v37, s40]) rfl rfl (Yi.loadW (i := 6) rfl rfl Try.isAgg48 Try.sizeOf48) ?_
                  obtain ⟨r87, hr87, hm⟩ := of_bind hm
                  refine RW.callM (cs := []) [] [.blk u23.1 67 (cat [(16, (iv a0_0)), p1 (u23.2.1), (512, (iv r22.1)), p1 (.map (some u23.2.2))]), .row u23.2.1 3 1 r22.2.1.length (ec e1 r22.2.1), mpE u23.2.2 r22.2.2, .blk u26.1 74 (#[.int .i64 r83.2.2.1, .int .i64 r83.2.2.2.1, .int .i64 r83.2.2.2.2, u26.2]), .row u26.2 5 1 (([] : List Int) ++ a1).length (ec eb (([] : List Int) ++ a1)), ro u11 3 r10.2.length (ec e3 r10.2), .blk b28 48 (#[sa1, .int .i64 v37, s40]), ro sa1 1 a1.length (ec eb a1), ro s40 1 v39.length (ec e1 v39)] [ro u11 3 r10.2.length (ec e3 r10.2), ro sa1 1 a1.length (ec eb a1), ro s40 1 v39.length (ec e1 v39)] [0, 1, 2, 3, 4, 5, 6, 7, 8] (fun (u88 : Value) => [ro u88 1 r87.2.2.2.length (ec e1 r87.2.2.2)]) (fun (u88 : Value) => .tuple #[.agg #[sa1, .int .i64 r87.1, u88], .int .i64 r87.2.1, .int .i64 r87.2.2.1]) rfl rfl rfl rfl Try.call20 rfl rfl rfl (fun w hM => lentF (A := []) hM 5 rfl (lentF (A := []) hM 7 rfl (lentF (A := []) hM 8 rfl (lent0)))) (.inr (lentFF 5 rfl (lentFF 7 rfl (lentFF 8 rfl (lentF0))))) (fun w S' hM => c_ref05_Get K r10.2 a1 v37 v39 u11 sa1 s40 r87 w S' hM hr87) (fun u88 => ?_)
                  refine RW.yi (.tuple #[.agg #[sa1, .int .i64 r87.1, u88], .int .i64 r87.2.1, .int .i64 r87.2.2.1]) rfl rfl (Yi.pv _ rfl) ?_
                  refine RW.yi (.agg #[sa1, .int .i64 r87.1, u88]) rfl rfl (Yi.pv _ rfl) ?_
                  refine RW.yi (.int .i64 r87.2.1) rfl rfl (Yi.pv _ rfl) ?_
                  refine RW.yi (.int .i64 r87.2.2.1) rfl rfl (Yi.pv _ rfl) ?_
                  refine RW.alloc (z := .agg #[.slice none 0 0, .int .i64 0, .slice none 0 0]) (#[.slice none 0 0, .int .i64 0, .slice none 0 0]) rfl rfl (fun _ => by kernel_rfl) rfl (fun b90 => ?_)
                  refine RW.conv1 (fun w hM => ones_cat (ps := [p1 (sa1), p1 (.int .i64 r87.1), p1 (u88)]) (ones_cons (fun _ => (rd_one ((rdF 9 rfl) w hM)).2) (ones_cons (fun _ => rfl) (ones_cons (fun _ => (rd_one ((rdF 1 rfl) w hM)).2) ones_nil)))) (fun hone => ?_)
                  refine RW.storeQ (i := 0) (m := 3) (cs' := #[sa1, .int .i64 r87.1, u88]) rfl rfl rfl rfl Try.sizeOf48 rfl (Nat.le_of_ble_eq_true rfl) hone (fun c' hs hget => (cat_spl (A := []) (X := [p1 (.slice none 0 0), p1 (.int .i64 0), p1 (.slice none 0 0)]) (B := []) (Y := [p1 (sa1), p1 (.int .i64 r87.1), p1 (u88)]) rfl hs (by first | exact hget | (rw [cat_one]; exact hget)))) ?_
                  refine RW.yi (.int .i64 r87.2.1) rfl rfl (Yi.pv _ rfl) ?_
                  refine RW.yi (.int .i64 r87.2.2.1) rfl rfl (Yi.pv _ rfl) ?_
                  refine RW.nil ?_
                  refine EW.next ?_
                  refine CW.seq ?_
                  refine CW.region ?_
                  refine RW.yi (.agg #[sa1, .int .i64 r87.1, u88]) rfl rfl (Yi.loadW (i := 0) rfl rfl Try.isAgg48 Try.sizeOf48) ?_
                  refine RW.conv1 (fun w hM => ones_cat (ps := [p1 (sa1), p1 (.int .i64 r87.1), p1 (u88)]) (ones_cons (fun _ => (rd_one ((rdF 9 rfl) w hM)).2) (ones_cons (fun _ => rfl) (ones_cons (fun _ => (rd_one ((rdF 1 rfl) w hM)).2) ones_nil)))) (fun hone => ?_)
                  refine RW.storeQ (i := 8) (m := 3) (cs' := #[sa1, .int .i64 r87.1, u88]) rfl rfl rfl rfl Try.sizeOf48 rfl (Nat.le_of_ble_eq_true rfl) hone (fun c' hs hget => (cat_spl (A := []) (X := [p1 (sa1), p1 (.int .i64 v37), p1 (s40)]) (B := []) (Y := [p1 (sa1), p1 (.int .i64 r87.1), p1 (u88)]) rfl hs (by first | exact hget | (rw [cat_one]; exact hget)))) ?_
                  refine RW.nil ?_
                  refine EW.next ?_
                  refine CW.seq ?_
                  refine CW.seq ?_
                  by_cases h91 : ¬ r83.1 = r87.2.1
                  · replace hm := (if_pos h91).symm.trans hm
                    refine CW.held (m := 15) [.blk b90 48 (#[sa1, .int .i64 r87.1, u88]), ro u88 1 r87.2.2.2.length (ec e1 r87.2.2.2), .blk u23.1 67 (cat [(16, (iv a0_0)), p1 (u23.2.1), (512, (iv r22.1)), p1 (.map (some u23.2.2))]), .row u23.2.1 3 1 r22.2.1.length (ec e1 r22.2.1), mpE u23.2.2 r22.2.2, .blk u26.1 74 (#[.int .i64 r83.2.2.1, .int .i64 r83.2.2.2.1, .int .i64 r83.2.2.2.2, u26.2]), .row u26.2 5 1 (([] : List Int) ++ a1).length (ec eb (([] : List Int) ++ a1)), ro u11 3 r10.2.length (ec e3 r10.2), .blk b28 48 (#[sa1, .int .i64 r87.1, u88]), ro sa1 1 a1.length (ec eb a1), ro s40 1 v39.length (ec e1 v39)] (by kernel_rfl) (by kernel_rfl) (by kernel_rfl) (fun A92 hA92 hns => ?_)
                    have hA92_111111111111111 : A92 0 #[true, true, true, true, true, true, true, true, true, true, true, true, true, true, true] [(5, u11), (7, .pointer (some ⟨u23.1, 0, none⟩)), (9, .pointer (some ⟨u26.1, 0, none⟩)), (10, .pointer (some ⟨b28, 0, none⟩)), (12, .int .i64 r83.2.1), (47, .int .i64 v41), (67, undef), (68, undef), (69, undef), (72, undef), (73, undef), (74, undef), (75, undef), (76, undef), (77, .bool true)] [.blk b90 48 (#[sa1, .int .i64 r87.1, u88]), ro u88 1 r87.2.2.2.length (ec e1 r87.2.2.2), .blk u23.1 67 (cat [(16, (iv a0_0)), p1 (u23.2.1), (512, (iv r22.1)), p1 (.map (some u23.2.2))]), .row u23.2.1 3 1 r22.2.1.length (ec e1 r22.2.1), mpE u23.2.2 r22.2.2, .blk u26.1 74 (#[.int .i64 r83.2.2.1, .int .i64 r83.2.2.2.1, .int .i64 r83.2.2.2.2, u26.2]), .row u26.2 5 1 (([] : List Int) ++ a1).length (ec eb (([] : List Int) ++ a1)), ro u11 3 r10.2.length (ec e3 r10.2), .blk b28 48 (#[sa1, .int .i64 r87.1, u88]), ro sa1 1 a1.length (ec eb a1), ro s40 1 v39.length (ec e1 v39)] := by
                      rw [hA92]
                      refine AW.fin (by kernel_rfl) ?_
                      refine EW.next ?_
                      refine CW.cond_true rfl ?_
                      refine CW.seq ?_
                      refine CW.region ?_
                      refine RW.yi (.bool false) rfl rfl (Yi.pv _ rfl) ?_
                      refine RW.nil ?_
                      refine EW.next ?_
                      refine CW.ret ?_
                      refine EW.thr ?_
                      refine EW.blr ?_
                      refine EW.thr ?_
                      refine EW.thr ?_
                      refine EW.blr ?_
                      refine EW.thr ?_
                      obtain rfl := Option.some.inj hm
                      exact EW.done (rs := [.tmp 4]) rfl (.tmp (t := 4) (v := .bool false) rfl .nil) (fun _ hM => ⟨(), rfl, (hM.pick [] rfl rfl)⟩)
                    rw [hA92]
                    refine AW.take 0 (done' := #[true, false, false, false, false, false, false, false, false, false, false, false, false, false, false]) (.int .i64 r83.1) [0, 1, 2, 3, 4, 5, 6, 7, 8, 9, 10] hns rfl rfl rfl (by kernel_rfl) (by kernel_rfl) rfl rfl rfl (by kernel_rfl) (fun _ _ => Yi.pv _ rfl) ?_
                    refine AW.take 1 (done' := #[true, true, false, false, false, false, false, false, false, false, false, false, false, false, false]) (.int .i64 r87.2.1) [0, 1, 2, 3, 4, 5, 6, 7, 8, 9, 10] hns rfl rfl rfl (by kernel_rfl) (by kernel_rfl) rfl rfl rfl (by kernel_rfl) (fun _ _ => Yi.pv _ rfl) ?_
                    refine AW.take 2 (done' := #[true, true, true, false, false, false, false, false, false, false, false, false, false, false, false]) (.bool (decide (¬ r83.1 = r87.2.1))) [0, 1, 2, 3, 4, 5, 6, 7, 8, 9, 10] hns rfl rfl rfl (by kernel_rfl) (by kernel_rfl) rfl rfl rfl (by kernel_rfl) (fun _ _ => Yi.pv _ rfl) ?_
                    refine AW.take 3 (done' := #[true, true, true, true, false, false, false, false, false, false, false, false, false, false, false]) (.bool (decide (¬ r83.1 = r87.2.1))) [0, 1, 2, 3, 4, 5, 6, 7, 8, 9, 10] hns rfl rfl rfl (by kernel_rfl) (by kernel_rfl) rfl rfl rfl (by kernel_rfl) (fun _ _ => Yi.pv _ rfl) ?_
                    refine AW.fork 66 (¬ r83.1 = r87.2.1) rfl (fun _ => ?_) (fun h => absurd h91 h)
                    refine AW.pass 4 (done' := #[true, true, true, true, true, false, false, false, false, false, false, false, false, false, false]) [0, 1, 2, 3, 4, 5, 6, 7, 8, 9, 10] hns rfl rfl rfl (by kernel_rfl) (by kernel_rfl) rfl rfl rfl (by kernel_rfl) ?_
                    refine AW.pass 5 (done' := #[true, true, true, true, true, true, false, false, false, false, false, false, false, false, false]) [0, 1, 2, 3, 4, 5, 6, 7, 8, 9, 10] hns rfl rfl rfl (by kernel_rfl) (by kernel_rfl) rfl rfl rfl (by kernel_rfl) ?_
                    refine AW.pass 6 (done' := #[true, true, true, true, true, true, true, false, false, false, false, false, false, false, false]) [0, 1, 2, 3, 4, 5, 6, 7, 8, 9, 10] hns rfl rfl rfl (by kernel_rfl) (by kernel_rfl) rfl rfl rfl (by kernel_rfl) ?_
                    refine AW.take 7 (done' := #[true, true, true, true, true, true, true, true, false, false, false, false, false, false, false]) (.bool true) [0, 1, 2, 3, 4, 5, 6, 7, 8, 9, 10] hns rfl rfl rfl (by kernel_rfl) (by kernel_rfl) rfl rfl rfl (by kernel_rfl) (fun _ _ => Yi.pv _ rfl) ?_
                    refine AW.take 8 (done' := #[true, true, true, true, true, true, true, true, true, false, false, false, false, false, false]) (.bool true) [0, 1, 2, 3, 4, 5, 6, 7, 8, 9, 10] hns rfl rfl rfl (by kernel_rfl) (by kernel_rfl) rfl rfl rfl (by kernel_rfl) (fun _ _ => Yi.pv _ rfl) ?_
                    refine AW.pass 9 (done' := #[true, true, true, true, true, true, true, true, true, true, false, false, false, false, false]) [0, 1, 2, 3, 4, 5, 6, 7, 8, 9, 10] hns rfl rfl rfl (by kernel_rfl) (by kernel_rfl) rfl rfl rfl (by kernel_rfl) ?_
                    refine AW.pass 10 (done' := #[true, true, true, true, true, true, true, true, true, true, true, false, false, false, false]) [0, 1, 2, 3, 4, 5, 6, 7, 8, 9, 10] hns rfl rfl rfl (by kernel_rfl) (by kernel_rfl) rfl rfl rfl (by kernel_rfl) ?_
                    refine AW.pass 11 (done' := #[true, true, true, true, true, true, true, true, true, true, true, true, false, false, false]) [0, 1, 2, 3, 4, 5, 6, 7, 8, 9, 10] hns rfl rfl rfl (by kernel_rfl) (by kernel_rfl) rfl rfl rfl (by kernel_rfl) ?_
                    refine AW.pass 12 (done' := #[true, true, true, true, true, true, true, true, true, true, true, true, true, false, false]) [0, 1, 2, 3, 4, 5, 6, 7, 8, 9, 10] hns rfl rfl rfl (by kernel_rfl) (by kernel_rfl) rfl rfl rfl (by kernel_rfl) ?_
                    refine AW.pass 13 (done' := #[true, true, true, true, true, true, true, true, true, true, true, true, true, true, false]) [0, 1, 2, 3, 4, 5, 6, 7, 8, 9, 10] hns rfl rfl rfl (by kernel_rfl) (by kernel_rfl) rfl rfl rfl (by kernel_rfl) ?_
                    refine AW.take 14 (done' := #[true, true, true, true, true, true, true, true, true, true, true, true, true, true, true]) (.bool true) [0, 1, 2, 3, 4, 5, 6, 7, 8, 9, 10] hns rfl rfl rfl (by kernel_rfl) (by kernel_rfl) rfl rfl rfl (by kernel_rfl) (fun _ _ => Yi.pv _ rfl) ?_
                    have ht := hA92_111111111111111
                    rw [hA92] at ht
                    refine AW.to [0, 1, 2, 3, 4, 5, 6, 7, 8, 9, 10] rfl rfl ?_ ht
                    exact ⟨rfl, rfl, rfl, rfl, rfl, rfl, rfl, rfl, rfl, rfl, rfl, rfl, rfl, rfl, rfl, trivial⟩
                  · replace hm := (if_neg h91).symm.trans hm
                    by_cases h93 : ¬ r83.2.1 = r87.2.2.1
                    · replace hm := (if_pos h93).symm.trans hm
                      refine CW.held (m := 15) [.blk b90 48 (#[sa1, .int .i64 r87.1, u88]), ro u88 1 r87.2.2.2.length (ec e1 r87.2.2.2), .blk u23.1 67 (cat [(16, (iv a0_0)), p1 (u23.2.1), (512, (iv r22.1)), p1 (.map (some u23.2.2))]), .row u23.2.1 3 1 r22.2.1.length (ec e1 r22.2.1), mpE u23.2.2 r22.2.2, .blk u26.1 74 (#[.int .i64 r83.2.2.1, .int .i64 r83.2.2.2.1, .int .i64 r83.2.2.2.2, u26.2]), .row u26.2 5 1 (([] : List Int) ++ a1).length (ec eb (([] : List Int) ++ a1)), ro u11 3 r10.2.length (ec e3 r10.2), .blk b28 48 (#[sa1, .int .i64 r87.1, u88]), ro sa1 1 a1.length (ec eb a1), ro s40 1 v39.length (ec e1 v39)] (by kernel_rfl) (by kernel_rfl) (by kernel_rfl) (fun A94 hA94 hns => ?_)
                      have hA94_111111111111111 : A94 0 #[true, true, true, true, true, true, true, true, true, true, true, true, true, true, true] [(5, u11), (7, .pointer (some ⟨u23.1, 0, none⟩)), (9, .pointer (some ⟨u26.1, 0, none⟩)), (10, .pointer (some ⟨b28, 0, none⟩)), (12, .int .i64 r83.2.1), (47, .int .i64 v41), (67, .int .i64 r83.2.1), (68, .int .i64 r87.2.2.1), (69, .bool (decide (¬ r83.2.1 = r87.2.2.1))), (72, undef), (73, undef), (74, undef), (75, undef), (76, undef), (77, .bool true)] [.blk b90 48 (#[sa1, .int .i64 r87.1, u88]), ro u88 1 r87.2.2.2.length (ec e1 r87.2.2.2), .blk u23.1 67 (cat [(16, (iv a0_0)), p1 (u23.2.1), (512, (iv r22.1)), p1 (.map (some u23.2.2))]), .row u23.2.1 3 1 r22.2.1.length (ec e1 r22.2.1), mpE u23.2.2 r22.2.2, .blk u26.1 74 (#[.int .i64 r83.2.2.1, .int .i64 r83.2.2.2.1, .int .i64 r83.2.2.2.2, u26.2]), .row u26.2 5 1 (([] : List Int) ++ a1).length (ec eb (([] : List Int) ++ a1)), ro u11 3 r10.2.length (ec e3 r10.2), .blk b28 48 (#[sa1, .int .i64 r87.1, u88]), ro sa1 1 a1.length (ec eb a1), ro s40 1 v39.length (ec e1 v39)] := by
                        rw [hA94]
                        refine AW.fin (by kernel_rfl) ?_
                        refine EW.next ?_
                        refine CW.cond_true rfl ?_
                        refine CW.seq ?_
                        refine CW.region ?_
                        refine RW.yi (.bool false) rfl rfl (Yi.pv _ rfl) ?_
                        refine RW.nil ?_
                        refine EW.next ?_
                        refine CW.ret ?_
                        refine EW.thr ?_
                        refine EW.blr ?_
                        refine EW.thr ?_
                        refine EW.thr ?_
                        refine EW.blr ?_
                        refine EW.thr ?_
                        obtain rfl := Option.some.inj hm
                        exact EW.done (rs := [.tmp 4]) rfl (.tmp (t := 4) (v := .bool false) rfl .nil) (fun _ hM => ⟨(), rfl, (hM.pick [] rfl rfl)⟩)
                      rw [hA94]
                      refine AW.take 0 (done' := #[true, false, false, false, false, false, false, false, false, false, false, false, false, false, false]) (.int .i64 r83.1) [0, 1, 2, 3, 4, 5, 6, 7, 8, 9, 10] hns rfl rfl rfl (by kernel_rfl) (by kernel_rfl) rfl rfl rfl (by kernel_rfl) (fun _ _ => Yi.pv _ rfl) ?_
                      refine AW.take 1 (done' := #[true, true, false, false, false, false, false, false, false, false, false, false, false, false, false]) (.int .i64 r87.2.1) [0, 1, 2, 3, 4, 5, 6, 7, 8, 9, 10] hns rfl rfl rfl (by kernel_rfl) (by kernel_rfl) rfl rfl rfl (by kernel_rfl) (fun _ _ => Yi.pv _ rfl) ?_
                      refine AW.take 2 (done' := #[true, true, true, false, false, false, false, false, false, false, false, false, false, false, false]) (.bool (decide (¬ r83.1 = r87.2.1))) [0, 1, 2, 3, 4, 5, 6, 7, 8, 9, 10] hns rfl rfl rfl (by kernel_rfl) (by kernel_rfl) rfl rfl rfl (by kernel_rfl) (fun _ _ => Yi.pv _ rfl) ?_
                      refine AW.take 3 (done' := #[true, true, true, true, false, false, false, false, false, false, false, false, false, false, false]) (.bool (decide (¬ r83.1 = r87.2.1))) [0, 1, 2, 3, 4, 5, 6, 7, 8, 9, 10] hns rfl rfl rfl (by kernel_rfl) (by kernel_rfl) rfl rfl rfl (by kernel_rfl) (fun _ _ => Yi.pv _ rfl) ?_
                      refine AW.fork 66 (¬ r83.1 = r87.2.1) rfl (fun h => absurd h h91) (fun _ => ?_)
                      refine AW.take 4 (done' := #[true, true, true, true, true, false, false, false, false, false, false, false, false, false, false]) (.int .i64 r83.2.1) [0, 1, 2, 3, 4, 5, 6, 7, 8, 9, 10] hns rfl rfl rfl (by kernel_rfl) (by kernel_rfl) rfl rfl rfl (by kernel_rfl) (fun _ _ => Yi.pv _ rfl) ?_
                      refine AW.take 5 (done' := #[true, true, true, true, true, true, false, false, false, false, false, false, false, false, false]) (.int .i64 r87.2.2.1) [0, 1, 2, 3, 4, 5, 6, 7, 8, 9, 10] hns rfl rfl rfl (by kernel_rfl) (by kernel_rfl) rfl rfl rfl (by kernel_rfl) (fun _ _ => Yi.pv _ rfl) ?_
                      refine AW.take 6 (done' := #[true, true, true, true, true, true, true, false, false, false, false, false, false, false, false]) (.bool (decide (¬ r83.2.1 = r87.2.2.1))) [0, 1, 2, 3, 4, 5, 6, 7, 8, 9, 10] hns rfl rfl rfl (by kernel_rfl) (by kernel_rfl) rfl rfl rfl (by kernel_rfl) (fun _ _ => Yi.pv _ rfl) ?_
                      refine AW.take 7 (done' := #[true, true, true, true, true, true, true, true, false, false, false, false, false, false, false]) (.bool (decide (¬ r83.2.1 = r87.2.2.1))) [0, 1, 2, 3, 4, 5, 6, 7, 8, 9, 10] hns rfl rfl rfl (by kernel_rfl) (by kernel_rfl) rfl rfl rfl (by kernel_rfl) (fun _ _ => Yi.pv _ rfl) ?_
                      refine AW.take 8 (done' := #[true, true, true, true, true, true, true, true, true, false, false, false, false, false, false]) (.bool (decide (¬ r83.2.1 = r87.2.2.1))) [0, 1, 2, 3, 4, 5, 6, 7, 8, 9, 10] hns rfl rfl rfl (by kernel_rfl) (by kernel_rfl) rfl rfl rfl (by kernel_rfl) (fun _ _ => Yi.pv _ rfl) ?_
                      refine AW.fork 71 (¬ r83.2.1 = r87.2.2.1) rfl (fun _ => ?_) (fun h => absurd h93 h)
                      refine AW.pass 9 (done' := #[true, true, true, true, true, true, true, true, true, true, false, false, false, false, false]) [0, 1, 2, 3, 4, 5, 6, 7, 8, 9, 10] hns rfl rfl rfl (by kernel_rfl) (by kernel_rfl) rfl rfl rfl (by kernel_rfl) ?_
                      refine AW.pass 10 (done' := #[true, true, true, true, true, true, true, true, true, true, true, false, false, false, false]) [0, 1, 2, 3, 4, 5, 6, 7, 8, 9, 10] hns rfl rfl rfl (by kernel_rfl) (by kernel_rfl) rfl rfl rfl (by kernel_rfl) ?_
                      refine AW.pass 11 (done' := #[true, true, true, true, true, true, true, true, true, true, true, true, false, false, false]) [0, 1, 2, 3, 4, 5, 6, 7, 8, 9, 10] hns rfl rfl rfl (by kernel_rfl) (by kernel_rfl) rfl rfl rfl (by kernel_rfl) ?_
                      refine AW.pass 12 (done' := #[true, true, true, true, true, true, true, true, true, true, true, true, true, false, false]) [0, 1, 2, 3, 4, 5, 6, 7, 8, 9, 10] hns rfl rfl rfl (by kernel_rfl) (by kernel_rfl) rfl rfl rfl (by kernel_rfl) ?_
                      refine AW.pass 13 (done' := #[true, true, true, true, true, true, true, true, true, true, true, true, true, true, false]) [0, 1, 2, 3, 4, 5, 6, 7, 8, 9, 10] hns rfl rfl rfl (by kernel_rfl) (by kernel_rfl) rfl rfl rfl (by kernel_rfl) ?_
                      refine AW.take 14 (done' := #[true, true, true, true, true, true, true, true, true, true, true, true, true, true, true]) (.bool true) [0, 1, 2, 3, 4, 5, 6, 7, 8, 9, 10] hns rfl rfl rfl (by kernel_rfl) (by kernel_rfl) rfl rfl rfl (by kernel_rfl) (fun _ _ => Yi.pv _ rfl) ?_
                      have ht := hA94_111111111111111
                      rw [hA94] at ht
                      refine AW.to [0, 1, 2, 3, 4, 5, 6, 7, 8, 9, 10] rfl rfl ?_ ht
                      exact ⟨rfl, rfl, rfl, rfl, rfl, rfl, rfl, rfl, rfl, rfl, rfl, rfl, rfl, rfl, rfl, trivial⟩
                    · replace hm := (if_neg h93).symm.trans hm
                      obtain ⟨r95, hr95, hm⟩ := of_bind hm
                      refine CW.held (m := 15) [.blk b90 48 (#[sa1, .int .i64 r87.1, u88]), ro u88 1 r87.2.2.2.length (ec e1 r87.2.2.2), .blk u23.1 67 (cat [(16, (iv a0_0)), p1 (u23.2.1), (512, (iv r22.1)), p1 (.map (some u23.2.2))]), .row u23.2.1 3 1 r22.2.1.length (ec e1 r22.2.1), mpE u23.2.2 r22.2.2, .blk u26.1 74 (#[.int .i64 r83.2.2.1, .int .i64 r83.2.2.2.1, .int .i64 r83.2.2.2.2, u26.2]), ro u11 3 r10.2.length (ec e3 r10.2), .blk b28 48 (#[sa1, .int .i64 r87.1, u88]), ro sa1 1 a1.length (ec eb a1), ro s40 1 v39.length (ec e1 v39)] (by kernel_rfl) (by kernel_rfl) (by kernel_rfl) (fun A101 hA101 hns => ?_)
                      have hA101_111111111111111 : A101 0 #[true, true, true, true, true, true, true, true, true, true, true, true, true, true, true] [(5, u11), (7, .pointer (some ⟨u23.1, 0, none⟩)), (9, .pointer (some ⟨u26.1, 0, none⟩)), (10, .pointer (some ⟨b28, 0, none⟩)), (12, .int .i64 r83.2.1), (47, .int .i64 v41), (67, .int .i64 r83.2.1), (68, .int .i64 r87.2.2.1), (69, .bool (decide (¬ r83.2.1 = r87.2.2.1))), (72, .pointer (some ⟨u26.1, 0, none⟩)), (73, .int .i64 r83.2.2.1), (74, .pointer (some ⟨b28, 1, none⟩)), (75, .int .i64 r87.1), (76, .bool (decide (¬ r83.2.2.1 = r87.1))), (77, .bool (decide (¬ r83.2.2.1 = r87.1)))] [.blk u26.1 74 (#[.int .i64 r83.2.2.1, .int .i64 r83.2.2.2.1, .int .i64 r83.2.2.2.2, u26.2]), .row u26.2 5 1 (([] : List Int) ++ a1).length (ec eb (([] : List Int) ++ a1)), .blk b90 48 (#[sa1, .int .i64 r87.1, u88]), ro u88 1 r87.2.2.2.length (ec e1 r87.2.2.2), .blk u23.1 67 (cat [(16, (iv a0_0)), p1 (u23.2.1), (512, (iv r22.1)), p1 (.map (some u23.2.2))]), .row u23.2.1 3 1 r22.2.1.length (ec e1 r22.2.1), mpE u23.2.2 r22.2.2, ro u11 3 r10.2.length (ec e3 r10.2), .blk b28 48 (#[sa1, .int .i64 r87.1, u88]), ro sa1 1 a1.length (ec eb a1), ro s40 1 v39.length (ec e1 v39)] := by
                        rw [hA101]
                        refine AW.fin (by kernel_rfl) ?_
                        refine EW.next ?_
                        refine CW.fork 77 (¬ r83.2.2.1 = r87.1) rfl (fun h98 => ?_) (fun h98 => ?_)
                        · replace hm := (if_pos h98).symm.trans hm
                          refine CW.cond_true rfl ?_
                          refine CW.seq ?_
                          refine CW.region ?_
                          refine RW.yi (.bool false) rfl rfl (Yi.pv _ rfl) ?_
                          refine RW.nil ?_
                          refine EW.next ?_
                          refine CW.ret ?_
                          refine EW.thr ?_
                          refine EW.blr ?_
                          refine EW.thr ?_
                          refine EW.thr ?_
                          refine EW.blr ?_
                          refine EW.thr ?_
                          obtain rfl := Option.some.inj hm
                          exact EW.done (rs := [.tmp 4]) rfl (.tmp (t := 4) (v := .bool false) rfl .nil) (fun _ hM => ⟨(), rfl, (hM.pick [] rfl rfl)⟩)
                        · replace hm := (if_neg h98).symm.trans hm
                          refine CW.cond_false rfl ?_
                          refine CW.skip ?_
                          refine EW.next ?_
                          refine CW.seq ?_
                          refine CW.region ?_
                          refine RW.yi (.int .i64 r83.2.1) rfl rfl (Yi.pv _ rfl) ?_
                          refine RW.yi (.bool (decide (¬ r83.2.1 = 0))) rfl rfl (Yi.pv _ rfl) ?_
                          refine RW.yi (.bool (decide (¬ r83.2.1 = 0))) rfl rfl (Yi.pv _ rfl) ?_
                          refine RW.fork 80 (¬ r83.2.1 = 0) rfl (fun h99 => ?_) (fun h99 => ?_)
                          · replace hm := (if_pos h99).symm.trans hm
                            refine RW.yi (.int .i64 r83.2.1) rfl rfl (Yi.pv _ rfl) ?_
                            refine RW.yi (.bool (decide (¬ r83.2.1 = 6))) rfl rfl (Yi.pv _ rfl) ?_
                            refine RW.yi (.bool (decide (¬ r83.2.1 = 6))) rfl rfl (Yi.pv _ rfl) ?_
                            refine RW.nil ?_
                            refine EW.next ?_
                            refine CW.fork 83 (¬ r83.2.1 = 6) rfl (fun h100 => ?_) (fun h100 => ?_)
                            · replace hm := (if_pos h100).symm.trans hm
                              refine CW.cond_true rfl ?_
                              refine CW.exit ?_
                              refine EW.bly rfl ?_
                              refine EW.thx ?_
                              refine EW.thx ?_
                              refine EW.blx ?_
                              refine EW.thn ?_
                              exact fun a w hs hM => ⟨hs.sub trivial, (hM.pick [] rfl rfl), hm⟩
                            · replace hm := (if_neg h100).symm.trans hm
                              refine CW.cond_false rfl ?_
                              refine CW.skip ?_
                              refine EW.bln ?_
                              refine EW.thn ?_
                              exact fun a w hs hM => ⟨r83.2.2.1, r83.2.2.2.1, r83.2.2.2.2, r87.1, r87.2.2.2, r83.2.1, r87.2.2.1, (decide (¬ r83.2.1 = r87.2.2.1)), r83.2.2.1, r87.1, (decide (¬ r83.2.2.1 = r87.1)), u88, hs.sub ⟨rfl, rfl, rfl, rfl, rfl, rfl, rfl, rfl, rfl, rfl, rfl, rfl, rfl, trivial⟩, (hM.pick [7, 4, 5, 6, 0, 1, 8, 9, 3] rfl rfl), hm⟩
                          · replace hm := (if_neg h99).symm.trans hm
                            refine RW.pass rfl rfl ?_
                            refine RW.pass rfl rfl ?_
                            refine RW.yi (.bool false) rfl rfl (Yi.pv _ rfl) ?_
                            refine RW.nil ?_
                            refine EW.next ?_
                            refine CW.cond_false rfl ?_
                            refine CW.skip ?_
                            refine EW.bln ?_
                            refine EW.thn ?_
                            exact fun a w hs hM => ⟨r83.2.2.1, r83.2.2.2.1, r83.2.2.2.2, r87.1, r87.2.2.2, r83.2.1, r87.2.2.1, (decide (¬ r83.2.1 = r87.2.2.1)), r83.2.2.1, r87.1, (decide (¬ r83.2.2.1 = r87.1)), u88, hs.sub ⟨rfl, rfl, rfl, rfl, rfl, rfl, rfl, rfl, rfl, rfl, rfl, rfl, rfl, trivial⟩, (hM.pick [7, 4, 5, 6, 0, 1, 8, 9, 3] rfl rfl), hm⟩
                      have hA101_111111111101100 : A101 3 #[true, true, true, true, true, true, true, true, true, true, false, true, true, false, false] [(5, u11), (7, .pointer (some ⟨u23.1, 0, none⟩)), (9, .pointer (some ⟨u26.1, 0, none⟩)), (10, .pointer (some ⟨b28, 0, none⟩)), (12, .int .i64 r83.2.1), (47, .int .i64 v41), (67, .int .i64 r83.2.1), (68, .int .i64 r87.2.2.1), (69, .bool (decide (¬ r83.2.1 = r87.2.2.1))), (71, .bool false), (72, .pointer (some ⟨u26.1, 0, none⟩)), (74, .pointer (some ⟨b28, 1, none⟩)), (75, .int .i64 r87.1)] [.blk b90 48 (#[sa1, .int .i64 r87.1, u88]), ro u88 1 r87.2.2.2.length (ec e1 r87.2.2.2), .blk u23.1 67 (cat [(16, (iv a0_0)), p1 (u23.2.1), (512, (iv r22.1)), p1 (.map (some u23.2.2))]), .row u23.2.1 3 1 r22.2.1.length (ec e1 r22.2.1), mpE u23.2.2 r22.2.2, .blk u26.1 74 (#[.int .i64 r83.2.2.1, .int .i64 r83.2.2.2.1, .int .i64 r83.2.2.2.2, u26.2]), .row u26.2 5 1 (([] : List Int) ++ a1).length (ec eb (([] : List Int) ++ a1)), ro u11 3 r10.2.length (ec e3 r10.2), .blk b28 48 (#[sa1, .int .i64 r87.1, u88]), ro sa1 1 a1.length (ec eb a1), ro s40 1 v39.length (ec e1 v39)] := by
                        rw [hA101]
                        refine AW.step 10 [] (by kernel_rfl) ⟨⟨_, rfl, ?_⟩, trivial⟩
                        · refine RW.callM (cs := []) [.blk u26.1 74 (#[.int .i64 r83.2.2.1, .int .i64 r83.2.2.2.1, .int .i64 r83.2.2.2.2, u26.2]), .row u26.2 5 1 (([] : List Int) ++ a1).length (ec eb (([] : List Int) ++ a1))] [.blk b90 48 (#[sa1, .int .i64 r87.1, u88]), ro u88 1 r87.2.2.2.length (ec e1 r87.2.2.2), .blk u23.1 67 (cat [(16, (iv a0_0)), p1 (u23.2.1), (512, (iv r22.1)), p1 (.map (some u23.2.2))]), .row u23.2.1 3 1 r22.2.1.length (ec e1 r22.2.1), mpE u23.2.2 r22.2.2, ro u11 3 r10.2.length (ec e3 r10.2), .blk b28 48 (#[sa1, .int .i64 r87.1, u88]), ro sa1 1 a1.length (ec eb a1), ro s40 1 v39.length (ec e1 v39)] [] [5, 6, 0, 1, 2, 3, 4, 7, 8, 9, 10] (fun (_ : Unit) => [.blk u26.1 74 (#[.int .i64 r83.2.2.1, .int .i64 r83.2.2.2.1, .int .i64 r83.2.2.2.2, u26.2]), .row u26.2 5 1 (([] : List Int) ++ a1).length (ec eb (([] : List Int) ++ a1))]) (fun (_ : Unit) => .int .i64 r83.2.2.1) rfl rfl rfl rfl Try.call21 rfl rfl rfl (fun w hM => lent0) (.inl fun _ => rfl) (fun w S' hM => c_bits_Reader_At K r83.2.2.1 r83.2.2.2.1 r83.2.2.2.2 (([] : List Int) ++ a1) u26.1 u26.2 r95 w S' hM hr95) (fun _ => ?_)
                          refine RW.nil ?_
                          refine AW.on (done' := #[true, true, true, true, true, true, true, true, true, true, true, true, true, false, false]) rfl [2, 3, 4, 5, 6, 0, 7, 8, 9, 10] rfl rfl ?_
                          refine AW.take 13 (done' := #[true, true, true, true, true, true, true, true, true, true, true, true, true, true, false]) (.bool (decide (¬ r83.2.2.1 = r87.1))) [2, 3, 4, 5, 6, 0, 7, 8, 9, 10] hns rfl rfl rfl (by kernel_rfl) (by kernel_rfl) rfl rfl rfl (by kernel_rfl) (fun _ _ => Yi.pv _ rfl) ?_
                          refine AW.take 14 (done' := #[true, true, true, true, true, true, true, true, true, true, true, true, true, true, true]) (.bool (decide (¬ r83.2.2.1 = r87.1))) [2, 3, 4, 5, 6, 0, 7, 8, 9, 10] hns rfl rfl rfl (by kernel_rfl) (by kernel_rfl) rfl rfl rfl (by kernel_rfl) (fun _ _ => Yi.pv _ rfl) ?_
                          have ht := hA101_111111111111111
                          rw [hA101] at ht
                          refine AW.to [0, 1, 2, 3, 4, 5, 6, 7, 8, 9, 10] rfl rfl ?_ ht
                          exact ⟨rfl, rfl, rfl, rfl, rfl, rfl, rfl, rfl, rfl, rfl, rfl, rfl, rfl, rfl, rfl, trivial⟩
                      rw [hA101]
                      refine AW.take 0 (done' := #[true, false, false, false, false, false, false, false, false, false, false, false, false, false, false]) (.int .i64 r83.1) [0, 1, 2, 3, 4, 5, 7, 8, 9, 10] hns rfl rfl rfl (by kernel_rfl) (by kernel_rfl) rfl rfl rfl (by kernel_rfl) (fun _ _ => Yi.pv _ rfl) ?_
                      refine AW.take 1 (done' := #[true, true, false, false, false, false, false, false, false, false, false, false, false, false, false]) (.int .i64 r87.2.1) [0, 1, 2, 3, 4, 5, 7, 8, 9, 10] hns rfl rfl rfl (by kernel_rfl) (by kernel_rfl) rfl rfl rfl (by kernel_rfl) (fun _ _ => Yi.pv _ rfl) ?_
                      refine AW.take 2 (done' := #[true, true, true, false, false, false, false, false, false, false, false, false, false, false, false]) (.bool (decide (¬ r83.1 = r87.2.1))) [0, 1, 2, 3, 4, 5, 7, 8, 9, 10] hns rfl rfl rfl (by kernel_rfl) (by kernel_rfl) rfl rfl rfl (by kernel_rfl) (fun _ _ => Yi.pv _ rfl) ?_
                      refine AW.take 3 (done' := #[true, true, true, true, false, false, false, false, false, false, false, false, false, false, false]) (.bool (decide (¬ r83.1 = r87.2.1))) [0, 1, 2, 3, 4, 5, 7, 8, 9, 10] hns rfl rfl rfl (by kernel_rfl) (by kernel_rfl) rfl rfl rfl (by kernel_rfl) (fun _ _ => Yi.pv _ rfl) ?_
                      refine AW.fork 66 (¬ r83.1 = r87.2.1) rfl (fun h => absurd h h91) (fun _ => ?_)
                      refine AW.take 4 (done' := #[true, true, true, true, true, false, false, false, false, false, false, false, false, false, false]) (.int .i64 r83.2.1) [0, 1, 2, 3, 4, 5, 7, 8, 9, 10] hns rfl rfl rfl (by kernel_rfl) (by kernel_rfl) rfl rfl rfl (by kernel_rfl) (fun _ _ => Yi.pv _ rfl) ?_
                      refine AW.take 5 (done' := #[true, true, true, true, true, true, false, false, false, false, false, false, false, false, false]) (.int .i64 r87.2.2.1) [0, 1, 2, 3, 4, 5, 7, 8, 9, 10] hns rfl rfl rfl (by kernel_rfl) (by kernel_rfl) rfl rfl rfl (by kernel_rfl) (fun _ _ => Yi.pv _ rfl) ?_
                      refine AW.take 6 (done' := #[true, true, true, true, true, true, true, false, false, false, false, false, false, false, false]) (.bool (decide (¬ r83.2.1 = r87.2.2.1))) [0, 1, 2, 3, 4, 5, 7, 8, 9, 10] hns rfl rfl rfl (by kernel_rfl) (by kernel_rfl) rfl rfl rfl (by kernel_rfl) (fun _ _ => Yi.pv _ rfl) ?_
                      refine AW.take 7 (done' := #[true, true, true, true, true, true, true, true, false, false, false, false, false, false, false]) (.bool (decide (¬ r83.2.1 = r87.2.2.1))) [0, 1, 2, 3, 4, 5, 7, 8, 9, 10] hns rfl rfl rfl (by kernel_rfl) (by kernel_rfl) rfl rfl rfl (by kernel_rfl) (fun _ _ => Yi.pv _ rfl) ?_
                      refine AW.take 8 (done' := #[true, true, true, true, true, true, true, true, true, false, false, false, false, false, false]) (.bool (decide (¬ r83.2.1 = r87.2.2.1))) [0, 1, 2, 3, 4, 5, 7, 8, 9, 10] hns rfl rfl rfl (by kernel_rfl) (by kernel_rfl) rfl rfl rfl (by kernel_rfl) (fun _ _ => Yi.pv _ rfl) ?_
                      refine AW.fork 71 (¬ r83.2.1 = r87.2.2.1) rfl (fun h => absurd h h93) (fun _ => ?_)
                      refine AW.take 9 (done' := #[true, true, true, true, true, true, true, true, true, true, false, false, false, false, false]) (.pointer (some ⟨u26.1, 0, none⟩)) [0, 1, 2, 3, 4, 5, 7, 8, 9, 10] hns rfl rfl rfl (by kernel_rfl) (by kernel_rfl) rfl rfl rfl (by kernel_rfl) (fun _ _ => Yi.pv _ rfl) ?_
                      refine AW.take 11 (done' := #[true, true, true, true, true, true, true, true, true, true, false, true, false, false, false]) (.pointer (some ⟨b28, 1, none⟩)) [0, 1, 2, 3, 4, 5, 7, 8, 9, 10] hns rfl rfl rfl (by kernel_rfl) (by kernel_rfl) rfl rfl rfl (by kernel_rfl) (fun _ _ => Yi.fieldAddr (j := 1) Try.underlying48 rfl Try.sizeOf3 rfl) ?_
                      refine AW.take 12 (done' := #[true, true, true, true, true, true, true, true, true, true, false, true, true, false, false]) (.int .i64 r87.1) [0, 1, 2, 3, 4, 5, 7, 8, 9, 10] hns rfl rfl rfl (by kernel_rfl) (by kernel_rfl) rfl rfl rfl (by kernel_rfl) (fun _ _ => Yi.load1 (i := 7) _ rfl rfl Try.isAgg3 rfl) ?_
                      have ht := hA101_111111111101100
                      rw [hA101] at ht
                      refine AW.to [0, 1, 2, 3, 4, 5, 6, 7, 8, 9, 10] rfl rfl ?_ ht
                      exact ⟨rfl, rfl, rfl, rfl, rfl, rfl, rfl, rfl, rfl, rfl, rfl, rfl, rfl, trivial⟩
                · rintro a w ⟨v69, v70, v71, v73, v75, v77, v78, v79, v80, v81, v82, s76, hs, hM, hm⟩
                  unfold law05_HuffGets_j2 at hm
                  refine CW.enter hs hM ?_
                  refine CW.region ?_
                  refine RW.yi (.int .i64 (w64 (v41 + 1))) rfl rfl (Yi.pv _ rfl) ?_
                  refine RW.yi (.int .i64 (w64 (v41 + 1))) rfl rfl (Yi.pv _ rfl) ?_
                  refine RW.nil ?_
                  refine EW.thn ?_
                  exact fun a w hs hM => ⟨v69, v70, v71, v73, v75, (w64 (v41 + 1)), s76, hs.sub ⟨rfl, rfl, rfl, rfl, rfl, trivial⟩, (hM.pick [0, 1, 2, 3, 4, 5, 6, 7, 8] rfl rfl), hm⟩
              · replace hm := (if_neg h52).symm.trans hm
                refine CW.cond_false rfl ?_
                refine CW.exit ?_
                refine EW.thx ?_
                refine EW.thx ?_
                refine EW.blx ?_
                refine EW.thn ?_
                exact fun a w hs hM => ⟨hs.sub trivial, (hM.pick [] rfl rfl), hm⟩
          · rintro a w ⟨hs, hM, hm⟩
            unfold law05_HuffGets_j1 at hm
            refine CW.enter hs hM ?_
            refine CW.seq ?_
            refine CW.region ?_
            obtain ⟨r29, hr29, hm⟩ := of_bind hm
            refine RW.ca (.bool r29) rfl rfl (Ca.call (cs := []) [] rfl rfl Try.call10 (fun w hM => lent0) (fun w S' hM => (c_law05_awake K  r29 w S' hM hr29).mono (fun _ _ h => by obtain ⟨_, h1, h2⟩ := h; exact ⟨h1, h2⟩))) ?_
            refine RW.yi (.bool r29) rfl rfl (Yi.pv _ rfl) ?_
            refine RW.nil ?_
            refine EW.next ?_
            refine CW.ret ?_
            obtain rfl := Option.some.inj hm
            exact EW.done (rs := [.tmp 4]) rfl (.tmp (t := 4) (v := .bool r29) rfl .nil) (fun _ hM => ⟨(), rfl, (hM.pick [] rfl rfl)⟩)
        · dsimp only at hm
          refine RW.callM (cs := []) [] [.row u19 3 1 (([] : List Int) ++ a0_1).length (ec e1 (([] : List Int) ++ a0_1)), .row u11 39 3 r10.2.length (ec e3 r10.2), .blk b9 25 (cat [(16, (iv a0_0)), p1 (sa0_1)]), ro sa0_1 1 a0_1.length (ec e1 a0_1), ro sa1 1 a1.length (ec eb a1)] [ro u19 1 (([] : List Int) ++ a0_1).length (ec e1 (([] : List Int) ++ a0_1))] [0, 1, 2, 3, 4] (fun (_ : Unit) => []) (fun (_ : Unit) => .tuple #[.pointer none, .int .i64 4]) rfl rfl rfl rfl Try.call11 rfl rfl rfl (fun w hM => lentW (A := []) hM 0 rfl (lent0)) (.inl fun _ => rfl) (fun w S' hM => c_huff_New K a0_0 (([] : List Int) ++ a0_1) u19 (.inr r104) w S' hM hr21) (fun _ => ?_)
          refine RW.yi (.tuple #[.pointer none, .int .i64 4]) rfl rfl (Yi.pv _ rfl) ?_
          refine RW.yi (.pointer none) rfl rfl (Yi.pv _ rfl) ?_
          refine RW.yi (.int .i64 4) rfl rfl (Yi.pv _ rfl) ?_
          refine RW.yi (.pointer none) rfl rfl (Yi.pv _ rfl) ?_
          refine RW.yi (.int .i64 4) rfl rfl (Yi.pv _ rfl) ?_
          refine RW.nil ?_
          refine EW.next ?_
          refine CW.seq ?_
          refine CW.seq ?_
          refine CW.region ?_
          refine RW.yi (.int .i64 4) rfl rfl (Yi.pv _ rfl) ?_
          refine RW.yi (.bool true) rfl rfl (Yi.pv _ rfl) ?_
          refine RW.nil ?_
          refine EW.next ?_
          refine CW.cond_true rfl ?_
          refine CW.seq ?_
          refine CW.region ?_
          refine RW.yi (.bool false) rfl rfl (Yi.pv _ rfl) ?_
          refine RW.nil ?_
          refine EW.next ?_
          refine CW.ret ?_
          refine EW.thr ?_
          obtain rfl := Option.some.inj hm
          exact EW.done (rs := [.tmp 4]) rfl (.tmp (t := 4) (v := .bool false) rfl .nil) (fun _ hM => ⟨(), rfl, (hM.pick [] rfl rfl)⟩)
      · replace hm := (if_neg h17).symm.trans hm
        refine RW.yi (.bool true) rfl rfl (Yi.pv _ rfl) ?_
        refine RW.yi (.bool true) rfl rfl (Yi.pv _ rfl) ?_
        refine RW.nil ?_
        refine EW.next ?_
        refine CW.cond_true rfl ?_
        refine CW.seq ?_
        refine CW.region ?_
        obtain ⟨r106, hr106, hm⟩ := of_bind hm
        refine RW.ca (.bool r106) rfl rfl (Ca.call (cs := []) [] rfl rfl Try.call10 (fun w hM => lent0) (fun w S' hM => (c_law05_awake K  r106 w S' hM hr106).mono (fun _ _ h => by obtain ⟨_, h1, h2⟩ := h; exact ⟨h1, h2⟩))) ?_
        refine RW.yi (.bool r106) rfl rfl (Yi.pv _ rfl) ?_
        refine RW.nil ?_
        refine EW.next ?_
        refine CW.ret ?_
        refine EW.thr ?_
        obtain rfl := Option.some.inj hm
        exact EW.done (rs := [.tmp 4]) rfl (.tmp (t := 4) (v := .bool r106) rfl .nil) (fun _ hM => ⟨(), rfl, (hM.pick [] rfl rfl)⟩)

end Go.Proofs.Ytoepbakbpimkiaa
