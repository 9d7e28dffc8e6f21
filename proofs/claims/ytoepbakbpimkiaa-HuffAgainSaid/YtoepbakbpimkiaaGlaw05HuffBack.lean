import Derived.Test.YtoepbakbpimkiaaN8
import Derived.Test.YtoepbakbpimkiaaProg
import Derived.Test.YtoepbakbpimkiaaGbitsNewReader
import Derived.Test.YtoepbakbpimkiaaGbitsNewWriter
import Derived.Test.YtoepbakbpimkiaaGbitsWriterBytes
import Derived.Test.YtoepbakbpimkiaaGbitsWriterCount
import Derived.Test.YtoepbakbpimkiaaGhuffNew
import Derived.Test.YtoepbakbpimkiaaGhuffTableGet
import Derived.Test.YtoepbakbpimkiaaGhuffTablePut2
import Derived.Test.YtoepbakbpimkiaaGlaw05awake
import Derived.Test.YtoepbakbpimkiaaGlaw05own
import Derived.Test.YtoepbakbpimkiaaGref05Codes
import Derived.Test.YtoepbakbpimkiaaGref05Find
set_option maxRecDepth 100000
set_option maxHeartbeats 1000000
namespace Go.Proofs.Ytoepbakbpimkiaa
open Go Go.RowKit K

def law05_HuffBack_j1 (K : Nat)  : Option (Bool) :=
  ((law05_awake K ).bind fun r47 => some r47)

def law05_HuffBack_l1 (K : Nat) (a0_0 : (Nat → Int)) (r40 : ((List Int))) (v38 : (List Int)) (r25 : ((Nat → Int) × (List Int) × (List MEnt))) : Nat → Int → Int → Int → Int →  Option (Bool)
  | 0, _, _, _, _ => none
  | k1 + 1, v51, v52, v53, v55 =>
    (if v55 < (v38.length : Int) then (if 0 ≤ v55 ∧ v55 < (v38.length : Int) then ((huff_Table_Get K a0_0 r25.2.1 r25.1 r25.2.2 v51 v52 v53 (([] : List Int) ++ r40)).bind fun r64 => (if ¬ r64.1 = (v38.getD v55.toNat 0) then some false else (if ¬ r64.2.1 = 0 then some false else (law05_HuffBack_l1 K a0_0 r40 v38 r25 k1) r64.2.2.1 r64.2.2.2.1 r64.2.2.2.2 (w64 (v55 + 1))))) else none) else law05_HuffBack_j1 K)

def law05_HuffBack_j2 (K : Nat) (a0_0 : (Nat → Int)) (r25 : ((Nat → Int) × (List Int) × (List MEnt))) (v32 : (List Int)) (v34 : Int) (v35 : Int) (v36 : Int) (v38 : (List Int)) : Option (Bool) :=
  ((bits_Writer_Bytes K v32 v34 v35 v36).bind fun r40 => ((bits_NewReader K r40).bind fun r44 => law05_HuffBack_l1 K a0_0 r40 v38 r25 K 0 0 0 0))

def law05_HuffBack_j3 (_ : Nat) (cb_law05_HuffBack_l2 : (List Int) → Int → Int → Int → (List Int) → Int → Option (Bool)) (v82 : Int) (v110 : (List Int)) (v112 : Int) (v113 : Int) (v114 : Int) (v115 : (List Int)) (v117 : Bool) (v118 : Bool) (v119 : Bool) (v120 : Bool) : Option (Bool) :=
  cb_law05_HuffBack_l2 v110 v112 v113 v114 v115 (w64 (v82 + 1))

def law05_HuffBack_j4 (K : Nat) (cb_law05_HuffBack_l2 : (List Int) → Int → Int → Int → (List Int) → Int → Option (Bool)) (a1 : (List Int)) (v82 : Int) (v80 : (List Int)) (r122 : (Int × Int × Int × Bool)) (r127 : (Int × Int × Int × Int × (List Int))) (v137 : Bool) (v138 : Bool) (v139 : Bool) (v140 : Bool) : Option (Bool) :=
  (if r122.2.2.2 = true then (if v80.length + ([(a1.getD v82.toNat 0)] : List Int).length ≤ 17592186044416 then law05_HuffBack_j3 K cb_law05_HuffBack_l2 v82 r127.2.2.2.2 r127.2.1 r127.2.2.1 r127.2.2.2.1 (v80 ++ ([(a1.getD v82.toNat 0)] : List Int)) v137 v138 v139 v140 else none) else law05_HuffBack_j3 K cb_law05_HuffBack_l2 v82 r127.2.2.2.2 r127.2.1 r127.2.2.1 r127.2.2.2.1 v80 v137 v138 v139 v140)

def law05_HuffBack_l2 (K : Nat) (a0_0 : (Nat → Int)) (a1 : (List Int)) (r13 : (Bool × (List (Int × Int × Int)))) (r25 : ((Nat → Int) × (List Int) × (List MEnt))) : Nat → (List Int) → Int → Int → Int → (List Int) → Int →  Option (Bool)
  | 0, _, _, _, _, _, _ => none
  | k2 + 1, v74, v76, v77, v78, v80, v82 =>
    (if v82 < (a1.length : Int) then (if 0 ≤ v82 ∧ v82 < (a1.length : Int) then ((ref05_Find K r13.2 (a1.getD v82.toNat 0)).bind fun r122 => ((bits_Writer_Count K v74 v76 v77 v78).bind fun r124 => ((huff_Table_Put_2 K a0_0 r25.2.1 r25.1 r25.2.2 v74 v76 v77 v78 (a1.getD v82.toNat 0)).bind fun r127 => (if r127.1 = 0 then (if r122.2.2.2 = true then law05_HuffBack_j4 K (law05_HuffBack_l2 K a0_0 a1 r13 r25 k2) a1 v82 v80 r122 r127 true false false false else some false) else (if r122.2.2.2 = true then some false else (if ¬ r127.1 = 6 then some false else ((bits_Writer_Count K r127.2.2.2.2 r127.2.1 r127.2.2.1 r127.2.2.2.1).bind fun r150 => (if ¬ r127.2.2.2.1 = v78 then some false else law05_HuffBack_j4 K (law05_HuffBack_l2 K a0_0 a1 r13 r25 k2) a1 v82 v80 r122 r127 false true true (decide (¬ r127.2.2.2.1 = v78)))))))))) else none) else law05_HuffBack_j2 K a0_0 r25 v74 v76 v77 v78 v80)

def law05_HuffBack (K : Nat) (a0_0 : (Nat → Int)) (a0_1 : (List Int)) (a1 : (List Int)) : Option (Bool) :=
  ((ref05_Codes K a0_0 a0_1).bind fun r13 => (if 300 < (a0_1.length : Int) then ((law05_awake K ).bind fun r17 => some r17) else (if 60 < (a1.length : Int) then ((law05_awake K ).bind fun r19 => some r19) else (if r13.1 = true then ((law05_own K a0_0 a0_1).bind fun r21 => ((huff_New K a0_0 (([] : List Int) ++ a0_1)).bind fun r24 => match r24 with | .inl r25 => ((bits_NewWriter K ).bind fun r28 => law05_HuffBack_l2 K a0_0 a1 r13 r25 K ([] : List Int) 0 0 0 ([] : List Int) 0) | .inr r154 => some false)) else ((law05_awake K ).bind fun r156 => some r156)))))

theorem c_law05_HuffBack (K : Nat) (a0_0 : (Nat → Int)) (a0_1 : (List Int)) (a1 : (List Int)) (sa0_1 : Value) (sa1 : Value) (r : Bool) (w0 : World) (S : Own) (hM0 : Mem w0 S [ro sa0_1 1 a0_1.length (ec e1 a0_1), ro sa1 1 a1.length (ec e1 a1)] w0) (hm : law05_HuffBack K a0_0 a0_1 a1 = some r) : Calls Try.prog 9 #[.agg (cat [(16, (iv a0_0)), p1 (sa0_1)]), sa1] w0 fun e w' => ∃ _u : Unit, e = .returned (.bool r) ∧ Mem w0 S [] w' := by
  unfold law05_HuffBack at hm
  refine calls_CW (n := 116) w0 S [ro sa0_1 1 a0_1.length (ec e1 a0_1), ro sa1 1 a1.length (ec e1 a1)] Try.func9 rfl rfl rfl hM0 ?_
  refine CW.seq ?_
  refine CW.region ?_
  refine RW.box (v := .agg (cat [(16, (iv a0_0)), p1 (sa0_1)])) rfl rfl rfl (fun b12 => ?_)
  refine RW.yi (.bool false) rfl rfl (Yi.pv _ rfl) ?_
  refine RW.nil ?_
  refine EW.next ?_
  refine CW.seq ?_
  refine CW.region ?_
  refine RW.yi (.agg (cat [(16, (iv a0_0)), p1 (sa0_1)])) rfl rfl (Yi.loadW (i := 0) rfl rfl Try.isAgg25 (by simp only [cat_size]; exact Try.sizeOf25)) ?_
  obtain ⟨r13, hr13, hm⟩ := of_bind hm
  refine RW.callM (cs := []) [] [.blk b12 25 (cat [(16, (iv a0_0)), p1 (sa0_1)]), ro sa0_1 1 a0_1.length (ec e1 a0_1), ro sa1 1 a1.length (ec e1 a1)] [ro sa0_1 1 a0_1.length (ec e1 a0_1)] [0, 1, 2] (fun (u14 : Value) => [.row u14 39 3 r13.2.length (ec e3 r13.2)]) (fun (u14 : Value) => .tuple #[u14, .bool r13.1]) rfl rfl rfl rfl Try.call14 rfl rfl rfl (fun w hM => lentF (A := []) hM 1 rfl (lent0)) (.inl fun _ => rfl) (fun w S' hM => c_ref05_Codes K a0_0 a0_1 sa0_1 r13 w S' hM hr13) (fun u14 => ?_)
  refine RW.yi (.tuple #[u14, .bool r13.1]) rfl rfl (Yi.pv _ rfl) ?_
  refine RW.yi (u14) rfl rfl (Yi.pv _ rfl) ?_
  refine RW.yi (.bool r13.1) rfl rfl (Yi.pv _ rfl) ?_
  refine RW.yi (u14) rfl rfl (Yi.pv _ rfl) ?_
  refine RW.yi (.bool r13.1) rfl rfl (Yi.pv _ rfl) ?_
  refine RW.nil ?_
  refine EW.next ?_
  refine CW.seq ?_
  refine CW.seq ?_
  refine CW.region ?_
  refine RW.yi (.pointer (some ⟨b12, 16, none⟩)) rfl rfl (Yi.fieldAddr (j := 1) Try.underlying25 rfl Try.sizeOf23 rfl) ?_
  refine RW.yi (sa0_1) rfl rfl (Yi.load1 (i := 1) _ rfl rfl Try.isAgg23 (cat_get1 (ps := [(16, (iv a0_0)), p1 (sa0_1)]) 1 rfl rfl)) ?_
  refine RW.yi (.int .i64 (a0_1.length : Int)) rfl rfl (Yi.lenS (cs := ec e1 a0_1) (m := a0_1.length) Try.underlying23 rfl (rdF 2 rfl)) ?_
  refine RW.yi (.bool (decide (300 < (a0_1.length : Int)))) rfl rfl (Yi.pv _ rfl) ?_
  refine RW.yi (.bool (decide (300 < (a0_1.length : Int)))) rfl rfl (Yi.pv _ rfl) ?_
  refine RW.fork 31 (300 < (a0_1.length : Int)) rfl (fun h16 => ?_) (fun h16 => ?_)
  · replace hm := (if_pos h16).symm.trans hm
    refine RW.pass rfl rfl ?_
    refine RW.pass rfl rfl ?_
    refine RW.pass rfl rfl ?_
    refine RW.yi (.bool true) rfl rfl (Yi.pv _ rfl) ?_
    refine RW.yi (.bool true) rfl rfl (Yi.pv _ rfl) ?_
    refine RW.pass rfl rfl ?_
    refine RW.pass rfl rfl ?_
    refine RW.yi (.bool true) rfl rfl (Yi.pv _ rfl) ?_
    refine RW.nil ?_
    refine EW.next ?_
    refine CW.cond_true rfl ?_
    refine CW.seq ?_
    refine CW.region ?_
    obtain ⟨r17, hr17, hm⟩ := of_bind hm
    refine RW.ca (.bool r17) rfl rfl (Ca.call (cs := []) [] rfl rfl Try.call10 (fun w hM => lent0) (fun w S' hM => (c_law05_awake K  r17 w S' hM hr17).mono (fun _ _ h => by obtain ⟨_, h1, h2⟩ := h; exact ⟨h1, h2⟩))) ?_
    refine RW.yi (.bool r17) rfl rfl (Yi.pv _ rfl) ?_
    refine RW.nil ?_
    refine EW.next ?_
    refine CW.ret ?_
    refine EW.thr ?_
    obtain rfl := Option.some.inj hm
    exact EW.done (rs := [.tmp 4]) rfl (.tmp (t := 4) (v := .bool r17) rfl .nil) (fun _ hM => ⟨(), rfl, (hM.pick [] rfl rfl)⟩)
  · replace hm := (if_neg h16).symm.trans hm
    refine RW.yi (sa1) rfl rfl (Yi.pv _ rfl) ?_
    refine RW.yi (.int .i64 (a1.length : Int)) rfl rfl (Yi.lenS (cs := ec e1 a1) (m := a1.length) Try.underlying23 rfl (rdF 3 rfl)) ?_
    refine RW.yi (.bool (decide (60 < (a1.length : Int)))) rfl rfl (Yi.pv _ rfl) ?_
    refine RW.yi (.bool (decide (60 < (a1.length : Int)))) rfl rfl (Yi.pv _ rfl) ?_
    refine RW.yi (.bool (decide (60 < (a1.length : Int)))) rfl rfl (Yi.pv _ rfl) ?_
    refine RW.fork 36 (60 < (a1.length : Int)) rfl (fun h18 => ?_) (fun h18 => ?_)
    · replace hm := (if_pos h18).symm.trans hm
      refine RW.pass rfl rfl ?_
      refine RW.pass rfl rfl ?_
      refine RW.yi (.bool true) rfl rfl (Yi.pv _ rfl) ?_
      refine RW.nil ?_
      refine EW.next ?_
      refine CW.cond_true rfl ?_
      refine CW.seq ?_
      refine CW.region ?_
      obtain ⟨r19, hr19, hm⟩ := of_bind hm
      refine RW.ca (.bool r19) rfl rfl (Ca.call (cs := []) [] rfl rfl Try.call10 (fun w hM => lent0) (fun w S' hM => (c_law05_awake K  r19 w S' hM hr19).mono (fun _ _ h => by obtain ⟨_, h1, h2⟩ := h; exact ⟨h1, h2⟩))) ?_
      refine RW.yi (.bool r19) rfl rfl (Yi.pv _ rfl) ?_
      refine RW.nil ?_
      refine EW.next ?_
      refine CW.ret ?_
      refine EW.thr ?_
      obtain rfl := Option.some.inj hm
      exact EW.done (rs := [.tmp 4]) rfl (.tmp (t := 4) (v := .bool r19) rfl .nil) (fun _ hM => ⟨(), rfl, (hM.pick [] rfl rfl)⟩)
    · replace hm := (if_neg h18).symm.trans hm
      refine RW.yi (.bool r13.1) rfl rfl (Yi.pv _ rfl) ?_
      refine RW.forkB 37 (r13.1) rfl (fun h20 => ?_) (fun h20 => ?_)
      · replace hm := (if_pos h20).symm.trans hm
        refine RW.yi (.bool false) rfl rfl (Yi.pv _ rfl) ?_
        refine RW.yi (.bool false) rfl rfl (Yi.pv _ rfl) ?_
        refine RW.nil ?_
        refine EW.next ?_
        refine CW.cond_false rfl ?_
        refine CW.skip ?_
        refine EW.next ?_
        refine CW.seq ?_
        refine CW.region ?_
        refine RW.yi (.agg (cat [(16, (iv a0_0)), p1 (sa0_1)])) rfl rfl (Yi.loadW (i := 1) rfl rfl Try.isAgg25 (by simp only [cat_size]; exact Try.sizeOf25)) ?_
        obtain ⟨r21, hr21, hm⟩ := of_bind hm
        refine RW.callM (cs := []) [] [.row u14 39 3 r13.2.length (ec e3 r13.2), .blk b12 25 (cat [(16, (iv a0_0)), p1 (sa0_1)]), ro sa0_1 1 a0_1.length (ec e1 a0_1), ro sa1 1 a1.length (ec e1 a1)] [ro sa0_1 1 a0_1.length (ec e1 a0_1)] [0, 1, 2, 3] (fun (u22 : Value) => [.row u22 3 1 (([] : List Int) ++ a0_1).length (ec e1 (([] : List Int) ++ a0_1))]) (fun (u22 : Value) => .agg (cat [(16, (iv a0_0)), p1 (u22)])) rfl rfl rfl rfl Try.call12 rfl rfl rfl (fun w hM => lentF (A := []) hM 2 rfl (lent0)) (.inl fun _ => rfl) (fun w S' hM => c_law05_own K a0_0 a0_1 sa0_1 r21 w S' hM hr21) (fun u22 => ?_)
        obtain ⟨r24, hr24, hm⟩ := of_bind hm
        rcases r24 with r25 | r154
        · dsimp only at hm
          refine RW.callM (cs := []) [] [.row u22 3 1 (([] : List Int) ++ a0_1).length (ec e1 (([] : List Int) ++ a0_1)), .row u14 39 3 r13.2.length (ec e3 r13.2), .blk b12 25 (cat [(16, (iv a0_0)), p1 (sa0_1)]), ro sa0_1 1 a0_1.length (ec e1 a0_1), ro sa1 1 a1.length (ec e1 a1)] [ro u22 1 (([] : List Int) ++ a0_1).length (ec e1 (([] : List Int) ++ a0_1))] [0, 1, 2, 3, 4] (fun (u26 : Nat × Value × Nat) => [.blk u26.1 67 (cat [(16, (iv a0_0)), p1 (u26.2.1), (512, (iv r25.1)), p1 (.map (some u26.2.2))]), .row u26.2.1 3 1 r25.2.1.length (ec e1 r25.2.1), mpE u26.2.2 r25.2.2]) (fun (u26 : Nat × Value × Nat) => .tuple #[.pointer (some ⟨u26.1, 0, none⟩), .int .i64 0]) rfl rfl rfl rfl Try.call11 rfl rfl rfl (fun w hM => lentW (A := []) hM 0 rfl (lent0)) (.inl fun _ => rfl) (fun w S' hM => c_huff_New K a0_0 (([] : List Int) ++ a0_1) u22 (.inl r25) w S' hM hr24) (fun u26 => ?_)
          refine RW.yi (.tuple #[.pointer (some ⟨u26.1, 0, none⟩), .int .i64 0]) rfl rfl (Yi.pv _ rfl) ?_
          refine RW.yi (.pointer (some ⟨u26.1, 0, none⟩)) rfl rfl (Yi.pv _ rfl) ?_
          refine RW.yi (.int .i64 0) rfl rfl (Yi.pv _ rfl) ?_
          refine RW.yi (.pointer (some ⟨u26.1, 0, none⟩)) rfl rfl (Yi.pv _ rfl) ?_
          refine RW.yi (.int .i64 0) rfl rfl (Yi.pv _ rfl) ?_
          refine RW.nil ?_
          refine EW.next ?_
          refine CW.seq ?_
          refine CW.seq ?_
          refine CW.region ?_
          refine RW.yi (.int .i64 0) rfl rfl (Yi.pv _ rfl) ?_
          refine RW.yi (.bool false) rfl rfl (Yi.pv _ rfl) ?_
          refine RW.nil ?_
          refine EW.next ?_
          refine CW.cond_false rfl ?_
          refine CW.skip ?_
          refine EW.next ?_
          refine CW.seq ?_
          refine CW.region ?_
          obtain ⟨r28, hr28, hm⟩ := of_bind hm
          refine RW.callM (cs := []) [] [.blk u26.1 67 (cat [(16, (iv a0_0)), p1 (u26.2.1), (512, (iv r25.1)), p1 (.map (some u26.2.2))]), .row u26.2.1 3 1 r25.2.1.length (ec e1 r25.2.1), mpE u26.2.2 r25.2.2, .row u22 3 1 (([] : List Int) ++ a0_1).length (ec e1 (([] : List Int) ++ a0_1)), .row u14 39 3 r13.2.length (ec e3 r13.2), .blk b12 25 (cat [(16, (iv a0_0)), p1 (sa0_1)]), ro sa0_1 1 a0_1.length (ec e1 a0_1), ro sa1 1 a1.length (ec e1 a1)] [] [0, 1, 2, 3, 4, 5, 6, 7] (fun (u29 : Nat) => [.blk u29 81 (#[.slice none 0 0, .int .i64 0, .int .i64 0, .int .i64 0])]) (fun (u29 : Nat) => .pointer (some ⟨u29, 0, none⟩)) rfl rfl rfl rfl Try.call22 rfl rfl rfl (fun w hM => lent0) (.inl fun _ => rfl) (fun w S' hM => c_bits_NewWriter K  r28 w S' hM hr28) (fun u29 => ?_)
          refine RW.yi (.pointer (some ⟨u29, 0, none⟩)) rfl rfl (Yi.pv _ rfl) ?_
          refine RW.nil ?_
          refine EW.next ?_
          refine CW.seq ?_
          refine CW.region ?_
          refine RW.yi (.slice none 0 0) rfl rfl (Yi.pv _ rfl) ?_
          refine RW.nil ?_
          refine EW.next ?_
          refine CW.join (fun a w => ∃ (v32 : (List Int)) (v34 : Int) (v35 : Int) (v36 : Int) (v38 : (List Int)) (s33 : Value) (s39 : Value), St 116 [(7, .pointer (some ⟨u26.1, 0, none⟩)), (9, .pointer (some ⟨u29, 0, none⟩)), (10, s39)] a ∧ Mem w0 S [.blk u26.1 67 (cat [(16, (iv a0_0)), p1 (u26.2.1), (512, (iv r25.1)), p1 (.map (some u26.2.2))]), .row u26.2.1 3 1 r25.2.1.length (ec e1 r25.2.1), mpE u26.2.2 r25.2.2, .blk u29 81 (#[s33, .int .i64 v34, .int .i64 v35, .int .i64 v36]), .row s33 5 1 v32.length (ec eb v32), .row s39 3 1 v38.length (ec e1 v38)] w ∧ law05_HuffBack_j2 K a0_0 r25 v32 v34 v35 v36 v38 = some r) ?_ ?_
          · refine CW.seq ?_
            refine CW.region ?_
            refine RW.yi (sa1) rfl rfl (Yi.pv _ rfl) ?_
            refine RW.yi (.int .i64 (a1.length : Int)) rfl rfl (Yi.lenS (cs := ec e1 a1) (m := a1.length) Try.underlying23 rfl (rdF 8 rfl)) ?_
            refine RW.yi (.int .i64 0) rfl rfl (Yi.pv _ rfl) ?_
            refine RW.nil ?_
            refine EW.next ?_
            refine CW.block ?_
            refine CW.loop (fun k a w => ∃ (v74 : (List Int)) (v76 : Int) (v77 : Int) (v78 : Int) (v80 : (List Int)) (v82 : Int) (s75 : Value) (s81 : Value), St 116 [(5, u14), (7, .pointer (some ⟨u26.1, 0, none⟩)), (9, .pointer (some ⟨u29, 0, none⟩)), (10, s81), (50, sa1), (51, .int .i64 (a1.length : Int)), (52, .int .i64 v82)] a ∧ Mem w0 S [.row u14 39 3 r13.2.length (ec e3 r13.2), .blk u26.1 67 (cat [(16, (iv a0_0)), p1 (u26.2.1), (512, (iv r25.1)), p1 (.map (some u26.2.2))]), .row u26.2.1 3 1 r25.2.1.length (ec e1 r25.2.1), mpE u26.2.2 r25.2.2, .blk u29 81 (#[s75, .int .i64 v76, .int .i64 v77, .int .i64 v78]), .row s75 5 1 v74.length (ec eb v74), .row s81 3 1 v80.length (ec e1 v80), ro sa1 1 a1.length (ec e1 a1)] w ∧ law05_HuffBack_l2 K a0_0 a1 r13 r25 k v74 v76 v77 v78 v80 v82 = some r) K ?_ ?_ ?_
            · rintro a w ⟨_, _, _, _, _, _, _, _, _, _, hm⟩
              rw [law05_HuffBack_l2.eq_1] at hm
              cases hm
            · exact fun a w hs hM => ⟨([] : List Int), 0, 0, 0, ([] : List Int), 0, (.slice none 0 0), (.slice none 0 0), hs.sub ⟨rfl, rfl, rfl, rfl, rfl, rfl, rfl, trivial⟩, (((hM.nilRow 5 1).nilRow 3 1).pick [7, 3, 4, 5, 2, 1, 0, 10] rfl rfl), hm⟩
            · rintro k2 a w ⟨v74, v76, v77, v78, v80, v82, s75, s81, hs, hM, hm⟩
              rw [law05_HuffBack_l2.eq_2] at hm
              refine CW.enter hs hM ?_
              refine CW.seq ?_
              refine CW.region ?_
              refine RW.yi (.bool (decide (v82 < (a1.length : Int)))) rfl rfl (Yi.pv _ rfl) ?_
              refine RW.nil ?_
              refine EW.next ?_
              refine CW.seq ?_
              refine CW.fork 53 (v82 < (a1.length : Int)) rfl (fun h94 => ?_) (fun h94 => ?_)
              · replace hm := (if_pos h94).symm.trans hm
                refine CW.cond_true rfl ?_
                refine CW.skip ?_
                refine EW.next ?_
                refine CW.join (fun a w => ∃ (v110 : (List Int)) (v112 : Int) (v113 : Int) (v114 : Int) (v115 : (List Int)) (v117 : Bool) (v118 : Bool) (v119 : Bool) (v120 : Bool) (s111 : Value) (s116 : Value), St 116 [(5, u14), (7, .pointer (some ⟨u26.1, 0, none⟩)), (9, .pointer (some ⟨u29, 0, none⟩)), (10, s116), (50, sa1), (51, .int .i64 (a1.length : Int)), (52, .int .i64 v82), (73, .bool v117), (74, .bool v118), (75, .bool v119), (84, .bool v120)] a ∧ Mem w0 S [.row u14 39 3 r13.2.length (ec e3 r13.2), .blk u26.1 67 (cat [(16, (iv a0_0)), p1 (u26.2.1), (512, (iv r25.1)), p1 (.map (some u26.2.2))]), .row u26.2.1 3 1 r25.2.1.length (ec e1 r25.2.1), mpE u26.2.2 r25.2.2, .blk u29 81 (#[s111, .int .i64 v112, .int .i64 v113, .int .i64 v114]), .row s111 5 1 v110.length (ec eb v110), .row s116 3 1 v115.length (ec e1 v115), ro sa1 1 a1.length (ec e1 a1)] w ∧ law05_HuffBack_j3 K (law05_HuffBack_l2 K a0_0 a1 r13 r25 k2) v82 v110 v112 v113 v114 v115 v117 v118 v119 v120 = some r) ?_ ?_
                · refine CW.block ?_
                  refine CW.seq ?_
                  refine CW.region ?_
                  obtain ⟨g121, hm⟩ := of_guard hm
                  refine RW.yi (.pointer (some (eaddr sa1 1 v82.toNat 0))) rfl rfl (Yi.idxS (m := a1.length) Try.underlying23 Try.sizeOf3 rfl rfl (rdF 7 rfl) g121.1 g121.2) ?_
                  refine RW.yi (.int .i64 (a1.getD v82.toNat 0)) rfl rfl (Yi.loadS (m := a1.length) (cs := ec e1 a1) _ rfl (rdF 7 rfl) Try.isAgg3 (by omega) (by omega) (by rw [ec_get (d := 0) e1_is (by omega) (by decide)]; rfl)) ?_
                  refine RW.yi (.int .i64 (a1.getD v82.toNat 0)) rfl rfl (Yi.pv _ rfl) ?_
                  refine RW.nil ?_
                  refine EW.next ?_
                  refine CW.seq ?_
                  refine CW.region ?_
                  refine RW.yi (u14) rfl rfl (Yi.pv _ rfl) ?_
                  refine RW.yi (.int .i64 (a1.getD v82.toNat 0)) rfl rfl (Yi.pv _ rfl) ?_
                  obtain ⟨r122, hr122, hm⟩ := of_bind hm
                  refine RW.ca (.tuple #[.agg #[.int .i64 r122.1, .int .i64 r122.2.1, .int .i64 r122.2.2.1], .bool r122.2.2.2]) rfl rfl (Ca.call (cs := []) [ro u14 3 r13.2.length (ec e3 r13.2)] rfl rfl Try.call16 (fun w hM => lentW (A := []) hM 0 rfl (lent0)) (fun w S' hM => (c_ref05_Find K r13.2 (a1.getD v82.toNat 0) u14 r122 w S' hM hr122).mono (fun _ _ h => by obtain ⟨_, h1, h2⟩ := h; exact ⟨h1, h2⟩))) ?_
                  refine RW.yi (.tuple #[.agg #[.int .i64 r122.1, .int .i64 r122.2.1, .int .i64 r122.2.2.1], .bool r122.2.2.2]) rfl rfl (Yi.pv _ rfl) ?_
                  refine RW.yi (.agg #[.int .i64 r122.1, .int .i64 r122.2.1, .int .i64 r122.2.2.1]) rfl rfl (Yi.pv _ rfl) ?_
                  refine RW.yi (.bool r122.2.2.2) rfl rfl (Yi.pv _ rfl) ?_
                  refine RW.alloc (z := .agg #[.int .i64 0, .int .i64 0, .int .i64 0]) (#[.int .i64 0, .int .i64 0, .int .i64 0]) rfl rfl (fun _ => by kernel_rfl) rfl (fun b123 => ?_)
                  refine RW.storeW (i := 0) (cs' := #[.int .i64 r122.1, .int .i64 r122.2.1, .int .i64 r122.2.2.1]) rfl rfl rfl rfl (by kernel_rfl) rfl (by kernel_rfl) ?_
                  refine RW.yi (.bool r122.2.2.2) rfl rfl (Yi.pv _ rfl) ?_
                  refine RW.nil ?_
                  refine EW.next ?_
                  refine CW.seq ?_
                  refine CW.region ?_
                  refine RW.yi (.pointer (some ⟨u29, 0, none⟩)) rfl rfl (Yi.pv _ rfl) ?_
                  obtain ⟨r124, hr124, hm⟩ := of_bind hm
                  refine RW.callM (cs := []) [.blk u29 81 (#[s75, .int .i64 v76, .int .i64 v77, .int .i64 v78]), .row s75 5 1 v74.length (ec eb v74)] [.blk b123 39 (#[.int .i64 r122.1, .int .i64 r122.2.1, .int .i64 r122.2.2.1]), .row u14 39 3 r13.2.length (ec e3 r13.2), .blk u26.1 67 (cat [(16, (iv a0_0)), p1 (u26.2.1), (512, (iv r25.1)), p1 (.map (some u26.2.2))]), .row u26.2.1 3 1 r25.2.1.length (ec e1 r25.2.1), mpE u26.2.2 r25.2.2, .row s81 3 1 v80.length (ec e1 v80), ro sa1 1 a1.length (ec e1 a1)] [] [5, 6, 0, 1, 2, 3, 4, 7, 8] (fun (_ : Unit) => [.blk u29 81 (#[s75, .int .i64 v76, .int .i64 v77, .int .i64 v78]), .row s75 5 1 v74.length (ec eb v74)]) (fun (_ : Unit) => .int .i64 v78) rfl rfl rfl rfl Try.call24 rfl rfl rfl (fun w hM => lent0) (.inl fun _ => rfl) (fun w S' hM => c_bits_Writer_Count K v74 v76 v77 v78 u29 s75 r124 w S' hM hr124) (fun _ => ?_)
                  refine RW.yi (.int .i64 v78) rfl rfl (Yi.pv _ rfl) ?_
                  refine RW.nil ?_
                  refine EW.next ?_
                  refine CW.seq ?_
                  refine CW.region ?_
                  refine RW.yi (.pointer (some ⟨u26.1, 0, none⟩)) rfl rfl (Yi.pv _ rfl) ?_
                  refine RW.yi (.pointer (some ⟨u29, 0, none⟩)) rfl rfl (Yi.pv _ rfl) ?_
                  refine RW.yi (.int .i64 (a1.getD v82.toNat 0)) rfl rfl (Yi.pv _ rfl) ?_
                  obtain ⟨r127, hr127, hm⟩ := of_bind hm
                  refine RW.callM (cs := []) [.blk u26.1 67 (cat [(16, (iv a0_0)), p1 (u26.2.1), (512, (iv r25.1)), p1 (.map (some u26.2.2))]), .row u26.2.1 3 1 r25.2.1.length (ec e1 r25.2.1), mpE u26.2.2 r25.2.2, .blk u29 81 (#[s75, .int .i64 v76, .int .i64 v77, .int .i64 v78]), .row s75 5 1 v74.length (ec eb v74)] [.blk b123 39 (#[.int .i64 r122.1, .int .i64 r122.2.1, .int .i64 r122.2.2.1]), .row u14 39 3 r13.2.length (ec e3 r13.2), .row s81 3 1 v80.length (ec e1 v80), ro sa1 1 a1.length (ec e1 a1)] [] [4, 5, 6, 0, 1, 2, 3, 7, 8] (fun (u128 : Value) => [.blk u26.1 67 (cat [(16, (iv a0_0)), p1 (u26.2.1), (512, (iv r25.1)), p1 (.map (some u26.2.2))]), .row u26.2.1 3 1 r25.2.1.length (ec e1 r25.2.1), mpE u26.2.2 r25.2.2, .blk u29 81 (#[u128, .int .i64 r127.2.1, .int .i64 r127.2.2.1, .int .i64 r127.2.2.2.1]), .row u128 5 1 r127.2.2.2.2.length (ec eb r127.2.2.2.2)]) (fun (u128 : Value) => .int .i64 r127.1) rfl rfl rfl rfl Try.call23 rfl rfl rfl (fun w hM => lent0) (.inl fun _ => rfl) (fun w S' hM => c_huff_Table_Put_2 K a0_0 r25.2.1 r25.1 r25.2.2 v74 v76 v77 v78 (a1.getD v82.toNat 0) u26.1 u26.2.1 u26.2.2 u29 s75 r127 w S' hM hr127) (fun u128 => ?_)
                  refine RW.yi (.int .i64 r127.1) rfl rfl (Yi.pv _ rfl) ?_
                  refine RW.nil ?_
                  refine EW.next ?_
                  refine CW.join (fun a w => ∃ (v137 : Bool) (v138 : Bool) (v139 : Bool) (v140 : Bool), St 116 [(5, u14), (7, .pointer (some ⟨u26.1, 0, none⟩)), (9, .pointer (some ⟨u29, 0, none⟩)), (10, s81), (12, .int .i64 (a1.getD v82.toNat 0)), (14, .bool r122.2.2.2), (50, sa1), (51, .int .i64 (a1.length : Int)), (52, .int .i64 v82), (73, .bool v137), (74, .bool v138), (75, .bool v139), (84, .bool v140)] a ∧ Mem w0 S [.row u14 39 3 r13.2.length (ec e3 r13.2), .blk u26.1 67 (cat [(16, (iv a0_0)), p1 (u26.2.1), (512, (iv r25.1)), p1 (.map (some u26.2.2))]), .row u26.2.1 3 1 r25.2.1.length (ec e1 r25.2.1), mpE u26.2.2 r25.2.2, .blk u29 81 (#[u128, .int .i64 r127.2.1, .int .i64 r127.2.2.1, .int .i64 r127.2.2.2.1]), .row u128 5 1 r127.2.2.2.2.length (ec eb r127.2.2.2.2), .row s81 3 1 v80.length (ec e1 v80), ro sa1 1 a1.length (ec e1 a1)] w ∧ law05_HuffBack_j4 K (law05_HuffBack_l2 K a0_0 a1 r13 r25 k2) a1 v82 v80 r122 r127 v137 v138 v139 v140 = some r) ?_ ?_
                  · refine CW.seq ?_
                    refine CW.region ?_
                    refine RW.yi (.int .i64 r127.1) rfl rfl (Yi.pv _ rfl) ?_
                    refine RW.yi (.bool (decide (r127.1 = 0))) rfl rfl (Yi.pv _ rfl) ?_
                    refine RW.yi (.bool r122.2.2.2) rfl rfl (Yi.pv _ rfl) ?_
                    refine RW.fork 69 (r127.1 = 0) rfl (fun h146 => ?_) (fun h146 => ?_)
                    · replace hm := (if_pos h146).symm.trans hm
                      refine RW.forkB 70 (r122.2.2.2) rfl (fun h147 => ?_) (fun h147 => ?_)
                      · replace hm := (if_pos h147).symm.trans hm
                        refine RW.yi (.bool false) rfl rfl (Yi.neB (b := true) (c := true) rfl rfl Try.underlying4) ?_
                        refine RW.yi (.bool false) rfl rfl (Yi.pv _ rfl) ?_
                        refine RW.yi (.bool r122.2.2.2) rfl rfl (Yi.pv _ rfl) ?_
                        refine RW.forkB 73 (r122.2.2.2) rfl (fun _ => ?_) (fun h => absurd h147 h)
                        refine RW.yi (.bool false) rfl rfl (Yi.pv _ rfl) ?_
                        refine RW.yi (.bool false) rfl rfl (Yi.pv _ rfl) ?_
                        refine RW.pass rfl rfl ?_
                        refine RW.pass rfl rfl ?_
                        refine RW.pass rfl rfl ?_
                        refine RW.pass rfl rfl ?_
                        refine RW.pass rfl rfl ?_
                        refine RW.pass rfl rfl ?_
                        refine RW.pass rfl rfl ?_
                        refine RW.pass rfl rfl ?_
                        refine RW.yi (.bool false) rfl rfl (Yi.pv _ rfl) ?_
                        refine RW.yi (.bool false) rfl rfl (Yi.pv _ rfl) ?_
                        refine RW.nil ?_
                        refine EW.next ?_
                        refine CW.cond_false rfl ?_
                        refine CW.skip ?_
                        refine EW.thn ?_
                        exact fun a w hs hM => ⟨true, false, false, false, hs.sub ⟨rfl, rfl, rfl, rfl, rfl, rfl, rfl, rfl, rfl, rfl, rfl, rfl, rfl, trivial⟩, (hM.pick [6, 0, 1, 2, 3, 4, 7, 8] rfl rfl), hm⟩
                      · replace hm := (if_neg h147).symm.trans hm
                        refine RW.yi (.bool true) rfl rfl (Yi.neB (b := true) (c := false) rfl rfl Try.underlying4) ?_
                        refine RW.yi (.bool true) rfl rfl (Yi.pv _ rfl) ?_
                        refine RW.pass rfl rfl ?_
                        refine RW.pass rfl rfl ?_
                        refine RW.pass rfl rfl ?_
                        refine RW.pass rfl rfl ?_
                        refine RW.pass rfl rfl ?_
                        refine RW.pass rfl rfl ?_
                        refine RW.pass rfl rfl ?_
                        refine RW.pass rfl rfl ?_
                        refine RW.pass rfl rfl ?_
                        refine RW.pass rfl rfl ?_
                        refine RW.pass rfl rfl ?_
                        refine RW.pass rfl rfl ?_
                        refine RW.yi (.bool true) rfl rfl (Yi.pv _ rfl) ?_
                        refine RW.nil ?_
                        refine EW.next ?_
                        refine CW.cond_true rfl ?_
                        refine CW.seq ?_
                        refine CW.region ?_
                        refine RW.yi (.bool false) rfl rfl (Yi.pv _ rfl) ?_
                        refine RW.nil ?_
                        refine EW.next ?_
                        refine CW.ret ?_
                        refine EW.thr ?_
                        refine EW.blr ?_
                        refine EW.thr ?_
                        refine EW.thr ?_
                        refine EW.blr ?_
                        refine EW.thr ?_
                        obtain rfl := Option.some.inj hm
                        exact EW.done (rs := [.tmp 4]) rfl (.tmp (t := 4) (v := .bool false) rfl .nil) (fun _ hM => ⟨(), rfl, (hM.pick [] rfl rfl)⟩)
                    · replace hm := (if_neg h146).symm.trans hm
                      refine RW.forkB 70 (r122.2.2.2) rfl (fun h148 => ?_) (fun h148 => ?_)
                      · replace hm := (if_pos h148).symm.trans hm
                        refine RW.yi (.bool true) rfl rfl (Yi.neB (b := false) (c := true) rfl rfl Try.underlying4) ?_
                        refine RW.yi (.bool true) rfl rfl (Yi.pv _ rfl) ?_
                        refine RW.pass rfl rfl ?_
                        refine RW.pass rfl rfl ?_
                        refine RW.pass rfl rfl ?_
                        refine RW.pass rfl rfl ?_
                        refine RW.pass rfl rfl ?_
                        refine RW.pass rfl rfl ?_
                        refine RW.pass rfl rfl ?_
                        refine RW.pass rfl rfl ?_
                        refine RW.pass rfl rfl ?_
                        refine RW.pass rfl rfl ?_
                        refine RW.pass rfl rfl ?_
                        refine RW.pass rfl rfl ?_
                        refine RW.yi (.bool true) rfl rfl (Yi.pv _ rfl) ?_
                        refine RW.nil ?_
                        refine EW.next ?_
                        refine CW.cond_true rfl ?_
                        refine CW.seq ?_
                        refine CW.region ?_
                        refine RW.yi (.bool false) rfl rfl (Yi.pv _ rfl) ?_
                        refine RW.nil ?_
                        refine EW.next ?_
                        refine CW.ret ?_
                        refine EW.thr ?_
                        refine EW.blr ?_
                        refine EW.thr ?_
                        refine EW.thr ?_
                        refine EW.blr ?_
                        refine EW.thr ?_
                        obtain rfl := Option.some.inj hm
                        exact EW.done (rs := [.tmp 4]) rfl (.tmp (t := 4) (v := .bool false) rfl .nil) (fun _ hM => ⟨(), rfl, (hM.pick [] rfl rfl)⟩)
                      · replace hm := (if_neg h148).symm.trans hm
                        refine RW.yi (.bool false) rfl rfl (Yi.neB (b := false) (c := false) rfl rfl Try.underlying4) ?_
                        refine RW.yi (.bool false) rfl rfl (Yi.pv _ rfl) ?_
                        refine RW.yi (.bool r122.2.2.2) rfl rfl (Yi.pv _ rfl) ?_
                        refine RW.forkB 73 (r122.2.2.2) rfl (fun h => absurd h h148) (fun _ => ?_)
                        refine RW.yi (.bool true) rfl rfl (Yi.pv _ rfl) ?_
                        refine RW.yi (.bool true) rfl rfl (Yi.pv _ rfl) ?_
                        refine RW.yi (.int .i64 r127.1) rfl rfl (Yi.pv _ rfl) ?_
                        refine RW.yi (.bool (decide (¬ r127.1 = 6))) rfl rfl (Yi.pv _ rfl) ?_
                        refine RW.yi (.bool (decide (¬ r127.1 = 6))) rfl rfl (Yi.pv _ rfl) ?_
                        refine RW.fork 78 (¬ r127.1 = 6) rfl (fun h149 => ?_) (fun h149 => ?_)
                        · replace hm := (if_pos h149).symm.trans hm
                          refine RW.pass rfl rfl ?_
                          refine RW.pass rfl rfl ?_
                          refine RW.pass rfl rfl ?_
                          refine RW.pass rfl rfl ?_
                          refine RW.yi (.bool true) rfl rfl (Yi.pv _ rfl) ?_
                          refine RW.yi (.bool true) rfl rfl (Yi.pv _ rfl) ?_
                          refine RW.yi (.bool true) rfl rfl (Yi.pv _ rfl) ?_
                          refine RW.nil ?_
                          refine EW.next ?_
                          refine CW.cond_true rfl ?_
                          refine CW.seq ?_
                          refine CW.region ?_
                          refine RW.yi (.bool false) rfl rfl (Yi.pv _ rfl) ?_
                          refine RW.nil ?_
                          refine EW.next ?_
                          refine CW.ret ?_
                          refine EW.thr ?_
                          refine EW.blr ?_
                          refine EW.thr ?_
                          refine EW.thr ?_
                          refine EW.blr ?_
                          refine EW.thr ?_
                          obtain rfl := Option.some.inj hm
                          exact EW.done (rs := [.tmp 4]) rfl (.tmp (t := 4) (v := .bool false) rfl .nil) (fun _ hM => ⟨(), rfl, (hM.pick [] rfl rfl)⟩)
                        · replace hm := (if_neg h149).symm.trans hm
                          refine RW.yi (.pointer (some ⟨u29, 0, none⟩)) rfl rfl (Yi.pv _ rfl) ?_
                          obtain ⟨r150, hr150, hm⟩ := of_bind hm
                          refine RW.callM (cs := []) [.blk u29 81 (#[u128, .int .i64 r127.2.1, .int .i64 r127.2.2.1, .int .i64 r127.2.2.2.1]), .row u128 5 1 r127.2.2.2.2.length (ec eb r127.2.2.2.2)] [.blk u26.1 67 (cat [(16, (iv a0_0)), p1 (u26.2.1), (512, (iv r25.1)), p1 (.map (some u26.2.2))]), .row u26.2.1 3 1 r25.2.1.length (ec e1 r25.2.1), mpE u26.2.2 r25.2.2, .blk b123 39 (#[.int .i64 r122.1, .int .i64 r122.2.1, .int .i64 r122.2.2.1]), .row u14 39 3 r13.2.length (ec e3 r13.2), .row s81 3 1 v80.length (ec e1 v80), ro sa1 1 a1.length (ec e1 a1)] [] [3, 4, 0, 1, 2, 5, 6, 7, 8] (fun (_ : Unit) => [.blk u29 81 (#[u128, .int .i64 r127.2.1, .int .i64 r127.2.2.1, .int .i64 r127.2.2.2.1]), .row u128 5 1 r127.2.2.2.2.length (ec eb r127.2.2.2.2)]) (fun (_ : Unit) => .int .i64 r127.2.2.2.1) rfl rfl rfl rfl Try.call24 rfl rfl rfl (fun w hM => lent0) (.inl fun _ => rfl) (fun w S' hM => c_bits_Writer_Count K r127.2.2.2.2 r127.2.1 r127.2.2.1 r127.2.2.2.1 u29 u128 r150 w S' hM hr150) (fun _ => ?_)
                          refine RW.yi (.int .i64 v78) rfl rfl (Yi.pv _ rfl) ?_
                          refine RW.yi (.bool (decide (¬ r127.2.2.2.1 = v78))) rfl rfl (Yi.pv _ rfl) ?_
                          refine RW.yi (.bool (decide (¬ r127.2.2.2.1 = v78))) rfl rfl (Yi.pv _ rfl) ?_
                          refine RW.yi (.bool (decide (¬ r127.2.2.2.1 = v78))) rfl rfl (Yi.pv _ rfl) ?_
                          refine RW.yi (.bool (decide (¬ r127.2.2.2.1 = v78))) rfl rfl (Yi.pv _ rfl) ?_
                          refine RW.nil ?_
                          refine EW.next ?_
                          refine CW.fork 85 (¬ r127.2.2.2.1 = v78) rfl (fun h153 => ?_) (fun h153 => ?_)
                          · replace hm := (if_pos h153).symm.trans hm
                            refine CW.cond_true rfl ?_
                            refine CW.seq ?_
                            refine CW.region ?_
                            refine RW.yi (.bool false) rfl rfl (Yi.pv _ rfl) ?_
                            refine RW.nil ?_
                            refine EW.next ?_
                            refine CW.ret ?_
                            refine EW.thr ?_
                            refine EW.blr ?_
                            refine EW.thr ?_
                            refine EW.thr ?_
                            refine EW.blr ?_
                            refine EW.thr ?_
                            obtain rfl := Option.some.inj hm
                            exact EW.done (rs := [.tmp 4]) rfl (.tmp (t := 4) (v := .bool false) rfl .nil) (fun _ hM => ⟨(), rfl, (hM.pick [] rfl rfl)⟩)
                          · replace hm := (if_neg h153).symm.trans hm
                            refine CW.cond_false rfl ?_
                            refine CW.skip ?_
                            refine EW.thn ?_
                            exact fun a w hs hM => ⟨false, true, true, (decide (¬ r127.2.2.2.1 = v78)), hs.sub ⟨rfl, rfl, rfl, rfl, rfl, rfl, rfl, rfl, rfl, rfl, rfl, rfl, rfl, trivial⟩, (hM.pick [6, 2, 3, 4, 0, 1, 7, 8] rfl rfl), hm⟩
                  · rintro a w ⟨v137, v138, v139, v140, hs, hM, hm⟩
                    unfold law05_HuffBack_j4 at hm
                    refine CW.enter hs hM ?_
                    refine CW.seq ?_
                    refine CW.region ?_
                    refine RW.yi (.bool r122.2.2.2) rfl rfl (Yi.pv _ rfl) ?_
                    refine RW.nil ?_
                    refine EW.next ?_
                    refine CW.forkB 86 (r122.2.2.2) rfl (fun h141 => ?_) (fun h141 => ?_)
                    · replace hm := (if_pos h141).symm.trans hm
                      refine CW.cond_true rfl ?_
                      refine CW.region ?_
                      refine RW.yi (s81) rfl rfl (Yi.pv _ rfl) ?_
                      refine RW.yi (.int .i64 (a1.getD v82.toNat 0)) rfl rfl (Yi.pv _ rfl) ?_
                      refine RW.buildS (e := 3) (sz := 1) (vs := [.int .i64 (a1.getD v82.toNat 0)]) ((ec e1 ([(a1.getD v82.toNat 0)] : List Int)).toArray) rfl rfl rfl rfl rfl (by decide) (fun _ => by kernel_rfl) (fun s142 => ?_)
                      obtain ⟨g144, hm⟩ := of_guard hm
                      refine RW.app (i := 7) (e := 3) (sz := 1) (by_ := 8) (z := .int .i64 0) (m := v80.length) (mx := ([(a1.getD v82.toNat 0)] : List Int).length) (m' := (v80 ++ ([(a1.getD v82.toNat 0)] : List Int)).length) (cs := ec e1 v80) (news := ec e1 ([(a1.getD v82.toNat 0)] : List Int)) (cs' := ec e1 (v80 ++ ([(a1.getD v82.toNat 0)] : List Int))) rfl rfl Try.underlying23 (by kernel_rfl) rfl (by decide) (by decide) rfl rfl rfl (rdW 0 rfl) (ec_one e1_is _) (by omega) (ec_append _ _ _) (by simp only [List.length_append]) (fun s145 => ?_)
                      refine RW.yi (s145) rfl rfl (Yi.pv _ rfl) ?_
                      refine RW.nil ?_
                      refine EW.bln ?_
                      refine EW.thn ?_
                      exact fun a w hs hM => ⟨r127.2.2.2.2, r127.2.1, r127.2.2.1, r127.2.2.2.1, (v80 ++ ([(a1.getD v82.toNat 0)] : List Int)), v137, v138, v139, v140, u128, s145, hs.sub ⟨rfl, rfl, rfl, rfl, rfl, rfl, rfl, rfl, rfl, rfl, rfl, trivial⟩, (hM.pick [1, 2, 3, 4, 5, 6, 7, 8] rfl rfl), hm⟩
                    · replace hm := (if_neg h141).symm.trans hm
                      refine CW.cond_false rfl ?_
                      refine CW.skip ?_
                      refine EW.bln ?_
                      refine EW.thn ?_
                      exact fun a w hs hM => ⟨r127.2.2.2.2, r127.2.1, r127.2.2.1, r127.2.2.2.1, v80, v137, v138, v139, v140, u128, s81, hs.sub ⟨rfl, rfl, rfl, rfl, rfl, rfl, rfl, rfl, rfl, rfl, rfl, trivial⟩, (hM.pick [0, 1, 2, 3, 4, 5, 6, 7] rfl rfl), hm⟩
                · rintro a w ⟨v110, v112, v113, v114, v115, v117, v118, v119, v120, s111, s116, hs, hM, hm⟩
                  unfold law05_HuffBack_j3 at hm
                  refine CW.enter hs hM ?_
                  refine CW.region ?_
                  refine RW.yi (.int .i64 (w64 (v82 + 1))) rfl rfl (Yi.pv _ rfl) ?_
                  refine RW.yi (.int .i64 (w64 (v82 + 1))) rfl rfl (Yi.pv _ rfl) ?_
                  refine RW.nil ?_
                  refine EW.thn ?_
                  exact fun a w hs hM => ⟨v110, v112, v113, v114, v115, (w64 (v82 + 1)), s111, s116, hs.sub ⟨rfl, rfl, rfl, rfl, rfl, rfl, rfl, trivial⟩, (hM.pick [0, 1, 2, 3, 4, 5, 6, 7] rfl rfl), hm⟩
              · replace hm := (if_neg h94).symm.trans hm
                refine CW.cond_false rfl ?_
                refine CW.exit ?_
                refine EW.thx ?_
                refine EW.thx ?_
                refine EW.blx ?_
                refine EW.thn ?_
                exact fun a w hs hM => ⟨v74, v76, v77, v78, v80, s75, s81, hs.sub ⟨rfl, rfl, rfl, trivial⟩, (hM.pick [1, 2, 3, 4, 5, 6] rfl rfl), hm⟩
          · rintro a w ⟨v32, v34, v35, v36, v38, s33, s39, hs, hM, hm⟩
            unfold law05_HuffBack_j2 at hm
            refine CW.enter hs hM ?_
            refine CW.seq ?_
            refine CW.region ?_
            refine RW.yi (.pointer (some ⟨u29, 0, none⟩)) rfl rfl (Yi.pv _ rfl) ?_
            obtain ⟨r40, hr40, hm⟩ := of_bind hm
            refine RW.callM (cs := []) [.blk u29 81 (#[s33, .int .i64 v34, .int .i64 v35, .int .i64 v36]), .row s33 5 1 v32.length (ec eb v32)] [.blk u26.1 67 (cat [(16, (iv a0_0)), p1 (u26.2.1), (512, (iv r25.1)), p1 (.map (some u26.2.2))]), .row u26.2.1 3 1 r25.2.1.length (ec e1 r25.2.1), mpE u26.2.2 r25.2.2, .row s39 3 1 v38.length (ec e1 v38)] [] [3, 4, 0, 1, 2, 5] (fun (u41 : Value) => [.row u41 5 1 r40.length (ec eb r40), .blk u29 81 (#[s33, .int .i64 v34, .int .i64 v35, .int .i64 v36]), .row s33 5 1 v32.length (ec eb v32)]) (fun (u41 : Value) => u41) rfl rfl rfl rfl Try.call25 rfl rfl rfl (fun w hM => lent0) (.inl fun _ => rfl) (fun w S' hM => c_bits_Writer_Bytes K v32 v34 v35 v36 u29 s33 r40 w S' hM hr40) (fun u41 => ?_)
            obtain ⟨r44, hr44, hm⟩ := of_bind hm
            refine RW.callM (cs := []) [] [.row u41 5 1 r40.length (ec eb r40), .blk u29 81 (#[s33, .int .i64 v34, .int .i64 v35, .int .i64 v36]), .row s33 5 1 v32.length (ec eb v32), .blk u26.1 67 (cat [(16, (iv a0_0)), p1 (u26.2.1), (512, (iv r25.1)), p1 (.map (some u26.2.2))]), .row u26.2.1 3 1 r25.2.1.length (ec e1 r25.2.1), mpE u26.2.2 r25.2.2, .row s39 3 1 v38.length (ec e1 v38)] [ro u41 1 r40.length (ec eb r40)] [0, 1, 2, 3, 4, 5, 6] (fun (u45 : Nat × Value) => [.blk u45.1 74 (#[.int .i64 0, .int .i64 0, .int .i64 0, u45.2]), .row u45.2 5 1 (([] : List Int) ++ r40).length (ec eb (([] : List Int) ++ r40))]) (fun (u45 : Nat × Value) => .pointer (some ⟨u45.1, 0, none⟩)) rfl rfl rfl rfl Try.call18 rfl rfl rfl (fun w hM => lentW (A := []) hM 0 rfl (lent0)) (.inl fun _ => rfl) (fun w S' hM => c_bits_NewReader K r40 u41 r44 w S' hM hr44) (fun u45 => ?_)
            refine RW.yi (.pointer (some ⟨u45.1, 0, none⟩)) rfl rfl (Yi.pv _ rfl) ?_
            refine RW.nil ?_
            refine EW.next ?_
            refine CW.join (fun a w => St 116 [] a ∧ Mem w0 S [] w ∧ law05_HuffBack_j1 K = some r) ?_ ?_
            · refine CW.seq ?_
              refine CW.region ?_
              refine RW.yi (s39) rfl rfl (Yi.pv _ rfl) ?_
              refine RW.yi (.int .i64 (v38.length : Int)) rfl rfl (Yi.lenS (cs := ec e1 v38) (m := v38.length) Try.underlying23 rfl (rdW 8 rfl)) ?_
              refine RW.yi (.int .i64 0) rfl rfl (Yi.pv _ rfl) ?_
              refine RW.nil ?_
              refine EW.next ?_
              refine CW.block ?_
              refine CW.loop (fun k a w => ∃ (v51 : Int) (v52 : Int) (v53 : Int) (v55 : Int), St 116 [(7, .pointer (some ⟨u26.1, 0, none⟩)), (17, .pointer (some ⟨u45.1, 0, none⟩)), (95, s39), (96, .int .i64 (v38.length : Int)), (97, .int .i64 v55)] a ∧ Mem w0 S [.blk u26.1 67 (cat [(16, (iv a0_0)), p1 (u26.2.1), (512, (iv r25.1)), p1 (.map (some u26.2.2))]), .row u26.2.1 3 1 r25.2.1.length (ec e1 r25.2.1), mpE u26.2.2 r25.2.2, .blk u45.1 74 (#[.int .i64 v51, .int .i64 v52, .int .i64 v53, u45.2]), .row u45.2 5 1 (([] : List Int) ++ r40).length (ec eb (([] : List Int) ++ r40)), .row s39 3 1 v38.length (ec e1 v38)] w ∧ law05_HuffBack_l1 K a0_0 r40 v38 r25 k v51 v52 v53 v55 = some r) K ?_ ?_ ?_
              · rintro a w ⟨_, _, _, _, _, _, hm⟩
                rw [law05_HuffBack_l1.eq_1] at hm
                cases hm
              · exact fun a w hs hM => ⟨0, 0, 0, 0, hs.sub ⟨rfl, rfl, rfl, rfl, rfl, trivial⟩, (hM.pick [5, 6, 7, 0, 1, 8] rfl rfl), hm⟩
              · rintro k1 a w ⟨v51, v52, v53, v55, hs, hM, hm⟩
                rw [law05_HuffBack_l1.eq_2] at hm
                refine CW.enter hs hM ?_
                refine CW.seq ?_
                refine CW.region ?_
                refine RW.yi (.bool (decide (v55 < (v38.length : Int)))) rfl rfl (Yi.pv _ rfl) ?_
                refine RW.nil ?_
                refine EW.next ?_
                refine CW.seq ?_
                refine CW.fork 98 (v55 < (v38.length : Int)) rfl (fun h62 => ?_) (fun h62 => ?_)
                · replace hm := (if_pos h62).symm.trans hm
                  refine CW.cond_true rfl ?_
                  refine CW.skip ?_
                  refine EW.next ?_
                  refine CW.seq ?_
                  refine CW.block ?_
                  refine CW.seq ?_
                  refine CW.region ?_
                  obtain ⟨g63, hm⟩ := of_guard hm
                  refine RW.yi (.pointer (some (eaddr s39 1 v55.toNat 0))) rfl rfl (Yi.idxS (m := v38.length) Try.underlying23 Try.sizeOf3 rfl rfl (rdW 5 rfl) g63.1 g63.2) ?_
                  refine RW.yi (.int .i64 (v38.getD v55.toNat 0)) rfl rfl (Yi.loadS (m := v38.length) (cs := ec e1 v38) _ rfl (rdW 5 rfl) Try.isAgg3 (by omega) (by omega) (by rw [ec_get (d := 0) e1_is (by omega) (by decide)]; rfl)) ?_
                  refine RW.yi (.int .i64 (v38.getD v55.toNat 0)) rfl rfl (Yi.pv _ rfl) ?_
                  refine RW.nil ?_
                  refine EW.next ?_
                  refine CW.seq ?_
                  refine CW.region ?_
                  refine RW.yi (.pointer (some ⟨u26.1, 0, none⟩)) rfl rfl (Yi.pv _ rfl) ?_
                  refine RW.yi (.pointer (some ⟨u45.1, 0, none⟩)) rfl rfl (Yi.pv _ rfl) ?_
                  obtain ⟨r64, hr64, hm⟩ := of_bind hm
                  refine RW.callM (cs := []) [.blk u26.1 67 (cat [(16, (iv a0_0)), p1 (u26.2.1), (512, (iv r25.1)), p1 (.map (some u26.2.2))]), .row u26.2.1 3 1 r25.2.1.length (ec e1 r25.2.1), mpE u26.2.2 r25.2.2, .blk u45.1 74 (#[.int .i64 v51, .int .i64 v52, .int .i64 v53, u45.2]), .row u45.2 5 1 (([] : List Int) ++ r40).length (ec eb (([] : List Int) ++ r40))] [.row s39 3 1 v38.length (ec e1 v38)] [] [0, 1, 2, 3, 4, 5] (fun (_ : Unit) => [.blk u26.1 67 (cat [(16, (iv a0_0)), p1 (u26.2.1), (512, (iv r25.1)), p1 (.map (some u26.2.2))]), .row u26.2.1 3 1 r25.2.1.length (ec e1 r25.2.1), mpE u26.2.2 r25.2.2, .blk u45.1 74 (#[.int .i64 r64.2.2.1, .int .i64 r64.2.2.2.1, .int .i64 r64.2.2.2.2, u45.2]), .row u45.2 5 1 (([] : List Int) ++ r40).length (ec eb (([] : List Int) ++ r40))]) (fun (_ : Unit) => .tuple #[.int .i64 r64.1, .int .i64 r64.2.1]) rfl rfl rfl rfl Try.call19 rfl rfl rfl (fun w hM => lent0) (.inl fun _ => rfl) (fun w S' hM => c_huff_Table_Get K a0_0 r25.2.1 r25.1 r25.2.2 v51 v52 v53 (([] : List Int) ++ r40) u26.1 u26.2.1 u26.2.2 u45.1 u45.2 r64 w S' hM hr64) (fun _ => ?_)
                  refine RW.yi (.tuple #[.int .i64 r64.1, .int .i64 r64.2.1]) rfl rfl (Yi.pv _ rfl) ?_
                  refine RW.yi (.int .i64 r64.1) rfl rfl (Yi.pv _ rfl) ?_
                  refine RW.yi (.int .i64 r64.2.1) rfl rfl (Yi.pv _ rfl) ?_
                  refine RW.yi (.int .i64 r64.1) rfl rfl (Yi.pv _ rfl) ?_
                  refine RW.yi (.int .i64 r64.2.1) rfl rfl (Yi.pv _ rfl) ?_
                  refine RW.nil ?_
                  refine EW.next ?_
                  refine CW.seq ?_
                  refine CW.region ?_
                  refine RW.yi (.int .i64 r64.1) rfl rfl (Yi.pv _ rfl) ?_
                  refine RW.yi (.int .i64 (v38.getD v55.toNat 0)) rfl rfl (Yi.pv _ rfl) ?_
                  refine RW.yi (.bool (decide (¬ r64.1 = (v38.getD v55.toNat 0)))) rfl rfl (Yi.pv _ rfl) ?_
                  refine RW.yi (.bool (decide (¬ r64.1 = (v38.getD v55.toNat 0)))) rfl rfl (Yi.pv _ rfl) ?_
                  refine RW.fork 110 (¬ r64.1 = (v38.getD v55.toNat 0)) rfl (fun h68 => ?_) (fun h68 => ?_)
                  · replace hm := (if_pos h68).symm.trans hm
                    refine RW.pass rfl rfl ?_
                    refine RW.pass rfl rfl ?_
                    refine RW.yi (.bool true) rfl rfl (Yi.pv _ rfl) ?_
                    refine RW.nil ?_
                    refine EW.next ?_
                    refine CW.cond_true rfl ?_
                    refine CW.seq ?_
                    refine CW.region ?_
                    refine RW.yi (.bool false) rfl rfl (Yi.pv _ rfl) ?_
                    refine RW.nil ?_
                    refine EW.next ?_
                    refine CW.ret ?_
                    refine EW.blr ?_
                    refine EW.thr ?_
                    refine EW.thr ?_
                    refine EW.blr ?_
                    refine EW.thr ?_
                    obtain rfl := Option.some.inj hm
                    exact EW.done (rs := [.tmp 4]) rfl (.tmp (t := 4) (v := .bool false) rfl .nil) (fun _ hM => ⟨(), rfl, (hM.pick [] rfl rfl)⟩)
                  · replace hm := (if_neg h68).symm.trans hm
                    refine RW.yi (.int .i64 r64.2.1) rfl rfl (Yi.pv _ rfl) ?_
                    refine RW.yi (.bool (decide (¬ r64.2.1 = 0))) rfl rfl (Yi.pv _ rfl) ?_
                    refine RW.yi (.bool (decide (¬ r64.2.1 = 0))) rfl rfl (Yi.pv _ rfl) ?_
                    refine RW.nil ?_
                    refine EW.next ?_
                    refine CW.fork 113 (¬ r64.2.1 = 0) rfl (fun h69 => ?_) (fun h69 => ?_)
                    · replace hm := (if_pos h69).symm.trans hm
                      refine CW.cond_true rfl ?_
                      refine CW.seq ?_
                      refine CW.region ?_
                      refine RW.yi (.bool false) rfl rfl (Yi.pv _ rfl) ?_
                      refine RW.nil ?_
                      refine EW.next ?_
                      refine CW.ret ?_
                      refine EW.blr ?_
                      refine EW.thr ?_
                      refine EW.thr ?_
                      refine EW.blr ?_
                      refine EW.thr ?_
                      obtain rfl := Option.some.inj hm
                      exact EW.done (rs := [.tmp 4]) rfl (.tmp (t := 4) (v := .bool false) rfl .nil) (fun _ hM => ⟨(), rfl, (hM.pick [] rfl rfl)⟩)
                    · replace hm := (if_neg h69).symm.trans hm
                      refine CW.cond_false rfl ?_
                      refine CW.skip ?_
                      refine EW.bln ?_
                      refine EW.next ?_
                      refine CW.region ?_
                      refine RW.yi (.int .i64 (w64 (v55 + 1))) rfl rfl (Yi.pv _ rfl) ?_
                      refine RW.yi (.int .i64 (w64 (v55 + 1))) rfl rfl (Yi.pv _ rfl) ?_
                      refine RW.nil ?_
                      refine EW.thn ?_
                      exact fun a w hs hM => ⟨r64.2.2.1, r64.2.2.2.1, r64.2.2.2.2, (w64 (v55 + 1)), hs.sub ⟨rfl, rfl, rfl, rfl, rfl, trivial⟩, (hM.pick [0, 1, 2, 3, 4, 5] rfl rfl), hm⟩
                · replace hm := (if_neg h62).symm.trans hm
                  refine CW.cond_false rfl ?_
                  refine CW.exit ?_
                  refine EW.thx ?_
                  refine EW.thx ?_
                  refine EW.blx ?_
                  refine EW.thn ?_
                  exact fun a w hs hM => ⟨hs.sub trivial, (hM.pick [] rfl rfl), hm⟩
            · rintro a w ⟨hs, hM, hm⟩
              unfold law05_HuffBack_j1 at hm
              refine CW.enter hs hM ?_
              refine CW.seq ?_
              refine CW.region ?_
              obtain ⟨r47, hr47, hm⟩ := of_bind hm
              refine RW.ca (.bool r47) rfl rfl (Ca.call (cs := []) [] rfl rfl Try.call10 (fun w hM => lent0) (fun w S' hM => (c_law05_awake K  r47 w S' hM hr47).mono (fun _ _ h => by obtain ⟨_, h1, h2⟩ := h; exact ⟨h1, h2⟩))) ?_
              refine RW.yi (.bool r47) rfl rfl (Yi.pv _ rfl) ?_
              refine RW.nil ?_
              refine EW.next ?_
              refine CW.ret ?_
              obtain rfl := Option.some.inj hm
              exact EW.done (rs := [.tmp 4]) rfl (.tmp (t := 4) (v := .bool r47) rfl .nil) (fun _ hM => ⟨(), rfl, (hM.pick [] rfl rfl)⟩)
        · dsimp only at hm
          refine RW.callM (cs := []) [] [.row u22 3 1 (([] : List Int) ++ a0_1).length (ec e1 (([] : List Int) ++ a0_1)), .row u14 39 3 r13.2.length (ec e3 r13.2), .blk b12 25 (cat [(16, (iv a0_0)), p1 (sa0_1)]), ro sa0_1 1 a0_1.length (ec e1 a0_1), ro sa1 1 a1.length (ec e1 a1)] [ro u22 1 (([] : List Int) ++ a0_1).length (ec e1 (([] : List Int) ++ a0_1))] [0, 1, 2, 3, 4] (fun (_ : Unit) => []) (fun (_ : Unit) => .tuple #[.pointer none, .int .i64 4]) rfl rfl rfl rfl Try.call11 rfl rfl rfl (fun w hM => lentW (A := []) hM 0 rfl (lent0)) (.inl fun _ => rfl) (fun w S' hM => c_huff_New K a0_0 (([] : List Int) ++ a0_1) u22 (.inr r154) w S' hM hr24) (fun _ => ?_)
          refine RW.yi (.tuple #[.pointer none, .int .i64 4]) rfl rfl (Yi.pv _ rfl) ?_
          refine RW.yi (.pointer none) rfl rfl (Yi.pv _ rfl) ?_
          refine RW.yi (.int .i64 4) rfl rfl (Yi.pv _ rfl) ?_
          refine RW.yi (.pointer none) rfl rfl (Yi.pv _ rfl) ?_
          refine RW.yi (.int .i64 4) rfl rfl (Yi.pv _ rfl) ?_
          refine RW.nil ?_
          refine EW.next ?_
          refine CW.seq ?_
          refine CW.seq ?_
          refine CW.region ?_
          refine RW.yi (.int .i64 4) rfl rfl (Yi.pv _ rfl) ?_
          refine RW.yi (.bool true) rfl rfl (Yi.pv _ rfl) ?_
          refine RW.nil ?_
          refine EW.next ?_
          refine CW.cond_true rfl ?_
          refine CW.seq ?_
          refine CW.region ?_
          refine RW.yi (.bool false) rfl rfl (Yi.pv _ rfl) ?_
          refine RW.nil ?_
          refine EW.next ?_
          refine CW.ret ?_
          refine EW.thr ?_
          obtain rfl := Option.some.inj hm
          exact EW.done (rs := [.tmp 4]) rfl (.tmp (t := 4) (v := .bool false) rfl .nil) (fun _ hM => ⟨(), rfl, (hM.pick [] rfl rfl)⟩)
      · replace hm := (if_neg h20).symm.trans hm
        refine RW.yi (.bool true) rfl rfl (Yi.pv _ rfl) ?_
        refine RW.yi (.bool true) rfl rfl (Yi.pv _ rfl) ?_
        refine RW.nil ?_
        refine EW.next ?_
        refine CW.cond_true rfl ?_
        refine CW.seq ?_
        refine CW.region ?_
        obtain ⟨r156, hr156, hm⟩ := of_bind hm
        refine RW.ca (.bool r156) rfl rfl (Ca.call (cs := []) [] rfl rfl Try.call10 (fun w hM => lent0) (fun w S' hM => (c_law05_awake K  r156 w S' hM hr156).mono (fun _ _ h => by obtain ⟨_, h1, h2⟩ := h; exact ⟨h1, h2⟩))) ?_
        refine RW.yi (.bool r156) rfl rfl (Yi.pv _ rfl) ?_
        refine RW.nil ?_
        refine EW.next ?_
        refine CW.ret ?_
        refine EW.thr ?_
        obtain rfl := Option.some.inj hm
        exact EW.done (rs := [.tmp 4]) rfl (.tmp (t := 4) (v := .bool r156) rfl .nil) (fun _ hM => ⟨(), rfl, (hM.pick [] rfl rfl)⟩)

end Go.Proofs.Ytoepbakbpimkiaa
