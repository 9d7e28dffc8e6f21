import Derived.Test.YtoepbakbpimkiaaN8
import Derived.Test.YtoepbakbpimkiaaProg
import Derived.Test.YtoepbakbpimkiaaGhuffNew
import Derived.Test.YtoepbakbpimkiaaGhuffRight
import Derived.Test.YtoepbakbpimkiaaGhuffTableCode
import Derived.Test.YtoepbakbpimkiaaGhuffTableCode2
import Derived.Test.YtoepbakbpimkiaaGhuffTableSpec
import Derived.Test.YtoepbakbpimkiaaGhuffTableSpec2
import Derived.Test.YtoepbakbpimkiaaGlaw05awake
import Derived.Test.YtoepbakbpimkiaaGlaw05own
import Derived.Test.YtoepbakbpimkiaaGref05Codes
import Derived.Test.YtoepbakbpimkiaaGref05Find
set_option maxRecDepth 100000
set_option maxHeartbeats 1000000
namespace Go.Proofs.Ytoepbakbpimkiaa
open Go Go.RowKit K

def law05_HuffCodes_j1 (K : Nat) (a0_0 : (Nat → Int)) (a0_1 : (List Int)) (r34 : ((Nat → Int) × (List Int) × (List MEnt))) (r37 : (Bool × (List (Int × Int × Int)))) : Option (Bool) :=
  (if 0 < (a0_1.length : Int) then ((huff_Table_Code K a0_0 r34.2.1 r34.1 r34.2.2 (a0_1.getD 0 0)).bind fun r49 => (if 0 < (r37.2.length : Int) then (if r49.1 = (r37.2.getD 0 (0, 0, 0)).2.1 then (if r49.2.1 = (r37.2.getD 0 (0, 0, 0)).2.2 then ((law05_awake K ).bind fun r55 => some r55) else some false) else some false) else none)) else none)

def law05_HuffCodes_l1 (K : Nat) (a0_0 : (Nat → Int)) (a0_1 : (List Int)) (r41 : ((List Int))) (r34 : ((Nat → Int) × (List Int) × (List MEnt))) (r37 : (Bool × (List (Int × Int × Int)))) : Nat → (List Int) → Int →  Option (Bool)
  | 0, _, _ => none
  | k1 + 1, v58, v59 =>
    (if v59 < (r41.length : Int) then (if 0 ≤ v59 ∧ v59 < (v58.length : Int) then (if 0 ≤ v59 ∧ v59 < (a0_1.length : Int) then (if ¬ (v58.getD v59.toNat 0) = (a0_1.getD v59.toNat 0) then some false else (law05_HuffCodes_l1 K a0_0 a0_1 r41 r34 r37 k1) (v58.set v59.toNat (w64 ((v58.getD v59.toNat 0) + 1))) (w64 (v59 + 1))) else none) else none) else law05_HuffCodes_j1 K a0_0 a0_1 r34 r37)

def law05_HuffCodes_j2 (K : Nat) (a0_0 : (Nat → Int)) (a0_1 : (List Int)) (r34 : ((Nat → Int) × (List Int) × (List MEnt))) (r37 : (Bool × (List (Int × Int × Int)))) : Option (Bool) :=
  ((huff_Table_Spec K a0_0 r34.2.1 r34.1 r34.2.2).bind fun r41 => (if ¬ (r41.length : Int) = (a0_1.length : Int) then some false else (if ¬ eqF 16 a0_0 a0_0 then some false else law05_HuffCodes_l1 K a0_0 a0_1 r41 r34 r37 K r41 0)))

def law05_HuffCodes_j3 (_ : Nat) (cb_law05_HuffCodes_l2 : Int → Option (Bool)) (v67 : Int) (v82 : Int) (v84 : Int) (v85 : Int) (v86 : Int) (v87 : Int) (v88 : Bool) (v89 : Bool) (v90 : Bool) : Option (Bool) :=
  cb_law05_HuffCodes_l2 (w64 (v67 + 1))

def law05_HuffCodes_j4 (K : Nat) (cb_law05_HuffCodes_l2 : Int → Option (Bool)) (a0_0 : (Nat → Int)) (v67 : Int) (r34 : ((Nat → Int) × (List Int) × (List MEnt))) (r37 : (Bool × (List (Int × Int × Int)))) (v92 : Int) : Option (Bool) :=
  ((huff_Table_Code K a0_0 r34.2.1 r34.1 r34.2.2 v92).bind fun r93 => ((ref05_Find K r37.2 v92).bind fun r96 => (if ¬ r93.1 = r96.2.1 then some false else (if ¬ r93.2.1 = r96.2.2.1 then some false else (if r93.2.2 = true then (if r96.2.2.2 = true then law05_HuffCodes_j3 K cb_law05_HuffCodes_l2 v67 r93.2.1 r96.1 r96.2.1 r96.2.2.1 r96.2.2.1 (decide (¬ r93.2.1 = r96.2.2.1)) true true else some false) else (if r96.2.2.2 = true then some false else law05_HuffCodes_j3 K cb_law05_HuffCodes_l2 v67 r93.2.1 r96.1 r96.2.1 r96.2.2.1 r96.2.2.1 (decide (¬ r93.2.1 = r96.2.2.1)) false false))))))

def law05_HuffCodes_l2 (K : Nat) (a0_0 : (Nat → Int)) (a0_1 : (List Int)) (a1 : Int) (r34 : ((Nat → Int) × (List Int) × (List MEnt))) (r37 : (Bool × (List (Int × Int × Int)))) : Nat → Int →  Option (Bool)
  | 0, _ => none
  | k2 + 1, v67 =>
    (if v67 < 259 then (if v67 = 0 then law05_HuffCodes_j4 K (law05_HuffCodes_l2 K a0_0 a0_1 a1 r34 r37 k2) a0_0 v67 r34 r37 a1 else law05_HuffCodes_j4 K (law05_HuffCodes_l2 K a0_0 a0_1 a1 r34 r37 k2) a0_0 v67 r34 r37 (w64 (v67 - 2))) else law05_HuffCodes_j2 K a0_0 a0_1 r34 r37)

def law05_HuffCodes_j5 (K : Nat) (a0_0 : (Nat → Int)) (a0_1 : (List Int)) (a1 : Int) (r34 : ((Nat → Int) × (List Int) × (List MEnt))) (r37 : (Bool × (List (Int × Int × Int)))) : Option (Bool) :=
  (if r37.1 = true then law05_HuffCodes_l2 K a0_0 a0_1 a1 r34 r37 K 0 else some false)

def law05_HuffCodes_j6 (K : Nat) (a0_0 : (Nat → Int)) (a0_1 : (List Int)) (a1 : Int) (r34 : ((Nat → Int) × (List Int) × (List MEnt))) (r37 : (Bool × (List (Int × Int × Int)))) : Option (Bool) :=
  ((huff_Right K a0_0 a0_1).bind fun r104 => (if r104 = true then (if r37.1 = true then law05_HuffCodes_j5 K a0_0 a0_1 a1 r34 r37 else some false) else (if r37.1 = true then some false else law05_HuffCodes_j5 K a0_0 a0_1 a1 r34 r37)))

def law05_HuffCodes_l3 (K : Nat) (a0_0 : (Nat → Int)) (a0_1 : (List Int)) (a1 : Int) (r34 : ((Nat → Int) × (List Int) × (List MEnt))) (r37 : (Bool × (List (Int × Int × Int)))) : Nat → (List Int) → Int →  Option (Bool)
  | 0, _, _ => none
  | k3 + 1, v110, v111 =>
    (if v111 < ((([] : List Int) ++ a0_1).length : Int) then (if 0 ≤ v111 ∧ v111 < (v110.length : Int) then (law05_HuffCodes_l3 K a0_0 a0_1 a1 r34 r37 k3) (v110.set v111.toNat (w64 ((v110.getD v111.toNat 0) + 1))) (w64 (v111 + 1)) else none) else law05_HuffCodes_j6 K a0_0 a0_1 a1 r34 r37)

def law05_HuffCodes_j7 (K : Nat) (a0_1 : (List Int)) (r118 : (Bool × (List (Int × Int × Int)))) : Option (Bool) :=
  (if 0 < (a0_1.length : Int) then ((huff_Table_Code_2 K (a0_1.getD 0 0)).bind fun r127 => (if 0 < (r118.2.length : Int) then (if 0 = (r118.2.getD 0 (0, 0, 0)).2.1 then (if 0 = (r118.2.getD 0 (0, 0, 0)).2.2 then some false else some false) else some false) else none)) else none)

def law05_HuffCodes_l4 (K : Nat) (a0_1 : (List Int)) (r118 : (Bool × (List (Int × Int × Int)))) : Nat → Int →  Option (Bool)
  | 0, _ => none
  | k4 + 1, v132 =>
    (if v132 < 0 then none else law05_HuffCodes_j7 K a0_1 r118)

def law05_HuffCodes_j8 (K : Nat) (a0_0 : (Nat → Int)) (a0_1 : (List Int)) (r118 : (Bool × (List (Int × Int × Int)))) : Option (Bool) :=
  ((huff_Table_Spec_2 K ).bind fun r122 => (if ¬ 0 = (a0_1.length : Int) then some false else (if ¬ eqF 16 zf a0_0 then some false else law05_HuffCodes_l4 K a0_1 r118 K 0)))

def law05_HuffCodes_j9 (K : Nat) (cb_law05_HuffCodes_l5 : Int → Option (Bool)) (r118 : (Bool × (List (Int × Int × Int)))) (v136 : Int) (v140 : Int) : Option (Bool) :=
  ((huff_Table_Code_2 K v140).bind fun r141 => ((ref05_Find K r118.2 v140).bind fun r142 => (if ¬ 0 = r142.2.1 then some false else (if ¬ 0 = r142.2.2.1 then some false else (if r142.2.2.2 = true then some false else cb_law05_HuffCodes_l5 (w64 (v136 + 1)))))))

def law05_HuffCodes_l5 (K : Nat) (a0_0 : (Nat → Int)) (a0_1 : (List Int)) (a1 : Int) (r118 : (Bool × (List (Int × Int × Int)))) : Nat → Int →  Option (Bool)
  | 0, _ => none
  | k5 + 1, v136 =>
    (if v136 < 259 then (if v136 = 0 then law05_HuffCodes_j9 K (law05_HuffCodes_l5 K a0_0 a0_1 a1 r118 k5) r118 v136 a1 else law05_HuffCodes_j9 K (law05_HuffCodes_l5 K a0_0 a0_1 a1 r118 k5) r118 v136 (w64 (v136 - 2))) else law05_HuffCodes_j8 K a0_0 a0_1 r118)

def law05_HuffCodes_j10 (K : Nat) (a0_0 : (Nat → Int)) (a0_1 : (List Int)) (a1 : Int) (r118 : (Bool × (List (Int × Int × Int)))) : Option (Bool) :=
  (if r118.1 = true then law05_HuffCodes_l5 K a0_0 a0_1 a1 r118 K 0 else ((law05_awake K ).bind fun r148 => some r148))

def law05_HuffCodes_j11 (K : Nat) (a0_0 : (Nat → Int)) (a0_1 : (List Int)) (a1 : Int) (r118 : (Bool × (List (Int × Int × Int)))) : Option (Bool) :=
  ((huff_Right K a0_0 a0_1).bind fun r149 => (if r149 = true then (if r118.1 = true then law05_HuffCodes_j10 K a0_0 a0_1 a1 r118 else some false) else (if r118.1 = true then some false else law05_HuffCodes_j10 K a0_0 a0_1 a1 r118)))

def law05_HuffCodes_l6 (K : Nat) (a0_0 : (Nat → Int)) (a0_1 : (List Int)) (a1 : Int) (r118 : (Bool × (List (Int × Int × Int)))) : Nat → (List Int) → Int →  Option (Bool)
  | 0, _, _ => none
  | k6 + 1, v155, v156 =>
    (if v156 < ((([] : List Int) ++ a0_1).length : Int) then (if 0 ≤ v156 ∧ v156 < (v155.length : Int) then (law05_HuffCodes_l6 K a0_0 a0_1 a1 r118 k6) (v155.set v156.toNat (w64 ((v155.getD v156.toNat 0) + 1))) (w64 (v156 + 1)) else none) else law05_HuffCodes_j11 K a0_0 a0_1 a1 r118)

def law05_HuffCodes (K : Nat) (a0_0 : (Nat → Int)) (a0_1 : (List Int)) (a1 : Int) : Option (Bool) :=
  (if 300 < (a0_1.length : Int) then ((law05_awake K ).bind fun r28 => some r28) else ((law05_own K a0_0 a0_1).bind fun r29 => ((huff_New K a0_0 (([] : List Int) ++ a0_1)).bind fun r33 => match r33 with | .inl r34 => ((ref05_Codes K a0_0 a0_1).bind fun r37 => law05_HuffCodes_l3 K a0_0 a0_1 a1 r34 r37 K (([] : List Int) ++ a0_1) 0) | .inr r116 => ((ref05_Codes K a0_0 a0_1).bind fun r118 => law05_HuffCodes_l6 K a0_0 a0_1 a1 r118 K (([] : List Int) ++ a0_1) 0))))

theorem c_law05_HuffCodes (K : Nat) (a0_0 : (Nat → Int)) (a0_1 : (List Int)) (a1 : Int) (sa0_1 : Value) (r : Bool) (w0 : World) (S : Own) (hM0 : Mem w0 S [ro sa0_1 1 a0_1.length (ec e1 a0_1)] w0) (hm : law05_HuffCodes K a0_0 a0_1 a1 = some r) : Calls Try.prog 5 #[.agg (cat [(16, (iv a0_0)), p1 (sa0_1)]), .int .i64 a1] w0 fun e w' => ∃ _u : Unit, e = .returned (.bool r) ∧ Mem w0 S [] w' := by
  unfold law05_HuffCodes at hm
  refine calls_CW (n := 178) w0 S [ro sa0_1 1 a0_1.length (ec e1 a0_1)] Try.func5 rfl rfl rfl hM0 ?_
  refine CW.seq ?_
  refine CW.region ?_
  refine RW.box (v := .agg (cat [(16, (iv a0_0)), p1 (sa0_1)])) rfl rfl rfl (fun b26 => ?_)
  refine RW.yi (.bool false) rfl rfl (Yi.pv _ rfl) ?_
  refine RW.nil ?_
  refine EW.next ?_
  refine CW.seq ?_
  refine CW.seq ?_
  refine CW.region ?_
  refine RW.yi (.pointer (some ⟨b26, 16, none⟩)) rfl rfl (Yi.fieldAddr (j := 1) Try.underlying25 rfl Try.sizeOf23 rfl) ?_
  refine RW.yi (sa0_1) rfl rfl (Yi.load1 (i := 0) _ rfl rfl Try.isAgg23 (cat_get1 (ps := [(16, (iv a0_0)), p1 (sa0_1)]) 1 rfl rfl)) ?_
  refine RW.yi (.int .i64 (a0_1.length : Int)) rfl rfl (Yi.lenS (cs := ec e1 a0_1) (m := a0_1.length) Try.underlying23 rfl (rdF 1 rfl)) ?_
  refine RW.yi (.bool (decide (300 < (a0_1.length : Int)))) rfl rfl (Yi.pv _ rfl) ?_
  refine RW.nil ?_
  refine EW.next ?_
  refine CW.fork 26 (300 < (a0_1.length : Int)) rfl (fun h27 => ?_) (fun h27 => ?_)
  · replace hm := (if_pos h27).symm.trans hm
    refine CW.cond_true rfl ?_
    refine CW.seq ?_
    refine CW.region ?_
    obtain ⟨r28, hr28, hm⟩ := of_bind hm
    refine RW.ca (.bool r28) rfl rfl (Ca.call (cs := []) [] rfl rfl Try.call10 (fun w hM => lent0) (fun w S' hM => (c_law05_awake K  r28 w S' hM hr28).mono (fun _ _ h => by obtain ⟨_, h1, h2⟩ := h; exact ⟨h1, h2⟩))) ?_
    refine RW.yi (.bool r28) rfl rfl (Yi.pv _ rfl) ?_
    refine RW.nil ?_
    refine EW.next ?_
    refine CW.ret ?_
    refine EW.thr ?_
    obtain rfl := Option.some.inj hm
    exact EW.done (rs := [.tmp 4]) rfl (.tmp (t := 4) (v := .bool r28) rfl .nil) (fun _ hM => ⟨(), rfl, (hM.pick [] rfl rfl)⟩)
  · replace hm := (if_neg h27).symm.trans hm
    refine CW.cond_false rfl ?_
    refine CW.skip ?_
    refine EW.next ?_
    refine CW.seq ?_
    refine CW.region ?_
    refine RW.yi (.agg (cat [(16, (iv a0_0)), p1 (sa0_1)])) rfl rfl (Yi.loadW (i := 0) rfl rfl Try.isAgg25 (by simp only [cat_size]; exact Try.sizeOf25)) ?_
    obtain ⟨r29, hr29, hm⟩ := of_bind hm
    refine RW.callM (cs := []) [] [.blk b26 25 (cat [(16, (iv a0_0)), p1 (sa0_1)]), ro sa0_1 1 a0_1.length (ec e1 a0_1)] [ro sa0_1 1 a0_1.length (ec e1 a0_1)] [0, 1] (fun (u30 : Value) => [.row u30 3 1 (([] : List Int) ++ a0_1).length (ec e1 (([] : List Int) ++ a0_1))]) (fun (u30 : Value) => .agg (cat [(16, (iv a0_0)), p1 (u30)])) rfl rfl rfl rfl Try.call12 rfl rfl rfl (fun w hM => lentF (A := []) hM 1 rfl (lent0)) (.inl fun _ => rfl) (fun w S' hM => c_law05_own K a0_0 a0_1 sa0_1 r29 w S' hM hr29) (fun u30 => ?_)
    refine RW.alloc (z := .agg (cat [(16, (iv zf)), p1 (.slice none 0 0)])) (cat [(16, (iv zf)), p1 (.slice none 0 0)]) rfl rfl (fun _ => by kernel_rfl) rfl (fun b32 => ?_)
    refine RW.conv1 (fun w hM => ones_cat (ps := [(16, (iv a0_0)), p1 (u30)]) (ones_cons (fun _ => rfl) (ones_cons (fun _ => (rd_one ((rdW 1 rfl) w hM)).2) ones_nil))) (fun hone => ?_)
    refine RW.storeQ (i := 0) (m := 17) (cs' := cat [(16, (iv a0_0)), p1 (u30)]) rfl rfl rfl rfl Try.sizeOf25 (by rw [cat_size]; rfl) (by rw [cat_size]; show _ ≤ 17; omega) hone (fun c' hs hget => (cat_spl (A := []) (X := [(16, (iv zf)), p1 (.slice none 0 0)]) (B := []) (Y := [(16, (iv a0_0)), p1 (u30)]) rfl hs (by first | exact hget | (rw [cat_one]; exact hget)))) ?_
    refine RW.nil ?_
    refine EW.next ?_
    refine CW.seq ?_
    refine CW.region ?_
    refine RW.yi (.agg (cat [(16, (iv a0_0)), p1 (u30)])) rfl rfl (Yi.loadW (i := 0) rfl rfl Try.isAgg25 (by simp only [cat_size]; exact Try.sizeOf25)) ?_
    obtain ⟨r33, hr33, hm⟩ := of_bind hm
    rcases r33 with r34 | r116
    · dsimp only at hm
      refine RW.callM (cs := []) [] [.blk b32 25 (cat [(16, (iv a0_0)), p1 (u30)]), .row u30 3 1 (([] : List Int) ++ a0_1).length (ec e1 (([] : List Int) ++ a0_1)), .blk b26 25 (cat [(16, (iv a0_0)), p1 (sa0_1)]), ro sa0_1 1 a0_1.length (ec e1 a0_1)] [ro u30 1 (([] : List Int) ++ a0_1).length (ec e1 (([] : List Int) ++ a0_1))] [0, 1, 2, 3] (fun (u35 : Nat × Value × Nat) => [.blk u35.1 67 (cat [(16, (iv a0_0)), p1 (u35.2.1), (512, (iv r34.1)), p1 (.map (some u35.2.2))]), .row u35.2.1 3 1 r34.2.1.length (ec e1 r34.2.1), mpE u35.2.2 r34.2.2]) (fun (u35 : Nat × Value × Nat) => .tuple #[.pointer (some ⟨u35.1, 0, none⟩), .int .i64 0]) rfl rfl rfl rfl Try.call11 rfl rfl rfl (fun w hM => lentW (A := []) hM 1 rfl (lent0)) (.inl fun _ => rfl) (fun w S' hM => c_huff_New K a0_0 (([] : List Int) ++ a0_1) u30 (.inl r34) w S' hM hr33) (fun u35 => ?_)
      refine RW.yi (.tuple #[.pointer (some ⟨u35.1, 0, none⟩), .int .i64 0]) rfl rfl (Yi.pv _ rfl) ?_
      refine RW.yi (.pointer (some ⟨u35.1, 0, none⟩)) rfl rfl (Yi.pv _ rfl) ?_
      refine RW.yi (.int .i64 0) rfl rfl (Yi.pv _ rfl) ?_
      refine RW.yi (.pointer (some ⟨u35.1, 0, none⟩)) rfl rfl (Yi.pv _ rfl) ?_
      refine RW.yi (.int .i64 0) rfl rfl (Yi.pv _ rfl) ?_
      refine RW.nil ?_
      refine EW.next ?_
      refine CW.seq ?_
      refine CW.region ?_
      refine RW.yi (.agg (cat [(16, (iv a0_0)), p1 (sa0_1)])) rfl rfl (Yi.loadW (i := 5) rfl rfl Try.isAgg25 (by simp only [cat_size]; exact Try.sizeOf25)) ?_
      obtain ⟨r37, hr37, hm⟩ := of_bind hm
      refine RW.callM (cs := []) [] [.blk u35.1 67 (cat [(16, (iv a0_0)), p1 (u35.2.1), (512, (iv r34.1)), p1 (.map (some u35.2.2))]), .row u35.2.1 3 1 r34.2.1.length (ec e1 r34.2.1), mpE u35.2.2 r34.2.2, .blk b32 25 (cat [(16, (iv a0_0)), p1 (u30)]), .row u30 3 1 (([] : List Int) ++ a0_1).length (ec e1 (([] : List Int) ++ a0_1)), .blk b26 25 (cat [(16, (iv a0_0)), p1 (sa0_1)]), ro sa0_1 1 a0_1.length (ec e1 a0_1)] [ro sa0_1 1 a0_1.length (ec e1 a0_1)] [0, 1, 2, 3, 4, 5, 6] (fun (u38 : Value) => [.row u38 39 3 r37.2.length (ec e3 r37.2)]) (fun (u38 : Value) => .tuple #[u38, .bool r37.1]) rfl rfl rfl rfl Try.call14 rfl rfl rfl (fun w hM => lentF (A := []) hM 6 rfl (lent0)) (.inl fun _ => rfl) (fun w S' hM => c_ref05_Codes K a0_0 a0_1 sa0_1 r37 w S' hM hr37) (fun u38 => ?_)
      refine RW.yi (.tuple #[u38, .bool r37.1]) rfl rfl (Yi.pv _ rfl) ?_
      refine RW.yi (u38) rfl rfl (Yi.pv _ rfl) ?_
      refine RW.yi (.bool r37.1) rfl rfl (Yi.pv _ rfl) ?_
      refine RW.yi (u38) rfl rfl (Yi.pv _ rfl) ?_
      refine RW.yi (.bool r37.1) rfl rfl (Yi.pv _ rfl) ?_
      refine RW.nil ?_
      refine EW.next ?_
      refine CW.join (fun a w => St 178 [(1, .int .i64 a1), (2, .pointer (some ⟨b26, 0, none⟩)), (6, .pointer (some ⟨u35.1, 0, none⟩)), (7, .int .i64 0), (8, u38), (9, .bool r37.1)] a ∧ Mem w0 S [.blk b26 25 (cat [(16, (iv a0_0)), p1 (sa0_1)]), ro sa0_1 1 a0_1.length (ec e1 a0_1), .blk u35.1 67 (cat [(16, (iv a0_0)), p1 (u35.2.1), (512, (iv r34.1)), p1 (.map (some u35.2.2))]), .row u35.2.1 3 1 r34.2.1.length (ec e1 r34.2.1), mpE u35.2.2 r34.2.2, .row u38 39 3 r37.2.length (ec e3 r37.2)] w ∧ law05_HuffCodes_j6 K a0_0 a0_1 a1 r34 r37 = some r) ?_ ?_
      · refine CW.seq ?_
        refine CW.region ?_
        refine RW.yi (.pointer (some ⟨b32, 16, none⟩)) rfl rfl (Yi.fieldAddr (j := 1) Try.underlying25 rfl Try.sizeOf23 rfl) ?_
        refine RW.yi (u30) rfl rfl (Yi.load1 (i := 4) _ rfl rfl Try.isAgg23 (cat_get1 (ps := [(16, (iv a0_0)), p1 (u30)]) 1 rfl rfl)) ?_
        refine RW.yi (.int .i64 ((([] : List Int) ++ a0_1).length : Int)) rfl rfl (Yi.lenS (cs := ec e1 (([] : List Int) ++ a0_1)) (m := (([] : List Int) ++ a0_1).length) Try.underlying23 rfl (rdW 5 rfl)) ?_
        refine RW.yi (.int .i64 0) rfl rfl (Yi.pv _ rfl) ?_
        refine RW.nil ?_
        refine EW.next ?_
        refine CW.block ?_
        refine CW.loop (fun k a w => ∃ (v110 : (List Int)) (v111 : Int), St 178 [(1, .int .i64 a1), (2, .pointer (some ⟨b26, 0, none⟩)), (5, .pointer (some ⟨b32, 0, none⟩)), (6, .pointer (some ⟨u35.1, 0, none⟩)), (7, .int .i64 0), (8, u38), (9, .bool r37.1), (42, .int .i64 ((([] : List Int) ++ a0_1).length : Int)), (43, .int .i64 v111)] a ∧ Mem w0 S [.blk b26 25 (cat [(16, (iv a0_0)), p1 (sa0_1)]), ro sa0_1 1 a0_1.length (ec e1 a0_1), .blk b32 25 (cat [(16, (iv a0_0)), p1 (u30)]), .row u30 3 1 v110.length (ec e1 v110), .blk u35.1 67 (cat [(16, (iv a0_0)), p1 (u35.2.1), (512, (iv r34.1)), p1 (.map (some u35.2.2))]), .row u35.2.1 3 1 r34.2.1.length (ec e1 r34.2.1), mpE u35.2.2 r34.2.2, .row u38 39 3 r37.2.length (ec e3 r37.2)] w ∧ law05_HuffCodes_l3 K a0_0 a0_1 a1 r34 r37 k v110 v111 = some r) K ?_ ?_ ?_
        · rintro a w ⟨_, _, _, _, hm⟩
          rw [law05_HuffCodes_l3.eq_1] at hm
          cases hm
        · exact fun a w hs hM => ⟨(([] : List Int) ++ a0_1), 0, hs.sub ⟨rfl, rfl, rfl, rfl, rfl, rfl, rfl, rfl, rfl, trivial⟩, (hM.pick [6, 7, 4, 5, 1, 2, 3, 0] rfl rfl), hm⟩
        · rintro k3 a w ⟨v110, v111, hs, hM, hm⟩
          rw [law05_HuffCodes_l3.eq_2] at hm
          refine CW.enter hs hM ?_
          refine CW.seq ?_
          refine CW.region ?_
          refine RW.yi (.bool (decide (v111 < ((([] : List Int) ++ a0_1).length : Int)))) rfl rfl (Yi.pv _ rfl) ?_
          refine RW.nil ?_
          refine EW.next ?_
          refine CW.seq ?_
          refine CW.fork 44 (v111 < ((([] : List Int) ++ a0_1).length : Int)) rfl (fun h114 => ?_) (fun h114 => ?_)
          · replace hm := (if_pos h114).symm.trans hm
            refine CW.cond_true rfl ?_
            refine CW.skip ?_
            refine EW.next ?_
            refine CW.seq ?_
            refine CW.block ?_
            refine CW.seq ?_
            refine CW.region ?_
            refine RW.yi (.int .i64 v111) rfl rfl (Yi.pv _ rfl) ?_
            refine RW.yi (.int .i64 v111) rfl rfl (Yi.pv _ rfl) ?_
            refine RW.nil ?_
            refine EW.next ?_
            refine CW.region ?_
            refine RW.yi (.pointer (some ⟨b32, 16, none⟩)) rfl rfl (Yi.fieldAddr (j := 1) Try.underlying25 rfl Try.sizeOf23 rfl) ?_
            refine RW.yi (u30) rfl rfl (Yi.load1 (i := 2) _ rfl rfl Try.isAgg23 (cat_get1 (ps := [(16, (iv a0_0)), p1 (u30)]) 1 rfl rfl)) ?_
            refine RW.yi (.int .i64 v111) rfl rfl (Yi.pv _ rfl) ?_
            obtain ⟨g115, hm⟩ := of_guard hm
            refine RW.yi (.pointer (some (eaddr u30 1 v111.toNat 0))) rfl rfl (Yi.idxS (m := v110.length) Try.underlying23 Try.sizeOf3 rfl rfl (rdW 3 rfl) g115.1 g115.2) ?_
            refine RW.yi (.int .i64 (v110.getD v111.toNat 0)) rfl rfl (Yi.loadS (m := v110.length) (cs := ec e1 v110) _ rfl (rdW 3 rfl) Try.isAgg3 (by omega) (by omega) (by rw [ec_get (d := 0) e1_is (by omega) (by decide)]; rfl)) ?_
            refine RW.yi (.int .i64 (w64 ((v110.getD v111.toNat 0) + 1))) rfl rfl (Yi.pv _ rfl) ?_
            refine RW.yi (.pointer (some (eaddr u30 1 v111.toNat 0))) rfl rfl (Yi.idxS (m := v110.length) Try.underlying23 Try.sizeOf3 rfl rfl (rdW 3 rfl) g115.1 g115.2) ?_
            refine RW.storeE (r := 3) (cs' := ec e1 (v110.set v111.toNat (w64 ((v110.getD v111.toNat 0) + 1)))) rfl rfl rfl rfl Try.sizeOf3 rfl rfl (by omega) (by decide) (ec_set e1_is (d := 0) (by decide) (by omega) (rfl)) ?_
            refine RW.conv (fun _ hM => hM.rowlen (i := 3) (m' := (v110.set v111.toNat (w64 ((v110.getD v111.toNat 0) + 1))).length) rfl (by simp)) ?_
            refine RW.nil ?_
            refine EW.bln ?_
            refine EW.next ?_
            refine CW.region ?_
            refine RW.yi (.int .i64 (w64 (v111 + 1))) rfl rfl (Yi.pv _ rfl) ?_
            refine RW.yi (.int .i64 (w64 (v111 + 1))) rfl rfl (Yi.pv _ rfl) ?_
            refine RW.nil ?_
            refine EW.thn ?_
            exact fun a w hs hM => ⟨(v110.set v111.toNat (w64 ((v110.getD v111.toNat 0) + 1))), (w64 (v111 + 1)), hs.sub ⟨rfl, rfl, rfl, rfl, rfl, rfl, rfl, rfl, rfl, trivial⟩, (hM.pick [0, 1, 2, 3, 4, 5, 6, 7] rfl rfl), hm⟩
          · replace hm := (if_neg h114).symm.trans hm
            refine CW.cond_false rfl ?_
            refine CW.exit ?_
            refine EW.thx ?_
            refine EW.thx ?_
            refine EW.blx ?_
            refine EW.thn ?_
            exact fun a w hs hM => ⟨hs.sub ⟨rfl, rfl, rfl, rfl, rfl, rfl, trivial⟩, (hM.pick [0, 1, 4, 5, 6, 7] rfl rfl), hm⟩
      · rintro a w ⟨hs, hM, hm⟩
        unfold law05_HuffCodes_j6 at hm
        refine CW.enter hs hM ?_
        refine CW.join (fun a w => St 178 [(1, .int .i64 a1), (2, .pointer (some ⟨b26, 0, none⟩)), (6, .pointer (some ⟨u35.1, 0, none⟩)), (7, .int .i64 0), (8, u38), (9, .bool r37.1)] a ∧ Mem w0 S [.blk b26 25 (cat [(16, (iv a0_0)), p1 (sa0_1)]), ro sa0_1 1 a0_1.length (ec e1 a0_1), .blk u35.1 67 (cat [(16, (iv a0_0)), p1 (u35.2.1), (512, (iv r34.1)), p1 (.map (some u35.2.2))]), .row u35.2.1 3 1 r34.2.1.length (ec e1 r34.2.1), mpE u35.2.2 r34.2.2, .row u38 39 3 r37.2.length (ec e3 r37.2)] w ∧ law05_HuffCodes_j5 K a0_0 a0_1 a1 r34 r37 = some r) ?_ ?_
        · refine CW.seq ?_
          refine CW.region ?_
          refine RW.yi (.agg (cat [(16, (iv a0_0)), p1 (sa0_1)])) rfl rfl (Yi.loadW (i := 0) rfl rfl Try.isAgg25 (by simp only [cat_size]; exact Try.sizeOf25)) ?_
          obtain ⟨r104, hr104, hm⟩ := of_bind hm
          refine RW.ca (.bool r104) rfl rfl (Ca.call (cs := []) [ro sa0_1 1 a0_1.length (ec e1 a0_1)] rfl rfl Try.call15 (fun w hM => lentF (A := []) hM 1 rfl (lent0)) (fun w S' hM => (c_huff_Right K a0_0 a0_1 sa0_1 r104 w S' hM hr104).mono (fun _ _ h => by obtain ⟨_, h1, h2⟩ := h; exact ⟨h1, h2⟩))) ?_
          refine RW.yi (.bool r37.1) rfl rfl (Yi.pv _ rfl) ?_
          refine RW.forkB 55 (r104) rfl (fun h105 => ?_) (fun h105 => ?_)
          · replace hm := (if_pos h105).symm.trans hm
            refine RW.forkB 56 (r37.1) rfl (fun h106 => ?_) (fun h106 => ?_)
            · replace hm := (if_pos h106).symm.trans hm
              refine RW.yi (.bool false) rfl rfl (Yi.neB (b := true) (c := true) rfl rfl Try.underlying4) ?_
              refine RW.nil ?_
              refine EW.next ?_
              refine CW.cond_false rfl ?_
              refine CW.skip ?_
              refine EW.thn ?_
              exact fun a w hs hM => ⟨hs.sub ⟨rfl, rfl, rfl, rfl, rfl, rfl, trivial⟩, (hM.pick [0, 1, 2, 3, 4, 5] rfl rfl), hm⟩
            · replace hm := (if_neg h106).symm.trans hm
              refine RW.yi (.bool true) rfl rfl (Yi.neB (b := true) (c := false) rfl rfl Try.underlying4) ?_
              refine RW.nil ?_
              refine EW.next ?_
              refine CW.cond_true rfl ?_
              refine CW.seq ?_
              refine CW.region ?_
              refine RW.yi (.bool false) rfl rfl (Yi.pv _ rfl) ?_
              refine RW.nil ?_
              refine EW.next ?_
              refine CW.ret ?_
              refine EW.thr ?_
              obtain rfl := Option.some.inj hm
              exact EW.done (rs := [.tmp 4]) rfl (.tmp (t := 4) (v := .bool false) rfl .nil) (fun _ hM => ⟨(), rfl, (hM.pick [] rfl rfl)⟩)
          · replace hm := (if_neg h105).symm.trans hm
            refine RW.forkB 56 (r37.1) rfl (fun h107 => ?_) (fun h107 => ?_)
            · replace hm := (if_pos h107).symm.trans hm
              refine RW.yi (.bool true) rfl rfl (Yi.neB (b := false) (c := true) rfl rfl Try.underlying4) ?_
              refine RW.nil ?_
              refine EW.next ?_
              refine CW.cond_true rfl ?_
              refine CW.seq ?_
              refine CW.region ?_
              refine RW.yi (.bool false) rfl rfl (Yi.pv _ rfl) ?_
              refine RW.nil ?_
              refine EW.next ?_
              refine CW.ret ?_
              refine EW.thr ?_
              obtain rfl := Option.some.inj hm
              exact EW.done (rs := [.tmp 4]) rfl (.tmp (t := 4) (v := .bool false) rfl .nil) (fun _ hM => ⟨(), rfl, (hM.pick [] rfl rfl)⟩)
            · replace hm := (if_neg h107).symm.trans hm
              refine RW.yi (.bool false) rfl rfl (Yi.neB (b := false) (c := false) rfl rfl Try.underlying4) ?_
              refine RW.nil ?_
              refine EW.next ?_
              refine CW.cond_false rfl ?_
              refine CW.skip ?_
              refine EW.thn ?_
              exact fun a w hs hM => ⟨hs.sub ⟨rfl, rfl, rfl, rfl, rfl, rfl, trivial⟩, (hM.pick [0, 1, 2, 3, 4, 5] rfl rfl), hm⟩
        · rintro a w ⟨hs, hM, hm⟩
          unfold law05_HuffCodes_j5 at hm
          refine CW.enter hs hM ?_
          refine CW.seq ?_
          refine CW.seq ?_
          refine CW.region ?_
          refine RW.yi (.bool r37.1) rfl rfl (Yi.pv _ rfl) ?_
          refine RW.forkB 58 (r37.1) rfl (fun h40 => ?_) (fun h40 => ?_)
          · replace hm := (if_pos h40).symm.trans hm
            refine RW.yi (.bool false) rfl rfl (Yi.pv _ rfl) ?_
            refine RW.nil ?_
            refine EW.next ?_
            refine CW.cond_false rfl ?_
            refine CW.skip ?_
            refine EW.next ?_
            refine CW.join (fun a w => St 178 [(2, .pointer (some ⟨b26, 0, none⟩)), (6, .pointer (some ⟨u35.1, 0, none⟩)), (7, .int .i64 0), (8, u38)] a ∧ Mem w0 S [.blk b26 25 (cat [(16, (iv a0_0)), p1 (sa0_1)]), ro sa0_1 1 a0_1.length (ec e1 a0_1), .blk u35.1 67 (cat [(16, (iv a0_0)), p1 (u35.2.1), (512, (iv r34.1)), p1 (.map (some u35.2.2))]), .row u35.2.1 3 1 r34.2.1.length (ec e1 r34.2.1), mpE u35.2.2 r34.2.2, .row u38 39 3 r37.2.length (ec e3 r37.2)] w ∧ law05_HuffCodes_j2 K a0_0 a0_1 r34 r37 = some r) ?_ ?_
            · refine CW.seq ?_
              refine CW.region ?_
              refine RW.yi (.int .i64 0) rfl rfl (Yi.pv _ rfl) ?_
              refine RW.nil ?_
              refine EW.next ?_
              refine CW.block ?_
              refine CW.loop (fun k a w => ∃ (v67 : Int), St 178 [(1, .int .i64 a1), (2, .pointer (some ⟨b26, 0, none⟩)), (6, .pointer (some ⟨u35.1, 0, none⟩)), (7, .int .i64 0), (8, u38), (69, .int .i64 v67)] a ∧ Mem w0 S [.blk b26 25 (cat [(16, (iv a0_0)), p1 (sa0_1)]), ro sa0_1 1 a0_1.length (ec e1 a0_1), .blk u35.1 67 (cat [(16, (iv a0_0)), p1 (u35.2.1), (512, (iv r34.1)), p1 (.map (some u35.2.2))]), .row u35.2.1 3 1 r34.2.1.length (ec e1 r34.2.1), mpE u35.2.2 r34.2.2, .row u38 39 3 r37.2.length (ec e3 r37.2)] w ∧ law05_HuffCodes_l2 K a0_0 a0_1 a1 r34 r37 k v67 = some r) K ?_ ?_ ?_
              · rintro a w ⟨_, _, _, hm⟩
                rw [law05_HuffCodes_l2.eq_1] at hm
                cases hm
              · exact fun a w hs hM => ⟨0, hs.sub ⟨rfl, rfl, rfl, rfl, rfl, rfl, trivial⟩, (hM.pick [0, 1, 2, 3, 4, 5] rfl rfl), hm⟩
              · rintro k2 a w ⟨v67, hs, hM, hm⟩
                rw [law05_HuffCodes_l2.eq_2] at hm
                refine CW.enter hs hM ?_
                refine CW.seq ?_
                refine CW.region ?_
                refine RW.yi (.bool (decide (v67 < 259))) rfl rfl (Yi.pv _ rfl) ?_
                refine RW.nil ?_
                refine EW.next ?_
                refine CW.seq ?_
                refine CW.fork 70 (v67 < 259) rfl (fun h70 => ?_) (fun h70 => ?_)
                · replace hm := (if_pos h70).symm.trans hm
                  refine CW.cond_true rfl ?_
                  refine CW.skip ?_
                  refine EW.next ?_
                  refine CW.join (fun a w => ∃ (v82 : Int) (v84 : Int) (v85 : Int) (v86 : Int) (v87 : Int) (v88 : Bool) (v89 : Bool) (v90 : Bool) (s83 : Nat), St 178 [(1, .int .i64 a1), (2, .pointer (some ⟨b26, 0, none⟩)), (6, .pointer (some ⟨u35.1, 0, none⟩)), (7, .int .i64 0), (8, u38), (69, .int .i64 v67), (95, .int .i64 v82), (96, .pointer (some ⟨s83, 2, none⟩)), (97, .int .i64 v87), (98, .bool v88), (101, .bool v89), (102, .bool v90), (103, .bool false)] a ∧ Mem w0 S [.blk b26 25 (cat [(16, (iv a0_0)), p1 (sa0_1)]), ro sa0_1 1 a0_1.length (ec e1 a0_1), .blk u35.1 67 (cat [(16, (iv a0_0)), p1 (u35.2.1), (512, (iv r34.1)), p1 (.map (some u35.2.2))]), .row u35.2.1 3 1 r34.2.1.length (ec e1 r34.2.1), mpE u35.2.2 r34.2.2, .row u38 39 3 r37.2.length (ec e3 r37.2), .blk s83 39 (#[.int .i64 v84, .int .i64 v85, .int .i64 v86])] w ∧ law05_HuffCodes_j3 K (law05_HuffCodes_l2 K a0_0 a0_1 a1 r34 r37 k2) v67 v82 v84 v85 v86 v87 v88 v89 v90 = some r) ?_ ?_
                  · refine CW.block ?_
                    refine CW.seq ?_
                    refine CW.region ?_
                    refine RW.yi (.int .i64 v67) rfl rfl (Yi.pv _ rfl) ?_
                    refine RW.yi (.int .i64 v67) rfl rfl (Yi.pv _ rfl) ?_
                    refine RW.nil ?_
                    refine EW.next ?_
                    refine CW.seq ?_
                    refine CW.region ?_
                    refine RW.yi (.int .i64 v67) rfl rfl (Yi.pv _ rfl) ?_
                    refine RW.yi (.int .i64 (w64 (v67 - 2))) rfl rfl (Yi.pv _ rfl) ?_
                    refine RW.yi (.int .i64 (w64 (v67 - 2))) rfl rfl (Yi.pv _ rfl) ?_
                    refine RW.nil ?_
                    refine EW.next ?_
                    refine CW.join (fun a w => ∃ (v92 : Int), St 178 [(1, .int .i64 a1), (2, .pointer (some ⟨b26, 0, none⟩)), (6, .pointer (some ⟨u35.1, 0, none⟩)), (7, .int .i64 0), (8, u38), (12, .int .i64 v92), (69, .int .i64 v67)] a ∧ Mem w0 S [.blk b26 25 (cat [(16, (iv a0_0)), p1 (sa0_1)]), ro sa0_1 1 a0_1.length (ec e1 a0_1), .blk u35.1 67 (cat [(16, (iv a0_0)), p1 (u35.2.1), (512, (iv r34.1)), p1 (.map (some u35.2.2))]), .row u35.2.1 3 1 r34.2.1.length (ec e1 r34.2.1), mpE u35.2.2 r34.2.2, .row u38 39 3 r37.2.length (ec e3 r37.2)] w ∧ law05_HuffCodes_j4 K (law05_HuffCodes_l2 K a0_0 a0_1 a1 r34 r37 k2) a0_0 v67 r34 r37 v92 = some r) ?_ ?_
                    · refine CW.seq ?_
                      refine CW.region ?_
                      refine RW.yi (.int .i64 v67) rfl rfl (Yi.pv _ rfl) ?_
                      refine RW.yi (.bool (decide (v67 = 0))) rfl rfl (Yi.pv _ rfl) ?_
                      refine RW.nil ?_
                      refine EW.next ?_
                      refine CW.fork 75 (v67 = 0) rfl (fun h103 => ?_) (fun h103 => ?_)
                      · replace hm := (if_pos h103).symm.trans hm
                        refine CW.cond_true rfl ?_
                        refine CW.region ?_
                        refine RW.yi (.int .i64 a1) rfl rfl (Yi.pv _ rfl) ?_
                        refine RW.yi (.int .i64 a1) rfl rfl (Yi.pv _ rfl) ?_
                        refine RW.nil ?_
                        refine EW.thn ?_
                        exact fun a w hs hM => ⟨a1, hs.sub ⟨rfl, rfl, rfl, rfl, rfl, rfl, rfl, trivial⟩, (hM.pick [0, 1, 2, 3, 4, 5] rfl rfl), hm⟩
                      · replace hm := (if_neg h103).symm.trans hm
                        refine CW.cond_false rfl ?_
                        refine CW.skip ?_
                        refine EW.thn ?_
                        exact fun a w hs hM => ⟨(w64 (v67 - 2)), hs.sub ⟨rfl, rfl, rfl, rfl, rfl, rfl, rfl, trivial⟩, (hM.pick [0, 1, 2, 3, 4, 5] rfl rfl), hm⟩
                    · rintro a w ⟨v92, hs, hM, hm⟩
                      unfold law05_HuffCodes_j4 at hm
                      refine CW.enter hs hM ?_
                      refine CW.seq ?_
                      refine CW.region ?_
                      refine RW.yi (.pointer (some ⟨u35.1, 0, none⟩)) rfl rfl (Yi.pv _ rfl) ?_
                      refine RW.yi (.int .i64 v92) rfl rfl (Yi.pv _ rfl) ?_
                      obtain ⟨r93, hr93, hm⟩ := of_bind hm
                      refine RW.callM (cs := []) [.blk u35.1 67 (cat [(16, (iv a0_0)), p1 (u35.2.1), (512, (iv r34.1)), p1 (.map (some u35.2.2))]), .row u35.2.1 3 1 r34.2.1.length (ec e1 r34.2.1), mpE u35.2.2 r34.2.2] [.blk b26 25 (cat [(16, (iv a0_0)), p1 (sa0_1)]), ro sa0_1 1 a0_1.length (ec e1 a0_1), .row u38 39 3 r37.2.length (ec e3 r37.2)] [] [2, 3, 4, 0, 1, 5] (fun (_ : Unit) => [.blk u35.1 67 (cat [(16, (iv a0_0)), p1 (u35.2.1), (512, (iv r34.1)), p1 (.map (some u35.2.2))]), .row u35.2.1 3 1 r34.2.1.length (ec e1 r34.2.1), mpE u35.2.2 r34.2.2]) (fun (_ : Unit) => .tuple #[.int .i64 r93.1, .int .i64 r93.2.1, .bool r93.2.2]) rfl rfl rfl rfl Try.call13 rfl rfl rfl (fun w hM => lent0) (.inl fun _ => rfl) (fun w S' hM => c_huff_Table_Code K a0_0 r34.2.1 r34.1 r34.2.2 v92 u35.1 u35.2.1 u35.2.2 r93 w S' hM hr93) (fun _ => ?_)
                      refine RW.yi (.tuple #[.int .i64 r93.1, .int .i64 r93.2.1, .bool r93.2.2]) rfl rfl (Yi.pv _ rfl) ?_
                      refine RW.yi (.int .i64 r93.1) rfl rfl (Yi.pv _ rfl) ?_
                      refine RW.yi (.int .i64 r93.2.1) rfl rfl (Yi.pv _ rfl) ?_
                      refine RW.yi (.bool r93.2.2) rfl rfl (Yi.pv _ rfl) ?_
                      refine RW.yi (.int .i64 r93.1) rfl rfl (Yi.pv _ rfl) ?_
                      refine RW.yi (.int .i64 r93.2.1) rfl rfl (Yi.pv _ rfl) ?_
                      refine RW.yi (.bool r93.2.2) rfl rfl (Yi.pv _ rfl) ?_
                      refine RW.nil ?_
                      refine EW.next ?_
                      refine CW.seq ?_
                      refine CW.region ?_
                      refine RW.yi (u38) rfl rfl (Yi.pv _ rfl) ?_
                      refine RW.yi (.int .i64 v92) rfl rfl (Yi.pv _ rfl) ?_
                      obtain ⟨r96, hr96, hm⟩ := of_bind hm
                      refine RW.ca (.tuple #[.agg #[.int .i64 r96.1, .int .i64 r96.2.1, .int .i64 r96.2.2.1], .bool r96.2.2.2]) rfl rfl (Ca.call (cs := []) [ro u38 3 r37.2.length (ec e3 r37.2)] rfl rfl Try.call16 (fun w hM => lentW (A := []) hM 5 rfl (lent0)) (fun w S' hM => (c_ref05_Find K r37.2 v92 u38 r96 w S' hM hr96).mono (fun _ _ h => by obtain ⟨_, h1, h2⟩ := h; exact ⟨h1, h2⟩))) ?_
                      refine RW.yi (.tuple #[.agg #[.int .i64 r96.1, .int .i64 r96.2.1, .int .i64 r96.2.2.1], .bool r96.2.2.2]) rfl rfl (Yi.pv _ rfl) ?_
                      refine RW.yi (.agg #[.int .i64 r96.1, .int .i64 r96.2.1, .int .i64 r96.2.2.1]) rfl rfl (Yi.pv _ rfl) ?_
                      refine RW.yi (.bool r96.2.2.2) rfl rfl (Yi.pv _ rfl) ?_
                      refine RW.alloc (z := .agg #[.int .i64 0, .int .i64 0, .int .i64 0]) (#[.int .i64 0, .int .i64 0, .int .i64 0]) rfl rfl (fun _ => by kernel_rfl) rfl (fun b97 => ?_)
                      refine RW.storeW (i := 0) (cs' := #[.int .i64 r96.1, .int .i64 r96.2.1, .int .i64 r96.2.2.1]) rfl rfl rfl rfl (by kernel_rfl) rfl (by kernel_rfl) ?_
                      refine RW.yi (.bool r96.2.2.2) rfl rfl (Yi.pv _ rfl) ?_
                      refine RW.nil ?_
                      refine EW.next ?_
                      refine CW.seq ?_
                      refine CW.region ?_
                      refine RW.yi (.int .i64 r93.1) rfl rfl (Yi.pv _ rfl) ?_
                      refine RW.yi (.pointer (some ⟨b97, 1, none⟩)) rfl rfl (Yi.fieldAddr (j := 1) Try.underlying39 rfl Try.sizeOf3 rfl) ?_
                      refine RW.yi (.int .i64 r96.2.1) rfl rfl (Yi.load1 (i := 0) _ rfl rfl Try.isAgg3 rfl) ?_
                      refine RW.yi (.bool (decide (¬ r93.1 = r96.2.1))) rfl rfl (Yi.pv _ rfl) ?_
                      refine RW.yi (.bool (decide (¬ r93.1 = r96.2.1))) rfl rfl (Yi.pv _ rfl) ?_
                      refine RW.fork 94 (¬ r93.1 = r96.2.1) rfl (fun h98 => ?_) (fun h98 => ?_)
                      · replace hm := (if_pos h98).symm.trans hm
                        refine RW.pass rfl rfl ?_
                        refine RW.pass rfl rfl ?_
                        refine RW.pass rfl rfl ?_
                        refine RW.pass rfl rfl ?_
                        refine RW.yi (.bool true) rfl rfl (Yi.pv _ rfl) ?_
                        refine RW.yi (.bool true) rfl rfl (Yi.pv _ rfl) ?_
                        refine RW.pass rfl rfl ?_
                        refine RW.pass rfl rfl ?_
                        refine RW.pass rfl rfl ?_
                        refine RW.yi (.bool true) rfl rfl (Yi.pv _ rfl) ?_
                        refine RW.nil ?_
                        refine EW.next ?_
                        refine CW.cond_true rfl ?_
                        refine CW.seq ?_
                        refine CW.region ?_
                        refine RW.yi (.bool false) rfl rfl (Yi.pv _ rfl) ?_
                        refine RW.nil ?_
                        refine EW.next ?_
                        refine CW.ret ?_
                        refine EW.blr ?_
                        refine EW.thr ?_
                        refine EW.thr ?_
                        refine EW.blr ?_
                        refine EW.thr ?_
                        obtain rfl := Option.some.inj hm
                        exact EW.done (rs := [.tmp 4]) rfl (.tmp (t := 4) (v := .bool false) rfl .nil) (fun _ hM => ⟨(), rfl, (hM.pick [] rfl rfl)⟩)
                      · replace hm := (if_neg h98).symm.trans hm
                        refine RW.yi (.int .i64 r93.2.1) rfl rfl (Yi.pv _ rfl) ?_
                        refine RW.yi (.pointer (some ⟨b97, 2, none⟩)) rfl rfl (Yi.fieldAddr (j := 2) Try.underlying39 rfl Try.sizeOf3 rfl) ?_
                        refine RW.yi (.int .i64 r96.2.2.1) rfl rfl (Yi.load1 (i := 0) _ rfl rfl Try.isAgg3 rfl) ?_
                        refine RW.yi (.bool (decide (¬ r93.2.1 = r96.2.2.1))) rfl rfl (Yi.pv _ rfl) ?_
                        refine RW.yi (.bool (decide (¬ r93.2.1 = r96.2.2.1))) rfl rfl (Yi.pv _ rfl) ?_
                        refine RW.yi (.bool (decide (¬ r93.2.1 = r96.2.2.1))) rfl rfl (Yi.pv _ rfl) ?_
                        refine RW.fork 100 (¬ r93.2.1 = r96.2.2.1) rfl (fun h99 => ?_) (fun h99 => ?_)
                        · replace hm := (if_pos h99).symm.trans hm
                          refine RW.pass rfl rfl ?_
                          refine RW.pass rfl rfl ?_
                          refine RW.pass rfl rfl ?_
                          refine RW.yi (.bool true) rfl rfl (Yi.pv _ rfl) ?_
                          refine RW.nil ?_
                          refine EW.next ?_
                          refine CW.cond_true rfl ?_
                          refine CW.seq ?_
                          refine CW.region ?_
                          refine RW.yi (.bool false) rfl rfl (Yi.pv _ rfl) ?_
                          refine RW.nil ?_
                          refine EW.next ?_
                          refine CW.ret ?_
                          refine EW.blr ?_
                          refine EW.thr ?_
                          refine EW.thr ?_
                          refine EW.blr ?_
                          refine EW.thr ?_
                          obtain rfl := Option.some.inj hm
                          exact EW.done (rs := [.tmp 4]) rfl (.tmp (t := 4) (v := .bool false) rfl .nil) (fun _ hM => ⟨(), rfl, (hM.pick [] rfl rfl)⟩)
                        · replace hm := (if_neg h99).symm.trans hm
                          refine RW.yi (.bool r93.2.2) rfl rfl (Yi.pv _ rfl) ?_
                          refine RW.yi (.bool r96.2.2.2) rfl rfl (Yi.pv _ rfl) ?_
                          refine RW.forkB 101 (r93.2.2) rfl (fun h100 => ?_) (fun h100 => ?_)
                          · replace hm := (if_pos h100).symm.trans hm
                            refine RW.forkB 102 (r96.2.2.2) rfl (fun h101 => ?_) (fun h101 => ?_)
                            · replace hm := (if_pos h101).symm.trans hm
                              refine RW.yi (.bool false) rfl rfl (Yi.neB (b := true) (c := true) rfl rfl Try.underlying4) ?_
                              refine RW.yi (.bool false) rfl rfl (Yi.pv _ rfl) ?_
                              refine RW.nil ?_
                              refine EW.next ?_
                              refine CW.cond_false rfl ?_
                              refine CW.skip ?_
                              refine EW.bln ?_
                              refine EW.thn ?_
                              exact fun a w hs hM => ⟨r93.2.1, r96.1, r96.2.1, r96.2.2.1, r96.2.2.1, (decide (¬ r93.2.1 = r96.2.2.1)), true, true, b97, hs.sub ⟨rfl, rfl, rfl, rfl, rfl, rfl, rfl, rfl, rfl, rfl, rfl, rfl, rfl, trivial⟩, (hM.pick [4, 5, 1, 2, 3, 6, 0] rfl rfl), hm⟩
                            · replace hm := (if_neg h101).symm.trans hm
                              refine RW.yi (.bool true) rfl rfl (Yi.neB (b := true) (c := false) rfl rfl Try.underlying4) ?_
                              refine RW.yi (.bool true) rfl rfl (Yi.pv _ rfl) ?_
                              refine RW.nil ?_
                              refine EW.next ?_
                              refine CW.cond_true rfl ?_
                              refine CW.seq ?_
                              refine CW.region ?_
                              refine RW.yi (.bool false) rfl rfl (Yi.pv _ rfl) ?_
                              refine RW.nil ?_
                              refine EW.next ?_
                              refine CW.ret ?_
                              refine EW.blr ?_
                              refine EW.thr ?_
                              refine EW.thr ?_
                              refine EW.blr ?_
                              refine EW.thr ?_
                              obtain rfl := Option.some.inj hm
                              exact EW.done (rs := [.tmp 4]) rfl (.tmp (t := 4) (v := .bool false) rfl .nil) (fun _ hM => ⟨(), rfl, (hM.pick [] rfl rfl)⟩)
                          · replace hm := (if_neg h100).symm.trans hm
                            refine RW.forkB 102 (r96.2.2.2) rfl (fun h102 => ?_) (fun h102 => ?_)
                            · replace hm := (if_pos h102).symm.trans hm
                              refine RW.yi (.bool true) rfl rfl (Yi.neB (b := false) (c := true) rfl rfl Try.underlying4) ?_
                              refine RW.yi (.bool true) rfl rfl (Yi.pv _ rfl) ?_
                              refine RW.nil ?_
                              refine EW.next ?_
                              refine CW.cond_true rfl ?_
                              refine CW.seq ?_
                              refine CW.region ?_
                              refine RW.yi (.bool false) rfl rfl (Yi.pv _ rfl) ?_
                              refine RW.nil ?_
                              refine EW.next ?_
                              refine CW.ret ?_
                              refine EW.blr ?_
                              refine EW.thr ?_
                              refine EW.thr ?_
                              refine EW.blr ?_
                              refine EW.thr ?_
                              obtain rfl := Option.some.inj hm
                              exact EW.done (rs := [.tmp 4]) rfl (.tmp (t := 4) (v := .bool false) rfl .nil) (fun _ hM => ⟨(), rfl, (hM.pick [] rfl rfl)⟩)
                            · replace hm := (if_neg h102).symm.trans hm
                              refine RW.yi (.bool false) rfl rfl (Yi.neB (b := false) (c := false) rfl rfl Try.underlying4) ?_
                              refine RW.yi (.bool false) rfl rfl (Yi.pv _ rfl) ?_
                              refine RW.nil ?_
                              refine EW.next ?_
                              refine CW.cond_false rfl ?_
                              refine CW.skip ?_
                              refine EW.bln ?_
                              refine EW.thn ?_
                              exact fun a w hs hM => ⟨r93.2.1, r96.1, r96.2.1, r96.2.2.1, r96.2.2.1, (decide (¬ r93.2.1 = r96.2.2.1)), false, false, b97, hs.sub ⟨rfl, rfl, rfl, rfl, rfl, rfl, rfl, rfl, rfl, rfl, rfl, rfl, rfl, trivial⟩, (hM.pick [4, 5, 1, 2, 3, 6, 0] rfl rfl), hm⟩
                  · rintro a w ⟨v82, v84, v85, v86, v87, v88, v89, v90, s83, hs, hM, hm⟩
                    unfold law05_HuffCodes_j3 at hm
                    refine CW.enter hs hM ?_
                    refine CW.region ?_
                    refine RW.yi (.int .i64 (w64 (v67 + 1))) rfl rfl (Yi.pv _ rfl) ?_
                    refine RW.yi (.int .i64 (w64 (v67 + 1))) rfl rfl (Yi.pv _ rfl) ?_
                    refine RW.nil ?_
                    refine EW.thn ?_
                    exact fun a w hs hM => ⟨(w64 (v67 + 1)), hs.sub ⟨rfl, rfl, rfl, rfl, rfl, rfl, trivial⟩, (hM.pick [0, 1, 2, 3, 4, 5] rfl rfl), hm⟩
                · replace hm := (if_neg h70).symm.trans hm
                  refine CW.cond_false rfl ?_
                  refine CW.exit ?_
                  refine EW.thx ?_
                  refine EW.thx ?_
                  refine EW.blx ?_
                  refine EW.thn ?_
                  exact fun a w hs hM => ⟨hs.sub ⟨rfl, rfl, rfl, rfl, trivial⟩, (hM.pick [0, 1, 2, 3, 4, 5] rfl rfl), hm⟩
            · rintro a w ⟨hs, hM, hm⟩
              unfold law05_HuffCodes_j2 at hm
              refine CW.enter hs hM ?_
              refine CW.seq ?_
              refine CW.region ?_
              refine RW.yi (.pointer (some ⟨u35.1, 0, none⟩)) rfl rfl (Yi.pv _ rfl) ?_
              obtain ⟨r41, hr41, hm⟩ := of_bind hm
              refine RW.callM (cs := []) [.blk u35.1 67 (cat [(16, (iv a0_0)), p1 (u35.2.1), (512, (iv r34.1)), p1 (.map (some u35.2.2))]), .row u35.2.1 3 1 r34.2.1.length (ec e1 r34.2.1), mpE u35.2.2 r34.2.2] [.blk b26 25 (cat [(16, (iv a0_0)), p1 (sa0_1)]), ro sa0_1 1 a0_1.length (ec e1 a0_1), .row u38 39 3 r37.2.length (ec e3 r37.2)] [] [2, 3, 4, 0, 1, 5] (fun (u42 : Value) => [.row u42 3 1 r41.length (ec e1 r41), .blk u35.1 67 (cat [(16, (iv a0_0)), p1 (u35.2.1), (512, (iv r34.1)), p1 (.map (some u35.2.2))]), .row u35.2.1 3 1 r34.2.1.length (ec e1 r34.2.1), mpE u35.2.2 r34.2.2]) (fun (u42 : Value) => .agg (cat [(16, (iv a0_0)), p1 (u42)])) rfl rfl rfl rfl Try.call17 rfl rfl rfl (fun w hM => lent0) (.inl fun _ => rfl) (fun w S' hM => c_huff_Table_Spec K a0_0 r34.2.1 r34.1 r34.2.2 u35.1 u35.2.1 u35.2.2 r41 w S' hM hr41) (fun u42 => ?_)
              refine RW.alloc (z := .agg (cat [(16, (iv zf)), p1 (.slice none 0 0)])) (cat [(16, (iv zf)), p1 (.slice none 0 0)]) rfl rfl (fun _ => by kernel_rfl) rfl (fun b45 => ?_)
              refine RW.conv1 (fun w hM => ones_cat (ps := [(16, (iv a0_0)), p1 (u42)]) (ones_cons (fun _ => rfl) (ones_cons (fun _ => (rd_one ((rdW 1 rfl) w hM)).2) ones_nil))) (fun hone => ?_)
              refine RW.storeQ (i := 0) (m := 17) (cs' := cat [(16, (iv a0_0)), p1 (u42)]) rfl rfl rfl rfl Try.sizeOf25 (by rw [cat_size]; rfl) (by rw [cat_size]; show _ ≤ 17; omega) hone (fun c' hs hget => (cat_spl (A := []) (X := [(16, (iv zf)), p1 (.slice none 0 0)]) (B := []) (Y := [(16, (iv a0_0)), p1 (u42)]) rfl hs (by first | exact hget | (rw [cat_one]; exact hget)))) ?_
              refine RW.nil ?_
              refine EW.next ?_
              refine CW.seq ?_
              refine CW.seq ?_
              refine CW.region ?_
              refine RW.yi (.pointer (some ⟨b45, 16, none⟩)) rfl rfl (Yi.fieldAddr (j := 1) Try.underlying25 rfl Try.sizeOf23 rfl) ?_
              refine RW.yi (u42) rfl rfl (Yi.load1 (i := 0) _ rfl rfl Try.isAgg23 (cat_get1 (ps := [(16, (iv a0_0)), p1 (u42)]) 1 rfl rfl)) ?_
              refine RW.yi (.int .i64 (r41.length : Int)) rfl rfl (Yi.lenS (cs := ec e1 r41) (m := r41.length) Try.underlying23 rfl (rdW 1 rfl)) ?_
              refine RW.yi (.pointer (some ⟨b26, 16, none⟩)) rfl rfl (Yi.fieldAddr (j := 1) Try.underlying25 rfl Try.sizeOf23 rfl) ?_
              refine RW.yi (sa0_1) rfl rfl (Yi.load1 (i := 5) _ rfl rfl Try.isAgg23 (cat_get1 (ps := [(16, (iv a0_0)), p1 (sa0_1)]) 1 rfl rfl)) ?_
              refine RW.yi (.int .i64 (a0_1.length : Int)) rfl rfl (Yi.lenS (cs := ec e1 a0_1) (m := a0_1.length) Try.underlying23 rfl (rdF 6 rfl)) ?_
              refine RW.yi (.bool (decide (¬ (r41.length : Int) = (a0_1.length : Int)))) rfl rfl (Yi.pv _ rfl) ?_
              refine RW.yi (.bool (decide (¬ (r41.length : Int) = (a0_1.length : Int)))) rfl rfl (Yi.pv _ rfl) ?_
              refine RW.fork 115 (¬ (r41.length : Int) = (a0_1.length : Int)) rfl (fun h46 => ?_) (fun h46 => ?_)
              · replace hm := (if_pos h46).symm.trans hm
                refine RW.pass rfl rfl ?_
                refine RW.pass rfl rfl ?_
                refine RW.pass rfl rfl ?_
                refine RW.pass rfl rfl ?_
                refine RW.pass rfl rfl ?_
                refine RW.yi (.bool true) rfl rfl (Yi.pv _ rfl) ?_
                refine RW.nil ?_
                refine EW.next ?_
                refine CW.cond_true rfl ?_
                refine CW.seq ?_
                refine CW.region ?_
                refine RW.yi (.bool false) rfl rfl (Yi.pv _ rfl) ?_
                refine RW.nil ?_
                refine EW.next ?_
                refine CW.ret ?_
                refine EW.thr ?_
                obtain rfl := Option.some.inj hm
                exact EW.done (rs := [.tmp 4]) rfl (.tmp (t := 4) (v := .bool false) rfl .nil) (fun _ hM => ⟨(), rfl, (hM.pick [] rfl rfl)⟩)
              · replace hm := (if_neg h46).symm.trans hm
                refine RW.yi (.pointer (some ⟨b45, 0, none⟩)) rfl rfl (Yi.fieldAddr (j := 0) Try.underlying25 rfl Try.sizeOf22 rfl) ?_
                refine RW.yi (.agg (cf 16 (iv a0_0))) rfl rfl (Yi.to (Yi.loadA (i := 0) (j := 0) (m := 16) (cs := cat [(16, (iv a0_0)), p1 (u42)]) rfl rfl Try.isAgg22 Try.sizeOf22 (by rw [cat_size]; show _ ≤ 17; omega)) (congrArg Value.agg (Eq.trans (cat_part (ps := [(16, (iv a0_0)), p1 (u42)]) (nn := 16) (i := 0) (m := 16) 0 rfl (by decide) rfl rfl) (by rw [shf_zero])))) ?_
                refine RW.yi (.pointer (some ⟨b26, 0, none⟩)) rfl rfl (Yi.fieldAddr (j := 0) Try.underlying25 rfl Try.sizeOf22 rfl) ?_
                refine RW.yi (.agg (cf 16 (iv a0_0))) rfl rfl (Yi.to (Yi.loadA (i := 5) (j := 0) (m := 16) (cs := cat [(16, (iv a0_0)), p1 (sa0_1)]) rfl rfl Try.isAgg22 Try.sizeOf22 (by rw [cat_size]; show _ ≤ 17; omega)) (congrArg Value.agg (Eq.trans (cat_part (ps := [(16, (iv a0_0)), p1 (sa0_1)]) (nn := 16) (i := 0) (m := 16) 0 rfl (by decide) rfl rfl) (by rw [shf_zero])))) ?_
                refine RW.yi (.bool (decide (¬ eqF 16 a0_0 a0_0))) rfl rfl (Yi.neqA Try.underlying22 Try.eqGuardType22 Try.underlying3 Try.sizeOf3 Try.isAgg3 rfl rfl) ?_
                refine RW.yi (.bool (decide (¬ eqF 16 a0_0 a0_0))) rfl rfl (Yi.pv _ rfl) ?_
                refine RW.nil ?_
                refine EW.next ?_
                refine CW.fork 121 (¬ eqF 16 a0_0 a0_0) rfl (fun h47 => ?_) (fun h47 => ?_)
                · replace hm := (if_pos h47).symm.trans hm
                  refine CW.cond_true rfl ?_
                  refine CW.seq ?_
                  refine CW.region ?_
                  refine RW.yi (.bool false) rfl rfl (Yi.pv _ rfl) ?_
                  refine RW.nil ?_
                  refine EW.next ?_
                  refine CW.ret ?_
                  refine EW.thr ?_
                  obtain rfl := Option.some.inj hm
                  exact EW.done (rs := [.tmp 4]) rfl (.tmp (t := 4) (v := .bool false) rfl .nil) (fun _ hM => ⟨(), rfl, (hM.pick [] rfl rfl)⟩)
                · replace hm := (if_neg h47).symm.trans hm
                  refine CW.cond_false rfl ?_
                  refine CW.skip ?_
                  refine EW.next ?_
                  refine CW.join (fun a w => St 178 [(2, .pointer (some ⟨b26, 0, none⟩)), (6, .pointer (some ⟨u35.1, 0, none⟩)), (7, .int .i64 0), (8, u38)] a ∧ Mem w0 S [.blk b26 25 (cat [(16, (iv a0_0)), p1 (sa0_1)]), ro sa0_1 1 a0_1.length (ec e1 a0_1), .blk u35.1 67 (cat [(16, (iv a0_0)), p1 (u35.2.1), (512, (iv r34.1)), p1 (.map (some u35.2.2))]), .row u35.2.1 3 1 r34.2.1.length (ec e1 r34.2.1), mpE u35.2.2 r34.2.2, .row u38 39 3 r37.2.length (ec e3 r37.2)] w ∧ law05_HuffCodes_j1 K a0_0 a0_1 r34 r37 = some r) ?_ ?_
                  · refine CW.seq ?_
                    refine CW.region ?_
                    refine RW.yi (.pointer (some ⟨b45, 16, none⟩)) rfl rfl (Yi.fieldAddr (j := 1) Try.underlying25 rfl Try.sizeOf23 rfl) ?_
                    refine RW.yi (u42) rfl rfl (Yi.load1 (i := 0) _ rfl rfl Try.isAgg23 (cat_get1 (ps := [(16, (iv a0_0)), p1 (u42)]) 1 rfl rfl)) ?_
                    refine RW.yi (.int .i64 (r41.length : Int)) rfl rfl (Yi.lenS (cs := ec e1 r41) (m := r41.length) Try.underlying23 rfl (rdW 1 rfl)) ?_
                    refine RW.yi (.int .i64 0) rfl rfl (Yi.pv _ rfl) ?_
                    refine RW.nil ?_
                    refine EW.next ?_
                    refine CW.block ?_
                    refine CW.loop (fun k a w => ∃ (v58 : (List Int)) (v59 : Int), St 178 [(2, .pointer (some ⟨b26, 0, none⟩)), (6, .pointer (some ⟨u35.1, 0, none⟩)), (7, .int .i64 0), (8, u38), (18, .pointer (some ⟨b45, 0, none⟩)), (124, .int .i64 (r41.length : Int)), (125, .int .i64 v59)] a ∧ Mem w0 S [.blk b26 25 (cat [(16, (iv a0_0)), p1 (sa0_1)]), ro sa0_1 1 a0_1.length (ec e1 a0_1), .blk u35.1 67 (cat [(16, (iv a0_0)), p1 (u35.2.1), (512, (iv r34.1)), p1 (.map (some u35.2.2))]), .row u35.2.1 3 1 r34.2.1.length (ec e1 r34.2.1), mpE u35.2.2 r34.2.2, .row u38 39 3 r37.2.length (ec e3 r37.2), .blk b45 25 (cat [(16, (iv a0_0)), p1 (u42)]), .row u42 3 1 v58.length (ec e1 v58)] w ∧ law05_HuffCodes_l1 K a0_0 a0_1 r41 r34 r37 k v58 v59 = some r) K ?_ ?_ ?_
                    · rintro a w ⟨_, _, _, _, hm⟩
                      rw [law05_HuffCodes_l1.eq_1] at hm
                      cases hm
                    · exact fun a w hs hM => ⟨r41, 0, hs.sub ⟨rfl, rfl, rfl, rfl, rfl, rfl, rfl, trivial⟩, (hM.pick [5, 6, 2, 3, 4, 7, 0, 1] rfl rfl), hm⟩
                    · rintro k1 a w ⟨v58, v59, hs, hM, hm⟩
                      rw [law05_HuffCodes_l1.eq_2] at hm
                      refine CW.enter hs hM ?_
                      refine CW.seq ?_
                      refine CW.region ?_
                      refine RW.yi (.bool (decide (v59 < (r41.length : Int)))) rfl rfl (Yi.pv _ rfl) ?_
                      refine RW.nil ?_
                      refine EW.next ?_
                      refine CW.seq ?_
                      refine CW.fork 126 (v59 < (r41.length : Int)) rfl (fun h62 => ?_) (fun h62 => ?_)
                      · replace hm := (if_pos h62).symm.trans hm
                        refine CW.cond_true rfl ?_
                        refine CW.skip ?_
                        refine EW.next ?_
                        refine CW.seq ?_
                        refine CW.block ?_
                        refine CW.seq ?_
                        refine CW.region ?_
                        refine RW.yi (.int .i64 v59) rfl rfl (Yi.pv _ rfl) ?_
                        refine RW.yi (.int .i64 v59) rfl rfl (Yi.pv _ rfl) ?_
                        refine RW.nil ?_
                        refine EW.next ?_
                        refine CW.seq ?_
                        refine CW.seq ?_
                        refine CW.draws (by kernel_rfl) (by kernel_rfl) ?_
                        refine QW.yi (.pointer (some ⟨b45, 16, none⟩)) rfl rfl (Yi.fieldAddr (j := 1) Try.underlying25 rfl Try.sizeOf23 rfl) ?_
                        refine QW.yi (u42) rfl rfl (Yi.load1 (i := 6) _ rfl rfl Try.isAgg23 (cat_get1 (ps := [(16, (iv a0_0)), p1 (u42)]) 1 rfl rfl)) ?_
                        refine QW.yi (.int .i64 v59) rfl rfl (Yi.pv _ rfl) ?_
                        obtain ⟨g63, hm⟩ := of_guard hm
                        refine QW.yi (.pointer (some (eaddr u42 1 v59.toNat 0))) rfl rfl (Yi.idxS (m := v58.length) Try.underlying23 Try.sizeOf3 rfl rfl (rdW 7 rfl) g63.1 g63.2) ?_
                        refine QW.yi (.int .i64 (v58.getD v59.toNat 0)) rfl rfl (Yi.loadS (m := v58.length) (cs := ec e1 v58) _ rfl (rdW 7 rfl) Try.isAgg3 (by omega) (by omega) (by rw [ec_get (d := 0) e1_is (by omega) (by decide)]; rfl)) ?_
                        refine QW.yi (.pointer (some ⟨b26, 16, none⟩)) rfl rfl (Yi.fieldAddr (j := 1) Try.underlying25 rfl Try.sizeOf23 rfl) ?_
                        refine QW.yi (sa0_1) rfl rfl (Yi.load1 (i := 0) _ rfl rfl Try.isAgg23 (cat_get1 (ps := [(16, (iv a0_0)), p1 (sa0_1)]) 1 rfl rfl)) ?_
                        refine QW.yi (.int .i64 v59) rfl rfl (Yi.pv _ rfl) ?_
                        obtain ⟨g64, hm⟩ := of_guard hm
                        refine QW.yi (.pointer (some (eaddr sa0_1 1 v59.toNat 0))) rfl rfl (Yi.idxS (m := a0_1.length) Try.underlying23 Try.sizeOf3 rfl rfl (rdF 1 rfl) g64.1 g64.2) ?_
                        refine QW.yi (.int .i64 (a0_1.getD v59.toNat 0)) rfl rfl (Yi.loadS (m := a0_1.length) (cs := ec e1 a0_1) _ rfl (rdF 1 rfl) Try.isAgg3 (by omega) (by omega) (by rw [ec_get (d := 0) e1_is (by omega) (by decide)]; rfl)) ?_
                        refine QW.yi (.bool (decide (¬ (v58.getD v59.toNat 0) = (a0_1.getD v59.toNat 0)))) rfl rfl (Yi.pv _ rfl) ?_
                        refine QW.nil ?_
                        refine EW.next ?_
                        refine CW.fork 138 (¬ (v58.getD v59.toNat 0) = (a0_1.getD v59.toNat 0)) rfl (fun h65 => ?_) (fun h65 => ?_)
                        · replace hm := (if_pos h65).symm.trans hm
                          refine CW.cond_true rfl ?_
                          refine CW.seq ?_
                          refine CW.region ?_
                          refine RW.yi (.bool false) rfl rfl (Yi.pv _ rfl) ?_
                          refine RW.nil ?_
                          refine EW.next ?_
                          refine CW.ret ?_
                          refine EW.thr ?_
                          refine EW.blr ?_
                          refine EW.thr ?_
                          refine EW.thr ?_
                          refine EW.blr ?_
                          refine EW.thr ?_
                          obtain rfl := Option.some.inj hm
                          exact EW.done (rs := [.tmp 4]) rfl (.tmp (t := 4) (v := .bool false) rfl .nil) (fun _ hM => ⟨(), rfl, (hM.pick [] rfl rfl)⟩)
                        · replace hm := (if_neg h65).symm.trans hm
                          refine CW.cond_false rfl ?_
                          refine CW.skip ?_
                          refine EW.next ?_
                          refine CW.region ?_
                          refine RW.yi (.pointer (some ⟨b45, 16, none⟩)) rfl rfl (Yi.fieldAddr (j := 1) Try.underlying25 rfl Try.sizeOf23 rfl) ?_
                          refine RW.yi (u42) rfl rfl (Yi.load1 (i := 6) _ rfl rfl Try.isAgg23 (cat_get1 (ps := [(16, (iv a0_0)), p1 (u42)]) 1 rfl rfl)) ?_
                          refine RW.yi (.int .i64 v59) rfl rfl (Yi.pv _ rfl) ?_
                          refine RW.yi (.pointer (some (eaddr u42 1 v59.toNat 0))) rfl rfl (Yi.idxS (m := v58.length) Try.underlying23 Try.sizeOf3 rfl rfl (rdW 7 rfl) g63.1 g63.2) ?_
                          refine RW.yi (.int .i64 (v58.getD v59.toNat 0)) rfl rfl (Yi.loadS (m := v58.length) (cs := ec e1 v58) _ rfl (rdW 7 rfl) Try.isAgg3 (by omega) (by omega) (by rw [ec_get (d := 0) e1_is (by omega) (by decide)]; rfl)) ?_
                          refine RW.yi (.int .i64 (w64 ((v58.getD v59.toNat 0) + 1))) rfl rfl (Yi.pv _ rfl) ?_
                          refine RW.yi (.pointer (some (eaddr u42 1 v59.toNat 0))) rfl rfl (Yi.idxS (m := v58.length) Try.underlying23 Try.sizeOf3 rfl rfl (rdW 7 rfl) g63.1 g63.2) ?_
                          refine RW.storeE (r := 7) (cs' := ec e1 (v58.set v59.toNat (w64 ((v58.getD v59.toNat 0) + 1)))) rfl rfl rfl rfl Try.sizeOf3 rfl rfl (by omega) (by decide) (ec_set e1_is (d := 0) (by decide) (by omega) (rfl)) ?_
                          refine RW.conv (fun _ hM => hM.rowlen (i := 7) (m' := (v58.set v59.toNat (w64 ((v58.getD v59.toNat 0) + 1))).length) rfl (by simp)) ?_
                          refine RW.nil ?_
                          refine EW.bln ?_
                          refine EW.next ?_
                          refine CW.region ?_
                          refine RW.yi (.int .i64 (w64 (v59 + 1))) rfl rfl (Yi.pv _ rfl) ?_
                          refine RW.yi (.int .i64 (w64 (v59 + 1))) rfl rfl (Yi.pv _ rfl) ?_
                          refine RW.nil ?_
                          refine EW.thn ?_
                          exact fun a w hs hM => ⟨(v58.set v59.toNat (w64 ((v58.getD v59.toNat 0) + 1))), (w64 (v59 + 1)), hs.sub ⟨rfl, rfl, rfl, rfl, rfl, rfl, rfl, trivial⟩, (hM.pick [0, 1, 2, 3, 4, 5, 6, 7] rfl rfl), hm⟩
                      · replace hm := (if_neg h62).symm.trans hm
                        refine CW.cond_false rfl ?_
                        refine CW.exit ?_
                        refine EW.thx ?_
                        refine EW.thx ?_
                        refine EW.blx ?_
                        refine EW.thn ?_
                        exact fun a w hs hM => ⟨hs.sub ⟨rfl, rfl, rfl, rfl, trivial⟩, (hM.pick [0, 1, 2, 3, 4, 5] rfl rfl), hm⟩
                  · rintro a w ⟨hs, hM, hm⟩
                    unfold law05_HuffCodes_j1 at hm
                    refine CW.enter hs hM ?_
                    refine CW.seq ?_
                    refine CW.region ?_
                    refine RW.yi (.pointer (some ⟨u35.1, 0, none⟩)) rfl rfl (Yi.pv _ rfl) ?_
                    refine RW.yi (.pointer (some ⟨b26, 16, none⟩)) rfl rfl (Yi.fieldAddr (j := 1) Try.underlying25 rfl Try.sizeOf23 rfl) ?_
                    refine RW.yi (sa0_1) rfl rfl (Yi.load1 (i := 0) _ rfl rfl Try.isAgg23 (cat_get1 (ps := [(16, (iv a0_0)), p1 (sa0_1)]) 1 rfl rfl)) ?_
                    obtain ⟨g48, hm⟩ := of_guard hm
                    refine RW.yi (.pointer (some (eaddr sa0_1 1 0 0))) rfl rfl (Yi.idxS (m := a0_1.length) Try.underlying23 Try.sizeOf3 rfl rfl (rdF 1 rfl) (by decide) g48) ?_
                    refine RW.yi (.int .i64 (a0_1.getD 0 0)) rfl rfl (Yi.loadS (m := a0_1.length) (cs := ec e1 a0_1) _ rfl (rdF 1 rfl) Try.isAgg3 (by omega) (by omega) (by rw [ec_get (d := 0) e1_is (by omega) (by decide)]; rfl)) ?_
                    obtain ⟨r49, hr49, hm⟩ := of_bind hm
                    refine RW.callM (cs := []) [.blk u35.1 67 (cat [(16, (iv a0_0)), p1 (u35.2.1), (512, (iv r34.1)), p1 (.map (some u35.2.2))]), .row u35.2.1 3 1 r34.2.1.length (ec e1 r34.2.1), mpE u35.2.2 r34.2.2] [.blk b26 25 (cat [(16, (iv a0_0)), p1 (sa0_1)]), ro sa0_1 1 a0_1.length (ec e1 a0_1), .row u38 39 3 r37.2.length (ec e3 r37.2)] [] [2, 3, 4, 0, 1, 5] (fun (_ : Unit) => [.blk u35.1 67 (cat [(16, (iv a0_0)), p1 (u35.2.1), (512, (iv r34.1)), p1 (.map (some u35.2.2))]), .row u35.2.1 3 1 r34.2.1.length (ec e1 r34.2.1), mpE u35.2.2 r34.2.2]) (fun (_ : Unit) => .tuple #[.int .i64 r49.1, .int .i64 r49.2.1, .bool r49.2.2]) rfl rfl rfl rfl Try.call13 rfl rfl rfl (fun w hM => lent0) (.inl fun _ => rfl) (fun w S' hM => c_huff_Table_Code K a0_0 r34.2.1 r34.1 r34.2.2 (a0_1.getD 0 0) u35.1 u35.2.1 u35.2.2 r49 w S' hM hr49) (fun _ => ?_)
                    refine RW.yi (.tuple #[.int .i64 r49.1, .int .i64 r49.2.1, .bool r49.2.2]) rfl rfl (Yi.pv _ rfl) ?_
                    refine RW.yi (.int .i64 r49.1) rfl rfl (Yi.pv _ rfl) ?_
                    refine RW.yi (.int .i64 r49.2.1) rfl rfl (Yi.pv _ rfl) ?_
                    refine RW.yi (.bool r49.2.2) rfl rfl (Yi.pv _ rfl) ?_
                    refine RW.yi (.int .i64 r49.1) rfl rfl (Yi.pv _ rfl) ?_
                    refine RW.yi (.int .i64 r49.2.1) rfl rfl (Yi.pv _ rfl) ?_
                    refine RW.yi (.bool r49.2.2) rfl rfl (Yi.pv _ rfl) ?_
                    refine RW.nil ?_
                    refine EW.next ?_
                    refine CW.seq ?_
                    refine CW.region ?_
                    refine RW.yi (.int .i64 r49.1) rfl rfl (Yi.pv _ rfl) ?_
                    refine RW.yi (u38) rfl rfl (Yi.pv _ rfl) ?_
                    obtain ⟨g52, hm⟩ := of_guard hm
                    refine RW.yi (.pointer (some (eaddr u38 3 0 0))) rfl rfl (Yi.idxS (m := r37.2.length) Try.underlying35 Try.sizeOf39 rfl rfl (rdW 5 rfl) (by decide) g52) ?_
                    refine RW.yi (.pointer (some (eaddr u38 3 0 1))) rfl rfl (Yi.fieldE (j := 1) Try.underlying39 rfl Try.sizeOf3 rfl) ?_
                    refine RW.yi (.int .i64 ((r37.2.getD 0 (0, 0, 0)).2.1)) rfl rfl (Yi.loadS (m := r37.2.length) (cs := ec e3 r37.2) _ rfl (rdW 5 rfl) Try.isAgg3 (by omega) (by omega) (by rw [ec_get (d := (0, 0, 0)) e3_is (by omega) (by decide)]; rfl)) ?_
                    refine RW.yi (.bool (decide (r49.1 = (r37.2.getD 0 (0, 0, 0)).2.1))) rfl rfl (Yi.pv _ rfl) ?_
                    refine RW.yi (.bool (decide (r49.1 = (r37.2.getD 0 (0, 0, 0)).2.1))) rfl rfl (Yi.pv _ rfl) ?_
                    refine RW.fork 163 (r49.1 = (r37.2.getD 0 (0, 0, 0)).2.1) rfl (fun h53 => ?_) (fun h53 => ?_)
                    · replace hm := (if_pos h53).symm.trans hm
                      refine RW.yi (.int .i64 r49.2.1) rfl rfl (Yi.pv _ rfl) ?_
                      refine RW.yi (u38) rfl rfl (Yi.pv _ rfl) ?_
                      refine RW.yi (.pointer (some (eaddr u38 3 0 0))) rfl rfl (Yi.idxS (m := r37.2.length) Try.underlying35 Try.sizeOf39 rfl rfl (rdW 5 rfl) (by decide) g52) ?_
                      refine RW.yi (.pointer (some (eaddr u38 3 0 2))) rfl rfl (Yi.fieldE (j := 2) Try.underlying39 rfl Try.sizeOf3 rfl) ?_
                      refine RW.yi (.int .i64 ((r37.2.getD 0 (0, 0, 0)).2.2)) rfl rfl (Yi.loadS (m := r37.2.length) (cs := ec e3 r37.2) _ rfl (rdW 5 rfl) Try.isAgg3 (by omega) (by omega) (by rw [ec_get (d := (0, 0, 0)) e3_is (by omega) (by decide)]; rfl)) ?_
                      refine RW.yi (.bool (decide (r49.2.1 = (r37.2.getD 0 (0, 0, 0)).2.2))) rfl rfl (Yi.pv _ rfl) ?_
                      refine RW.yi (.bool (decide (r49.2.1 = (r37.2.getD 0 (0, 0, 0)).2.2))) rfl rfl (Yi.pv _ rfl) ?_
                      refine RW.yi (.bool (decide (r49.2.1 = (r37.2.getD 0 (0, 0, 0)).2.2))) rfl rfl (Yi.pv _ rfl) ?_
                      refine RW.fork 171 (r49.2.1 = (r37.2.getD 0 (0, 0, 0)).2.2) rfl (fun h54 => ?_) (fun h54 => ?_)
                      · replace hm := (if_pos h54).symm.trans hm
                        refine RW.yi (.int .i64 0) rfl rfl (Yi.pv _ rfl) ?_
                        refine RW.yi (.bool true) rfl rfl (Yi.pv _ rfl) ?_
                        refine RW.yi (.bool true) rfl rfl (Yi.pv _ rfl) ?_
                        refine RW.yi (.bool true) rfl rfl (Yi.pv _ rfl) ?_
                        obtain ⟨r55, hr55, hm⟩ := of_bind hm
                        refine RW.ca (.bool r55) rfl rfl (Ca.call (cs := []) [] rfl rfl Try.call10 (fun w hM => lent0) (fun w S' hM => (c_law05_awake K  r55 w S' hM hr55).mono (fun _ _ h => by obtain ⟨_, h1, h2⟩ := h; exact ⟨h1, h2⟩))) ?_
                        refine RW.yi (.bool r55) rfl rfl (Yi.pv _ rfl) ?_
                        refine RW.yi (.bool r55) rfl rfl (Yi.pv _ rfl) ?_
                        refine RW.nil ?_
                        refine EW.next ?_
                        refine CW.ret ?_
                        obtain rfl := Option.some.inj hm
                        exact EW.done (rs := [.tmp 4]) rfl (.tmp (t := 4) (v := .bool r55) rfl .nil) (fun _ hM => ⟨(), rfl, (hM.pick [] rfl rfl)⟩)
                      · replace hm := (if_neg h54).symm.trans hm
                        refine RW.pass rfl rfl ?_
                        refine RW.pass rfl rfl ?_
                        refine RW.yi (.bool false) rfl rfl (Yi.pv _ rfl) ?_
                        refine RW.yi (.bool false) rfl rfl (Yi.pv _ rfl) ?_
                        refine RW.pass rfl rfl ?_
                        refine RW.yi (.bool false) rfl rfl (Yi.pv _ rfl) ?_
                        refine RW.yi (.bool false) rfl rfl (Yi.pv _ rfl) ?_
                        refine RW.nil ?_
                        refine EW.next ?_
                        refine CW.ret ?_
                        obtain rfl := Option.some.inj hm
                        exact EW.done (rs := [.tmp 4]) rfl (.tmp (t := 4) (v := .bool false) rfl .nil) (fun _ hM => ⟨(), rfl, (hM.pick [] rfl rfl)⟩)
                    · replace hm := (if_neg h53).symm.trans hm
                      refine RW.pass rfl rfl ?_
                      refine RW.pass rfl rfl ?_
                      refine RW.pass rfl rfl ?_
                      refine RW.pass rfl rfl ?_
                      refine RW.pass rfl rfl ?_
                      refine RW.pass rfl rfl ?_
                      refine RW.yi (.bool false) rfl rfl (Yi.pv _ rfl) ?_
                      refine RW.yi (.bool false) rfl rfl (Yi.pv _ rfl) ?_
                      refine RW.pass rfl rfl ?_
                      refine RW.pass rfl rfl ?_
                      refine RW.yi (.bool false) rfl rfl (Yi.pv _ rfl) ?_
                      refine RW.yi (.bool false) rfl rfl (Yi.pv _ rfl) ?_
                      refine RW.pass rfl rfl ?_
                      refine RW.yi (.bool false) rfl rfl (Yi.pv _ rfl) ?_
                      refine RW.yi (.bool false) rfl rfl (Yi.pv _ rfl) ?_
                      refine RW.nil ?_
                      refine EW.next ?_
                      refine CW.ret ?_
                      obtain rfl := Option.some.inj hm
                      exact EW.done (rs := [.tmp 4]) rfl (.tmp (t := 4) (v := .bool false) rfl .nil) (fun _ hM => ⟨(), rfl, (hM.pick [] rfl rfl)⟩)
          · replace hm := (if_neg h40).symm.trans hm
            refine RW.yi (.bool true) rfl rfl (Yi.pv _ rfl) ?_
            refine RW.nil ?_
            refine EW.next ?_
            refine CW.cond_true rfl ?_
            refine CW.seq ?_
            refine CW.region ?_
            refine RW.yi (.pointer (some ⟨u35.1, 0, none⟩)) rfl rfl (Yi.pv _ rfl) ?_
            refine RW.yi (.bool false) rfl rfl (Yi.eqNil false rfl rfl Try.underlying27 (.inr ⟨rfl, rfl⟩)) ?_
            refine RW.yi (.bool false) rfl rfl (Yi.pv _ rfl) ?_
            refine RW.pass rfl rfl ?_
            refine RW.pass rfl rfl ?_
            refine RW.yi (.bool false) rfl rfl (Yi.pv _ rfl) ?_
            refine RW.yi (.bool false) rfl rfl (Yi.pv _ rfl) ?_
            refine RW.pass rfl rfl ?_
            refine RW.yi (.bool false) rfl rfl (Yi.pv _ rfl) ?_
            refine RW.yi (.bool false) rfl rfl (Yi.pv _ rfl) ?_
            refine RW.nil ?_
            refine EW.next ?_
            refine CW.ret ?_
            refine EW.thr ?_
            obtain rfl := Option.some.inj hm
            exact EW.done (rs := [.tmp 4]) rfl (.tmp (t := 4) (v := .bool false) rfl .nil) (fun _ hM => ⟨(), rfl, (hM.pick [] rfl rfl)⟩)
    · dsimp only at hm
      refine RW.callM (cs := []) [] [.blk b32 25 (cat [(16, (iv a0_0)), p1 (u30)]), .row u30 3 1 (([] : List Int) ++ a0_1).length (ec e1 (([] : List Int) ++ a0_1)), .blk b26 25 (cat [(16, (iv a0_0)), p1 (sa0_1)]), ro sa0_1 1 a0_1.length (ec e1 a0_1)] [ro u30 1 (([] : List Int) ++ a0_1).length (ec e1 (([] : List Int) ++ a0_1))] [0, 1, 2, 3] (fun (_ : Unit) => []) (fun (_ : Unit) => .tuple #[.pointer none, .int .i64 4]) rfl rfl rfl rfl Try.call11 rfl rfl rfl (fun w hM => lentW (A := []) hM 1 rfl (lent0)) (.inl fun _ => rfl) (fun w S' hM => c_huff_New K a0_0 (([] : List Int) ++ a0_1) u30 (.inr r116) w S' hM hr33) (fun _ => ?_)
      refine RW.yi (.tuple #[.pointer none, .int .i64 4]) rfl rfl (Yi.pv _ rfl) ?_
      refine RW.yi (.pointer none) rfl rfl (Yi.pv _ rfl) ?_
      refine RW.yi (.int .i64 4) rfl rfl (Yi.pv _ rfl) ?_
      refine RW.yi (.pointer none) rfl rfl (Yi.pv _ rfl) ?_
      refine RW.yi (.int .i64 4) rfl rfl (Yi.pv _ rfl) ?_
      refine RW.nil ?_
      refine EW.next ?_
      refine CW.seq ?_
      refine CW.region ?_
      refine RW.yi (.agg (cat [(16, (iv a0_0)), p1 (sa0_1)])) rfl rfl (Yi.loadW (i := 2) rfl rfl Try.isAgg25 (by simp only [cat_size]; exact Try.sizeOf25)) ?_
      obtain ⟨r118, hr118, hm⟩ := of_bind hm
      refine RW.callM (cs := []) [] [.blk b32 25 (cat [(16, (iv a0_0)), p1 (u30)]), .row u30 3 1 (([] : List Int) ++ a0_1).length (ec e1 (([] : List Int) ++ a0_1)), .blk b26 25 (cat [(16, (iv a0_0)), p1 (sa0_1)]), ro sa0_1 1 a0_1.length (ec e1 a0_1)] [ro sa0_1 1 a0_1.length (ec e1 a0_1)] [0, 1, 2, 3] (fun (u119 : Value) => [.row u119 39 3 r118.2.length (ec e3 r118.2)]) (fun (u119 : Value) => .tuple #[u119, .bool r118.1]) rfl rfl rfl rfl Try.call14 rfl rfl rfl (fun w hM => lentF (A := []) hM 3 rfl (lent0)) (.inl fun _ => rfl) (fun w S' hM => c_ref05_Codes K a0_0 a0_1 sa0_1 r118 w S' hM hr118) (fun u119 => ?_)
      refine RW.yi (.tuple #[u119, .bool r118.1]) rfl rfl (Yi.pv _ rfl) ?_
      refine RW.yi (u119) rfl rfl (Yi.pv _ rfl) ?_
      refine RW.yi (.bool r118.1) rfl rfl (Yi.pv _ rfl) ?_
      refine RW.yi (u119) rfl rfl (Yi.pv _ rfl) ?_
      refine RW.yi (.bool r118.1) rfl rfl (Yi.pv _ rfl) ?_
      refine RW.nil ?_
      refine EW.next ?_
      refine CW.join (fun a w => St 178 [(1, .int .i64 a1), (2, .pointer (some ⟨b26, 0, none⟩)), (6, .pointer none), (7, .int .i64 4), (8, u119), (9, .bool r118.1)] a ∧ Mem w0 S [.blk b26 25 (cat [(16, (iv a0_0)), p1 (sa0_1)]), ro sa0_1 1 a0_1.length (ec e1 a0_1), .row u119 39 3 r118.2.length (ec e3 r118.2)] w ∧ law05_HuffCodes_j11 K a0_0 a0_1 a1 r118 = some r) ?_ ?_
      · refine CW.seq ?_
        refine CW.region ?_
        refine RW.yi (.pointer (some ⟨b32, 16, none⟩)) rfl rfl (Yi.fieldAddr (j := 1) Try.underlying25 rfl Try.sizeOf23 rfl) ?_
        refine RW.yi (u30) rfl rfl (Yi.load1 (i := 1) _ rfl rfl Try.isAgg23 (cat_get1 (ps := [(16, (iv a0_0)), p1 (u30)]) 1 rfl rfl)) ?_
        refine RW.yi (.int .i64 ((([] : List Int) ++ a0_1).length : Int)) rfl rfl (Yi.lenS (cs := ec e1 (([] : List Int) ++ a0_1)) (m := (([] : List Int) ++ a0_1).length) Try.underlying23 rfl (rdW 2 rfl)) ?_
        refine RW.yi (.int .i64 0) rfl rfl (Yi.pv _ rfl) ?_
        refine RW.nil ?_
        refine EW.next ?_
        refine CW.block ?_
        refine CW.loop (fun k a w => ∃ (v155 : (List Int)) (v156 : Int), St 178 [(1, .int .i64 a1), (2, .pointer (some ⟨b26, 0, none⟩)), (5, .pointer (some ⟨b32, 0, none⟩)), (6, .pointer none), (7, .int .i64 4), (8, u119), (9, .bool r118.1), (42, .int .i64 ((([] : List Int) ++ a0_1).length : Int)), (43, .int .i64 v156)] a ∧ Mem w0 S [.blk b26 25 (cat [(16, (iv a0_0)), p1 (sa0_1)]), ro sa0_1 1 a0_1.length (ec e1 a0_1), .blk b32 25 (cat [(16, (iv a0_0)), p1 (u30)]), .row u30 3 1 v155.length (ec e1 v155), .row u119 39 3 r118.2.length (ec e3 r118.2)] w ∧ law05_HuffCodes_l6 K a0_0 a0_1 a1 r118 k v155 v156 = some r) K ?_ ?_ ?_
        · rintro a w ⟨_, _, _, _, hm⟩
          rw [law05_HuffCodes_l6.eq_1] at hm
          cases hm
        · exact fun a w hs hM => ⟨(([] : List Int) ++ a0_1), 0, hs.sub ⟨rfl, rfl, rfl, rfl, rfl, rfl, rfl, rfl, rfl, trivial⟩, (hM.pick [3, 4, 1, 2, 0] rfl rfl), hm⟩
        · rintro k6 a w ⟨v155, v156, hs, hM, hm⟩
          rw [law05_HuffCodes_l6.eq_2] at hm
          refine CW.enter hs hM ?_
          refine CW.seq ?_
          refine CW.region ?_
          refine RW.yi (.bool (decide (v156 < ((([] : List Int) ++ a0_1).length : Int)))) rfl rfl (Yi.pv _ rfl) ?_
          refine RW.nil ?_
          refine EW.next ?_
          refine CW.seq ?_
          refine CW.fork 44 (v156 < ((([] : List Int) ++ a0_1).length : Int)) rfl (fun h159 => ?_) (fun h159 => ?_)
          · replace hm := (if_pos h159).symm.trans hm
            refine CW.cond_true rfl ?_
            refine CW.skip ?_
            refine EW.next ?_
            refine CW.seq ?_
            refine CW.block ?_
            refine CW.seq ?_
            refine CW.region ?_
            refine RW.yi (.int .i64 v156) rfl rfl (Yi.pv _ rfl) ?_
            refine RW.yi (.int .i64 v156) rfl rfl (Yi.pv _ rfl) ?_
            refine RW.nil ?_
            refine EW.next ?_
            refine CW.region ?_
            refine RW.yi (.pointer (some ⟨b32, 16, none⟩)) rfl rfl (Yi.fieldAddr (j := 1) Try.underlying25 rfl Try.sizeOf23 rfl) ?_
            refine RW.yi (u30) rfl rfl (Yi.load1 (i := 2) _ rfl rfl Try.isAgg23 (cat_get1 (ps := [(16, (iv a0_0)), p1 (u30)]) 1 rfl rfl)) ?_
            refine RW.yi (.int .i64 v156) rfl rfl (Yi.pv _ rfl) ?_
            obtain ⟨g160, hm⟩ := of_guard hm
            refine RW.yi (.pointer (some (eaddr u30 1 v156.toNat 0))) rfl rfl (Yi.idxS (m := v155.length) Try.underlying23 Try.sizeOf3 rfl rfl (rdW 3 rfl) g160.1 g160.2) ?_
            refine RW.yi (.int .i64 (v155.getD v156.toNat 0)) rfl rfl (Yi.loadS (m := v155.length) (cs := ec e1 v155) _ rfl (rdW 3 rfl) Try.isAgg3 (by omega) (by omega) (by rw [ec_get (d := 0) e1_is (by omega) (by decide)]; rfl)) ?_
            refine RW.yi (.int .i64 (w64 ((v155.getD v156.toNat 0) + 1))) rfl rfl (Yi.pv _ rfl) ?_
            refine RW.yi (.pointer (some (eaddr u30 1 v156.toNat 0))) rfl rfl (Yi.idxS (m := v155.length) Try.underlying23 Try.sizeOf3 rfl rfl (rdW 3 rfl) g160.1 g160.2) ?_
            refine RW.storeE (r := 3) (cs' := ec e1 (v155.set v156.toNat (w64 ((v155.getD v156.toNat 0) + 1)))) rfl rfl rfl rfl Try.sizeOf3 rfl rfl (by omega) (by decide) (ec_set e1_is (d := 0) (by decide) (by omega) (rfl)) ?_
            refine RW.conv (fun _ hM => hM.rowlen (i := 3) (m' := (v155.set v156.toNat (w64 ((v155.getD v156.toNat 0) + 1))).length) rfl (by simp)) ?_
            refine RW.nil ?_
            refine EW.bln ?_
            refine EW.next ?_
            refine CW.region ?_
            refine RW.yi (.int .i64 (w64 (v156 + 1))) rfl rfl (Yi.pv _ rfl) ?_
            refine RW.yi (.int .i64 (w64 (v156 + 1))) rfl rfl (Yi.pv _ rfl) ?_
            refine RW.nil ?_
            refine EW.thn ?_
            exact fun a w hs hM => ⟨(v155.set v156.toNat (w64 ((v155.getD v156.toNat 0) + 1))), (w64 (v156 + 1)), hs.sub ⟨rfl, rfl, rfl, rfl, rfl, rfl, rfl, rfl, rfl, trivial⟩, (hM.pick [0, 1, 2, 3, 4] rfl rfl), hm⟩
          · replace hm := (if_neg h159).symm.trans hm
            refine CW.cond_false rfl ?_
            refine CW.exit ?_
            refine EW.thx ?_
            refine EW.thx ?_
            refine EW.blx ?_
            refine EW.thn ?_
            exact fun a w hs hM => ⟨hs.sub ⟨rfl, rfl, rfl, rfl, rfl, rfl, trivial⟩, (hM.pick [0, 1, 4] rfl rfl), hm⟩
      · rintro a w ⟨hs, hM, hm⟩
        unfold law05_HuffCodes_j11 at hm
        refine CW.enter hs hM ?_
        refine CW.join (fun a w => St 178 [(1, .int .i64 a1), (2, .pointer (some ⟨b26, 0, none⟩)), (6, .pointer none), (7, .int .i64 4), (8, u119), (9, .bool r118.1)] a ∧ Mem w0 S [.blk b26 25 (cat [(16, (iv a0_0)), p1 (sa0_1)]), ro sa0_1 1 a0_1.length (ec e1 a0_1), .row u119 39 3 r118.2.length (ec e3 r118.2)] w ∧ law05_HuffCodes_j10 K a0_0 a0_1 a1 r118 = some r) ?_ ?_
        · refine CW.seq ?_
          refine CW.region ?_
          refine RW.yi (.agg (cat [(16, (iv a0_0)), p1 (sa0_1)])) rfl rfl (Yi.loadW (i := 0) rfl rfl Try.isAgg25 (by simp only [cat_size]; exact Try.sizeOf25)) ?_
          obtain ⟨r149, hr149, hm⟩ := of_bind hm
          refine RW.ca (.bool r149) rfl rfl (Ca.call (cs := []) [ro sa0_1 1 a0_1.length (ec e1 a0_1)] rfl rfl Try.call15 (fun w hM => lentF (A := []) hM 1 rfl (lent0)) (fun w S' hM => (c_huff_Right K a0_0 a0_1 sa0_1 r149 w S' hM hr149).mono (fun _ _ h => by obtain ⟨_, h1, h2⟩ := h; exact ⟨h1, h2⟩))) ?_
          refine RW.yi (.bool r118.1) rfl rfl (Yi.pv _ rfl) ?_
          refine RW.forkB 55 (r149) rfl (fun h150 => ?_) (fun h150 => ?_)
          · replace hm := (if_pos h150).symm.trans hm
            refine RW.forkB 56 (r118.1) rfl (fun h151 => ?_) (fun h151 => ?_)
            · replace hm := (if_pos h151).symm.trans hm
              refine RW.yi (.bool false) rfl rfl (Yi.neB (b := true) (c := true) rfl rfl Try.underlying4) ?_
              refine RW.nil ?_
              refine EW.next ?_
              refine CW.cond_false rfl ?_
              refine CW.skip ?_
              refine EW.thn ?_
              exact fun a w hs hM => ⟨hs.sub ⟨rfl, rfl, rfl, rfl, rfl, rfl, trivial⟩, (hM.pick [0, 1, 2] rfl rfl), hm⟩
            · replace hm := (if_neg h151).symm.trans hm
              refine RW.yi (.bool true) rfl rfl (Yi.neB (b := true) (c := false) rfl rfl Try.underlying4) ?_
              refine RW.nil ?_
              refine EW.next ?_
              refine CW.cond_true rfl ?_
              refine CW.seq ?_
              refine CW.region ?_
              refine RW.yi (.bool false) rfl rfl (Yi.pv _ rfl) ?_
              refine RW.nil ?_
              refine EW.next ?_
              refine CW.ret ?_
              refine EW.thr ?_
              obtain rfl := Option.some.inj hm
              exact EW.done (rs := [.tmp 4]) rfl (.tmp (t := 4) (v := .bool false) rfl .nil) (fun _ hM => ⟨(), rfl, (hM.pick [] rfl rfl)⟩)
          · replace hm := (if_neg h150).symm.trans hm
            refine RW.forkB 56 (r118.1) rfl (fun h152 => ?_) (fun h152 => ?_)
            · replace hm := (if_pos h152).symm.trans hm
              refine RW.yi (.bool true) rfl rfl (Yi.neB (b := false) (c := true) rfl rfl Try.underlying4) ?_
              refine RW.nil ?_
              refine EW.next ?_
              refine CW.cond_true rfl ?_
              refine CW.seq ?_
              refine CW.region ?_
              refine RW.yi (.bool false) rfl rfl (Yi.pv _ rfl) ?_
              refine RW.nil ?_
              refine EW.next ?_
              refine CW.ret ?_
              refine EW.thr ?_
              obtain rfl := Option.some.inj hm
              exact EW.done (rs := [.tmp 4]) rfl (.tmp (t := 4) (v := .bool false) rfl .nil) (fun _ hM => ⟨(), rfl, (hM.pick [] rfl rfl)⟩)
            · replace hm := (if_neg h152).symm.trans hm
              refine RW.yi (.bool false) rfl rfl (Yi.neB (b := false) (c := false) rfl rfl Try.underlying4) ?_
              refine RW.nil ?_
              refine EW.next ?_
              refine CW.cond_false rfl ?_
              refine CW.skip ?_
              refine EW.thn ?_
              exact fun a w hs hM => ⟨hs.sub ⟨rfl, rfl, rfl, rfl, rfl, rfl, trivial⟩, (hM.pick [0, 1, 2] rfl rfl), hm⟩
        · rintro a w ⟨hs, hM, hm⟩
          unfold law05_HuffCodes_j10 at hm
          refine CW.enter hs hM ?_
          refine CW.seq ?_
          refine CW.seq ?_
          refine CW.region ?_
          refine RW.yi (.bool r118.1) rfl rfl (Yi.pv _ rfl) ?_
          refine RW.forkB 58 (r118.1) rfl (fun h121 => ?_) (fun h121 => ?_)
          · replace hm := (if_pos h121).symm.trans hm
            refine RW.yi (.bool false) rfl rfl (Yi.pv _ rfl) ?_
            refine RW.nil ?_
            refine EW.next ?_
            refine CW.cond_false rfl ?_
            refine CW.skip ?_
            refine EW.next ?_
            refine CW.join (fun a w => St 178 [(2, .pointer (some ⟨b26, 0, none⟩)), (6, .pointer none), (7, .int .i64 4), (8, u119)] a ∧ Mem w0 S [.blk b26 25 (cat [(16, (iv a0_0)), p1 (sa0_1)]), ro sa0_1 1 a0_1.length (ec e1 a0_1), .row u119 39 3 r118.2.length (ec e3 r118.2)] w ∧ law05_HuffCodes_j8 K a0_0 a0_1 r118 = some r) ?_ ?_
            · refine CW.seq ?_
              refine CW.region ?_
              refine RW.yi (.int .i64 0) rfl rfl (Yi.pv _ rfl) ?_
              refine RW.nil ?_
              refine EW.next ?_
              refine CW.block ?_
              refine CW.loop (fun k a w => ∃ (v136 : Int), St 178 [(1, .int .i64 a1), (2, .pointer (some ⟨b26, 0, none⟩)), (6, .pointer none), (7, .int .i64 4), (8, u119), (69, .int .i64 v136)] a ∧ Mem w0 S [.blk b26 25 (cat [(16, (iv a0_0)), p1 (sa0_1)]), ro sa0_1 1 a0_1.length (ec e1 a0_1), .row u119 39 3 r118.2.length (ec e3 r118.2)] w ∧ law05_HuffCodes_l5 K a0_0 a0_1 a1 r118 k v136 = some r) K ?_ ?_ ?_
              · rintro a w ⟨_, _, _, hm⟩
                rw [law05_HuffCodes_l5.eq_1] at hm
                cases hm
              · exact fun a w hs hM => ⟨0, hs.sub ⟨rfl, rfl, rfl, rfl, rfl, rfl, trivial⟩, (hM.pick [0, 1, 2] rfl rfl), hm⟩
              · rintro k5 a w ⟨v136, hs, hM, hm⟩
                rw [law05_HuffCodes_l5.eq_2] at hm
                refine CW.enter hs hM ?_
                refine CW.seq ?_
                refine CW.region ?_
                refine RW.yi (.bool (decide (v136 < 259))) rfl rfl (Yi.pv _ rfl) ?_
                refine RW.nil ?_
                refine EW.next ?_
                refine CW.seq ?_
                refine CW.fork 70 (v136 < 259) rfl (fun h138 => ?_) (fun h138 => ?_)
                · replace hm := (if_pos h138).symm.trans hm
                  refine CW.cond_true rfl ?_
                  refine CW.skip ?_
                  refine EW.next ?_
                  refine CW.seq ?_
                  refine CW.block ?_
                  refine CW.seq ?_
                  refine CW.region ?_
                  refine RW.yi (.int .i64 v136) rfl rfl (Yi.pv _ rfl) ?_
                  refine RW.yi (.int .i64 v136) rfl rfl (Yi.pv _ rfl) ?_
                  refine RW.nil ?_
                  refine EW.next ?_
                  refine CW.seq ?_
                  refine CW.region ?_
                  refine RW.yi (.int .i64 v136) rfl rfl (Yi.pv _ rfl) ?_
                  refine RW.yi (.int .i64 (w64 (v136 - 2))) rfl rfl (Yi.pv _ rfl) ?_
                  refine RW.yi (.int .i64 (w64 (v136 - 2))) rfl rfl (Yi.pv _ rfl) ?_
                  refine RW.nil ?_
                  refine EW.next ?_
                  refine CW.join (fun a w => ∃ (v140 : Int), St 178 [(1, .int .i64 a1), (2, .pointer (some ⟨b26, 0, none⟩)), (6, .pointer none), (7, .int .i64 4), (8, u119), (12, .int .i64 v140), (69, .int .i64 v136)] a ∧ Mem w0 S [.blk b26 25 (cat [(16, (iv a0_0)), p1 (sa0_1)]), ro sa0_1 1 a0_1.length (ec e1 a0_1), .row u119 39 3 r118.2.length (ec e3 r118.2)] w ∧ law05_HuffCodes_j9 K (law05_HuffCodes_l5 K a0_0 a0_1 a1 r118 k5) r118 v136 v140 = some r) ?_ ?_
                  · refine CW.seq ?_
                    refine CW.region ?_
                    refine RW.yi (.int .i64 v136) rfl rfl (Yi.pv _ rfl) ?_
                    refine RW.yi (.bool (decide (v136 = 0))) rfl rfl (Yi.pv _ rfl) ?_
                    refine RW.nil ?_
                    refine EW.next ?_
                    refine CW.fork 75 (v136 = 0) rfl (fun h147 => ?_) (fun h147 => ?_)
                    · replace hm := (if_pos h147).symm.trans hm
                      refine CW.cond_true rfl ?_
                      refine CW.region ?_
                      refine RW.yi (.int .i64 a1) rfl rfl (Yi.pv _ rfl) ?_
                      refine RW.yi (.int .i64 a1) rfl rfl (Yi.pv _ rfl) ?_
                      refine RW.nil ?_
                      refine EW.thn ?_
                      exact fun a w hs hM => ⟨a1, hs.sub ⟨rfl, rfl, rfl, rfl, rfl, rfl, rfl, trivial⟩, (hM.pick [0, 1, 2] rfl rfl), hm⟩
                    · replace hm := (if_neg h147).symm.trans hm
                      refine CW.cond_false rfl ?_
                      refine CW.skip ?_
                      refine EW.thn ?_
                      exact fun a w hs hM => ⟨(w64 (v136 - 2)), hs.sub ⟨rfl, rfl, rfl, rfl, rfl, rfl, rfl, trivial⟩, (hM.pick [0, 1, 2] rfl rfl), hm⟩
                  · rintro a w ⟨v140, hs, hM, hm⟩
                    unfold law05_HuffCodes_j9 at hm
                    refine CW.enter hs hM ?_
                    refine CW.seq ?_
                    refine CW.region ?_
                    refine RW.yi (.pointer none) rfl rfl (Yi.pv _ rfl) ?_
                    refine RW.yi (.int .i64 v140) rfl rfl (Yi.pv _ rfl) ?_
                    obtain ⟨r141, hr141, hm⟩ := of_bind hm
                    refine RW.ca (.tuple #[.int .i64 0, .int .i64 0, .bool false]) rfl rfl (Ca.call (cs := []) [] rfl rfl Try.call13 (fun w hM => lent0) (fun w S' hM => (c_huff_Table_Code_2 K v140 r141 w S' hM hr141).mono (fun _ _ h => by obtain ⟨_, h1, h2⟩ := h; exact ⟨h1, h2⟩))) ?_
                    refine RW.yi (.tuple #[.int .i64 0, .int .i64 0, .bool false]) rfl rfl (Yi.pv _ rfl) ?_
                    refine RW.yi (.int .i64 0) rfl rfl (Yi.pv _ rfl) ?_
                    refine RW.yi (.int .i64 0) rfl rfl (Yi.pv _ rfl) ?_
                    refine RW.yi (.bool false) rfl rfl (Yi.pv _ rfl) ?_
                    refine RW.yi (.int .i64 0) rfl rfl (Yi.pv _ rfl) ?_
                    refine RW.yi (.int .i64 0) rfl rfl (Yi.pv _ rfl) ?_
                    refine RW.yi (.bool false) rfl rfl (Yi.pv _ rfl) ?_
                    refine RW.nil ?_
                    refine EW.next ?_
                    refine CW.seq ?_
                    refine CW.region ?_
                    refine RW.yi (u119) rfl rfl (Yi.pv _ rfl) ?_
                    refine RW.yi (.int .i64 v140) rfl rfl (Yi.pv _ rfl) ?_
                    obtain ⟨r142, hr142, hm⟩ := of_bind hm
                    refine RW.ca (.tuple #[.agg #[.int .i64 r142.1, .int .i64 r142.2.1, .int .i64 r142.2.2.1], .bool r142.2.2.2]) rfl rfl (Ca.call (cs := []) [ro u119 3 r118.2.length (ec e3 r118.2)] rfl rfl Try.call16 (fun w hM => lentW (A := []) hM 2 rfl (lent0)) (fun w S' hM => (c_ref05_Find K r118.2 v140 u119 r142 w S' hM hr142).mono (fun _ _ h => by obtain ⟨_, h1, h2⟩ := h; exact ⟨h1, h2⟩))) ?_
                    refine RW.yi (.tuple #[.agg #[.int .i64 r142.1, .int .i64 r142.2.1, .int .i64 r142.2.2.1], .bool r142.2.2.2]) rfl rfl (Yi.pv _ rfl) ?_
                    refine RW.yi (.agg #[.int .i64 r142.1, .int .i64 r142.2.1, .int .i64 r142.2.2.1]) rfl rfl (Yi.pv _ rfl) ?_
                    refine RW.yi (.bool r142.2.2.2) rfl rfl (Yi.pv _ rfl) ?_
                    refine RW.alloc (z := .agg #[.int .i64 0, .int .i64 0, .int .i64 0]) (#[.int .i64 0, .int .i64 0, .int .i64 0]) rfl rfl (fun _ => by kernel_rfl) rfl (fun b143 => ?_)
                    refine RW.storeW (i := 0) (cs' := #[.int .i64 r142.1, .int .i64 r142.2.1, .int .i64 r142.2.2.1]) rfl rfl rfl rfl (by kernel_rfl) rfl (by kernel_rfl) ?_
                    refine RW.yi (.bool r142.2.2.2) rfl rfl (Yi.pv _ rfl) ?_
                    refine RW.nil ?_
                    refine EW.next ?_
                    refine CW.seq ?_
                    refine CW.region ?_
                    refine RW.yi (.int .i64 0) rfl rfl (Yi.pv _ rfl) ?_
                    refine RW.yi (.pointer (some ⟨b143, 1, none⟩)) rfl rfl (Yi.fieldAddr (j := 1) Try.underlying39 rfl Try.sizeOf3 rfl) ?_
                    refine RW.yi (.int .i64 r142.2.1) rfl rfl (Yi.load1 (i := 0) _ rfl rfl Try.isAgg3 rfl) ?_
                    refine RW.yi (.bool (decide (¬ 0 = r142.2.1))) rfl rfl (Yi.pv _ rfl) ?_
                    refine RW.yi (.bool (decide (¬ 0 = r142.2.1))) rfl rfl (Yi.pv _ rfl) ?_
                    refine RW.fork 94 (¬ 0 = r142.2.1) rfl (fun h144 => ?_) (fun h144 => ?_)
                    · replace hm := (if_pos h144).symm.trans hm
                      refine RW.pass rfl rfl ?_
                      refine RW.pass rfl rfl ?_
                      refine RW.pass rfl rfl ?_
                      refine RW.pass rfl rfl ?_
                      refine RW.yi (.bool true) rfl rfl (Yi.pv _ rfl) ?_
                      refine RW.yi (.bool true) rfl rfl (Yi.pv _ rfl) ?_
                      refine RW.pass rfl rfl ?_
                      refine RW.pass rfl rfl ?_
                      refine RW.pass rfl rfl ?_
                      refine RW.yi (.bool true) rfl rfl (Yi.pv _ rfl) ?_
                      refine RW.nil ?_
                      refine EW.next ?_
                      refine CW.cond_true rfl ?_
                      refine CW.seq ?_
                      refine CW.region ?_
                      refine RW.yi (.bool false) rfl rfl (Yi.pv _ rfl) ?_
                      refine RW.nil ?_
                      refine EW.next ?_
                      refine CW.ret ?_
                      refine EW.blr ?_
                      refine EW.thr ?_
                      refine EW.thr ?_
                      refine EW.blr ?_
                      refine EW.thr ?_
                      obtain rfl := Option.some.inj hm
                      exact EW.done (rs := [.tmp 4]) rfl (.tmp (t := 4) (v := .bool false) rfl .nil) (fun _ hM => ⟨(), rfl, (hM.pick [] rfl rfl)⟩)
                    · replace hm := (if_neg h144).symm.trans hm
                      refine RW.yi (.int .i64 0) rfl rfl (Yi.pv _ rfl) ?_
                      refine RW.yi (.pointer (some ⟨b143, 2, none⟩)) rfl rfl (Yi.fieldAddr (j := 2) Try.underlying39 rfl Try.sizeOf3 rfl) ?_
                      refine RW.yi (.int .i64 r142.2.2.1) rfl rfl (Yi.load1 (i := 0) _ rfl rfl Try.isAgg3 rfl) ?_
                      refine RW.yi (.bool (decide (¬ 0 = r142.2.2.1))) rfl rfl (Yi.pv _ rfl) ?_
                      refine RW.yi (.bool (decide (¬ 0 = r142.2.2.1))) rfl rfl (Yi.pv _ rfl) ?_
                      refine RW.yi (.bool (decide (¬ 0 = r142.2.2.1))) rfl rfl (Yi.pv _ rfl) ?_
                      refine RW.fork 100 (¬ 0 = r142.2.2.1) rfl (fun h145 => ?_) (fun h145 => ?_)
                      · replace hm := (if_pos h145).symm.trans hm
                        refine RW.pass rfl rfl ?_
                        refine RW.pass rfl rfl ?_
                        refine RW.pass rfl rfl ?_
                        refine RW.yi (.bool true) rfl rfl (Yi.pv _ rfl) ?_
                        refine RW.nil ?_
                        refine EW.next ?_
                        refine CW.cond_true rfl ?_
                        refine CW.seq ?_
                        refine CW.region ?_
                        refine RW.yi (.bool false) rfl rfl (Yi.pv _ rfl) ?_
                        refine RW.nil ?_
                        refine EW.next ?_
                        refine CW.ret ?_
                        refine EW.blr ?_
                        refine EW.thr ?_
                        refine EW.thr ?_
                        refine EW.blr ?_
                        refine EW.thr ?_
                        obtain rfl := Option.some.inj hm
                        exact EW.done (rs := [.tmp 4]) rfl (.tmp (t := 4) (v := .bool false) rfl .nil) (fun _ hM => ⟨(), rfl, (hM.pick [] rfl rfl)⟩)
                      · replace hm := (if_neg h145).symm.trans hm
                        refine RW.yi (.bool false) rfl rfl (Yi.pv _ rfl) ?_
                        refine RW.yi (.bool r142.2.2.2) rfl rfl (Yi.pv _ rfl) ?_
                        refine RW.forkB 102 (r142.2.2.2) rfl (fun h146 => ?_) (fun h146 => ?_)
                        · replace hm := (if_pos h146).symm.trans hm
                          refine RW.yi (.bool true) rfl rfl (Yi.neB (b := false) (c := true) rfl rfl Try.underlying4) ?_
                          refine RW.yi (.bool true) rfl rfl (Yi.pv _ rfl) ?_
                          refine RW.nil ?_
                          refine EW.next ?_
                          refine CW.cond_true rfl ?_
                          refine CW.seq ?_
                          refine CW.region ?_
                          refine RW.yi (.bool false) rfl rfl (Yi.pv _ rfl) ?_
                          refine RW.nil ?_
                          refine EW.next ?_
                          refine CW.ret ?_
                          refine EW.blr ?_
                          refine EW.thr ?_
                          refine EW.thr ?_
                          refine EW.blr ?_
                          refine EW.thr ?_
                          obtain rfl := Option.some.inj hm
                          exact EW.done (rs := [.tmp 4]) rfl (.tmp (t := 4) (v := .bool false) rfl .nil) (fun _ hM => ⟨(), rfl, (hM.pick [] rfl rfl)⟩)
                        · replace hm := (if_neg h146).symm.trans hm
                          refine RW.yi (.bool false) rfl rfl (Yi.neB (b := false) (c := false) rfl rfl Try.underlying4) ?_
                          refine RW.yi (.bool false) rfl rfl (Yi.pv _ rfl) ?_
                          refine RW.nil ?_
                          refine EW.next ?_
                          refine CW.cond_false rfl ?_
                          refine CW.skip ?_
                          refine EW.bln ?_
                          refine EW.next ?_
                          refine CW.region ?_
                          refine RW.yi (.int .i64 (w64 (v136 + 1))) rfl rfl (Yi.pv _ rfl) ?_
                          refine RW.yi (.int .i64 (w64 (v136 + 1))) rfl rfl (Yi.pv _ rfl) ?_
                          refine RW.nil ?_
                          refine EW.thn ?_
                          exact fun a w hs hM => ⟨(w64 (v136 + 1)), hs.sub ⟨rfl, rfl, rfl, rfl, rfl, rfl, trivial⟩, (hM.pick [1, 2, 3] rfl rfl), hm⟩
                · replace hm := (if_neg h138).symm.trans hm
                  refine CW.cond_false rfl ?_
                  refine CW.exit ?_
                  refine EW.thx ?_
                  refine EW.thx ?_
                  refine EW.blx ?_
                  refine EW.thn ?_
                  exact fun a w hs hM => ⟨hs.sub ⟨rfl, rfl, rfl, rfl, trivial⟩, (hM.pick [0, 1, 2] rfl rfl), hm⟩
            · rintro a w ⟨hs, hM, hm⟩
              unfold law05_HuffCodes_j8 at hm
              refine CW.enter hs hM ?_
              refine CW.seq ?_
              refine CW.region ?_
              refine RW.yi (.pointer none) rfl rfl (Yi.pv _ rfl) ?_
              obtain ⟨r122, hr122, hm⟩ := of_bind hm
              refine RW.ca (.agg (cat [(16, (iv zf)), p1 (.slice none 0 0)])) rfl rfl (Ca.call (cs := []) [] rfl rfl Try.call17 (fun w hM => lent0) (fun w S' hM => (c_huff_Table_Spec_2 K  r122 w S' hM hr122).mono (fun _ _ h => by obtain ⟨_, h1, h2⟩ := h; exact ⟨h1, h2⟩))) ?_
              refine RW.alloc (z := .agg (cat [(16, (iv zf)), p1 (.slice none 0 0)])) (cat [(16, (iv zf)), p1 (.slice none 0 0)]) rfl rfl (fun _ => by kernel_rfl) rfl (fun b123 => ?_)
              refine RW.conv1 (fun w hM => ones_cat (ps := [(16, (iv zf)), p1 (.slice none 0 0)]) (ones_cons (fun _ => rfl) (ones_cons (fun _ => rfl) ones_nil))) (fun hone => ?_)
              refine RW.storeQ (i := 0) (m := 17) (cs' := cat [(16, (iv zf)), p1 (.slice none 0 0)]) rfl rfl rfl rfl Try.sizeOf25 (by rw [cat_size]; rfl) (by rw [cat_size]; show _ ≤ 17; omega) hone (fun c' hs hget => (cat_spl (A := []) (X := [(16, (iv zf)), p1 (.slice none 0 0)]) (B := []) (Y := [(16, (iv zf)), p1 (.slice none 0 0)]) rfl hs (by first | exact hget | (rw [cat_one]; exact hget)))) ?_
              refine RW.nil ?_
              refine EW.next ?_
              refine CW.seq ?_
              refine CW.seq ?_
              refine CW.region ?_
              refine RW.yi (.pointer (some ⟨b123, 16, none⟩)) rfl rfl (Yi.fieldAddr (j := 1) Try.underlying25 rfl Try.sizeOf23 rfl) ?_
              refine RW.yi (.slice none 0 0) rfl rfl (Yi.load1 (i := 0) _ rfl rfl Try.isAgg23 (cat_get1 (ps := [(16, (iv zf)), p1 (.slice none 0 0)]) 1 rfl rfl)) ?_
              refine RW.yi (.int .i64 0) rfl rfl (Yi.lenN rfl Try.underlying23) ?_
              refine RW.yi (.pointer (some ⟨b26, 16, none⟩)) rfl rfl (Yi.fieldAddr (j := 1) Try.underlying25 rfl Try.sizeOf23 rfl) ?_
              refine RW.yi (sa0_1) rfl rfl (Yi.load1 (i := 1) _ rfl rfl Try.isAgg23 (cat_get1 (ps := [(16, (iv a0_0)), p1 (sa0_1)]) 1 rfl rfl)) ?_
              refine RW.yi (.int .i64 (a0_1.length : Int)) rfl rfl (Yi.lenS (cs := ec e1 a0_1) (m := a0_1.length) Try.underlying23 rfl (rdF 2 rfl)) ?_
              refine RW.yi (.bool (decide (¬ 0 = (a0_1.length : Int)))) rfl rfl (Yi.pv _ rfl) ?_
              refine RW.yi (.bool (decide (¬ 0 = (a0_1.length : Int)))) rfl rfl (Yi.pv _ rfl) ?_
              refine RW.fork 115 (¬ 0 = (a0_1.length : Int)) rfl (fun h124 => ?_) (fun h124 => ?_)
              · replace hm := (if_pos h124).symm.trans hm
                refine RW.pass rfl rfl ?_
                refine RW.pass rfl rfl ?_
                refine RW.pass rfl rfl ?_
                refine RW.pass rfl rfl ?_
                refine RW.pass rfl rfl ?_
                refine RW.yi (.bool true) rfl rfl (Yi.pv _ rfl) ?_
                refine RW.nil ?_
                refine EW.next ?_
                refine CW.cond_true rfl ?_
                refine CW.seq ?_
                refine CW.region ?_
                refine RW.yi (.bool false) rfl rfl (Yi.pv _ rfl) ?_
                refine RW.nil ?_
                refine EW.next ?_
                refine CW.ret ?_
                refine EW.thr ?_
                obtain rfl := Option.some.inj hm
                exact EW.done (rs := [.tmp 4]) rfl (.tmp (t := 4) (v := .bool false) rfl .nil) (fun _ hM => ⟨(), rfl, (hM.pick [] rfl rfl)⟩)
              · replace hm := (if_neg h124).symm.trans hm
                refine RW.yi (.pointer (some ⟨b123, 0, none⟩)) rfl rfl (Yi.fieldAddr (j := 0) Try.underlying25 rfl Try.sizeOf22 rfl) ?_
                refine RW.yi (.agg (cf 16 (iv zf))) rfl rfl (Yi.to (Yi.loadA (i := 0) (j := 0) (m := 16) (cs := cat [(16, (iv zf)), p1 (.slice none 0 0)]) rfl rfl Try.isAgg22 Try.sizeOf22 (by rw [cat_size]; show _ ≤ 17; omega)) (congrArg Value.agg (Eq.trans (cat_part (ps := [(16, (iv zf)), p1 (.slice none 0 0)]) (nn := 16) (i := 0) (m := 16) 0 rfl (by decide) rfl rfl) (by rw [shf_zero])))) ?_
                refine RW.yi (.pointer (some ⟨b26, 0, none⟩)) rfl rfl (Yi.fieldAddr (j := 0) Try.underlying25 rfl Try.sizeOf22 rfl) ?_
                refine RW.yi (.agg (cf 16 (iv a0_0))) rfl rfl (Yi.to (Yi.loadA (i := 1) (j := 0) (m := 16) (cs := cat [(16, (iv a0_0)), p1 (sa0_1)]) rfl rfl Try.isAgg22 Try.sizeOf22 (by rw [cat_size]; show _ ≤ 17; omega)) (congrArg Value.agg (Eq.trans (cat_part (ps := [(16, (iv a0_0)), p1 (sa0_1)]) (nn := 16) (i := 0) (m := 16) 0 rfl (by decide) rfl rfl) (by rw [shf_zero])))) ?_
                refine RW.yi (.bool (decide (¬ eqF 16 zf a0_0))) rfl rfl (Yi.neqA Try.underlying22 Try.eqGuardType22 Try.underlying3 Try.sizeOf3 Try.isAgg3 rfl rfl) ?_
                refine RW.yi (.bool (decide (¬ eqF 16 zf a0_0))) rfl rfl (Yi.pv _ rfl) ?_
                refine RW.nil ?_
                refine EW.next ?_
                refine CW.fork 121 (¬ eqF 16 zf a0_0) rfl (fun h125 => ?_) (fun h125 => ?_)
                · replace hm := (if_pos h125).symm.trans hm
                  refine CW.cond_true rfl ?_
                  refine CW.seq ?_
                  refine CW.region ?_
                  refine RW.yi (.bool false) rfl rfl (Yi.pv _ rfl) ?_
                  refine RW.nil ?_
                  refine EW.next ?_
                  refine CW.ret ?_
                  refine EW.thr ?_
                  obtain rfl := Option.some.inj hm
                  exact EW.done (rs := [.tmp 4]) rfl (.tmp (t := 4) (v := .bool false) rfl .nil) (fun _ hM => ⟨(), rfl, (hM.pick [] rfl rfl)⟩)
                · replace hm := (if_neg h125).symm.trans hm
                  refine CW.cond_false rfl ?_
                  refine CW.skip ?_
                  refine EW.next ?_
                  refine CW.join (fun a w => St 178 [(2, .pointer (some ⟨b26, 0, none⟩)), (6, .pointer none), (7, .int .i64 4), (8, u119)] a ∧ Mem w0 S [.blk b26 25 (cat [(16, (iv a0_0)), p1 (sa0_1)]), ro sa0_1 1 a0_1.length (ec e1 a0_1), .row u119 39 3 r118.2.length (ec e3 r118.2)] w ∧ law05_HuffCodes_j7 K a0_1 r118 = some r) ?_ ?_
                  · refine CW.seq ?_
                    refine CW.region ?_
                    refine RW.yi (.pointer (some ⟨b123, 16, none⟩)) rfl rfl (Yi.fieldAddr (j := 1) Try.underlying25 rfl Try.sizeOf23 rfl) ?_
                    refine RW.yi (.slice none 0 0) rfl rfl (Yi.load1 (i := 0) _ rfl rfl Try.isAgg23 (cat_get1 (ps := [(16, (iv zf)), p1 (.slice none 0 0)]) 1 rfl rfl)) ?_
                    refine RW.yi (.int .i64 0) rfl rfl (Yi.lenN rfl Try.underlying23) ?_
                    refine RW.yi (.int .i64 0) rfl rfl (Yi.pv _ rfl) ?_
                    refine RW.nil ?_
                    refine EW.next ?_
                    refine CW.block ?_
                    refine CW.loop (fun k a w => ∃ (v132 : Int), St 178 [(2, .pointer (some ⟨b26, 0, none⟩)), (6, .pointer none), (7, .int .i64 4), (8, u119), (18, .pointer (some ⟨b123, 0, none⟩)), (124, .int .i64 0), (125, .int .i64 v132)] a ∧ Mem w0 S [.blk b26 25 (cat [(16, (iv a0_0)), p1 (sa0_1)]), ro sa0_1 1 a0_1.length (ec e1 a0_1), .row u119 39 3 r118.2.length (ec e3 r118.2), .blk b123 25 (cat [(16, (iv zf)), p1 (.slice none 0 0)])] w ∧ law05_HuffCodes_l4 K a0_1 r118 k v132 = some r) K ?_ ?_ ?_
                    · rintro a w ⟨_, _, _, hm⟩
                      rw [law05_HuffCodes_l4.eq_1] at hm
                      cases hm
                    · exact fun a w hs hM => ⟨0, hs.sub ⟨rfl, rfl, rfl, rfl, rfl, rfl, rfl, trivial⟩, (hM.pick [1, 2, 3, 0] rfl rfl), hm⟩
                    · rintro k4 a w ⟨v132, hs, hM, hm⟩
                      rw [law05_HuffCodes_l4.eq_2] at hm
                      refine CW.enter hs hM ?_
                      refine CW.seq ?_
                      refine CW.region ?_
                      refine RW.yi (.bool (decide (v132 < 0))) rfl rfl (Yi.pv _ rfl) ?_
                      refine RW.nil ?_
                      refine EW.next ?_
                      refine CW.seq ?_
                      refine CW.fork 126 (v132 < 0) rfl (fun h134 => ?_) (fun h134 => ?_)
                      · replace hm := (if_pos h134).symm.trans hm
                        refine CW.cond_true rfl ?_
                        refine CW.skip ?_
                        refine EW.next ?_
                        refine CW.seq ?_
                        refine CW.block ?_
                        refine CW.seq ?_
                        refine CW.region ?_
                        refine RW.yi (.int .i64 v132) rfl rfl (Yi.pv _ rfl) ?_
                        refine RW.yi (.int .i64 v132) rfl rfl (Yi.pv _ rfl) ?_
                        refine RW.nil ?_
                        refine EW.next ?_
                        refine CW.seq ?_
                        refine CW.seq ?_
                        refine CW.draws (by kernel_rfl) (by kernel_rfl) ?_
                        refine QW.yi (.pointer (some ⟨b123, 16, none⟩)) rfl rfl (Yi.fieldAddr (j := 1) Try.underlying25 rfl Try.sizeOf23 rfl) ?_
                        refine QW.yi (.slice none 0 0) rfl rfl (Yi.load1 (i := 3) _ rfl rfl Try.isAgg23 (cat_get1 (ps := [(16, (iv zf)), p1 (.slice none 0 0)]) 1 rfl rfl)) ?_
                        refine QW.yi (.int .i64 v132) rfl rfl (Yi.pv _ rfl) ?_
                        cases hm
                      · replace hm := (if_neg h134).symm.trans hm
                        refine CW.cond_false rfl ?_
                        refine CW.exit ?_
                        refine EW.thx ?_
                        refine EW.thx ?_
                        refine EW.blx ?_
                        refine EW.thn ?_
                        exact fun a w hs hM => ⟨hs.sub ⟨rfl, rfl, rfl, rfl, trivial⟩, (hM.pick [0, 1, 2] rfl rfl), hm⟩
                  · rintro a w ⟨hs, hM, hm⟩
                    unfold law05_HuffCodes_j7 at hm
                    refine CW.enter hs hM ?_
                    refine CW.seq ?_
                    refine CW.region ?_
                    refine RW.yi (.pointer none) rfl rfl (Yi.pv _ rfl) ?_
                    refine RW.yi (.pointer (some ⟨b26, 16, none⟩)) rfl rfl (Yi.fieldAddr (j := 1) Try.underlying25 rfl Try.sizeOf23 rfl) ?_
                    refine RW.yi (sa0_1) rfl rfl (Yi.load1 (i := 0) _ rfl rfl Try.isAgg23 (cat_get1 (ps := [(16, (iv a0_0)), p1 (sa0_1)]) 1 rfl rfl)) ?_
                    obtain ⟨g126, hm⟩ := of_guard hm
                    refine RW.yi (.pointer (some (eaddr sa0_1 1 0 0))) rfl rfl (Yi.idxS (m := a0_1.length) Try.underlying23 Try.sizeOf3 rfl rfl (rdF 1 rfl) (by decide) g126) ?_
                    refine RW.yi (.int .i64 (a0_1.getD 0 0)) rfl rfl (Yi.loadS (m := a0_1.length) (cs := ec e1 a0_1) _ rfl (rdF 1 rfl) Try.isAgg3 (by omega) (by omega) (by rw [ec_get (d := 0) e1_is (by omega) (by decide)]; rfl)) ?_
                    obtain ⟨r127, hr127, hm⟩ := of_bind hm
                    refine RW.ca (.tuple #[.int .i64 0, .int .i64 0, .bool false]) rfl rfl (Ca.call (cs := []) [] rfl rfl Try.call13 (fun w hM => lent0) (fun w S' hM => (c_huff_Table_Code_2 K (a0_1.getD 0 0) r127 w S' hM hr127).mono (fun _ _ h => by obtain ⟨_, h1, h2⟩ := h; exact ⟨h1, h2⟩))) ?_
                    refine RW.yi (.tuple #[.int .i64 0, .int .i64 0, .bool false]) rfl rfl (Yi.pv _ rfl) ?_
                    refine RW.yi (.int .i64 0) rfl rfl (Yi.pv _ rfl) ?_
                    refine RW.yi (.int .i64 0) rfl rfl (Yi.pv _ rfl) ?_
                    refine RW.yi (.bool false) rfl rfl (Yi.pv _ rfl) ?_
                    refine RW.yi (.int .i64 0) rfl rfl (Yi.pv _ rfl) ?_
                    refine RW.yi (.int .i64 0) rfl rfl (Yi.pv _ rfl) ?_
                    refine RW.yi (.bool false) rfl rfl (Yi.pv _ rfl) ?_
                    refine RW.nil ?_
                    refine EW.next ?_
                    refine CW.seq ?_
                    refine CW.region ?_
                    refine RW.yi (.int .i64 0) rfl rfl (Yi.pv _ rfl) ?_
                    refine RW.yi (u119) rfl rfl (Yi.pv _ rfl) ?_
                    obtain ⟨g128, hm⟩ := of_guard hm
                    refine RW.yi (.pointer (some (eaddr u119 3 0 0))) rfl rfl (Yi.idxS (m := r118.2.length) Try.underlying35 Try.sizeOf39 rfl rfl (rdW 2 rfl) (by decide) g128) ?_
                    refine RW.yi (.pointer (some (eaddr u119 3 0 1))) rfl rfl (Yi.fieldE (j := 1) Try.underlying39 rfl Try.sizeOf3 rfl) ?_
                    refine RW.yi (.int .i64 ((r118.2.getD 0 (0, 0, 0)).2.1)) rfl rfl (Yi.loadS (m := r118.2.length) (cs := ec e3 r118.2) _ rfl (rdW 2 rfl) Try.isAgg3 (by omega) (by omega) (by rw [ec_get (d := (0, 0, 0)) e3_is (by omega) (by decide)]; rfl)) ?_
                    refine RW.yi (.bool (decide (0 = (r118.2.getD 0 (0, 0, 0)).2.1))) rfl rfl (Yi.pv _ rfl) ?_
                    refine RW.yi (.bool (decide (0 = (r118.2.getD 0 (0, 0, 0)).2.1))) rfl rfl (Yi.pv _ rfl) ?_
                    refine RW.fork 163 (0 = (r118.2.getD 0 (0, 0, 0)).2.1) rfl (fun h129 => ?_) (fun h129 => ?_)
                    · replace hm := (if_pos h129).symm.trans hm
                      refine RW.yi (.int .i64 0) rfl rfl (Yi.pv _ rfl) ?_
                      refine RW.yi (u119) rfl rfl (Yi.pv _ rfl) ?_
                      refine RW.yi (.pointer (some (eaddr u119 3 0 0))) rfl rfl (Yi.idxS (m := r118.2.length) Try.underlying35 Try.sizeOf39 rfl rfl (rdW 2 rfl) (by decide) g128) ?_
                      refine RW.yi (.pointer (some (eaddr u119 3 0 2))) rfl rfl (Yi.fieldE (j := 2) Try.underlying39 rfl Try.sizeOf3 rfl) ?_
                      refine RW.yi (.int .i64 ((r118.2.getD 0 (0, 0, 0)).2.2)) rfl rfl (Yi.loadS (m := r118.2.length) (cs := ec e3 r118.2) _ rfl (rdW 2 rfl) Try.isAgg3 (by omega) (by omega) (by rw [ec_get (d := (0, 0, 0)) e3_is (by omega) (by decide)]; rfl)) ?_
                      refine RW.yi (.bool (decide (0 = (r118.2.getD 0 (0, 0, 0)).2.2))) rfl rfl (Yi.pv _ rfl) ?_
                      refine RW.yi (.bool (decide (0 = (r118.2.getD 0 (0, 0, 0)).2.2))) rfl rfl (Yi.pv _ rfl) ?_
                      refine RW.yi (.bool (decide (0 = (r118.2.getD 0 (0, 0, 0)).2.2))) rfl rfl (Yi.pv _ rfl) ?_
                      refine RW.fork 171 (0 = (r118.2.getD 0 (0, 0, 0)).2.2) rfl (fun h130 => ?_) (fun h130 => ?_)
                      · replace hm := (if_pos h130).symm.trans hm
                        refine RW.yi (.int .i64 4) rfl rfl (Yi.pv _ rfl) ?_
                        refine RW.yi (.bool false) rfl rfl (Yi.pv _ rfl) ?_
                        refine RW.yi (.bool false) rfl rfl (Yi.pv _ rfl) ?_
                        refine RW.yi (.bool false) rfl rfl (Yi.pv _ rfl) ?_
                        refine RW.pass rfl rfl ?_
                        refine RW.yi (.bool false) rfl rfl (Yi.pv _ rfl) ?_
                        refine RW.yi (.bool false) rfl rfl (Yi.pv _ rfl) ?_
                        refine RW.nil ?_
                        refine EW.next ?_
                        refine CW.ret ?_
                        obtain rfl := Option.some.inj hm
                        exact EW.done (rs := [.tmp 4]) rfl (.tmp (t := 4) (v := .bool false) rfl .nil) (fun _ hM => ⟨(), rfl, (hM.pick [] rfl rfl)⟩)
                      · replace hm := (if_neg h130).symm.trans hm
                        refine RW.pass rfl rfl ?_
                        refine RW.pass rfl rfl ?_
                        refine RW.yi (.bool false) rfl rfl (Yi.pv _ rfl) ?_
                        refine RW.yi (.bool false) rfl rfl (Yi.pv _ rfl) ?_
                        refine RW.pass rfl rfl ?_
                        refine RW.yi (.bool false) rfl rfl (Yi.pv _ rfl) ?_
                        refine RW.yi (.bool false) rfl rfl (Yi.pv _ rfl) ?_
                        refine RW.nil ?_
                        refine EW.next ?_
                        refine CW.ret ?_
                        obtain rfl := Option.some.inj hm
                        exact EW.done (rs := [.tmp 4]) rfl (.tmp (t := 4) (v := .bool false) rfl .nil) (fun _ hM => ⟨(), rfl, (hM.pick [] rfl rfl)⟩)
                    · replace hm := (if_neg h129).symm.trans hm
                      refine RW.pass rfl rfl ?_
                      refine RW.pass rfl rfl ?_
                      refine RW.pass rfl rfl ?_
                      refine RW.pass rfl rfl ?_
                      refine RW.pass rfl rfl ?_
                      refine RW.pass rfl rfl ?_
                      refine RW.yi (.bool false) rfl rfl (Yi.pv _ rfl) ?_
                      refine RW.yi (.bool false) rfl rfl (Yi.pv _ rfl) ?_
                      refine RW.pass rfl rfl ?_
                      refine RW.pass rfl rfl ?_
                      refine RW.yi (.bool false) rfl rfl (Yi.pv _ rfl) ?_
                      refine RW.yi (.bool false) rfl rfl (Yi.pv _ rfl) ?_
                      refine RW.pass rfl rfl ?_
                      refine RW.yi (.bool false) rfl rfl (Yi.pv _ rfl) ?_
                      refine RW.yi (.bool false) rfl rfl (Yi.pv _ rfl) ?_
                      refine RW.nil ?_
                      refine EW.next ?_
                      refine CW.ret ?_
                      obtain rfl := Option.some.inj hm
                      exact EW.done (rs := [.tmp 4]) rfl (.tmp (t := 4) (v := .bool false) rfl .nil) (fun _ hM => ⟨(), rfl, (hM.pick [] rfl rfl)⟩)
          · replace hm := (if_neg h121).symm.trans hm
            refine RW.yi (.bool true) rfl rfl (Yi.pv _ rfl) ?_
            refine RW.nil ?_
            refine EW.next ?_
            refine CW.cond_true rfl ?_
            refine CW.seq ?_
            refine CW.region ?_
            refine RW.yi (.pointer none) rfl rfl (Yi.pv _ rfl) ?_
            refine RW.yi (.bool true) rfl rfl (Yi.eqNil true rfl rfl Try.underlying27 (.inl ⟨rfl, rfl⟩)) ?_
            refine RW.yi (.bool true) rfl rfl (Yi.pv _ rfl) ?_
            refine RW.yi (.int .i64 4) rfl rfl (Yi.pv _ rfl) ?_
            refine RW.yi (.bool true) rfl rfl (Yi.pv _ rfl) ?_
            refine RW.yi (.bool true) rfl rfl (Yi.pv _ rfl) ?_
            refine RW.yi (.bool true) rfl rfl (Yi.pv _ rfl) ?_
            obtain ⟨r148, hr148, hm⟩ := of_bind hm
            refine RW.ca (.bool r148) rfl rfl (Ca.call (cs := []) [] rfl rfl Try.call10 (fun w hM => lent0) (fun w S' hM => (c_law05_awake K  r148 w S' hM hr148).mono (fun _ _ h => by obtain ⟨_, h1, h2⟩ := h; exact ⟨h1, h2⟩))) ?_
            refine RW.yi (.bool r148) rfl rfl (Yi.pv _ rfl) ?_
            refine RW.yi (.bool r148) rfl rfl (Yi.pv _ rfl) ?_
            refine RW.nil ?_
            refine EW.next ?_
            refine CW.ret ?_
            refine EW.thr ?_
            obtain rfl := Option.some.inj hm
            exact EW.done (rs := [.tmp 4]) rfl (.tmp (t := 4) (v := .bool r148) rfl .nil) (fun _ hM => ⟨(), rfl, (hM.pick [] rfl rfl)⟩)

end Go.Proofs.Ytoepbakbpimkiaa
