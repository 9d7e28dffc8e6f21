import Derived.Test.YtpfnjmaadghhoaaN7
import Derived.Test.YtpfnjmaadghhoaaProg
import Derived.Test.YtpfnjmaadghhoaaGbitsNewReader
import Derived.Test.YtpfnjmaadghhoaaGbitsReaderAt
import Derived.Test.YtpfnjmaadghhoaaGbitsReaderBit
import Derived.Test.YtpfnjmaadghhoaaGbitsReaderGet
import Derived.Test.YtpfnjmaadghhoaaGlaw04awake
set_option maxRecDepth 100000
set_option maxHeartbeats 1000000
namespace Go.Proofs.Ytpfnjmaadghhoaa
open Go Go.RowKit K

def law04_BitsStands_j1 (K : Nat) (a0 : (List Int)) (a2 : Int) (v18 : Int) (v19 : Int) (v20 : Int) (v21 : Int) (v22 : Int) (v23 : Int) : Option (Bool) :=
  ((bits_Reader_At K v18 v19 v20 (([] : List Int) ++ a0)).bind fun r24 => ((bits_Reader_Get K v18 v19 v20 (([] : List Int) ++ a0) a2).bind fun r27 => (if r27.2.1 = 0 then ((law04_awake K ).bind fun r31 => some r31) else ((bits_Reader_Bit K r27.2.2.1 r27.2.2.2.1 r27.2.2.2.2 (([] : List Int) ++ a0)).bind fun r32 => ((bits_Reader_Bit K v21 v22 v23 (([] : List Int) ++ a0)).bind fun r35 => (if v18 ≤ (a0.length : Int) then (if r32.1 = r35.1 then (if r32.2.1 = r35.2.1 then ((bits_Reader_At K r32.2.2.1 r32.2.2.2.1 r32.2.2.2.2 (([] : List Int) ++ a0)).bind fun r41 => ((bits_Reader_At K r35.2.2.1 r35.2.2.2.1 r35.2.2.2.2 (([] : List Int) ++ a0)).bind fun r44 => (if r32.2.2.1 = r35.2.2.1 then ((law04_awake K ).bind fun r48 => some r48) else some false))) else some false) else some false) else some false))))))

def law04_BitsStands_l1 (K : Nat) (a0 : (List Int)) (a1 : (List (Int × Int))) (a2 : Int) : Nat → Int → Int → Int → Int → Int → Int → Int →  Option (Bool)
  | 0, _, _, _, _, _, _, _ => none
  | k1 + 1, v51, v52, v53, v55, v56, v57, v59 =>
    (if v59 < (a1.length : Int) then (if 0 ≤ v59 ∧ v59 < (a1.length : Int) then ((bits_Reader_Get K v51 v52 v53 (([] : List Int) ++ a0) ((a1.getD v59.toNat (0, 0)).2)).bind fun r72 => ((bits_Reader_Get K v55 v56 v57 (([] : List Int) ++ a0) ((a1.getD v59.toNat (0, 0)).2)).bind fun r75 => (law04_BitsStands_l1 K a0 a1 a2 k1) r72.2.2.1 r72.2.2.2.1 r72.2.2.2.2 r75.2.2.1 r75.2.2.2.1 r75.2.2.2.2 (w64 (v59 + 1)))) else none) else law04_BitsStands_j1 K a0 a2 v51 v52 v53 v55 v56 v57)

def law04_BitsStands (K : Nat) (a0 : (List Int)) (a1 : (List (Int × Int))) (a2 : Int) : Option (Bool) :=
  (if 200 < (a1.length : Int) then ((law04_awake K ).bind fun r10 => some r10) else (if 4000 < (a0.length : Int) then ((law04_awake K ).bind fun r12 => some r12) else ((bits_NewReader K a0).bind fun r13 => law04_BitsStands_l1 K a0 a1 a2 K 0 0 0 0 0 0 0)))

theorem c_law04_BitsStands (K : Nat) (a0 : (List Int)) (a1 : (List (Int × Int))) (a2 : Int) (sa0 : Value) (sa1 : Value) (r : Bool) (w0 : World) (S : Own) (hM0 : Mem w0 S [ro sa0 1 a0.length (ec eb a0), ro sa1 2 a1.length (ec e2 a1)] w0) (hm : law04_BitsStands K a0 a1 a2 = some r) : Calls Try.prog 6 #[sa0, sa1, .int .i64 a2] w0 fun e w' => ∃ _u : Unit, e = .returned (.bool r) ∧ Mem w0 S [] w' := by
  unfold law04_BitsStands at hm
  refine calls_CW (n := 91) w0 S [ro sa0 1 a0.length (ec eb a0), ro sa1 2 a1.length (ec e2 a1)] Try.func6 rfl rfl rfl hM0 ?_
  refine CW.seq ?_
  refine CW.region ?_
  refine RW.yi (.bool false) rfl rfl (Yi.pv _ rfl) ?_
  refine RW.nil ?_
  refine EW.next ?_
  refine CW.seq ?_
  refine CW.seq ?_
  refine CW.region ?_
  refine RW.yi (sa1) rfl rfl (Yi.pv _ rfl) ?_
  refine RW.yi (.int .i64 (a1.length : Int)) rfl rfl (Yi.lenS (cs := ec e2 a1) (m := a1.length) Try.underlying43 rfl (rdF 1 rfl)) ?_
  refine RW.yi (.bool (decide (200 < (a1.length : Int)))) rfl rfl (Yi.pv _ rfl) ?_
  refine RW.yi (.bool (decide (200 < (a1.length : Int)))) rfl rfl (Yi.pv _ rfl) ?_
  refine RW.fork 21 (200 < (a1.length : Int)) rfl (fun h9 => ?_) (fun h9 => ?_)
  · replace hm := (if_pos h9).symm.trans hm
    refine RW.pass rfl rfl ?_
    refine RW.pass rfl rfl ?_
    refine RW.pass rfl rfl ?_
    refine RW.yi (.bool true) rfl rfl (Yi.pv _ rfl) ?_
    refine RW.nil ?_
    refine EW.next ?_
    refine CW.cond_true rfl ?_
    refine CW.seq ?_
    refine CW.region ?_
    obtain ⟨r10, hr10, hm⟩ := of_bind hm
    refine RW.ca (.bool r10) rfl rfl (Ca.call (cs := []) [] rfl rfl Try.call10 (fun w hM => lent0) (fun w S' hM => (c_law04_awake K  r10 w S' hM hr10).mono (fun _ _ h => by obtain ⟨_, h1, h2⟩ := h; exact ⟨h1, h2⟩))) ?_
    refine RW.yi (.bool r10) rfl rfl (Yi.pv _ rfl) ?_
    refine RW.nil ?_
    refine EW.next ?_
    refine CW.ret ?_
    refine EW.thr ?_
    obtain rfl := Option.some.inj hm
    exact EW.done (rs := [.tmp 6]) rfl (.tmp (t := 6) (v := .bool r10) rfl .nil) (fun _ hM => ⟨(), rfl, (hM.pick [] rfl rfl)⟩)
  · replace hm := (if_neg h9).symm.trans hm
    refine RW.yi (sa0) rfl rfl (Yi.pv _ rfl) ?_
    refine RW.yi (.int .i64 (a0.length : Int)) rfl rfl (Yi.lenS (cs := ec eb a0) (m := a0.length) Try.underlying34 rfl (rdF 0 rfl)) ?_
    refine RW.yi (.bool (decide (4000 < (a0.length : Int)))) rfl rfl (Yi.pv _ rfl) ?_
    refine RW.yi (.bool (decide (4000 < (a0.length : Int)))) rfl rfl (Yi.pv _ rfl) ?_
    refine RW.nil ?_
    refine EW.next ?_
    refine CW.fork 25 (4000 < (a0.length : Int)) rfl (fun h11 => ?_) (fun h11 => ?_)
    · replace hm := (if_pos h11).symm.trans hm
      refine CW.cond_true rfl ?_
      refine CW.seq ?_
      refine CW.region ?_
      obtain ⟨r12, hr12, hm⟩ := of_bind hm
      refine RW.ca (.bool r12) rfl rfl (Ca.call (cs := []) [] rfl rfl Try.call10 (fun w hM => lent0) (fun w S' hM => (c_law04_awake K  r12 w S' hM hr12).mono (fun _ _ h => by obtain ⟨_, h1, h2⟩ := h; exact ⟨h1, h2⟩))) ?_
      refine RW.yi (.bool r12) rfl rfl (Yi.pv _ rfl) ?_
      refine RW.nil ?_
      refine EW.next ?_
      refine CW.ret ?_
      refine EW.thr ?_
      obtain rfl := Option.some.inj hm
      exact EW.done (rs := [.tmp 6]) rfl (.tmp (t := 6) (v := .bool r12) rfl .nil) (fun _ hM => ⟨(), rfl, (hM.pick [] rfl rfl)⟩)
    · replace hm := (if_neg h11).symm.trans hm
      refine CW.cond_false rfl ?_
      refine CW.skip ?_
      refine EW.next ?_
      refine CW.seq ?_
      refine CW.region ?_
      refine RW.yi (sa0) rfl rfl (Yi.pv _ rfl) ?_
      obtain ⟨r13, hr13, hm⟩ := of_bind hm
      refine RW.callM (cs := []) [] [ro sa0 1 a0.length (ec eb a0), ro sa1 2 a1.length (ec e2 a1)] [ro sa0 1 a0.length (ec eb a0)] [0, 1] (fun (u14 : Nat × Value) => [.blk u14.1 67 (#[.int .i64 0, .int .i64 0, .int .i64 0, u14.2]), .row u14.2 5 1 (([] : List Int) ++ a0).length (ec eb (([] : List Int) ++ a0))]) (fun (u14 : Nat × Value) => .pointer (some ⟨u14.1, 0, none⟩)) rfl rfl rfl rfl Try.call17 rfl rfl rfl (fun w hM => lentF (A := []) hM 0 rfl (lent0)) (.inl fun _ => rfl) (fun w S' hM => c_bits_NewReader K a0 sa0 r13 w S' hM hr13) (fun u14 => ?_)
      refine RW.yi (sa0) rfl rfl (Yi.pv _ rfl) ?_
      refine RW.callM (cs := []) [] [.blk u14.1 67 (#[.int .i64 0, .int .i64 0, .int .i64 0, u14.2]), .row u14.2 5 1 (([] : List Int) ++ a0).length (ec eb (([] : List Int) ++ a0)), ro sa0 1 a0.length (ec eb a0), ro sa1 2 a1.length (ec e2 a1)] [ro sa0 1 a0.length (ec eb a0)] [0, 1, 2, 3] (fun (u16 : Nat × Value) => [.blk u16.1 67 (#[.int .i64 0, .int .i64 0, .int .i64 0, u16.2]), .row u16.2 5 1 (([] : List Int) ++ a0).length (ec eb (([] : List Int) ++ a0))]) (fun (u16 : Nat × Value) => .pointer (some ⟨u16.1, 0, none⟩)) rfl rfl rfl rfl Try.call17 rfl rfl rfl (fun w hM => lentF (A := []) hM 2 rfl (lent0)) (.inl fun _ => rfl) (fun w S' hM => c_bits_NewReader K a0 sa0 r13 w S' hM hr13) (fun u16 => ?_)
      refine RW.yi (.pointer (some ⟨u14.1, 0, none⟩)) rfl rfl (Yi.pv _ rfl) ?_
      refine RW.yi (.pointer (some ⟨u16.1, 0, none⟩)) rfl rfl (Yi.pv _ rfl) ?_
      refine RW.nil ?_
      refine EW.next ?_
      refine CW.join (fun a w => ∃ (v18 : Int) (v19 : Int) (v20 : Int) (v21 : Int) (v22 : Int) (v23 : Int), St 91 [(0, sa0), (2, .int .i64 a2), (7, .pointer (some ⟨u14.1, 0, none⟩)), (8, .pointer (some ⟨u16.1, 0, none⟩))] a ∧ Mem w0 S [ro sa0 1 a0.length (ec eb a0), .blk u14.1 67 (#[.int .i64 v18, .int .i64 v19, .int .i64 v20, u14.2]), .row u14.2 5 1 (([] : List Int) ++ a0).length (ec eb (([] : List Int) ++ a0)), .blk u16.1 67 (#[.int .i64 v21, .int .i64 v22, .int .i64 v23, u16.2]), .row u16.2 5 1 (([] : List Int) ++ a0).length (ec eb (([] : List Int) ++ a0))] w ∧ law04_BitsStands_j1 K a0 a2 v18 v19 v20 v21 v22 v23 = some r) ?_ ?_
      · refine CW.seq ?_
        refine CW.region ?_
        refine RW.yi (sa1) rfl rfl (Yi.pv _ rfl) ?_
        refine RW.yi (.int .i64 (a1.length : Int)) rfl rfl (Yi.lenS (cs := ec e2 a1) (m := a1.length) Try.underlying43 rfl (rdF 5 rfl)) ?_
        refine RW.yi (.int .i64 0) rfl rfl (Yi.pv _ rfl) ?_
        refine RW.nil ?_
        refine EW.next ?_
        refine CW.block ?_
        refine CW.loop (fun k a w => ∃ (v51 : Int) (v52 : Int) (v53 : Int) (v55 : Int) (v56 : Int) (v57 : Int) (v59 : Int), St 91 [(0, sa0), (2, .int .i64 a2), (7, .pointer (some ⟨u14.1, 0, none⟩)), (8, .pointer (some ⟨u16.1, 0, none⟩)), (31, sa1), (32, .int .i64 (a1.length : Int)), (33, .int .i64 v59)] a ∧ Mem w0 S [ro sa0 1 a0.length (ec eb a0), .blk u14.1 67 (#[.int .i64 v51, .int .i64 v52, .int .i64 v53, u14.2]), .row u14.2 5 1 (([] : List Int) ++ a0).length (ec eb (([] : List Int) ++ a0)), .blk u16.1 67 (#[.int .i64 v55, .int .i64 v56, .int .i64 v57, u16.2]), .row u16.2 5 1 (([] : List Int) ++ a0).length (ec eb (([] : List Int) ++ a0)), ro sa1 2 a1.length (ec e2 a1)] w ∧ law04_BitsStands_l1 K a0 a1 a2 k v51 v52 v53 v55 v56 v57 v59 = some r) K ?_ ?_ ?_
        · rintro a w ⟨_, _, _, _, _, _, _, _, _, hm⟩
          rw [law04_BitsStands_l1.eq_1] at hm
          cases hm
        · exact fun a w hs hM => ⟨0, 0, 0, 0, 0, 0, 0, hs.sub ⟨rfl, rfl, rfl, rfl, rfl, rfl, rfl, trivial⟩, (hM.pick [4, 2, 3, 0, 1, 5] rfl rfl), hm⟩
        · rintro k1 a w ⟨v51, v52, v53, v55, v56, v57, v59, hs, hM, hm⟩
          rw [law04_BitsStands_l1.eq_2] at hm
          refine CW.enter hs hM ?_
          refine CW.seq ?_
          refine CW.region ?_
          refine RW.yi (.bool (decide (v59 < (a1.length : Int)))) rfl rfl (Yi.pv _ rfl) ?_
          refine RW.nil ?_
          refine EW.next ?_
          refine CW.seq ?_
          refine CW.fork 34 (v59 < (a1.length : Int)) rfl (fun h69 => ?_) (fun h69 => ?_)
          · replace hm := (if_pos h69).symm.trans hm
            refine CW.cond_true rfl ?_
            refine CW.skip ?_
            refine EW.next ?_
            refine CW.seq ?_
            refine CW.block ?_
            refine CW.seq ?_
            refine CW.region ?_
            obtain ⟨g70, hm⟩ := of_guard hm
            refine RW.yi (.pointer (some (eaddr sa1 2 v59.toNat 0))) rfl rfl (Yi.idxS (m := a1.length) Try.underlying43 Try.sizeOf45 rfl rfl (rdF 5 rfl) g70.1 g70.2) ?_
            refine RW.yi (.agg #[.int .i64 ((a1.getD v59.toNat (0, 0)).1), .int .i64 ((a1.getD v59.toNat (0, 0)).2)]) rfl rfl (Yi.loadSA (m := a1.length) (cs := ec e2 a1) _ rfl (rdF 5 rfl) Try.isAgg45 Try.sizeOf45 (by omega) (by rw [ec_elem e2_is (0, 0) (by omega)]; rfl)) ?_
            refine RW.alloc (z := .agg #[.int .i64 0, .int .i64 0]) (#[.int .i64 0, .int .i64 0]) rfl rfl (fun _ => by kernel_rfl) rfl (fun b71 => ?_)
            refine RW.storeW (i := 0) (cs' := #[.int .i64 ((a1.getD v59.toNat (0, 0)).1), .int .i64 ((a1.getD v59.toNat (0, 0)).2)]) rfl rfl rfl rfl (by kernel_rfl) rfl (by kernel_rfl) ?_
            refine RW.nil ?_
            refine EW.next ?_
            refine CW.seq ?_
            refine CW.region ?_
            refine RW.yi (.pointer (some ⟨u14.1, 0, none⟩)) rfl rfl (Yi.pv _ rfl) ?_
            refine RW.yi (.pointer (some ⟨b71, 1, none⟩)) rfl rfl (Yi.fieldAddr (j := 1) Try.underlying45 rfl Try.sizeOf3 rfl) ?_
            refine RW.yi (.int .i64 ((a1.getD v59.toNat (0, 0)).2)) rfl rfl (Yi.load1 (i := 0) _ rfl rfl Try.isAgg3 rfl) ?_
            obtain ⟨r72, hr72, hm⟩ := of_bind hm
            refine RW.callM (cs := []) [.blk u14.1 67 (#[.int .i64 v51, .int .i64 v52, .int .i64 v53, u14.2]), .row u14.2 5 1 (([] : List Int) ++ a0).length (ec eb (([] : List Int) ++ a0))] [.blk b71 45 (#[.int .i64 ((a1.getD v59.toNat (0, 0)).1), .int .i64 ((a1.getD v59.toNat (0, 0)).2)]), ro sa0 1 a0.length (ec eb a0), .blk u16.1 67 (#[.int .i64 v55, .int .i64 v56, .int .i64 v57, u16.2]), .row u16.2 5 1 (([] : List Int) ++ a0).length (ec eb (([] : List Int) ++ a0)), ro sa1 2 a1.length (ec e2 a1)] [] [2, 3, 0, 1, 4, 5, 6] (fun (_ : Unit) => [.blk u14.1 67 (#[.int .i64 r72.2.2.1, .int .i64 r72.2.2.2.1, .int .i64 r72.2.2.2.2, u14.2]), .row u14.2 5 1 (([] : List Int) ++ a0).length (ec eb (([] : List Int) ++ a0))]) (fun (_ : Unit) => .tuple #[.int .i64 r72.1, .int .i64 r72.2.1]) rfl rfl rfl rfl Try.call21 rfl rfl rfl (fun w hM => lent0) (.inl fun _ => rfl) (fun w S' hM => c_bits_Reader_Get K v51 v52 v53 (([] : List Int) ++ a0) ((a1.getD v59.toNat (0, 0)).2) u14.1 u14.2 r72 w S' hM hr72) (fun _ => ?_)
            refine RW.nil ?_
            refine EW.next ?_
            refine CW.region ?_
            refine RW.yi (.pointer (some ⟨u16.1, 0, none⟩)) rfl rfl (Yi.pv _ rfl) ?_
            refine RW.yi (.pointer (some ⟨b71, 1, none⟩)) rfl rfl (Yi.fieldAddr (j := 1) Try.underlying45 rfl Try.sizeOf3 rfl) ?_
            refine RW.yi (.int .i64 ((a1.getD v59.toNat (0, 0)).2)) rfl rfl (Yi.load1 (i := 2) _ rfl rfl Try.isAgg3 rfl) ?_
            obtain ⟨r75, hr75, hm⟩ := of_bind hm
            refine RW.callM (cs := []) [.blk u16.1 67 (#[.int .i64 v55, .int .i64 v56, .int .i64 v57, u16.2]), .row u16.2 5 1 (([] : List Int) ++ a0).length (ec eb (([] : List Int) ++ a0))] [.blk u14.1 67 (#[.int .i64 r72.2.2.1, .int .i64 r72.2.2.2.1, .int .i64 r72.2.2.2.2, u14.2]), .row u14.2 5 1 (([] : List Int) ++ a0).length (ec eb (([] : List Int) ++ a0)), .blk b71 45 (#[.int .i64 ((a1.getD v59.toNat (0, 0)).1), .int .i64 ((a1.getD v59.toNat (0, 0)).2)]), ro sa0 1 a0.length (ec eb a0), ro sa1 2 a1.length (ec e2 a1)] [] [4, 5, 0, 1, 2, 3, 6] (fun (_ : Unit) => [.blk u16.1 67 (#[.int .i64 r75.2.2.1, .int .i64 r75.2.2.2.1, .int .i64 r75.2.2.2.2, u16.2]), .row u16.2 5 1 (([] : List Int) ++ a0).length (ec eb (([] : List Int) ++ a0))]) (fun (_ : Unit) => .tuple #[.int .i64 r75.1, .int .i64 r75.2.1]) rfl rfl rfl rfl Try.call21 rfl rfl rfl (fun w hM => lent0) (.inl fun _ => rfl) (fun w S' hM => c_bits_Reader_Get K v55 v56 v57 (([] : List Int) ++ a0) ((a1.getD v59.toNat (0, 0)).2) u16.1 u16.2 r75 w S' hM hr75) (fun _ => ?_)
            refine RW.nil ?_
            refine EW.bln ?_
            refine EW.next ?_
            refine CW.region ?_
            refine RW.yi (.int .i64 (w64 (v59 + 1))) rfl rfl (Yi.pv _ rfl) ?_
            refine RW.yi (.int .i64 (w64 (v59 + 1))) rfl rfl (Yi.pv _ rfl) ?_
            refine RW.nil ?_
            refine EW.thn ?_
            exact fun a w hs hM => ⟨r72.2.2.1, r72.2.2.2.1, r72.2.2.2.2, r75.2.2.1, r75.2.2.2.1, r75.2.2.2.2, (w64 (v59 + 1)), hs.sub ⟨rfl, rfl, rfl, rfl, rfl, rfl, rfl, trivial⟩, (hM.pick [5, 2, 3, 0, 1, 6] rfl rfl), hm⟩
          · replace hm := (if_neg h69).symm.trans hm
            refine CW.cond_false rfl ?_
            refine CW.exit ?_
            refine EW.thx ?_
            refine EW.thx ?_
            refine EW.blx ?_
            refine EW.thn ?_
            exact fun a w hs hM => ⟨v51, v52, v53, v55, v56, v57, hs.sub ⟨rfl, rfl, rfl, rfl, trivial⟩, (hM.pick [0, 1, 2, 3, 4] rfl rfl), hm⟩
      · rintro a w ⟨v18, v19, v20, v21, v22, v23, hs, hM, hm⟩
        unfold law04_BitsStands_j1 at hm
        refine CW.enter hs hM ?_
        refine CW.seq ?_
        refine CW.region ?_
        refine RW.yi (.pointer (some ⟨u14.1, 0, none⟩)) rfl rfl (Yi.pv _ rfl) ?_
        obtain ⟨r24, hr24, hm⟩ := of_bind hm
        refine RW.callM (cs := []) [.blk u14.1 67 (#[.int .i64 v18, .int .i64 v19, .int .i64 v20, u14.2]), .row u14.2 5 1 (([] : List Int) ++ a0).length (ec eb (([] : List Int) ++ a0))] [ro sa0 1 a0.length (ec eb a0), .blk u16.1 67 (#[.int .i64 v21, .int .i64 v22, .int .i64 v23, u16.2]), .row u16.2 5 1 (([] : List Int) ++ a0).length (ec eb (([] : List Int) ++ a0))] [] [1, 2, 0, 3, 4] (fun (_ : Unit) => [.blk u14.1 67 (#[.int .i64 v18, .int .i64 v19, .int .i64 v20, u14.2]), .row u14.2 5 1 (([] : List Int) ++ a0).length (ec eb (([] : List Int) ++ a0))]) (fun (_ : Unit) => .int .i64 v18) rfl rfl rfl rfl Try.call20 rfl rfl rfl (fun w hM => lent0) (.inl fun _ => rfl) (fun w S' hM => c_bits_Reader_At K v18 v19 v20 (([] : List Int) ++ a0) u14.1 u14.2 r24 w S' hM hr24) (fun _ => ?_)
        refine RW.yi (.int .i64 v18) rfl rfl (Yi.pv _ rfl) ?_
        refine RW.nil ?_
        refine EW.next ?_
        refine CW.seq ?_
        refine CW.seq ?_
        refine CW.region ?_
        refine RW.yi (.pointer (some ⟨u14.1, 0, none⟩)) rfl rfl (Yi.pv _ rfl) ?_
        refine RW.yi (.int .i64 a2) rfl rfl (Yi.pv _ rfl) ?_
        obtain ⟨r27, hr27, hm⟩ := of_bind hm
        refine RW.callM (cs := []) [.blk u14.1 67 (#[.int .i64 v18, .int .i64 v19, .int .i64 v20, u14.2]), .row u14.2 5 1 (([] : List Int) ++ a0).length (ec eb (([] : List Int) ++ a0))] [ro sa0 1 a0.length (ec eb a0), .blk u16.1 67 (#[.int .i64 v21, .int .i64 v22, .int .i64 v23, u16.2]), .row u16.2 5 1 (([] : List Int) ++ a0).length (ec eb (([] : List Int) ++ a0))] [] [0, 1, 2, 3, 4] (fun (_ : Unit) => [.blk u14.1 67 (#[.int .i64 r27.2.2.1, .int .i64 r27.2.2.2.1, .int .i64 r27.2.2.2.2, u14.2]), .row u14.2 5 1 (([] : List Int) ++ a0).length (ec eb (([] : List Int) ++ a0))]) (fun (_ : Unit) => .tuple #[.int .i64 r27.1, .int .i64 r27.2.1]) rfl rfl rfl rfl Try.call21 rfl rfl rfl (fun w hM => lent0) (.inl fun _ => rfl) (fun w S' hM => c_bits_Reader_Get K v18 v19 v20 (([] : List Int) ++ a0) a2 u14.1 u14.2 r27 w S' hM hr27) (fun _ => ?_)
        refine RW.yi (.tuple #[.int .i64 r27.1, .int .i64 r27.2.1]) rfl rfl (Yi.pv _ rfl) ?_
        refine RW.yi (.int .i64 r27.1) rfl rfl (Yi.pv _ rfl) ?_
        refine RW.yi (.int .i64 r27.2.1) rfl rfl (Yi.pv _ rfl) ?_
        refine RW.yi (.int .i64 r27.1) rfl rfl (Yi.pv _ rfl) ?_
        refine RW.yi (.int .i64 r27.2.1) rfl rfl (Yi.pv _ rfl) ?_
        refine RW.nil ?_
        refine EW.next ?_
        refine CW.seq ?_
        refine CW.region ?_
        refine RW.yi (.int .i64 r27.2.1) rfl rfl (Yi.pv _ rfl) ?_
        refine RW.yi (.bool (decide (r27.2.1 = 0))) rfl rfl (Yi.pv _ rfl) ?_
        refine RW.nil ?_
        refine EW.next ?_
        refine CW.fork 55 (r27.2.1 = 0) rfl (fun h30 => ?_) (fun h30 => ?_)
        · replace hm := (if_pos h30).symm.trans hm
          refine CW.cond_true rfl ?_
          refine CW.seq ?_
          refine CW.region ?_
          obtain ⟨r31, hr31, hm⟩ := of_bind hm
          refine RW.ca (.bool r31) rfl rfl (Ca.call (cs := []) [] rfl rfl Try.call10 (fun w hM => lent0) (fun w S' hM => (c_law04_awake K  r31 w S' hM hr31).mono (fun _ _ h => by obtain ⟨_, h1, h2⟩ := h; exact ⟨h1, h2⟩))) ?_
          refine RW.yi (.bool r31) rfl rfl (Yi.pv _ rfl) ?_
          refine RW.nil ?_
          refine EW.next ?_
          refine CW.ret ?_
          refine EW.thr ?_
          obtain rfl := Option.some.inj hm
          exact EW.done (rs := [.tmp 6]) rfl (.tmp (t := 6) (v := .bool r31) rfl .nil) (fun _ hM => ⟨(), rfl, (hM.pick [] rfl rfl)⟩)
        · replace hm := (if_neg h30).symm.trans hm
          refine CW.cond_false rfl ?_
          refine CW.skip ?_
          refine EW.next ?_
          refine CW.seq ?_
          refine CW.region ?_
          refine RW.yi (.pointer (some ⟨u14.1, 0, none⟩)) rfl rfl (Yi.pv _ rfl) ?_
          obtain ⟨r32, hr32, hm⟩ := of_bind hm
          refine RW.callM (cs := []) [.blk u14.1 67 (#[.int .i64 r27.2.2.1, .int .i64 r27.2.2.2.1, .int .i64 r27.2.2.2.2, u14.2]), .row u14.2 5 1 (([] : List Int) ++ a0).length (ec eb (([] : List Int) ++ a0))] [ro sa0 1 a0.length (ec eb a0), .blk u16.1 67 (#[.int .i64 v21, .int .i64 v22, .int .i64 v23, u16.2]), .row u16.2 5 1 (([] : List Int) ++ a0).length (ec eb (([] : List Int) ++ a0))] [] [0, 1, 2, 3, 4] (fun (_ : Unit) => [.blk u14.1 67 (#[.int .i64 r32.2.2.1, .int .i64 r32.2.2.2.1, .int .i64 r32.2.2.2.2, u14.2]), .row u14.2 5 1 (([] : List Int) ++ a0).length (ec eb (([] : List Int) ++ a0))]) (fun (_ : Unit) => .tuple #[.int .i64 r32.1, .int .i64 r32.2.1]) rfl rfl rfl rfl Try.call18 rfl rfl rfl (fun w hM => lent0) (.inl fun _ => rfl) (fun w S' hM => c_bits_Reader_Bit K r27.2.2.1 r27.2.2.2.1 r27.2.2.2.2 (([] : List Int) ++ a0) u14.1 u14.2 r32 w S' hM hr32) (fun _ => ?_)
          refine RW.yi (.tuple #[.int .i64 r32.1, .int .i64 r32.2.1]) rfl rfl (Yi.pv _ rfl) ?_
          refine RW.yi (.int .i64 r32.1) rfl rfl (Yi.pv _ rfl) ?_
          refine RW.yi (.int .i64 r32.2.1) rfl rfl (Yi.pv _ rfl) ?_
          refine RW.yi (.int .i64 r32.1) rfl rfl (Yi.pv _ rfl) ?_
          refine RW.yi (.int .i64 r32.2.1) rfl rfl (Yi.pv _ rfl) ?_
          refine RW.nil ?_
          refine EW.next ?_
          refine CW.seq ?_
          refine CW.region ?_
          refine RW.yi (.pointer (some ⟨u16.1, 0, none⟩)) rfl rfl (Yi.pv _ rfl) ?_
          obtain ⟨r35, hr35, hm⟩ := of_bind hm
          refine RW.callM (cs := []) [.blk u16.1 67 (#[.int .i64 v21, .int .i64 v22, .int .i64 v23, u16.2]), .row u16.2 5 1 (([] : List Int) ++ a0).length (ec eb (([] : List Int) ++ a0))] [.blk u14.1 67 (#[.int .i64 r32.2.2.1, .int .i64 r32.2.2.2.1, .int .i64 r32.2.2.2.2, u14.2]), .row u14.2 5 1 (([] : List Int) ++ a0).length (ec eb (([] : List Int) ++ a0)), ro sa0 1 a0.length (ec eb a0)] [] [3, 4, 0, 1, 2] (fun (_ : Unit) => [.blk u16.1 67 (#[.int .i64 r35.2.2.1, .int .i64 r35.2.2.2.1, .int .i64 r35.2.2.2.2, u16.2]), .row u16.2 5 1 (([] : List Int) ++ a0).length (ec eb (([] : List Int) ++ a0))]) (fun (_ : Unit) => .tuple #[.int .i64 r35.1, .int .i64 r35.2.1]) rfl rfl rfl rfl Try.call18 rfl rfl rfl (fun w hM => lent0) (.inl fun _ => rfl) (fun w S' hM => c_bits_Reader_Bit K v21 v22 v23 (([] : List Int) ++ a0) u16.1 u16.2 r35 w S' hM hr35) (fun _ => ?_)
          refine RW.yi (.tuple #[.int .i64 r35.1, .int .i64 r35.2.1]) rfl rfl (Yi.pv _ rfl) ?_
          refine RW.yi (.int .i64 r35.1) rfl rfl (Yi.pv _ rfl) ?_
          refine RW.yi (.int .i64 r35.2.1) rfl rfl (Yi.pv _ rfl) ?_
          refine RW.yi (.int .i64 r35.1) rfl rfl (Yi.pv _ rfl) ?_
          refine RW.yi (.int .i64 r35.2.1) rfl rfl (Yi.pv _ rfl) ?_
          refine RW.nil ?_
          refine EW.next ?_
          refine CW.seq ?_
          refine CW.region ?_
          refine RW.yi (.int .i64 v18) rfl rfl (Yi.pv _ rfl) ?_
          refine RW.yi (sa0) rfl rfl (Yi.pv _ rfl) ?_
          refine RW.yi (.int .i64 (a0.length : Int)) rfl rfl (Yi.lenS (cs := ec eb a0) (m := a0.length) Try.underlying34 rfl (rdF 4 rfl)) ?_
          refine RW.yi (.bool (decide (v18 ≤ (a0.length : Int)))) rfl rfl (Yi.pv _ rfl) ?_
          refine RW.yi (.bool (decide (v18 ≤ (a0.length : Int)))) rfl rfl (Yi.pv _ rfl) ?_
          refine RW.fork 71 (v18 ≤ (a0.length : Int)) rfl (fun h38 => ?_) (fun h38 => ?_)
          · replace hm := (if_pos h38).symm.trans hm
            refine RW.yi (.int .i64 r32.1) rfl rfl (Yi.pv _ rfl) ?_
            refine RW.yi (.int .i64 r35.1) rfl rfl (Yi.pv _ rfl) ?_
            refine RW.yi (.bool (decide (r32.1 = r35.1))) rfl rfl (Yi.pv _ rfl) ?_
            refine RW.yi (.bool (decide (r32.1 = r35.1))) rfl rfl (Yi.pv _ rfl) ?_
            refine RW.yi (.bool (decide (r32.1 = r35.1))) rfl rfl (Yi.pv _ rfl) ?_
            refine RW.fork 76 (r32.1 = r35.1) rfl (fun h39 => ?_) (fun h39 => ?_)
            · replace hm := (if_pos h39).symm.trans hm
              refine RW.yi (.int .i64 r32.2.1) rfl rfl (Yi.pv _ rfl) ?_
              refine RW.yi (.int .i64 r35.2.1) rfl rfl (Yi.pv _ rfl) ?_
              refine RW.yi (.bool (decide (r32.2.1 = r35.2.1))) rfl rfl (Yi.pv _ rfl) ?_
              refine RW.yi (.bool (decide (r32.2.1 = r35.2.1))) rfl rfl (Yi.pv _ rfl) ?_
              refine RW.yi (.bool (decide (r32.2.1 = r35.2.1))) rfl rfl (Yi.pv _ rfl) ?_
              refine RW.fork 81 (r32.2.1 = r35.2.1) rfl (fun h40 => ?_) (fun h40 => ?_)
              · replace hm := (if_pos h40).symm.trans hm
                refine RW.yi (.pointer (some ⟨u14.1, 0, none⟩)) rfl rfl (Yi.pv _ rfl) ?_
                obtain ⟨r41, hr41, hm⟩ := of_bind hm
                refine RW.callM (cs := []) [.blk u14.1 67 (#[.int .i64 r32.2.2.1, .int .i64 r32.2.2.2.1, .int .i64 r32.2.2.2.2, u14.2]), .row u14.2 5 1 (([] : List Int) ++ a0).length (ec eb (([] : List Int) ++ a0))] [.blk u16.1 67 (#[.int .i64 r35.2.2.1, .int .i64 r35.2.2.2.1, .int .i64 r35.2.2.2.2, u16.2]), .row u16.2 5 1 (([] : List Int) ++ a0).length (ec eb (([] : List Int) ++ a0)), ro sa0 1 a0.length (ec eb a0)] [] [2, 3, 0, 1, 4] (fun (_ : Unit) => [.blk u14.1 67 (#[.int .i64 r32.2.2.1, .int .i64 r32.2.2.2.1, .int .i64 r32.2.2.2.2, u14.2]), .row u14.2 5 1 (([] : List Int) ++ a0).length (ec eb (([] : List Int) ++ a0))]) (fun (_ : Unit) => .int .i64 r32.2.2.1) rfl rfl rfl rfl Try.call20 rfl rfl rfl (fun w hM => lent0) (.inl fun _ => rfl) (fun w S' hM => c_bits_Reader_At K r32.2.2.1 r32.2.2.2.1 r32.2.2.2.2 (([] : List Int) ++ a0) u14.1 u14.2 r41 w S' hM hr41) (fun _ => ?_)
                refine RW.yi (.pointer (some ⟨u16.1, 0, none⟩)) rfl rfl (Yi.pv _ rfl) ?_
                obtain ⟨r44, hr44, hm⟩ := of_bind hm
                refine RW.callM (cs := []) [.blk u16.1 67 (#[.int .i64 r35.2.2.1, .int .i64 r35.2.2.2.1, .int .i64 r35.2.2.2.2, u16.2]), .row u16.2 5 1 (([] : List Int) ++ a0).length (ec eb (([] : List Int) ++ a0))] [.blk u14.1 67 (#[.int .i64 r32.2.2.1, .int .i64 r32.2.2.2.1, .int .i64 r32.2.2.2.2, u14.2]), .row u14.2 5 1 (([] : List Int) ++ a0).length (ec eb (([] : List Int) ++ a0)), ro sa0 1 a0.length (ec eb a0)] [] [2, 3, 0, 1, 4] (fun (_ : Unit) => [.blk u16.1 67 (#[.int .i64 r35.2.2.1, .int .i64 r35.2.2.2.1, .int .i64 r35.2.2.2.2, u16.2]), .row u16.2 5 1 (([] : List Int) ++ a0).length (ec eb (([] : List Int) ++ a0))]) (fun (_ : Unit) => .int .i64 r35.2.2.1) rfl rfl rfl rfl Try.call20 rfl rfl rfl (fun w hM => lent0) (.inl fun _ => rfl) (fun w S' hM => c_bits_Reader_At K r35.2.2.1 r35.2.2.2.1 r35.2.2.2.2 (([] : List Int) ++ a0) u16.1 u16.2 r44 w S' hM hr44) (fun _ => ?_)
                refine RW.yi (.bool (decide (r32.2.2.1 = r35.2.2.1))) rfl rfl (Yi.pv _ rfl) ?_
                refine RW.yi (.bool (decide (r32.2.2.1 = r35.2.2.1))) rfl rfl (Yi.pv _ rfl) ?_
                refine RW.yi (.bool (decide (r32.2.2.1 = r35.2.2.1))) rfl rfl (Yi.pv _ rfl) ?_
                refine RW.fork 88 (r32.2.2.1 = r35.2.2.1) rfl (fun h47 => ?_) (fun h47 => ?_)
                · replace hm := (if_pos h47).symm.trans hm
                  obtain ⟨r48, hr48, hm⟩ := of_bind hm
                  refine RW.ca (.bool r48) rfl rfl (Ca.call (cs := []) [] rfl rfl Try.call10 (fun w hM => lent0) (fun w S' hM => (c_law04_awake K  r48 w S' hM hr48).mono (fun _ _ h => by obtain ⟨_, h1, h2⟩ := h; exact ⟨h1, h2⟩))) ?_
                  refine RW.yi (.bool r48) rfl rfl (Yi.pv _ rfl) ?_
                  refine RW.yi (.bool r48) rfl rfl (Yi.pv _ rfl) ?_
                  refine RW.nil ?_
                  refine EW.next ?_
                  refine CW.ret ?_
                  obtain rfl := Option.some.inj hm
                  exact EW.done (rs := [.tmp 6]) rfl (.tmp (t := 6) (v := .bool r48) rfl .nil) (fun _ hM => ⟨(), rfl, (hM.pick [] rfl rfl)⟩)
                · replace hm := (if_neg h47).symm.trans hm
                  refine RW.pass rfl rfl ?_
                  refine RW.yi (.bool false) rfl rfl (Yi.pv _ rfl) ?_
                  refine RW.yi (.bool false) rfl rfl (Yi.pv _ rfl) ?_
                  refine RW.nil ?_
                  refine EW.next ?_
                  refine CW.ret ?_
                  obtain rfl := Option.some.inj hm
                  exact EW.done (rs := [.tmp 6]) rfl (.tmp (t := 6) (v := .bool false) rfl .nil) (fun _ hM => ⟨(), rfl, (hM.pick [] rfl rfl)⟩)
              · replace hm := (if_neg h40).symm.trans hm
                refine RW.pass rfl rfl ?_
                refine RW.pass rfl rfl ?_
                refine RW.pass rfl rfl ?_
                refine RW.pass rfl rfl ?_
                refine RW.pass rfl rfl ?_
                refine RW.yi (.bool false) rfl rfl (Yi.pv _ rfl) ?_
                refine RW.yi (.bool false) rfl rfl (Yi.pv _ rfl) ?_
                refine RW.pass rfl rfl ?_
                refine RW.yi (.bool false) rfl rfl (Yi.pv _ rfl) ?_
                refine RW.yi (.bool false) rfl rfl (Yi.pv _ rfl) ?_
                refine RW.nil ?_
                refine EW.next ?_
                refine CW.ret ?_
                obtain rfl := Option.some.inj hm
                exact EW.done (rs := [.tmp 6]) rfl (.tmp (t := 6) (v := .bool false) rfl .nil) (fun _ hM => ⟨(), rfl, (hM.pick [] rfl rfl)⟩)
            · replace hm := (if_neg h39).symm.trans hm
              refine RW.pass rfl rfl ?_
              refine RW.pass rfl rfl ?_
              refine RW.pass rfl rfl ?_
              refine RW.yi (.bool false) rfl rfl (Yi.pv _ rfl) ?_
              refine RW.yi (.bool false) rfl rfl (Yi.pv _ rfl) ?_
              refine RW.pass rfl rfl ?_
              refine RW.pass rfl rfl ?_
              refine RW.pass rfl rfl ?_
              refine RW.pass rfl rfl ?_
              refine RW.pass rfl rfl ?_
              refine RW.yi (.bool false) rfl rfl (Yi.pv _ rfl) ?_
              refine RW.yi (.bool false) rfl rfl (Yi.pv _ rfl) ?_
              refine RW.pass rfl rfl ?_
              refine RW.yi (.bool false) rfl rfl (Yi.pv _ rfl) ?_
              refine RW.yi (.bool false) rfl rfl (Yi.pv _ rfl) ?_
              refine RW.nil ?_
              refine EW.next ?_
              refine CW.ret ?_
              obtain rfl := Option.some.inj hm
              exact EW.done (rs := [.tmp 6]) rfl (.tmp (t := 6) (v := .bool false) rfl .nil) (fun _ hM => ⟨(), rfl, (hM.pick [] rfl rfl)⟩)
          · replace hm := (if_neg h38).symm.trans hm
            refine RW.pass rfl rfl ?_
            refine RW.pass rfl rfl ?_
            refine RW.pass rfl rfl ?_
            refine RW.yi (.bool false) rfl rfl (Yi.pv _ rfl) ?_
            refine RW.yi (.bool false) rfl rfl (Yi.pv _ rfl) ?_
            refine RW.pass rfl rfl ?_
            refine RW.pass rfl rfl ?_
            refine RW.pass rfl rfl ?_
            refine RW.yi (.bool false) rfl rfl (Yi.pv _ rfl) ?_
            refine RW.yi (.bool false) rfl rfl (Yi.pv _ rfl) ?_
            refine RW.pass rfl rfl ?_
            refine RW.pass rfl rfl ?_
            refine RW.pass rfl rfl ?_
            refine RW.pass rfl rfl ?_
            refine RW.pass rfl rfl ?_
            refine RW.yi (.bool false) rfl rfl (Yi.pv _ rfl) ?_
            refine RW.yi (.bool false) rfl rfl (Yi.pv _ rfl) ?_
            refine RW.pass rfl rfl ?_
            refine RW.yi (.bool false) rfl rfl (Yi.pv _ rfl) ?_
            refine RW.yi (.bool false) rfl rfl (Yi.pv _ rfl) ?_
            refine RW.nil ?_
            refine EW.next ?_
            refine CW.ret ?_
            obtain rfl := Option.some.inj hm
            exact EW.done (rs := [.tmp 6]) rfl (.tmp (t := 6) (v := .bool false) rfl .nil) (fun _ hM => ⟨(), rfl, (hM.pick [] rfl rfl)⟩)

end Go.Proofs.Ytpfnjmaadghhoaa
