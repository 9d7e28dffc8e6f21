import Derived.Test.YtpfnjmaadghhoaaN8
import Derived.Test.YtpfnjmaadghhoaaProg
import Derived.Test.YtpfnjmaadghhoaaGbitsNewWriter
import Derived.Test.YtpfnjmaadghhoaaGbitsWriterBytes
import Derived.Test.YtpfnjmaadghhoaaGbitsWriterCount
import Derived.Test.YtpfnjmaadghhoaaGbitsWriterPut
import Derived.Test.YtpfnjmaadghhoaaGlaw04awake
import Derived.Test.YtpfnjmaadghhoaaGref04Bytes
import Derived.Test.YtpfnjmaadghhoaaGref04Put
set_option maxRecDepth 100000
set_option maxHeartbeats 1000000
namespace Go.Proofs.Ytpfnjmaadghhoaa
open Go Go.RowKit K

def law04_BitsPuts_j1 (K : Nat)  : Option (Bool) :=
  ((law04_awake K ).bind fun r10 => some r10)

def law04_BitsPuts_l1 (K : Nat) (a0 : (List (Int × Int))) : Nat → (List Int) → Int → Int → Int → (List Int) → Int →  Option (Bool)
  | 0, _, _, _, _, _, _ => none
  | k1 + 1, v14, v16, v17, v18, v20, v22 =>
    (if v22 < (a0.length : Int) then (if 0 ≤ v22 ∧ v22 < (a0.length : Int) then ((ref04_Put K v20 ((a0.getD v22.toNat (0, 0)).1) ((a0.getD v22.toNat (0, 0)).2)).bind fun r36 => ((bits_Writer_Put K v14 v16 v17 v18 ((a0.getD v22.toNat (0, 0)).1) ((a0.getD v22.toNat (0, 0)).2)).bind fun r39 => (if ¬ r39.1 = r36.1 then some false else ((bits_Writer_Count K r39.2.2.2.2 r39.2.1 r39.2.2.1 r39.2.2.2.1).bind fun r46 => (if ¬ r39.2.2.2.1 = (r36.2.length : Int) then some false else ((bits_Writer_Bytes K r39.2.2.2.2 r39.2.1 r39.2.2.1 r39.2.2.2.1).bind fun r57 => ((ref04_Bytes K r36.2).bind fun r58 => (if ¬ (bs r57).toList = (bs r58).toList then some false else (law04_BitsPuts_l1 K a0 k1) r39.2.2.2.2 r39.2.1 r39.2.2.1 r39.2.2.2.1 r36.2 (w64 (v22 + 1)))))))))) else none) else law04_BitsPuts_j1 K)

def law04_BitsPuts (K : Nat) (a0 : (List (Int × Int))) : Option (Bool) :=
  (if 60 < (a0.length : Int) then ((law04_awake K ).bind fun r7 => some r7) else ((bits_NewWriter K ).bind fun r8 => law04_BitsPuts_l1 K a0 K ([] : List Int) 0 0 0 ([] : List Int) 0))

theorem c_law04_BitsPuts (K : Nat) (a0 : (List (Int × Int))) (sa0 : Value) (r : Bool) (w0 : World) (S : Own) (hM0 : Mem w0 S [ro sa0 2 a0.length (ec e2 a0)] w0) (hm : law04_BitsPuts K a0 = some r) : Calls Try.prog 3 #[sa0] w0 fun e w' => ∃ _u : Unit, e = .returned (.bool r) ∧ Mem w0 S [] w' := by
  unfold law04_BitsPuts at hm
  refine calls_CW (n := 56) w0 S [ro sa0 2 a0.length (ec e2 a0)] Try.func3 rfl rfl rfl hM0 ?_
  refine CW.seq ?_
  refine CW.region ?_
  refine RW.yi (.bool false) rfl rfl (Yi.pv _ rfl) ?_
  refine RW.nil ?_
  refine EW.next ?_
  refine CW.seq ?_
  refine CW.seq ?_
  refine CW.region ?_
  refine RW.yi (sa0) rfl rfl (Yi.pv _ rfl) ?_
  refine RW.yi (.int .i64 (a0.length : Int)) rfl rfl (Yi.lenS (cs := ec e2 a0) (m := a0.length) Try.underlying22 rfl (rdF 0 rfl)) ?_
  refine RW.yi (.bool (decide (60 < (a0.length : Int)))) rfl rfl (Yi.pv _ rfl) ?_
  refine RW.nil ?_
  refine EW.next ?_
  refine CW.fork 11 (60 < (a0.length : Int)) rfl (fun h6 => ?_) (fun h6 => ?_)
  · replace hm := (if_pos h6).symm.trans hm
    refine CW.cond_true rfl ?_
    refine CW.seq ?_
    refine CW.region ?_
    obtain ⟨r7, hr7, hm⟩ := of_bind hm
    refine RW.ca (.bool r7) rfl rfl (Ca.call (cs := []) [] rfl rfl Try.call10 (fun w hM => lent0) (fun w S' hM => (c_law04_awake K  r7 w S' hM hr7).mono (fun _ _ h => by obtain ⟨_, h1, h2⟩ := h; exact ⟨h1, h2⟩))) ?_
    refine RW.yi (.bool r7) rfl rfl (Yi.pv _ rfl) ?_
    refine RW.nil ?_
    refine EW.next ?_
    refine CW.ret ?_
    refine EW.thr ?_
    obtain rfl := Option.some.inj hm
    exact EW.done (rs := [.tmp 2]) rfl (.tmp (t := 2) (v := .bool r7) rfl .nil) (fun _ hM => ⟨(), rfl, (hM.pick [] rfl rfl)⟩)
  · replace hm := (if_neg h6).symm.trans hm
    refine CW.cond_false rfl ?_
    refine CW.skip ?_
    refine EW.next ?_
    refine CW.seq ?_
    refine CW.region ?_
    obtain ⟨r8, hr8, hm⟩ := of_bind hm
    refine RW.callM (cs := []) [] [ro sa0 2 a0.length (ec e2 a0)] [] [0] (fun (u9 : Nat) => [.blk u9 60 (#[.slice none 0 0, .int .i64 0, .int .i64 0, .int .i64 0])]) (fun (u9 : Nat) => .pointer (some ⟨u9, 0, none⟩)) rfl rfl rfl rfl Try.call11 rfl rfl rfl (fun w hM => lent0) (.inl fun _ => rfl) (fun w S' hM => c_bits_NewWriter K  r8 w S' hM hr8) (fun u9 => ?_)
    refine RW.yi (.pointer (some ⟨u9, 0, none⟩)) rfl rfl (Yi.pv _ rfl) ?_
    refine RW.nil ?_
    refine EW.next ?_
    refine CW.seq ?_
    refine CW.region ?_
    refine RW.yi (.slice none 0 0) rfl rfl (Yi.pv _ rfl) ?_
    refine RW.nil ?_
    refine EW.next ?_
    refine CW.join (fun a w => St 56 [] a ∧ Mem w0 S [] w ∧ law04_BitsPuts_j1 K = some r) ?_ ?_
    · refine CW.seq ?_
      refine CW.region ?_
      refine RW.yi (sa0) rfl rfl (Yi.pv _ rfl) ?_
      refine RW.yi (.int .i64 (a0.length : Int)) rfl rfl (Yi.lenS (cs := ec e2 a0) (m := a0.length) Try.underlying22 rfl (rdF 1 rfl)) ?_
      refine RW.yi (.int .i64 0) rfl rfl (Yi.pv _ rfl) ?_
      refine RW.nil ?_
      refine EW.next ?_
      refine CW.block ?_
      refine CW.loop (fun k a w => ∃ (v14 : (List Int)) (v16 : Int) (v17 : Int) (v18 : Int) (v20 : (List Int)) (v22 : Int) (s15 : Value) (s21 : Value), St 56 [(3, .pointer (some ⟨u9, 0, none⟩)), (4, s21), (14, sa0), (15, .int .i64 (a0.length : Int)), (16, .int .i64 v22)] a ∧ Mem w0 S [.blk u9 60 (#[s15, .int .i64 v16, .int .i64 v17, .int .i64 v18]), .row s15 5 1 v14.length (ec eb v14), ro s21 1 v20.length (ec e1 v20), ro sa0 2 a0.length (ec e2 a0)] w ∧ law04_BitsPuts_l1 K a0 k v14 v16 v17 v18 v20 v22 = some r) K ?_ ?_ ?_
      · rintro a w ⟨_, _, _, _, _, _, _, _, _, _, hm⟩
        rw [law04_BitsPuts_l1.eq_1] at hm
        cases hm
      · exact fun a w hs hM => ⟨([] : List Int), 0, 0, 0, ([] : List Int), 0, (.slice none 0 0), (.slice none 0 0), hs.sub ⟨rfl, rfl, rfl, rfl, rfl, trivial⟩, (((hM.nilRow 5 1).nilRo 1).pick [2, 1, 0, 3] rfl rfl), hm⟩
      · rintro k1 a w ⟨v14, v16, v17, v18, v20, v22, s15, s21, hs, hM, hm⟩
        rw [law04_BitsPuts_l1.eq_2] at hm
        refine CW.enter hs hM ?_
        refine CW.seq ?_
        refine CW.region ?_
        refine RW.yi (.bool (decide (v22 < (a0.length : Int)))) rfl rfl (Yi.pv _ rfl) ?_
        refine RW.nil ?_
        refine EW.next ?_
        refine CW.seq ?_
        refine CW.fork 17 (v22 < (a0.length : Int)) rfl (fun h33 => ?_) (fun h33 => ?_)
        · replace hm := (if_pos h33).symm.trans hm
          refine CW.cond_true rfl ?_
          refine CW.skip ?_
          refine EW.next ?_
          refine CW.seq ?_
          refine CW.block ?_
          refine CW.seq ?_
          refine CW.region ?_
          obtain ⟨g34, hm⟩ := of_guard hm
          refine RW.yi (.pointer (some (eaddr sa0 2 v22.toNat 0))) rfl rfl (Yi.idxS (m := a0.length) Try.underlying22 Try.sizeOf28 rfl rfl (rdF 3 rfl) g34.1 g34.2) ?_
          refine RW.yi (.agg #[.int .i64 ((a0.getD v22.toNat (0, 0)).1), .int .i64 ((a0.getD v22.toNat (0, 0)).2)]) rfl rfl (Yi.loadSA (m := a0.length) (cs := ec e2 a0) _ rfl (rdF 3 rfl) Try.isAgg28 Try.sizeOf28 (by omega) (by rw [ec_elem e2_is (0, 0) (by omega)]; rfl)) ?_
          refine RW.alloc (z := .agg #[.int .i64 0, .int .i64 0]) (#[.int .i64 0, .int .i64 0]) rfl rfl (fun _ => by kernel_rfl) rfl (fun b35 => ?_)
          refine RW.storeW (i := 0) (cs' := #[.int .i64 ((a0.getD v22.toNat (0, 0)).1), .int .i64 ((a0.getD v22.toNat (0, 0)).2)]) rfl rfl rfl rfl (by kernel_rfl) rfl (by kernel_rfl) ?_
          refine RW.nil ?_
          refine EW.next ?_
          refine CW.seq ?_
          refine CW.region ?_
          refine RW.yi (s21) rfl rfl (Yi.pv _ rfl) ?_
          refine RW.yi (.pointer (some ⟨b35, 0, none⟩)) rfl rfl (Yi.fieldAddr (j := 0) Try.underlying28 rfl Try.sizeOf3 rfl) ?_
          refine RW.yi (.int .i64 ((a0.getD v22.toNat (0, 0)).1)) rfl rfl (Yi.load1 (i := 0) _ rfl rfl Try.isAgg3 rfl) ?_
          refine RW.yi (.pointer (some ⟨b35, 1, none⟩)) rfl rfl (Yi.fieldAddr (j := 1) Try.underlying28 rfl Try.sizeOf3 rfl) ?_
          refine RW.yi (.int .i64 ((a0.getD v22.toNat (0, 0)).2)) rfl rfl (Yi.load1 (i := 0) _ rfl rfl Try.isAgg3 rfl) ?_
          obtain ⟨r36, hr36, hm⟩ := of_bind hm
          refine RW.callM (cs := []) [] [.blk b35 28 (#[.int .i64 ((a0.getD v22.toNat (0, 0)).1), .int .i64 ((a0.getD v22.toNat (0, 0)).2)]), .blk u9 60 (#[s15, .int .i64 v16, .int .i64 v17, .int .i64 v18]), .row s15 5 1 v14.length (ec eb v14), ro s21 1 v20.length (ec e1 v20), ro sa0 2 a0.length (ec e2 a0)] [ro s21 1 v20.length (ec e1 v20)] [0, 1, 2, 3, 4] (fun (u37 : Value) => [ro u37 1 r36.2.length (ec e1 r36.2)]) (fun (u37 : Value) => .tuple #[u37, .int .i64 r36.1]) rfl rfl rfl rfl Try.call12 rfl rfl rfl (fun w hM => lentF (A := []) hM 3 rfl (lent0)) (.inr (lentFF 3 rfl (lentF0))) (fun w S' hM => c_ref04_Put K v20 ((a0.getD v22.toNat (0, 0)).1) ((a0.getD v22.toNat (0, 0)).2) s21 r36 w S' hM hr36) (fun u37 => ?_)
          refine RW.yi (.tuple #[u37, .int .i64 r36.1]) rfl rfl (Yi.pv _ rfl) ?_
          refine RW.yi (u37) rfl rfl (Yi.pv _ rfl) ?_
          refine RW.yi (.int .i64 r36.1) rfl rfl (Yi.pv _ rfl) ?_
          refine RW.yi (u37) rfl rfl (Yi.pv _ rfl) ?_
          refine RW.yi (.int .i64 r36.1) rfl rfl (Yi.pv _ rfl) ?_
          refine RW.nil ?_
          refine EW.next ?_
          refine CW.seq ?_
          refine CW.region ?_
          refine RW.yi (u37) rfl rfl (Yi.pv _ rfl) ?_
          refine RW.yi (u37) rfl rfl (Yi.pv _ rfl) ?_
          refine RW.nil ?_
          refine EW.next ?_
          refine CW.seq ?_
          obtain ⟨r39, hr39, hm⟩ := of_bind hm
          by_cases h40 : ¬ r39.1 = r36.1
          · replace hm := (if_pos h40).symm.trans hm
            refine CW.held (m := 24) [ro u37 1 r36.2.length (ec e1 r36.2), .blk b35 28 (#[.int .i64 ((a0.getD v22.toNat (0, 0)).1), .int .i64 ((a0.getD v22.toNat (0, 0)).2)]), ro s21 1 v20.length (ec e1 v20), ro sa0 2 a0.length (ec e2 a0)] (by kernel_rfl) (by kernel_rfl) (by kernel_rfl) (fun A43 hA43 hns => ?_)
            have hA43_111111111111111111111111 : ∀ (u41 : Value), A43 0 #[true, true, true, true, true, true, true, true, true, true, true, true, true, true, true, true, true, true, true, true, true, true, true, true] [(3, .pointer (some ⟨u9, 0, none⟩)), (4, u37), (14, sa0), (15, .int .i64 (a0.length : Int)), (16, .int .i64 v22), (39, undef), (40, undef), (41, undef), (42, undef), (43, undef), (46, undef), (47, undef), (48, undef), (49, undef), (50, undef), (51, undef), (52, undef), (53, .bool true)] [.blk u9 60 (#[u41, .int .i64 r39.2.1, .int .i64 r39.2.2.1, .int .i64 r39.2.2.2.1]), .row u41 5 1 r39.2.2.2.2.length (ec eb r39.2.2.2.2), ro u37 1 r36.2.length (ec e1 r36.2), .blk b35 28 (#[.int .i64 ((a0.getD v22.toNat (0, 0)).1), .int .i64 ((a0.getD v22.toNat (0, 0)).2)]), ro s21 1 v20.length (ec e1 v20), ro sa0 2 a0.length (ec e2 a0)] := by
              intro u41
              rw [hA43]
              refine AW.fin (by kernel_rfl) ?_
              refine EW.next ?_
              refine CW.cond_true rfl ?_
              refine CW.seq ?_
              refine CW.region ?_
              refine RW.yi (.bool false) rfl rfl (Yi.pv _ rfl) ?_
              refine RW.nil ?_
              refine EW.next ?_
              refine CW.ret ?_
              refine EW.blr ?_
              refine EW.thr ?_
              refine EW.thr ?_
              refine EW.blr ?_
              refine EW.thr ?_
              obtain rfl := Option.some.inj hm
              exact EW.done (rs := [.tmp 2]) rfl (.tmp (t := 2) (v := .bool false) rfl .nil) (fun _ hM => ⟨(), rfl, (hM.pick [] rfl rfl)⟩)
            have hA43_111110100000000000000000 : A43 18 #[true, true, true, true, true, false, true, false, false, false, false, false, false, false, false, false, false, false, false, false, false, false, false, false] [(3, .pointer (some ⟨u9, 0, none⟩)), (4, u37), (14, sa0), (15, .int .i64 (a0.length : Int)), (16, .int .i64 v22), (30, .pointer (some ⟨u9, 0, none⟩)), (32, .int .i64 ((a0.getD v22.toNat (0, 0)).1)), (34, .int .i64 ((a0.getD v22.toNat (0, 0)).2)), (36, .int .i64 r36.1)] [ro u37 1 r36.2.length (ec e1 r36.2), .blk b35 28 (#[.int .i64 ((a0.getD v22.toNat (0, 0)).1), .int .i64 ((a0.getD v22.toNat (0, 0)).2)]), .blk u9 60 (#[s15, .int .i64 v16, .int .i64 v17, .int .i64 v18]), .row s15 5 1 v14.length (ec eb v14), ro s21 1 v20.length (ec e1 v20), ro sa0 2 a0.length (ec e2 a0)] := by
              rw [hA43]
              refine AW.step 5 [] (by kernel_rfl) ⟨⟨_, rfl, ?_⟩, trivial⟩
              · refine RW.callM (cs := []) [.blk u9 60 (#[s15, .int .i64 v16, .int .i64 v17, .int .i64 v18]), .row s15 5 1 v14.length (ec eb v14)] [ro u37 1 r36.2.length (ec e1 r36.2), .blk b35 28 (#[.int .i64 ((a0.getD v22.toNat (0, 0)).1), .int .i64 ((a0.getD v22.toNat (0, 0)).2)]), ro s21 1 v20.length (ec e1 v20), ro sa0 2 a0.length (ec e2 a0)] [] [2, 3, 0, 1, 4, 5] (fun (u44 : Value) => [.blk u9 60 (#[u44, .int .i64 r39.2.1, .int .i64 r39.2.2.1, .int .i64 r39.2.2.2.1]), .row u44 5 1 r39.2.2.2.2.length (ec eb r39.2.2.2.2)]) (fun (u44 : Value) => .int .i64 r39.1) rfl rfl rfl rfl Try.call13 rfl rfl rfl (fun w hM => lent0) (.inl fun _ => rfl) (fun w S' hM => c_bits_Writer_Put K v14 v16 v17 v18 ((a0.getD v22.toNat (0, 0)).1) ((a0.getD v22.toNat (0, 0)).2) u9 s15 r39 w S' hM hr39) (fun u44 => ?_)
                refine RW.nil ?_
                refine AW.on (done' := #[true, true, true, true, true, true, true, false, false, false, false, false, false, false, false, false, false, false, false, false, false, false, false, false]) rfl [2, 3, 4, 5] rfl rfl ?_
                refine AW.take 7 (done' := #[true, true, true, true, true, true, true, true, false, false, false, false, false, false, false, false, false, false, false, false, false, false, false, false]) (.bool (decide (¬ r39.1 = r36.1))) [2, 3, 4, 5] hns rfl rfl rfl (by kernel_rfl) (by kernel_rfl) rfl rfl rfl (by kernel_rfl) (fun _ _ => Yi.pv _ rfl) ?_
                refine AW.take 8 (done' := #[true, true, true, true, true, true, true, true, true, false, false, false, false, false, false, false, false, false, false, false, false, false, false, false]) (.bool (decide (¬ r39.1 = r36.1))) [2, 3, 4, 5] hns rfl rfl rfl (by kernel_rfl) (by kernel_rfl) rfl rfl rfl (by kernel_rfl) (fun _ _ => Yi.pv _ rfl) ?_
                refine AW.fork 38 (¬ r39.1 = r36.1) rfl (fun _ => ?_) (fun h => absurd h40 h)
                refine AW.pass 9 (done' := #[true, true, true, true, true, true, true, true, true, true, false, false, false, false, false, false, false, false, false, false, false, false, false, false]) [2, 3, 4, 5] hns rfl rfl rfl (by kernel_rfl) (by kernel_rfl) rfl rfl rfl (by kernel_rfl) ?_
                refine AW.pass 10 (done' := #[true, true, true, true, true, true, true, true, true, true, true, false, false, false, false, false, false, false, false, false, false, false, false, false]) [2, 3, 4, 5] hns rfl rfl rfl (by kernel_rfl) (by kernel_rfl) rfl rfl rfl (by kernel_rfl) ?_
                refine AW.pass 11 (done' := #[true, true, true, true, true, true, true, true, true, true, true, true, false, false, false, false, false, false, false, false, false, false, false, false]) [2, 3, 4, 5] hns rfl rfl rfl (by kernel_rfl) (by kernel_rfl) rfl rfl rfl (by kernel_rfl) ?_
                refine AW.pass 12 (done' := #[true, true, true, true, true, true, true, true, true, true, true, true, true, false, false, false, false, false, false, false, false, false, false, false]) [2, 3, 4, 5] hns rfl rfl rfl (by kernel_rfl) (by kernel_rfl) rfl rfl rfl (by kernel_rfl) ?_
                refine AW.pass 13 (done' := #[true, true, true, true, true, true, true, true, true, true, true, true, true, true, false, false, false, false, false, false, false, false, false, false]) [2, 3, 4, 5] hns rfl rfl rfl (by kernel_rfl) (by kernel_rfl) rfl rfl rfl (by kernel_rfl) ?_
                refine AW.take 14 (done' := #[true, true, true, true, true, true, true, true, true, true, true, true, true, true, true, false, false, false, false, false, false, false, false, false]) (.bool true) [2, 3, 4, 5] hns rfl rfl rfl (by kernel_rfl) (by kernel_rfl) rfl rfl rfl (by kernel_rfl) (fun _ _ => Yi.pv _ rfl) ?_
                refine AW.take 15 (done' := #[true, true, true, true, true, true, true, true, true, true, true, true, true, true, true, true, false, false, false, false, false, false, false, false]) (.bool true) [2, 3, 4, 5] hns rfl rfl rfl (by kernel_rfl) (by kernel_rfl) rfl rfl rfl (by kernel_rfl) (fun _ _ => Yi.pv _ rfl) ?_
                refine AW.pass 16 (done' := #[true, true, true, true, true, true, true, true, true, true, true, true, true, true, true, true, true, false, false, false, false, false, false, false]) [2, 3, 4, 5] hns rfl rfl rfl (by kernel_rfl) (by kernel_rfl) rfl rfl rfl (by kernel_rfl) ?_
                refine AW.pass 17 (done' := #[true, true, true, true, true, true, true, true, true, true, true, true, true, true, true, true, true, true, false, false, false, false, false, false]) [2, 3, 4, 5] hns rfl rfl rfl (by kernel_rfl) (by kernel_rfl) rfl rfl rfl (by kernel_rfl) ?_
                refine AW.pass 18 (done' := #[true, true, true, true, true, true, true, true, true, true, true, true, true, true, true, true, true, true, true, false, false, false, false, false]) [2, 3, 4, 5] hns rfl rfl rfl (by kernel_rfl) (by kernel_rfl) rfl rfl rfl (by kernel_rfl) ?_
                refine AW.pass 19 (done' := #[true, true, true, true, true, true, true, true, true, true, true, true, true, true, true, true, true, true, true, true, false, false, false, false]) [2, 3, 4, 5] hns rfl rfl rfl (by kernel_rfl) (by kernel_rfl) rfl rfl rfl (by kernel_rfl) ?_
                refine AW.pass 20 (done' := #[true, true, true, true, true, true, true, true, true, true, true, true, true, true, true, true, true, true, true, true, true, false, false, false]) [2, 3, 4, 5] hns rfl rfl rfl (by kernel_rfl) (by kernel_rfl) rfl rfl rfl (by kernel_rfl) ?_
                refine AW.pass 21 (done' := #[true, true, true, true, true, true, true, true, true, true, true, true, true, true, true, true, true, true, true, true, true, true, false, false]) [2, 3, 4, 5] hns rfl rfl rfl (by kernel_rfl) (by kernel_rfl) rfl rfl rfl (by kernel_rfl) ?_
                refine AW.pass 22 (done' := #[true, true, true, true, true, true, true, true, true, true, true, true, true, true, true, true, true, true, true, true, true, true, true, false]) [2, 3, 4, 5] hns rfl rfl rfl (by kernel_rfl) (by kernel_rfl) rfl rfl rfl (by kernel_rfl) ?_
                refine AW.take 23 (done' := #[true, true, true, true, true, true, true, true, true, true, true, true, true, true, true, true, true, true, true, true, true, true, true, true]) (.bool true) [2, 3, 4, 5] hns rfl rfl rfl (by kernel_rfl) (by kernel_rfl) rfl rfl rfl (by kernel_rfl) (fun _ _ => Yi.pv _ rfl) ?_
                have ht := hA43_111111111111111111111111 u44
                rw [hA43] at ht
                refine AW.to [0, 1, 2, 3, 4, 5] rfl rfl ?_ ht
                exact ⟨rfl, rfl, rfl, rfl, rfl, rfl, rfl, rfl, rfl, rfl, rfl, rfl, rfl, rfl, rfl, rfl, rfl, rfl, trivial⟩
            rw [hA43]
            refine AW.take 0 (done' := #[true, false, false, false, false, false, false, false, false, false, false, false, false, false, false, false, false, false, false, false, false, false, false, false]) (.pointer (some ⟨u9, 0, none⟩)) [0, 1, 4, 5] hns rfl rfl rfl (by kernel_rfl) (by kernel_rfl) rfl rfl rfl (by kernel_rfl) (fun _ _ => Yi.pv _ rfl) ?_
            refine AW.take 1 (done' := #[true, true, false, false, false, false, false, false, false, false, false, false, false, false, false, false, false, false, false, false, false, false, false, false]) (.pointer (some ⟨b35, 0, none⟩)) [0, 1, 4, 5] hns rfl rfl rfl (by kernel_rfl) (by kernel_rfl) rfl rfl rfl (by kernel_rfl) (fun _ _ => Yi.fieldAddr (j := 0) Try.underlying28 rfl Try.sizeOf3 rfl) ?_
            refine AW.take 2 (done' := #[true, true, true, false, false, false, false, false, false, false, false, false, false, false, false, false, false, false, false, false, false, false, false, false]) (.int .i64 ((a0.getD v22.toNat (0, 0)).1)) [0, 1, 4, 5] hns rfl rfl rfl (by kernel_rfl) (by kernel_rfl) rfl rfl rfl (by kernel_rfl) (fun _ _ => Yi.load1 (i := 1) _ rfl rfl Try.isAgg3 rfl) ?_
            refine AW.take 3 (done' := #[true, true, true, true, false, false, false, false, false, false, false, false, false, false, false, false, false, false, false, false, false, false, false, false]) (.pointer (some ⟨b35, 1, none⟩)) [0, 1, 4, 5] hns rfl rfl rfl (by kernel_rfl) (by kernel_rfl) rfl rfl rfl (by kernel_rfl) (fun _ _ => Yi.fieldAddr (j := 1) Try.underlying28 rfl Try.sizeOf3 rfl) ?_
            refine AW.take 4 (done' := #[true, true, true, true, true, false, false, false, false, false, false, false, false, false, false, false, false, false, false, false, false, false, false, false]) (.int .i64 ((a0.getD v22.toNat (0, 0)).2)) [0, 1, 4, 5] hns rfl rfl rfl (by kernel_rfl) (by kernel_rfl) rfl rfl rfl (by kernel_rfl) (fun _ _ => Yi.load1 (i := 1) _ rfl rfl Try.isAgg3 rfl) ?_
            refine AW.take 6 (done' := #[true, true, true, true, true, false, true, false, false, false, false, false, false, false, false, false, false, false, false, false, false, false, false, false]) (.int .i64 r36.1) [0, 1, 4, 5] hns rfl rfl rfl (by kernel_rfl) (by kernel_rfl) rfl rfl rfl (by kernel_rfl) (fun _ _ => Yi.pv _ rfl) ?_
            have ht := hA43_111110100000000000000000
            rw [hA43] at ht
            refine AW.to [0, 1, 2, 3, 4, 5] rfl rfl ?_ ht
            exact ⟨rfl, rfl, rfl, rfl, rfl, rfl, rfl, rfl, rfl, trivial⟩
          · replace hm := (if_neg h40).symm.trans hm
            obtain ⟨r46, hr46, hm⟩ := of_bind hm
            by_cases h47 : ¬ r39.2.2.2.1 = (r36.2.length : Int)
            · replace hm := (if_pos h47).symm.trans hm
              refine CW.held (m := 24) [ro u37 1 r36.2.length (ec e1 r36.2), .blk b35 28 (#[.int .i64 ((a0.getD v22.toNat (0, 0)).1), .int .i64 ((a0.getD v22.toNat (0, 0)).2)]), ro s21 1 v20.length (ec e1 v20), ro sa0 2 a0.length (ec e2 a0)] (by kernel_rfl) (by kernel_rfl) (by kernel_rfl) (fun A52 hA52 hns => ?_)
              have hA52_111111111111111111111111 : ∀ (u48 : Value), A52 0 #[true, true, true, true, true, true, true, true, true, true, true, true, true, true, true, true, true, true, true, true, true, true, true, true] [(3, .pointer (some ⟨u9, 0, none⟩)), (4, u37), (14, sa0), (15, .int .i64 (a0.length : Int)), (16, .int .i64 v22), (39, .pointer (some ⟨u9, 0, none⟩)), (40, .int .i64 r39.2.2.2.1), (41, u37), (42, .int .i64 (r36.2.length : Int)), (43, .bool (decide (¬ r39.2.2.2.1 = (r36.2.length : Int)))), (46, undef), (47, undef), (48, undef), (49, undef), (50, undef), (51, undef), (52, undef), (53, .bool true)] [.blk u9 60 (#[u48, .int .i64 r39.2.1, .int .i64 r39.2.2.1, .int .i64 r39.2.2.2.1]), .row u48 5 1 r39.2.2.2.2.length (ec eb r39.2.2.2.2), ro u37 1 r36.2.length (ec e1 r36.2), .blk b35 28 (#[.int .i64 ((a0.getD v22.toNat (0, 0)).1), .int .i64 ((a0.getD v22.toNat (0, 0)).2)]), ro s21 1 v20.length (ec e1 v20), ro sa0 2 a0.length (ec e2 a0)] := by
                intro u48
                rw [hA52]
                refine AW.fin (by kernel_rfl) ?_
                refine EW.next ?_
                refine CW.cond_true rfl ?_
                refine CW.seq ?_
                refine CW.region ?_
                refine RW.yi (.bool false) rfl rfl (Yi.pv _ rfl) ?_
                refine RW.nil ?_
                refine EW.next ?_
                refine CW.ret ?_
                refine EW.blr ?_
                refine EW.thr ?_
                refine EW.thr ?_
                refine EW.blr ?_
                refine EW.thr ?_
                obtain rfl := Option.some.inj hm
                exact EW.done (rs := [.tmp 2]) rfl (.tmp (t := 2) (v := .bool false) rfl .nil) (fun _ hM => ⟨(), rfl, (hM.pick [] rfl rfl)⟩)
              have hA52_111111111101100000000000 : ∀ (u53 : Value), A52 12 #[true, true, true, true, true, true, true, true, true, true, false, true, true, false, false, false, false, false, false, false, false, false, false, false] [(3, .pointer (some ⟨u9, 0, none⟩)), (4, u37), (14, sa0), (15, .int .i64 (a0.length : Int)), (16, .int .i64 v22), (38, .bool false), (39, .pointer (some ⟨u9, 0, none⟩)), (41, u37), (42, .int .i64 (r36.2.length : Int))] [.blk u9 60 (#[u53, .int .i64 r39.2.1, .int .i64 r39.2.2.1, .int .i64 r39.2.2.2.1]), .row u53 5 1 r39.2.2.2.2.length (ec eb r39.2.2.2.2), ro u37 1 r36.2.length (ec e1 r36.2), .blk b35 28 (#[.int .i64 ((a0.getD v22.toNat (0, 0)).1), .int .i64 ((a0.getD v22.toNat (0, 0)).2)]), ro s21 1 v20.length (ec e1 v20), ro sa0 2 a0.length (ec e2 a0)] := by
                intro u53
                rw [hA52]
                refine AW.step 10 [] (by kernel_rfl) ⟨⟨_, rfl, ?_⟩, trivial⟩
                · refine RW.callM (cs := []) [.blk u9 60 (#[u53, .int .i64 r39.2.1, .int .i64 r39.2.2.1, .int .i64 r39.2.2.2.1]), .row u53 5 1 r39.2.2.2.2.length (ec eb r39.2.2.2.2)] [ro u37 1 r36.2.length (ec e1 r36.2), .blk b35 28 (#[.int .i64 ((a0.getD v22.toNat (0, 0)).1), .int .i64 ((a0.getD v22.toNat (0, 0)).2)]), ro s21 1 v20.length (ec e1 v20), ro sa0 2 a0.length (ec e2 a0)] [] [0, 1, 2, 3, 4, 5] (fun (_ : Unit) => [.blk u9 60 (#[u53, .int .i64 r39.2.1, .int .i64 r39.2.2.1, .int .i64 r39.2.2.2.1]), .row u53 5 1 r39.2.2.2.2.length (ec eb r39.2.2.2.2)]) (fun (_ : Unit) => .int .i64 r39.2.2.2.1) rfl rfl rfl rfl Try.call14 rfl rfl rfl (fun w hM => lent0) (.inl fun _ => rfl) (fun w S' hM => c_bits_Writer_Count K r39.2.2.2.2 r39.2.1 r39.2.2.1 r39.2.2.2.1 u9 u53 r46 w S' hM hr46) (fun _ => ?_)
                  refine RW.nil ?_
                  refine AW.on (done' := #[true, true, true, true, true, true, true, true, true, true, true, true, true, false, false, false, false, false, false, false, false, false, false, false]) rfl [2, 3, 4, 5] rfl rfl ?_
                  refine AW.take 13 (done' := #[true, true, true, true, true, true, true, true, true, true, true, true, true, true, false, false, false, false, false, false, false, false, false, false]) (.bool (decide (¬ r39.2.2.2.1 = (r36.2.length : Int)))) [2, 3, 4, 5] hns rfl rfl rfl (by kernel_rfl) (by kernel_rfl) rfl rfl rfl (by kernel_rfl) (fun _ _ => Yi.pv _ rfl) ?_
                  refine AW.take 14 (done' := #[true, true, true, true, true, true, true, true, true, true, true, true, true, true, true, false, false, false, false, false, false, false, false, false]) (.bool (decide (¬ r39.2.2.2.1 = (r36.2.length : Int)))) [2, 3, 4, 5] hns rfl rfl rfl (by kernel_rfl) (by kernel_rfl) rfl rfl rfl (by kernel_rfl) (fun _ _ => Yi.pv _ rfl) ?_
                  refine AW.take 15 (done' := #[true, true, true, true, true, true, true, true, true, true, true, true, true, true, true, true, false, false, false, false, false, false, false, false]) (.bool (decide (¬ r39.2.2.2.1 = (r36.2.length : Int)))) [2, 3, 4, 5] hns rfl rfl rfl (by kernel_rfl) (by kernel_rfl) rfl rfl rfl (by kernel_rfl) (fun _ _ => Yi.pv _ rfl) ?_
                  refine AW.fork 45 (¬ r39.2.2.2.1 = (r36.2.length : Int)) rfl (fun _ => ?_) (fun h => absurd h47 h)
                  refine AW.pass 16 (done' := #[true, true, true, true, true, true, true, true, true, true, true, true, true, true, true, true, true, false, false, false, false, false, false, false]) [2, 3, 4, 5] hns rfl rfl rfl (by kernel_rfl) (by kernel_rfl) rfl rfl rfl (by kernel_rfl) ?_
                  refine AW.pass 17 (done' := #[true, true, true, true, true, true, true, true, true, true, true, true, true, true, true, true, true, true, false, false, false, false, false, false]) [2, 3, 4, 5] hns rfl rfl rfl (by kernel_rfl) (by kernel_rfl) rfl rfl rfl (by kernel_rfl) ?_
                  refine AW.pass 18 (done' := #[true, true, true, true, true, true, true, true, true, true, true, true, true, true, true, true, true, true, true, false, false, false, false, false]) [2, 3, 4, 5] hns rfl rfl rfl (by kernel_rfl) (by kernel_rfl) rfl rfl rfl (by kernel_rfl) ?_
                  refine AW.pass 19 (done' := #[true, true, true, true, true, true, true, true, true, true, true, true, true, true, true, true, true, true, true, true, false, false, false, false]) [2, 3, 4, 5] hns rfl rfl rfl (by kernel_rfl) (by kernel_rfl) rfl rfl rfl (by kernel_rfl) ?_
                  refine AW.pass 20 (done' := #[true, true, true, true, true, true, true, true, true, true, true, true, true, true, true, true, true, true, true, true, true, false, false, false]) [2, 3, 4, 5] hns rfl rfl rfl (by kernel_rfl) (by kernel_rfl) rfl rfl rfl (by kernel_rfl) ?_
                  refine AW.pass 21 (done' := #[true, true, true, true, true, true, true, true, true, true, true, true, true, true, true, true, true, true, true, true, true, true, false, false]) [2, 3, 4, 5] hns rfl rfl rfl (by kernel_rfl) (by kernel_rfl) rfl rfl rfl (by kernel_rfl) ?_
                  refine AW.pass 22 (done' := #[true, true, true, true, true, true, true, true, true, true, true, true, true, true, true, true, true, true, true, true, true, true, true, false]) [2, 3, 4, 5] hns rfl rfl rfl (by kernel_rfl) (by kernel_rfl) rfl rfl rfl (by kernel_rfl) ?_
                  refine AW.take 23 (done' := #[true, true, true, true, true, true, true, true, true, true, true, true, true, true, true, true, true, true, true, true, true, true, true, true]) (.bool true) [2, 3, 4, 5] hns rfl rfl rfl (by kernel_rfl) (by kernel_rfl) rfl rfl rfl (by kernel_rfl) (fun _ _ => Yi.pv _ rfl) ?_
                  have ht := hA52_111111111111111111111111 u53
                  rw [hA52] at ht
                  refine AW.to [0, 1, 2, 3, 4, 5] rfl rfl ?_ ht
                  exact ⟨rfl, rfl, rfl, rfl, rfl, rfl, rfl, rfl, rfl, rfl, rfl, rfl, rfl, rfl, rfl, rfl, rfl, rfl, trivial⟩
              have hA52_111110100000000000000000 : A52 18 #[true, true, true, true, true, false, true, false, false, false, false, false, false, false, false, false, false, false, false, false, false, false, false, false] [(3, .pointer (some ⟨u9, 0, none⟩)), (4, u37), (14, sa0), (15, .int .i64 (a0.length : Int)), (16, .int .i64 v22), (30, .pointer (some ⟨u9, 0, none⟩)), (32, .int .i64 ((a0.getD v22.toNat (0, 0)).1)), (34, .int .i64 ((a0.getD v22.toNat (0, 0)).2)), (36, .int .i64 r36.1)] [ro u37 1 r36.2.length (ec e1 r36.2), .blk b35 28 (#[.int .i64 ((a0.getD v22.toNat (0, 0)).1), .int .i64 ((a0.getD v22.toNat (0, 0)).2)]), .blk u9 60 (#[s15, .int .i64 v16, .int .i64 v17, .int .i64 v18]), .row s15 5 1 v14.length (ec eb v14), ro s21 1 v20.length (ec e1 v20), ro sa0 2 a0.length (ec e2 a0)] := by
                rw [hA52]
                refine AW.step 5 [] (by kernel_rfl) ⟨⟨_, rfl, ?_⟩, trivial⟩
                · refine RW.callM (cs := []) [.blk u9 60 (#[s15, .int .i64 v16, .int .i64 v17, .int .i64 v18]), .row s15 5 1 v14.length (ec eb v14)] [ro u37 1 r36.2.length (ec e1 r36.2), .blk b35 28 (#[.int .i64 ((a0.getD v22.toNat (0, 0)).1), .int .i64 ((a0.getD v22.toNat (0, 0)).2)]), ro s21 1 v20.length (ec e1 v20), ro sa0 2 a0.length (ec e2 a0)] [] [2, 3, 0, 1, 4, 5] (fun (u53 : Value) => [.blk u9 60 (#[u53, .int .i64 r39.2.1, .int .i64 r39.2.2.1, .int .i64 r39.2.2.2.1]), .row u53 5 1 r39.2.2.2.2.length (ec eb r39.2.2.2.2)]) (fun (u53 : Value) => .int .i64 r39.1) rfl rfl rfl rfl Try.call13 rfl rfl rfl (fun w hM => lent0) (.inl fun _ => rfl) (fun w S' hM => c_bits_Writer_Put K v14 v16 v17 v18 ((a0.getD v22.toNat (0, 0)).1) ((a0.getD v22.toNat (0, 0)).2) u9 s15 r39 w S' hM hr39) (fun u53 => ?_)
                  refine RW.nil ?_
                  refine AW.on (done' := #[true, true, true, true, true, true, true, false, false, false, false, false, false, false, false, false, false, false, false, false, false, false, false, false]) rfl [2, 3, 4, 5] rfl rfl ?_
                  refine AW.take 7 (done' := #[true, true, true, true, true, true, true, true, false, false, false, false, false, false, false, false, false, false, false, false, false, false, false, false]) (.bool (decide (¬ r39.1 = r36.1))) [2, 3, 4, 5] hns rfl rfl rfl (by kernel_rfl) (by kernel_rfl) rfl rfl rfl (by kernel_rfl) (fun _ _ => Yi.pv _ rfl) ?_
                  refine AW.take 8 (done' := #[true, true, true, true, true, true, true, true, true, false, false, false, false, false, false, false, false, false, false, false, false, false, false, false]) (.bool (decide (¬ r39.1 = r36.1))) [2, 3, 4, 5] hns rfl rfl rfl (by kernel_rfl) (by kernel_rfl) rfl rfl rfl (by kernel_rfl) (fun _ _ => Yi.pv _ rfl) ?_
                  refine AW.fork 38 (¬ r39.1 = r36.1) rfl (fun h => absurd h h40) (fun _ => ?_)
                  refine AW.take 9 (done' := #[true, true, true, true, true, true, true, true, true, true, false, false, false, false, false, false, false, false, false, false, false, false, false, false]) (.pointer (some ⟨u9, 0, none⟩)) [2, 3, 4, 5] hns rfl rfl rfl (by kernel_rfl) (by kernel_rfl) rfl rfl rfl (by kernel_rfl) (fun _ _ => Yi.pv _ rfl) ?_
                  refine AW.take 11 (done' := #[true, true, true, true, true, true, true, true, true, true, false, true, false, false, false, false, false, false, false, false, false, false, false, false]) (u37) [2, 3, 4, 5] hns rfl rfl rfl (by kernel_rfl) (by kernel_rfl) rfl rfl rfl (by kernel_rfl) (fun _ _ => Yi.pv _ rfl) ?_
                  refine AW.take 12 (done' := #[true, true, true, true, true, true, true, true, true, true, false, true, true, false, false, false, false, false, false, false, false, false, false, false]) (.int .i64 (r36.2.length : Int)) [2, 3, 4, 5] hns rfl rfl rfl (by kernel_rfl) (by kernel_rfl) rfl rfl rfl (by kernel_rfl) (fun _ _ => Yi.lenS (cs := ec e1 r36.2) (m := r36.2.length) Try.underlying26 rfl (rdF 0 rfl)) ?_
                  have ht := hA52_111111111101100000000000 u53
                  rw [hA52] at ht
                  refine AW.to [0, 1, 2, 3, 4, 5] rfl rfl ?_ ht
                  exact ⟨rfl, rfl, rfl, rfl, rfl, rfl, rfl, rfl, rfl, trivial⟩
              rw [hA52]
              refine AW.take 0 (done' := #[true, false, false, false, false, false, false, false, false, false, false, false, false, false, false, false, false, false, false, false, false, false, false, false]) (.pointer (some ⟨u9, 0, none⟩)) [0, 1, 4, 5] hns rfl rfl rfl (by kernel_rfl) (by kernel_rfl) rfl rfl rfl (by kernel_rfl) (fun _ _ => Yi.pv _ rfl) ?_
              refine AW.take 1 (done' := #[true, true, false, false, false, false, false, false, false, false, false, false, false, false, false, false, false, false, false, false, false, false, false, false]) (.pointer (some ⟨b35, 0, none⟩)) [0, 1, 4, 5] hns rfl rfl rfl (by kernel_rfl) (by kernel_rfl) rfl rfl rfl (by kernel_rfl) (fun _ _ => Yi.fieldAddr (j := 0) Try.underlying28 rfl Try.sizeOf3 rfl) ?_
              refine AW.take 2 (done' := #[true, true, true, false, false, false, false, false, false, false, false, false, false, false, false, false, false, false, false, false, false, false, false, false]) (.int .i64 ((a0.getD v22.toNat (0, 0)).1)) [0, 1, 4, 5] hns rfl rfl rfl (by kernel_rfl) (by kernel_rfl) rfl rfl rfl (by kernel_rfl) (fun _ _ => Yi.load1 (i := 1) _ rfl rfl Try.isAgg3 rfl) ?_
              refine AW.take 3 (done' := #[true, true, true, true, false, false, false, false, false, false, false, false, false, false, false, false, false, false, false, false, false, false, false, false]) (.pointer (some ⟨b35, 1, none⟩)) [0, 1, 4, 5] hns rfl rfl rfl (by kernel_rfl) (by kernel_rfl) rfl rfl rfl (by kernel_rfl) (fun _ _ => Yi.fieldAddr (j := 1) Try.underlying28 rfl Try.sizeOf3 rfl) ?_
              refine AW.take 4 (done' := #[true, true, true, true, true, false, false, false, false, false, false, false, false, false, false, false, false, false, false, false, false, false, false, false]) (.int .i64 ((a0.getD v22.toNat (0, 0)).2)) [0, 1, 4, 5] hns rfl rfl rfl (by kernel_rfl) (by kernel_rfl) rfl rfl rfl (by kernel_rfl) (fun _ _ => Yi.load1 (i := 1) _ rfl rfl Try.isAgg3 rfl) ?_
              refine AW.take 6 (done' := #[true, true, true, true, true, false, true, false, false, false, false, false, false, false, false, false, false, false, false, false, false, false, false, false]) (.int .i64 r36.1) [0, 1, 4, 5] hns rfl rfl rfl (by kernel_rfl) (by kernel_rfl) rfl rfl rfl (by kernel_rfl) (fun _ _ => Yi.pv _ rfl) ?_
              have ht := hA52_111110100000000000000000
              rw [hA52] at ht
              refine AW.to [0, 1, 2, 3, 4, 5] rfl rfl ?_ ht
              exact ⟨rfl, rfl, rfl, rfl, rfl, rfl, rfl, rfl, rfl, trivial⟩
            · replace hm := (if_neg h47).symm.trans hm
              obtain ⟨r57, hr57, hm⟩ := of_bind hm
              obtain ⟨r58, hr58, hm⟩ := of_bind hm
              refine CW.held (m := 24) [ro u37 1 r36.2.length (ec e1 r36.2), .blk b35 28 (#[.int .i64 ((a0.getD v22.toNat (0, 0)).1), .int .i64 ((a0.getD v22.toNat (0, 0)).2)]), ro s21 1 v20.length (ec e1 v20), ro sa0 2 a0.length (ec e2 a0)] (by kernel_rfl) (by kernel_rfl) (by kernel_rfl) (fun A69 hA69 hns => ?_)
              have hA69_111111111111111111111111 : ∀ (u59 : Value) (u63 : Value) (u66 : Value), A69 0 #[true, true, true, true, true, true, true, true, true, true, true, true, true, true, true, true, true, true, true, true, true, true, true, true] [(3, .pointer (some ⟨u9, 0, none⟩)), (4, u37), (14, sa0), (15, .int .i64 (a0.length : Int)), (16, .int .i64 v22), (39, .pointer (some ⟨u9, 0, none⟩)), (40, .int .i64 r39.2.2.2.1), (41, u37), (42, .int .i64 (r36.2.length : Int)), (43, .bool (decide (¬ r39.2.2.2.1 = (r36.2.length : Int)))), (46, .pointer (some ⟨u9, 0, none⟩)), (47, u63), (48, .string (bs r57)), (49, u37), (50, u66), (51, .string (bs r58)), (52, .bool (decide (¬ (bs r57).toList = (bs r58).toList))), (53, .bool (decide (¬ (bs r57).toList = (bs r58).toList)))] [.row u66 5 1 r58.length (ec eb r58), .row u63 5 1 r57.length (ec eb r57), .blk u9 60 (#[u59, .int .i64 r39.2.1, .int .i64 r39.2.2.1, .int .i64 r39.2.2.2.1]), .row u59 5 1 r39.2.2.2.2.length (ec eb r39.2.2.2.2), ro u37 1 r36.2.length (ec e1 r36.2), .blk b35 28 (#[.int .i64 ((a0.getD v22.toNat (0, 0)).1), .int .i64 ((a0.getD v22.toNat (0, 0)).2)]), ro s21 1 v20.length (ec e1 v20), ro sa0 2 a0.length (ec e2 a0)] := by
                intro u59 u63 u66
                rw [hA69]
                refine AW.fin (by kernel_rfl) ?_
                refine EW.next ?_
                refine CW.fork 53 (¬ (bs r57).toList = (bs r58).toList) rfl (fun h68 => ?_) (fun h68 => ?_)
                · replace hm := (if_pos h68).symm.trans hm
                  refine CW.cond_true rfl ?_
                  refine CW.seq ?_
                  refine CW.region ?_
                  refine RW.yi (.bool false) rfl rfl (Yi.pv _ rfl) ?_
                  refine RW.nil ?_
                  refine EW.next ?_
                  refine CW.ret ?_
                  refine EW.blr ?_
                  refine EW.thr ?_
                  refine EW.thr ?_
                  refine EW.blr ?_
                  refine EW.thr ?_
                  obtain rfl := Option.some.inj hm
                  exact EW.done (rs := [.tmp 2]) rfl (.tmp (t := 2) (v := .bool false) rfl .nil) (fun _ hM => ⟨(), rfl, (hM.pick [] rfl rfl)⟩)
                · replace hm := (if_neg h68).symm.trans hm
                  refine CW.cond_false rfl ?_
                  refine CW.skip ?_
                  refine EW.bln ?_
                  refine EW.next ?_
                  refine CW.region ?_
                  refine RW.yi (.int .i64 (w64 (v22 + 1))) rfl rfl (Yi.pv _ rfl) ?_
                  refine RW.yi (.int .i64 (w64 (v22 + 1))) rfl rfl (Yi.pv _ rfl) ?_
                  refine RW.nil ?_
                  refine EW.thn ?_
                  exact fun a w hs hM => ⟨r39.2.2.2.2, r39.2.1, r39.2.2.1, r39.2.2.2.1, r36.2, (w64 (v22 + 1)), u59, u37, hs.sub ⟨rfl, rfl, rfl, rfl, rfl, trivial⟩, (hM.pick [2, 3, 4, 7] rfl rfl), hm⟩
              have hA69_111111111111111111111000 : ∀ (u70 : Value) (u74 : Value) (u77 : Value), A69 3 #[true, true, true, true, true, true, true, true, true, true, true, true, true, true, true, true, true, true, true, true, true, false, false, false] [(3, .pointer (some ⟨u9, 0, none⟩)), (4, u37), (14, sa0), (15, .int .i64 (a0.length : Int)), (16, .int .i64 v22), (39, .pointer (some ⟨u9, 0, none⟩)), (40, .int .i64 r39.2.2.2.1), (41, u37), (42, .int .i64 (r36.2.length : Int)), (43, .bool (decide (¬ r39.2.2.2.1 = (r36.2.length : Int)))), (45, .bool false), (46, .pointer (some ⟨u9, 0, none⟩)), (47, u74), (48, .string (bs r57)), (49, u37), (50, u77)] [.row u77 5 1 r58.length (ec eb r58), .row u74 5 1 r57.length (ec eb r57), .blk u9 60 (#[u70, .int .i64 r39.2.1, .int .i64 r39.2.2.1, .int .i64 r39.2.2.2.1]), .row u70 5 1 r39.2.2.2.2.length (ec eb r39.2.2.2.2), ro u37 1 r36.2.length (ec e1 r36.2), .blk b35 28 (#[.int .i64 ((a0.getD v22.toNat (0, 0)).1), .int .i64 ((a0.getD v22.toNat (0, 0)).2)]), ro s21 1 v20.length (ec e1 v20), ro sa0 2 a0.length (ec e2 a0)] := by
                intro u70 u74 u77
                rw [hA69]
                refine AW.step 21 [] (by kernel_rfl) ⟨⟨_, rfl, ?_⟩, trivial⟩
                · refine RW.yi (.string (bs r58)) rfl rfl (Yi.str (xs := r58) Try.underlying34 Try.underlying5 Try.underlying9 rfl (rdW 0 rfl)) ?_
                  refine RW.nil ?_
                  refine AW.on (done' := #[true, true, true, true, true, true, true, true, true, true, true, true, true, true, true, true, true, true, true, true, true, true, false, false]) rfl [4, 5, 6, 7] rfl rfl ?_
                  refine AW.take 22 (done' := #[true, true, true, true, true, true, true, true, true, true, true, true, true, true, true, true, true, true, true, true, true, true, true, false]) (.bool (decide (¬ (bs r57).toList = (bs r58).toList))) [4, 5, 6, 7] hns rfl rfl rfl (by kernel_rfl) (by kernel_rfl) rfl rfl rfl (by kernel_rfl) (fun _ _ => Yi.neStr rfl rfl) ?_
                  refine AW.take 23 (done' := #[true, true, true, true, true, true, true, true, true, true, true, true, true, true, true, true, true, true, true, true, true, true, true, true]) (.bool (decide (¬ (bs r57).toList = (bs r58).toList))) [4, 5, 6, 7] hns rfl rfl rfl (by kernel_rfl) (by kernel_rfl) rfl rfl rfl (by kernel_rfl) (fun _ _ => Yi.pv _ rfl) ?_
                  have ht := hA69_111111111111111111111111 u70 u74 u77
                  rw [hA69] at ht
                  refine AW.to [0, 1, 2, 3, 4, 5, 6, 7] rfl rfl ?_ ht
                  exact ⟨rfl, rfl, rfl, rfl, rfl, rfl, rfl, rfl, rfl, rfl, rfl, rfl, rfl, rfl, rfl, rfl, rfl, rfl, trivial⟩
              have hA69_111111111111111111110000 : ∀ (u70 : Value) (u74 : Value), A69 4 #[true, true, true, true, true, true, true, true, true, true, true, true, true, true, true, true, true, true, true, true, false, false, false, false] [(3, .pointer (some ⟨u9, 0, none⟩)), (4, u37), (14, sa0), (15, .int .i64 (a0.length : Int)), (16, .int .i64 v22), (39, .pointer (some ⟨u9, 0, none⟩)), (40, .int .i64 r39.2.2.2.1), (41, u37), (42, .int .i64 (r36.2.length : Int)), (43, .bool (decide (¬ r39.2.2.2.1 = (r36.2.length : Int)))), (45, .bool false), (46, .pointer (some ⟨u9, 0, none⟩)), (47, u74), (48, .string (bs r57)), (49, u37)] [.row u74 5 1 r57.length (ec eb r57), .blk u9 60 (#[u70, .int .i64 r39.2.1, .int .i64 r39.2.2.1, .int .i64 r39.2.2.2.1]), .row u70 5 1 r39.2.2.2.2.length (ec eb r39.2.2.2.2), ro u37 1 r36.2.length (ec e1 r36.2), .blk b35 28 (#[.int .i64 ((a0.getD v22.toNat (0, 0)).1), .int .i64 ((a0.getD v22.toNat (0, 0)).2)]), ro s21 1 v20.length (ec e1 v20), ro sa0 2 a0.length (ec e2 a0)] := by
                intro u70 u74
                rw [hA69]
                refine AW.step 20 [] (by kernel_rfl) ⟨⟨_, rfl, ?_⟩, trivial⟩
                · refine RW.callM (cs := []) [] [.row u74 5 1 r57.length (ec eb r57), .blk u9 60 (#[u70, .int .i64 r39.2.1, .int .i64 r39.2.2.1, .int .i64 r39.2.2.2.1]), .row u70 5 1 r39.2.2.2.2.length (ec eb r39.2.2.2.2), ro u37 1 r36.2.length (ec e1 r36.2), .blk b35 28 (#[.int .i64 ((a0.getD v22.toNat (0, 0)).1), .int .i64 ((a0.getD v22.toNat (0, 0)).2)]), ro s21 1 v20.length (ec e1 v20), ro sa0 2 a0.length (ec e2 a0)] [ro u37 1 r36.2.length (ec e1 r36.2)] [0, 1, 2, 3, 4, 5, 6] (fun (u77 : Value) => [.row u77 5 1 r58.length (ec eb r58)]) (fun (u77 : Value) => u77) rfl rfl rfl rfl Try.call16 rfl rfl rfl (fun w hM => lentF (A := []) hM 3 rfl (lent0)) (.inl fun _ => rfl) (fun w S' hM => c_ref04_Bytes K r36.2 u37 r58 w S' hM hr58) (fun u77 => ?_)
                  refine RW.nil ?_
                  refine AW.on (done' := #[true, true, true, true, true, true, true, true, true, true, true, true, true, true, true, true, true, true, true, true, true, false, false, false]) rfl [4, 5, 6, 7] rfl rfl ?_
                  have ht := hA69_111111111111111111111000 u70 u74 u77
                  rw [hA69] at ht
                  refine AW.to [0, 1, 2, 3, 4, 5, 6, 7] rfl rfl ?_ ht
                  exact ⟨rfl, rfl, rfl, rfl, rfl, rfl, rfl, rfl, rfl, rfl, rfl, rfl, rfl, rfl, rfl, rfl, trivial⟩
              have hA69_111111111111111111011100 : ∀ (u70 : Value) (u74 : Value) (u79 : Value), A69 3 #[true, true, true, true, true, true, true, true, true, true, true, true, true, true, true, true, true, true, false, true, true, true, false, false] [(3, .pointer (some ⟨u9, 0, none⟩)), (4, u37), (14, sa0), (15, .int .i64 (a0.length : Int)), (16, .int .i64 v22), (39, .pointer (some ⟨u9, 0, none⟩)), (40, .int .i64 r39.2.2.2.1), (41, u37), (42, .int .i64 (r36.2.length : Int)), (43, .bool (decide (¬ r39.2.2.2.1 = (r36.2.length : Int)))), (45, .bool false), (46, .pointer (some ⟨u9, 0, none⟩)), (47, u74), (49, u37), (50, u79), (51, .string (bs r58))] [.row u79 5 1 r58.length (ec eb r58), .row u74 5 1 r57.length (ec eb r57), .blk u9 60 (#[u70, .int .i64 r39.2.1, .int .i64 r39.2.2.1, .int .i64 r39.2.2.2.1]), .row u70 5 1 r39.2.2.2.2.length (ec eb r39.2.2.2.2), ro u37 1 r36.2.length (ec e1 r36.2), .blk b35 28 (#[.int .i64 ((a0.getD v22.toNat (0, 0)).1), .int .i64 ((a0.getD v22.toNat (0, 0)).2)]), ro s21 1 v20.length (ec e1 v20), ro sa0 2 a0.length (ec e2 a0)] := by
                intro u70 u74 u79
                rw [hA69]
                refine AW.step 18 [] (by kernel_rfl) ⟨⟨_, rfl, ?_⟩, trivial⟩
                · refine RW.yi (.string (bs r57)) rfl rfl (Yi.str (xs := r57) Try.underlying34 Try.underlying5 Try.underlying9 rfl (rdW 1 rfl)) ?_
                  refine RW.nil ?_
                  refine AW.on (done' := #[true, true, true, true, true, true, true, true, true, true, true, true, true, true, true, true, true, true, true, true, true, true, false, false]) rfl [4, 5, 6, 7] rfl rfl ?_
                  refine AW.take 22 (done' := #[true, true, true, true, true, true, true, true, true, true, true, true, true, true, true, true, true, true, true, true, true, true, true, false]) (.bool (decide (¬ (bs r57).toList = (bs r58).toList))) [4, 5, 6, 7] hns rfl rfl rfl (by kernel_rfl) (by kernel_rfl) rfl rfl rfl (by kernel_rfl) (fun _ _ => Yi.neStr rfl rfl) ?_
                  refine AW.take 23 (done' := #[true, true, true, true, true, true, true, true, true, true, true, true, true, true, true, true, true, true, true, true, true, true, true, true]) (.bool (decide (¬ (bs r57).toList = (bs r58).toList))) [4, 5, 6, 7] hns rfl rfl rfl (by kernel_rfl) (by kernel_rfl) rfl rfl rfl (by kernel_rfl) (fun _ _ => Yi.pv _ rfl) ?_
                  have ht := hA69_111111111111111111111111 u70 u74 u79
                  rw [hA69] at ht
                  refine AW.to [0, 1, 2, 3, 4, 5, 6, 7] rfl rfl ?_ ht
                  exact ⟨rfl, rfl, rfl, rfl, rfl, rfl, rfl, rfl, rfl, rfl, rfl, rfl, rfl, rfl, rfl, rfl, rfl, rfl, trivial⟩
              have hA69_111111111111111111011000 : ∀ (u70 : Value) (u74 : Value) (u79 : Value), A69 4 #[true, true, true, true, true, true, true, true, true, true, true, true, true, true, true, true, true, true, false, true, true, false, false, false] [(3, .pointer (some ⟨u9, 0, none⟩)), (4, u37), (14, sa0), (15, .int .i64 (a0.length : Int)), (16, .int .i64 v22), (39, .pointer (some ⟨u9, 0, none⟩)), (40, .int .i64 r39.2.2.2.1), (41, u37), (42, .int .i64 (r36.2.length : Int)), (43, .bool (decide (¬ r39.2.2.2.1 = (r36.2.length : Int)))), (45, .bool false), (46, .pointer (some ⟨u9, 0, none⟩)), (47, u74), (49, u37), (50, u79)] [.row u79 5 1 r58.length (ec eb r58), .row u74 5 1 r57.length (ec eb r57), .blk u9 60 (#[u70, .int .i64 r39.2.1, .int .i64 r39.2.2.1, .int .i64 r39.2.2.2.1]), .row u70 5 1 r39.2.2.2.2.length (ec eb r39.2.2.2.2), ro u37 1 r36.2.length (ec e1 r36.2), .blk b35 28 (#[.int .i64 ((a0.getD v22.toNat (0, 0)).1), .int .i64 ((a0.getD v22.toNat (0, 0)).2)]), ro s21 1 v20.length (ec e1 v20), ro sa0 2 a0.length (ec e2 a0)] := by
                intro u70 u74 u79
                rw [hA69]
                refine AW.step 18 [21] (by kernel_rfl) ⟨⟨_, rfl, ?_⟩, ⟨_, rfl, ?_⟩, trivial⟩
                · refine RW.yi (.string (bs r57)) rfl rfl (Yi.str (xs := r57) Try.underlying34 Try.underlying5 Try.underlying9 rfl (rdW 1 rfl)) ?_
                  refine RW.nil ?_
                  refine AW.on (done' := #[true, true, true, true, true, true, true, true, true, true, true, true, true, true, true, true, true, true, true, true, true, false, false, false]) rfl [4, 5, 6, 7] rfl rfl ?_
                  have ht := hA69_111111111111111111111000 u70 u74 u79
                  rw [hA69] at ht
                  refine AW.to [0, 1, 2, 3, 4, 5, 6, 7] rfl rfl ?_ ht
                  exact ⟨rfl, rfl, rfl, rfl, rfl, rfl, rfl, rfl, rfl, rfl, rfl, rfl, rfl, rfl, rfl, rfl, trivial⟩
                · refine RW.yi (.string (bs r58)) rfl rfl (Yi.str (xs := r58) Try.underlying34 Try.underlying5 Try.underlying9 rfl (rdW 0 rfl)) ?_
                  refine RW.nil ?_
                  refine AW.on (done' := #[true, true, true, true, true, true, true, true, true, true, true, true, true, true, true, true, true, true, false, true, true, true, false, false]) rfl [4, 5, 6, 7] rfl rfl ?_
                  have ht := hA69_111111111111111111011100 u70 u74 u79
                  rw [hA69] at ht
                  refine AW.to [0, 1, 2, 3, 4, 5, 6, 7] rfl rfl ?_ ht
                  exact ⟨rfl, rfl, rfl, rfl, rfl, rfl, rfl, rfl, rfl, rfl, rfl, rfl, rfl, rfl, rfl, rfl, trivial⟩
              have hA69_111111111111111111010000 : ∀ (u70 : Value) (u74 : Value), A69 5 #[true, true, true, true, true, true, true, true, true, true, true, true, true, true, true, true, true, true, false, true, false, false, false, false] [(3, .pointer (some ⟨u9, 0, none⟩)), (4, u37), (14, sa0), (15, .int .i64 (a0.length : Int)), (16, .int .i64 v22), (39, .pointer (some ⟨u9, 0, none⟩)), (40, .int .i64 r39.2.2.2.1), (41, u37), (42, .int .i64 (r36.2.length : Int)), (43, .bool (decide (¬ r39.2.2.2.1 = (r36.2.length : Int)))), (45, .bool false), (46, .pointer (some ⟨u9, 0, none⟩)), (47, u74), (49, u37)] [.row u74 5 1 r57.length (ec eb r57), .blk u9 60 (#[u70, .int .i64 r39.2.1, .int .i64 r39.2.2.1, .int .i64 r39.2.2.2.1]), .row u70 5 1 r39.2.2.2.2.length (ec eb r39.2.2.2.2), ro u37 1 r36.2.length (ec e1 r36.2), .blk b35 28 (#[.int .i64 ((a0.getD v22.toNat (0, 0)).1), .int .i64 ((a0.getD v22.toNat (0, 0)).2)]), ro s21 1 v20.length (ec e1 v20), ro sa0 2 a0.length (ec e2 a0)] := by
                intro u70 u74
                rw [hA69]
                refine AW.step 18 [20] (by kernel_rfl) ⟨⟨_, rfl, ?_⟩, ⟨_, rfl, ?_⟩, trivial⟩
                · refine RW.yi (.string (bs r57)) rfl rfl (Yi.str (xs := r57) Try.underlying34 Try.underlying5 Try.underlying9 rfl (rdW 0 rfl)) ?_
                  refine RW.nil ?_
                  refine AW.on (done' := #[true, true, true, true, true, true, true, true, true, true, true, true, true, true, true, true, true, true, true, true, false, false, false, false]) rfl [3, 4, 5, 6] rfl rfl ?_
                  have ht := hA69_111111111111111111110000 u70 u74
                  rw [hA69] at ht
                  refine AW.to [0, 1, 2, 3, 4, 5, 6] rfl rfl ?_ ht
                  exact ⟨rfl, rfl, rfl, rfl, rfl, rfl, rfl, rfl, rfl, rfl, rfl, rfl, rfl, rfl, rfl, trivial⟩
                · refine RW.callM (cs := []) [] [.row u74 5 1 r57.length (ec eb r57), .blk u9 60 (#[u70, .int .i64 r39.2.1, .int .i64 r39.2.2.1, .int .i64 r39.2.2.2.1]), .row u70 5 1 r39.2.2.2.2.length (ec eb r39.2.2.2.2), ro u37 1 r36.2.length (ec e1 r36.2), .blk b35 28 (#[.int .i64 ((a0.getD v22.toNat (0, 0)).1), .int .i64 ((a0.getD v22.toNat (0, 0)).2)]), ro s21 1 v20.length (ec e1 v20), ro sa0 2 a0.length (ec e2 a0)] [ro u37 1 r36.2.length (ec e1 r36.2)] [0, 1, 2, 3, 4, 5, 6] (fun (u79 : Value) => [.row u79 5 1 r58.length (ec eb r58)]) (fun (u79 : Value) => u79) rfl rfl rfl rfl Try.call16 rfl rfl rfl (fun w hM => lentF (A := []) hM 3 rfl (lent0)) (.inl fun _ => rfl) (fun w S' hM => c_ref04_Bytes K r36.2 u37 r58 w S' hM hr58) (fun u79 => ?_)
                  refine RW.nil ?_
                  refine AW.on (done' := #[true, true, true, true, true, true, true, true, true, true, true, true, true, true, true, true, true, true, false, true, true, false, false, false]) rfl [4, 5, 6, 7] rfl rfl ?_
                  have ht := hA69_111111111111111111011000 u70 u74 u79
                  rw [hA69] at ht
                  refine AW.to [0, 1, 2, 3, 4, 5, 6, 7] rfl rfl ?_ ht
                  exact ⟨rfl, rfl, rfl, rfl, rfl, rfl, rfl, rfl, rfl, rfl, rfl, rfl, rfl, rfl, rfl, trivial⟩
              have hA69_111111111111111110010000 : ∀ (u70 : Value), A69 6 #[true, true, true, true, true, true, true, true, true, true, true, true, true, true, true, true, true, false, false, true, false, false, false, false] [(3, .pointer (some ⟨u9, 0, none⟩)), (4, u37), (14, sa0), (15, .int .i64 (a0.length : Int)), (16, .int .i64 v22), (39, .pointer (some ⟨u9, 0, none⟩)), (40, .int .i64 r39.2.2.2.1), (41, u37), (42, .int .i64 (r36.2.length : Int)), (43, .bool (decide (¬ r39.2.2.2.1 = (r36.2.length : Int)))), (45, .bool false), (46, .pointer (some ⟨u9, 0, none⟩)), (49, u37)] [.blk u9 60 (#[u70, .int .i64 r39.2.1, .int .i64 r39.2.2.1, .int .i64 r39.2.2.2.1]), .row u70 5 1 r39.2.2.2.2.length (ec eb r39.2.2.2.2), ro u37 1 r36.2.length (ec e1 r36.2), .blk b35 28 (#[.int .i64 ((a0.getD v22.toNat (0, 0)).1), .int .i64 ((a0.getD v22.toNat (0, 0)).2)]), ro s21 1 v20.length (ec e1 v20), ro sa0 2 a0.length (ec e2 a0)] := by
                intro u70
                rw [hA69]
                refine AW.step 17 [] (by kernel_rfl) ⟨⟨_, rfl, ?_⟩, trivial⟩
                · refine RW.callM (cs := []) [.blk u9 60 (#[u70, .int .i64 r39.2.1, .int .i64 r39.2.2.1, .int .i64 r39.2.2.2.1]), .row u70 5 1 r39.2.2.2.2.length (ec eb r39.2.2.2.2)] [ro u37 1 r36.2.length (ec e1 r36.2), .blk b35 28 (#[.int .i64 ((a0.getD v22.toNat (0, 0)).1), .int .i64 ((a0.getD v22.toNat (0, 0)).2)]), ro s21 1 v20.length (ec e1 v20), ro sa0 2 a0.length (ec e2 a0)] [] [0, 1, 2, 3, 4, 5] (fun (u74 : Value) => [.row u74 5 1 r57.length (ec eb r57), .blk u9 60 (#[u70, .int .i64 r39.2.1, .int .i64 r39.2.2.1, .int .i64 r39.2.2.2.1]), .row u70 5 1 r39.2.2.2.2.length (ec eb r39.2.2.2.2)]) (fun (u74 : Value) => u74) rfl rfl rfl rfl Try.call15 rfl rfl rfl (fun w hM => lent0) (.inl fun _ => rfl) (fun w S' hM => c_bits_Writer_Bytes K r39.2.2.2.2 r39.2.1 r39.2.2.1 r39.2.2.2.1 u9 u70 r57 w S' hM hr57) (fun u74 => ?_)
                  refine RW.nil ?_
                  refine AW.on (done' := #[true, true, true, true, true, true, true, true, true, true, true, true, true, true, true, true, true, true, false, true, false, false, false, false]) rfl [3, 4, 5, 6] rfl rfl ?_
                  have ht := hA69_111111111111111111010000 u70 u74
                  rw [hA69] at ht
                  refine AW.to [0, 1, 2, 3, 4, 5, 6] rfl rfl ?_ ht
                  exact ⟨rfl, rfl, rfl, rfl, rfl, rfl, rfl, rfl, rfl, rfl, rfl, rfl, rfl, rfl, trivial⟩
              have hA69_111111111101100000000000 : ∀ (u70 : Value), A69 12 #[true, true, true, true, true, true, true, true, true, true, false, true, true, false, false, false, false, false, false, false, false, false, false, false] [(3, .pointer (some ⟨u9, 0, none⟩)), (4, u37), (14, sa0), (15, .int .i64 (a0.length : Int)), (16, .int .i64 v22), (38, .bool false), (39, .pointer (some ⟨u9, 0, none⟩)), (41, u37), (42, .int .i64 (r36.2.length : Int))] [.blk u9 60 (#[u70, .int .i64 r39.2.1, .int .i64 r39.2.2.1, .int .i64 r39.2.2.2.1]), .row u70 5 1 r39.2.2.2.2.length (ec eb r39.2.2.2.2), ro u37 1 r36.2.length (ec e1 r36.2), .blk b35 28 (#[.int .i64 ((a0.getD v22.toNat (0, 0)).1), .int .i64 ((a0.getD v22.toNat (0, 0)).2)]), ro s21 1 v20.length (ec e1 v20), ro sa0 2 a0.length (ec e2 a0)] := by
                intro u70
                rw [hA69]
                refine AW.step 10 [] (by kernel_rfl) ⟨⟨_, rfl, ?_⟩, trivial⟩
                · refine RW.callM (cs := []) [.blk u9 60 (#[u70, .int .i64 r39.2.1, .int .i64 r39.2.2.1, .int .i64 r39.2.2.2.1]), .row u70 5 1 r39.2.2.2.2.length (ec eb r39.2.2.2.2)] [ro u37 1 r36.2.length (ec e1 r36.2), .blk b35 28 (#[.int .i64 ((a0.getD v22.toNat (0, 0)).1), .int .i64 ((a0.getD v22.toNat (0, 0)).2)]), ro s21 1 v20.length (ec e1 v20), ro sa0 2 a0.length (ec e2 a0)] [] [0, 1, 2, 3, 4, 5] (fun (_ : Unit) => [.blk u9 60 (#[u70, .int .i64 r39.2.1, .int .i64 r39.2.2.1, .int .i64 r39.2.2.2.1]), .row u70 5 1 r39.2.2.2.2.length (ec eb r39.2.2.2.2)]) (fun (_ : Unit) => .int .i64 r39.2.2.2.1) rfl rfl rfl rfl Try.call14 rfl rfl rfl (fun w hM => lent0) (.inl fun _ => rfl) (fun w S' hM => c_bits_Writer_Count K r39.2.2.2.2 r39.2.1 r39.2.2.1 r39.2.2.2.1 u9 u70 r46 w S' hM hr46) (fun _ => ?_)
                  refine RW.nil ?_
                  refine AW.on (done' := #[true, true, true, true, true, true, true, true, true, true, true, true, true, false, false, false, false, false, false, false, false, false, false, false]) rfl [2, 3, 4, 5] rfl rfl ?_
                  refine AW.take 13 (done' := #[true, true, true, true, true, true, true, true, true, true, true, true, true, true, false, false, false, false, false, false, false, false, false, false]) (.bool (decide (¬ r39.2.2.2.1 = (r36.2.length : Int)))) [2, 3, 4, 5] hns rfl rfl rfl (by kernel_rfl) (by kernel_rfl) rfl rfl rfl (by kernel_rfl) (fun _ _ => Yi.pv _ rfl) ?_
                  refine AW.take 14 (done' := #[true, true, true, true, true, true, true, true, true, true, true, true, true, true, true, false, false, false, false, false, false, false, false, false]) (.bool (decide (¬ r39.2.2.2.1 = (r36.2.length : Int)))) [2, 3, 4, 5] hns rfl rfl rfl (by kernel_rfl) (by kernel_rfl) rfl rfl rfl (by kernel_rfl) (fun _ _ => Yi.pv _ rfl) ?_
                  refine AW.take 15 (done' := #[true, true, true, true, true, true, true, true, true, true, true, true, true, true, true, true, false, false, false, false, false, false, false, false]) (.bool (decide (¬ r39.2.2.2.1 = (r36.2.length : Int)))) [2, 3, 4, 5] hns rfl rfl rfl (by kernel_rfl) (by kernel_rfl) rfl rfl rfl (by kernel_rfl) (fun _ _ => Yi.pv _ rfl) ?_
                  refine AW.fork 45 (¬ r39.2.2.2.1 = (r36.2.length : Int)) rfl (fun h => absurd h h47) (fun _ => ?_)
                  refine AW.take 16 (done' := #[true, true, true, true, true, true, true, true, true, true, true, true, true, true, true, true, true, false, false, false, false, false, false, false]) (.pointer (some ⟨u9, 0, none⟩)) [2, 3, 4, 5] hns rfl rfl rfl (by kernel_rfl) (by kernel_rfl) rfl rfl rfl (by kernel_rfl) (fun _ _ => Yi.pv _ rfl) ?_
                  refine AW.take 19 (done' := #[true, true, true, true, true, true, true, true, true, true, true, true, true, true, true, true, true, false, false, true, false, false, false, false]) (u37) [2, 3, 4, 5] hns rfl rfl rfl (by kernel_rfl) (by kernel_rfl) rfl rfl rfl (by kernel_rfl) (fun _ _ => Yi.pv _ rfl) ?_
                  have ht := hA69_111111111111111110010000 u70
                  rw [hA69] at ht
                  refine AW.to [0, 1, 2, 3, 4, 5] rfl rfl ?_ ht
                  exact ⟨rfl, rfl, rfl, rfl, rfl, rfl, rfl, rfl, rfl, rfl, rfl, rfl, rfl, trivial⟩
              have hA69_111110100000000000000000 : A69 18 #[true, true, true, true, true, false, true, false, false, false, false, false, false, false, false, false, false, false, false, false, false, false, false, false] [(3, .pointer (some ⟨u9, 0, none⟩)), (4, u37), (14, sa0), (15, .int .i64 (a0.length : Int)), (16, .int .i64 v22), (30, .pointer (some ⟨u9, 0, none⟩)), (32, .int .i64 ((a0.getD v22.toNat (0, 0)).1)), (34, .int .i64 ((a0.getD v22.toNat (0, 0)).2)), (36, .int .i64 r36.1)] [ro u37 1 r36.2.length (ec e1 r36.2), .blk b35 28 (#[.int .i64 ((a0.getD v22.toNat (0, 0)).1), .int .i64 ((a0.getD v22.toNat (0, 0)).2)]), .blk u9 60 (#[s15, .int .i64 v16, .int .i64 v17, .int .i64 v18]), .row s15 5 1 v14.length (ec eb v14), ro s21 1 v20.length (ec e1 v20), ro sa0 2 a0.length (ec e2 a0)] := by
                rw [hA69]
                refine AW.step 5 [] (by kernel_rfl) ⟨⟨_, rfl, ?_⟩, trivial⟩
                · refine RW.callM (cs := []) [.blk u9 60 (#[s15, .int .i64 v16, .int .i64 v17, .int .i64 v18]), .row s15 5 1 v14.length (ec eb v14)] [ro u37 1 r36.2.length (ec e1 r36.2), .blk b35 28 (#[.int .i64 ((a0.getD v22.toNat (0, 0)).1), .int .i64 ((a0.getD v22.toNat (0, 0)).2)]), ro s21 1 v20.length (ec e1 v20), ro sa0 2 a0.length (ec e2 a0)] [] [2, 3, 0, 1, 4, 5] (fun (u70 : Value) => [.blk u9 60 (#[u70, .int .i64 r39.2.1, .int .i64 r39.2.2.1, .int .i64 r39.2.2.2.1]), .row u70 5 1 r39.2.2.2.2.length (ec eb r39.2.2.2.2)]) (fun (u70 : Value) => .int .i64 r39.1) rfl rfl rfl rfl Try.call13 rfl rfl rfl (fun w hM => lent0) (.inl fun _ => rfl) (fun w S' hM => c_bits_Writer_Put K v14 v16 v17 v18 ((a0.getD v22.toNat (0, 0)).1) ((a0.getD v22.toNat (0, 0)).2) u9 s15 r39 w S' hM hr39) (fun u70 => ?_)
                  refine RW.nil ?_
                  refine AW.on (done' := #[true, true, true, true, true, true, true, false, false, false, false, false, false, false, false, false, false, false, false, false, false, false, false, false]) rfl [2, 3, 4, 5] rfl rfl ?_
                  refine AW.take 7 (done' := #[true, true, true, true, true, true, true, true, false, false, false, false, false, false, false, false, false, false, false, false, false, false, false, false]) (.bool (decide (¬ r39.1 = r36.1))) [2, 3, 4, 5] hns rfl rfl rfl (by kernel_rfl) (by kernel_rfl) rfl rfl rfl (by kernel_rfl) (fun _ _ => Yi.pv _ rfl) ?_
                  refine AW.take 8 (done' := #[true, true, true, true, true, true, true, true, true, false, false, false, false, false, false, false, false, false, false, false, false, false, false, false]) (.bool (decide (¬ r39.1 = r36.1))) [2, 3, 4, 5] hns rfl rfl rfl (by kernel_rfl) (by kernel_rfl) rfl rfl rfl (by kernel_rfl) (fun _ _ => Yi.pv _ rfl) ?_
                  refine AW.fork 38 (¬ r39.1 = r36.1) rfl (fun h => absurd h h40) (fun _ => ?_)
                  refine AW.take 9 (done' := #[true, true, true, true, true, true, true, true, true, true, false, false, false, false, false, false, false, false, false, false, false, false, false, false]) (.pointer (some ⟨u9, 0, none⟩)) [2, 3, 4, 5] hns rfl rfl rfl (by kernel_rfl) (by kernel_rfl) rfl rfl rfl (by kernel_rfl) (fun _ _ => Yi.pv _ rfl) ?_
                  refine AW.take 11 (done' := #[true, true, true, true, true, true, true, true, true, true, false, true, false, false, false, false, false, false, false, false, false, false, false, false]) (u37) [2, 3, 4, 5] hns rfl rfl rfl (by kernel_rfl) (by kernel_rfl) rfl rfl rfl (by kernel_rfl) (fun _ _ => Yi.pv _ rfl) ?_
                  refine AW.take 12 (done' := #[true, true, true, true, true, true, true, true, true, true, false, true, true, false, false, false, false, false, false, false, false, false, false, false]) (.int .i64 (r36.2.length : Int)) [2, 3, 4, 5] hns rfl rfl rfl (by kernel_rfl) (by kernel_rfl) rfl rfl rfl (by kernel_rfl) (fun _ _ => Yi.lenS (cs := ec e1 r36.2) (m := r36.2.length) Try.underlying26 rfl (rdF 0 rfl)) ?_
                  have ht := hA69_111111111101100000000000 u70
                  rw [hA69] at ht
                  refine AW.to [0, 1, 2, 3, 4, 5] rfl rfl ?_ ht
                  exact ⟨rfl, rfl, rfl, rfl, rfl, rfl, rfl, rfl, rfl, trivial⟩
              rw [hA69]
              refine AW.take 0 (done' := #[true, false, false, false, false, false, false, false, false, false, false, false, false, false, false, false, false, false, false, false, false, false, false, false]) (.pointer (some ⟨u9, 0, none⟩)) [0, 1, 4, 5] hns rfl rfl rfl (by kernel_rfl) (by kernel_rfl) rfl rfl rfl (by kernel_rfl) (fun _ _ => Yi.pv _ rfl) ?_
              refine AW.take 1 (done' := #[true, true, false, false, false, false, false, false, false, false, false, false, false, false, false, false, false, false, false, false, false, false, false, false]) (.pointer (some ⟨b35, 0, none⟩)) [0, 1, 4, 5] hns rfl rfl rfl (by kernel_rfl) (by kernel_rfl) rfl rfl rfl (by kernel_rfl) (fun _ _ => Yi.fieldAddr (j := 0) Try.underlying28 rfl Try.sizeOf3 rfl) ?_
              refine AW.take 2 (done' := #[true, true, true, false, false, false, false, false, false, false, false, false, false, false, false, false, false, false, false, false, false, false, false, false]) (.int .i64 ((a0.getD v22.toNat (0, 0)).1)) [0, 1, 4, 5] hns rfl rfl rfl (by kernel_rfl) (by kernel_rfl) rfl rfl rfl (by kernel_rfl) (fun _ _ => Yi.load1 (i := 1) _ rfl rfl Try.isAgg3 rfl) ?_
              refine AW.take 3 (done' := #[true, true, true, true, false, false, false, false, false, false, false, false, false, false, false, false, false, false, false, false, false, false, false, false]) (.pointer (some ⟨b35, 1, none⟩)) [0, 1, 4, 5] hns rfl rfl rfl (by kernel_rfl) (by kernel_rfl) rfl rfl rfl (by kernel_rfl) (fun _ _ => Yi.fieldAddr (j := 1) Try.underlying28 rfl Try.sizeOf3 rfl) ?_
              refine AW.take 4 (done' := #[true, true, true, true, true, false, false, false, false, false, false, false, false, false, false, false, false, false, false, false, false, false, false, false]) (.int .i64 ((a0.getD v22.toNat (0, 0)).2)) [0, 1, 4, 5] hns rfl rfl rfl (by kernel_rfl) (by kernel_rfl) rfl rfl rfl (by kernel_rfl) (fun _ _ => Yi.load1 (i := 1) _ rfl rfl Try.isAgg3 rfl) ?_
              refine AW.take 6 (done' := #[true, true, true, true, true, false, true, false, false, false, false, false, false, false, false, false, false, false, false, false, false, false, false, false]) (.int .i64 r36.1) [0, 1, 4, 5] hns rfl rfl rfl (by kernel_rfl) (by kernel_rfl) rfl rfl rfl (by kernel_rfl) (fun _ _ => Yi.pv _ rfl) ?_
              have ht := hA69_111110100000000000000000
              rw [hA69] at ht
              refine AW.to [0, 1, 2, 3, 4, 5] rfl rfl ?_ ht
              exact ⟨rfl, rfl, rfl, rfl, rfl, rfl, rfl, rfl, rfl, trivial⟩
        · replace hm := (if_neg h33).symm.trans hm
          refine CW.cond_false rfl ?_
          refine CW.exit ?_
          refine EW.thx ?_
          refine EW.thx ?_
          refine EW.blx ?_
          refine EW.thn ?_
          exact fun a w hs hM => ⟨hs.sub trivial, (hM.pick [] rfl rfl), hm⟩
    · rintro a w ⟨hs, hM, hm⟩
      unfold law04_BitsPuts_j1 at hm
      refine CW.enter hs hM ?_
      refine CW.seq ?_
      refine CW.region ?_
      obtain ⟨r10, hr10, hm⟩ := of_bind hm
      refine RW.ca (.bool r10) rfl rfl (Ca.call (cs := []) [] rfl rfl Try.call10 (fun w hM => lent0) (fun w S' hM => (c_law04_awake K  r10 w S' hM hr10).mono (fun _ _ h => by obtain ⟨_, h1, h2⟩ := h; exact ⟨h1, h2⟩))) ?_
      refine RW.yi (.bool r10) rfl rfl (Yi.pv _ rfl) ?_
      refine RW.nil ?_
      refine EW.next ?_
      refine CW.ret ?_
      obtain rfl := Option.some.inj hm
      exact EW.done (rs := [.tmp 2]) rfl (.tmp (t := 2) (v := .bool r10) rfl .nil) (fun _ hM => ⟨(), rfl, (hM.pick [] rfl rfl)⟩)

end Go.Proofs.Ytpfnjmaadghhoaa
