import Derived.Test.YtpfnjmaadghhoaaN7
import Derived.Test.YtpfnjmaadghhoaaProg
import Derived.Test.YtpfnjmaadghhoaaGbitsNewReader
import Derived.Test.YtpfnjmaadghhoaaGbitsReaderAt
import Derived.Test.YtpfnjmaadghhoaaGbitsReaderBit
import Derived.Test.YtpfnjmaadghhoaaGbitsReaderGet
import Derived.Test.YtpfnjmaadghhoaaGbitsReaderMarker
import Derived.Test.YtpfnjmaadghhoaaGbitsReaderSkip
import Derived.Test.YtpfnjmaadghhoaaGlaw04awake
import Derived.Test.YtpfnjmaadghhoaaGref04ReaderBit
import Derived.Test.YtpfnjmaadghhoaaGref04ReaderGet
import Derived.Test.YtpfnjmaadghhoaaGref04ReaderMarker
import Derived.Test.YtpfnjmaadghhoaaGref04ReaderSkip
set_option maxRecDepth 100000
set_option maxHeartbeats 1000000
namespace Go.Proofs.Ytpfnjmaadghhoaa
open Go Go.RowKit K

def law04_BitsReads_j1 (K : Nat)  : Option (Bool) :=
  ((law04_awake K ).bind fun r19 => some r19)

def law04_BitsReads_j2 (K : Nat) (cb_law04_BitsReads_l1 : Int → Int → Int → Int → (List Int) → Int → Option (Bool)) (a0 : (List Int)) (v30 : Int) (v91 : Int) (v92 : Int) (v93 : Int) (v95 : Int) (v97 : (List Int)) (v99 : Int) (v100 : Int) (v101 : Int) (v102 : Int) : Option (Bool) :=
  (if ¬ v99 = v100 then some false else (if ¬ v101 = v102 then some false else ((bits_Reader_At K v91 v92 v93 (([] : List Int) ++ (([] : List Int) ++ a0))).bind fun r107 => (if ¬ v91 = v95 then some false else cb_law04_BitsReads_l1 v91 v92 v93 v95 v97 (w64 (v30 + 1))))))

def law04_BitsReads_l1 (K : Nat) (a0 : (List Int)) (a1 : (List (Int × Int))) : Nat → Int → Int → Int → Int → (List Int) → Int →  Option (Bool)
  | 0, _, _, _, _, _, _ => none
  | k1 + 1, v22, v23, v24, v26, v28, v30 =>
    (if v30 < (a1.length : Int) then (if 0 ≤ v30 ∧ v30 < (a1.length : Int) then (if (a1.getD v30.toNat (0, 0)).1 = 0 then ((bits_Reader_Bit K v22 v23 v24 (([] : List Int) ++ (([] : List Int) ++ a0))).bind fun r115 => ((ref04_Reader_Bit K a0 v26 v28).bind fun r118 => law04_BitsReads_j2 K (law04_BitsReads_l1 K a0 a1 k1) a0 v30 r115.2.2.1 r115.2.2.2.1 r115.2.2.2.2 r118.1 r118.2.2.2 r115.1 r118.2.1 r115.2.1 r118.2.2.1)) else (if (a1.getD v30.toNat (0, 0)).1 = 1 then ((bits_Reader_Get K v22 v23 v24 (([] : List Int) ++ (([] : List Int) ++ a0)) ((a1.getD v30.toNat (0, 0)).2)).bind fun r122 => ((ref04_Reader_Get K a0 v26 v28 ((a1.getD v30.toNat (0, 0)).2)).bind fun r125 => law04_BitsReads_j2 K (law04_BitsReads_l1 K a0 a1 k1) a0 v30 r122.2.2.1 r122.2.2.2.1 r122.2.2.2.2 r125.1 r125.2.2.2 r122.1 r125.2.1 r122.2.1 r125.2.2.1)) else (if (a1.getD v30.toNat (0, 0)).1 = 2 then ((bits_Reader_Skip K v22 v23 v24 (([] : List Int) ++ (([] : List Int) ++ a0))).bind fun r129 => ((ref04_Reader_Skip K a0 v26 v28).bind fun r132 => law04_BitsReads_j2 K (law04_BitsReads_l1 K a0 a1 k1) a0 v30 v22 v23 0 v26 ([] : List Int) v24 (v28.length : Int) 0 0)) else (if (a1.getD v30.toNat (0, 0)).1 = 3 then ((bits_Reader_Marker K v22 v23 v24 (([] : List Int) ++ (([] : List Int) ++ a0))).bind fun r134 => ((ref04_Reader_Marker K a0 v26 v28).bind fun r137 => law04_BitsReads_j2 K (law04_BitsReads_l1 K a0 a1 k1) a0 v30 r134.2.2.1 v23 r134.2.2.2 r137.1 r137.2.2.2 r134.1 r137.2.1 r134.2.1 r137.2.2.1)) else law04_BitsReads_j2 K (law04_BitsReads_l1 K a0 a1 k1) a0 v30 v22 v23 v24 v26 v28 0 0 0 0)))) else none) else law04_BitsReads_j1 K)

def law04_BitsReads_j3 (K : Nat) (a0 : (List Int)) (a1 : (List (Int × Int))) : Option (Bool) :=
  law04_BitsReads_l1 K a0 a1 K 0 0 0 0 ([] : List Int) 0

def law04_BitsReads_l2 (K : Nat) (a0 : (List Int)) (a1 : (List (Int × Int))) : Nat → (List Int) → Int →  Option (Bool)
  | 0, _, _ => none
  | k2 + 1, v142, v143 =>
    (if v143 < ((([] : List Int) ++ a0).length : Int) then (if 0 ≤ v143 ∧ v143 < (v142.length : Int) then (law04_BitsReads_l2 K a0 a1 k2) (v142.set v143.toNat (IntKind.u8.wrap ((v142.getD v143.toNat 0) + 1))) (w64 (v143 + 1)) else none) else law04_BitsReads_j3 K a0 a1)

def law04_BitsReads (K : Nat) (a0 : (List Int)) (a1 : (List (Int × Int))) : Option (Bool) :=
  (if 200 < (a1.length : Int) then ((law04_awake K ).bind fun r8 => some r8) else (if 4000 < (a0.length : Int) then ((law04_awake K ).bind fun r10 => some r10) else (if ([] : List Int).length + a0.length ≤ 140737488355328 then ((bits_NewReader K (([] : List Int) ++ a0)).bind fun r15 => law04_BitsReads_l2 K a0 a1 K (([] : List Int) ++ a0) 0) else none)))

theorem c_law04_BitsReads (K : Nat) (a0 : (List Int)) (a1 : (List (Int × Int))) (sa0 : Value) (sa1 : Value) (r : Bool) (w0 : World) (S : Own) (hM0 : Mem w0 S [ro sa0 1 a0.length (ec eb a0), ro sa1 2 a1.length (ec e2 a1)] w0) (hm : law04_BitsReads K a0 a1 = some r) : Calls Try.prog 9 #[sa0, sa1] w0 fun e w' => ∃ _u : Unit, e = .returned (.bool r) ∧ Mem w0 S [] w' := by
  unfold law04_BitsReads at hm
  refine calls_CW (n := 120) w0 S [ro sa0 1 a0.length (ec eb a0), ro sa1 2 a1.length (ec e2 a1)] Try.func9 rfl rfl rfl hM0 ?_
  refine CW.seq ?_
  refine CW.region ?_
  refine RW.yi (.bool false) rfl rfl (Yi.pv _ rfl) ?_
  refine RW.nil ?_
  refine EW.next ?_
  refine CW.seq ?_
  refine CW.seq ?_
  refine CW.region ?_
  refine RW.yi (sa1) rfl rfl (Yi.pv _ rfl) ?_
  refine RW.yi (.int .i64 (a1.length : Int)) rfl rfl (Yi.lenS (cs := ec e2 a1) (m := a1.length) Try.underlying43 rfl (rdF 1 rfl)) ?_
  refine RW.yi (.bool (decide (200 < (a1.length : Int)))) rfl rfl (Yi.pv _ rfl) ?_
  refine RW.yi (.bool (decide (200 < (a1.length : Int)))) rfl rfl (Yi.pv _ rfl) ?_
  refine RW.fork 18 (200 < (a1.length : Int)) rfl (fun h7 => ?_) (fun h7 => ?_)
  · replace hm := (if_pos h7).symm.trans hm
    refine RW.pass rfl rfl ?_
    refine RW.pass rfl rfl ?_
    refine RW.pass rfl rfl ?_
    refine RW.yi (.bool true) rfl rfl (Yi.pv _ rfl) ?_
    refine RW.nil ?_
    refine EW.next ?_
    refine CW.cond_true rfl ?_
    refine CW.seq ?_
    refine CW.region ?_
    obtain ⟨r8, hr8, hm⟩ := of_bind hm
    refine RW.ca (.bool r8) rfl rfl (Ca.call (cs := []) [] rfl rfl Try.call10 (fun w hM => lent0) (fun w S' hM => (c_law04_awake K  r8 w S' hM hr8).mono (fun _ _ h => by obtain ⟨_, h1, h2⟩ := h; exact ⟨h1, h2⟩))) ?_
    refine RW.yi (.bool r8) rfl rfl (Yi.pv _ rfl) ?_
    refine RW.nil ?_
    refine EW.next ?_
    refine CW.ret ?_
    refine EW.thr ?_
    obtain rfl := Option.some.inj hm
    exact EW.done (rs := [.tmp 4]) rfl (.tmp (t := 4) (v := .bool r8) rfl .nil) (fun _ hM => ⟨(), rfl, (hM.pick [] rfl rfl)⟩)
  · replace hm := (if_neg h7).symm.trans hm
    refine RW.yi (sa0) rfl rfl (Yi.pv _ rfl) ?_
    refine RW.yi (.int .i64 (a0.length : Int)) rfl rfl (Yi.lenS (cs := ec eb a0) (m := a0.length) Try.underlying34 rfl (rdF 0 rfl)) ?_
    refine RW.yi (.bool (decide (4000 < (a0.length : Int)))) rfl rfl (Yi.pv _ rfl) ?_
    refine RW.yi (.bool (decide (4000 < (a0.length : Int)))) rfl rfl (Yi.pv _ rfl) ?_
    refine RW.nil ?_
    refine EW.next ?_
    refine CW.fork 22 (4000 < (a0.length : Int)) rfl (fun h9 => ?_) (fun h9 => ?_)
    · replace hm := (if_pos h9).symm.trans hm
      refine CW.cond_true rfl ?_
      refine CW.seq ?_
      refine CW.region ?_
      obtain ⟨r10, hr10, hm⟩ := of_bind hm
      refine RW.ca (.bool r10) rfl rfl (Ca.call (cs := []) [] rfl rfl Try.call10 (fun w hM => lent0) (fun w S' hM => (c_law04_awake K  r10 w S' hM hr10).mono (fun _ _ h => by obtain ⟨_, h1, h2⟩ := h; exact ⟨h1, h2⟩))) ?_
      refine RW.yi (.bool r10) rfl rfl (Yi.pv _ rfl) ?_
      refine RW.nil ?_
      refine EW.next ?_
      refine CW.ret ?_
      refine EW.thr ?_
      obtain rfl := Option.some.inj hm
      exact EW.done (rs := [.tmp 4]) rfl (.tmp (t := 4) (v := .bool r10) rfl .nil) (fun _ hM => ⟨(), rfl, (hM.pick [] rfl rfl)⟩)
    · replace hm := (if_neg h9).symm.trans hm
      refine CW.cond_false rfl ?_
      refine CW.skip ?_
      refine EW.next ?_
      refine CW.seq ?_
      refine CW.region ?_
      refine RW.buildS (e := 5) (sz := 1) (vs := []) ((ec eb ([] : List Int)).toArray) rfl rfl rfl rfl rfl (by decide) (fun _ => by kernel_rfl) (fun s11 => ?_)
      refine RW.yi (sa0) rfl rfl (Yi.pv _ rfl) ?_
      obtain ⟨g13, hm⟩ := of_guard hm
      refine RW.app (i := 0) (e := 5) (sz := 1) (by_ := 1) (z := .int .u8 0) (m := ([] : List Int).length) (mx := a0.length) (m' := (([] : List Int) ++ a0).length) (cs := ec eb ([] : List Int)) (news := ec eb a0) (cs' := ec eb (([] : List Int) ++ a0)) rfl rfl Try.underlying34 (by kernel_rfl) rfl (by decide) (by decide) rfl rfl rfl (rdF 1 rfl) (ec_one eb_is _) (by omega) (ec_append _ _ _) (by simp only [List.length_append]) (fun s14 => ?_)
      refine RW.yi (s14) rfl rfl (Yi.pv _ rfl) ?_
      refine RW.nil ?_
      refine EW.next ?_
      refine CW.seq ?_
      refine CW.region ?_
      refine RW.yi (s14) rfl rfl (Yi.pv _ rfl) ?_
      obtain ⟨r15, hr15, hm⟩ := of_bind hm
      refine RW.callM (cs := []) [] [.row s14 5 1 (([] : List Int) ++ a0).length (ec eb (([] : List Int) ++ a0)), ro sa0 1 a0.length (ec eb a0), ro sa1 2 a1.length (ec e2 a1)] [ro s14 1 (([] : List Int) ++ a0).length (ec eb (([] : List Int) ++ a0))] [0, 1, 2] (fun (u16 : Nat × Value) => [.blk u16.1 67 (#[.int .i64 0, .int .i64 0, .int .i64 0, u16.2]), .row u16.2 5 1 (([] : List Int) ++ (([] : List Int) ++ a0)).length (ec eb (([] : List Int) ++ (([] : List Int) ++ a0)))]) (fun (u16 : Nat × Value) => .pointer (some ⟨u16.1, 0, none⟩)) rfl rfl rfl rfl Try.call17 rfl rfl rfl (fun w hM => lentW (A := []) hM 0 rfl (lent0)) (.inl fun _ => rfl) (fun w S' hM => c_bits_NewReader K (([] : List Int) ++ a0) s14 r15 w S' hM hr15) (fun u16 => ?_)
      refine RW.yi (sa0) rfl rfl (Yi.pv _ rfl) ?_
      refine RW.yi (.agg #[sa0, .int .i64 0, .slice none 0 0]) rfl rfl (Yi.buildM (vs := [sa0]) _ rfl rfl (fun w hM => by have e0 := rd_slice ((rdF 3 rfl) w hM); revert e0; generalize sa0 = x0; rintro ⟨_, _, _, rfl⟩; show _ = _; kernel_rfl)) ?_
      refine RW.alloc (z := .agg #[.slice none 0 0, .int .i64 0, .slice none 0 0]) (#[.slice none 0 0, .int .i64 0, .slice none 0 0]) rfl rfl (fun _ => by kernel_rfl) rfl (fun b18 => ?_)
      refine RW.yi (.pointer (some ⟨u16.1, 0, none⟩)) rfl rfl (Yi.pv _ rfl) ?_
      refine RW.conv1 (fun w hM => ones_cat (ps := [p1 (sa0), p1 (.int .i64 0), p1 (.slice none 0 0)]) (ones_cons (fun _ => (rd_one ((rdF 4 rfl) w hM)).2) (ones_cons (fun _ => rfl) (ones_cons (fun _ => rfl) ones_nil)))) (fun hone => ?_)
      refine RW.storeQ (i := 0) (m := 3) (cs' := #[sa0, .int .i64 0, .slice none 0 0]) rfl rfl rfl rfl Try.sizeOf50 rfl (Nat.le_of_ble_eq_true rfl) hone (fun c' hs hget => (cat_spl (A := []) (X := [p1 (.slice none 0 0), p1 (.int .i64 0), p1 (.slice none 0 0)]) (B := []) (Y := [p1 (sa0), p1 (.int .i64 0), p1 (.slice none 0 0)]) rfl hs (by first | exact hget | (rw [cat_one]; exact hget)))) ?_
      refine RW.nil ?_
      refine EW.next ?_
      refine CW.join (fun a w => St 120 [(1, sa1), (6, .pointer (some ⟨u16.1, 0, none⟩)), (7, .pointer (some ⟨b18, 0, none⟩))] a ∧ Mem w0 S [ro sa1 2 a1.length (ec e2 a1), .blk u16.1 67 (#[.int .i64 0, .int .i64 0, .int .i64 0, u16.2]), .row u16.2 5 1 (([] : List Int) ++ (([] : List Int) ++ a0)).length (ec eb (([] : List Int) ++ (([] : List Int) ++ a0))), .blk b18 50 (#[sa0, .int .i64 0, .slice none 0 0]), ro sa0 1 a0.length (ec eb a0)] w ∧ law04_BitsReads_j3 K a0 a1 = some r) ?_ ?_
      · refine CW.seq ?_
        refine CW.region ?_
        refine RW.yi (s14) rfl rfl (Yi.pv _ rfl) ?_
        refine RW.yi (.int .i64 ((([] : List Int) ++ a0).length : Int)) rfl rfl (Yi.lenS (cs := ec eb (([] : List Int) ++ a0)) (m := (([] : List Int) ++ a0).length) Try.underlying34 rfl (rdW 3 rfl)) ?_
        refine RW.yi (.int .i64 0) rfl rfl (Yi.pv _ rfl) ?_
        refine RW.nil ?_
        refine EW.next ?_
        refine CW.block ?_
        refine CW.loop (fun k a w => ∃ (v142 : (List Int)) (v143 : Int), St 120 [(1, sa1), (5, s14), (6, .pointer (some ⟨u16.1, 0, none⟩)), (7, .pointer (some ⟨b18, 0, none⟩)), (32, .int .i64 ((([] : List Int) ++ a0).length : Int)), (33, .int .i64 v143)] a ∧ Mem w0 S [ro sa1 2 a1.length (ec e2 a1), .row s14 5 1 v142.length (ec eb v142), .blk u16.1 67 (#[.int .i64 0, .int .i64 0, .int .i64 0, u16.2]), .row u16.2 5 1 (([] : List Int) ++ (([] : List Int) ++ a0)).length (ec eb (([] : List Int) ++ (([] : List Int) ++ a0))), .blk b18 50 (#[sa0, .int .i64 0, .slice none 0 0]), ro sa0 1 a0.length (ec eb a0)] w ∧ law04_BitsReads_l2 K a0 a1 k v142 v143 = some r) K ?_ ?_ ?_
        · rintro a w ⟨_, _, _, _, hm⟩
          rw [law04_BitsReads_l2.eq_1] at hm
          cases hm
        · exact fun a w hs hM => ⟨(([] : List Int) ++ a0), 0, hs.sub ⟨rfl, rfl, rfl, rfl, rfl, rfl, trivial⟩, (hM.pick [5, 3, 1, 2, 0, 4] rfl rfl), hm⟩
        · rintro k2 a w ⟨v142, v143, hs, hM, hm⟩
          rw [law04_BitsReads_l2.eq_2] at hm
          refine CW.enter hs hM ?_
          refine CW.seq ?_
          refine CW.region ?_
          refine RW.yi (.bool (decide (v143 < ((([] : List Int) ++ a0).length : Int)))) rfl rfl (Yi.pv _ rfl) ?_
          refine RW.nil ?_
          refine EW.next ?_
          refine CW.seq ?_
          refine CW.fork 34 (v143 < ((([] : List Int) ++ a0).length : Int)) rfl (fun h146 => ?_) (fun h146 => ?_)
          · replace hm := (if_pos h146).symm.trans hm
            refine CW.cond_true rfl ?_
            refine CW.skip ?_
            refine EW.next ?_
            refine CW.seq ?_
            refine CW.block ?_
            refine CW.seq ?_
            refine CW.region ?_
            refine RW.yi (.int .i64 v143) rfl rfl (Yi.pv _ rfl) ?_
            refine RW.yi (.int .i64 v143) rfl rfl (Yi.pv _ rfl) ?_
            refine RW.nil ?_
            refine EW.next ?_
            refine CW.region ?_
            refine RW.yi (s14) rfl rfl (Yi.pv _ rfl) ?_
            refine RW.yi (.int .i64 v143) rfl rfl (Yi.pv _ rfl) ?_
            obtain ⟨g147, hm⟩ := of_guard hm
            refine RW.yi (.pointer (some (eaddr s14 1 v143.toNat 0))) rfl rfl (Yi.idxS (m := v142.length) Try.underlying34 Try.sizeOf5 rfl rfl (rdW 1 rfl) g147.1 g147.2) ?_
            refine RW.yi (.int .u8 (v142.getD v143.toNat 0)) rfl rfl (Yi.loadS (m := v142.length) (cs := ec eb v142) _ rfl (rdW 1 rfl) Try.isAgg5 (by omega) (by omega) (by rw [ec_get (d := 0) eb_is (by omega) (by decide)]; rfl)) ?_
            refine RW.yi (.int .u8 (IntKind.u8.wrap ((v142.getD v143.toNat 0) + 1))) rfl rfl (Yi.pv _ rfl) ?_
            refine RW.yi (.pointer (some (eaddr s14 1 v143.toNat 0))) rfl rfl (Yi.idxS (m := v142.length) Try.underlying34 Try.sizeOf5 rfl rfl (rdW 1 rfl) g147.1 g147.2) ?_
            refine RW.storeE (r := 1) (cs' := ec eb (v142.set v143.toNat (IntKind.u8.wrap ((v142.getD v143.toNat 0) + 1)))) rfl rfl rfl rfl Try.sizeOf5 rfl rfl (by omega) (by decide) (ec_set eb_is (d := 0) (by decide) (by omega) (rfl)) ?_
            refine RW.conv (fun _ hM => hM.rowlen (i := 1) (m' := (v142.set v143.toNat (IntKind.u8.wrap ((v142.getD v143.toNat 0) + 1))).length) rfl (by simp)) ?_
            refine RW.nil ?_
            refine EW.bln ?_
            refine EW.next ?_
            refine CW.region ?_
            refine RW.yi (.int .i64 (w64 (v143 + 1))) rfl rfl (Yi.pv _ rfl) ?_
            refine RW.yi (.int .i64 (w64 (v143 + 1))) rfl rfl (Yi.pv _ rfl) ?_
            refine RW.nil ?_
            refine EW.thn ?_
            exact fun a w hs hM => ⟨(v142.set v143.toNat (IntKind.u8.wrap ((v142.getD v143.toNat 0) + 1))), (w64 (v143 + 1)), hs.sub ⟨rfl, rfl, rfl, rfl, rfl, rfl, trivial⟩, (hM.pick [0, 1, 2, 3, 4, 5] rfl rfl), hm⟩
          · replace hm := (if_neg h146).symm.trans hm
            refine CW.cond_false rfl ?_
            refine CW.exit ?_
            refine EW.thx ?_
            refine EW.thx ?_
            refine EW.blx ?_
            refine EW.thn ?_
            exact fun a w hs hM => ⟨hs.sub ⟨rfl, rfl, rfl, trivial⟩, (hM.pick [0, 2, 3, 4, 5] rfl rfl), hm⟩
      · rintro a w ⟨hs, hM, hm⟩
        unfold law04_BitsReads_j3 at hm
        refine CW.enter hs hM ?_
        refine CW.join (fun a w => St 120 [] a ∧ Mem w0 S [] w ∧ law04_BitsReads_j1 K = some r) ?_ ?_
        · refine CW.seq ?_
          refine CW.region ?_
          refine RW.yi (sa1) rfl rfl (Yi.pv _ rfl) ?_
          refine RW.yi (.int .i64 (a1.length : Int)) rfl rfl (Yi.lenS (cs := ec e2 a1) (m := a1.length) Try.underlying43 rfl (rdF 0 rfl)) ?_
          refine RW.yi (.int .i64 0) rfl rfl (Yi.pv _ rfl) ?_
          refine RW.nil ?_
          refine EW.next ?_
          refine CW.block ?_
          refine CW.loop (fun k a w => ∃ (v22 : Int) (v23 : Int) (v24 : Int) (v26 : Int) (v28 : (List Int)) (v30 : Int) (s29 : Value), St 120 [(6, .pointer (some ⟨u16.1, 0, none⟩)), (7, .pointer (some ⟨b18, 0, none⟩)), (43, sa1), (44, .int .i64 (a1.length : Int)), (45, .int .i64 v30)] a ∧ Mem w0 S [.blk u16.1 67 (#[.int .i64 v22, .int .i64 v23, .int .i64 v24, u16.2]), .row u16.2 5 1 (([] : List Int) ++ (([] : List Int) ++ a0)).length (ec eb (([] : List Int) ++ (([] : List Int) ++ a0))), .blk b18 50 (#[sa0, .int .i64 v26, s29]), ro sa0 1 a0.length (ec eb a0), ro s29 1 v28.length (ec e1 v28), ro sa1 2 a1.length (ec e2 a1)] w ∧ law04_BitsReads_l1 K a0 a1 k v22 v23 v24 v26 v28 v30 = some r) K ?_ ?_ ?_
          · rintro a w ⟨_, _, _, _, _, _, _, _, _, hm⟩
            rw [law04_BitsReads_l1.eq_1] at hm
            cases hm
          · exact fun a w hs hM => ⟨0, 0, 0, 0, ([] : List Int), 0, (.slice none 0 0), hs.sub ⟨rfl, rfl, rfl, rfl, rfl, trivial⟩, ((hM.nilRo 1).pick [2, 3, 4, 5, 0, 1] rfl rfl), hm⟩
          · rintro k1 a w ⟨v22, v23, v24, v26, v28, v30, s29, hs, hM, hm⟩
            rw [law04_BitsReads_l1.eq_2] at hm
            refine CW.enter hs hM ?_
            refine CW.seq ?_
            refine CW.region ?_
            refine RW.yi (.bool (decide (v30 < (a1.length : Int)))) rfl rfl (Yi.pv _ rfl) ?_
            refine RW.nil ?_
            refine EW.next ?_
            refine CW.seq ?_
            refine CW.fork 46 (v30 < (a1.length : Int)) rfl (fun h40 => ?_) (fun h40 => ?_)
            · replace hm := (if_pos h40).symm.trans hm
              refine CW.cond_true rfl ?_
              refine CW.skip ?_
              refine EW.next ?_
              refine CW.seq ?_
              refine CW.block ?_
              refine CW.seq ?_
              refine CW.region ?_
              obtain ⟨g41, hm⟩ := of_guard hm
              refine RW.yi (.pointer (some (eaddr sa1 2 v30.toNat 0))) rfl rfl (Yi.idxS (m := a1.length) Try.underlying43 Try.sizeOf45 rfl rfl (rdF 5 rfl) g41.1 g41.2) ?_
              refine RW.yi (.agg #[.int .i64 ((a1.getD v30.toNat (0, 0)).1), .int .i64 ((a1.getD v30.toNat (0, 0)).2)]) rfl rfl (Yi.loadSA (m := a1.length) (cs := ec e2 a1) _ rfl (rdF 5 rfl) Try.isAgg45 Try.sizeOf45 (by omega) (by rw [ec_elem e2_is (0, 0) (by omega)]; rfl)) ?_
              refine RW.alloc (z := .agg #[.int .i64 0, .int .i64 0]) (#[.int .i64 0, .int .i64 0]) rfl rfl (fun _ => by kernel_rfl) rfl (fun b42 => ?_)
              refine RW.storeW (i := 0) (cs' := #[.int .i64 ((a1.getD v30.toNat (0, 0)).1), .int .i64 ((a1.getD v30.toNat (0, 0)).2)]) rfl rfl rfl rfl (by kernel_rfl) rfl (by kernel_rfl) ?_
              refine RW.nil ?_
              refine EW.next ?_
              refine CW.seq ?_
              refine CW.region ?_
              refine RW.yi (.int .i64 0) rfl rfl (Yi.pv _ rfl) ?_
              refine RW.yi (.int .i64 0) rfl rfl (Yi.pv _ rfl) ?_
              refine RW.nil ?_
              refine EW.next ?_
              refine CW.seq ?_
              refine CW.region ?_
              refine RW.yi (.int .i64 0) rfl rfl (Yi.pv _ rfl) ?_
              refine RW.yi (.int .i64 0) rfl rfl (Yi.pv _ rfl) ?_
              refine RW.nil ?_
              refine EW.next ?_
              refine CW.join (fun a w => ∃ (v91 : Int) (v92 : Int) (v93 : Int) (v95 : Int) (v97 : (List Int)) (v99 : Int) (v100 : Int) (v101 : Int) (v102 : Int) (s98 : Value), St 120 [(6, .pointer (some ⟨u16.1, 0, none⟩)), (7, .pointer (some ⟨b18, 0, none⟩)), (11, .int .i64 v99), (12, .int .i64 v100), (13, .int .i64 v101), (14, .int .i64 v102), (43, sa1), (44, .int .i64 (a1.length : Int)), (45, .int .i64 v30)] a ∧ Mem w0 S [.blk u16.1 67 (#[.int .i64 v91, .int .i64 v92, .int .i64 v93, u16.2]), .row u16.2 5 1 (([] : List Int) ++ (([] : List Int) ++ a0)).length (ec eb (([] : List Int) ++ (([] : List Int) ++ a0))), .blk b18 50 (#[sa0, .int .i64 v95, s98]), ro sa0 1 a0.length (ec eb a0), ro s98 1 v97.length (ec e1 v97), ro sa1 2 a1.length (ec e2 a1)] w ∧ law04_BitsReads_j2 K (law04_BitsReads_l1 K a0 a1 k1) a0 v30 v91 v92 v93 v95 v97 v99 v100 v101 v102 = some r) ?_ ?_
              · refine CW.seq ?_
                refine CW.region ?_
                refine RW.yi (.pointer (some ⟨b42, 0, none⟩)) rfl rfl (Yi.fieldAddr (j := 0) Try.underlying45 rfl Try.sizeOf3 rfl) ?_
                refine RW.yi (.int .i64 ((a1.getD v30.toNat (0, 0)).1)) rfl rfl (Yi.load1 (i := 0) _ rfl rfl Try.isAgg3 rfl) ?_
                refine RW.nil ?_
                refine EW.next ?_
                refine CW.block ?_
                refine CW.seq ?_
                refine CW.region ?_
                refine RW.yi (.bool (decide ((a1.getD v30.toNat (0, 0)).1 = 0))) rfl rfl (Yi.pv _ rfl) ?_
                refine RW.yi (.bool (decide ((a1.getD v30.toNat (0, 0)).1 = 0))) rfl rfl (Yi.pv _ rfl) ?_
                refine RW.nil ?_
                refine EW.next ?_
                refine CW.fork 51 ((a1.getD v30.toNat (0, 0)).1 = 0) rfl (fun h114 => ?_) (fun h114 => ?_)
                · replace hm := (if_pos h114).symm.trans hm
                  refine CW.cond_true rfl ?_
                  refine CW.seq ?_
                  refine CW.region ?_
                  refine RW.yi (.pointer (some ⟨u16.1, 0, none⟩)) rfl rfl (Yi.pv _ rfl) ?_
                  obtain ⟨r115, hr115, hm⟩ := of_bind hm
                  refine RW.callM (cs := []) [.blk u16.1 67 (#[.int .i64 v22, .int .i64 v23, .int .i64 v24, u16.2]), .row u16.2 5 1 (([] : List Int) ++ (([] : List Int) ++ a0)).length (ec eb (([] : List Int) ++ (([] : List Int) ++ a0)))] [.blk b42 45 (#[.int .i64 ((a1.getD v30.toNat (0, 0)).1), .int .i64 ((a1.getD v30.toNat (0, 0)).2)]), .blk b18 50 (#[sa0, .int .i64 v26, s29]), ro sa0 1 a0.length (ec eb a0), ro s29 1 v28.length (ec e1 v28), ro sa1 2 a1.length (ec e2 a1)] [] [1, 2, 0, 3, 4, 5, 6] (fun (_ : Unit) => [.blk u16.1 67 (#[.int .i64 r115.2.2.1, .int .i64 r115.2.2.2.1, .int .i64 r115.2.2.2.2, u16.2]), .row u16.2 5 1 (([] : List Int) ++ (([] : List Int) ++ a0)).length (ec eb (([] : List Int) ++ (([] : List Int) ++ a0)))]) (fun (_ : Unit) => .tuple #[.int .i64 r115.1, .int .i64 r115.2.1]) rfl rfl rfl rfl Try.call18 rfl rfl rfl (fun w hM => lent0) (.inl fun _ => rfl) (fun w S' hM => c_bits_Reader_Bit K v22 v23 v24 (([] : List Int) ++ (([] : List Int) ++ a0)) u16.1 u16.2 r115 w S' hM hr115) (fun _ => ?_)
                  refine RW.yi (.tuple #[.int .i64 r115.1, .int .i64 r115.2.1]) rfl rfl (Yi.pv _ rfl) ?_
                  refine RW.yi (.int .i64 r115.1) rfl rfl (Yi.pv _ rfl) ?_
                  refine RW.yi (.int .i64 r115.2.1) rfl rfl (Yi.pv _ rfl) ?_
                  refine RW.yi (.int .i64 r115.1) rfl rfl (Yi.pv _ rfl) ?_
                  refine RW.yi (.int .i64 r115.2.1) rfl rfl (Yi.pv _ rfl) ?_
                  refine RW.nil ?_
                  refine EW.next ?_
                  refine CW.region ?_
                  refine RW.yi (.agg #[sa0, .int .i64 v26, s29]) rfl rfl (Yi.loadW (i := 3) rfl rfl Try.isAgg50 Try.sizeOf50) ?_
                  obtain ⟨r118, hr118, hm⟩ := of_bind hm
                  refine RW.callM (cs := []) [] [.blk u16.1 67 (#[.int .i64 r115.2.2.1, .int .i64 r115.2.2.2.1, .int .i64 r115.2.2.2.2, u16.2]), .row u16.2 5 1 (([] : List Int) ++ (([] : List Int) ++ a0)).length (ec eb (([] : List Int) ++ (([] : List Int) ++ a0))), .blk b42 45 (#[.int .i64 ((a1.getD v30.toNat (0, 0)).1), .int .i64 ((a1.getD v30.toNat (0, 0)).2)]), .blk b18 50 (#[sa0, .int .i64 v26, s29]), ro sa0 1 a0.length (ec eb a0), ro s29 1 v28.length (ec e1 v28), ro sa1 2 a1.length (ec e2 a1)] [ro sa0 1 a0.length (ec eb a0), ro s29 1 v28.length (ec e1 v28)] [0, 1, 2, 3, 4, 5, 6] (fun (u119 : Value) => [ro u119 1 r118.2.2.2.length (ec e1 r118.2.2.2)]) (fun (u119 : Value) => .tuple #[.agg #[sa0, .int .i64 r118.1, u119], .int .i64 r118.2.1, .int .i64 r118.2.2.1]) rfl rfl rfl rfl Try.call23 rfl rfl rfl (fun w hM => lentF (A := []) hM 4 rfl (lentF (A := []) hM 5 rfl (lent0))) (.inr (lentFF 4 rfl (lentFF 5 rfl (lentF0)))) (fun w S' hM => c_ref04_Reader_Bit K a0 v26 v28 sa0 s29 r118 w S' hM hr118) (fun u119 => ?_)
                  refine RW.yi (.tuple #[.agg #[sa0, .int .i64 r118.1, u119], .int .i64 r118.2.1, .int .i64 r118.2.2.1]) rfl rfl (Yi.pv _ rfl) ?_
                  refine RW.yi (.agg #[sa0, .int .i64 r118.1, u119]) rfl rfl (Yi.pv _ rfl) ?_
                  refine RW.yi (.int .i64 r118.2.1) rfl rfl (Yi.pv _ rfl) ?_
                  refine RW.yi (.int .i64 r118.2.2.1) rfl rfl (Yi.pv _ rfl) ?_
                  refine RW.conv1 (fun w hM => ones_cat (ps := [p1 (sa0), p1 (.int .i64 r118.1), p1 (u119)]) (ones_cons (fun _ => (rd_one ((rdF 5 rfl) w hM)).2) (ones_cons (fun _ => rfl) (ones_cons (fun _ => (rd_one ((rdF 0 rfl) w hM)).2) ones_nil)))) (fun hone => ?_)
                  refine RW.storeQ (i := 4) (m := 3) (cs' := #[sa0, .int .i64 r118.1, u119]) rfl rfl rfl rfl Try.sizeOf50 rfl (Nat.le_of_ble_eq_true rfl) hone (fun c' hs hget => (cat_spl (A := []) (X := [p1 (sa0), p1 (.int .i64 v26), p1 (s29)]) (B := []) (Y := [p1 (sa0), p1 (.int .i64 r118.1), p1 (u119)]) rfl hs (by first | exact hget | (rw [cat_one]; exact hget)))) ?_
                  refine RW.yi (.int .i64 r118.2.1) rfl rfl (Yi.pv _ rfl) ?_
                  refine RW.yi (.int .i64 r118.2.2.1) rfl rfl (Yi.pv _ rfl) ?_
                  refine RW.nil ?_
                  refine EW.bln ?_
                  refine EW.thn ?_
                  exact fun a w hs hM => ⟨r115.2.2.1, r115.2.2.2.1, r115.2.2.2.2, r118.1, r118.2.2.2, r115.1, r118.2.1, r115.2.1, r118.2.2.1, u119, hs.sub ⟨rfl, rfl, rfl, rfl, rfl, rfl, rfl, rfl, rfl, trivial⟩, (hM.pick [1, 2, 4, 5, 0, 7] rfl rfl), hm⟩
                · replace hm := (if_neg h114).symm.trans hm
                  refine CW.cond_false rfl ?_
                  refine CW.seq ?_
                  refine CW.region ?_
                  refine RW.yi (.bool (decide ((a1.getD v30.toNat (0, 0)).1 = 1))) rfl rfl (Yi.pv _ rfl) ?_
                  refine RW.yi (.bool (decide ((a1.getD v30.toNat (0, 0)).1 = 1))) rfl rfl (Yi.pv _ rfl) ?_
                  refine RW.nil ?_
                  refine EW.next ?_
                  refine CW.fork 64 ((a1.getD v30.toNat (0, 0)).1 = 1) rfl (fun h121 => ?_) (fun h121 => ?_)
                  · replace hm := (if_pos h121).symm.trans hm
                    refine CW.cond_true rfl ?_
                    refine CW.seq ?_
                    refine CW.region ?_
                    refine RW.yi (.pointer (some ⟨u16.1, 0, none⟩)) rfl rfl (Yi.pv _ rfl) ?_
                    refine RW.yi (.pointer (some ⟨b42, 1, none⟩)) rfl rfl (Yi.fieldAddr (j := 1) Try.underlying45 rfl Try.sizeOf3 rfl) ?_
                    refine RW.yi (.int .i64 ((a1.getD v30.toNat (0, 0)).2)) rfl rfl (Yi.load1 (i := 0) _ rfl rfl Try.isAgg3 rfl) ?_
                    obtain ⟨r122, hr122, hm⟩ := of_bind hm
                    refine RW.callM (cs := []) [.blk u16.1 67 (#[.int .i64 v22, .int .i64 v23, .int .i64 v24, u16.2]), .row u16.2 5 1 (([] : List Int) ++ (([] : List Int) ++ a0)).length (ec eb (([] : List Int) ++ (([] : List Int) ++ a0)))] [.blk b42 45 (#[.int .i64 ((a1.getD v30.toNat (0, 0)).1), .int .i64 ((a1.getD v30.toNat (0, 0)).2)]), .blk b18 50 (#[sa0, .int .i64 v26, s29]), ro sa0 1 a0.length (ec eb a0), ro s29 1 v28.length (ec e1 v28), ro sa1 2 a1.length (ec e2 a1)] [] [1, 2, 0, 3, 4, 5, 6] (fun (_ : Unit) => [.blk u16.1 67 (#[.int .i64 r122.2.2.1, .int .i64 r122.2.2.2.1, .int .i64 r122.2.2.2.2, u16.2]), .row u16.2 5 1 (([] : List Int) ++ (([] : List Int) ++ a0)).length (ec eb (([] : List Int) ++ (([] : List Int) ++ a0)))]) (fun (_ : Unit) => .tuple #[.int .i64 r122.1, .int .i64 r122.2.1]) rfl rfl rfl rfl Try.call21 rfl rfl rfl (fun w hM => lent0) (.inl fun _ => rfl) (fun w S' hM => c_bits_Reader_Get K v22 v23 v24 (([] : List Int) ++ (([] : List Int) ++ a0)) ((a1.getD v30.toNat (0, 0)).2) u16.1 u16.2 r122 w S' hM hr122) (fun _ => ?_)
                    refine RW.yi (.tuple #[.int .i64 r122.1, .int .i64 r122.2.1]) rfl rfl (Yi.pv _ rfl) ?_
                    refine RW.yi (.int .i64 r122.1) rfl rfl (Yi.pv _ rfl) ?_
                    refine RW.yi (.int .i64 r122.2.1) rfl rfl (Yi.pv _ rfl) ?_
                    refine RW.yi (.int .i64 r122.1) rfl rfl (Yi.pv _ rfl) ?_
                    refine RW.yi (.int .i64 r122.2.1) rfl rfl (Yi.pv _ rfl) ?_
                    refine RW.nil ?_
                    refine EW.next ?_
                    refine CW.region ?_
                    refine RW.yi (.agg #[sa0, .int .i64 v26, s29]) rfl rfl (Yi.loadW (i := 3) rfl rfl Try.isAgg50 Try.sizeOf50) ?_
                    refine RW.yi (.pointer (some ⟨b42, 1, none⟩)) rfl rfl (Yi.fieldAddr (j := 1) Try.underlying45 rfl Try.sizeOf3 rfl) ?_
                    refine RW.yi (.int .i64 ((a1.getD v30.toNat (0, 0)).2)) rfl rfl (Yi.load1 (i := 2) _ rfl rfl Try.isAgg3 rfl) ?_
                    obtain ⟨r125, hr125, hm⟩ := of_bind hm
                    refine RW.callM (cs := []) [] [.blk u16.1 67 (#[.int .i64 r122.2.2.1, .int .i64 r122.2.2.2.1, .int .i64 r122.2.2.2.2, u16.2]), .row u16.2 5 1 (([] : List Int) ++ (([] : List Int) ++ a0)).length (ec eb (([] : List Int) ++ (([] : List Int) ++ a0))), .blk b42 45 (#[.int .i64 ((a1.getD v30.toNat (0, 0)).1), .int .i64 ((a1.getD v30.toNat (0, 0)).2)]), .blk b18 50 (#[sa0, .int .i64 v26, s29]), ro sa0 1 a0.length (ec eb a0), ro s29 1 v28.length (ec e1 v28), ro sa1 2 a1.length (ec e2 a1)] [ro sa0 1 a0.length (ec eb a0), ro s29 1 v28.length (ec e1 v28)] [0, 1, 2, 3, 4, 5, 6] (fun (u126 : Value) => [ro u126 1 r125.2.2.2.length (ec e1 r125.2.2.2)]) (fun (u126 : Value) => .tuple #[.agg #[sa0, .int .i64 r125.1, u126], .int .i64 r125.2.1, .int .i64 r125.2.2.1]) rfl rfl rfl rfl Try.call24 rfl rfl rfl (fun w hM => lentF (A := []) hM 4 rfl (lentF (A := []) hM 5 rfl (lent0))) (.inr (lentFF 4 rfl (lentFF 5 rfl (lentF0)))) (fun w S' hM => c_ref04_Reader_Get K a0 v26 v28 ((a1.getD v30.toNat (0, 0)).2) sa0 s29 r125 w S' hM hr125) (fun u126 => ?_)
                    refine RW.yi (.tuple #[.agg #[sa0, .int .i64 r125.1, u126], .int .i64 r125.2.1, .int .i64 r125.2.2.1]) rfl rfl (Yi.pv _ rfl) ?_
                    refine RW.yi (.agg #[sa0, .int .i64 r125.1, u126]) rfl rfl (Yi.pv _ rfl) ?_
                    refine RW.yi (.int .i64 r125.2.1) rfl rfl (Yi.pv _ rfl) ?_
                    refine RW.yi (.int .i64 r125.2.2.1) rfl rfl (Yi.pv _ rfl) ?_
                    refine RW.conv1 (fun w hM => ones_cat (ps := [p1 (sa0), p1 (.int .i64 r125.1), p1 (u126)]) (ones_cons (fun _ => (rd_one ((rdF 5 rfl) w hM)).2) (ones_cons (fun _ => rfl) (ones_cons (fun _ => (rd_one ((rdF 0 rfl) w hM)).2) ones_nil)))) (fun hone => ?_)
                    refine RW.storeQ (i := 4) (m := 3) (cs' := #[sa0, .int .i64 r125.1, u126]) rfl rfl rfl rfl Try.sizeOf50 rfl (Nat.le_of_ble_eq_true rfl) hone (fun c' hs hget => (cat_spl (A := []) (X := [p1 (sa0), p1 (.int .i64 v26), p1 (s29)]) (B := []) (Y := [p1 (sa0), p1 (.int .i64 r125.1), p1 (u126)]) rfl hs (by first | exact hget | (rw [cat_one]; exact hget)))) ?_
                    refine RW.yi (.int .i64 r125.2.1) rfl rfl (Yi.pv _ rfl) ?_
                    refine RW.yi (.int .i64 r125.2.2.1) rfl rfl (Yi.pv _ rfl) ?_
                    refine RW.nil ?_
                    refine EW.bln ?_
                    refine EW.thn ?_
                    exact fun a w hs hM => ⟨r122.2.2.1, r122.2.2.2.1, r122.2.2.2.2, r125.1, r125.2.2.2, r122.1, r125.2.1, r122.2.1, r125.2.2.1, u126, hs.sub ⟨rfl, rfl, rfl, rfl, rfl, rfl, rfl, rfl, rfl, trivial⟩, (hM.pick [1, 2, 4, 5, 0, 7] rfl rfl), hm⟩
                  · replace hm := (if_neg h121).symm.trans hm
                    refine CW.cond_false rfl ?_
                    refine CW.seq ?_
                    refine CW.region ?_
                    refine RW.yi (.bool (decide ((a1.getD v30.toNat (0, 0)).1 = 2))) rfl rfl (Yi.pv _ rfl) ?_
                    refine RW.yi (.bool (decide ((a1.getD v30.toNat (0, 0)).1 = 2))) rfl rfl (Yi.pv _ rfl) ?_
                    refine RW.nil ?_
                    refine EW.next ?_
                    refine CW.fork 81 ((a1.getD v30.toNat (0, 0)).1 = 2) rfl (fun h128 => ?_) (fun h128 => ?_)
                    · replace hm := (if_pos h128).symm.trans hm
                      refine CW.cond_true rfl ?_
                      refine CW.seq ?_
                      refine CW.region ?_
                      refine RW.yi (.pointer (some ⟨u16.1, 0, none⟩)) rfl rfl (Yi.pv _ rfl) ?_
                      obtain ⟨r129, hr129, hm⟩ := of_bind hm
                      refine RW.callM (cs := []) [.blk u16.1 67 (#[.int .i64 v22, .int .i64 v23, .int .i64 v24, u16.2]), .row u16.2 5 1 (([] : List Int) ++ (([] : List Int) ++ a0)).length (ec eb (([] : List Int) ++ (([] : List Int) ++ a0)))] [.blk b42 45 (#[.int .i64 ((a1.getD v30.toNat (0, 0)).1), .int .i64 ((a1.getD v30.toNat (0, 0)).2)]), .blk b18 50 (#[sa0, .int .i64 v26, s29]), ro sa0 1 a0.length (ec eb a0), ro s29 1 v28.length (ec e1 v28), ro sa1 2 a1.length (ec e2 a1)] [] [1, 2, 0, 3, 4, 5, 6] (fun (_ : Unit) => [.blk u16.1 67 (#[.int .i64 v22, .int .i64 v23, .int .i64 0, u16.2]), .row u16.2 5 1 (([] : List Int) ++ (([] : List Int) ++ a0)).length (ec eb (([] : List Int) ++ (([] : List Int) ++ a0)))]) (fun (_ : Unit) => .int .i64 v24) rfl rfl rfl rfl Try.call22 rfl rfl rfl (fun w hM => lent0) (.inl fun _ => rfl) (fun w S' hM => c_bits_Reader_Skip K v22 v23 v24 (([] : List Int) ++ (([] : List Int) ++ a0)) u16.1 u16.2 r129 w S' hM hr129) (fun _ => ?_)
                      refine RW.yi (.int .i64 v24) rfl rfl (Yi.pv _ rfl) ?_
                      refine RW.nil ?_
                      refine EW.next ?_
                      refine CW.region ?_
                      refine RW.yi (.agg #[sa0, .int .i64 v26, s29]) rfl rfl (Yi.loadW (i := 3) rfl rfl Try.isAgg50 Try.sizeOf50) ?_
                      obtain ⟨r132, hr132, hm⟩ := of_bind hm
                      refine RW.ca (.tuple #[.agg #[sa0, .int .i64 v26, .slice none 0 0], .int .i64 (v28.length : Int)]) rfl rfl (Ca.call (cs := []) [ro sa0 1 a0.length (ec eb a0), ro s29 1 v28.length (ec e1 v28)] rfl rfl Try.call25 (fun w hM => lentF (A := []) hM 4 rfl (lentF (A := []) hM 5 rfl (lent0))) (fun w S' hM => (c_ref04_Reader_Skip K a0 v26 v28 sa0 s29 r132 w S' hM hr132).mono (fun _ _ h => by obtain ⟨_, h1, h2⟩ := h; exact ⟨h1, h2⟩))) ?_
                      refine RW.yi (.tuple #[.agg #[sa0, .int .i64 v26, .slice none 0 0], .int .i64 (v28.length : Int)]) rfl rfl (Yi.pv _ rfl) ?_
                      refine RW.yi (.agg #[sa0, .int .i64 v26, .slice none 0 0]) rfl rfl (Yi.pv _ rfl) ?_
                      refine RW.yi (.int .i64 (v28.length : Int)) rfl rfl (Yi.pv _ rfl) ?_
                      refine RW.conv1 (fun w hM => ones_cat (ps := [p1 (sa0), p1 (.int .i64 v26), p1 (.slice none 0 0)]) (ones_cons (fun _ => (rd_one ((rdF 4 rfl) w hM)).2) (ones_cons (fun _ => rfl) (ones_cons (fun _ => rfl) ones_nil)))) (fun hone => ?_)
                      refine RW.storeQ (i := 3) (m := 3) (cs' := #[sa0, .int .i64 v26, .slice none 0 0]) rfl rfl rfl rfl Try.sizeOf50 rfl (Nat.le_of_ble_eq_true rfl) hone (fun c' hs hget => (cat_spl (A := []) (X := [p1 (sa0), p1 (.int .i64 v26), p1 (s29)]) (B := []) (Y := [p1 (sa0), p1 (.int .i64 v26), p1 (.slice none 0 0)]) rfl hs (by first | exact hget | (rw [cat_one]; exact hget)))) ?_
                      refine RW.yi (.int .i64 (v28.length : Int)) rfl rfl (Yi.pv _ rfl) ?_
                      refine RW.nil ?_
                      refine EW.bln ?_
                      refine EW.thn ?_
                      exact fun a w hs hM => ⟨v22, v23, 0, v26, ([] : List Int), v24, (v28.length : Int), 0, 0, (.slice none 0 0), hs.sub ⟨rfl, rfl, rfl, rfl, rfl, rfl, rfl, rfl, rfl, trivial⟩, ((hM.nilRo 1).pick [1, 2, 4, 5, 0, 7] rfl rfl), hm⟩
                    · replace hm := (if_neg h128).symm.trans hm
                      refine CW.cond_false rfl ?_
                      refine CW.seq ?_
                      refine CW.region ?_
                      refine RW.yi (.bool (decide ((a1.getD v30.toNat (0, 0)).1 = 3))) rfl rfl (Yi.pv _ rfl) ?_
                      refine RW.yi (.bool (decide ((a1.getD v30.toNat (0, 0)).1 = 3))) rfl rfl (Yi.pv _ rfl) ?_
                      refine RW.nil ?_
                      refine EW.next ?_
                      refine CW.fork 90 ((a1.getD v30.toNat (0, 0)).1 = 3) rfl (fun h133 => ?_) (fun h133 => ?_)
                      · replace hm := (if_pos h133).symm.trans hm
                        refine CW.cond_true rfl ?_
                        refine CW.seq ?_
                        refine CW.region ?_
                        refine RW.yi (.pointer (some ⟨u16.1, 0, none⟩)) rfl rfl (Yi.pv _ rfl) ?_
                        obtain ⟨r134, hr134, hm⟩ := of_bind hm
                        refine RW.callM (cs := []) [.blk u16.1 67 (#[.int .i64 v22, .int .i64 v23, .int .i64 v24, u16.2]), .row u16.2 5 1 (([] : List Int) ++ (([] : List Int) ++ a0)).length (ec eb (([] : List Int) ++ (([] : List Int) ++ a0)))] [.blk b42 45 (#[.int .i64 ((a1.getD v30.toNat (0, 0)).1), .int .i64 ((a1.getD v30.toNat (0, 0)).2)]), .blk b18 50 (#[sa0, .int .i64 v26, s29]), ro sa0 1 a0.length (ec eb a0), ro s29 1 v28.length (ec e1 v28), ro sa1 2 a1.length (ec e2 a1)] [] [1, 2, 0, 3, 4, 5, 6] (fun (_ : Unit) => [.blk u16.1 67 (#[.int .i64 r134.2.2.1, .int .i64 v23, .int .i64 r134.2.2.2, u16.2]), .row u16.2 5 1 (([] : List Int) ++ (([] : List Int) ++ a0)).length (ec eb (([] : List Int) ++ (([] : List Int) ++ a0)))]) (fun (_ : Unit) => .tuple #[.int .i64 r134.1, .int .i64 r134.2.1]) rfl rfl rfl rfl Try.call19 rfl rfl rfl (fun w hM => lent0) (.inl fun _ => rfl) (fun w S' hM => c_bits_Reader_Marker K v22 v23 v24 (([] : List Int) ++ (([] : List Int) ++ a0)) u16.1 u16.2 r134 w S' hM hr134) (fun _ => ?_)
                        refine RW.yi (.tuple #[.int .i64 r134.1, .int .i64 r134.2.1]) rfl rfl (Yi.pv _ rfl) ?_
                        refine RW.yi (.int .i64 r134.1) rfl rfl (Yi.pv _ rfl) ?_
                        refine RW.yi (.int .i64 r134.2.1) rfl rfl (Yi.pv _ rfl) ?_
                        refine RW.yi (.int .i64 r134.1) rfl rfl (Yi.pv _ rfl) ?_
                        refine RW.yi (.int .i64 r134.2.1) rfl rfl (Yi.pv _ rfl) ?_
                        refine RW.nil ?_
                        refine EW.next ?_
                        refine CW.region ?_
                        refine RW.yi (.agg #[sa0, .int .i64 v26, s29]) rfl rfl (Yi.loadW (i := 3) rfl rfl Try.isAgg50 Try.sizeOf50) ?_
                        obtain ⟨r137, hr137, hm⟩ := of_bind hm
                        refine RW.callM (cs := []) [] [.blk u16.1 67 (#[.int .i64 r134.2.2.1, .int .i64 v23, .int .i64 r134.2.2.2, u16.2]), .row u16.2 5 1 (([] : List Int) ++ (([] : List Int) ++ a0)).length (ec eb (([] : List Int) ++ (([] : List Int) ++ a0))), .blk b42 45 (#[.int .i64 ((a1.getD v30.toNat (0, 0)).1), .int .i64 ((a1.getD v30.toNat (0, 0)).2)]), .blk b18 50 (#[sa0, .int .i64 v26, s29]), ro sa0 1 a0.length (ec eb a0), ro s29 1 v28.length (ec e1 v28), ro sa1 2 a1.length (ec e2 a1)] [ro sa0 1 a0.length (ec eb a0), ro s29 1 v28.length (ec e1 v28)] [0, 1, 2, 3, 4, 5, 6] (fun (u138 : Value) => [ro u138 1 r137.2.2.2.length (ec e1 r137.2.2.2)]) (fun (u138 : Value) => .tuple #[.agg #[sa0, .int .i64 r137.1, u138], .int .i64 r137.2.1, .int .i64 r137.2.2.1]) rfl rfl rfl rfl Try.call26 rfl rfl rfl (fun w hM => lentF (A := []) hM 4 rfl (lentF (A := []) hM 5 rfl (lent0))) (.inr (lentFF 4 rfl (lentFF 5 rfl (lentF0)))) (fun w S' hM => c_ref04_Reader_Marker K a0 v26 v28 sa0 s29 r137 w S' hM hr137) (fun u138 => ?_)
                        refine RW.yi (.tuple #[.agg #[sa0, .int .i64 r137.1, u138], .int .i64 r137.2.1, .int .i64 r137.2.2.1]) rfl rfl (Yi.pv _ rfl) ?_
                        refine RW.yi (.agg #[sa0, .int .i64 r137.1, u138]) rfl rfl (Yi.pv _ rfl) ?_
                        refine RW.yi (.int .i64 r137.2.1) rfl rfl (Yi.pv _ rfl) ?_
                        refine RW.yi (.int .i64 r137.2.2.1) rfl rfl (Yi.pv _ rfl) ?_
                        refine RW.conv1 (fun w hM => ones_cat (ps := [p1 (sa0), p1 (.int .i64 r137.1), p1 (u138)]) (ones_cons (fun _ => (rd_one ((rdF 5 rfl) w hM)).2) (ones_cons (fun _ => rfl) (ones_cons (fun _ => (rd_one ((rdF 0 rfl) w hM)).2) ones_nil)))) (fun hone => ?_)
                        refine RW.storeQ (i := 4) (m := 3) (cs' := #[sa0, .int .i64 r137.1, u138]) rfl rfl rfl rfl Try.sizeOf50 rfl (Nat.le_of_ble_eq_true rfl) hone (fun c' hs hget => (cat_spl (A := []) (X := [p1 (sa0), p1 (.int .i64 v26), p1 (s29)]) (B := []) (Y := [p1 (sa0), p1 (.int .i64 r137.1), p1 (u138)]) rfl hs (by first | exact hget | (rw [cat_one]; exact hget)))) ?_
                        refine RW.yi (.int .i64 r137.2.1) rfl rfl (Yi.pv _ rfl) ?_
                        refine RW.yi (.int .i64 r137.2.2.1) rfl rfl (Yi.pv _ rfl) ?_
                        refine RW.nil ?_
                        refine EW.bln ?_
                        refine EW.thn ?_
                        exact fun a w hs hM => ⟨r134.2.2.1, v23, r134.2.2.2, r137.1, r137.2.2.2, r134.1, r137.2.1, r134.2.1, r137.2.2.1, u138, hs.sub ⟨rfl, rfl, rfl, rfl, rfl, rfl, rfl, rfl, rfl, trivial⟩, (hM.pick [1, 2, 4, 5, 0, 7] rfl rfl), hm⟩
                      · replace hm := (if_neg h133).symm.trans hm
                        refine CW.cond_false rfl ?_
                        refine CW.skip ?_
                        refine EW.bln ?_
                        refine EW.thn ?_
                        exact fun a w hs hM => ⟨v22, v23, v24, v26, v28, 0, 0, 0, 0, s29, hs.sub ⟨rfl, rfl, rfl, rfl, rfl, rfl, rfl, rfl, rfl, trivial⟩, (hM.pick [1, 2, 3, 4, 5, 6] rfl rfl), hm⟩
              · rintro a w ⟨v91, v92, v93, v95, v97, v99, v100, v101, v102, s98, hs, hM, hm⟩
                unfold law04_BitsReads_j2 at hm
                refine CW.enter hs hM ?_
                refine CW.seq ?_
                by_cases h103 : ¬ v99 = v100
                · replace hm := (if_pos h103).symm.trans hm
                  refine CW.held (m := 15) [.blk u16.1 67 (#[.int .i64 v91, .int .i64 v92, .int .i64 v93, u16.2]), .row u16.2 5 1 (([] : List Int) ++ (([] : List Int) ++ a0)).length (ec eb (([] : List Int) ++ (([] : List Int) ++ a0))), .blk b18 50 (#[sa0, .int .i64 v95, s98]), ro sa0 1 a0.length (ec eb a0), ro s98 1 v97.length (ec e1 v97), ro sa1 2 a1.length (ec e2 a1)] (by kernel_rfl) (by kernel_rfl) (by kernel_rfl) (fun A104 hA104 hns => ?_)
                  have hA104_111111111111111 : A104 0 #[true, true, true, true, true, true, true, true, true, true, true, true, true, true, true] [(6, .pointer (some ⟨u16.1, 0, none⟩)), (7, .pointer (some ⟨b18, 0, none⟩)), (43, sa1), (44, .int .i64 (a1.length : Int)), (45, .int .i64 v30), (107, undef), (108, undef), (109, undef), (112, undef), (113, undef), (114, undef), (115, undef), (116, undef), (117, .bool true)] [.blk u16.1 67 (#[.int .i64 v91, .int .i64 v92, .int .i64 v93, u16.2]), .row u16.2 5 1 (([] : List Int) ++ (([] : List Int) ++ a0)).length (ec eb (([] : List Int) ++ (([] : List Int) ++ a0))), .blk b18 50 (#[sa0, .int .i64 v95, s98]), ro sa0 1 a0.length (ec eb a0), ro s98 1 v97.length (ec e1 v97), ro sa1 2 a1.length (ec e2 a1)] := by
                    rw [hA104]
                    refine AW.fin (by kernel_rfl) ?_
                    refine EW.next ?_
                    refine CW.cond_true rfl ?_
                    refine CW.seq ?_
                    refine CW.region ?_
                    refine RW.yi (.bool false) rfl rfl (Yi.pv _ rfl) ?_
                    refine RW.nil ?_
                    refine EW.next ?_
                    refine CW.ret ?_
                    refine EW.blr ?_
                    refine EW.thr ?_
                    refine EW.thr ?_
                    refine EW.blr ?_
                    refine EW.thr ?_
                    obtain rfl := Option.some.inj hm
                    exact EW.done (rs := [.tmp 4]) rfl (.tmp (t := 4) (v := .bool false) rfl .nil) (fun _ hM => ⟨(), rfl, (hM.pick [] rfl rfl)⟩)
                  rw [hA104]
                  refine AW.take 0 (done' := #[true, false, false, false, false, false, false, false, false, false, false, false, false, false, false]) (.int .i64 v99) [0, 1, 2, 3, 4, 5] hns rfl rfl rfl (by kernel_rfl) (by kernel_rfl) rfl rfl rfl (by kernel_rfl) (fun _ _ => Yi.pv _ rfl) ?_
                  refine AW.take 1 (done' := #[true, true, false, false, false, false, false, false, false, false, false, false, false, false, false]) (.int .i64 v100) [0, 1, 2, 3, 4, 5] hns rfl rfl rfl (by kernel_rfl) (by kernel_rfl) rfl rfl rfl (by kernel_rfl) (fun _ _ => Yi.pv _ rfl) ?_
                  refine AW.take 2 (done' := #[true, true, true, false, false, false, false, false, false, false, false, false, false, false, false]) (.bool (decide (¬ v99 = v100))) [0, 1, 2, 3, 4, 5] hns rfl rfl rfl (by kernel_rfl) (by kernel_rfl) rfl rfl rfl (by kernel_rfl) (fun _ _ => Yi.pv _ rfl) ?_
                  refine AW.take 3 (done' := #[true, true, true, true, false, false, false, false, false, false, false, false, false, false, false]) (.bool (decide (¬ v99 = v100))) [0, 1, 2, 3, 4, 5] hns rfl rfl rfl (by kernel_rfl) (by kernel_rfl) rfl rfl rfl (by kernel_rfl) (fun _ _ => Yi.pv _ rfl) ?_
                  refine AW.fork 106 (¬ v99 = v100) rfl (fun _ => ?_) (fun h => absurd h103 h)
                  refine AW.pass 4 (done' := #[true, true, true, true, true, false, false, false, false, false, false, false, false, false, false]) [0, 1, 2, 3, 4, 5] hns rfl rfl rfl (by kernel_rfl) (by kernel_rfl) rfl rfl rfl (by kernel_rfl) ?_
                  refine AW.pass 5 (done' := #[true, true, true, true, true, true, false, false, false, false, false, false, false, false, false]) [0, 1, 2, 3, 4, 5] hns rfl rfl rfl (by kernel_rfl) (by kernel_rfl) rfl rfl rfl (by kernel_rfl) ?_
                  refine AW.pass 6 (done' := #[true, true, true, true, true, true, true, false, false, false, false, false, false, false, false]) [0, 1, 2, 3, 4, 5] hns rfl rfl rfl (by kernel_rfl) (by kernel_rfl) rfl rfl rfl (by kernel_rfl) ?_
                  refine AW.take 7 (done' := #[true, true, true, true, true, true, true, true, false, false, false, false, false, false, false]) (.bool true) [0, 1, 2, 3, 4, 5] hns rfl rfl rfl (by kernel_rfl) (by kernel_rfl) rfl rfl rfl (by kernel_rfl) (fun _ _ => Yi.pv _ rfl) ?_
                  refine AW.take 8 (done' := #[true, true, true, true, true, true, true, true, true, false, false, false, false, false, false]) (.bool true) [0, 1, 2, 3, 4, 5] hns rfl rfl rfl (by kernel_rfl) (by kernel_rfl) rfl rfl rfl (by kernel_rfl) (fun _ _ => Yi.pv _ rfl) ?_
                  refine AW.pass 9 (done' := #[true, true, true, true, true, true, true, true, true, true, false, false, false, false, false]) [0, 1, 2, 3, 4, 5] hns rfl rfl rfl (by kernel_rfl) (by kernel_rfl) rfl rfl rfl (by kernel_rfl) ?_
                  refine AW.pass 10 (done' := #[true, true, true, true, true, true, true, true, true, true, true, false, false, false, false]) [0, 1, 2, 3, 4, 5] hns rfl rfl rfl (by kernel_rfl) (by kernel_rfl) rfl rfl rfl (by kernel_rfl) ?_
                  refine AW.pass 11 (done' := #[true, true, true, true, true, true, true, true, true, true, true, true, false, false, false]) [0, 1, 2, 3, 4, 5] hns rfl rfl rfl (by kernel_rfl) (by kernel_rfl) rfl rfl rfl (by kernel_rfl) ?_
                  refine AW.pass 12 (done' := #[true, true, true, true, true, true, true, true, true, true, true, true, true, false, false]) [0, 1, 2, 3, 4, 5] hns rfl rfl rfl (by kernel_rfl) (by kernel_rfl) rfl rfl rfl (by kernel_rfl) ?_
                  refine AW.pass 13 (done' := #[true, true, true, true, true, true, true, true, true, true, true, true, true, true, false]) [0, 1, 2, 3, 4, 5] hns rfl rfl rfl (by kernel_rfl) (by kernel_rfl) rfl rfl rfl (by kernel_rfl) ?_
                  refine AW.take 14 (done' := #[true, true, true, true, true, true, true, true, true, true, true, true, true, true, true]) (.bool true) [0, 1, 2, 3, 4, 5] hns rfl rfl rfl (by kernel_rfl) (by kernel_rfl) rfl rfl rfl (by kernel_rfl) (fun _ _ => Yi.pv _ rfl) ?_
                  have ht := hA104_111111111111111
                  rw [hA104] at ht
                  refine AW.to [0, 1, 2, 3, 4, 5] rfl rfl ?_ ht
                  exact ⟨rfl, rfl, rfl, rfl, rfl, rfl, rfl, rfl, rfl, rfl, rfl, rfl, rfl, rfl, trivial⟩
                · replace hm := (if_neg h103).symm.trans hm
                  by_cases h105 : ¬ v101 = v102
                  · replace hm := (if_pos h105).symm.trans hm
                    refine CW.held (m := 15) [.blk u16.1 67 (#[.int .i64 v91, .int .i64 v92, .int .i64 v93, u16.2]), .row u16.2 5 1 (([] : List Int) ++ (([] : List Int) ++ a0)).length (ec eb (([] : List Int) ++ (([] : List Int) ++ a0))), .blk b18 50 (#[sa0, .int .i64 v95, s98]), ro sa0 1 a0.length (ec eb a0), ro s98 1 v97.length (ec e1 v97), ro sa1 2 a1.length (ec e2 a1)] (by kernel_rfl) (by kernel_rfl) (by kernel_rfl) (fun A106 hA106 hns => ?_)
                    have hA106_111111111111111 : A106 0 #[true, true, true, true, true, true, true, true, true, true, true, true, true, true, true] [(6, .pointer (some ⟨u16.1, 0, none⟩)), (7, .pointer (some ⟨b18, 0, none⟩)), (43, sa1), (44, .int .i64 (a1.length : Int)), (45, .int .i64 v30), (107, .int .i64 v101), (108, .int .i64 v102), (109, .bool (decide (¬ v101 = v102))), (112, undef), (113, undef), (114, undef), (115, undef), (116, undef), (117, .bool true)] [.blk u16.1 67 (#[.int .i64 v91, .int .i64 v92, .int .i64 v93, u16.2]), .row u16.2 5 1 (([] : List Int) ++ (([] : List Int) ++ a0)).length (ec eb (([] : List Int) ++ (([] : List Int) ++ a0))), .blk b18 50 (#[sa0, .int .i64 v95, s98]), ro sa0 1 a0.length (ec eb a0), ro s98 1 v97.length (ec e1 v97), ro sa1 2 a1.length (ec e2 a1)] := by
                      rw [hA106]
                      refine AW.fin (by kernel_rfl) ?_
                      refine EW.next ?_
                      refine CW.cond_true rfl ?_
                      refine CW.seq ?_
                      refine CW.region ?_
                      refine RW.yi (.bool false) rfl rfl (Yi.pv _ rfl) ?_
                      refine RW.nil ?_
                      refine EW.next ?_
                      refine CW.ret ?_
                      refine EW.blr ?_
                      refine EW.thr ?_
                      refine EW.thr ?_
                      refine EW.blr ?_
                      refine EW.thr ?_
                      obtain rfl := Option.some.inj hm
                      exact EW.done (rs := [.tmp 4]) rfl (.tmp (t := 4) (v := .bool false) rfl .nil) (fun _ hM => ⟨(), rfl, (hM.pick [] rfl rfl)⟩)
                    rw [hA106]
                    refine AW.take 0 (done' := #[true, false, false, false, false, false, false, false, false, false, false, false, false, false, false]) (.int .i64 v99) [0, 1, 2, 3, 4, 5] hns rfl rfl rfl (by kernel_rfl) (by kernel_rfl) rfl rfl rfl (by kernel_rfl) (fun _ _ => Yi.pv _ rfl) ?_
                    refine AW.take 1 (done' := #[true, true, false, false, false, false, false, false, false, false, false, false, false, false, false]) (.int .i64 v100) [0, 1, 2, 3, 4, 5] hns rfl rfl rfl (by kernel_rfl) (by kernel_rfl) rfl rfl rfl (by kernel_rfl) (fun _ _ => Yi.pv _ rfl) ?_
                    refine AW.take 2 (done' := #[true, true, true, false, false, false, false, false, false, false, false, false, false, false, false]) (.bool (decide (¬ v99 = v100))) [0, 1, 2, 3, 4, 5] hns rfl rfl rfl (by kernel_rfl) (by kernel_rfl) rfl rfl rfl (by kernel_rfl) (fun _ _ => Yi.pv _ rfl) ?_
                    refine AW.take 3 (done' := #[true, true, true, true, false, false, false, false, false, false, false, false, false, false, false]) (.bool (decide (¬ v99 = v100))) [0, 1, 2, 3, 4, 5] hns rfl rfl rfl (by kernel_rfl) (by kernel_rfl) rfl rfl rfl (by kernel_rfl) (fun _ _ => Yi.pv _ rfl) ?_
                    refine AW.fork 106 (¬ v99 = v100) rfl (fun h => absurd h h103) (fun _ => ?_)
                    refine AW.take 4 (done' := #[true, true, true, true, true, false, false, false, false, false, false, false, false, false, false]) (.int .i64 v101) [0, 1, 2, 3, 4, 5] hns rfl rfl rfl (by kernel_rfl) (by kernel_rfl) rfl rfl rfl (by kernel_rfl) (fun _ _ => Yi.pv _ rfl) ?_
                    refine AW.take 5 (done' := #[true, true, true, true, true, true, false, false, false, false, false, false, false, false, false]) (.int .i64 v102) [0, 1, 2, 3, 4, 5] hns rfl rfl rfl (by kernel_rfl) (by kernel_rfl) rfl rfl rfl (by kernel_rfl) (fun _ _ => Yi.pv _ rfl) ?_
                    refine AW.take 6 (done' := #[true, true, true, true, true, true, true, false, false, false, false, false, false, false, false]) (.bool (decide (¬ v101 = v102))) [0, 1, 2, 3, 4, 5] hns rfl rfl rfl (by kernel_rfl) (by kernel_rfl) rfl rfl rfl (by kernel_rfl) (fun _ _ => Yi.pv _ rfl) ?_
                    refine AW.take 7 (done' := #[true, true, true, true, true, true, true, true, false, false, false, false, false, false, false]) (.bool (decide (¬ v101 = v102))) [0, 1, 2, 3, 4, 5] hns rfl rfl rfl (by kernel_rfl) (by kernel_rfl) rfl rfl rfl (by kernel_rfl) (fun _ _ => Yi.pv _ rfl) ?_
                    refine AW.take 8 (done' := #[true, true, true, true, true, true, true, true, true, false, false, false, false, false, false]) (.bool (decide (¬ v101 = v102))) [0, 1, 2, 3, 4, 5] hns rfl rfl rfl (by kernel_rfl) (by kernel_rfl) rfl rfl rfl (by kernel_rfl) (fun _ _ => Yi.pv _ rfl) ?_
                    refine AW.fork 111 (¬ v101 = v102) rfl (fun _ => ?_) (fun h => absurd h105 h)
                    refine AW.pass 9 (done' := #[true, true, true, true, true, true, true, true, true, true, false, false, false, false, false]) [0, 1, 2, 3, 4, 5] hns rfl rfl rfl (by kernel_rfl) (by kernel_rfl) rfl rfl rfl (by kernel_rfl) ?_
                    refine AW.pass 10 (done' := #[true, true, true, true, true, true, true, true, true, true, true, false, false, false, false]) [0, 1, 2, 3, 4, 5] hns rfl rfl rfl (by kernel_rfl) (by kernel_rfl) rfl rfl rfl (by kernel_rfl) ?_
                    refine AW.pass 11 (done' := #[true, true, true, true, true, true, true, true, true, true, true, true, false, false, false]) [0, 1, 2, 3, 4, 5] hns rfl rfl rfl (by kernel_rfl) (by kernel_rfl) rfl rfl rfl (by kernel_rfl) ?_
                    refine AW.pass 12 (done' := #[true, true, true, true, true, true, true, true, true, true, true, true, true, false, false]) [0, 1, 2, 3, 4, 5] hns rfl rfl rfl (by kernel_rfl) (by kernel_rfl) rfl rfl rfl (by kernel_rfl) ?_
                    refine AW.pass 13 (done' := #[true, true, true, true, true, true, true, true, true, true, true, true, true, true, false]) [0, 1, 2, 3, 4, 5] hns rfl rfl rfl (by kernel_rfl) (by kernel_rfl) rfl rfl rfl (by kernel_rfl) ?_
                    refine AW.take 14 (done' := #[true, true, true, true, true, true, true, true, true, true, true, true, true, true, true]) (.bool true) [0, 1, 2, 3, 4, 5] hns rfl rfl rfl (by kernel_rfl) (by kernel_rfl) rfl rfl rfl (by kernel_rfl) (fun _ _ => Yi.pv _ rfl) ?_
                    have ht := hA106_111111111111111
                    rw [hA106] at ht
                    refine AW.to [0, 1, 2, 3, 4, 5] rfl rfl ?_ ht
                    exact ⟨rfl, rfl, rfl, rfl, rfl, rfl, rfl, rfl, rfl, rfl, rfl, rfl, rfl, rfl, trivial⟩
                  · replace hm := (if_neg h105).symm.trans hm
                    obtain ⟨r107, hr107, hm⟩ := of_bind hm
                    refine CW.held (m := 15) [.blk u16.1 67 (#[.int .i64 v91, .int .i64 v92, .int .i64 v93, u16.2]), .blk b18 50 (#[sa0, .int .i64 v95, s98]), ro sa0 1 a0.length (ec eb a0), ro s98 1 v97.length (ec e1 v97), ro sa1 2 a1.length (ec e2 a1)] (by kernel_rfl) (by kernel_rfl) (by kernel_rfl) (fun A111 hA111 hns => ?_)
                    have hA111_111111111111111 : A111 0 #[true, true, true, true, true, true, true, true, true, true, true, true, true, true, true] [(6, .pointer (some ⟨u16.1, 0, none⟩)), (7, .pointer (some ⟨b18, 0, none⟩)), (43, sa1), (44, .int .i64 (a1.length : Int)), (45, .int .i64 v30), (107, .int .i64 v101), (108, .int .i64 v102), (109, .bool (decide (¬ v101 = v102))), (112, .pointer (some ⟨u16.1, 0, none⟩)), (113, .int .i64 v91), (114, .pointer (some ⟨b18, 1, none⟩)), (115, .int .i64 v95), (116, .bool (decide (¬ v91 = v95))), (117, .bool (decide (¬ v91 = v95)))] [.blk u16.1 67 (#[.int .i64 v91, .int .i64 v92, .int .i64 v93, u16.2]), .row u16.2 5 1 (([] : List Int) ++ (([] : List Int) ++ a0)).length (ec eb (([] : List Int) ++ (([] : List Int) ++ a0))), .blk b18 50 (#[sa0, .int .i64 v95, s98]), ro sa0 1 a0.length (ec eb a0), ro s98 1 v97.length (ec e1 v97), ro sa1 2 a1.length (ec e2 a1)] := by
                      rw [hA111]
                      refine AW.fin (by kernel_rfl) ?_
                      refine EW.next ?_
                      refine CW.fork 117 (¬ v91 = v95) rfl (fun h110 => ?_) (fun h110 => ?_)
                      · replace hm := (if_pos h110).symm.trans hm
                        refine CW.cond_true rfl ?_
                        refine CW.seq ?_
                        refine CW.region ?_
                        refine RW.yi (.bool false) rfl rfl (Yi.pv _ rfl) ?_
                        refine RW.nil ?_
                        refine EW.next ?_
                        refine CW.ret ?_
                        refine EW.blr ?_
                        refine EW.thr ?_
                        refine EW.thr ?_
                        refine EW.blr ?_
                        refine EW.thr ?_
                        obtain rfl := Option.some.inj hm
                        exact EW.done (rs := [.tmp 4]) rfl (.tmp (t := 4) (v := .bool false) rfl .nil) (fun _ hM => ⟨(), rfl, (hM.pick [] rfl rfl)⟩)
                      · replace hm := (if_neg h110).symm.trans hm
                        refine CW.cond_false rfl ?_
                        refine CW.skip ?_
                        refine EW.bln ?_
                        refine EW.next ?_
                        refine CW.region ?_
                        refine RW.yi (.int .i64 (w64 (v30 + 1))) rfl rfl (Yi.pv _ rfl) ?_
                        refine RW.yi (.int .i64 (w64 (v30 + 1))) rfl rfl (Yi.pv _ rfl) ?_
                        refine RW.nil ?_
                        refine EW.thn ?_
                        exact fun a w hs hM => ⟨v91, v92, v93, v95, v97, (w64 (v30 + 1)), s98, hs.sub ⟨rfl, rfl, rfl, rfl, rfl, trivial⟩, (hM.pick [0, 1, 2, 3, 4, 5] rfl rfl), hm⟩
                    have hA111_111111111101100 : A111 3 #[true, true, true, true, true, true, true, true, true, true, false, true, true, false, false] [(6, .pointer (some ⟨u16.1, 0, none⟩)), (7, .pointer (some ⟨b18, 0, none⟩)), (43, sa1), (44, .int .i64 (a1.length : Int)), (45, .int .i64 v30), (107, .int .i64 v101), (108, .int .i64 v102), (109, .bool (decide (¬ v101 = v102))), (111, .bool false), (112, .pointer (some ⟨u16.1, 0, none⟩)), (114, .pointer (some ⟨b18, 1, none⟩)), (115, .int .i64 v95)] [.blk u16.1 67 (#[.int .i64 v91, .int .i64 v92, .int .i64 v93, u16.2]), .row u16.2 5 1 (([] : List Int) ++ (([] : List Int) ++ a0)).length (ec eb (([] : List Int) ++ (([] : List Int) ++ a0))), .blk b18 50 (#[sa0, .int .i64 v95, s98]), ro sa0 1 a0.length (ec eb a0), ro s98 1 v97.length (ec e1 v97), ro sa1 2 a1.length (ec e2 a1)] := by
                      rw [hA111]
                      refine AW.step 10 [] (by kernel_rfl) ⟨⟨_, rfl, ?_⟩, trivial⟩
                      · refine RW.callM (cs := []) [.blk u16.1 67 (#[.int .i64 v91, .int .i64 v92, .int .i64 v93, u16.2]), .row u16.2 5 1 (([] : List Int) ++ (([] : List Int) ++ a0)).length (ec eb (([] : List Int) ++ (([] : List Int) ++ a0)))] [.blk b18 50 (#[sa0, .int .i64 v95, s98]), ro sa0 1 a0.length (ec eb a0), ro s98 1 v97.length (ec e1 v97), ro sa1 2 a1.length (ec e2 a1)] [] [0, 1, 2, 3, 4, 5] (fun (_ : Unit) => [.blk u16.1 67 (#[.int .i64 v91, .int .i64 v92, .int .i64 v93, u16.2]), .row u16.2 5 1 (([] : List Int) ++ (([] : List Int) ++ a0)).length (ec eb (([] : List Int) ++ (([] : List Int) ++ a0)))]) (fun (_ : Unit) => .int .i64 v91) rfl rfl rfl rfl Try.call20 rfl rfl rfl (fun w hM => lent0) (.inl fun _ => rfl) (fun w S' hM => c_bits_Reader_At K v91 v92 v93 (([] : List Int) ++ (([] : List Int) ++ a0)) u16.1 u16.2 r107 w S' hM hr107) (fun _ => ?_)
                        refine RW.nil ?_
                        refine AW.on (done' := #[true, true, true, true, true, true, true, true, true, true, true, true, true, false, false]) rfl [0, 2, 3, 4, 5] rfl rfl ?_
                        refine AW.take 13 (done' := #[true, true, true, true, true, true, true, true, true, true, true, true, true, true, false]) (.bool (decide (¬ v91 = v95))) [0, 2, 3, 4, 5] hns rfl rfl rfl (by kernel_rfl) (by kernel_rfl) rfl rfl rfl (by kernel_rfl) (fun _ _ => Yi.pv _ rfl) ?_
                        refine AW.take 14 (done' := #[true, true, true, true, true, true, true, true, true, true, true, true, true, true, true]) (.bool (decide (¬ v91 = v95))) [0, 2, 3, 4, 5] hns rfl rfl rfl (by kernel_rfl) (by kernel_rfl) rfl rfl rfl (by kernel_rfl) (fun _ _ => Yi.pv _ rfl) ?_
                        have ht := hA111_111111111111111
                        rw [hA111] at ht
                        refine AW.to [0, 1, 2, 3, 4, 5] rfl rfl ?_ ht
                        exact ⟨rfl, rfl, rfl, rfl, rfl, rfl, rfl, rfl, rfl, rfl, rfl, rfl, rfl, rfl, trivial⟩
                    rw [hA111]
                    refine AW.take 0 (done' := #[true, false, false, false, false, false, false, false, false, false, false, false, false, false, false]) (.int .i64 v99) [0, 2, 3, 4, 5] hns rfl rfl rfl (by kernel_rfl) (by kernel_rfl) rfl rfl rfl (by kernel_rfl) (fun _ _ => Yi.pv _ rfl) ?_
                    refine AW.take 1 (done' := #[true, true, false, false, false, false, false, false, false, false, false, false, false, false, false]) (.int .i64 v100) [0, 2, 3, 4, 5] hns rfl rfl rfl (by kernel_rfl) (by kernel_rfl) rfl rfl rfl (by kernel_rfl) (fun _ _ => Yi.pv _ rfl) ?_
                    refine AW.take 2 (done' := #[true, true, true, false, false, false, false, false, false, false, false, false, false, false, false]) (.bool (decide (¬ v99 = v100))) [0, 2, 3, 4, 5] hns rfl rfl rfl (by kernel_rfl) (by kernel_rfl) rfl rfl rfl (by kernel_rfl) (fun _ _ => Yi.pv _ rfl) ?_
                    refine AW.take 3 (done' := #[true, true, true, true, false, false, false, false, false, false, false, false, false, false, false]) (.bool (decide (¬ v99 = v100))) [0, 2, 3, 4, 5] hns rfl rfl rfl (by kernel_rfl) (by kernel_rfl) rfl rfl rfl (by kernel_rfl) (fun _ _ => Yi.pv _ rfl) ?_
                    refine AW.fork 106 (¬ v99 = v100) rfl (fun h => absurd h h103) (fun _ => ?_)
                    refine AW.take 4 (done' := #[true, true, true, true, true, false, false, false, false, false, false, false, false, false, false]) (.int .i64 v101) [0, 2, 3, 4, 5] hns rfl rfl rfl (by kernel_rfl) (by kernel_rfl) rfl rfl rfl (by kernel_rfl) (fun _ _ => Yi.pv _ rfl) ?_
                    refine AW.take 5 (done' := #[true, true, true, true, true, true, false, false, false, false, false, false, false, false, false]) (.int .i64 v102) [0, 2, 3, 4, 5] hns rfl rfl rfl (by kernel_rfl) (by kernel_rfl) rfl rfl rfl (by kernel_rfl) (fun _ _ => Yi.pv _ rfl) ?_
                    refine AW.take 6 (done' := #[true, true, true, true, true, true, true, false, false, false, false, false, false, false, false]) (.bool (decide (¬ v101 = v102))) [0, 2, 3, 4, 5] hns rfl rfl rfl (by kernel_rfl) (by kernel_rfl) rfl rfl rfl (by kernel_rfl) (fun _ _ => Yi.pv _ rfl) ?_
                    refine AW.take 7 (done' := #[true, true, true, true, true, true, true, true, false, false, false, false, false, false, false]) (.bool (decide (¬ v101 = v102))) [0, 2, 3, 4, 5] hns rfl rfl rfl (by kernel_rfl) (by kernel_rfl) rfl rfl rfl (by kernel_rfl) (fun _ _ => Yi.pv _ rfl) ?_
                    refine AW.take 8 (done' := #[true, true, true, true, true, true, true, true, true, false, false, false, false, false, false]) (.bool (decide (¬ v101 = v102))) [0, 2, 3, 4, 5] hns rfl rfl rfl (by kernel_rfl) (by kernel_rfl) rfl rfl rfl (by kernel_rfl) (fun _ _ => Yi.pv _ rfl) ?_
                    refine AW.fork 111 (¬ v101 = v102) rfl (fun h => absurd h h105) (fun _ => ?_)
                    refine AW.take 9 (done' := #[true, true, true, true, true, true, true, true, true, true, false, false, false, false, false]) (.pointer (some ⟨u16.1, 0, none⟩)) [0, 2, 3, 4, 5] hns rfl rfl rfl (by kernel_rfl) (by kernel_rfl) rfl rfl rfl (by kernel_rfl) (fun _ _ => Yi.pv _ rfl) ?_
                    refine AW.take 11 (done' := #[true, true, true, true, true, true, true, true, true, true, false, true, false, false, false]) (.pointer (some ⟨b18, 1, none⟩)) [0, 2, 3, 4, 5] hns rfl rfl rfl (by kernel_rfl) (by kernel_rfl) rfl rfl rfl (by kernel_rfl) (fun _ _ => Yi.fieldAddr (j := 1) Try.underlying50 rfl Try.sizeOf3 rfl) ?_
                    refine AW.take 12 (done' := #[true, true, true, true, true, true, true, true, true, true, false, true, true, false, false]) (.int .i64 v95) [0, 2, 3, 4, 5] hns rfl rfl rfl (by kernel_rfl) (by kernel_rfl) rfl rfl rfl (by kernel_rfl) (fun _ _ => Yi.load1 (i := 1) _ rfl rfl Try.isAgg3 rfl) ?_
                    have ht := hA111_111111111101100
                    rw [hA111] at ht
                    refine AW.to [0, 1, 2, 3, 4, 5] rfl rfl ?_ ht
                    exact ⟨rfl, rfl, rfl, rfl, rfl, rfl, rfl, rfl, rfl, rfl, rfl, rfl, trivial⟩
            · replace hm := (if_neg h40).symm.trans hm
              refine CW.cond_false rfl ?_
              refine CW.exit ?_
              refine EW.thx ?_
              refine EW.thx ?_
              refine EW.blx ?_
              refine EW.thn ?_
              exact fun a w hs hM => ⟨hs.sub trivial, (hM.pick [] rfl rfl), hm⟩
        · rintro a w ⟨hs, hM, hm⟩
          unfold law04_BitsReads_j1 at hm
          refine CW.enter hs hM ?_
          refine CW.seq ?_
          refine CW.region ?_
          obtain ⟨r19, hr19, hm⟩ := of_bind hm
          refine RW.ca (.bool r19) rfl rfl (Ca.call (cs := []) [] rfl rfl Try.call10 (fun w hM => lent0) (fun w S' hM => (c_law04_awake K  r19 w S' hM hr19).mono (fun _ _ h => by obtain ⟨_, h1, h2⟩ := h; exact ⟨h1, h2⟩))) ?_
          refine RW.yi (.bool r19) rfl rfl (Yi.pv _ rfl) ?_
          refine RW.nil ?_
          refine EW.next ?_
          refine CW.ret ?_
          obtain rfl := Option.some.inj hm
          exact EW.done (rs := [.tmp 4]) rfl (.tmp (t := 4) (v := .bool r19) rfl .nil) (fun _ hM => ⟨(), rfl, (hM.pick [] rfl rfl)⟩)

end Go.Proofs.Ytpfnjmaadghhoaa
