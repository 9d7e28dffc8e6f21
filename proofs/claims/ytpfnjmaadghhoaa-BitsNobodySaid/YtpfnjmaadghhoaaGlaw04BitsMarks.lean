import Derived.Test.YtpfnjmaadghhoaaN7
import Derived.Test.YtpfnjmaadghhoaaProg
import Derived.Test.YtpfnjmaadghhoaaGbitsNewReader
import Derived.Test.YtpfnjmaadghhoaaGbitsNewWriter
import Derived.Test.YtpfnjmaadghhoaaGbitsReaderAt
import Derived.Test.YtpfnjmaadghhoaaGbitsReaderBit
import Derived.Test.YtpfnjmaadghhoaaGbitsReaderMarker
import Derived.Test.YtpfnjmaadghhoaaGbitsWriterBytes
import Derived.Test.YtpfnjmaadghhoaaGbitsWriterCount
import Derived.Test.YtpfnjmaadghhoaaGbitsWriterPut
import Derived.Test.YtpfnjmaadghhoaaGlaw04awake
set_option maxRecDepth 100000
set_option maxHeartbeats 1000000
namespace Go.Proofs.Ytpfnjmaadghhoaa
open Go Go.RowKit K

def law04_BitsMarks_j1 (K : Nat) (a1 : Int) (r18 : ((List Int))) (v33 : Int) (v34 : Int) (v35 : Int) : Option (Bool) :=
  ((bits_Reader_Marker K v33 v34 v35 (([] : List Int) ++ ((([] : List Int) ++ r18) ++ ([255, (IntKind.u8.wrap ((w64 ((Int.tmod (w64 (a1)) 254) + 1))))] : List Int)))).bind fun r36 => (if r36.1 = (w64 ((Int.tmod (w64 (a1)) 254) + 1)) then (if r36.2.1 = 0 then ((bits_Reader_At K r36.2.2.1 v34 r36.2.2.2 (([] : List Int) ++ ((([] : List Int) ++ r18) ++ ([255, (IntKind.u8.wrap ((w64 ((Int.tmod (w64 (a1)) 254) + 1))))] : List Int)))).bind fun r41 => (if r36.2.2.1 = (w64 ((r18.length : Int) + 2)) then ((law04_awake K ).bind fun r45 => some r45) else some false)) else some false) else some false))

def law04_BitsMarks_l1 (K : Nat) (a1 : Int) (v13 : (List Int)) (v15 : Int) (v17 : Int) (v16 : Int) (r18 : ((List Int))) : Nat → Int → Int → Int → Int →  Option (Bool)
  | 0, _, _, _, _ => none
  | k1 + 1, v49, v50, v51, v53 =>
    ((bits_Writer_Count K v13 v15 v16 v17).bind fun r60 => (if v53 < v17 then ((bits_Reader_Bit K v49 v50 v51 (([] : List Int) ++ ((([] : List Int) ++ r18) ++ ([255, (IntKind.u8.wrap ((w64 ((Int.tmod (w64 (a1)) 254) + 1))))] : List Int)))).bind fun r64 => (if ¬ r64.2.1 = 0 then some false else (law04_BitsMarks_l1 K a1 v13 v15 v17 v16 r18 k1) r64.2.2.1 r64.2.2.2.1 r64.2.2.2.2 (w64 (v53 + 1)))) else law04_BitsMarks_j1 K a1 r18 v49 v50 v51))

def law04_BitsMarks_j2 (K : Nat) (a1 : Int) (v13 : (List Int)) (v15 : Int) (v17 : Int) (v16 : Int) (r18 : ((List Int))) : Option (Bool) :=
  (if ([] : List Int).length + r18.length ≤ 140737488355328 then (if (([] : List Int) ++ r18).length + ([255, (IntKind.u8.wrap ((w64 ((Int.tmod (w64 (a1)) 254) + 1))))] : List Int).length ≤ 140737488355328 then ((bits_NewReader K ((([] : List Int) ++ r18) ++ ([255, (IntKind.u8.wrap ((w64 ((Int.tmod (w64 (a1)) 254) + 1))))] : List Int))).bind fun r30 => law04_BitsMarks_l1 K a1 v13 v15 v17 v16 r18 K 0 0 0 0) else none) else none)

def law04_BitsMarks_j3 (_ : Nat) (cb_law04_BitsMarks_l2 : Int → Option (Bool)) (v69 : Int) : Option (Bool) :=
  cb_law04_BitsMarks_l2 (w64 (v69 + 1))

def law04_BitsMarks_l2 (K : Nat) (a1 : Int) (v13 : (List Int)) (v15 : Int) (v17 : Int) (v16 : Int) (r18 : ((List Int))) : Nat → Int →  Option (Bool)
  | 0, _ => none
  | k2 + 1, v69 =>
    (if v69 < (r18.length : Int) then (if 0 ≤ v69 ∧ v69 < (r18.length : Int) then (if (r18.getD v69.toNat 0) = 255 then (if (r18.length : Int) ≤ (w64 (v69 + 1)) then some false else (if 0 ≤ (w64 (v69 + 1)) ∧ (w64 (v69 + 1)) < (r18.length : Int) then (if ¬ (r18.getD ((w64 (v69 + 1)).toNat) 0) = 0 then some false else law04_BitsMarks_j3 K (law04_BitsMarks_l2 K a1 v13 v15 v17 v16 r18 k2) v69) else none)) else law04_BitsMarks_j3 K (law04_BitsMarks_l2 K a1 v13 v15 v17 v16 r18 k2) v69) else none) else law04_BitsMarks_j2 K a1 v13 v15 v17 v16 r18)

def law04_BitsMarks_j4 (K : Nat) (a1 : Int) (v13 : (List Int)) (v15 : Int) (v16 : Int) (v17 : Int) : Option (Bool) :=
  ((bits_Writer_Bytes K v13 v15 v16 v17).bind fun r18 => law04_BitsMarks_l2 K a1 v13 v15 v17 v16 r18 K 0)

def law04_BitsMarks_l3 (K : Nat) (a0 : (List (Int × Int))) (a1 : Int) : Nat → (List Int) → Int → Int → Int → Int →  Option (Bool)
  | 0, _, _, _, _, _ => none
  | k3 + 1, v80, v82, v83, v84, v85 =>
    (if v85 < (a0.length : Int) then (if 0 ≤ v85 ∧ v85 < (a0.length : Int) then ((bits_Writer_Put K v80 v82 v83 v84 ((a0.getD v85.toNat (0, 0)).1) ((a0.getD v85.toNat (0, 0)).2)).bind fun r96 => (law04_BitsMarks_l3 K a0 a1 k3) r96.2.2.2.2 r96.2.1 r96.2.2.1 r96.2.2.2.1 (w64 (v85 + 1))) else none) else law04_BitsMarks_j4 K a1 v80 v82 v83 v84)

def law04_BitsMarks (K : Nat) (a0 : (List (Int × Int))) (a1 : Int) : Option (Bool) :=
  (if 60 < (a0.length : Int) then ((law04_awake K ).bind fun r10 => some r10) else ((bits_NewWriter K ).bind fun r11 => law04_BitsMarks_l3 K a0 a1 K ([] : List Int) 0 0 0 0))

theorem c_law04_BitsMarks (K : Nat) (a0 : (List (Int × Int))) (a1 : Int) (sa0 : Value) (r : Bool) (w0 : World) (S : Own) (hM0 : Mem w0 S [ro sa0 2 a0.length (ec e2 a0)] w0) (hm : law04_BitsMarks K a0 a1 = some r) : Calls Try.prog 5 #[sa0, .int .u8 a1] w0 fun e w' => ∃ _u : Unit, e = .returned (.bool r) ∧ Mem w0 S [] w' := by
  unfold law04_BitsMarks at hm
  refine calls_CW (n := 111) w0 S [ro sa0 2 a0.length (ec e2 a0)] Try.func5 rfl rfl rfl hM0 ?_
  refine CW.seq ?_
  refine CW.region ?_
  refine RW.yi (.bool false) rfl rfl (Yi.pv _ rfl) ?_
  refine RW.nil ?_
  refine EW.next ?_
  refine CW.seq ?_
  refine CW.seq ?_
  refine CW.region ?_
  refine RW.yi (sa0) rfl rfl (Yi.pv _ rfl) ?_
  refine RW.yi (.int .i64 (a0.length : Int)) rfl rfl (Yi.lenS (cs := ec e2 a0) (m := a0.length) Try.underlying22 rfl (rdF 0 rfl)) ?_
  refine RW.yi (.bool (decide (60 < (a0.length : Int)))) rfl rfl (Yi.pv _ rfl) ?_
  refine RW.nil ?_
  refine EW.next ?_
  refine CW.fork 20 (60 < (a0.length : Int)) rfl (fun h9 => ?_) (fun h9 => ?_)
  · replace hm := (if_pos h9).symm.trans hm
    refine CW.cond_true rfl ?_
    refine CW.seq ?_
    refine CW.region ?_
    obtain ⟨r10, hr10, hm⟩ := of_bind hm
    refine RW.ca (.bool r10) rfl rfl (Ca.call (cs := []) [] rfl rfl Try.call10 (fun w hM => lent0) (fun w S' hM => (c_law04_awake K  r10 w S' hM hr10).mono (fun _ _ h => by obtain ⟨_, h1, h2⟩ := h; exact ⟨h1, h2⟩))) ?_
    refine RW.yi (.bool r10) rfl rfl (Yi.pv _ rfl) ?_
    refine RW.nil ?_
    refine EW.next ?_
    refine CW.ret ?_
    refine EW.thr ?_
    obtain rfl := Option.some.inj hm
    exact EW.done (rs := [.tmp 4]) rfl (.tmp (t := 4) (v := .bool r10) rfl .nil) (fun _ hM => ⟨(), rfl, (hM.pick [] rfl rfl)⟩)
  · replace hm := (if_neg h9).symm.trans hm
    refine CW.cond_false rfl ?_
    refine CW.skip ?_
    refine EW.next ?_
    refine CW.seq ?_
    refine CW.region ?_
    obtain ⟨r11, hr11, hm⟩ := of_bind hm
    refine RW.callM (cs := []) [] [ro sa0 2 a0.length (ec e2 a0)] [] [0] (fun (u12 : Nat) => [.blk u12 60 (#[.slice none 0 0, .int .i64 0, .int .i64 0, .int .i64 0])]) (fun (u12 : Nat) => .pointer (some ⟨u12, 0, none⟩)) rfl rfl rfl rfl Try.call11 rfl rfl rfl (fun w hM => lent0) (.inl fun _ => rfl) (fun w S' hM => c_bits_NewWriter K  r11 w S' hM hr11) (fun u12 => ?_)
    refine RW.yi (.pointer (some ⟨u12, 0, none⟩)) rfl rfl (Yi.pv _ rfl) ?_
    refine RW.nil ?_
    refine EW.next ?_
    refine CW.join (fun a w => ∃ (v13 : (List Int)) (v15 : Int) (v16 : Int) (v17 : Int) (s14 : Value), St 111 [(1, .int .u8 a1), (5, .pointer (some ⟨u12, 0, none⟩))] a ∧ Mem w0 S [.blk u12 60 (#[s14, .int .i64 v15, .int .i64 v16, .int .i64 v17]), .row s14 5 1 v13.length (ec eb v13)] w ∧ law04_BitsMarks_j4 K a1 v13 v15 v16 v17 = some r) ?_ ?_
    · refine CW.seq ?_
      refine CW.region ?_
      refine RW.yi (sa0) rfl rfl (Yi.pv _ rfl) ?_
      refine RW.yi (.int .i64 (a0.length : Int)) rfl rfl (Yi.lenS (cs := ec e2 a0) (m := a0.length) Try.underlying22 rfl (rdF 1 rfl)) ?_
      refine RW.yi (.int .i64 0) rfl rfl (Yi.pv _ rfl) ?_
      refine RW.nil ?_
      refine EW.next ?_
      refine CW.block ?_
      refine CW.loop (fun k a w => ∃ (v80 : (List Int)) (v82 : Int) (v83 : Int) (v84 : Int) (v85 : Int) (s81 : Value), St 111 [(1, .int .u8 a1), (5, .pointer (some ⟨u12, 0, none⟩)), (23, sa0), (24, .int .i64 (a0.length : Int)), (25, .int .i64 v85)] a ∧ Mem w0 S [.blk u12 60 (#[s81, .int .i64 v82, .int .i64 v83, .int .i64 v84]), .row s81 5 1 v80.length (ec eb v80), ro sa0 2 a0.length (ec e2 a0)] w ∧ law04_BitsMarks_l3 K a0 a1 k v80 v82 v83 v84 v85 = some r) K ?_ ?_ ?_
      · rintro a w ⟨_, _, _, _, _, _, _, _, hm⟩
        rw [law04_BitsMarks_l3.eq_1] at hm
        cases hm
      · exact fun a w hs hM => ⟨([] : List Int), 0, 0, 0, 0, (.slice none 0 0), hs.sub ⟨rfl, rfl, rfl, rfl, rfl, trivial⟩, ((hM.nilRow 5 1).pick [1, 0, 2] rfl rfl), hm⟩
      · rintro k3 a w ⟨v80, v82, v83, v84, v85, s81, hs, hM, hm⟩
        rw [law04_BitsMarks_l3.eq_2] at hm
        refine CW.enter hs hM ?_
        refine CW.seq ?_
        refine CW.region ?_
        refine RW.yi (.bool (decide (v85 < (a0.length : Int)))) rfl rfl (Yi.pv _ rfl) ?_
        refine RW.nil ?_
        refine EW.next ?_
        refine CW.seq ?_
        refine CW.fork 26 (v85 < (a0.length : Int)) rfl (fun h93 => ?_) (fun h93 => ?_)
        · replace hm := (if_pos h93).symm.trans hm
          refine CW.cond_true rfl ?_
          refine CW.skip ?_
          refine EW.next ?_
          refine CW.seq ?_
          refine CW.block ?_
          refine CW.seq ?_
          refine CW.region ?_
          obtain ⟨g94, hm⟩ := of_guard hm
          refine RW.yi (.pointer (some (eaddr sa0 2 v85.toNat 0))) rfl rfl (Yi.idxS (m := a0.length) Try.underlying22 Try.sizeOf28 rfl rfl (rdF 2 rfl) g94.1 g94.2) ?_
          refine RW.yi (.agg #[.int .i64 ((a0.getD v85.toNat (0, 0)).1), .int .i64 ((a0.getD v85.toNat (0, 0)).2)]) rfl rfl (Yi.loadSA (m := a0.length) (cs := ec e2 a0) _ rfl (rdF 2 rfl) Try.isAgg28 Try.sizeOf28 (by omega) (by rw [ec_elem e2_is (0, 0) (by omega)]; rfl)) ?_
          refine RW.alloc (z := .agg #[.int .i64 0, .int .i64 0]) (#[.int .i64 0, .int .i64 0]) rfl rfl (fun _ => by kernel_rfl) rfl (fun b95 => ?_)
          refine RW.storeW (i := 0) (cs' := #[.int .i64 ((a0.getD v85.toNat (0, 0)).1), .int .i64 ((a0.getD v85.toNat (0, 0)).2)]) rfl rfl rfl rfl (by kernel_rfl) rfl (by kernel_rfl) ?_
          refine RW.nil ?_
          refine EW.next ?_
          refine CW.region ?_
          refine RW.yi (.pointer (some ⟨u12, 0, none⟩)) rfl rfl (Yi.pv _ rfl) ?_
          refine RW.yi (.pointer (some ⟨b95, 0, none⟩)) rfl rfl (Yi.fieldAddr (j := 0) Try.underlying28 rfl Try.sizeOf3 rfl) ?_
          refine RW.yi (.int .i64 ((a0.getD v85.toNat (0, 0)).1)) rfl rfl (Yi.load1 (i := 0) _ rfl rfl Try.isAgg3 rfl) ?_
          refine RW.yi (.pointer (some ⟨b95, 1, none⟩)) rfl rfl (Yi.fieldAddr (j := 1) Try.underlying28 rfl Try.sizeOf3 rfl) ?_
          refine RW.yi (.int .i64 ((a0.getD v85.toNat (0, 0)).2)) rfl rfl (Yi.load1 (i := 0) _ rfl rfl Try.isAgg3 rfl) ?_
          obtain ⟨r96, hr96, hm⟩ := of_bind hm
          refine RW.callM (cs := []) [.blk u12 60 (#[s81, .int .i64 v82, .int .i64 v83, .int .i64 v84]), .row s81 5 1 v80.length (ec eb v80)] [.blk b95 28 (#[.int .i64 ((a0.getD v85.toNat (0, 0)).1), .int .i64 ((a0.getD v85.toNat (0, 0)).2)]), ro sa0 2 a0.length (ec e2 a0)] [] [1, 2, 0, 3] (fun (u97 : Value) => [.blk u12 60 (#[u97, .int .i64 r96.2.1, .int .i64 r96.2.2.1, .int .i64 r96.2.2.2.1]), .row u97 5 1 r96.2.2.2.2.length (ec eb r96.2.2.2.2)]) (fun (u97 : Value) => .int .i64 r96.1) rfl rfl rfl rfl Try.call13 rfl rfl rfl (fun w hM => lent0) (.inl fun _ => rfl) (fun w S' hM => c_bits_Writer_Put K v80 v82 v83 v84 ((a0.getD v85.toNat (0, 0)).1) ((a0.getD v85.toNat (0, 0)).2) u12 s81 r96 w S' hM hr96) (fun u97 => ?_)
          refine RW.nil ?_
          refine EW.bln ?_
          refine EW.next ?_
          refine CW.region ?_
          refine RW.yi (.int .i64 (w64 (v85 + 1))) rfl rfl (Yi.pv _ rfl) ?_
          refine RW.yi (.int .i64 (w64 (v85 + 1))) rfl rfl (Yi.pv _ rfl) ?_
          refine RW.nil ?_
          refine EW.thn ?_
          exact fun a w hs hM => ⟨r96.2.2.2.2, r96.2.1, r96.2.2.1, r96.2.2.2.1, (w64 (v85 + 1)), u97, hs.sub ⟨rfl, rfl, rfl, rfl, rfl, trivial⟩, (hM.pick [0, 1, 3] rfl rfl), hm⟩
        · replace hm := (if_neg h93).symm.trans hm
          refine CW.cond_false rfl ?_
          refine CW.exit ?_
          refine EW.thx ?_
          refine EW.thx ?_
          refine EW.blx ?_
          refine EW.thn ?_
          exact fun a w hs hM => ⟨v80, v82, v83, v84, s81, hs.sub ⟨rfl, rfl, trivial⟩, (hM.pick [0, 1] rfl rfl), hm⟩
    · rintro a w ⟨v13, v15, v16, v17, s14, hs, hM, hm⟩
      unfold law04_BitsMarks_j4 at hm
      refine CW.enter hs hM ?_
      refine CW.seq ?_
      refine CW.region ?_
      refine RW.yi (.pointer (some ⟨u12, 0, none⟩)) rfl rfl (Yi.pv _ rfl) ?_
      obtain ⟨r18, hr18, hm⟩ := of_bind hm
      refine RW.callM (cs := []) [.blk u12 60 (#[s14, .int .i64 v15, .int .i64 v16, .int .i64 v17]), .row s14 5 1 v13.length (ec eb v13)] [] [] [0, 1] (fun (u19 : Value) => [.row u19 5 1 r18.length (ec eb r18), .blk u12 60 (#[s14, .int .i64 v15, .int .i64 v16, .int .i64 v17]), .row s14 5 1 v13.length (ec eb v13)]) (fun (u19 : Value) => u19) rfl rfl rfl rfl Try.call15 rfl rfl rfl (fun w hM => lent0) (.inl fun _ => rfl) (fun w S' hM => c_bits_Writer_Bytes K v13 v15 v16 v17 u12 s14 r18 w S' hM hr18) (fun u19 => ?_)
      refine RW.yi (u19) rfl rfl (Yi.pv _ rfl) ?_
      refine RW.nil ?_
      refine EW.next ?_
      refine CW.join (fun a w => St 111 [(1, .int .u8 a1), (5, .pointer (some ⟨u12, 0, none⟩)), (8, u19)] a ∧ Mem w0 S [.blk u12 60 (#[s14, .int .i64 v15, .int .i64 v16, .int .i64 v17]), .row s14 5 1 v13.length (ec eb v13), .row u19 5 1 r18.length (ec eb r18)] w ∧ law04_BitsMarks_j2 K a1 v13 v15 v17 v16 r18 = some r) ?_ ?_
      · refine CW.seq ?_
        refine CW.region ?_
        refine RW.yi (u19) rfl rfl (Yi.pv _ rfl) ?_
        refine RW.yi (.int .i64 (r18.length : Int)) rfl rfl (Yi.lenS (cs := ec eb r18) (m := r18.length) Try.underlying34 rfl (rdW 0 rfl)) ?_
        refine RW.yi (.int .i64 0) rfl rfl (Yi.pv _ rfl) ?_
        refine RW.nil ?_
        refine EW.next ?_
        refine CW.block ?_
        refine CW.loop (fun k a w => ∃ (v69 : Int), St 111 [(1, .int .u8 a1), (5, .pointer (some ⟨u12, 0, none⟩)), (8, u19), (38, u19), (39, .int .i64 (r18.length : Int)), (40, .int .i64 v69)] a ∧ Mem w0 S [.blk u12 60 (#[s14, .int .i64 v15, .int .i64 v16, .int .i64 v17]), .row s14 5 1 v13.length (ec eb v13), .row u19 5 1 r18.length (ec eb r18)] w ∧ law04_BitsMarks_l2 K a1 v13 v15 v17 v16 r18 k v69 = some r) K ?_ ?_ ?_
        · rintro a w ⟨_, _, _, hm⟩
          rw [law04_BitsMarks_l2.eq_1] at hm
          cases hm
        · exact fun a w hs hM => ⟨0, hs.sub ⟨rfl, rfl, rfl, rfl, rfl, rfl, trivial⟩, (hM.pick [1, 2, 0] rfl rfl), hm⟩
        · rintro k2 a w ⟨v69, hs, hM, hm⟩
          rw [law04_BitsMarks_l2.eq_2] at hm
          refine CW.enter hs hM ?_
          refine CW.seq ?_
          refine CW.region ?_
          refine RW.yi (.bool (decide (v69 < (r18.length : Int)))) rfl rfl (Yi.pv _ rfl) ?_
          refine RW.nil ?_
          refine EW.next ?_
          refine CW.seq ?_
          refine CW.fork 41 (v69 < (r18.length : Int)) rfl (fun h71 => ?_) (fun h71 => ?_)
          · replace hm := (if_pos h71).symm.trans hm
            refine CW.cond_true rfl ?_
            refine CW.skip ?_
            refine EW.next ?_
            refine CW.join (fun a w => St 111 [(1, .int .u8 a1), (5, .pointer (some ⟨u12, 0, none⟩)), (8, u19), (38, u19), (39, .int .i64 (r18.length : Int)), (40, .int .i64 v69)] a ∧ Mem w0 S [.blk u12 60 (#[s14, .int .i64 v15, .int .i64 v16, .int .i64 v17]), .row s14 5 1 v13.length (ec eb v13), .row u19 5 1 r18.length (ec eb r18)] w ∧ law04_BitsMarks_j3 K (law04_BitsMarks_l2 K a1 v13 v15 v17 v16 r18 k2) v69 = some r) ?_ ?_
            · refine CW.block ?_
              refine CW.seq ?_
              refine CW.region ?_
              refine RW.yi (.int .i64 v69) rfl rfl (Yi.pv _ rfl) ?_
              obtain ⟨g72, hm⟩ := of_guard hm
              refine RW.yi (.pointer (some (eaddr u19 1 v69.toNat 0))) rfl rfl (Yi.idxS (m := r18.length) Try.underlying34 Try.sizeOf5 rfl rfl (rdW 2 rfl) g72.1 g72.2) ?_
              refine RW.yi (.int .u8 (r18.getD v69.toNat 0)) rfl rfl (Yi.loadS (m := r18.length) (cs := ec eb r18) _ rfl (rdW 2 rfl) Try.isAgg5 (by omega) (by omega) (by rw [ec_get (d := 0) eb_is (by omega) (by decide)]; rfl)) ?_
              refine RW.yi (.int .i64 v69) rfl rfl (Yi.pv _ rfl) ?_
              refine RW.yi (.int .u8 (r18.getD v69.toNat 0)) rfl rfl (Yi.pv _ rfl) ?_
              refine RW.nil ?_
              refine EW.next ?_
              refine CW.seq ?_
              refine CW.region ?_
              refine RW.yi (.int .u8 (r18.getD v69.toNat 0)) rfl rfl (Yi.pv _ rfl) ?_
              refine RW.yi (.bool (decide ((r18.getD v69.toNat 0) = 255))) rfl rfl (Yi.pv _ rfl) ?_
              refine RW.yi (.bool (decide ((r18.getD v69.toNat 0) = 255))) rfl rfl (Yi.pv _ rfl) ?_
              refine RW.fork 47 ((r18.getD v69.toNat 0) = 255) rfl (fun h73 => ?_) (fun h73 => ?_)
              · replace hm := (if_pos h73).symm.trans hm
                refine RW.yi (.int .i64 v69) rfl rfl (Yi.pv _ rfl) ?_
                refine RW.yi (.int .i64 (w64 (v69 + 1))) rfl rfl (Yi.pv _ rfl) ?_
                refine RW.yi (u19) rfl rfl (Yi.pv _ rfl) ?_
                refine RW.yi (.int .i64 (r18.length : Int)) rfl rfl (Yi.lenS (cs := ec eb r18) (m := r18.length) Try.underlying34 rfl (rdW 2 rfl)) ?_
                refine RW.yi (.bool (decide ((r18.length : Int) ≤ (w64 (v69 + 1))))) rfl rfl (Yi.pv _ rfl) ?_
                refine RW.yi (.bool (decide ((r18.length : Int) ≤ (w64 (v69 + 1))))) rfl rfl (Yi.pv _ rfl) ?_
                refine RW.fork 53 ((r18.length : Int) ≤ (w64 (v69 + 1))) rfl (fun h74 => ?_) (fun h74 => ?_)
                · replace hm := (if_pos h74).symm.trans hm
                  refine RW.pass rfl rfl ?_
                  refine RW.pass rfl rfl ?_
                  refine RW.pass rfl rfl ?_
                  refine RW.pass rfl rfl ?_
                  refine RW.pass rfl rfl ?_
                  refine RW.pass rfl rfl ?_
                  refine RW.yi (.bool true) rfl rfl (Yi.pv _ rfl) ?_
                  refine RW.yi (.bool true) rfl rfl (Yi.pv _ rfl) ?_
                  refine RW.nil ?_
                  refine EW.next ?_
                  refine CW.cond_true rfl ?_
                  refine CW.seq ?_
                  refine CW.region ?_
                  refine RW.yi (.bool false) rfl rfl (Yi.pv _ rfl) ?_
                  refine RW.nil ?_
                  refine EW.next ?_
                  refine CW.ret ?_
                  refine EW.blr ?_
                  refine EW.thr ?_
                  refine EW.thr ?_
                  refine EW.blr ?_
                  refine EW.thr ?_
                  obtain rfl := Option.some.inj hm
                  exact EW.done (rs := [.tmp 4]) rfl (.tmp (t := 4) (v := .bool false) rfl .nil) (fun _ hM => ⟨(), rfl, (hM.pick [] rfl rfl)⟩)
                · replace hm := (if_neg h74).symm.trans hm
                  refine RW.yi (u19) rfl rfl (Yi.pv _ rfl) ?_
                  refine RW.yi (.int .i64 v69) rfl rfl (Yi.pv _ rfl) ?_
                  refine RW.yi (.int .i64 (w64 (v69 + 1))) rfl rfl (Yi.pv _ rfl) ?_
                  obtain ⟨g75, hm⟩ := of_guard hm
                  refine RW.yi (.pointer (some (eaddr u19 1 ((w64 (v69 + 1)).toNat) 0))) rfl rfl (Yi.idxS (m := r18.length) Try.underlying34 Try.sizeOf5 rfl rfl (rdW 2 rfl) g75.1 g75.2) ?_
                  refine RW.yi (.int .u8 (r18.getD ((w64 (v69 + 1)).toNat) 0)) rfl rfl (Yi.loadS (m := r18.length) (cs := ec eb r18) _ rfl (rdW 2 rfl) Try.isAgg5 (by omega) (by omega) (by rw [ec_get (d := 0) eb_is (by omega) (by decide)]; rfl)) ?_
                  refine RW.yi (.bool (decide (¬ (r18.getD ((w64 (v69 + 1)).toNat) 0) = 0))) rfl rfl (Yi.pv _ rfl) ?_
                  refine RW.yi (.bool (decide (¬ (r18.getD ((w64 (v69 + 1)).toNat) 0) = 0))) rfl rfl (Yi.pv _ rfl) ?_
                  refine RW.yi (.bool (decide (¬ (r18.getD ((w64 (v69 + 1)).toNat) 0) = 0))) rfl rfl (Yi.pv _ rfl) ?_
                  refine RW.nil ?_
                  refine EW.next ?_
                  refine CW.fork 61 (¬ (r18.getD ((w64 (v69 + 1)).toNat) 0) = 0) rfl (fun h76 => ?_) (fun h76 => ?_)
                  · replace hm := (if_pos h76).symm.trans hm
                    refine CW.cond_true rfl ?_
                    refine CW.seq ?_
                    refine CW.region ?_
                    refine RW.yi (.bool false) rfl rfl (Yi.pv _ rfl) ?_
                    refine RW.nil ?_
                    refine EW.next ?_
                    refine CW.ret ?_
                    refine EW.blr ?_
                    refine EW.thr ?_
                    refine EW.thr ?_
                    refine EW.blr ?_
                    refine EW.thr ?_
                    obtain rfl := Option.some.inj hm
                    exact EW.done (rs := [.tmp 4]) rfl (.tmp (t := 4) (v := .bool false) rfl .nil) (fun _ hM => ⟨(), rfl, (hM.pick [] rfl rfl)⟩)
                  · replace hm := (if_neg h76).symm.trans hm
                    refine CW.cond_false rfl ?_
                    refine CW.skip ?_
                    refine EW.bln ?_
                    refine EW.thn ?_
                    exact fun a w hs hM => ⟨hs.sub ⟨rfl, rfl, rfl, rfl, rfl, rfl, trivial⟩, (hM.pick [0, 1, 2] rfl rfl), hm⟩
              · replace hm := (if_neg h73).symm.trans hm
                refine RW.pass rfl rfl ?_
                refine RW.pass rfl rfl ?_
                refine RW.pass rfl rfl ?_
                refine RW.pass rfl rfl ?_
                refine RW.pass rfl rfl ?_
                refine RW.pass rfl rfl ?_
                refine RW.pass rfl rfl ?_
                refine RW.pass rfl rfl ?_
                refine RW.pass rfl rfl ?_
                refine RW.pass rfl rfl ?_
                refine RW.pass rfl rfl ?_
                refine RW.pass rfl rfl ?_
                refine RW.pass rfl rfl ?_
                refine RW.yi (.bool false) rfl rfl (Yi.pv _ rfl) ?_
                refine RW.nil ?_
                refine EW.next ?_
                refine CW.cond_false rfl ?_
                refine CW.skip ?_
                refine EW.bln ?_
                refine EW.thn ?_
                exact fun a w hs hM => ⟨hs.sub ⟨rfl, rfl, rfl, rfl, rfl, rfl, trivial⟩, (hM.pick [0, 1, 2] rfl rfl), hm⟩
            · rintro a w ⟨hs, hM, hm⟩
              unfold law04_BitsMarks_j3 at hm
              refine CW.enter hs hM ?_
              refine CW.region ?_
              refine RW.yi (.int .i64 (w64 (v69 + 1))) rfl rfl (Yi.pv _ rfl) ?_
              refine RW.yi (.int .i64 (w64 (v69 + 1))) rfl rfl (Yi.pv _ rfl) ?_
              refine RW.nil ?_
              refine EW.thn ?_
              exact fun a w hs hM => ⟨(w64 (v69 + 1)), hs.sub ⟨rfl, rfl, rfl, rfl, rfl, rfl, trivial⟩, (hM.pick [0, 1, 2] rfl rfl), hm⟩
          · replace hm := (if_neg h71).symm.trans hm
            refine CW.cond_false rfl ?_
            refine CW.exit ?_
            refine EW.thx ?_
            refine EW.thx ?_
            refine EW.blx ?_
            refine EW.thn ?_
            exact fun a w hs hM => ⟨hs.sub ⟨rfl, rfl, rfl, trivial⟩, (hM.pick [0, 1, 2] rfl rfl), hm⟩
      · rintro a w ⟨hs, hM, hm⟩
        unfold law04_BitsMarks_j2 at hm
        refine CW.enter hs hM ?_
        refine CW.seq ?_
        refine CW.region ?_
        refine RW.yi (.int .u8 a1) rfl rfl (Yi.pv _ rfl) ?_
        refine RW.yi (.int .i64 (w64 (a1))) rfl rfl (Yi.conv ⟨_, Try.underlying5⟩ Try.underlying3 rfl) ?_
        refine RW.yi (.int .i64 (Int.tmod (w64 (a1)) 254)) rfl rfl (Yi.rem rfl rfl (by decide)) ?_
        refine RW.yi (.int .i64 (w64 ((Int.tmod (w64 (a1)) 254) + 1))) rfl rfl (Yi.pv _ rfl) ?_
        refine RW.yi (.int .i64 (w64 ((Int.tmod (w64 (a1)) 254) + 1))) rfl rfl (Yi.pv _ rfl) ?_
        refine RW.nil ?_
        refine EW.next ?_
        refine CW.seq ?_
        refine CW.region ?_
        refine RW.buildS (e := 5) (sz := 1) (vs := []) ((ec eb ([] : List Int)).toArray) rfl rfl rfl rfl rfl (by decide) (fun _ => by kernel_rfl) (fun s22 => ?_)
        refine RW.yi (u19) rfl rfl (Yi.pv _ rfl) ?_
        obtain ⟨g24, hm⟩ := of_guard hm
        refine RW.app (i := 0) (e := 5) (sz := 1) (by_ := 1) (z := .int .u8 0) (m := ([] : List Int).length) (mx := r18.length) (m' := (([] : List Int) ++ r18).length) (cs := ec eb ([] : List Int)) (news := ec eb r18) (cs' := ec eb (([] : List Int) ++ r18)) rfl rfl Try.underlying34 (by kernel_rfl) rfl (by decide) (by decide) rfl rfl rfl (rdW 3 rfl) (ec_one eb_is _) (by omega) (ec_append _ _ _) (by simp only [List.length_append]) (fun s25 => ?_)
        refine RW.yi (.int .i64 (w64 ((Int.tmod (w64 (a1)) 254) + 1))) rfl rfl (Yi.pv _ rfl) ?_
        refine RW.yi (.int .u8 (IntKind.u8.wrap ((w64 ((Int.tmod (w64 (a1)) 254) + 1))))) rfl rfl (Yi.conv ⟨_, Try.underlying3⟩ Try.underlying5 rfl) ?_
        refine RW.buildS (e := 5) (sz := 1) (vs := [.int .u8 255, .int .u8 (IntKind.u8.wrap ((w64 ((Int.tmod (w64 (a1)) 254) + 1))))]) ((ec eb ([255, (IntKind.u8.wrap ((w64 ((Int.tmod (w64 (a1)) 254) + 1))))] : List Int)).toArray) rfl rfl rfl rfl rfl (by decide) (fun _ => by kernel_rfl) (fun s26 => ?_)
        obtain ⟨g28, hm⟩ := of_guard hm
        refine RW.app (i := 1) (e := 5) (sz := 1) (by_ := 1) (z := .int .u8 0) (m := (([] : List Int) ++ r18).length) (mx := ([255, (IntKind.u8.wrap ((w64 ((Int.tmod (w64 (a1)) 254) + 1))))] : List Int).length) (m' := ((([] : List Int) ++ r18) ++ ([255, (IntKind.u8.wrap ((w64 ((Int.tmod (w64 (a1)) 254) + 1))))] : List Int)).length) (cs := ec eb (([] : List Int) ++ r18)) (news := ec eb ([255, (IntKind.u8.wrap ((w64 ((Int.tmod (w64 (a1)) 254) + 1))))] : List Int)) (cs' := ec eb ((([] : List Int) ++ r18) ++ ([255, (IntKind.u8.wrap ((w64 ((Int.tmod (w64 (a1)) 254) + 1))))] : List Int))) rfl rfl Try.underlying34 (by kernel_rfl) rfl (by decide) (by decide) rfl rfl rfl (rdW 0 rfl) (ec_one eb_is _) (by omega) (ec_append _ _ _) (by simp only [List.length_append]) (fun s29 => ?_)
        obtain ⟨r30, hr30, hm⟩ := of_bind hm
        refine RW.callM (cs := []) [] [.row s26 5 1 ([255, (IntKind.u8.wrap ((w64 ((Int.tmod (w64 (a1)) 254) + 1))))] : List Int).length (ec eb ([255, (IntKind.u8.wrap ((w64 ((Int.tmod (w64 (a1)) 254) + 1))))] : List Int)), .row s29 5 1 ((([] : List Int) ++ r18) ++ ([255, (IntKind.u8.wrap ((w64 ((Int.tmod (w64 (a1)) 254) + 1))))] : List Int)).length (ec eb ((([] : List Int) ++ r18) ++ ([255, (IntKind.u8.wrap ((w64 ((Int.tmod (w64 (a1)) 254) + 1))))] : List Int))), .blk u12 60 (#[s14, .int .i64 v15, .int .i64 v16, .int .i64 v17]), .row s14 5 1 v13.length (ec eb v13), .row u19 5 1 r18.length (ec eb r18)] [ro s29 1 ((([] : List Int) ++ r18) ++ ([255, (IntKind.u8.wrap ((w64 ((Int.tmod (w64 (a1)) 254) + 1))))] : List Int)).length (ec eb ((([] : List Int) ++ r18) ++ ([255, (IntKind.u8.wrap ((w64 ((Int.tmod (w64 (a1)) 254) + 1))))] : List Int)))] [0, 1, 2, 3, 4] (fun (u31 : Nat × Value) => [.blk u31.1 67 (#[.int .i64 0, .int .i64 0, .int .i64 0, u31.2]), .row u31.2 5 1 (([] : List Int) ++ ((([] : List Int) ++ r18) ++ ([255, (IntKind.u8.wrap ((w64 ((Int.tmod (w64 (a1)) 254) + 1))))] : List Int))).length (ec eb (([] : List Int) ++ ((([] : List Int) ++ r18) ++ ([255, (IntKind.u8.wrap ((w64 ((Int.tmod (w64 (a1)) 254) + 1))))] : List Int))))]) (fun (u31 : Nat × Value) => .pointer (some ⟨u31.1, 0, none⟩)) rfl rfl rfl rfl Try.call17 rfl rfl rfl (fun w hM => lentW (A := []) hM 1 rfl (lent0)) (.inl fun _ => rfl) (fun w S' hM => c_bits_NewReader K ((([] : List Int) ++ r18) ++ ([255, (IntKind.u8.wrap ((w64 ((Int.tmod (w64 (a1)) 254) + 1))))] : List Int)) s29 r30 w S' hM hr30) (fun u31 => ?_)
        refine RW.yi (.pointer (some ⟨u31.1, 0, none⟩)) rfl rfl (Yi.pv _ rfl) ?_
        refine RW.nil ?_
        refine EW.next ?_
        refine CW.join (fun a w => ∃ (v33 : Int) (v34 : Int) (v35 : Int), St 111 [(8, u19), (11, .int .i64 (w64 ((Int.tmod (w64 (a1)) 254) + 1))), (12, .pointer (some ⟨u31.1, 0, none⟩))] a ∧ Mem w0 S [.row u19 5 1 r18.length (ec eb r18), .blk u31.1 67 (#[.int .i64 v33, .int .i64 v34, .int .i64 v35, u31.2]), .row u31.2 5 1 (([] : List Int) ++ ((([] : List Int) ++ r18) ++ ([255, (IntKind.u8.wrap ((w64 ((Int.tmod (w64 (a1)) 254) + 1))))] : List Int))).length (ec eb (([] : List Int) ++ ((([] : List Int) ++ r18) ++ ([255, (IntKind.u8.wrap ((w64 ((Int.tmod (w64 (a1)) 254) + 1))))] : List Int))))] w ∧ law04_BitsMarks_j1 K a1 r18 v33 v34 v35 = some r) ?_ ?_
        · refine CW.seq ?_
          refine CW.region ?_
          refine RW.yi (.int .i64 0) rfl rfl (Yi.pv _ rfl) ?_
          refine RW.nil ?_
          refine EW.next ?_
          refine CW.block ?_
          refine CW.loop (fun k a w => ∃ (v49 : Int) (v50 : Int) (v51 : Int) (v53 : Int), St 111 [(5, .pointer (some ⟨u12, 0, none⟩)), (8, u19), (11, .int .i64 (w64 ((Int.tmod (w64 (a1)) 254) + 1))), (12, .pointer (some ⟨u31.1, 0, none⟩)), (13, .int .i64 v53)] a ∧ Mem w0 S [.blk u12 60 (#[s14, .int .i64 v15, .int .i64 v16, .int .i64 v17]), .row s14 5 1 v13.length (ec eb v13), .row u19 5 1 r18.length (ec eb r18), .blk u31.1 67 (#[.int .i64 v49, .int .i64 v50, .int .i64 v51, u31.2]), .row u31.2 5 1 (([] : List Int) ++ ((([] : List Int) ++ r18) ++ ([255, (IntKind.u8.wrap ((w64 ((Int.tmod (w64 (a1)) 254) + 1))))] : List Int))).length (ec eb (([] : List Int) ++ ((([] : List Int) ++ r18) ++ ([255, (IntKind.u8.wrap ((w64 ((Int.tmod (w64 (a1)) 254) + 1))))] : List Int))))] w ∧ law04_BitsMarks_l1 K a1 v13 v15 v17 v16 r18 k v49 v50 v51 v53 = some r) K ?_ ?_ ?_
          · rintro a w ⟨_, _, _, _, _, _, hm⟩
            rw [law04_BitsMarks_l1.eq_1] at hm
            cases hm
          · exact fun a w hs hM => ⟨0, 0, 0, 0, hs.sub ⟨rfl, rfl, rfl, rfl, rfl, trivial⟩, (hM.pick [4, 5, 6, 0, 1] rfl rfl), hm⟩
          · rintro k1 a w ⟨v49, v50, v51, v53, hs, hM, hm⟩
            rw [law04_BitsMarks_l1.eq_2] at hm
            refine CW.enter hs hM ?_
            refine CW.seq ?_
            refine CW.seq ?_
            refine CW.region ?_
            refine RW.yi (.int .i64 v53) rfl rfl (Yi.pv _ rfl) ?_
            refine RW.yi (.pointer (some ⟨u12, 0, none⟩)) rfl rfl (Yi.pv _ rfl) ?_
            obtain ⟨r60, hr60, hm⟩ := of_bind hm
            refine RW.callM (cs := []) [.blk u12 60 (#[s14, .int .i64 v15, .int .i64 v16, .int .i64 v17]), .row s14 5 1 v13.length (ec eb v13)] [.row u19 5 1 r18.length (ec eb r18), .blk u31.1 67 (#[.int .i64 v49, .int .i64 v50, .int .i64 v51, u31.2]), .row u31.2 5 1 (([] : List Int) ++ ((([] : List Int) ++ r18) ++ ([255, (IntKind.u8.wrap ((w64 ((Int.tmod (w64 (a1)) 254) + 1))))] : List Int))).length (ec eb (([] : List Int) ++ ((([] : List Int) ++ r18) ++ ([255, (IntKind.u8.wrap ((w64 ((Int.tmod (w64 (a1)) 254) + 1))))] : List Int))))] [] [0, 1, 2, 3, 4] (fun (_ : Unit) => [.blk u12 60 (#[s14, .int .i64 v15, .int .i64 v16, .int .i64 v17]), .row s14 5 1 v13.length (ec eb v13)]) (fun (_ : Unit) => .int .i64 v17) rfl rfl rfl rfl Try.call14 rfl rfl rfl (fun w hM => lent0) (.inl fun _ => rfl) (fun w S' hM => c_bits_Writer_Count K v13 v15 v16 v17 u12 s14 r60 w S' hM hr60) (fun _ => ?_)
            refine RW.yi (.bool (decide (v53 < v17))) rfl rfl (Yi.pv _ rfl) ?_
            refine RW.nil ?_
            refine EW.next ?_
            refine CW.fork 78 (v53 < v17) rfl (fun h63 => ?_) (fun h63 => ?_)
            · replace hm := (if_pos h63).symm.trans hm
              refine CW.cond_true rfl ?_
              refine CW.skip ?_
              refine EW.next ?_
              refine CW.seq ?_
              refine CW.block ?_
              refine CW.seq ?_
              refine CW.region ?_
              refine RW.yi (.pointer (some ⟨u31.1, 0, none⟩)) rfl rfl (Yi.pv _ rfl) ?_
              obtain ⟨r64, hr64, hm⟩ := of_bind hm
              refine RW.callM (cs := []) [.blk u31.1 67 (#[.int .i64 v49, .int .i64 v50, .int .i64 v51, u31.2]), .row u31.2 5 1 (([] : List Int) ++ ((([] : List Int) ++ r18) ++ ([255, (IntKind.u8.wrap ((w64 ((Int.tmod (w64 (a1)) 254) + 1))))] : List Int))).length (ec eb (([] : List Int) ++ ((([] : List Int) ++ r18) ++ ([255, (IntKind.u8.wrap ((w64 ((Int.tmod (w64 (a1)) 254) + 1))))] : List Int))))] [.blk u12 60 (#[s14, .int .i64 v15, .int .i64 v16, .int .i64 v17]), .row s14 5 1 v13.length (ec eb v13), .row u19 5 1 r18.length (ec eb r18)] [] [3, 4, 0, 1, 2] (fun (_ : Unit) => [.blk u31.1 67 (#[.int .i64 r64.2.2.1, .int .i64 r64.2.2.2.1, .int .i64 r64.2.2.2.2, u31.2]), .row u31.2 5 1 (([] : List Int) ++ ((([] : List Int) ++ r18) ++ ([255, (IntKind.u8.wrap ((w64 ((Int.tmod (w64 (a1)) 254) + 1))))] : List Int))).length (ec eb (([] : List Int) ++ ((([] : List Int) ++ r18) ++ ([255, (IntKind.u8.wrap ((w64 ((Int.tmod (w64 (a1)) 254) + 1))))] : List Int))))]) (fun (_ : Unit) => .tuple #[.int .i64 r64.1, .int .i64 r64.2.1]) rfl rfl rfl rfl Try.call18 rfl rfl rfl (fun w hM => lent0) (.inl fun _ => rfl) (fun w S' hM => c_bits_Reader_Bit K v49 v50 v51 (([] : List Int) ++ ((([] : List Int) ++ r18) ++ ([255, (IntKind.u8.wrap ((w64 ((Int.tmod (w64 (a1)) 254) + 1))))] : List Int))) u31.1 u31.2 r64 w S' hM hr64) (fun _ => ?_)
              refine RW.yi (.tuple #[.int .i64 r64.1, .int .i64 r64.2.1]) rfl rfl (Yi.pv _ rfl) ?_
              refine RW.yi (.int .i64 r64.1) rfl rfl (Yi.pv _ rfl) ?_
              refine RW.yi (.int .i64 r64.2.1) rfl rfl (Yi.pv _ rfl) ?_
              refine RW.yi (.int .i64 r64.1) rfl rfl (Yi.pv _ rfl) ?_
              refine RW.yi (.int .i64 r64.2.1) rfl rfl (Yi.pv _ rfl) ?_
              refine RW.nil ?_
              refine EW.next ?_
              refine CW.seq ?_
              refine CW.region ?_
              refine RW.yi (.int .i64 r64.2.1) rfl rfl (Yi.pv _ rfl) ?_
              refine RW.yi (.bool (decide (¬ r64.2.1 = 0))) rfl rfl (Yi.pv _ rfl) ?_
              refine RW.nil ?_
              refine EW.next ?_
              refine CW.fork 87 (¬ r64.2.1 = 0) rfl (fun h67 => ?_) (fun h67 => ?_)
              · replace hm := (if_pos h67).symm.trans hm
                refine CW.cond_true rfl ?_
                refine CW.seq ?_
                refine CW.region ?_
                refine RW.yi (.bool false) rfl rfl (Yi.pv _ rfl) ?_
                refine RW.nil ?_
                refine EW.next ?_
                refine CW.ret ?_
                refine EW.blr ?_
                refine EW.thr ?_
                refine EW.thr ?_
                refine EW.blr ?_
                refine EW.thr ?_
                obtain rfl := Option.some.inj hm
                exact EW.done (rs := [.tmp 4]) rfl (.tmp (t := 4) (v := .bool false) rfl .nil) (fun _ hM => ⟨(), rfl, (hM.pick [] rfl rfl)⟩)
              · replace hm := (if_neg h67).symm.trans hm
                refine CW.cond_false rfl ?_
                refine CW.skip ?_
                refine EW.bln ?_
                refine EW.next ?_
                refine CW.region ?_
                refine RW.yi (.int .i64 v53) rfl rfl (Yi.pv _ rfl) ?_
                refine RW.yi (.int .i64 (w64 (v53 + 1))) rfl rfl (Yi.pv _ rfl) ?_
                refine RW.yi (.int .i64 (w64 (v53 + 1))) rfl rfl (Yi.pv _ rfl) ?_
                refine RW.nil ?_
                refine EW.thn ?_
                exact fun a w hs hM => ⟨r64.2.2.1, r64.2.2.2.1, r64.2.2.2.2, (w64 (v53 + 1)), hs.sub ⟨rfl, rfl, rfl, rfl, rfl, trivial⟩, (hM.pick [2, 3, 4, 0, 1] rfl rfl), hm⟩
            · replace hm := (if_neg h63).symm.trans hm
              refine CW.cond_false rfl ?_
              refine CW.exit ?_
              refine EW.thx ?_
              refine EW.thx ?_
              refine EW.blx ?_
              refine EW.thn ?_
              exact fun a w hs hM => ⟨v49, v50, v51, hs.sub ⟨rfl, rfl, rfl, trivial⟩, (hM.pick [2, 3, 4] rfl rfl), hm⟩
        · rintro a w ⟨v33, v34, v35, hs, hM, hm⟩
          unfold law04_BitsMarks_j1 at hm
          refine CW.enter hs hM ?_
          refine CW.seq ?_
          refine CW.region ?_
          refine RW.yi (.pointer (some ⟨u31.1, 0, none⟩)) rfl rfl (Yi.pv _ rfl) ?_
          obtain ⟨r36, hr36, hm⟩ := of_bind hm
          refine RW.callM (cs := []) [.blk u31.1 67 (#[.int .i64 v33, .int .i64 v34, .int .i64 v35, u31.2]), .row u31.2 5 1 (([] : List Int) ++ ((([] : List Int) ++ r18) ++ ([255, (IntKind.u8.wrap ((w64 ((Int.tmod (w64 (a1)) 254) + 1))))] : List Int))).length (ec eb (([] : List Int) ++ ((([] : List Int) ++ r18) ++ ([255, (IntKind.u8.wrap ((w64 ((Int.tmod (w64 (a1)) 254) + 1))))] : List Int))))] [.row u19 5 1 r18.length (ec eb r18)] [] [1, 2, 0] (fun (_ : Unit) => [.blk u31.1 67 (#[.int .i64 r36.2.2.1, .int .i64 v34, .int .i64 r36.2.2.2, u31.2]), .row u31.2 5 1 (([] : List Int) ++ ((([] : List Int) ++ r18) ++ ([255, (IntKind.u8.wrap ((w64 ((Int.tmod (w64 (a1)) 254) + 1))))] : List Int))).length (ec eb (([] : List Int) ++ ((([] : List Int) ++ r18) ++ ([255, (IntKind.u8.wrap ((w64 ((Int.tmod (w64 (a1)) 254) + 1))))] : List Int))))]) (fun (_ : Unit) => .tuple #[.int .i64 r36.1, .int .i64 r36.2.1]) rfl rfl rfl rfl Try.call19 rfl rfl rfl (fun w hM => lent0) (.inl fun _ => rfl) (fun w S' hM => c_bits_Reader_Marker K v33 v34 v35 (([] : List Int) ++ ((([] : List Int) ++ r18) ++ ([255, (IntKind.u8.wrap ((w64 ((Int.tmod (w64 (a1)) 254) + 1))))] : List Int))) u31.1 u31.2 r36 w S' hM hr36) (fun _ => ?_)
          refine RW.yi (.tuple #[.int .i64 r36.1, .int .i64 r36.2.1]) rfl rfl (Yi.pv _ rfl) ?_
          refine RW.yi (.int .i64 r36.1) rfl rfl (Yi.pv _ rfl) ?_
          refine RW.yi (.int .i64 r36.2.1) rfl rfl (Yi.pv _ rfl) ?_
          refine RW.yi (.int .i64 r36.1) rfl rfl (Yi.pv _ rfl) ?_
          refine RW.yi (.int .i64 r36.2.1) rfl rfl (Yi.pv _ rfl) ?_
          refine RW.nil ?_
          refine EW.next ?_
          refine CW.seq ?_
          refine CW.region ?_
          refine RW.yi (.int .i64 r36.1) rfl rfl (Yi.pv _ rfl) ?_
          refine RW.yi (.int .i64 (w64 ((Int.tmod (w64 (a1)) 254) + 1))) rfl rfl (Yi.pv _ rfl) ?_
          refine RW.yi (.bool (decide (r36.1 = (w64 ((Int.tmod (w64 (a1)) 254) + 1))))) rfl rfl (Yi.pv _ rfl) ?_
          refine RW.yi (.bool (decide (r36.1 = (w64 ((Int.tmod (w64 (a1)) 254) + 1))))) rfl rfl (Yi.pv _ rfl) ?_
          refine RW.fork 96 (r36.1 = (w64 ((Int.tmod (w64 (a1)) 254) + 1))) rfl (fun h39 => ?_) (fun h39 => ?_)
          · replace hm := (if_pos h39).symm.trans hm
            refine RW.yi (.int .i64 r36.2.1) rfl rfl (Yi.pv _ rfl) ?_
            refine RW.yi (.bool (decide (r36.2.1 = 0))) rfl rfl (Yi.pv _ rfl) ?_
            refine RW.yi (.bool (decide (r36.2.1 = 0))) rfl rfl (Yi.pv _ rfl) ?_
            refine RW.yi (.bool (decide (r36.2.1 = 0))) rfl rfl (Yi.pv _ rfl) ?_
            refine RW.fork 100 (r36.2.1 = 0) rfl (fun h40 => ?_) (fun h40 => ?_)
            · replace hm := (if_pos h40).symm.trans hm
              refine RW.yi (.pointer (some ⟨u31.1, 0, none⟩)) rfl rfl (Yi.pv _ rfl) ?_
              obtain ⟨r41, hr41, hm⟩ := of_bind hm
              refine RW.callM (cs := []) [.blk u31.1 67 (#[.int .i64 r36.2.2.1, .int .i64 v34, .int .i64 r36.2.2.2, u31.2]), .row u31.2 5 1 (([] : List Int) ++ ((([] : List Int) ++ r18) ++ ([255, (IntKind.u8.wrap ((w64 ((Int.tmod (w64 (a1)) 254) + 1))))] : List Int))).length (ec eb (([] : List Int) ++ ((([] : List Int) ++ r18) ++ ([255, (IntKind.u8.wrap ((w64 ((Int.tmod (w64 (a1)) 254) + 1))))] : List Int))))] [.row u19 5 1 r18.length (ec eb r18)] [] [0, 1, 2] (fun (_ : Unit) => [.blk u31.1 67 (#[.int .i64 r36.2.2.1, .int .i64 v34, .int .i64 r36.2.2.2, u31.2]), .row u31.2 5 1 (([] : List Int) ++ ((([] : List Int) ++ r18) ++ ([255, (IntKind.u8.wrap ((w64 ((Int.tmod (w64 (a1)) 254) + 1))))] : List Int))).length (ec eb (([] : List Int) ++ ((([] : List Int) ++ r18) ++ ([255, (IntKind.u8.wrap ((w64 ((Int.tmod (w64 (a1)) 254) + 1))))] : List Int))))]) (fun (_ : Unit) => .int .i64 r36.2.2.1) rfl rfl rfl rfl Try.call20 rfl rfl rfl (fun w hM => lent0) (.inl fun _ => rfl) (fun w S' hM => c_bits_Reader_At K r36.2.2.1 v34 r36.2.2.2 (([] : List Int) ++ ((([] : List Int) ++ r18) ++ ([255, (IntKind.u8.wrap ((w64 ((Int.tmod (w64 (a1)) 254) + 1))))] : List Int))) u31.1 u31.2 r41 w S' hM hr41) (fun _ => ?_)
              refine RW.yi (u19) rfl rfl (Yi.pv _ rfl) ?_
              refine RW.yi (.int .i64 (r18.length : Int)) rfl rfl (Yi.lenS (cs := ec eb r18) (m := r18.length) Try.underlying34 rfl (rdW 2 rfl)) ?_
              refine RW.yi (.int .i64 (w64 ((r18.length : Int) + 2))) rfl rfl (Yi.pv _ rfl) ?_
              refine RW.yi (.bool (decide (r36.2.2.1 = (w64 ((r18.length : Int) + 2))))) rfl rfl (Yi.pv _ rfl) ?_
              refine RW.yi (.bool (decide (r36.2.2.1 = (w64 ((r18.length : Int) + 2))))) rfl rfl (Yi.pv _ rfl) ?_
              refine RW.yi (.bool (decide (r36.2.2.1 = (w64 ((r18.length : Int) + 2))))) rfl rfl (Yi.pv _ rfl) ?_
              refine RW.fork 108 (r36.2.2.1 = (w64 ((r18.length : Int) + 2))) rfl (fun h44 => ?_) (fun h44 => ?_)
              · replace hm := (if_pos h44).symm.trans hm
                obtain ⟨r45, hr45, hm⟩ := of_bind hm
                refine RW.ca (.bool r45) rfl rfl (Ca.call (cs := []) [] rfl rfl Try.call10 (fun w hM => lent0) (fun w S' hM => (c_law04_awake K  r45 w S' hM hr45).mono (fun _ _ h => by obtain ⟨_, h1, h2⟩ := h; exact ⟨h1, h2⟩))) ?_
                refine RW.yi (.bool r45) rfl rfl (Yi.pv _ rfl) ?_
                refine RW.yi (.bool r45) rfl rfl (Yi.pv _ rfl) ?_
                refine RW.nil ?_
                refine EW.next ?_
                refine CW.ret ?_
                obtain rfl := Option.some.inj hm
                exact EW.done (rs := [.tmp 4]) rfl (.tmp (t := 4) (v := .bool r45) rfl .nil) (fun _ hM => ⟨(), rfl, (hM.pick [] rfl rfl)⟩)
              · replace hm := (if_neg h44).symm.trans hm
                refine RW.pass rfl rfl ?_
                refine RW.yi (.bool false) rfl rfl (Yi.pv _ rfl) ?_
                refine RW.yi (.bool false) rfl rfl (Yi.pv _ rfl) ?_
                refine RW.nil ?_
                refine EW.next ?_
                refine CW.ret ?_
                obtain rfl := Option.some.inj hm
                exact EW.done (rs := [.tmp 4]) rfl (.tmp (t := 4) (v := .bool false) rfl .nil) (fun _ hM => ⟨(), rfl, (hM.pick [] rfl rfl)⟩)
            · replace hm := (if_neg h40).symm.trans hm
              refine RW.pass rfl rfl ?_
              refine RW.pass rfl rfl ?_
              refine RW.pass rfl rfl ?_
              refine RW.pass rfl rfl ?_
              refine RW.pass rfl rfl ?_
              refine RW.pass rfl rfl ?_
              refine RW.yi (.bool false) rfl rfl (Yi.pv _ rfl) ?_
              refine RW.yi (.bool false) rfl rfl (Yi.pv _ rfl) ?_
              refine RW.pass rfl rfl ?_
              refine RW.yi (.bool false) rfl rfl (Yi.pv _ rfl) ?_
              refine RW.yi (.bool false) rfl rfl (Yi.pv _ rfl) ?_
              refine RW.nil ?_
              refine EW.next ?_
              refine CW.ret ?_
              obtain rfl := Option.some.inj hm
              exact EW.done (rs := [.tmp 4]) rfl (.tmp (t := 4) (v := .bool false) rfl .nil) (fun _ hM => ⟨(), rfl, (hM.pick [] rfl rfl)⟩)
          · replace hm := (if_neg h39).symm.trans hm
            refine RW.pass rfl rfl ?_
            refine RW.pass rfl rfl ?_
            refine RW.yi (.bool false) rfl rfl (Yi.pv _ rfl) ?_
            refine RW.yi (.bool false) rfl rfl (Yi.pv _ rfl) ?_
            refine RW.pass rfl rfl ?_
            refine RW.pass rfl rfl ?_
            refine RW.pass rfl rfl ?_
            refine RW.pass rfl rfl ?_
            refine RW.pass rfl rfl ?_
            refine RW.pass rfl rfl ?_
            refine RW.yi (.bool false) rfl rfl (Yi.pv _ rfl) ?_
            refine RW.yi (.bool false) rfl rfl (Yi.pv _ rfl) ?_
            refine RW.pass rfl rfl ?_
            refine RW.yi (.bool false) rfl rfl (Yi.pv _ rfl) ?_
            refine RW.yi (.bool false) rfl rfl (Yi.pv _ rfl) ?_
            refine RW.nil ?_
            refine EW.next ?_
            refine CW.ret ?_
            obtain rfl := Option.some.inj hm
            exact EW.done (rs := [.tmp 4]) rfl (.tmp (t := 4) (v := .bool false) rfl .nil) (fun _ hM => ⟨(), rfl, (hM.pick [] rfl rfl)⟩)

end Go.Proofs.Ytpfnjmaadghhoaa
