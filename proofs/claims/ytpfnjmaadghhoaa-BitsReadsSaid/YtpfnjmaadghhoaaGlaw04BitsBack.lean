import Derived.Test.YtpfnjmaadghhoaaN7
import Derived.Test.YtpfnjmaadghhoaaProg
import Derived.Test.YtpfnjmaadghhoaaGbitsNewReader
import Derived.Test.YtpfnjmaadghhoaaGbitsNewWriter
import Derived.Test.YtpfnjmaadghhoaaGbitsReaderAt
import Derived.Test.YtpfnjmaadghhoaaGbitsReaderBit
import Derived.Test.YtpfnjmaadghhoaaGbitsReaderGet
import Derived.Test.YtpfnjmaadghhoaaGbitsReaderSkip
import Derived.Test.YtpfnjmaadghhoaaGbitsWriterBytes
import Derived.Test.YtpfnjmaadghhoaaGbitsWriterCount
import Derived.Test.YtpfnjmaadghhoaaGbitsWriterPut
import Derived.Test.YtpfnjmaadghhoaaGlaw04awake
set_option maxRecDepth 100000
set_option maxHeartbeats 1000000
namespace Go.Proofs.Ytpfnjmaadghhoaa
open Go Go.RowKit K

def law04_BitsBack_j1 (K : Nat) (v20 : Int) (v35 : Int) (v37 : Int) (v36 : Int) (r23 : ((List Int))) (v41 : Int) (v42 : Int) (v43 : Int) : Option (Bool) :=
  ((bits_Reader_Bit K v41 v42 v43 (([] : List Int) ++ r23)).bind fun r44 => (if r44.2.1 = 3 then ((bits_Reader_At K r44.2.2.1 r44.2.2.2.1 r44.2.2.2.2 (([] : List Int) ++ r23)).bind fun r48 => (if r44.2.2.1 = (r23.length : Int) then ((bits_Reader_Skip K v35 v36 v37 (([] : List Int) ++ r23)).bind fun r52 => (if v37 = (Int.tmod (w64 (8 - (Int.tmod v20 8))) 8) then ((law04_awake K ).bind fun r56 => some r56) else some false)) else some false)) else some false))

def law04_BitsBack_l1 (K : Nat) (v20 : Int) (v35 : Int) (v37 : Int) (v36 : Int) (r23 : ((List Int))) : Nat → Int → Int → Int → Int →  Option (Bool)
  | 0, _, _, _, _ => none
  | k1 + 1, v59, v60, v61, v63 =>
    (if v63 < (Int.tmod (w64 (8 - (Int.tmod v20 8))) 8) then ((bits_Reader_Bit K v59 v60 v61 (([] : List Int) ++ r23)).bind fun r70 => (if ¬ r70.1 = 1 then some false else (if ¬ r70.2.1 = 0 then some false else (law04_BitsBack_l1 K v20 v35 v37 v36 r23 k1) r70.2.2.1 r70.2.2.2.1 r70.2.2.2.2 (w64 (v63 + 1))))) else law04_BitsBack_j1 K v20 v35 v37 v36 r23 v59 v60 v61)

def law04_BitsBack_j2 (K : Nat) (v16 : (List Int)) (v18 : Int) (v19 : Int) (v20 : Int) (r23 : ((List Int))) (v32 : Int) (v33 : Int) (v34 : Int) (v35 : Int) (v36 : Int) (v37 : Int) : Option (Bool) :=
  ((bits_Writer_Count K v16 v18 v19 v20).bind fun r38 => law04_BitsBack_l1 K v20 v35 v37 v36 r23 K v32 v33 v34 0)

def law04_BitsBack_j3 (_ : Nat) (cb_law04_BitsBack_l2 : Int → Int → Int → Int → Int → Int → Int → Option (Bool)) (v85 : Int) (v96 : Int) (v97 : Int) (v98 : Int) (v99 : Int) (v100 : Int) (v101 : Int) (v102 : Int) (v104 : Bool) : Option (Bool) :=
  cb_law04_BitsBack_l2 v96 v97 v98 v99 v100 v101 (w64 (v85 + 1))

def law04_BitsBack_l3 (K : Nat) (cb_law04_BitsBack_l2 : Int → Int → Int → Int → Int → Int → Int → Option (Bool)) (v21 : (List (Int × Int))) (v85 : Int) (r23 : ((List Int))) (r107 : (Int × Int × Int × Int × Int)) : Nat → Int → Int → Int → Int →  Option (Bool)
  | 0, _, _, _, _ => none
  | k3 + 1, v114, v115, v116, v118 =>
    (if 0 ≤ v118 then ((bits_Reader_Bit K v114 v115 v116 (([] : List Int) ++ r23)).bind fun r125 => (if ¬ r125.2.1 = 0 then some false else (if 0 ≤ v118 then (if ¬ r125.1 = (bitI .and .i64 (shrI .i64 ((v21.getD v85.toNat (0, 0)).1) v118) 1) then some false else (law04_BitsBack_l3 K cb_law04_BitsBack_l2 v21 v85 r23 r107 k3) r125.2.2.1 r125.2.2.2.1 r125.2.2.2.2 (w64 (v118 - 1))) else none))) else law04_BitsBack_j3 K cb_law04_BitsBack_l2 v85 r107.2.2.1 r107.2.2.2.1 r107.2.2.2.2 v114 v115 v116 r107.1 (decide (¬ r107.1 = (v21.getD v85.toNat (0, 0)).1)))

def law04_BitsBack_l2 (K : Nat) (v16 : (List Int)) (v18 : Int) (v19 : Int) (v20 : Int) (v21 : (List (Int × Int))) (r23 : ((List Int))) : Nat → Int → Int → Int → Int → Int → Int → Int →  Option (Bool)
  | 0, _, _, _, _, _, _, _ => none
  | k2 + 1, v77, v78, v79, v81, v82, v83, v85 =>
    (if v85 < (v21.length : Int) then (if 0 ≤ v85 ∧ v85 < (v21.length : Int) then ((bits_Reader_Get K v77 v78 v79 (([] : List Int) ++ r23) ((v21.getD v85.toNat (0, 0)).2)).bind fun r107 => (if ¬ r107.2.1 = 0 then some false else (if ¬ r107.1 = (v21.getD v85.toNat (0, 0)).1 then some false else law04_BitsBack_l3 K (law04_BitsBack_l2 K v16 v18 v19 v20 v21 r23 k2) v21 v85 r23 r107 K v81 v82 v83 (w64 ((v21.getD v85.toNat (0, 0)).2 - 1))))) else none) else law04_BitsBack_j2 K v16 v18 v19 v20 r23 v77 v78 v79 v81 v82 v83)

def law04_BitsBack_j4 (K : Nat) (v16 : (List Int)) (v18 : Int) (v19 : Int) (v20 : Int) (v21 : (List (Int × Int))) : Option (Bool) :=
  ((bits_Writer_Bytes K v16 v18 v19 v20).bind fun r23 => ((bits_NewReader K r23).bind fun r27 => law04_BitsBack_l2 K v16 v18 v19 v20 v21 r23 K 0 0 0 0 0 0 0))

def law04_BitsBack_j5 (_ : Nat) (cb_law04_BitsBack_l4 : (List Int) → Int → Int → Int → (List (Int × Int)) → Int → Option (Bool)) (v142 : Int) (v161 : (List Int)) (v163 : Int) (v164 : Int) (v165 : Int) (v166 : (List (Int × Int))) : Option (Bool) :=
  cb_law04_BitsBack_l4 v161 v163 v164 v165 v166 (w64 (v142 + 1))

def law04_BitsBack_l4 (K : Nat) (a0 : (List (Int × Int))) : Nat → (List Int) → Int → Int → Int → (List (Int × Int)) → Int →  Option (Bool)
  | 0, _, _, _, _, _, _ => none
  | k4 + 1, v134, v136, v137, v138, v140, v142 =>
    (if v142 < (a0.length : Int) then (if 0 ≤ v142 ∧ v142 < (a0.length : Int) then ((bits_Writer_Put K v134 v136 v137 v138 ((a0.getD v142.toNat (0, 0)).1) ((a0.getD v142.toNat (0, 0)).2)).bind fun r170 => (if r170.1 = 0 then (if v140.length + ([((a0.getD v142.toNat (0, 0)).1, (a0.getD v142.toNat (0, 0)).2)] : List (Int × Int)).length ≤ 8796093022208 then law04_BitsBack_j5 K (law04_BitsBack_l4 K a0 k4) v142 r170.2.2.2.2 r170.2.1 r170.2.2.1 r170.2.2.2.1 (v140 ++ ([((a0.getD v142.toNat (0, 0)).1, (a0.getD v142.toNat (0, 0)).2)] : List (Int × Int))) else none) else law04_BitsBack_j5 K (law04_BitsBack_l4 K a0 k4) v142 r170.2.2.2.2 r170.2.1 r170.2.2.1 r170.2.2.2.1 v140)) else none) else law04_BitsBack_j4 K v134 v136 v137 v138 v140)

def law04_BitsBack (K : Nat) (a0 : (List (Int × Int))) : Option (Bool) :=
  (if 60 < (a0.length : Int) then ((law04_awake K ).bind fun r13 => some r13) else ((bits_NewWriter K ).bind fun r14 => law04_BitsBack_l4 K a0 K ([] : List Int) 0 0 0 ([] : List (Int × Int)) 0))

theorem c_law04_BitsBack (K : Nat) (a0 : (List (Int × Int))) (sa0 : Value) (r : Bool) (w0 : World) (S : Own) (hM0 : Mem w0 S [ro sa0 2 a0.length (ec e2 a0)] w0) (hm : law04_BitsBack K a0 = some r) : Calls Try.prog 7 #[sa0] w0 fun e w' => ∃ _u : Unit, e = .returned (.bool r) ∧ Mem w0 S [] w' := by
  unfold law04_BitsBack at hm
  refine calls_CW (n := 139) w0 S [ro sa0 2 a0.length (ec e2 a0)] Try.func7 rfl rfl rfl hM0 ?_
  refine CW.seq ?_
  refine CW.region ?_
  refine RW.yi (.bool false) rfl rfl (Yi.pv _ rfl) ?_
  refine RW.nil ?_
  refine EW.next ?_
  refine CW.seq ?_
  refine CW.seq ?_
  refine CW.region ?_
  refine RW.yi (sa0) rfl rfl (Yi.pv _ rfl) ?_
  refine RW.yi (.int .i64 (a0.length : Int)) rfl rfl (Yi.lenS (cs := ec e2 a0) (m := a0.length) Try.underlying22 rfl (rdF 0 rfl)) ?_
  refine RW.yi (.bool (decide (60 < (a0.length : Int)))) rfl rfl (Yi.pv _ rfl) ?_
  refine RW.nil ?_
  refine EW.next ?_
  refine CW.fork 24 (60 < (a0.length : Int)) rfl (fun h12 => ?_) (fun h12 => ?_)
  · replace hm := (if_pos h12).symm.trans hm
    refine CW.cond_true rfl ?_
    refine CW.seq ?_
    refine CW.region ?_
    obtain ⟨r13, hr13, hm⟩ := of_bind hm
    refine RW.ca (.bool r13) rfl rfl (Ca.call (cs := []) [] rfl rfl Try.call10 (fun w hM => lent0) (fun w S' hM => (c_law04_awake K  r13 w S' hM hr13).mono (fun _ _ h => by obtain ⟨_, h1, h2⟩ := h; exact ⟨h1, h2⟩))) ?_
    refine RW.yi (.bool r13) rfl rfl (Yi.pv _ rfl) ?_
    refine RW.nil ?_
    refine EW.next ?_
    refine CW.ret ?_
    refine EW.thr ?_
    obtain rfl := Option.some.inj hm
    exact EW.done (rs := [.tmp 2]) rfl (.tmp (t := 2) (v := .bool r13) rfl .nil) (fun _ hM => ⟨(), rfl, (hM.pick [] rfl rfl)⟩)
  · replace hm := (if_neg h12).symm.trans hm
    refine CW.cond_false rfl ?_
    refine CW.skip ?_
    refine EW.next ?_
    refine CW.seq ?_
    refine CW.region ?_
    obtain ⟨r14, hr14, hm⟩ := of_bind hm
    refine RW.callM (cs := []) [] [ro sa0 2 a0.length (ec e2 a0)] [] [0] (fun (u15 : Nat) => [.blk u15 60 (#[.slice none 0 0, .int .i64 0, .int .i64 0, .int .i64 0])]) (fun (u15 : Nat) => .pointer (some ⟨u15, 0, none⟩)) rfl rfl rfl rfl Try.call11 rfl rfl rfl (fun w hM => lent0) (.inl fun _ => rfl) (fun w S' hM => c_bits_NewWriter K  r14 w S' hM hr14) (fun u15 => ?_)
    refine RW.yi (.pointer (some ⟨u15, 0, none⟩)) rfl rfl (Yi.pv _ rfl) ?_
    refine RW.nil ?_
    refine EW.next ?_
    refine CW.seq ?_
    refine CW.region ?_
    refine RW.yi (.slice none 0 0) rfl rfl (Yi.pv _ rfl) ?_
    refine RW.nil ?_
    refine EW.next ?_
    refine CW.join (fun a w => ∃ (v16 : (List Int)) (v18 : Int) (v19 : Int) (v20 : Int) (v21 : (List (Int × Int))) (s17 : Value) (s22 : Value), St 139 [(3, .pointer (some ⟨u15, 0, none⟩)), (4, s22)] a ∧ Mem w0 S [.blk u15 60 (#[s17, .int .i64 v18, .int .i64 v19, .int .i64 v20]), .row s17 5 1 v16.length (ec eb v16), .row s22 28 2 v21.length (ec e2 v21)] w ∧ law04_BitsBack_j4 K v16 v18 v19 v20 v21 = some r) ?_ ?_
    · refine CW.seq ?_
      refine CW.region ?_
      refine RW.yi (sa0) rfl rfl (Yi.pv _ rfl) ?_
      refine RW.yi (.int .i64 (a0.length : Int)) rfl rfl (Yi.lenS (cs := ec e2 a0) (m := a0.length) Try.underlying22 rfl (rdF 1 rfl)) ?_
      refine RW.yi (.int .i64 0) rfl rfl (Yi.pv _ rfl) ?_
      refine RW.nil ?_
      refine EW.next ?_
      refine CW.block ?_
      refine CW.loop (fun k a w => ∃ (v134 : (List Int)) (v136 : Int) (v137 : Int) (v138 : Int) (v140 : (List (Int × Int))) (v142 : Int) (s135 : Value) (s141 : Value), St 139 [(3, .pointer (some ⟨u15, 0, none⟩)), (4, s141), (27, sa0), (28, .int .i64 (a0.length : Int)), (29, .int .i64 v142)] a ∧ Mem w0 S [.blk u15 60 (#[s135, .int .i64 v136, .int .i64 v137, .int .i64 v138]), .row s135 5 1 v134.length (ec eb v134), .row s141 28 2 v140.length (ec e2 v140), ro sa0 2 a0.length (ec e2 a0)] w ∧ law04_BitsBack_l4 K a0 k v134 v136 v137 v138 v140 v142 = some r) K ?_ ?_ ?_
      · rintro a w ⟨_, _, _, _, _, _, _, _, _, _, hm⟩
        rw [law04_BitsBack_l4.eq_1] at hm
        cases hm
      · exact fun a w hs hM => ⟨([] : List Int), 0, 0, 0, ([] : List (Int × Int)), 0, (.slice none 0 0), (.slice none 0 0), hs.sub ⟨rfl, rfl, rfl, rfl, rfl, trivial⟩, (((hM.nilRow 5 1).nilRow 28 2).pick [2, 1, 0, 3] rfl rfl), hm⟩
      · rintro k4 a w ⟨v134, v136, v137, v138, v140, v142, s135, s141, hs, hM, hm⟩
        rw [law04_BitsBack_l4.eq_2] at hm
        refine CW.enter hs hM ?_
        refine CW.seq ?_
        refine CW.region ?_
        refine RW.yi (.bool (decide (v142 < (a0.length : Int)))) rfl rfl (Yi.pv _ rfl) ?_
        refine RW.nil ?_
        refine EW.next ?_
        refine CW.seq ?_
        refine CW.fork 30 (v142 < (a0.length : Int)) rfl (fun h153 => ?_) (fun h153 => ?_)
        · replace hm := (if_pos h153).symm.trans hm
          refine CW.cond_true rfl ?_
          refine CW.skip ?_
          refine EW.next ?_
          refine CW.join (fun a w => ∃ (v161 : (List Int)) (v163 : Int) (v164 : Int) (v165 : Int) (v166 : (List (Int × Int))) (s162 : Value) (s167 : Value), St 139 [(3, .pointer (some ⟨u15, 0, none⟩)), (4, s167), (27, sa0), (28, .int .i64 (a0.length : Int)), (29, .int .i64 v142)] a ∧ Mem w0 S [.blk u15 60 (#[s162, .int .i64 v163, .int .i64 v164, .int .i64 v165]), .row s162 5 1 v161.length (ec eb v161), .row s167 28 2 v166.length (ec e2 v166), ro sa0 2 a0.length (ec e2 a0)] w ∧ law04_BitsBack_j5 K (law04_BitsBack_l4 K a0 k4) v142 v161 v163 v164 v165 v166 = some r) ?_ ?_
          · refine CW.block ?_
            refine CW.seq ?_
            refine CW.region ?_
            obtain ⟨g168, hm⟩ := of_guard hm
            refine RW.yi (.pointer (some (eaddr sa0 2 v142.toNat 0))) rfl rfl (Yi.idxS (m := a0.length) Try.underlying22 Try.sizeOf28 rfl rfl (rdF 3 rfl) g168.1 g168.2) ?_
            refine RW.yi (.agg #[.int .i64 ((a0.getD v142.toNat (0, 0)).1), .int .i64 ((a0.getD v142.toNat (0, 0)).2)]) rfl rfl (Yi.loadSA (m := a0.length) (cs := ec e2 a0) _ rfl (rdF 3 rfl) Try.isAgg28 Try.sizeOf28 (by omega) (by rw [ec_elem e2_is (0, 0) (by omega)]; rfl)) ?_
            refine RW.alloc (z := .agg #[.int .i64 0, .int .i64 0]) (#[.int .i64 0, .int .i64 0]) rfl rfl (fun _ => by kernel_rfl) rfl (fun b169 => ?_)
            refine RW.storeW (i := 0) (cs' := #[.int .i64 ((a0.getD v142.toNat (0, 0)).1), .int .i64 ((a0.getD v142.toNat (0, 0)).2)]) rfl rfl rfl rfl (by kernel_rfl) rfl (by kernel_rfl) ?_
            refine RW.nil ?_
            refine EW.next ?_
            refine CW.seq ?_
            refine CW.region ?_
            refine RW.yi (.pointer (some ⟨u15, 0, none⟩)) rfl rfl (Yi.pv _ rfl) ?_
            refine RW.yi (.pointer (some ⟨b169, 0, none⟩)) rfl rfl (Yi.fieldAddr (j := 0) Try.underlying28 rfl Try.sizeOf3 rfl) ?_
            refine RW.yi (.int .i64 ((a0.getD v142.toNat (0, 0)).1)) rfl rfl (Yi.load1 (i := 0) _ rfl rfl Try.isAgg3 rfl) ?_
            refine RW.yi (.pointer (some ⟨b169, 1, none⟩)) rfl rfl (Yi.fieldAddr (j := 1) Try.underlying28 rfl Try.sizeOf3 rfl) ?_
            refine RW.yi (.int .i64 ((a0.getD v142.toNat (0, 0)).2)) rfl rfl (Yi.load1 (i := 0) _ rfl rfl Try.isAgg3 rfl) ?_
            obtain ⟨r170, hr170, hm⟩ := of_bind hm
            refine RW.callM (cs := []) [.blk u15 60 (#[s135, .int .i64 v136, .int .i64 v137, .int .i64 v138]), .row s135 5 1 v134.length (ec eb v134)] [.blk b169 28 (#[.int .i64 ((a0.getD v142.toNat (0, 0)).1), .int .i64 ((a0.getD v142.toNat (0, 0)).2)]), .row s141 28 2 v140.length (ec e2 v140), ro sa0 2 a0.length (ec e2 a0)] [] [1, 2, 0, 3, 4] (fun (u171 : Value) => [.blk u15 60 (#[u171, .int .i64 r170.2.1, .int .i64 r170.2.2.1, .int .i64 r170.2.2.2.1]), .row u171 5 1 r170.2.2.2.2.length (ec eb r170.2.2.2.2)]) (fun (u171 : Value) => .int .i64 r170.1) rfl rfl rfl rfl Try.call13 rfl rfl rfl (fun w hM => lent0) (.inl fun _ => rfl) (fun w S' hM => c_bits_Writer_Put K v134 v136 v137 v138 ((a0.getD v142.toNat (0, 0)).1) ((a0.getD v142.toNat (0, 0)).2) u15 s135 r170 w S' hM hr170) (fun u171 => ?_)
            refine RW.yi (.bool (decide (r170.1 = 0))) rfl rfl (Yi.pv _ rfl) ?_
            refine RW.nil ?_
            refine EW.next ?_
            refine CW.fork 39 (r170.1 = 0) rfl (fun h173 => ?_) (fun h173 => ?_)
            · replace hm := (if_pos h173).symm.trans hm
              refine CW.cond_true rfl ?_
              refine CW.region ?_
              refine RW.yi (s141) rfl rfl (Yi.pv _ rfl) ?_
              refine RW.yi (.agg #[.int .i64 ((a0.getD v142.toNat (0, 0)).1), .int .i64 ((a0.getD v142.toNat (0, 0)).2)]) rfl rfl (Yi.loadW (i := 2) rfl rfl Try.isAgg28 Try.sizeOf28) ?_
              refine RW.buildS (e := 28) (sz := 2) (vs := [.agg #[.int .i64 ((a0.getD v142.toNat (0, 0)).1), .int .i64 ((a0.getD v142.toNat (0, 0)).2)]]) ((ec e2 ([((a0.getD v142.toNat (0, 0)).1, (a0.getD v142.toNat (0, 0)).2)] : List (Int × Int))).toArray) rfl rfl rfl rfl rfl (by decide) (fun _ => by kernel_rfl) (fun s174 => ?_)
              obtain ⟨g176, hm⟩ := of_guard hm
              refine RW.app (i := 4) (e := 28) (sz := 2) (by_ := 16) (z := .agg #[.int .i64 0, .int .i64 0]) (m := v140.length) (mx := ([((a0.getD v142.toNat (0, 0)).1, (a0.getD v142.toNat (0, 0)).2)] : List (Int × Int)).length) (m' := (v140 ++ ([((a0.getD v142.toNat (0, 0)).1, (a0.getD v142.toNat (0, 0)).2)] : List (Int × Int))).length) (cs := ec e2 v140) (news := ec e2 ([((a0.getD v142.toNat (0, 0)).1, (a0.getD v142.toNat (0, 0)).2)] : List (Int × Int))) (cs' := ec e2 (v140 ++ ([((a0.getD v142.toNat (0, 0)).1, (a0.getD v142.toNat (0, 0)).2)] : List (Int × Int)))) rfl rfl Try.underlying22 (by kernel_rfl) rfl (by decide) (by decide) rfl rfl rfl (rdW 0 rfl) (ec_one e2_is _) (by omega) (ec_append _ _ _) (by simp only [List.length_append]) (fun s177 => ?_)
              refine RW.yi (s177) rfl rfl (Yi.pv _ rfl) ?_
              refine RW.nil ?_
              refine EW.bln ?_
              refine EW.thn ?_
              exact fun a w hs hM => ⟨r170.2.2.2.2, r170.2.1, r170.2.2.1, r170.2.2.2.1, (v140 ++ ([((a0.getD v142.toNat (0, 0)).1, (a0.getD v142.toNat (0, 0)).2)] : List (Int × Int))), u171, s177, hs.sub ⟨rfl, rfl, rfl, rfl, rfl, trivial⟩, (hM.pick [1, 2, 4, 5] rfl rfl), hm⟩
            · replace hm := (if_neg h173).symm.trans hm
              refine CW.cond_false rfl ?_
              refine CW.skip ?_
              refine EW.bln ?_
              refine EW.thn ?_
              exact fun a w hs hM => ⟨r170.2.2.2.2, r170.2.1, r170.2.2.1, r170.2.2.2.1, v140, u171, s141, hs.sub ⟨rfl, rfl, rfl, rfl, rfl, trivial⟩, (hM.pick [0, 1, 3, 4] rfl rfl), hm⟩
          · rintro a w ⟨v161, v163, v164, v165, v166, s162, s167, hs, hM, hm⟩
            unfold law04_BitsBack_j5 at hm
            refine CW.enter hs hM ?_
            refine CW.region ?_
            refine RW.yi (.int .i64 (w64 (v142 + 1))) rfl rfl (Yi.pv _ rfl) ?_
            refine RW.yi (.int .i64 (w64 (v142 + 1))) rfl rfl (Yi.pv _ rfl) ?_
            refine RW.nil ?_
            refine EW.thn ?_
            exact fun a w hs hM => ⟨v161, v163, v164, v165, v166, (w64 (v142 + 1)), s162, s167, hs.sub ⟨rfl, rfl, rfl, rfl, rfl, trivial⟩, (hM.pick [0, 1, 2, 3] rfl rfl), hm⟩
        · replace hm := (if_neg h153).symm.trans hm
          refine CW.cond_false rfl ?_
          refine CW.exit ?_
          refine EW.thx ?_
          refine EW.thx ?_
          refine EW.blx ?_
          refine EW.thn ?_
          exact fun a w hs hM => ⟨v134, v136, v137, v138, v140, s135, s141, hs.sub ⟨rfl, rfl, trivial⟩, (hM.pick [0, 1, 2] rfl rfl), hm⟩
    · rintro a w ⟨v16, v18, v19, v20, v21, s17, s22, hs, hM, hm⟩
      unfold law04_BitsBack_j4 at hm
      refine CW.enter hs hM ?_
      refine CW.seq ?_
      refine CW.region ?_
      refine RW.yi (.pointer (some ⟨u15, 0, none⟩)) rfl rfl (Yi.pv _ rfl) ?_
      obtain ⟨r23, hr23, hm⟩ := of_bind hm
      refine RW.callM (cs := []) [.blk u15 60 (#[s17, .int .i64 v18, .int .i64 v19, .int .i64 v20]), .row s17 5 1 v16.length (ec eb v16)] [.row s22 28 2 v21.length (ec e2 v21)] [] [0, 1, 2] (fun (u24 : Value) => [.row u24 5 1 r23.length (ec eb r23), .blk u15 60 (#[s17, .int .i64 v18, .int .i64 v19, .int .i64 v20]), .row s17 5 1 v16.length (ec eb v16)]) (fun (u24 : Value) => u24) rfl rfl rfl rfl Try.call15 rfl rfl rfl (fun w hM => lent0) (.inl fun _ => rfl) (fun w S' hM => c_bits_Writer_Bytes K v16 v18 v19 v20 u15 s17 r23 w S' hM hr23) (fun u24 => ?_)
      refine RW.yi (u24) rfl rfl (Yi.pv _ rfl) ?_
      refine RW.nil ?_
      refine EW.next ?_
      refine CW.seq ?_
      refine CW.region ?_
      refine RW.yi (u24) rfl rfl (Yi.pv _ rfl) ?_
      obtain ⟨r27, hr27, hm⟩ := of_bind hm
      refine RW.callM (cs := []) [] [.row u24 5 1 r23.length (ec eb r23), .blk u15 60 (#[s17, .int .i64 v18, .int .i64 v19, .int .i64 v20]), .row s17 5 1 v16.length (ec eb v16), .row s22 28 2 v21.length (ec e2 v21)] [ro u24 1 r23.length (ec eb r23)] [0, 1, 2, 3] (fun (u28 : Nat × Value) => [.blk u28.1 67 (#[.int .i64 0, .int .i64 0, .int .i64 0, u28.2]), .row u28.2 5 1 (([] : List Int) ++ r23).length (ec eb (([] : List Int) ++ r23))]) (fun (u28 : Nat × Value) => .pointer (some ⟨u28.1, 0, none⟩)) rfl rfl rfl rfl Try.call17 rfl rfl rfl (fun w hM => lentW (A := []) hM 0 rfl (lent0)) (.inl fun _ => rfl) (fun w S' hM => c_bits_NewReader K r23 u24 r27 w S' hM hr27) (fun u28 => ?_)
      refine RW.yi (u24) rfl rfl (Yi.pv _ rfl) ?_
      refine RW.callM (cs := []) [] [.blk u28.1 67 (#[.int .i64 0, .int .i64 0, .int .i64 0, u28.2]), .row u28.2 5 1 (([] : List Int) ++ r23).length (ec eb (([] : List Int) ++ r23)), .row u24 5 1 r23.length (ec eb r23), .blk u15 60 (#[s17, .int .i64 v18, .int .i64 v19, .int .i64 v20]), .row s17 5 1 v16.length (ec eb v16), .row s22 28 2 v21.length (ec e2 v21)] [ro u24 1 r23.length (ec eb r23)] [0, 1, 2, 3, 4, 5] (fun (u30 : Nat × Value) => [.blk u30.1 67 (#[.int .i64 0, .int .i64 0, .int .i64 0, u30.2]), .row u30.2 5 1 (([] : List Int) ++ r23).length (ec eb (([] : List Int) ++ r23))]) (fun (u30 : Nat × Value) => .pointer (some ⟨u30.1, 0, none⟩)) rfl rfl rfl rfl Try.call17 rfl rfl rfl (fun w hM => lentW (A := []) hM 2 rfl (lent0)) (.inl fun _ => rfl) (fun w S' hM => c_bits_NewReader K r23 u24 r27 w S' hM hr27) (fun u30 => ?_)
      refine RW.yi (.pointer (some ⟨u28.1, 0, none⟩)) rfl rfl (Yi.pv _ rfl) ?_
      refine RW.yi (.pointer (some ⟨u30.1, 0, none⟩)) rfl rfl (Yi.pv _ rfl) ?_
      refine RW.nil ?_
      refine EW.next ?_
      refine CW.join (fun a w => ∃ (v32 : Int) (v33 : Int) (v34 : Int) (v35 : Int) (v36 : Int) (v37 : Int), St 139 [(3, .pointer (some ⟨u15, 0, none⟩)), (7, u24), (8, .pointer (some ⟨u28.1, 0, none⟩)), (9, .pointer (some ⟨u30.1, 0, none⟩))] a ∧ Mem w0 S [.blk u15 60 (#[s17, .int .i64 v18, .int .i64 v19, .int .i64 v20]), .row s17 5 1 v16.length (ec eb v16), .row u24 5 1 r23.length (ec eb r23), .blk u28.1 67 (#[.int .i64 v32, .int .i64 v33, .int .i64 v34, u28.2]), .row u28.2 5 1 (([] : List Int) ++ r23).length (ec eb (([] : List Int) ++ r23)), .blk u30.1 67 (#[.int .i64 v35, .int .i64 v36, .int .i64 v37, u30.2]), .row u30.2 5 1 (([] : List Int) ++ r23).length (ec eb (([] : List Int) ++ r23))] w ∧ law04_BitsBack_j2 K v16 v18 v19 v20 r23 v32 v33 v34 v35 v36 v37 = some r) ?_ ?_
      · refine CW.seq ?_
        refine CW.region ?_
        refine RW.yi (s22) rfl rfl (Yi.pv _ rfl) ?_
        refine RW.yi (.int .i64 (v21.length : Int)) rfl rfl (Yi.lenS (cs := ec e2 v21) (m := v21.length) Try.underlying22 rfl (rdW 7 rfl)) ?_
        refine RW.yi (.int .i64 0) rfl rfl (Yi.pv _ rfl) ?_
        refine RW.nil ?_
        refine EW.next ?_
        refine CW.block ?_
        refine CW.loop (fun k a w => ∃ (v77 : Int) (v78 : Int) (v79 : Int) (v81 : Int) (v82 : Int) (v83 : Int) (v85 : Int), St 139 [(3, .pointer (some ⟨u15, 0, none⟩)), (7, u24), (8, .pointer (some ⟨u28.1, 0, none⟩)), (9, .pointer (some ⟨u30.1, 0, none⟩)), (51, s22), (52, .int .i64 (v21.length : Int)), (53, .int .i64 v85)] a ∧ Mem w0 S [.blk u15 60 (#[s17, .int .i64 v18, .int .i64 v19, .int .i64 v20]), .row s17 5 1 v16.length (ec eb v16), .row u24 5 1 r23.length (ec eb r23), .blk u28.1 67 (#[.int .i64 v77, .int .i64 v78, .int .i64 v79, u28.2]), .row u28.2 5 1 (([] : List Int) ++ r23).length (ec eb (([] : List Int) ++ r23)), .blk u30.1 67 (#[.int .i64 v81, .int .i64 v82, .int .i64 v83, u30.2]), .row u30.2 5 1 (([] : List Int) ++ r23).length (ec eb (([] : List Int) ++ r23)), .row s22 28 2 v21.length (ec e2 v21)] w ∧ law04_BitsBack_l2 K v16 v18 v19 v20 v21 r23 k v77 v78 v79 v81 v82 v83 v85 = some r) K ?_ ?_ ?_
        · rintro a w ⟨_, _, _, _, _, _, _, _, _, hm⟩
          rw [law04_BitsBack_l2.eq_1] at hm
          cases hm
        · exact fun a w hs hM => ⟨0, 0, 0, 0, 0, 0, 0, hs.sub ⟨rfl, rfl, rfl, rfl, rfl, rfl, rfl, trivial⟩, (hM.pick [5, 6, 4, 2, 3, 0, 1, 7] rfl rfl), hm⟩
        · rintro k2 a w ⟨v77, v78, v79, v81, v82, v83, v85, hs, hM, hm⟩
          rw [law04_BitsBack_l2.eq_2] at hm
          refine CW.enter hs hM ?_
          refine CW.seq ?_
          refine CW.region ?_
          refine RW.yi (.bool (decide (v85 < (v21.length : Int)))) rfl rfl (Yi.pv _ rfl) ?_
          refine RW.nil ?_
          refine EW.next ?_
          refine CW.seq ?_
          refine CW.fork 54 (v85 < (v21.length : Int)) rfl (fun h95 => ?_) (fun h95 => ?_)
          · replace hm := (if_pos h95).symm.trans hm
            refine CW.cond_true rfl ?_
            refine CW.skip ?_
            refine EW.next ?_
            refine CW.join (fun a w => ∃ (v96 : Int) (v97 : Int) (v98 : Int) (v99 : Int) (v100 : Int) (v101 : Int) (v102 : Int) (v104 : Bool) (s103 : Nat), St 139 [(3, .pointer (some ⟨u15, 0, none⟩)), (7, u24), (8, .pointer (some ⟨u28.1, 0, none⟩)), (9, .pointer (some ⟨u30.1, 0, none⟩)), (51, s22), (52, .int .i64 (v21.length : Int)), (53, .int .i64 v85), (67, .int .i64 v102), (68, .pointer (some ⟨s103, 0, none⟩)), (69, .int .i64 ((v21.getD v85.toNat (0, 0)).1)), (70, .bool v104)] a ∧ Mem w0 S [.blk u15 60 (#[s17, .int .i64 v18, .int .i64 v19, .int .i64 v20]), .row s17 5 1 v16.length (ec eb v16), .row u24 5 1 r23.length (ec eb r23), .blk u28.1 67 (#[.int .i64 v96, .int .i64 v97, .int .i64 v98, u28.2]), .row u28.2 5 1 (([] : List Int) ++ r23).length (ec eb (([] : List Int) ++ r23)), .blk u30.1 67 (#[.int .i64 v99, .int .i64 v100, .int .i64 v101, u30.2]), .row u30.2 5 1 (([] : List Int) ++ r23).length (ec eb (([] : List Int) ++ r23)), .row s22 28 2 v21.length (ec e2 v21), .blk s103 28 (#[.int .i64 ((v21.getD v85.toNat (0, 0)).1), .int .i64 ((v21.getD v85.toNat (0, 0)).2)])] w ∧ law04_BitsBack_j3 K (law04_BitsBack_l2 K v16 v18 v19 v20 v21 r23 k2) v85 v96 v97 v98 v99 v100 v101 v102 v104 = some r) ?_ ?_
            · refine CW.block ?_
              refine CW.seq ?_
              refine CW.region ?_
              obtain ⟨g105, hm⟩ := of_guard hm
              refine RW.yi (.pointer (some (eaddr s22 2 v85.toNat 0))) rfl rfl (Yi.idxS (m := v21.length) Try.underlying22 Try.sizeOf28 rfl rfl (rdW 7 rfl) g105.1 g105.2) ?_
              refine RW.yi (.agg #[.int .i64 ((v21.getD v85.toNat (0, 0)).1), .int .i64 ((v21.getD v85.toNat (0, 0)).2)]) rfl rfl (Yi.loadSA (m := v21.length) (cs := ec e2 v21) _ rfl (rdW 7 rfl) Try.isAgg28 Try.sizeOf28 (by omega) (by rw [ec_elem e2_is (0, 0) (by omega)]; rfl)) ?_
              refine RW.alloc (z := .agg #[.int .i64 0, .int .i64 0]) (#[.int .i64 0, .int .i64 0]) rfl rfl (fun _ => by kernel_rfl) rfl (fun b106 => ?_)
              refine RW.storeW (i := 0) (cs' := #[.int .i64 ((v21.getD v85.toNat (0, 0)).1), .int .i64 ((v21.getD v85.toNat (0, 0)).2)]) rfl rfl rfl rfl (by kernel_rfl) rfl (by kernel_rfl) ?_
              refine RW.nil ?_
              refine EW.next ?_
              refine CW.seq ?_
              refine CW.region ?_
              refine RW.yi (.pointer (some ⟨u28.1, 0, none⟩)) rfl rfl (Yi.pv _ rfl) ?_
              refine RW.yi (.pointer (some ⟨b106, 1, none⟩)) rfl rfl (Yi.fieldAddr (j := 1) Try.underlying28 rfl Try.sizeOf3 rfl) ?_
              refine RW.yi (.int .i64 ((v21.getD v85.toNat (0, 0)).2)) rfl rfl (Yi.load1 (i := 0) _ rfl rfl Try.isAgg3 rfl) ?_
              obtain ⟨r107, hr107, hm⟩ := of_bind hm
              refine RW.callM (cs := []) [.blk u28.1 67 (#[.int .i64 v77, .int .i64 v78, .int .i64 v79, u28.2]), .row u28.2 5 1 (([] : List Int) ++ r23).length (ec eb (([] : List Int) ++ r23))] [.blk b106 28 (#[.int .i64 ((v21.getD v85.toNat (0, 0)).1), .int .i64 ((v21.getD v85.toNat (0, 0)).2)]), .blk u15 60 (#[s17, .int .i64 v18, .int .i64 v19, .int .i64 v20]), .row s17 5 1 v16.length (ec eb v16), .row u24 5 1 r23.length (ec eb r23), .blk u30.1 67 (#[.int .i64 v81, .int .i64 v82, .int .i64 v83, u30.2]), .row u30.2 5 1 (([] : List Int) ++ r23).length (ec eb (([] : List Int) ++ r23)), .row s22 28 2 v21.length (ec e2 v21)] [] [4, 5, 0, 1, 2, 3, 6, 7, 8] (fun (_ : Unit) => [.blk u28.1 67 (#[.int .i64 r107.2.2.1, .int .i64 r107.2.2.2.1, .int .i64 r107.2.2.2.2, u28.2]), .row u28.2 5 1 (([] : List Int) ++ r23).length (ec eb (([] : List Int) ++ r23))]) (fun (_ : Unit) => .tuple #[.int .i64 r107.1, .int .i64 r107.2.1]) rfl rfl rfl rfl Try.call21 rfl rfl rfl (fun w hM => lent0) (.inl fun _ => rfl) (fun w S' hM => c_bits_Reader_Get K v77 v78 v79 (([] : List Int) ++ r23) ((v21.getD v85.toNat (0, 0)).2) u28.1 u28.2 r107 w S' hM hr107) (fun _ => ?_)
              refine RW.yi (.tuple #[.int .i64 r107.1, .int .i64 r107.2.1]) rfl rfl (Yi.pv _ rfl) ?_
              refine RW.yi (.int .i64 r107.1) rfl rfl (Yi.pv _ rfl) ?_
              refine RW.yi (.int .i64 r107.2.1) rfl rfl (Yi.pv _ rfl) ?_
              refine RW.yi (.int .i64 r107.1) rfl rfl (Yi.pv _ rfl) ?_
              refine RW.yi (.int .i64 r107.2.1) rfl rfl (Yi.pv _ rfl) ?_
              refine RW.nil ?_
              refine EW.next ?_
              refine CW.seq ?_
              refine CW.seq ?_
              refine CW.region ?_
              refine RW.yi (.int .i64 r107.2.1) rfl rfl (Yi.pv _ rfl) ?_
              refine RW.yi (.bool (decide (¬ r107.2.1 = 0))) rfl rfl (Yi.pv _ rfl) ?_
              refine RW.yi (.bool (decide (¬ r107.2.1 = 0))) rfl rfl (Yi.pv _ rfl) ?_
              refine RW.fork 66 (¬ r107.2.1 = 0) rfl (fun h110 => ?_) (fun h110 => ?_)
              · replace hm := (if_pos h110).symm.trans hm
                refine RW.pass rfl rfl ?_
                refine RW.pass rfl rfl ?_
                refine RW.pass rfl rfl ?_
                refine RW.pass rfl rfl ?_
                refine RW.yi (.bool true) rfl rfl (Yi.pv _ rfl) ?_
                refine RW.nil ?_
                refine EW.next ?_
                refine CW.cond_true rfl ?_
                refine CW.seq ?_
                refine CW.region ?_
                refine RW.yi (.bool false) rfl rfl (Yi.pv _ rfl) ?_
                refine RW.nil ?_
                refine EW.next ?_
                refine CW.ret ?_
                refine EW.thr ?_
                refine EW.blr ?_
                refine EW.thr ?_
                refine EW.thr ?_
                refine EW.blr ?_
                refine EW.thr ?_
                obtain rfl := Option.some.inj hm
                exact EW.done (rs := [.tmp 2]) rfl (.tmp (t := 2) (v := .bool false) rfl .nil) (fun _ hM => ⟨(), rfl, (hM.pick [] rfl rfl)⟩)
              · replace hm := (if_neg h110).symm.trans hm
                refine RW.yi (.int .i64 r107.1) rfl rfl (Yi.pv _ rfl) ?_
                refine RW.yi (.pointer (some ⟨b106, 0, none⟩)) rfl rfl (Yi.fieldAddr (j := 0) Try.underlying28 rfl Try.sizeOf3 rfl) ?_
                refine RW.yi (.int .i64 ((v21.getD v85.toNat (0, 0)).1)) rfl rfl (Yi.load1 (i := 2) _ rfl rfl Try.isAgg3 rfl) ?_
                refine RW.yi (.bool (decide (¬ r107.1 = (v21.getD v85.toNat (0, 0)).1))) rfl rfl (Yi.pv _ rfl) ?_
                refine RW.yi (.bool (decide (¬ r107.1 = (v21.getD v85.toNat (0, 0)).1))) rfl rfl (Yi.pv _ rfl) ?_
                refine RW.nil ?_
                refine EW.next ?_
                refine CW.fork 71 (¬ r107.1 = (v21.getD v85.toNat (0, 0)).1) rfl (fun h111 => ?_) (fun h111 => ?_)
                · replace hm := (if_pos h111).symm.trans hm
                  refine CW.cond_true rfl ?_
                  refine CW.seq ?_
                  refine CW.region ?_
                  refine RW.yi (.bool false) rfl rfl (Yi.pv _ rfl) ?_
                  refine RW.nil ?_
                  refine EW.next ?_
                  refine CW.ret ?_
                  refine EW.thr ?_
                  refine EW.blr ?_
                  refine EW.thr ?_
                  refine EW.thr ?_
                  refine EW.blr ?_
                  refine EW.thr ?_
                  obtain rfl := Option.some.inj hm
                  exact EW.done (rs := [.tmp 2]) rfl (.tmp (t := 2) (v := .bool false) rfl .nil) (fun _ hM => ⟨(), rfl, (hM.pick [] rfl rfl)⟩)
                · replace hm := (if_neg h111).symm.trans hm
                  refine CW.cond_false rfl ?_
                  refine CW.skip ?_
                  refine EW.next ?_
                  refine CW.seq ?_
                  refine CW.region ?_
                  refine RW.yi (.pointer (some ⟨b106, 1, none⟩)) rfl rfl (Yi.fieldAddr (j := 1) Try.underlying28 rfl Try.sizeOf3 rfl) ?_
                  refine RW.yi (.int .i64 ((v21.getD v85.toNat (0, 0)).2)) rfl rfl (Yi.load1 (i := 2) _ rfl rfl Try.isAgg3 rfl) ?_
                  refine RW.yi (.int .i64 (w64 ((v21.getD v85.toNat (0, 0)).2 - 1))) rfl rfl (Yi.pv _ rfl) ?_
                  refine RW.yi (.int .i64 (w64 ((v21.getD v85.toNat (0, 0)).2 - 1))) rfl rfl (Yi.pv _ rfl) ?_
                  refine RW.nil ?_
                  refine EW.next ?_
                  refine CW.block ?_
                  refine CW.loop (fun k a w => ∃ (v114 : Int) (v115 : Int) (v116 : Int) (v118 : Int), St 139 [(3, .pointer (some ⟨u15, 0, none⟩)), (7, u24), (8, .pointer (some ⟨u28.1, 0, none⟩)), (9, .pointer (some ⟨u30.1, 0, none⟩)), (11, .pointer (some ⟨b106, 0, none⟩)), (14, .int .i64 v118), (51, s22), (52, .int .i64 (v21.length : Int)), (53, .int .i64 v85), (67, .int .i64 r107.1), (68, .pointer (some ⟨b106, 0, none⟩)), (69, .int .i64 ((v21.getD v85.toNat (0, 0)).1)), (70, .bool (decide (¬ r107.1 = (v21.getD v85.toNat (0, 0)).1)))] a ∧ Mem w0 S [.blk u15 60 (#[s17, .int .i64 v18, .int .i64 v19, .int .i64 v20]), .row s17 5 1 v16.length (ec eb v16), .row u24 5 1 r23.length (ec eb r23), .blk u28.1 67 (#[.int .i64 r107.2.2.1, .int .i64 r107.2.2.2.1, .int .i64 r107.2.2.2.2, u28.2]), .row u28.2 5 1 (([] : List Int) ++ r23).length (ec eb (([] : List Int) ++ r23)), .blk u30.1 67 (#[.int .i64 v114, .int .i64 v115, .int .i64 v116, u30.2]), .row u30.2 5 1 (([] : List Int) ++ r23).length (ec eb (([] : List Int) ++ r23)), .blk b106 28 (#[.int .i64 ((v21.getD v85.toNat (0, 0)).1), .int .i64 ((v21.getD v85.toNat (0, 0)).2)]), .row s22 28 2 v21.length (ec e2 v21)] w ∧ law04_BitsBack_l3 K (law04_BitsBack_l2 K v16 v18 v19 v20 v21 r23 k2) v21 v85 r23 r107 k v114 v115 v116 v118 = some r) K ?_ ?_ ?_
                  · rintro a w ⟨_, _, _, _, _, _, hm⟩
                    rw [law04_BitsBack_l3.eq_1] at hm
                    cases hm
                  · exact fun a w hs hM => ⟨v81, v82, v83, (w64 ((v21.getD v85.toNat (0, 0)).2 - 1)), hs.sub ⟨rfl, rfl, rfl, rfl, rfl, rfl, rfl, rfl, rfl, rfl, rfl, rfl, rfl, trivial⟩, (hM.pick [3, 4, 5, 0, 1, 6, 7, 2, 8] rfl rfl), hm⟩
                  · rintro k3 a w ⟨v114, v115, v116, v118, hs, hM, hm⟩
                    rw [law04_BitsBack_l3.eq_2] at hm
                    refine CW.enter hs hM ?_
                    refine CW.seq ?_
                    refine CW.seq ?_
                    refine CW.region ?_
                    refine RW.yi (.int .i64 v118) rfl rfl (Yi.pv _ rfl) ?_
                    refine RW.yi (.bool (decide (0 ≤ v118))) rfl rfl (Yi.pv _ rfl) ?_
                    refine RW.nil ?_
                    refine EW.next ?_
                    refine CW.fork 76 (0 ≤ v118) rfl (fun h124 => ?_) (fun h124 => ?_)
                    · replace hm := (if_pos h124).symm.trans hm
                      refine CW.cond_true rfl ?_
                      refine CW.skip ?_
                      refine EW.next ?_
                      refine CW.seq ?_
                      refine CW.block ?_
                      refine CW.seq ?_
                      refine CW.region ?_
                      refine RW.yi (.pointer (some ⟨u30.1, 0, none⟩)) rfl rfl (Yi.pv _ rfl) ?_
                      obtain ⟨r125, hr125, hm⟩ := of_bind hm
                      refine RW.callM (cs := []) [.blk u30.1 67 (#[.int .i64 v114, .int .i64 v115, .int .i64 v116, u30.2]), .row u30.2 5 1 (([] : List Int) ++ r23).length (ec eb (([] : List Int) ++ r23))] [.blk u15 60 (#[s17, .int .i64 v18, .int .i64 v19, .int .i64 v20]), .row s17 5 1 v16.length (ec eb v16), .row u24 5 1 r23.length (ec eb r23), .blk u28.1 67 (#[.int .i64 r107.2.2.1, .int .i64 r107.2.2.2.1, .int .i64 r107.2.2.2.2, u28.2]), .row u28.2 5 1 (([] : List Int) ++ r23).length (ec eb (([] : List Int) ++ r23)), .blk b106 28 (#[.int .i64 ((v21.getD v85.toNat (0, 0)).1), .int .i64 ((v21.getD v85.toNat (0, 0)).2)]), .row s22 28 2 v21.length (ec e2 v21)] [] [5, 6, 0, 1, 2, 3, 4, 7, 8] (fun (_ : Unit) => [.blk u30.1 67 (#[.int .i64 r125.2.2.1, .int .i64 r125.2.2.2.1, .int .i64 r125.2.2.2.2, u30.2]), .row u30.2 5 1 (([] : List Int) ++ r23).length (ec eb (([] : List Int) ++ r23))]) (fun (_ : Unit) => .tuple #[.int .i64 r125.1, .int .i64 r125.2.1]) rfl rfl rfl rfl Try.call18 rfl rfl rfl (fun w hM => lent0) (.inl fun _ => rfl) (fun w S' hM => c_bits_Reader_Bit K v114 v115 v116 (([] : List Int) ++ r23) u30.1 u30.2 r125 w S' hM hr125) (fun _ => ?_)
                      refine RW.yi (.tuple #[.int .i64 r125.1, .int .i64 r125.2.1]) rfl rfl (Yi.pv _ rfl) ?_
                      refine RW.yi (.int .i64 r125.1) rfl rfl (Yi.pv _ rfl) ?_
                      refine RW.yi (.int .i64 r125.2.1) rfl rfl (Yi.pv _ rfl) ?_
                      refine RW.yi (.int .i64 r125.1) rfl rfl (Yi.pv _ rfl) ?_
                      refine RW.yi (.int .i64 r125.2.1) rfl rfl (Yi.pv _ rfl) ?_
                      refine RW.nil ?_
                      refine EW.next ?_
                      refine CW.seq ?_
                      refine CW.region ?_
                      refine RW.yi (.int .i64 r125.2.1) rfl rfl (Yi.pv _ rfl) ?_
                      refine RW.yi (.bool (decide (¬ r125.2.1 = 0))) rfl rfl (Yi.pv _ rfl) ?_
                      refine RW.yi (.bool (decide (¬ r125.2.1 = 0))) rfl rfl (Yi.pv _ rfl) ?_
                      refine RW.fork 86 (¬ r125.2.1 = 0) rfl (fun h128 => ?_) (fun h128 => ?_)
                      · replace hm := (if_pos h128).symm.trans hm
                        refine RW.pass rfl rfl ?_
                        refine RW.pass rfl rfl ?_
                        refine RW.pass rfl rfl ?_
                        refine RW.pass rfl rfl ?_
                        refine RW.pass rfl rfl ?_
                        refine RW.pass rfl rfl ?_
                        refine RW.pass rfl rfl ?_
                        refine RW.yi (.bool true) rfl rfl (Yi.pv _ rfl) ?_
                        refine RW.nil ?_
                        refine EW.next ?_
                        refine CW.cond_true rfl ?_
                        refine CW.seq ?_
                        refine CW.region ?_
                        refine RW.yi (.bool false) rfl rfl (Yi.pv _ rfl) ?_
                        refine RW.nil ?_
                        refine EW.next ?_
                        refine CW.ret ?_
                        refine EW.blr ?_
                        refine EW.thr ?_
                        refine EW.thr ?_
                        refine EW.blr ?_
                        refine EW.blr ?_
                        refine EW.thr ?_
                        refine EW.thr ?_
                        refine EW.blr ?_
                        refine EW.thr ?_
                        obtain rfl := Option.some.inj hm
                        exact EW.done (rs := [.tmp 2]) rfl (.tmp (t := 2) (v := .bool false) rfl .nil) (fun _ hM => ⟨(), rfl, (hM.pick [] rfl rfl)⟩)
                      · replace hm := (if_neg h128).symm.trans hm
                        refine RW.yi (.int .i64 r125.1) rfl rfl (Yi.pv _ rfl) ?_
                        refine RW.yi (.pointer (some ⟨b106, 0, none⟩)) rfl rfl (Yi.fieldAddr (j := 0) Try.underlying28 rfl Try.sizeOf3 rfl) ?_
                        refine RW.yi (.int .i64 ((v21.getD v85.toNat (0, 0)).1)) rfl rfl (Yi.load1 (i := 7) _ rfl rfl Try.isAgg3 rfl) ?_
                        refine RW.yi (.int .i64 v118) rfl rfl (Yi.pv _ rfl) ?_
                        obtain ⟨g129, hm⟩ := of_guard hm
                        refine RW.yi (.int .i64 (shrI .i64 ((v21.getD v85.toNat (0, 0)).1) v118)) rfl rfl (Yi.shr rfl rfl g129) ?_
                        refine RW.yi (.int .i64 (bitI .and .i64 (shrI .i64 ((v21.getD v85.toNat (0, 0)).1) v118) 1)) rfl rfl (Yi.bits rfl rfl (by simp)) ?_
                        refine RW.yi (.bool (decide (¬ r125.1 = (bitI .and .i64 (shrI .i64 ((v21.getD v85.toNat (0, 0)).1) v118) 1)))) rfl rfl (Yi.pv _ rfl) ?_
                        refine RW.yi (.bool (decide (¬ r125.1 = (bitI .and .i64 (shrI .i64 ((v21.getD v85.toNat (0, 0)).1) v118) 1)))) rfl rfl (Yi.pv _ rfl) ?_
                        refine RW.nil ?_
                        refine EW.next ?_
                        refine CW.fork 94 (¬ r125.1 = (bitI .and .i64 (shrI .i64 ((v21.getD v85.toNat (0, 0)).1) v118) 1)) rfl (fun h130 => ?_) (fun h130 => ?_)
                        · replace hm := (if_pos h130).symm.trans hm
                          refine CW.cond_true rfl ?_
                          refine CW.seq ?_
                          refine CW.region ?_
                          refine RW.yi (.bool false) rfl rfl (Yi.pv _ rfl) ?_
                          refine RW.nil ?_
                          refine EW.next ?_
                          refine CW.ret ?_
                          refine EW.blr ?_
                          refine EW.thr ?_
                          refine EW.thr ?_
                          refine EW.blr ?_
                          refine EW.blr ?_
                          refine EW.thr ?_
                          refine EW.thr ?_
                          refine EW.blr ?_
                          refine EW.thr ?_
                          obtain rfl := Option.some.inj hm
                          exact EW.done (rs := [.tmp 2]) rfl (.tmp (t := 2) (v := .bool false) rfl .nil) (fun _ hM => ⟨(), rfl, (hM.pick [] rfl rfl)⟩)
                        · replace hm := (if_neg h130).symm.trans hm
                          refine CW.cond_false rfl ?_
                          refine CW.skip ?_
                          refine EW.bln ?_
                          refine EW.next ?_
                          refine CW.region ?_
                          refine RW.yi (.int .i64 v118) rfl rfl (Yi.pv _ rfl) ?_
                          refine RW.yi (.int .i64 (w64 (v118 - 1))) rfl rfl (Yi.pv _ rfl) ?_
                          refine RW.yi (.int .i64 (w64 (v118 - 1))) rfl rfl (Yi.pv _ rfl) ?_
                          refine RW.nil ?_
                          refine EW.thn ?_
                          exact fun a w hs hM => ⟨r125.2.2.1, r125.2.2.2.1, r125.2.2.2.2, (w64 (v118 - 1)), hs.sub ⟨rfl, rfl, rfl, rfl, rfl, rfl, rfl, rfl, rfl, rfl, rfl, rfl, rfl, trivial⟩, (hM.pick [2, 3, 4, 5, 6, 0, 1, 7, 8] rfl rfl), hm⟩
                    · replace hm := (if_neg h124).symm.trans hm
                      refine CW.cond_false rfl ?_
                      refine CW.exit ?_
                      refine EW.thx ?_
                      refine EW.thx ?_
                      refine EW.blx ?_
                      refine EW.bln ?_
                      refine EW.thn ?_
                      exact fun a w hs hM => ⟨r107.2.2.1, r107.2.2.2.1, r107.2.2.2.2, v114, v115, v116, r107.1, (decide (¬ r107.1 = (v21.getD v85.toNat (0, 0)).1)), b106, hs.sub ⟨rfl, rfl, rfl, rfl, rfl, rfl, rfl, rfl, rfl, rfl, rfl, trivial⟩, (hM.pick [0, 1, 2, 3, 4, 5, 6, 8, 7] rfl rfl), hm⟩
            · rintro a w ⟨v96, v97, v98, v99, v100, v101, v102, v104, s103, hs, hM, hm⟩
              unfold law04_BitsBack_j3 at hm
              refine CW.enter hs hM ?_
              refine CW.region ?_
              refine RW.yi (.int .i64 (w64 (v85 + 1))) rfl rfl (Yi.pv _ rfl) ?_
              refine RW.yi (.int .i64 (w64 (v85 + 1))) rfl rfl (Yi.pv _ rfl) ?_
              refine RW.nil ?_
              refine EW.thn ?_
              exact fun a w hs hM => ⟨v96, v97, v98, v99, v100, v101, (w64 (v85 + 1)), hs.sub ⟨rfl, rfl, rfl, rfl, rfl, rfl, rfl, trivial⟩, (hM.pick [0, 1, 2, 3, 4, 5, 6, 7] rfl rfl), hm⟩
          · replace hm := (if_neg h95).symm.trans hm
            refine CW.cond_false rfl ?_
            refine CW.exit ?_
            refine EW.thx ?_
            refine EW.thx ?_
            refine EW.blx ?_
            refine EW.thn ?_
            exact fun a w hs hM => ⟨v77, v78, v79, v81, v82, v83, hs.sub ⟨rfl, rfl, rfl, rfl, trivial⟩, (hM.pick [0, 1, 2, 3, 4, 5, 6] rfl rfl), hm⟩
      · rintro a w ⟨v32, v33, v34, v35, v36, v37, hs, hM, hm⟩
        unfold law04_BitsBack_j2 at hm
        refine CW.enter hs hM ?_
        refine CW.seq ?_
        refine CW.region ?_
        refine RW.yi (.pointer (some ⟨u15, 0, none⟩)) rfl rfl (Yi.pv _ rfl) ?_
        obtain ⟨r38, hr38, hm⟩ := of_bind hm
        refine RW.callM (cs := []) [.blk u15 60 (#[s17, .int .i64 v18, .int .i64 v19, .int .i64 v20]), .row s17 5 1 v16.length (ec eb v16)] [.row u24 5 1 r23.length (ec eb r23), .blk u28.1 67 (#[.int .i64 v32, .int .i64 v33, .int .i64 v34, u28.2]), .row u28.2 5 1 (([] : List Int) ++ r23).length (ec eb (([] : List Int) ++ r23)), .blk u30.1 67 (#[.int .i64 v35, .int .i64 v36, .int .i64 v37, u30.2]), .row u30.2 5 1 (([] : List Int) ++ r23).length (ec eb (([] : List Int) ++ r23))] [] [0, 1, 2, 3, 4, 5, 6] (fun (_ : Unit) => [.blk u15 60 (#[s17, .int .i64 v18, .int .i64 v19, .int .i64 v20]), .row s17 5 1 v16.length (ec eb v16)]) (fun (_ : Unit) => .int .i64 v20) rfl rfl rfl rfl Try.call14 rfl rfl rfl (fun w hM => lent0) (.inl fun _ => rfl) (fun w S' hM => c_bits_Writer_Count K v16 v18 v19 v20 u15 s17 r38 w S' hM hr38) (fun _ => ?_)
        refine RW.yi (.int .i64 (Int.tmod v20 8)) rfl rfl (Yi.rem rfl rfl (by decide)) ?_
        refine RW.yi (.int .i64 (w64 (8 - (Int.tmod v20 8)))) rfl rfl (Yi.pv _ rfl) ?_
        refine RW.yi (.int .i64 (Int.tmod (w64 (8 - (Int.tmod v20 8))) 8)) rfl rfl (Yi.rem rfl rfl (by decide)) ?_
        refine RW.yi (.int .i64 (Int.tmod (w64 (8 - (Int.tmod v20 8))) 8)) rfl rfl (Yi.pv _ rfl) ?_
        refine RW.nil ?_
        refine EW.next ?_
        refine CW.join (fun a w => ∃ (v41 : Int) (v42 : Int) (v43 : Int), St 139 [(7, u24), (8, .pointer (some ⟨u28.1, 0, none⟩)), (9, .pointer (some ⟨u30.1, 0, none⟩)), (17, .int .i64 (Int.tmod (w64 (8 - (Int.tmod v20 8))) 8))] a ∧ Mem w0 S [.row u24 5 1 r23.length (ec eb r23), .blk u28.1 67 (#[.int .i64 v41, .int .i64 v42, .int .i64 v43, u28.2]), .row u28.2 5 1 (([] : List Int) ++ r23).length (ec eb (([] : List Int) ++ r23)), .blk u30.1 67 (#[.int .i64 v35, .int .i64 v36, .int .i64 v37, u30.2]), .row u30.2 5 1 (([] : List Int) ++ r23).length (ec eb (([] : List Int) ++ r23))] w ∧ law04_BitsBack_j1 K v20 v35 v37 v36 r23 v41 v42 v43 = some r) ?_ ?_
        · refine CW.seq ?_
          refine CW.region ?_
          refine RW.yi (.int .i64 (Int.tmod (w64 (8 - (Int.tmod v20 8))) 8)) rfl rfl (Yi.pv _ rfl) ?_
          refine RW.yi (.int .i64 0) rfl rfl (Yi.pv _ rfl) ?_
          refine RW.nil ?_
          refine EW.next ?_
          refine CW.block ?_
          refine CW.loop (fun k a w => ∃ (v59 : Int) (v60 : Int) (v61 : Int) (v63 : Int), St 139 [(7, u24), (8, .pointer (some ⟨u28.1, 0, none⟩)), (9, .pointer (some ⟨u30.1, 0, none⟩)), (17, .int .i64 (Int.tmod (w64 (8 - (Int.tmod v20 8))) 8)), (101, .int .i64 (Int.tmod (w64 (8 - (Int.tmod v20 8))) 8)), (102, .int .i64 v63)] a ∧ Mem w0 S [.row u24 5 1 r23.length (ec eb r23), .blk u28.1 67 (#[.int .i64 v59, .int .i64 v60, .int .i64 v61, u28.2]), .row u28.2 5 1 (([] : List Int) ++ r23).length (ec eb (([] : List Int) ++ r23)), .blk u30.1 67 (#[.int .i64 v35, .int .i64 v36, .int .i64 v37, u30.2]), .row u30.2 5 1 (([] : List Int) ++ r23).length (ec eb (([] : List Int) ++ r23))] w ∧ law04_BitsBack_l1 K v20 v35 v37 v36 r23 k v59 v60 v61 v63 = some r) K ?_ ?_ ?_
          · rintro a w ⟨_, _, _, _, _, _, hm⟩
            rw [law04_BitsBack_l1.eq_1] at hm
            cases hm
          · exact fun a w hs hM => ⟨v32, v33, v34, 0, hs.sub ⟨rfl, rfl, rfl, rfl, rfl, rfl, trivial⟩, (hM.pick [2, 3, 4, 5, 6] rfl rfl), hm⟩
          · rintro k1 a w ⟨v59, v60, v61, v63, hs, hM, hm⟩
            rw [law04_BitsBack_l1.eq_2] at hm
            refine CW.enter hs hM ?_
            refine CW.seq ?_
            refine CW.region ?_
            refine RW.yi (.bool (decide (v63 < (Int.tmod (w64 (8 - (Int.tmod v20 8))) 8)))) rfl rfl (Yi.pv _ rfl) ?_
            refine RW.nil ?_
            refine EW.next ?_
            refine CW.seq ?_
            refine CW.fork 103 (v63 < (Int.tmod (w64 (8 - (Int.tmod v20 8))) 8)) rfl (fun h69 => ?_) (fun h69 => ?_)
            · replace hm := (if_pos h69).symm.trans hm
              refine CW.cond_true rfl ?_
              refine CW.skip ?_
              refine EW.next ?_
              refine CW.seq ?_
              refine CW.block ?_
              refine CW.seq ?_
              refine CW.region ?_
              refine RW.yi (.pointer (some ⟨u28.1, 0, none⟩)) rfl rfl (Yi.pv _ rfl) ?_
              obtain ⟨r70, hr70, hm⟩ := of_bind hm
              refine RW.callM (cs := []) [.blk u28.1 67 (#[.int .i64 v59, .int .i64 v60, .int .i64 v61, u28.2]), .row u28.2 5 1 (([] : List Int) ++ r23).length (ec eb (([] : List Int) ++ r23))] [.row u24 5 1 r23.length (ec eb r23), .blk u30.1 67 (#[.int .i64 v35, .int .i64 v36, .int .i64 v37, u30.2]), .row u30.2 5 1 (([] : List Int) ++ r23).length (ec eb (([] : List Int) ++ r23))] [] [1, 2, 0, 3, 4] (fun (_ : Unit) => [.blk u28.1 67 (#[.int .i64 r70.2.2.1, .int .i64 r70.2.2.2.1, .int .i64 r70.2.2.2.2, u28.2]), .row u28.2 5 1 (([] : List Int) ++ r23).length (ec eb (([] : List Int) ++ r23))]) (fun (_ : Unit) => .tuple #[.int .i64 r70.1, .int .i64 r70.2.1]) rfl rfl rfl rfl Try.call18 rfl rfl rfl (fun w hM => lent0) (.inl fun _ => rfl) (fun w S' hM => c_bits_Reader_Bit K v59 v60 v61 (([] : List Int) ++ r23) u28.1 u28.2 r70 w S' hM hr70) (fun _ => ?_)
              refine RW.yi (.tuple #[.int .i64 r70.1, .int .i64 r70.2.1]) rfl rfl (Yi.pv _ rfl) ?_
              refine RW.yi (.int .i64 r70.1) rfl rfl (Yi.pv _ rfl) ?_
              refine RW.yi (.int .i64 r70.2.1) rfl rfl (Yi.pv _ rfl) ?_
              refine RW.yi (.int .i64 r70.1) rfl rfl (Yi.pv _ rfl) ?_
              refine RW.yi (.int .i64 r70.2.1) rfl rfl (Yi.pv _ rfl) ?_
              refine RW.nil ?_
              refine EW.next ?_
              refine CW.seq ?_
              refine CW.region ?_
              refine RW.yi (.int .i64 r70.1) rfl rfl (Yi.pv _ rfl) ?_
              refine RW.yi (.bool (decide (¬ r70.1 = 1))) rfl rfl (Yi.pv _ rfl) ?_
              refine RW.yi (.bool (decide (¬ r70.1 = 1))) rfl rfl (Yi.pv _ rfl) ?_
              refine RW.fork 111 (¬ r70.1 = 1) rfl (fun h73 => ?_) (fun h73 => ?_)
              · replace hm := (if_pos h73).symm.trans hm
                refine RW.pass rfl rfl ?_
                refine RW.pass rfl rfl ?_
                refine RW.yi (.bool true) rfl rfl (Yi.pv _ rfl) ?_
                refine RW.nil ?_
                refine EW.next ?_
                refine CW.cond_true rfl ?_
                refine CW.seq ?_
                refine CW.region ?_
                refine RW.yi (.bool false) rfl rfl (Yi.pv _ rfl) ?_
                refine RW.nil ?_
                refine EW.next ?_
                refine CW.ret ?_
                refine EW.blr ?_
                refine EW.thr ?_
                refine EW.thr ?_
                refine EW.blr ?_
                refine EW.thr ?_
                obtain rfl := Option.some.inj hm
                exact EW.done (rs := [.tmp 2]) rfl (.tmp (t := 2) (v := .bool false) rfl .nil) (fun _ hM => ⟨(), rfl, (hM.pick [] rfl rfl)⟩)
              · replace hm := (if_neg h73).symm.trans hm
                refine RW.yi (.int .i64 r70.2.1) rfl rfl (Yi.pv _ rfl) ?_
                refine RW.yi (.bool (decide (¬ r70.2.1 = 0))) rfl rfl (Yi.pv _ rfl) ?_
                refine RW.yi (.bool (decide (¬ r70.2.1 = 0))) rfl rfl (Yi.pv _ rfl) ?_
                refine RW.nil ?_
                refine EW.next ?_
                refine CW.fork 114 (¬ r70.2.1 = 0) rfl (fun h74 => ?_) (fun h74 => ?_)
                · replace hm := (if_pos h74).symm.trans hm
                  refine CW.cond_true rfl ?_
                  refine CW.seq ?_
                  refine CW.region ?_
                  refine RW.yi (.bool false) rfl rfl (Yi.pv _ rfl) ?_
                  refine RW.nil ?_
                  refine EW.next ?_
                  refine CW.ret ?_
                  refine EW.blr ?_
                  refine EW.thr ?_
                  refine EW.thr ?_
                  refine EW.blr ?_
                  refine EW.thr ?_
                  obtain rfl := Option.some.inj hm
                  exact EW.done (rs := [.tmp 2]) rfl (.tmp (t := 2) (v := .bool false) rfl .nil) (fun _ hM => ⟨(), rfl, (hM.pick [] rfl rfl)⟩)
                · replace hm := (if_neg h74).symm.trans hm
                  refine CW.cond_false rfl ?_
                  refine CW.skip ?_
                  refine EW.bln ?_
                  refine EW.next ?_
                  refine CW.region ?_
                  refine RW.yi (.int .i64 (w64 (v63 + 1))) rfl rfl (Yi.pv _ rfl) ?_
                  refine RW.yi (.int .i64 (w64 (v63 + 1))) rfl rfl (Yi.pv _ rfl) ?_
                  refine RW.nil ?_
                  refine EW.thn ?_
                  exact fun a w hs hM => ⟨r70.2.2.1, r70.2.2.2.1, r70.2.2.2.2, (w64 (v63 + 1)), hs.sub ⟨rfl, rfl, rfl, rfl, rfl, rfl, trivial⟩, (hM.pick [2, 0, 1, 3, 4] rfl rfl), hm⟩
            · replace hm := (if_neg h69).symm.trans hm
              refine CW.cond_false rfl ?_
              refine CW.exit ?_
              refine EW.thx ?_
              refine EW.thx ?_
              refine EW.blx ?_
              refine EW.thn ?_
              exact fun a w hs hM => ⟨v59, v60, v61, hs.sub ⟨rfl, rfl, rfl, rfl, trivial⟩, (hM.pick [0, 1, 2, 3, 4] rfl rfl), hm⟩
        · rintro a w ⟨v41, v42, v43, hs, hM, hm⟩
          unfold law04_BitsBack_j1 at hm
          refine CW.enter hs hM ?_
          refine CW.seq ?_
          refine CW.region ?_
          refine RW.yi (.pointer (some ⟨u28.1, 0, none⟩)) rfl rfl (Yi.pv _ rfl) ?_
          obtain ⟨r44, hr44, hm⟩ := of_bind hm
          refine RW.callM (cs := []) [.blk u28.1 67 (#[.int .i64 v41, .int .i64 v42, .int .i64 v43, u28.2]), .row u28.2 5 1 (([] : List Int) ++ r23).length (ec eb (([] : List Int) ++ r23))] [.row u24 5 1 r23.length (ec eb r23), .blk u30.1 67 (#[.int .i64 v35, .int .i64 v36, .int .i64 v37, u30.2]), .row u30.2 5 1 (([] : List Int) ++ r23).length (ec eb (([] : List Int) ++ r23))] [] [1, 2, 0, 3, 4] (fun (_ : Unit) => [.blk u28.1 67 (#[.int .i64 r44.2.2.1, .int .i64 r44.2.2.2.1, .int .i64 r44.2.2.2.2, u28.2]), .row u28.2 5 1 (([] : List Int) ++ r23).length (ec eb (([] : List Int) ++ r23))]) (fun (_ : Unit) => .tuple #[.int .i64 r44.1, .int .i64 r44.2.1]) rfl rfl rfl rfl Try.call18 rfl rfl rfl (fun w hM => lent0) (.inl fun _ => rfl) (fun w S' hM => c_bits_Reader_Bit K v41 v42 v43 (([] : List Int) ++ r23) u28.1 u28.2 r44 w S' hM hr44) (fun _ => ?_)
          refine RW.yi (.tuple #[.int .i64 r44.1, .int .i64 r44.2.1]) rfl rfl (Yi.pv _ rfl) ?_
          refine RW.yi (.int .i64 r44.1) rfl rfl (Yi.pv _ rfl) ?_
          refine RW.yi (.int .i64 r44.2.1) rfl rfl (Yi.pv _ rfl) ?_
          refine RW.yi (.int .i64 r44.1) rfl rfl (Yi.pv _ rfl) ?_
          refine RW.yi (.int .i64 r44.2.1) rfl rfl (Yi.pv _ rfl) ?_
          refine RW.nil ?_
          refine EW.next ?_
          refine CW.seq ?_
          refine CW.region ?_
          refine RW.yi (.int .i64 r44.2.1) rfl rfl (Yi.pv _ rfl) ?_
          refine RW.yi (.bool (decide (r44.2.1 = 3))) rfl rfl (Yi.pv _ rfl) ?_
          refine RW.yi (.bool (decide (r44.2.1 = 3))) rfl rfl (Yi.pv _ rfl) ?_
          refine RW.fork 123 (r44.2.1 = 3) rfl (fun h47 => ?_) (fun h47 => ?_)
          · replace hm := (if_pos h47).symm.trans hm
            refine RW.yi (.pointer (some ⟨u28.1, 0, none⟩)) rfl rfl (Yi.pv _ rfl) ?_
            obtain ⟨r48, hr48, hm⟩ := of_bind hm
            refine RW.callM (cs := []) [.blk u28.1 67 (#[.int .i64 r44.2.2.1, .int .i64 r44.2.2.2.1, .int .i64 r44.2.2.2.2, u28.2]), .row u28.2 5 1 (([] : List Int) ++ r23).length (ec eb (([] : List Int) ++ r23))] [.row u24 5 1 r23.length (ec eb r23), .blk u30.1 67 (#[.int .i64 v35, .int .i64 v36, .int .i64 v37, u30.2]), .row u30.2 5 1 (([] : List Int) ++ r23).length (ec eb (([] : List Int) ++ r23))] [] [0, 1, 2, 3, 4] (fun (_ : Unit) => [.blk u28.1 67 (#[.int .i64 r44.2.2.1, .int .i64 r44.2.2.2.1, .int .i64 r44.2.2.2.2, u28.2]), .row u28.2 5 1 (([] : List Int) ++ r23).length (ec eb (([] : List Int) ++ r23))]) (fun (_ : Unit) => .int .i64 r44.2.2.1) rfl rfl rfl rfl Try.call20 rfl rfl rfl (fun w hM => lent0) (.inl fun _ => rfl) (fun w S' hM => c_bits_Reader_At K r44.2.2.1 r44.2.2.2.1 r44.2.2.2.2 (([] : List Int) ++ r23) u28.1 u28.2 r48 w S' hM hr48) (fun _ => ?_)
            refine RW.yi (u24) rfl rfl (Yi.pv _ rfl) ?_
            refine RW.yi (.int .i64 (r23.length : Int)) rfl rfl (Yi.lenS (cs := ec eb r23) (m := r23.length) Try.underlying34 rfl (rdW 2 rfl)) ?_
            refine RW.yi (.bool (decide (r44.2.2.1 = (r23.length : Int)))) rfl rfl (Yi.pv _ rfl) ?_
            refine RW.yi (.bool (decide (r44.2.2.1 = (r23.length : Int)))) rfl rfl (Yi.pv _ rfl) ?_
            refine RW.yi (.bool (decide (r44.2.2.1 = (r23.length : Int)))) rfl rfl (Yi.pv _ rfl) ?_
            refine RW.fork 130 (r44.2.2.1 = (r23.length : Int)) rfl (fun h51 => ?_) (fun h51 => ?_)
            · replace hm := (if_pos h51).symm.trans hm
              refine RW.yi (.pointer (some ⟨u30.1, 0, none⟩)) rfl rfl (Yi.pv _ rfl) ?_
              obtain ⟨r52, hr52, hm⟩ := of_bind hm
              refine RW.callM (cs := []) [.blk u30.1 67 (#[.int .i64 v35, .int .i64 v36, .int .i64 v37, u30.2]), .row u30.2 5 1 (([] : List Int) ++ r23).length (ec eb (([] : List Int) ++ r23))] [.blk u28.1 67 (#[.int .i64 r44.2.2.1, .int .i64 r44.2.2.2.1, .int .i64 r44.2.2.2.2, u28.2]), .row u28.2 5 1 (([] : List Int) ++ r23).length (ec eb (([] : List Int) ++ r23)), .row u24 5 1 r23.length (ec eb r23)] [] [3, 4, 0, 1, 2] (fun (_ : Unit) => [.blk u30.1 67 (#[.int .i64 v35, .int .i64 v36, .int .i64 0, u30.2]), .row u30.2 5 1 (([] : List Int) ++ r23).length (ec eb (([] : List Int) ++ r23))]) (fun (_ : Unit) => .int .i64 v37) rfl rfl rfl rfl Try.call22 rfl rfl rfl (fun w hM => lent0) (.inl fun _ => rfl) (fun w S' hM => c_bits_Reader_Skip K v35 v36 v37 (([] : List Int) ++ r23) u30.1 u30.2 r52 w S' hM hr52) (fun _ => ?_)
              refine RW.yi (.int .i64 (Int.tmod (w64 (8 - (Int.tmod v20 8))) 8)) rfl rfl (Yi.pv _ rfl) ?_
              refine RW.yi (.bool (decide (v37 = (Int.tmod (w64 (8 - (Int.tmod v20 8))) 8)))) rfl rfl (Yi.pv _ rfl) ?_
              refine RW.yi (.bool (decide (v37 = (Int.tmod (w64 (8 - (Int.tmod v20 8))) 8)))) rfl rfl (Yi.pv _ rfl) ?_
              refine RW.yi (.bool (decide (v37 = (Int.tmod (w64 (8 - (Int.tmod v20 8))) 8)))) rfl rfl (Yi.pv _ rfl) ?_
              refine RW.fork 136 (v37 = (Int.tmod (w64 (8 - (Int.tmod v20 8))) 8)) rfl (fun h55 => ?_) (fun h55 => ?_)
              · replace hm := (if_pos h55).symm.trans hm
                obtain ⟨r56, hr56, hm⟩ := of_bind hm
                refine RW.ca (.bool r56) rfl rfl (Ca.call (cs := []) [] rfl rfl Try.call10 (fun w hM => lent0) (fun w S' hM => (c_law04_awake K  r56 w S' hM hr56).mono (fun _ _ h => by obtain ⟨_, h1, h2⟩ := h; exact ⟨h1, h2⟩))) ?_
                refine RW.yi (.bool r56) rfl rfl (Yi.pv _ rfl) ?_
                refine RW.yi (.bool r56) rfl rfl (Yi.pv _ rfl) ?_
                refine RW.nil ?_
                refine EW.next ?_
                refine CW.ret ?_
                obtain rfl := Option.some.inj hm
                exact EW.done (rs := [.tmp 2]) rfl (.tmp (t := 2) (v := .bool r56) rfl .nil) (fun _ hM => ⟨(), rfl, (hM.pick [] rfl rfl)⟩)
              · replace hm := (if_neg h55).symm.trans hm
                refine RW.pass rfl rfl ?_
                refine RW.yi (.bool false) rfl rfl (Yi.pv _ rfl) ?_
                refine RW.yi (.bool false) rfl rfl (Yi.pv _ rfl) ?_
                refine RW.nil ?_
                refine EW.next ?_
                refine CW.ret ?_
                obtain rfl := Option.some.inj hm
                exact EW.done (rs := [.tmp 2]) rfl (.tmp (t := 2) (v := .bool false) rfl .nil) (fun _ hM => ⟨(), rfl, (hM.pick [] rfl rfl)⟩)
            · replace hm := (if_neg h51).symm.trans hm
              refine RW.pass rfl rfl ?_
              refine RW.pass rfl rfl ?_
              refine RW.pass rfl rfl ?_
              refine RW.pass rfl rfl ?_
              refine RW.yi (.bool false) rfl rfl (Yi.pv _ rfl) ?_
              refine RW.yi (.bool false) rfl rfl (Yi.pv _ rfl) ?_
              refine RW.pass rfl rfl ?_
              refine RW.yi (.bool false) rfl rfl (Yi.pv _ rfl) ?_
              refine RW.yi (.bool false) rfl rfl (Yi.pv _ rfl) ?_
              refine RW.nil ?_
              refine EW.next ?_
              refine CW.ret ?_
              obtain rfl := Option.some.inj hm
              exact EW.done (rs := [.tmp 2]) rfl (.tmp (t := 2) (v := .bool false) rfl .nil) (fun _ hM => ⟨(), rfl, (hM.pick [] rfl rfl)⟩)
          · replace hm := (if_neg h47).symm.trans hm
            refine RW.pass rfl rfl ?_
            refine RW.pass rfl rfl ?_
            refine RW.pass rfl rfl ?_
            refine RW.pass rfl rfl ?_
            refine RW.pass rfl rfl ?_
            refine RW.yi (.bool false) rfl rfl (Yi.pv _ rfl) ?_
            refine RW.yi (.bool false) rfl rfl (Yi.pv _ rfl) ?_
            refine RW.pass rfl rfl ?_
            refine RW.pass rfl rfl ?_
            refine RW.pass rfl rfl ?_
            refine RW.pass rfl rfl ?_
            refine RW.yi (.bool false) rfl rfl (Yi.pv _ rfl) ?_
            refine RW.yi (.bool false) rfl rfl (Yi.pv _ rfl) ?_
            refine RW.pass rfl rfl ?_
            refine RW.yi (.bool false) rfl rfl (Yi.pv _ rfl) ?_
            refine RW.yi (.bool false) rfl rfl (Yi.pv _ rfl) ?_
            refine RW.nil ?_
            refine EW.next ?_
            refine CW.ret ?_
            obtain rfl := Option.some.inj hm
            exact EW.done (rs := [.tmp 2]) rfl (.tmp (t := 2) (v := .bool false) rfl .nil) (fun _ hM => ⟨(), rfl, (hM.pick [] rfl rfl)⟩)

end Go.Proofs.Ytpfnjmaadghhoaa
