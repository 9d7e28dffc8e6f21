import Derived.Test.YtpfnjmaadghhoaaN7
import Derived.Test.YtpfnjmaadghhoaaProg
import Derived.Test.YtpfnjmaadghhoaaGbitsNewWriter
import Derived.Test.YtpfnjmaadghhoaaGbitsWriterBytes
import Derived.Test.YtpfnjmaadghhoaaGbitsWriterCount
import Derived.Test.YtpfnjmaadghhoaaGbitsWriterPut
import Derived.Test.YtpfnjmaadghhoaaGlaw04awake
set_option maxRecDepth 100000
set_option maxHeartbeats 1000000
namespace Go.Proofs.Ytpfnjmaadghhoaa
open Go Go.RowKit K

def law04_BitsOnes_j1 (K : Nat) (v11 : (List Int)) (v13 : Int) (v14 : Int) (v15 : Int) (v16 : (List Int)) (v18 : Int) (v19 : Int) (v20 : Int) : Option (Bool) :=
  ((bits_Writer_Count K v11 v13 v14 v15).bind fun r21 => ((bits_Writer_Count K v16 v18 v19 v20).bind fun r22 => (if v15 = v20 then ((bits_Writer_Bytes K v11 v13 v14 v15).bind fun r24 => ((bits_Writer_Bytes K v16 v18 v19 v20).bind fun r25 => (if (bs r24).toList = (bs r25).toList then ((law04_awake K ).bind fun r27 => some r27) else some false))) else some false)))

def law04_BitsOnes_j2 (_ : Nat) (cb_law04_BitsOnes_l1 : (List Int) → Int → Int → Int → (List Int) → Int → Int → Int → Int → Option (Bool)) (v99 : Int) (v125 : (List Int)) (v127 : Int) (v128 : Int) (v129 : Int) (v131 : (List Int)) (v133 : Int) (v134 : Int) (v135 : Int) : Option (Bool) :=
  cb_law04_BitsOnes_l1 v125 v127 v128 v129 v131 v133 v134 v135 (w64 (v99 + 1))

def law04_BitsOnes_l2 (K : Nat) (cb_law04_BitsOnes_l1 : (List Int) → Int → Int → Int → (List Int) → Int → Int → Int → Int → Option (Bool)) (a0 : (List (Int × Int))) (v99 : Int) (r138 : (Int × Int × Int × Int × (List Int))) : Nat → (List Int) → Int → Int → Int → Int →  Option (Bool)
  | 0, _, _, _, _, _ => none
  | k2 + 1, v145, v147, v148, v149, v150 =>
    (if 0 ≤ v150 then (if 0 ≤ v150 then ((bits_Writer_Put K v145 v147 v148 v149 (bitI .and .i64 (shrI .i64 ((a0.getD v99.toNat (0, 0)).1) v150) 1) 1).bind fun r160 => (if ¬ r160.1 = 0 then some false else (law04_BitsOnes_l2 K cb_law04_BitsOnes_l1 a0 v99 r138 k2) r160.2.2.2.2 r160.2.1 r160.2.2.1 r160.2.2.2.1 (w64 (v150 - 1)))) else none) else law04_BitsOnes_j2 K cb_law04_BitsOnes_l1 v99 r138.2.2.2.2 r138.2.1 r138.2.2.1 r138.2.2.2.1 v145 v147 v148 v149)

def law04_BitsOnes_l1 (K : Nat) (a0 : (List (Int × Int))) : Nat → (List Int) → Int → Int → Int → (List Int) → Int → Int → Int → Int →  Option (Bool)
  | 0, _, _, _, _, _, _, _, _, _ => none
  | k1 + 1, v88, v90, v91, v92, v94, v96, v97, v98, v99 =>
    (if v99 < (a0.length : Int) then (if 0 ≤ v99 ∧ v99 < (a0.length : Int) then ((bits_Writer_Put K v88 v90 v91 v92 ((a0.getD v99.toNat (0, 0)).1) ((a0.getD v99.toNat (0, 0)).2)).bind fun r138 => (if ¬ r138.1 = 0 then law04_BitsOnes_j2 K (law04_BitsOnes_l1 K a0 k1) v99 r138.2.2.2.2 r138.2.1 r138.2.2.1 r138.2.2.2.1 v94 v96 v97 v98 else law04_BitsOnes_l2 K (law04_BitsOnes_l1 K a0 k1) a0 v99 r138 K v94 v96 v97 v98 (w64 ((a0.getD v99.toNat (0, 0)).2 - 1)))) else none) else law04_BitsOnes_j1 K v88 v90 v91 v92 v94 v96 v97 v98)

def law04_BitsOnes (K : Nat) (a0 : (List (Int × Int))) : Option (Bool) :=
  (if 60 < (a0.length : Int) then ((law04_awake K ).bind fun r7 => some r7) else ((bits_NewWriter K ).bind fun r8 => law04_BitsOnes_l1 K a0 K ([] : List Int) 0 0 0 ([] : List Int) 0 0 0 0))

theorem c_law04_BitsOnes (K : Nat) (a0 : (List (Int × Int))) (sa0 : Value) (r : Bool) (w0 : World) (S : Own) (hM0 : Mem w0 S [ro sa0 2 a0.length (ec e2 a0)] w0) (hm : law04_BitsOnes K a0 = some r) : Calls Try.prog 4 #[sa0] w0 fun e w' => ∃ _u : Unit, e = .returned (.bool r) ∧ Mem w0 S [] w' := by
  unfold law04_BitsOnes at hm
  refine calls_CW (n := 60) w0 S [ro sa0 2 a0.length (ec e2 a0)] Try.func4 rfl rfl rfl hM0 ?_
  refine CW.seq ?_
  refine CW.region ?_
  refine RW.yi (.bool false) rfl rfl (Yi.pv _ rfl) ?_
  refine RW.nil ?_
  refine EW.next ?_
  refine CW.seq ?_
  refine CW.seq ?_
  refine CW.region ?_
  refine RW.yi (sa0) rfl rfl (Yi.pv _ rfl) ?_
  refine RW.yi (.int .i64 (a0.length : Int)) rfl rfl (Yi.lenS (cs := ec e2 a0) (m := a0.length) Try.underlying22 rfl (rdF 0 rfl)) ?_
  refine RW.yi (.bool (decide (60 < (a0.length : Int)))) rfl rfl (Yi.pv _ rfl) ?_
  refine RW.nil ?_
  refine EW.next ?_
  refine CW.fork 10 (60 < (a0.length : Int)) rfl (fun h6 => ?_) (fun h6 => ?_)
  · replace hm := (if_pos h6).symm.trans hm
    refine CW.cond_true rfl ?_
    refine CW.seq ?_
    refine CW.region ?_
    obtain ⟨r7, hr7, hm⟩ := of_bind hm
    refine RW.ca (.bool r7) rfl rfl (Ca.call (cs := []) [] rfl rfl Try.call10 (fun w hM => lent0) (fun w S' hM => (c_law04_awake K  r7 w S' hM hr7).mono (fun _ _ h => by obtain ⟨_, h1, h2⟩ := h; exact ⟨h1, h2⟩))) ?_
    refine RW.yi (.bool r7) rfl rfl (Yi.pv _ rfl) ?_
    refine RW.nil ?_
    refine EW.next ?_
    refine CW.ret ?_
    refine EW.thr ?_
    obtain rfl := Option.some.inj hm
    exact EW.done (rs := [.tmp 2]) rfl (.tmp (t := 2) (v := .bool r7) rfl .nil) (fun _ hM => ⟨(), rfl, (hM.pick [] rfl rfl)⟩)
  · replace hm := (if_neg h6).symm.trans hm
    refine CW.cond_false rfl ?_
    refine CW.skip ?_
    refine EW.next ?_
    refine CW.seq ?_
    refine CW.region ?_
    obtain ⟨r8, hr8, hm⟩ := of_bind hm
    refine RW.callM (cs := []) [] [ro sa0 2 a0.length (ec e2 a0)] [] [0] (fun (u9 : Nat) => [.blk u9 60 (#[.slice none 0 0, .int .i64 0, .int .i64 0, .int .i64 0])]) (fun (u9 : Nat) => .pointer (some ⟨u9, 0, none⟩)) rfl rfl rfl rfl Try.call11 rfl rfl rfl (fun w hM => lent0) (.inl fun _ => rfl) (fun w S' hM => c_bits_NewWriter K  r8 w S' hM hr8) (fun u9 => ?_)
    refine RW.callM (cs := []) [] [.blk u9 60 (#[.slice none 0 0, .int .i64 0, .int .i64 0, .int .i64 0]), ro sa0 2 a0.length (ec e2 a0)] [] [0, 1] (fun (u10 : Nat) => [.blk u10 60 (#[.slice none 0 0, .int .i64 0, .int .i64 0, .int .i64 0])]) (fun (u10 : Nat) => .pointer (some ⟨u10, 0, none⟩)) rfl rfl rfl rfl Try.call11 rfl rfl rfl (fun w hM => lent0) (.inl fun _ => rfl) (fun w S' hM => c_bits_NewWriter K  r8 w S' hM hr8) (fun u10 => ?_)
    refine RW.yi (.pointer (some ⟨u9, 0, none⟩)) rfl rfl (Yi.pv _ rfl) ?_
    refine RW.yi (.pointer (some ⟨u10, 0, none⟩)) rfl rfl (Yi.pv _ rfl) ?_
    refine RW.nil ?_
    refine EW.next ?_
    refine CW.join (fun a w => ∃ (v11 : (List Int)) (v13 : Int) (v14 : Int) (v15 : Int) (v16 : (List Int)) (v18 : Int) (v19 : Int) (v20 : Int) (s12 : Value) (s17 : Value), St 60 [(3, .pointer (some ⟨u9, 0, none⟩)), (4, .pointer (some ⟨u10, 0, none⟩))] a ∧ Mem w0 S [.blk u9 60 (#[s12, .int .i64 v13, .int .i64 v14, .int .i64 v15]), .row s12 5 1 v11.length (ec eb v11), .blk u10 60 (#[s17, .int .i64 v18, .int .i64 v19, .int .i64 v20]), .row s17 5 1 v16.length (ec eb v16)] w ∧ law04_BitsOnes_j1 K v11 v13 v14 v15 v16 v18 v19 v20 = some r) ?_ ?_
    · refine CW.seq ?_
      refine CW.region ?_
      refine RW.yi (sa0) rfl rfl (Yi.pv _ rfl) ?_
      refine RW.yi (.int .i64 (a0.length : Int)) rfl rfl (Yi.lenS (cs := ec e2 a0) (m := a0.length) Try.underlying22 rfl (rdF 2 rfl)) ?_
      refine RW.yi (.int .i64 0) rfl rfl (Yi.pv _ rfl) ?_
      refine RW.nil ?_
      refine EW.next ?_
      refine CW.block ?_
      refine CW.loop (fun k a w => ∃ (v88 : (List Int)) (v90 : Int) (v91 : Int) (v92 : Int) (v94 : (List Int)) (v96 : Int) (v97 : Int) (v98 : Int) (v99 : Int) (s89 : Value) (s95 : Value), St 60 [(3, .pointer (some ⟨u9, 0, none⟩)), (4, .pointer (some ⟨u10, 0, none⟩)), (14, sa0), (15, .int .i64 (a0.length : Int)), (16, .int .i64 v99)] a ∧ Mem w0 S [.blk u9 60 (#[s89, .int .i64 v90, .int .i64 v91, .int .i64 v92]), .row s89 5 1 v88.length (ec eb v88), .blk u10 60 (#[s95, .int .i64 v96, .int .i64 v97, .int .i64 v98]), .row s95 5 1 v94.length (ec eb v94), ro sa0 2 a0.length (ec e2 a0)] w ∧ law04_BitsOnes_l1 K a0 k v88 v90 v91 v92 v94 v96 v97 v98 v99 = some r) K ?_ ?_ ?_
      · rintro a w ⟨_, _, _, _, _, _, _, _, _, _, _, _, _, hm⟩
        rw [law04_BitsOnes_l1.eq_1] at hm
        cases hm
      · exact fun a w hs hM => ⟨([] : List Int), 0, 0, 0, ([] : List Int), 0, 0, 0, 0, (.slice none 0 0), (.slice none 0 0), hs.sub ⟨rfl, rfl, rfl, rfl, rfl, trivial⟩, (((hM.nilRow 5 1).nilRow 5 1).pick [3, 1, 2, 0, 4] rfl rfl), hm⟩
      · rintro k1 a w ⟨v88, v90, v91, v92, v94, v96, v97, v98, v99, s89, s95, hs, hM, hm⟩
        rw [law04_BitsOnes_l1.eq_2] at hm
        refine CW.enter hs hM ?_
        refine CW.seq ?_
        refine CW.region ?_
        refine RW.yi (.bool (decide (v99 < (a0.length : Int)))) rfl rfl (Yi.pv _ rfl) ?_
        refine RW.nil ?_
        refine EW.next ?_
        refine CW.seq ?_
        refine CW.fork 17 (v99 < (a0.length : Int)) rfl (fun h113 => ?_) (fun h113 => ?_)
        · replace hm := (if_pos h113).symm.trans hm
          refine CW.cond_true rfl ?_
          refine CW.skip ?_
          refine EW.next ?_
          refine CW.join (fun a w => ∃ (v125 : (List Int)) (v127 : Int) (v128 : Int) (v129 : Int) (v131 : (List Int)) (v133 : Int) (v134 : Int) (v135 : Int) (s126 : Value) (s132 : Value), St 60 [(3, .pointer (some ⟨u9, 0, none⟩)), (4, .pointer (some ⟨u10, 0, none⟩)), (14, sa0), (15, .int .i64 (a0.length : Int)), (16, .int .i64 v99)] a ∧ Mem w0 S [.blk u9 60 (#[s126, .int .i64 v127, .int .i64 v128, .int .i64 v129]), .row s126 5 1 v125.length (ec eb v125), .blk u10 60 (#[s132, .int .i64 v133, .int .i64 v134, .int .i64 v135]), .row s132 5 1 v131.length (ec eb v131), ro sa0 2 a0.length (ec e2 a0)] w ∧ law04_BitsOnes_j2 K (law04_BitsOnes_l1 K a0 k1) v99 v125 v127 v128 v129 v131 v133 v134 v135 = some r) ?_ ?_
          · refine CW.block ?_
            refine CW.seq ?_
            refine CW.region ?_
            obtain ⟨g136, hm⟩ := of_guard hm
            refine RW.yi (.pointer (some (eaddr sa0 2 v99.toNat 0))) rfl rfl (Yi.idxS (m := a0.length) Try.underlying22 Try.sizeOf28 rfl rfl (rdF 4 rfl) g136.1 g136.2) ?_
            refine RW.yi (.agg #[.int .i64 ((a0.getD v99.toNat (0, 0)).1), .int .i64 ((a0.getD v99.toNat (0, 0)).2)]) rfl rfl (Yi.loadSA (m := a0.length) (cs := ec e2 a0) _ rfl (rdF 4 rfl) Try.isAgg28 Try.sizeOf28 (by omega) (by rw [ec_elem e2_is (0, 0) (by omega)]; rfl)) ?_
            refine RW.alloc (z := .agg #[.int .i64 0, .int .i64 0]) (#[.int .i64 0, .int .i64 0]) rfl rfl (fun _ => by kernel_rfl) rfl (fun b137 => ?_)
            refine RW.storeW (i := 0) (cs' := #[.int .i64 ((a0.getD v99.toNat (0, 0)).1), .int .i64 ((a0.getD v99.toNat (0, 0)).2)]) rfl rfl rfl rfl (by kernel_rfl) rfl (by kernel_rfl) ?_
            refine RW.nil ?_
            refine EW.next ?_
            refine CW.seq ?_
            refine CW.seq ?_
            refine CW.region ?_
            refine RW.yi (.pointer (some ⟨u9, 0, none⟩)) rfl rfl (Yi.pv _ rfl) ?_
            refine RW.yi (.pointer (some ⟨b137, 0, none⟩)) rfl rfl (Yi.fieldAddr (j := 0) Try.underlying28 rfl Try.sizeOf3 rfl) ?_
            refine RW.yi (.int .i64 ((a0.getD v99.toNat (0, 0)).1)) rfl rfl (Yi.load1 (i := 0) _ rfl rfl Try.isAgg3 rfl) ?_
            refine RW.yi (.pointer (some ⟨b137, 1, none⟩)) rfl rfl (Yi.fieldAddr (j := 1) Try.underlying28 rfl Try.sizeOf3 rfl) ?_
            refine RW.yi (.int .i64 ((a0.getD v99.toNat (0, 0)).2)) rfl rfl (Yi.load1 (i := 0) _ rfl rfl Try.isAgg3 rfl) ?_
            obtain ⟨r138, hr138, hm⟩ := of_bind hm
            refine RW.callM (cs := []) [.blk u9 60 (#[s89, .int .i64 v90, .int .i64 v91, .int .i64 v92]), .row s89 5 1 v88.length (ec eb v88)] [.blk b137 28 (#[.int .i64 ((a0.getD v99.toNat (0, 0)).1), .int .i64 ((a0.getD v99.toNat (0, 0)).2)]), .blk u10 60 (#[s95, .int .i64 v96, .int .i64 v97, .int .i64 v98]), .row s95 5 1 v94.length (ec eb v94), ro sa0 2 a0.length (ec e2 a0)] [] [1, 2, 0, 3, 4, 5] (fun (u139 : Value) => [.blk u9 60 (#[u139, .int .i64 r138.2.1, .int .i64 r138.2.2.1, .int .i64 r138.2.2.2.1]), .row u139 5 1 r138.2.2.2.2.length (ec eb r138.2.2.2.2)]) (fun (u139 : Value) => .int .i64 r138.1) rfl rfl rfl rfl Try.call13 rfl rfl rfl (fun w hM => lent0) (.inl fun _ => rfl) (fun w S' hM => c_bits_Writer_Put K v88 v90 v91 v92 ((a0.getD v99.toNat (0, 0)).1) ((a0.getD v99.toNat (0, 0)).2) u9 s89 r138 w S' hM hr138) (fun u139 => ?_)
            refine RW.yi (.bool (decide (¬ r138.1 = 0))) rfl rfl (Yi.pv _ rfl) ?_
            refine RW.nil ?_
            refine EW.next ?_
            refine CW.fork 26 (¬ r138.1 = 0) rfl (fun h141 => ?_) (fun h141 => ?_)
            · replace hm := (if_pos h141).symm.trans hm
              refine CW.cond_true rfl ?_
              refine CW.exit ?_
              refine EW.thx ?_
              refine EW.blx ?_
              refine EW.thn ?_
              exact fun a w hs hM => ⟨r138.2.2.2.2, r138.2.1, r138.2.2.1, r138.2.2.2.1, v94, v96, v97, v98, u139, s95, hs.sub ⟨rfl, rfl, rfl, rfl, rfl, trivial⟩, (hM.pick [0, 1, 3, 4, 5] rfl rfl), hm⟩
            · replace hm := (if_neg h141).symm.trans hm
              refine CW.cond_false rfl ?_
              refine CW.skip ?_
              refine EW.next ?_
              refine CW.seq ?_
              refine CW.region ?_
              refine RW.yi (.pointer (some ⟨b137, 1, none⟩)) rfl rfl (Yi.fieldAddr (j := 1) Try.underlying28 rfl Try.sizeOf3 rfl) ?_
              refine RW.yi (.int .i64 ((a0.getD v99.toNat (0, 0)).2)) rfl rfl (Yi.load1 (i := 2) _ rfl rfl Try.isAgg3 rfl) ?_
              refine RW.yi (.int .i64 (w64 ((a0.getD v99.toNat (0, 0)).2 - 1))) rfl rfl (Yi.pv _ rfl) ?_
              refine RW.yi (.int .i64 (w64 ((a0.getD v99.toNat (0, 0)).2 - 1))) rfl rfl (Yi.pv _ rfl) ?_
              refine RW.nil ?_
              refine EW.next ?_
              refine CW.block ?_
              refine CW.loop (fun k a w => ∃ (v145 : (List Int)) (v147 : Int) (v148 : Int) (v149 : Int) (v150 : Int) (s146 : Value), St 60 [(3, .pointer (some ⟨u9, 0, none⟩)), (4, .pointer (some ⟨u10, 0, none⟩)), (6, .pointer (some ⟨b137, 0, none⟩)), (7, .int .i64 v150), (14, sa0), (15, .int .i64 (a0.length : Int)), (16, .int .i64 v99)] a ∧ Mem w0 S [.blk u9 60 (#[u139, .int .i64 r138.2.1, .int .i64 r138.2.2.1, .int .i64 r138.2.2.2.1]), .row u139 5 1 r138.2.2.2.2.length (ec eb r138.2.2.2.2), .blk u10 60 (#[s146, .int .i64 v147, .int .i64 v148, .int .i64 v149]), .row s146 5 1 v145.length (ec eb v145), .blk b137 28 (#[.int .i64 ((a0.getD v99.toNat (0, 0)).1), .int .i64 ((a0.getD v99.toNat (0, 0)).2)]), ro sa0 2 a0.length (ec e2 a0)] w ∧ law04_BitsOnes_l2 K (law04_BitsOnes_l1 K a0 k1) a0 v99 r138 k v145 v147 v148 v149 v150 = some r) K ?_ ?_ ?_
              · rintro a w ⟨_, _, _, _, _, _, _, _, hm⟩
                rw [law04_BitsOnes_l2.eq_1] at hm
                cases hm
              · exact fun a w hs hM => ⟨v94, v96, v97, v98, (w64 ((a0.getD v99.toNat (0, 0)).2 - 1)), s95, hs.sub ⟨rfl, rfl, rfl, rfl, rfl, rfl, rfl, trivial⟩, (hM.pick [0, 1, 3, 4, 2, 5] rfl rfl), hm⟩
              · rintro k2 a w ⟨v145, v147, v148, v149, v150, s146, hs, hM, hm⟩
                rw [law04_BitsOnes_l2.eq_2] at hm
                refine CW.enter hs hM ?_
                refine CW.seq ?_
                refine CW.seq ?_
                refine CW.region ?_
                refine RW.yi (.int .i64 v150) rfl rfl (Yi.pv _ rfl) ?_
                refine RW.yi (.bool (decide (0 ≤ v150))) rfl rfl (Yi.pv _ rfl) ?_
                refine RW.nil ?_
                refine EW.next ?_
                refine CW.fork 31 (0 ≤ v150) rfl (fun h158 => ?_) (fun h158 => ?_)
                · replace hm := (if_pos h158).symm.trans hm
                  refine CW.cond_true rfl ?_
                  refine CW.skip ?_
                  refine EW.next ?_
                  refine CW.seq ?_
                  refine CW.block ?_
                  refine CW.seq ?_
                  refine CW.region ?_
                  refine RW.yi (.pointer (some ⟨u10, 0, none⟩)) rfl rfl (Yi.pv _ rfl) ?_
                  refine RW.yi (.pointer (some ⟨b137, 0, none⟩)) rfl rfl (Yi.fieldAddr (j := 0) Try.underlying28 rfl Try.sizeOf3 rfl) ?_
                  refine RW.yi (.int .i64 ((a0.getD v99.toNat (0, 0)).1)) rfl rfl (Yi.load1 (i := 4) _ rfl rfl Try.isAgg3 rfl) ?_
                  refine RW.yi (.int .i64 v150) rfl rfl (Yi.pv _ rfl) ?_
                  obtain ⟨g159, hm⟩ := of_guard hm
                  refine RW.yi (.int .i64 (shrI .i64 ((a0.getD v99.toNat (0, 0)).1) v150)) rfl rfl (Yi.shr rfl rfl g159) ?_
                  refine RW.yi (.int .i64 (bitI .and .i64 (shrI .i64 ((a0.getD v99.toNat (0, 0)).1) v150) 1)) rfl rfl (Yi.bits rfl rfl (by simp)) ?_
                  obtain ⟨r160, hr160, hm⟩ := of_bind hm
                  refine RW.callM (cs := []) [.blk u10 60 (#[s146, .int .i64 v147, .int .i64 v148, .int .i64 v149]), .row s146 5 1 v145.length (ec eb v145)] [.blk u9 60 (#[u139, .int .i64 r138.2.1, .int .i64 r138.2.2.1, .int .i64 r138.2.2.2.1]), .row u139 5 1 r138.2.2.2.2.length (ec eb r138.2.2.2.2), .blk b137 28 (#[.int .i64 ((a0.getD v99.toNat (0, 0)).1), .int .i64 ((a0.getD v99.toNat (0, 0)).2)]), ro sa0 2 a0.length (ec e2 a0)] [] [2, 3, 0, 1, 4, 5] (fun (u161 : Value) => [.blk u10 60 (#[u161, .int .i64 r160.2.1, .int .i64 r160.2.2.1, .int .i64 r160.2.2.2.1]), .row u161 5 1 r160.2.2.2.2.length (ec eb r160.2.2.2.2)]) (fun (u161 : Value) => .int .i64 r160.1) rfl rfl rfl rfl Try.call13 rfl rfl rfl (fun w hM => lent0) (.inl fun _ => rfl) (fun w S' hM => c_bits_Writer_Put K v145 v147 v148 v149 (bitI .and .i64 (shrI .i64 ((a0.getD v99.toNat (0, 0)).1) v150) 1) 1 u10 s146 r160 w S' hM hr160) (fun u161 => ?_)
                  refine RW.yi (.bool (decide (¬ r160.1 = 0))) rfl rfl (Yi.pv _ rfl) ?_
                  refine RW.nil ?_
                  refine EW.next ?_
                  refine CW.fork 41 (¬ r160.1 = 0) rfl (fun h163 => ?_) (fun h163 => ?_)
                  · replace hm := (if_pos h163).symm.trans hm
                    refine CW.cond_true rfl ?_
                    refine CW.seq ?_
                    refine CW.region ?_
                    refine RW.yi (.bool false) rfl rfl (Yi.pv _ rfl) ?_
                    refine RW.nil ?_
                    refine EW.next ?_
                    refine CW.ret ?_
                    refine EW.blr ?_
                    refine EW.thr ?_
                    refine EW.thr ?_
                    refine EW.blr ?_
                    refine EW.blr ?_
                    refine EW.thr ?_
                    refine EW.thr ?_
                    refine EW.blr ?_
                    refine EW.thr ?_
                    obtain rfl := Option.some.inj hm
                    exact EW.done (rs := [.tmp 2]) rfl (.tmp (t := 2) (v := .bool false) rfl .nil) (fun _ hM => ⟨(), rfl, (hM.pick [] rfl rfl)⟩)
                  · replace hm := (if_neg h163).symm.trans hm
                    refine CW.cond_false rfl ?_
                    refine CW.skip ?_
                    refine EW.bln ?_
                    refine EW.next ?_
                    refine CW.region ?_
                    refine RW.yi (.int .i64 v150) rfl rfl (Yi.pv _ rfl) ?_
                    refine RW.yi (.int .i64 (w64 (v150 - 1))) rfl rfl (Yi.pv _ rfl) ?_
                    refine RW.yi (.int .i64 (w64 (v150 - 1))) rfl rfl (Yi.pv _ rfl) ?_
                    refine RW.nil ?_
                    refine EW.thn ?_
                    exact fun a w hs hM => ⟨r160.2.2.2.2, r160.2.1, r160.2.2.1, r160.2.2.2.1, (w64 (v150 - 1)), u161, hs.sub ⟨rfl, rfl, rfl, rfl, rfl, rfl, rfl, trivial⟩, (hM.pick [2, 3, 0, 1, 4, 5] rfl rfl), hm⟩
                · replace hm := (if_neg h158).symm.trans hm
                  refine CW.cond_false rfl ?_
                  refine CW.exit ?_
                  refine EW.thx ?_
                  refine EW.thx ?_
                  refine EW.blx ?_
                  refine EW.bln ?_
                  refine EW.thn ?_
                  exact fun a w hs hM => ⟨r138.2.2.2.2, r138.2.1, r138.2.2.1, r138.2.2.2.1, v145, v147, v148, v149, u139, s146, hs.sub ⟨rfl, rfl, rfl, rfl, rfl, trivial⟩, (hM.pick [0, 1, 2, 3, 5] rfl rfl), hm⟩
          · rintro a w ⟨v125, v127, v128, v129, v131, v133, v134, v135, s126, s132, hs, hM, hm⟩
            unfold law04_BitsOnes_j2 at hm
            refine CW.enter hs hM ?_
            refine CW.region ?_
            refine RW.yi (.int .i64 (w64 (v99 + 1))) rfl rfl (Yi.pv _ rfl) ?_
            refine RW.yi (.int .i64 (w64 (v99 + 1))) rfl rfl (Yi.pv _ rfl) ?_
            refine RW.nil ?_
            refine EW.thn ?_
            exact fun a w hs hM => ⟨v125, v127, v128, v129, v131, v133, v134, v135, (w64 (v99 + 1)), s126, s132, hs.sub ⟨rfl, rfl, rfl, rfl, rfl, trivial⟩, (hM.pick [0, 1, 2, 3, 4] rfl rfl), hm⟩
        · replace hm := (if_neg h113).symm.trans hm
          refine CW.cond_false rfl ?_
          refine CW.exit ?_
          refine EW.thx ?_
          refine EW.thx ?_
          refine EW.blx ?_
          refine EW.thn ?_
          exact fun a w hs hM => ⟨v88, v90, v91, v92, v94, v96, v97, v98, s89, s95, hs.sub ⟨rfl, rfl, trivial⟩, (hM.pick [0, 1, 2, 3] rfl rfl), hm⟩
    · rintro a w ⟨v11, v13, v14, v15, v16, v18, v19, v20, s12, s17, hs, hM, hm⟩
      unfold law04_BitsOnes_j1 at hm
      refine CW.enter hs hM ?_
      refine CW.seq ?_
      obtain ⟨r21, hr21, hm⟩ := of_bind hm
      obtain ⟨r22, hr22, hm⟩ := of_bind hm
      by_cases h23 : v15 = v20
      · replace hm := (if_pos h23).symm.trans hm
        obtain ⟨r24, hr24, hm⟩ := of_bind hm
        obtain ⟨r25, hr25, hm⟩ := of_bind hm
        by_cases h26 : (bs r24).toList = (bs r25).toList
        · replace hm := (if_pos h26).symm.trans hm
          obtain ⟨r27, hr27, hm⟩ := of_bind hm
          refine CW.held (m := 18) [.blk u9 60 (#[s12, .int .i64 v13, .int .i64 v14, .int .i64 v15]), .blk u10 60 (#[s17, .int .i64 v18, .int .i64 v19, .int .i64 v20])] (by kernel_rfl) (by kernel_rfl) (by kernel_rfl) (fun A38 hA38 hns => ?_)
          have hA38_111111111111111111 : ∀ (u32 : Value) (u35 : Value), A38 0 #[true, true, true, true, true, true, true, true, true, true, true, true, true, true, true, true, true, true] [(2, .bool r27)] [.row u35 5 1 r25.length (ec eb r25), .blk u10 60 (#[s17, .int .i64 v18, .int .i64 v19, .int .i64 v20]), .row s17 5 1 v16.length (ec eb v16), .row u32 5 1 r24.length (ec eb r24), .blk u9 60 (#[s12, .int .i64 v13, .int .i64 v14, .int .i64 v15]), .row s12 5 1 v11.length (ec eb v11)] := by
            intro u32 u35
            rw [hA38]
            refine AW.fin (by kernel_rfl) ?_
            refine EW.next ?_
            refine CW.ret ?_
            obtain rfl := Option.some.inj hm
            exact EW.done (rs := [.tmp 2]) rfl (.tmp (t := 2) (v := .bool r27) rfl .nil) (fun _ hM => ⟨(), rfl, (hM.pick [] rfl rfl)⟩)
          have hA38_111111111111111000 : ∀ (u43 : Value) (u46 : Value), A38 3 #[true, true, true, true, true, true, true, true, true, true, true, true, true, true, true, false, false, false] [(57, .bool true)] [.row u46 5 1 r25.length (ec eb r25), .blk u10 60 (#[s17, .int .i64 v18, .int .i64 v19, .int .i64 v20]), .row s17 5 1 v16.length (ec eb v16), .row u43 5 1 r24.length (ec eb r24), .blk u9 60 (#[s12, .int .i64 v13, .int .i64 v14, .int .i64 v15]), .row s12 5 1 v11.length (ec eb v11)] := by
            intro u43 u46
            rw [hA38]
            refine AW.step 15 [] (by kernel_rfl) ⟨⟨_, rfl, ?_⟩, trivial⟩
            · refine RW.ca (.bool r27) rfl rfl (Ca.call (cs := []) [] rfl rfl Try.call10 (fun w hM => lent0) (fun w S' hM => (c_law04_awake K  r27 w S' hM hr27).mono (fun _ _ h => by obtain ⟨_, h1, h2⟩ := h; exact ⟨h1, h2⟩))) ?_
              refine RW.nil ?_
              refine AW.on (done' := #[true, true, true, true, true, true, true, true, true, true, true, true, true, true, true, true, false, false]) rfl [4, 1] rfl rfl ?_
              refine AW.take 16 (done' := #[true, true, true, true, true, true, true, true, true, true, true, true, true, true, true, true, true, false]) (.bool r27) [4, 1] hns rfl rfl rfl (by kernel_rfl) (by kernel_rfl) rfl rfl rfl (by kernel_rfl) (fun _ _ => Yi.pv _ rfl) ?_
              refine AW.take 17 (done' := #[true, true, true, true, true, true, true, true, true, true, true, true, true, true, true, true, true, true]) (.bool r27) [4, 1] hns rfl rfl rfl (by kernel_rfl) (by kernel_rfl) rfl rfl rfl (by kernel_rfl) (fun _ _ => Yi.pv _ rfl) ?_
              have ht := hA38_111111111111111111 u43 u46
              rw [hA38] at ht
              refine AW.to [0, 1, 2, 3, 4, 5] rfl rfl ?_ ht
              exact ⟨rfl, trivial⟩
          have hA38_111111111110000000 : ∀ (u43 : Value) (u46 : Value), A38 7 #[true, true, true, true, true, true, true, true, true, true, true, false, false, false, false, false, false, false] [(48, .bool true), (51, .string (bs r24)), (53, u46)] [.row u46 5 1 r25.length (ec eb r25), .blk u10 60 (#[s17, .int .i64 v18, .int .i64 v19, .int .i64 v20]), .row s17 5 1 v16.length (ec eb v16), .row u43 5 1 r24.length (ec eb r24), .blk u9 60 (#[s12, .int .i64 v13, .int .i64 v14, .int .i64 v15]), .row s12 5 1 v11.length (ec eb v11)] := by
            intro u43 u46
            rw [hA38]
            refine AW.step 11 [] (by kernel_rfl) ⟨⟨_, rfl, ?_⟩, trivial⟩
            · refine RW.yi (.string (bs r25)) rfl rfl (Yi.str (xs := r25) Try.underlying34 Try.underlying5 Try.underlying9 rfl (rdW 0 rfl)) ?_
              refine RW.nil ?_
              refine AW.on (done' := #[true, true, true, true, true, true, true, true, true, true, true, true, false, false, false, false, false, false]) rfl [4, 1] rfl rfl ?_
              refine AW.take 12 (done' := #[true, true, true, true, true, true, true, true, true, true, true, true, true, false, false, false, false, false]) (.bool (decide ((bs r24).toList = (bs r25).toList))) [4, 1] hns rfl rfl rfl (by kernel_rfl) (by kernel_rfl) rfl rfl rfl (by kernel_rfl) (fun _ _ => Yi.eqStr rfl rfl) ?_
              refine AW.take 13 (done' := #[true, true, true, true, true, true, true, true, true, true, true, true, true, true, false, false, false, false]) (.bool (decide ((bs r24).toList = (bs r25).toList))) [4, 1] hns rfl rfl rfl (by kernel_rfl) (by kernel_rfl) rfl rfl rfl (by kernel_rfl) (fun _ _ => Yi.pv _ rfl) ?_
              refine AW.take 14 (done' := #[true, true, true, true, true, true, true, true, true, true, true, true, true, true, true, false, false, false]) (.bool (decide ((bs r24).toList = (bs r25).toList))) [4, 1] hns rfl rfl rfl (by kernel_rfl) (by kernel_rfl) rfl rfl rfl (by kernel_rfl) (fun _ _ => Yi.pv _ rfl) ?_
              refine AW.fork 57 ((bs r24).toList = (bs r25).toList) rfl (fun _ => ?_) (fun h => absurd h26 h)
              have ht := hA38_111111111111111000 u43 u46
              rw [hA38] at ht
              refine AW.to [0, 1, 2, 3, 4, 5] rfl rfl ?_ ht
              exact ⟨rfl, trivial⟩
          have hA38_111111111100000000 : ∀ (u43 : Value), A38 8 #[true, true, true, true, true, true, true, true, true, true, false, false, false, false, false, false, false, false] [(48, .bool true), (51, .string (bs r24)), (52, .pointer (some ⟨u10, 0, none⟩))] [.row u43 5 1 r24.length (ec eb r24), .blk u9 60 (#[s12, .int .i64 v13, .int .i64 v14, .int .i64 v15]), .row s12 5 1 v11.length (ec eb v11), .blk u10 60 (#[s17, .int .i64 v18, .int .i64 v19, .int .i64 v20]), .row s17 5 1 v16.length (ec eb v16)] := by
            intro u43
            rw [hA38]
            refine AW.step 10 [] (by kernel_rfl) ⟨⟨_, rfl, ?_⟩, trivial⟩
            · refine RW.callM (cs := []) [.blk u10 60 (#[s17, .int .i64 v18, .int .i64 v19, .int .i64 v20]), .row s17 5 1 v16.length (ec eb v16)] [.row u43 5 1 r24.length (ec eb r24), .blk u9 60 (#[s12, .int .i64 v13, .int .i64 v14, .int .i64 v15]), .row s12 5 1 v11.length (ec eb v11)] [] [3, 4, 0, 1, 2] (fun (u46 : Value) => [.row u46 5 1 r25.length (ec eb r25), .blk u10 60 (#[s17, .int .i64 v18, .int .i64 v19, .int .i64 v20]), .row s17 5 1 v16.length (ec eb v16)]) (fun (u46 : Value) => u46) rfl rfl rfl rfl Try.call15 rfl rfl rfl (fun w hM => lent0) (.inl fun _ => rfl) (fun w S' hM => c_bits_Writer_Bytes K v16 v18 v19 v20 u10 s17 r25 w S' hM hr25) (fun u46 => ?_)
              refine RW.nil ?_
              refine AW.on (done' := #[true, true, true, true, true, true, true, true, true, true, true, false, false, false, false, false, false, false]) rfl [4, 1] rfl rfl ?_
              have ht := hA38_111111111110000000 u43 u46
              rw [hA38] at ht
              refine AW.to [0, 1, 2, 3, 4, 5] rfl rfl ?_ ht
              exact ⟨rfl, rfl, rfl, trivial⟩
          have hA38_111111110111000000 : ∀ (u43 : Value) (u49 : Value), A38 7 #[true, true, true, true, true, true, true, true, false, true, true, true, false, false, false, false, false, false] [(48, .bool true), (50, u43), (54, .string (bs r25))] [.row u49 5 1 r25.length (ec eb r25), .blk u10 60 (#[s17, .int .i64 v18, .int .i64 v19, .int .i64 v20]), .row s17 5 1 v16.length (ec eb v16), .row u43 5 1 r24.length (ec eb r24), .blk u9 60 (#[s12, .int .i64 v13, .int .i64 v14, .int .i64 v15]), .row s12 5 1 v11.length (ec eb v11)] := by
            intro u43 u49
            rw [hA38]
            refine AW.step 8 [] (by kernel_rfl) ⟨⟨_, rfl, ?_⟩, trivial⟩
            · refine RW.yi (.string (bs r24)) rfl rfl (Yi.str (xs := r24) Try.underlying34 Try.underlying5 Try.underlying9 rfl (rdW 3 rfl)) ?_
              refine RW.nil ?_
              refine AW.on (done' := #[true, true, true, true, true, true, true, true, true, true, true, true, false, false, false, false, false, false]) rfl [4, 1] rfl rfl ?_
              refine AW.take 12 (done' := #[true, true, true, true, true, true, true, true, true, true, true, true, true, false, false, false, false, false]) (.bool (decide ((bs r24).toList = (bs r25).toList))) [4, 1] hns rfl rfl rfl (by kernel_rfl) (by kernel_rfl) rfl rfl rfl (by kernel_rfl) (fun _ _ => Yi.eqStr rfl rfl) ?_
              refine AW.take 13 (done' := #[true, true, true, true, true, true, true, true, true, true, true, true, true, true, false, false, false, false]) (.bool (decide ((bs r24).toList = (bs r25).toList))) [4, 1] hns rfl rfl rfl (by kernel_rfl) (by kernel_rfl) rfl rfl rfl (by kernel_rfl) (fun _ _ => Yi.pv _ rfl) ?_
              refine AW.take 14 (done' := #[true, true, true, true, true, true, true, true, true, true, true, true, true, true, true, false, false, false]) (.bool (decide ((bs r24).toList = (bs r25).toList))) [4, 1] hns rfl rfl rfl (by kernel_rfl) (by kernel_rfl) rfl rfl rfl (by kernel_rfl) (fun _ _ => Yi.pv _ rfl) ?_
              refine AW.fork 57 ((bs r24).toList = (bs r25).toList) rfl (fun _ => ?_) (fun h => absurd h26 h)
              have ht := hA38_111111111111111000 u43 u49
              rw [hA38] at ht
              refine AW.to [0, 1, 2, 3, 4, 5] rfl rfl ?_ ht
              exact ⟨rfl, trivial⟩
          have hA38_111111110110000000 : ∀ (u43 : Value) (u49 : Value), A38 8 #[true, true, true, true, true, true, true, true, false, true, true, false, false, false, false, false, false, false] [(48, .bool true), (50, u43), (53, u49)] [.row u49 5 1 r25.length (ec eb r25), .blk u10 60 (#[s17, .int .i64 v18, .int .i64 v19, .int .i64 v20]), .row s17 5 1 v16.length (ec eb v16), .row u43 5 1 r24.length (ec eb r24), .blk u9 60 (#[s12, .int .i64 v13, .int .i64 v14, .int .i64 v15]), .row s12 5 1 v11.length (ec eb v11)] := by
            intro u43 u49
            rw [hA38]
            refine AW.step 8 [11] (by kernel_rfl) ⟨⟨_, rfl, ?_⟩, ⟨_, rfl, ?_⟩, trivial⟩
            · refine RW.yi (.string (bs r24)) rfl rfl (Yi.str (xs := r24) Try.underlying34 Try.underlying5 Try.underlying9 rfl (rdW 3 rfl)) ?_
              refine RW.nil ?_
              refine AW.on (done' := #[true, true, true, true, true, true, true, true, true, true, true, false, false, false, false, false, false, false]) rfl [4, 1] rfl rfl ?_
              have ht := hA38_111111111110000000 u43 u49
              rw [hA38] at ht
              refine AW.to [0, 1, 2, 3, 4, 5] rfl rfl ?_ ht
              exact ⟨rfl, rfl, rfl, trivial⟩
            · refine RW.yi (.string (bs r25)) rfl rfl (Yi.str (xs := r25) Try.underlying34 Try.underlying5 Try.underlying9 rfl (rdW 0 rfl)) ?_
              refine RW.nil ?_
              refine AW.on (done' := #[true, true, true, true, true, true, true, true, false, true, true, true, false, false, false, false, false, false]) rfl [4, 1] rfl rfl ?_
              have ht := hA38_111111110111000000 u43 u49
              rw [hA38] at ht
              refine AW.to [0, 1, 2, 3, 4, 5] rfl rfl ?_ ht
              exact ⟨rfl, rfl, rfl, trivial⟩
          have hA38_111111110100000000 : ∀ (u43 : Value), A38 9 #[true, true, true, true, true, true, true, true, false, true, false, false, false, false, false, false, false, false] [(48, .bool true), (50, u43), (52, .pointer (some ⟨u10, 0, none⟩))] [.row u43 5 1 r24.length (ec eb r24), .blk u9 60 (#[s12, .int .i64 v13, .int .i64 v14, .int .i64 v15]), .row s12 5 1 v11.length (ec eb v11), .blk u10 60 (#[s17, .int .i64 v18, .int .i64 v19, .int .i64 v20]), .row s17 5 1 v16.length (ec eb v16)] := by
            intro u43
            rw [hA38]
            refine AW.step 8 [10] (by kernel_rfl) ⟨⟨_, rfl, ?_⟩, ⟨_, rfl, ?_⟩, trivial⟩
            · refine RW.yi (.string (bs r24)) rfl rfl (Yi.str (xs := r24) Try.underlying34 Try.underlying5 Try.underlying9 rfl (rdW 0 rfl)) ?_
              refine RW.nil ?_
              refine AW.on (done' := #[true, true, true, true, true, true, true, true, true, true, false, false, false, false, false, false, false, false]) rfl [1, 3] rfl rfl ?_
              have ht := hA38_111111111100000000 u43
              rw [hA38] at ht
              refine AW.to [0, 1, 2, 3, 4] rfl rfl ?_ ht
              exact ⟨rfl, rfl, rfl, trivial⟩
            · refine RW.callM (cs := []) [.blk u10 60 (#[s17, .int .i64 v18, .int .i64 v19, .int .i64 v20]), .row s17 5 1 v16.length (ec eb v16)] [.row u43 5 1 r24.length (ec eb r24), .blk u9 60 (#[s12, .int .i64 v13, .int .i64 v14, .int .i64 v15]), .row s12 5 1 v11.length (ec eb v11)] [] [3, 4, 0, 1, 2] (fun (u49 : Value) => [.row u49 5 1 r25.length (ec eb r25), .blk u10 60 (#[s17, .int .i64 v18, .int .i64 v19, .int .i64 v20]), .row s17 5 1 v16.length (ec eb v16)]) (fun (u49 : Value) => u49) rfl rfl rfl rfl Try.call15 rfl rfl rfl (fun w hM => lent0) (.inl fun _ => rfl) (fun w S' hM => c_bits_Writer_Bytes K v16 v18 v19 v20 u10 s17 r25 w S' hM hr25) (fun u49 => ?_)
              refine RW.nil ?_
              refine AW.on (done' := #[true, true, true, true, true, true, true, true, false, true, true, false, false, false, false, false, false, false]) rfl [4, 1] rfl rfl ?_
              have ht := hA38_111111110110000000 u43 u49
              rw [hA38] at ht
              refine AW.to [0, 1, 2, 3, 4, 5] rfl rfl ?_ ht
              exact ⟨rfl, rfl, rfl, trivial⟩
          have hA38_111111100100000000 : A38 10 #[true, true, true, true, true, true, true, false, false, true, false, false, false, false, false, false, false, false] [(48, .bool true), (49, .pointer (some ⟨u9, 0, none⟩)), (52, .pointer (some ⟨u10, 0, none⟩))] [.blk u10 60 (#[s17, .int .i64 v18, .int .i64 v19, .int .i64 v20]), .row s17 5 1 v16.length (ec eb v16), .blk u9 60 (#[s12, .int .i64 v13, .int .i64 v14, .int .i64 v15]), .row s12 5 1 v11.length (ec eb v11)] := by
            rw [hA38]
            refine AW.step 7 [] (by kernel_rfl) ⟨⟨_, rfl, ?_⟩, trivial⟩
            · refine RW.callM (cs := []) [.blk u9 60 (#[s12, .int .i64 v13, .int .i64 v14, .int .i64 v15]), .row s12 5 1 v11.length (ec eb v11)] [.blk u10 60 (#[s17, .int .i64 v18, .int .i64 v19, .int .i64 v20]), .row s17 5 1 v16.length (ec eb v16)] [] [2, 3, 0, 1] (fun (u43 : Value) => [.row u43 5 1 r24.length (ec eb r24), .blk u9 60 (#[s12, .int .i64 v13, .int .i64 v14, .int .i64 v15]), .row s12 5 1 v11.length (ec eb v11)]) (fun (u43 : Value) => u43) rfl rfl rfl rfl Try.call15 rfl rfl rfl (fun w hM => lent0) (.inl fun _ => rfl) (fun w S' hM => c_bits_Writer_Bytes K v11 v13 v14 v15 u9 s12 r24 w S' hM hr24) (fun u43 => ?_)
              refine RW.nil ?_
              refine AW.on (done' := #[true, true, true, true, true, true, true, true, false, true, false, false, false, false, false, false, false, false]) rfl [1, 3] rfl rfl ?_
              have ht := hA38_111111110100000000 u43
              rw [hA38] at ht
              refine AW.to [0, 1, 2, 3, 4] rfl rfl ?_ ht
              exact ⟨rfl, rfl, rfl, trivial⟩
          have hA38_111000000000000000 : A38 15 #[true, true, true, false, false, false, false, false, false, false, false, false, false, false, false, false, false, false] [(3, .pointer (some ⟨u9, 0, none⟩)), (4, .pointer (some ⟨u10, 0, none⟩)), (44, .int .i64 v15), (45, .pointer (some ⟨u10, 0, none⟩))] [.blk u9 60 (#[s12, .int .i64 v13, .int .i64 v14, .int .i64 v15]), .row s12 5 1 v11.length (ec eb v11), .blk u10 60 (#[s17, .int .i64 v18, .int .i64 v19, .int .i64 v20]), .row s17 5 1 v16.length (ec eb v16)] := by
            rw [hA38]
            refine AW.step 3 [] (by kernel_rfl) ⟨⟨_, rfl, ?_⟩, trivial⟩
            · refine RW.callM (cs := []) [.blk u10 60 (#[s17, .int .i64 v18, .int .i64 v19, .int .i64 v20]), .row s17 5 1 v16.length (ec eb v16)] [.blk u9 60 (#[s12, .int .i64 v13, .int .i64 v14, .int .i64 v15]), .row s12 5 1 v11.length (ec eb v11)] [] [2, 3, 0, 1] (fun (_ : Unit) => [.blk u10 60 (#[s17, .int .i64 v18, .int .i64 v19, .int .i64 v20]), .row s17 5 1 v16.length (ec eb v16)]) (fun (_ : Unit) => .int .i64 v20) rfl rfl rfl rfl Try.call14 rfl rfl rfl (fun w hM => lent0) (.inl fun _ => rfl) (fun w S' hM => c_bits_Writer_Count K v16 v18 v19 v20 u10 s17 r22 w S' hM hr22) (fun _ => ?_)
              refine RW.nil ?_
              refine AW.on (done' := #[true, true, true, true, false, false, false, false, false, false, false, false, false, false, false, false, false, false]) rfl [2, 0] rfl rfl ?_
              refine AW.take 4 (done' := #[true, true, true, true, true, false, false, false, false, false, false, false, false, false, false, false, false, false]) (.bool (decide (v15 = v20))) [2, 0] hns rfl rfl rfl (by kernel_rfl) (by kernel_rfl) rfl rfl rfl (by kernel_rfl) (fun _ _ => Yi.pv _ rfl) ?_
              refine AW.take 5 (done' := #[true, true, true, true, true, true, false, false, false, false, false, false, false, false, false, false, false, false]) (.bool (decide (v15 = v20))) [2, 0] hns rfl rfl rfl (by kernel_rfl) (by kernel_rfl) rfl rfl rfl (by kernel_rfl) (fun _ _ => Yi.pv _ rfl) ?_
              refine AW.fork 48 (v15 = v20) rfl (fun _ => ?_) (fun h => absurd h23 h)
              refine AW.take 6 (done' := #[true, true, true, true, true, true, true, false, false, false, false, false, false, false, false, false, false, false]) (.pointer (some ⟨u9, 0, none⟩)) [2, 0] hns rfl rfl rfl (by kernel_rfl) (by kernel_rfl) rfl rfl rfl (by kernel_rfl) (fun _ _ => Yi.pv _ rfl) ?_
              refine AW.take 9 (done' := #[true, true, true, true, true, true, true, false, false, true, false, false, false, false, false, false, false, false]) (.pointer (some ⟨u10, 0, none⟩)) [2, 0] hns rfl rfl rfl (by kernel_rfl) (by kernel_rfl) rfl rfl rfl (by kernel_rfl) (fun _ _ => Yi.pv _ rfl) ?_
              have ht := hA38_111111100100000000
              rw [hA38] at ht
              refine AW.to [0, 1, 2, 3] rfl rfl ?_ ht
              exact ⟨rfl, rfl, rfl, trivial⟩
          have hA38_101000000000000000 : A38 16 #[true, false, true, false, false, false, false, false, false, false, false, false, false, false, false, false, false, false] [(3, .pointer (some ⟨u9, 0, none⟩)), (4, .pointer (some ⟨u10, 0, none⟩)), (43, .pointer (some ⟨u9, 0, none⟩)), (45, .pointer (some ⟨u10, 0, none⟩))] [.blk u9 60 (#[s12, .int .i64 v13, .int .i64 v14, .int .i64 v15]), .row s12 5 1 v11.length (ec eb v11), .blk u10 60 (#[s17, .int .i64 v18, .int .i64 v19, .int .i64 v20]), .row s17 5 1 v16.length (ec eb v16)] := by
            rw [hA38]
            refine AW.step 1 [] (by kernel_rfl) ⟨⟨_, rfl, ?_⟩, trivial⟩
            · refine RW.callM (cs := []) [.blk u9 60 (#[s12, .int .i64 v13, .int .i64 v14, .int .i64 v15]), .row s12 5 1 v11.length (ec eb v11)] [.blk u10 60 (#[s17, .int .i64 v18, .int .i64 v19, .int .i64 v20]), .row s17 5 1 v16.length (ec eb v16)] [] [0, 1, 2, 3] (fun (_ : Unit) => [.blk u9 60 (#[s12, .int .i64 v13, .int .i64 v14, .int .i64 v15]), .row s12 5 1 v11.length (ec eb v11)]) (fun (_ : Unit) => .int .i64 v15) rfl rfl rfl rfl Try.call14 rfl rfl rfl (fun w hM => lent0) (.inl fun _ => rfl) (fun w S' hM => c_bits_Writer_Count K v11 v13 v14 v15 u9 s12 r21 w S' hM hr21) (fun _ => ?_)
              refine RW.nil ?_
              refine AW.on (done' := #[true, true, true, false, false, false, false, false, false, false, false, false, false, false, false, false, false, false]) rfl [0, 2] rfl rfl ?_
              have ht := hA38_111000000000000000
              rw [hA38] at ht
              refine AW.to [0, 1, 2, 3] rfl rfl ?_ ht
              exact ⟨rfl, rfl, rfl, rfl, trivial⟩
          rw [hA38]
          refine AW.take 0 (done' := #[true, false, false, false, false, false, false, false, false, false, false, false, false, false, false, false, false, false]) (.pointer (some ⟨u9, 0, none⟩)) [0, 2] hns rfl rfl rfl (by kernel_rfl) (by kernel_rfl) rfl rfl rfl (by kernel_rfl) (fun _ _ => Yi.pv _ rfl) ?_
          refine AW.take 2 (done' := #[true, false, true, false, false, false, false, false, false, false, false, false, false, false, false, false, false, false]) (.pointer (some ⟨u10, 0, none⟩)) [0, 2] hns rfl rfl rfl (by kernel_rfl) (by kernel_rfl) rfl rfl rfl (by kernel_rfl) (fun _ _ => Yi.pv _ rfl) ?_
          have ht := hA38_101000000000000000
          rw [hA38] at ht
          refine AW.to [0, 1, 2, 3] rfl rfl ?_ ht
          exact ⟨rfl, rfl, rfl, rfl, trivial⟩
        · replace hm := (if_neg h26).symm.trans hm
          refine CW.held (m := 18) [.blk u9 60 (#[s12, .int .i64 v13, .int .i64 v14, .int .i64 v15]), .blk u10 60 (#[s17, .int .i64 v18, .int .i64 v19, .int .i64 v20])] (by kernel_rfl) (by kernel_rfl) (by kernel_rfl) (fun A62 hA62 hns => ?_)
          have hA62_111111111111111111 : ∀ (u56 : Value) (u59 : Value), A62 0 #[true, true, true, true, true, true, true, true, true, true, true, true, true, true, true, true, true, true] [(2, .bool false)] [.row u59 5 1 r25.length (ec eb r25), .blk u10 60 (#[s17, .int .i64 v18, .int .i64 v19, .int .i64 v20]), .row s17 5 1 v16.length (ec eb v16), .row u56 5 1 r24.length (ec eb r24), .blk u9 60 (#[s12, .int .i64 v13, .int .i64 v14, .int .i64 v15]), .row s12 5 1 v11.length (ec eb v11)] := by
            intro u56 u59
            rw [hA62]
            refine AW.fin (by kernel_rfl) ?_
            refine EW.next ?_
            refine CW.ret ?_
            obtain rfl := Option.some.inj hm
            exact EW.done (rs := [.tmp 2]) rfl (.tmp (t := 2) (v := .bool false) rfl .nil) (fun _ hM => ⟨(), rfl, (hM.pick [] rfl rfl)⟩)
          have hA62_111111111110000000 : ∀ (u67 : Value) (u70 : Value), A62 7 #[true, true, true, true, true, true, true, true, true, true, true, false, false, false, false, false, false, false] [(48, .bool true), (51, .string (bs r24)), (53, u70)] [.row u70 5 1 r25.length (ec eb r25), .blk u10 60 (#[s17, .int .i64 v18, .int .i64 v19, .int .i64 v20]), .row s17 5 1 v16.length (ec eb v16), .row u67 5 1 r24.length (ec eb r24), .blk u9 60 (#[s12, .int .i64 v13, .int .i64 v14, .int .i64 v15]), .row s12 5 1 v11.length (ec eb v11)] := by
            intro u67 u70
            rw [hA62]
            refine AW.step 11 [] (by kernel_rfl) ⟨⟨_, rfl, ?_⟩, trivial⟩
            · refine RW.yi (.string (bs r25)) rfl rfl (Yi.str (xs := r25) Try.underlying34 Try.underlying5 Try.underlying9 rfl (rdW 0 rfl)) ?_
              refine RW.nil ?_
              refine AW.on (done' := #[true, true, true, true, true, true, true, true, true, true, true, true, false, false, false, false, false, false]) rfl [4, 1] rfl rfl ?_
              refine AW.take 12 (done' := #[true, true, true, true, true, true, true, true, true, true, true, true, true, false, false, false, false, false]) (.bool (decide ((bs r24).toList = (bs r25).toList))) [4, 1] hns rfl rfl rfl (by kernel_rfl) (by kernel_rfl) rfl rfl rfl (by kernel_rfl) (fun _ _ => Yi.eqStr rfl rfl) ?_
              refine AW.take 13 (done' := #[true, true, true, true, true, true, true, true, true, true, true, true, true, true, false, false, false, false]) (.bool (decide ((bs r24).toList = (bs r25).toList))) [4, 1] hns rfl rfl rfl (by kernel_rfl) (by kernel_rfl) rfl rfl rfl (by kernel_rfl) (fun _ _ => Yi.pv _ rfl) ?_
              refine AW.take 14 (done' := #[true, true, true, true, true, true, true, true, true, true, true, true, true, true, true, false, false, false]) (.bool (decide ((bs r24).toList = (bs r25).toList))) [4, 1] hns rfl rfl rfl (by kernel_rfl) (by kernel_rfl) rfl rfl rfl (by kernel_rfl) (fun _ _ => Yi.pv _ rfl) ?_
              refine AW.fork 57 ((bs r24).toList = (bs r25).toList) rfl (fun h => absurd h h26) (fun _ => ?_)
              refine AW.pass 15 (done' := #[true, true, true, true, true, true, true, true, true, true, true, true, true, true, true, true, false, false]) [4, 1] hns rfl rfl rfl (by kernel_rfl) (by kernel_rfl) rfl rfl rfl (by kernel_rfl) ?_
              refine AW.take 16 (done' := #[true, true, true, true, true, true, true, true, true, true, true, true, true, true, true, true, true, false]) (.bool false) [4, 1] hns rfl rfl rfl (by kernel_rfl) (by kernel_rfl) rfl rfl rfl (by kernel_rfl) (fun _ _ => Yi.pv _ rfl) ?_
              refine AW.take 17 (done' := #[true, true, true, true, true, true, true, true, true, true, true, true, true, true, true, true, true, true]) (.bool false) [4, 1] hns rfl rfl rfl (by kernel_rfl) (by kernel_rfl) rfl rfl rfl (by kernel_rfl) (fun _ _ => Yi.pv _ rfl) ?_
              have ht := hA62_111111111111111111 u67 u70
              rw [hA62] at ht
              refine AW.to [0, 1, 2, 3, 4, 5] rfl rfl ?_ ht
              exact ⟨rfl, trivial⟩
          have hA62_111111111100000000 : ∀ (u67 : Value), A62 8 #[true, true, true, true, true, true, true, true, true, true, false, false, false, false, false, false, false, false] [(48, .bool true), (51, .string (bs r24)), (52, .pointer (some ⟨u10, 0, none⟩))] [.row u67 5 1 r24.length (ec eb r24), .blk u9 60 (#[s12, .int .i64 v13, .int .i64 v14, .int .i64 v15]), .row s12 5 1 v11.length (ec eb v11), .blk u10 60 (#[s17, .int .i64 v18, .int .i64 v19, .int .i64 v20]), .row s17 5 1 v16.length (ec eb v16)] := by
            intro u67
            rw [hA62]
            refine AW.step 10 [] (by kernel_rfl) ⟨⟨_, rfl, ?_⟩, trivial⟩
            · refine RW.callM (cs := []) [.blk u10 60 (#[s17, .int .i64 v18, .int .i64 v19, .int .i64 v20]), .row s17 5 1 v16.length (ec eb v16)] [.row u67 5 1 r24.length (ec eb r24), .blk u9 60 (#[s12, .int .i64 v13, .int .i64 v14, .int .i64 v15]), .row s12 5 1 v11.length (ec eb v11)] [] [3, 4, 0, 1, 2] (fun (u70 : Value) => [.row u70 5 1 r25.length (ec eb r25), .blk u10 60 (#[s17, .int .i64 v18, .int .i64 v19, .int .i64 v20]), .row s17 5 1 v16.length (ec eb v16)]) (fun (u70 : Value) => u70) rfl rfl rfl rfl Try.call15 rfl rfl rfl (fun w hM => lent0) (.inl fun _ => rfl) (fun w S' hM => c_bits_Writer_Bytes K v16 v18 v19 v20 u10 s17 r25 w S' hM hr25) (fun u70 => ?_)
              refine RW.nil ?_
              refine AW.on (done' := #[true, true, true, true, true, true, true, true, true, true, true, false, false, false, false, false, false, false]) rfl [4, 1] rfl rfl ?_
              have ht := hA62_111111111110000000 u67 u70
              rw [hA62] at ht
              refine AW.to [0, 1, 2, 3, 4, 5] rfl rfl ?_ ht
              exact ⟨rfl, rfl, rfl, trivial⟩
          have hA62_111111110111000000 : ∀ (u67 : Value) (u73 : Value), A62 7 #[true, true, true, true, true, true, true, true, false, true, true, true, false, false, false, false, false, false] [(48, .bool true), (50, u67), (54, .string (bs r25))] [.row u73 5 1 r25.length (ec eb r25), .blk u10 60 (#[s17, .int .i64 v18, .int .i64 v19, .int .i64 v20]), .row s17 5 1 v16.length (ec eb v16), .row u67 5 1 r24.length (ec eb r24), .blk u9 60 (#[s12, .int .i64 v13, .int .i64 v14, .int .i64 v15]), .row s12 5 1 v11.length (ec eb v11)] := by
            intro u67 u73
            rw [hA62]
            refine AW.step 8 [] (by kernel_rfl) ⟨⟨_, rfl, ?_⟩, trivial⟩
            · refine RW.yi (.string (bs r24)) rfl rfl (Yi.str (xs := r24) Try.underlying34 Try.underlying5 Try.underlying9 rfl (rdW 3 rfl)) ?_
              refine RW.nil ?_
              refine AW.on (done' := #[true, true, true, true, true, true, true, true, true, true, true, true, false, false, false, false, false, false]) rfl [4, 1] rfl rfl ?_
              refine AW.take 12 (done' := #[true, true, true, true, true, true, true, true, true, true, true, true, true, false, false, false, false, false]) (.bool (decide ((bs r24).toList = (bs r25).toList))) [4, 1] hns rfl rfl rfl (by kernel_rfl) (by kernel_rfl) rfl rfl rfl (by kernel_rfl) (fun _ _ => Yi.eqStr rfl rfl) ?_
              refine AW.take 13 (done' := #[true, true, true, true, true, true, true, true, true, true, true, true, true, true, false, false, false, false]) (.bool (decide ((bs r24).toList = (bs r25).toList))) [4, 1] hns rfl rfl rfl (by kernel_rfl) (by kernel_rfl) rfl rfl rfl (by kernel_rfl) (fun _ _ => Yi.pv _ rfl) ?_
              refine AW.take 14 (done' := #[true, true, true, true, true, true, true, true, true, true, true, true, true, true, true, false, false, false]) (.bool (decide ((bs r24).toList = (bs r25).toList))) [4, 1] hns rfl rfl rfl (by kernel_rfl) (by kernel_rfl) rfl rfl rfl (by kernel_rfl) (fun _ _ => Yi.pv _ rfl) ?_
              refine AW.fork 57 ((bs r24).toList = (bs r25).toList) rfl (fun h => absurd h h26) (fun _ => ?_)
              refine AW.pass 15 (done' := #[true, true, true, true, true, true, true, true, true, true, true, true, true, true, true, true, false, false]) [4, 1] hns rfl rfl rfl (by kernel_rfl) (by kernel_rfl) rfl rfl rfl (by kernel_rfl) ?_
              refine AW.take 16 (done' := #[true, true, true, true, true, true, true, true, true, true, true, true, true, true, true, true, true, false]) (.bool false) [4, 1] hns rfl rfl rfl (by kernel_rfl) (by kernel_rfl) rfl rfl rfl (by kernel_rfl) (fun _ _ => Yi.pv _ rfl) ?_
              refine AW.take 17 (done' := #[true, true, true, true, true, true, true, true, true, true, true, true, true, true, true, true, true, true]) (.bool false) [4, 1] hns rfl rfl rfl (by kernel_rfl) (by kernel_rfl) rfl rfl rfl (by kernel_rfl) (fun _ _ => Yi.pv _ rfl) ?_
              have ht := hA62_111111111111111111 u67 u73
              rw [hA62] at ht
              refine AW.to [0, 1, 2, 3, 4, 5] rfl rfl ?_ ht
              exact ⟨rfl, trivial⟩
          have hA62_111111110110000000 : ∀ (u67 : Value) (u73 : Value), A62 8 #[true, true, true, true, true, true, true, true, false, true, true, false, false, false, false, false, false, false] [(48, .bool true), (50, u67), (53, u73)] [.row u73 5 1 r25.length (ec eb r25), .blk u10 60 (#[s17, .int .i64 v18, .int .i64 v19, .int .i64 v20]), .row s17 5 1 v16.length (ec eb v16), .row u67 5 1 r24.length (ec eb r24), .blk u9 60 (#[s12, .int .i64 v13, .int .i64 v14, .int .i64 v15]), .row s12 5 1 v11.length (ec eb v11)] := by
            intro u67 u73
            rw [hA62]
            refine AW.step 8 [11] (by kernel_rfl) ⟨⟨_, rfl, ?_⟩, ⟨_, rfl, ?_⟩, trivial⟩
            · refine RW.yi (.string (bs r24)) rfl rfl (Yi.str (xs := r24) Try.underlying34 Try.underlying5 Try.underlying9 rfl (rdW 3 rfl)) ?_
              refine RW.nil ?_
              refine AW.on (done' := #[true, true, true, true, true, true, true, true, true, true, true, false, false, false, false, false, false, false]) rfl [4, 1] rfl rfl ?_
              have ht := hA62_111111111110000000 u67 u73
              rw [hA62] at ht
              refine AW.to [0, 1, 2, 3, 4, 5] rfl rfl ?_ ht
              exact ⟨rfl, rfl, rfl, trivial⟩
            · refine RW.yi (.string (bs r25)) rfl rfl (Yi.str (xs := r25) Try.underlying34 Try.underlying5 Try.underlying9 rfl (rdW 0 rfl)) ?_
              refine RW.nil ?_
              refine AW.on (done' := #[true, true, true, true, true, true, true, true, false, true, true, true, false, false, false, false, false, false]) rfl [4, 1] rfl rfl ?_
              have ht := hA62_111111110111000000 u67 u73
              rw [hA62] at ht
              refine AW.to [0, 1, 2, 3, 4, 5] rfl rfl ?_ ht
              exact ⟨rfl, rfl, rfl, trivial⟩
          have hA62_111111110100000000 : ∀ (u67 : Value), A62 9 #[true, true, true, true, true, true, true, true, false, true, false, false, false, false, false, false, false, false] [(48, .bool true), (50, u67), (52, .pointer (some ⟨u10, 0, none⟩))] [.row u67 5 1 r24.length (ec eb r24), .blk u9 60 (#[s12, .int .i64 v13, .int .i64 v14, .int .i64 v15]), .row s12 5 1 v11.length (ec eb v11), .blk u10 60 (#[s17, .int .i64 v18, .int .i64 v19, .int .i64 v20]), .row s17 5 1 v16.length (ec eb v16)] := by
            intro u67
            rw [hA62]
            refine AW.step 8 [10] (by kernel_rfl) ⟨⟨_, rfl, ?_⟩, ⟨_, rfl, ?_⟩, trivial⟩
            · refine RW.yi (.string (bs r24)) rfl rfl (Yi.str (xs := r24) Try.underlying34 Try.underlying5 Try.underlying9 rfl (rdW 0 rfl)) ?_
              refine RW.nil ?_
              refine AW.on (done' := #[true, true, true, true, true, true, true, true, true, true, false, false, false, false, false, false, false, false]) rfl [1, 3] rfl rfl ?_
              have ht := hA62_111111111100000000 u67
              rw [hA62] at ht
              refine AW.to [0, 1, 2, 3, 4] rfl rfl ?_ ht
              exact ⟨rfl, rfl, rfl, trivial⟩
            · refine RW.callM (cs := []) [.blk u10 60 (#[s17, .int .i64 v18, .int .i64 v19, .int .i64 v20]), .row s17 5 1 v16.length (ec eb v16)] [.row u67 5 1 r24.length (ec eb r24), .blk u9 60 (#[s12, .int .i64 v13, .int .i64 v14, .int .i64 v15]), .row s12 5 1 v11.length (ec eb v11)] [] [3, 4, 0, 1, 2] (fun (u73 : Value) => [.row u73 5 1 r25.length (ec eb r25), .blk u10 60 (#[s17, .int .i64 v18, .int .i64 v19, .int .i64 v20]), .row s17 5 1 v16.length (ec eb v16)]) (fun (u73 : Value) => u73) rfl rfl rfl rfl Try.call15 rfl rfl rfl (fun w hM => lent0) (.inl fun _ => rfl) (fun w S' hM => c_bits_Writer_Bytes K v16 v18 v19 v20 u10 s17 r25 w S' hM hr25) (fun u73 => ?_)
              refine RW.nil ?_
              refine AW.on (done' := #[true, true, true, true, true, true, true, true, false, true, true, false, false, false, false, false, false, false]) rfl [4, 1] rfl rfl ?_
              have ht := hA62_111111110110000000 u67 u73
              rw [hA62] at ht
              refine AW.to [0, 1, 2, 3, 4, 5] rfl rfl ?_ ht
              exact ⟨rfl, rfl, rfl, trivial⟩
          have hA62_111111100100000000 : A62 10 #[true, true, true, true, true, true, true, false, false, true, false, false, false, false, false, false, false, false] [(48, .bool true), (49, .pointer (some ⟨u9, 0, none⟩)), (52, .pointer (some ⟨u10, 0, none⟩))] [.blk u10 60 (#[s17, .int .i64 v18, .int .i64 v19, .int .i64 v20]), .row s17 5 1 v16.length (ec eb v16), .blk u9 60 (#[s12, .int .i64 v13, .int .i64 v14, .int .i64 v15]), .row s12 5 1 v11.length (ec eb v11)] := by
            rw [hA62]
            refine AW.step 7 [] (by kernel_rfl) ⟨⟨_, rfl, ?_⟩, trivial⟩
            · refine RW.callM (cs := []) [.blk u9 60 (#[s12, .int .i64 v13, .int .i64 v14, .int .i64 v15]), .row s12 5 1 v11.length (ec eb v11)] [.blk u10 60 (#[s17, .int .i64 v18, .int .i64 v19, .int .i64 v20]), .row s17 5 1 v16.length (ec eb v16)] [] [2, 3, 0, 1] (fun (u67 : Value) => [.row u67 5 1 r24.length (ec eb r24), .blk u9 60 (#[s12, .int .i64 v13, .int .i64 v14, .int .i64 v15]), .row s12 5 1 v11.length (ec eb v11)]) (fun (u67 : Value) => u67) rfl rfl rfl rfl Try.call15 rfl rfl rfl (fun w hM => lent0) (.inl fun _ => rfl) (fun w S' hM => c_bits_Writer_Bytes K v11 v13 v14 v15 u9 s12 r24 w S' hM hr24) (fun u67 => ?_)
              refine RW.nil ?_
              refine AW.on (done' := #[true, true, true, true, true, true, true, true, false, true, false, false, false, false, false, false, false, false]) rfl [1, 3] rfl rfl ?_
              have ht := hA62_111111110100000000 u67
              rw [hA62] at ht
              refine AW.to [0, 1, 2, 3, 4] rfl rfl ?_ ht
              exact ⟨rfl, rfl, rfl, trivial⟩
          have hA62_111000000000000000 : A62 15 #[true, true, true, false, false, false, false, false, false, false, false, false, false, false, false, false, false, false] [(3, .pointer (some ⟨u9, 0, none⟩)), (4, .pointer (some ⟨u10, 0, none⟩)), (44, .int .i64 v15), (45, .pointer (some ⟨u10, 0, none⟩))] [.blk u9 60 (#[s12, .int .i64 v13, .int .i64 v14, .int .i64 v15]), .row s12 5 1 v11.length (ec eb v11), .blk u10 60 (#[s17, .int .i64 v18, .int .i64 v19, .int .i64 v20]), .row s17 5 1 v16.length (ec eb v16)] := by
            rw [hA62]
            refine AW.step 3 [] (by kernel_rfl) ⟨⟨_, rfl, ?_⟩, trivial⟩
            · refine RW.callM (cs := []) [.blk u10 60 (#[s17, .int .i64 v18, .int .i64 v19, .int .i64 v20]), .row s17 5 1 v16.length (ec eb v16)] [.blk u9 60 (#[s12, .int .i64 v13, .int .i64 v14, .int .i64 v15]), .row s12 5 1 v11.length (ec eb v11)] [] [2, 3, 0, 1] (fun (_ : Unit) => [.blk u10 60 (#[s17, .int .i64 v18, .int .i64 v19, .int .i64 v20]), .row s17 5 1 v16.length (ec eb v16)]) (fun (_ : Unit) => .int .i64 v20) rfl rfl rfl rfl Try.call14 rfl rfl rfl (fun w hM => lent0) (.inl fun _ => rfl) (fun w S' hM => c_bits_Writer_Count K v16 v18 v19 v20 u10 s17 r22 w S' hM hr22) (fun _ => ?_)
              refine RW.nil ?_
              refine AW.on (done' := #[true, true, true, true, false, false, false, false, false, false, false, false, false, false, false, false, false, false]) rfl [2, 0] rfl rfl ?_
              refine AW.take 4 (done' := #[true, true, true, true, true, false, false, false, false, false, false, false, false, false, false, false, false, false]) (.bool (decide (v15 = v20))) [2, 0] hns rfl rfl rfl (by kernel_rfl) (by kernel_rfl) rfl rfl rfl (by kernel_rfl) (fun _ _ => Yi.pv _ rfl) ?_
              refine AW.take 5 (done' := #[true, true, true, true, true, true, false, false, false, false, false, false, false, false, false, false, false, false]) (.bool (decide (v15 = v20))) [2, 0] hns rfl rfl rfl (by kernel_rfl) (by kernel_rfl) rfl rfl rfl (by kernel_rfl) (fun _ _ => Yi.pv _ rfl) ?_
              refine AW.fork 48 (v15 = v20) rfl (fun _ => ?_) (fun h => absurd h23 h)
              refine AW.take 6 (done' := #[true, true, true, true, true, true, true, false, false, false, false, false, false, false, false, false, false, false]) (.pointer (some ⟨u9, 0, none⟩)) [2, 0] hns rfl rfl rfl (by kernel_rfl) (by kernel_rfl) rfl rfl rfl (by kernel_rfl) (fun _ _ => Yi.pv _ rfl) ?_
              refine AW.take 9 (done' := #[true, true, true, true, true, true, true, false, false, true, false, false, false, false, false, false, false, false]) (.pointer (some ⟨u10, 0, none⟩)) [2, 0] hns rfl rfl rfl (by kernel_rfl) (by kernel_rfl) rfl rfl rfl (by kernel_rfl) (fun _ _ => Yi.pv _ rfl) ?_
              have ht := hA62_111111100100000000
              rw [hA62] at ht
              refine AW.to [0, 1, 2, 3] rfl rfl ?_ ht
              exact ⟨rfl, rfl, rfl, trivial⟩
          have hA62_101000000000000000 : A62 16 #[true, false, true, false, false, false, false, false, false, false, false, false, false, false, false, false, false, false] [(3, .pointer (some ⟨u9, 0, none⟩)), (4, .pointer (some ⟨u10, 0, none⟩)), (43, .pointer (some ⟨u9, 0, none⟩)), (45, .pointer (some ⟨u10, 0, none⟩))] [.blk u9 60 (#[s12, .int .i64 v13, .int .i64 v14, .int .i64 v15]), .row s12 5 1 v11.length (ec eb v11), .blk u10 60 (#[s17, .int .i64 v18, .int .i64 v19, .int .i64 v20]), .row s17 5 1 v16.length (ec eb v16)] := by
            rw [hA62]
            refine AW.step 1 [] (by kernel_rfl) ⟨⟨_, rfl, ?_⟩, trivial⟩
            · refine RW.callM (cs := []) [.blk u9 60 (#[s12, .int .i64 v13, .int .i64 v14, .int .i64 v15]), .row s12 5 1 v11.length (ec eb v11)] [.blk u10 60 (#[s17, .int .i64 v18, .int .i64 v19, .int .i64 v20]), .row s17 5 1 v16.length (ec eb v16)] [] [0, 1, 2, 3] (fun (_ : Unit) => [.blk u9 60 (#[s12, .int .i64 v13, .int .i64 v14, .int .i64 v15]), .row s12 5 1 v11.length (ec eb v11)]) (fun (_ : Unit) => .int .i64 v15) rfl rfl rfl rfl Try.call14 rfl rfl rfl (fun w hM => lent0) (.inl fun _ => rfl) (fun w S' hM => c_bits_Writer_Count K v11 v13 v14 v15 u9 s12 r21 w S' hM hr21) (fun _ => ?_)
              refine RW.nil ?_
              refine AW.on (done' := #[true, true, true, false, false, false, false, false, false, false, false, false, false, false, false, false, false, false]) rfl [0, 2] rfl rfl ?_
              have ht := hA62_111000000000000000
              rw [hA62] at ht
              refine AW.to [0, 1, 2, 3] rfl rfl ?_ ht
              exact ⟨rfl, rfl, rfl, rfl, trivial⟩
          rw [hA62]
          refine AW.take 0 (done' := #[true, false, false, false, false, false, false, false, false, false, false, false, false, false, false, false, false, false]) (.pointer (some ⟨u9, 0, none⟩)) [0, 2] hns rfl rfl rfl (by kernel_rfl) (by kernel_rfl) rfl rfl rfl (by kernel_rfl) (fun _ _ => Yi.pv _ rfl) ?_
          refine AW.take 2 (done' := #[true, false, true, false, false, false, false, false, false, false, false, false, false, false, false, false, false, false]) (.pointer (some ⟨u10, 0, none⟩)) [0, 2] hns rfl rfl rfl (by kernel_rfl) (by kernel_rfl) rfl rfl rfl (by kernel_rfl) (fun _ _ => Yi.pv _ rfl) ?_
          have ht := hA62_101000000000000000
          rw [hA62] at ht
          refine AW.to [0, 1, 2, 3] rfl rfl ?_ ht
          exact ⟨rfl, rfl, rfl, rfl, trivial⟩
      · replace hm := (if_neg h23).symm.trans hm
        refine CW.held (m := 18) [.blk u9 60 (#[s12, .int .i64 v13, .int .i64 v14, .int .i64 v15]), .blk u10 60 (#[s17, .int .i64 v18, .int .i64 v19, .int .i64 v20])] (by kernel_rfl) (by kernel_rfl) (by kernel_rfl) (fun A80 hA80 hns => ?_)
        have hA80_111111111111111111 : A80 0 #[true, true, true, true, true, true, true, true, true, true, true, true, true, true, true, true, true, true] [(2, .bool false)] [.blk u10 60 (#[s17, .int .i64 v18, .int .i64 v19, .int .i64 v20]), .row s17 5 1 v16.length (ec eb v16), .blk u9 60 (#[s12, .int .i64 v13, .int .i64 v14, .int .i64 v15]), .row s12 5 1 v11.length (ec eb v11)] := by
          rw [hA80]
          refine AW.fin (by kernel_rfl) ?_
          refine EW.next ?_
          refine CW.ret ?_
          obtain rfl := Option.some.inj hm
          exact EW.done (rs := [.tmp 2]) rfl (.tmp (t := 2) (v := .bool false) rfl .nil) (fun _ hM => ⟨(), rfl, (hM.pick [] rfl rfl)⟩)
        have hA80_111000000000000000 : A80 15 #[true, true, true, false, false, false, false, false, false, false, false, false, false, false, false, false, false, false] [(3, .pointer (some ⟨u9, 0, none⟩)), (4, .pointer (some ⟨u10, 0, none⟩)), (44, .int .i64 v15), (45, .pointer (some ⟨u10, 0, none⟩))] [.blk u9 60 (#[s12, .int .i64 v13, .int .i64 v14, .int .i64 v15]), .row s12 5 1 v11.length (ec eb v11), .blk u10 60 (#[s17, .int .i64 v18, .int .i64 v19, .int .i64 v20]), .row s17 5 1 v16.length (ec eb v16)] := by
          rw [hA80]
          refine AW.step 3 [] (by kernel_rfl) ⟨⟨_, rfl, ?_⟩, trivial⟩
          · refine RW.callM (cs := []) [.blk u10 60 (#[s17, .int .i64 v18, .int .i64 v19, .int .i64 v20]), .row s17 5 1 v16.length (ec eb v16)] [.blk u9 60 (#[s12, .int .i64 v13, .int .i64 v14, .int .i64 v15]), .row s12 5 1 v11.length (ec eb v11)] [] [2, 3, 0, 1] (fun (_ : Unit) => [.blk u10 60 (#[s17, .int .i64 v18, .int .i64 v19, .int .i64 v20]), .row s17 5 1 v16.length (ec eb v16)]) (fun (_ : Unit) => .int .i64 v20) rfl rfl rfl rfl Try.call14 rfl rfl rfl (fun w hM => lent0) (.inl fun _ => rfl) (fun w S' hM => c_bits_Writer_Count K v16 v18 v19 v20 u10 s17 r22 w S' hM hr22) (fun _ => ?_)
            refine RW.nil ?_
            refine AW.on (done' := #[true, true, true, true, false, false, false, false, false, false, false, false, false, false, false, false, false, false]) rfl [2, 0] rfl rfl ?_
            refine AW.take 4 (done' := #[true, true, true, true, true, false, false, false, false, false, false, false, false, false, false, false, false, false]) (.bool (decide (v15 = v20))) [2, 0] hns rfl rfl rfl (by kernel_rfl) (by kernel_rfl) rfl rfl rfl (by kernel_rfl) (fun _ _ => Yi.pv _ rfl) ?_
            refine AW.take 5 (done' := #[true, true, true, true, true, true, false, false, false, false, false, false, false, false, false, false, false, false]) (.bool (decide (v15 = v20))) [2, 0] hns rfl rfl rfl (by kernel_rfl) (by kernel_rfl) rfl rfl rfl (by kernel_rfl) (fun _ _ => Yi.pv _ rfl) ?_
            refine AW.fork 48 (v15 = v20) rfl (fun h => absurd h h23) (fun _ => ?_)
            refine AW.pass 6 (done' := #[true, true, true, true, true, true, true, false, false, false, false, false, false, false, false, false, false, false]) [2, 0] hns rfl rfl rfl (by kernel_rfl) (by kernel_rfl) rfl rfl rfl (by kernel_rfl) ?_
            refine AW.pass 7 (done' := #[true, true, true, true, true, true, true, true, false, false, false, false, false, false, false, false, false, false]) [2, 0] hns rfl rfl rfl (by kernel_rfl) (by kernel_rfl) rfl rfl rfl (by kernel_rfl) ?_
            refine AW.pass 8 (done' := #[true, true, true, true, true, true, true, true, true, false, false, false, false, false, false, false, false, false]) [2, 0] hns rfl rfl rfl (by kernel_rfl) (by kernel_rfl) rfl rfl rfl (by kernel_rfl) ?_
            refine AW.pass 9 (done' := #[true, true, true, true, true, true, true, true, true, true, false, false, false, false, false, false, false, false]) [2, 0] hns rfl rfl rfl (by kernel_rfl) (by kernel_rfl) rfl rfl rfl (by kernel_rfl) ?_
            refine AW.pass 10 (done' := #[true, true, true, true, true, true, true, true, true, true, true, false, false, false, false, false, false, false]) [2, 0] hns rfl rfl rfl (by kernel_rfl) (by kernel_rfl) rfl rfl rfl (by kernel_rfl) ?_
            refine AW.pass 11 (done' := #[true, true, true, true, true, true, true, true, true, true, true, true, false, false, false, false, false, false]) [2, 0] hns rfl rfl rfl (by kernel_rfl) (by kernel_rfl) rfl rfl rfl (by kernel_rfl) ?_
            refine AW.pass 12 (done' := #[true, true, true, true, true, true, true, true, true, true, true, true, true, false, false, false, false, false]) [2, 0] hns rfl rfl rfl (by kernel_rfl) (by kernel_rfl) rfl rfl rfl (by kernel_rfl) ?_
            refine AW.take 13 (done' := #[true, true, true, true, true, true, true, true, true, true, true, true, true, true, false, false, false, false]) (.bool false) [2, 0] hns rfl rfl rfl (by kernel_rfl) (by kernel_rfl) rfl rfl rfl (by kernel_rfl) (fun _ _ => Yi.pv _ rfl) ?_
            refine AW.take 14 (done' := #[true, true, true, true, true, true, true, true, true, true, true, true, true, true, true, false, false, false]) (.bool false) [2, 0] hns rfl rfl rfl (by kernel_rfl) (by kernel_rfl) rfl rfl rfl (by kernel_rfl) (fun _ _ => Yi.pv _ rfl) ?_
            refine AW.pass 15 (done' := #[true, true, true, true, true, true, true, true, true, true, true, true, true, true, true, true, false, false]) [2, 0] hns rfl rfl rfl (by kernel_rfl) (by kernel_rfl) rfl rfl rfl (by kernel_rfl) ?_
            refine AW.take 16 (done' := #[true, true, true, true, true, true, true, true, true, true, true, true, true, true, true, true, true, false]) (.bool false) [2, 0] hns rfl rfl rfl (by kernel_rfl) (by kernel_rfl) rfl rfl rfl (by kernel_rfl) (fun _ _ => Yi.pv _ rfl) ?_
            refine AW.take 17 (done' := #[true, true, true, true, true, true, true, true, true, true, true, true, true, true, true, true, true, true]) (.bool false) [2, 0] hns rfl rfl rfl (by kernel_rfl) (by kernel_rfl) rfl rfl rfl (by kernel_rfl) (fun _ _ => Yi.pv _ rfl) ?_
            have ht := hA80_111111111111111111
            rw [hA80] at ht
            refine AW.to [0, 1, 2, 3] rfl rfl ?_ ht
            exact ⟨rfl, trivial⟩
        have hA80_101000000000000000 : A80 16 #[true, false, true, false, false, false, false, false, false, false, false, false, false, false, false, false, false, false] [(3, .pointer (some ⟨u9, 0, none⟩)), (4, .pointer (some ⟨u10, 0, none⟩)), (43, .pointer (some ⟨u9, 0, none⟩)), (45, .pointer (some ⟨u10, 0, none⟩))] [.blk u9 60 (#[s12, .int .i64 v13, .int .i64 v14, .int .i64 v15]), .row s12 5 1 v11.length (ec eb v11), .blk u10 60 (#[s17, .int .i64 v18, .int .i64 v19, .int .i64 v20]), .row s17 5 1 v16.length (ec eb v16)] := by
          rw [hA80]
          refine AW.step 1 [] (by kernel_rfl) ⟨⟨_, rfl, ?_⟩, trivial⟩
          · refine RW.callM (cs := []) [.blk u9 60 (#[s12, .int .i64 v13, .int .i64 v14, .int .i64 v15]), .row s12 5 1 v11.length (ec eb v11)] [.blk u10 60 (#[s17, .int .i64 v18, .int .i64 v19, .int .i64 v20]), .row s17 5 1 v16.length (ec eb v16)] [] [0, 1, 2, 3] (fun (_ : Unit) => [.blk u9 60 (#[s12, .int .i64 v13, .int .i64 v14, .int .i64 v15]), .row s12 5 1 v11.length (ec eb v11)]) (fun (_ : Unit) => .int .i64 v15) rfl rfl rfl rfl Try.call14 rfl rfl rfl (fun w hM => lent0) (.inl fun _ => rfl) (fun w S' hM => c_bits_Writer_Count K v11 v13 v14 v15 u9 s12 r21 w S' hM hr21) (fun _ => ?_)
            refine RW.nil ?_
            refine AW.on (done' := #[true, true, true, false, false, false, false, false, false, false, false, false, false, false, false, false, false, false]) rfl [0, 2] rfl rfl ?_
            have ht := hA80_111000000000000000
            rw [hA80] at ht
            refine AW.to [0, 1, 2, 3] rfl rfl ?_ ht
            exact ⟨rfl, rfl, rfl, rfl, trivial⟩
        rw [hA80]
        refine AW.take 0 (done' := #[true, false, false, false, false, false, false, false, false, false, false, false, false, false, false, false, false, false]) (.pointer (some ⟨u9, 0, none⟩)) [0, 2] hns rfl rfl rfl (by kernel_rfl) (by kernel_rfl) rfl rfl rfl (by kernel_rfl) (fun _ _ => Yi.pv _ rfl) ?_
        refine AW.take 2 (done' := #[true, false, true, false, false, false, false, false, false, false, false, false, false, false, false, false, false, false]) (.pointer (some ⟨u10, 0, none⟩)) [0, 2] hns rfl rfl rfl (by kernel_rfl) (by kernel_rfl) rfl rfl rfl (by kernel_rfl) (fun _ _ => Yi.pv _ rfl) ?_
        have ht := hA80_101000000000000000
        rw [hA80] at ht
        refine AW.to [0, 1, 2, 3] rfl rfl ?_ ht
        exact ⟨rfl, rfl, rfl, rfl, trivial⟩

end Go.Proofs.Ytpfnjmaadghhoaa
