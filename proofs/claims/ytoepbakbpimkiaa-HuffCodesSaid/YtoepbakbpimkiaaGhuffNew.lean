import Derived.Test.YtoepbakbpimkiaaN8
import Derived.Test.YtoepbakbpimkiaaProg
import Derived.Test.YtoepbakbpimkiaaGhuffRight
import Derived.Test.YtoepbakbpimkiaaGslicesClone
set_option maxRecDepth 100000
set_option maxHeartbeats 1000000
namespace Go.Proofs.Ytoepbakbpimkiaa
open Go Go.RowKit K

def huff_New_j1 (_ : Nat) (r11 : ((List Int))) (v16 : (Nat → Int)) (v17 : (List MEnt)) : Option (((Nat → Int) × (List Int) × (List MEnt)) ⊕ (Unit)) :=
  some (.inl (v16, r11, v17))

def huff_New_j2 (_ : Nat) (cb_huff_New_l1 : (Nat → Int) → (List MEnt) → Int → Int → Int → Option (((Nat → Int) × (List Int) × (List MEnt)) ⊕ (Unit))) (v28 : Int) (v35 : (Nat → Int)) (v36 : (List MEnt)) (v37 : Int) (v38 : Int) : Option (((Nat → Int) × (List Int) × (List MEnt)) ⊕ (Unit)) :=
  cb_huff_New_l1 v35 v36 v37 v38 (w64 (v28 + 1))

def huff_New_l2 (K : Nat) (cb_huff_New_l1 : (Nat → Int) → (List MEnt) → Int → Int → Int → Option (((Nat → Int) × (List Int) × (List MEnt)) ⊕ (Unit))) (a0_s_0 : (Nat → Int)) (a0_s_1 : (List Int)) (v28 : Int) : Nat → (Nat → Int) → (List MEnt) → Int → Int → Int →  Option (((Nat → Int) × (List Int) × (List MEnt)) ⊕ (Unit))
  | 0, _, _, _, _, _ => none
  | k2 + 1, v46, v47, v48, v49, v50 =>
    (if v50 < (a0_s_0 v28.toNat) then (if 0 ≤ v49 ∧ v49 < (a0_s_1.length : Int) then (if 0 ≤ (a0_s_1.getD v49.toNat 0) ∧ (a0_s_1.getD v49.toNat 0) < 256 then (if mfind v47 (v48, (w64 (v28 + 1))) = none then (huff_New_l2 K cb_huff_New_l1 a0_s_0 a0_s_1 v28 k2) (upd (upd v46 ((a0_s_1.getD v49.toNat 0).toNat * 2) v48) (((a0_s_1.getD v49.toNat 0).toNat * 2) + 1) (w64 (v28 + 1))) (v47 ++ [((v48, (w64 (v28 + 1))), (a0_s_1.getD v49.toNat 0))]) (w64 (v48 + 1)) (w64 (v49 + 1)) (w64 (v50 + 1)) else none) else none) else none) else huff_New_j2 K cb_huff_New_l1 v28 v46 v47 v48 v49)

def huff_New_l1 (K : Nat) (a0_s_0 : (Nat → Int)) (a0_s_1 : (List Int)) (r11 : ((List Int))) : Nat → (Nat → Int) → (List MEnt) → Int → Int → Int →  Option (((Nat → Int) × (List Int) × (List MEnt)) ⊕ (Unit))
  | 0, _, _, _, _, _ => none
  | k1 + 1, v24, v25, v26, v27, v28 =>
    (if v28 < 16 then (if 0 ≤ v28 ∧ v28 < 16 then huff_New_l2 K (huff_New_l1 K a0_s_0 a0_s_1 r11 k1) a0_s_0 a0_s_1 v28 K v24 v25 (shlI .i64 v26 1) v27 0 else none) else huff_New_j1 K r11 v24 v25)

def huff_New (K : Nat) (a0_s_0 : (Nat → Int)) (a0_s_1 : (List Int)) : Option (((Nat → Int) × (List Int) × (List MEnt)) ⊕ (Unit)) :=
  ((huff_Right K a0_s_0 a0_s_1).bind fun r9 => (if r9 = true then ((slices_Clone K a0_s_1).bind fun r11 => huff_New_l1 K a0_s_0 a0_s_1 r11 K zf ([] : List MEnt) 0 0 0) else some (.inr ())))

theorem c_huff_New (K : Nat) (a0_s_0 : (Nat → Int)) (a0_s_1 : (List Int)) (sa0_s_1 : Value) (r : ((Nat → Int) × (List Int) × (List MEnt)) ⊕ (Unit)) (w0 : World) (S : Own) (hM0 : Mem w0 S [ro sa0_s_1 1 a0_s_1.length (ec e1 a0_s_1)] w0) (hm : huff_New K a0_s_0 a0_s_1 = some r) : Calls Try.prog 11 #[.agg (cat [(16, (iv a0_s_0)), p1 (sa0_s_1)])] w0 fun e w' => (match r with | .inl x0 => ∃ u : Nat × Value × Nat, e = .returned (.tuple #[.pointer (some ⟨u.1, 0, none⟩), .int .i64 0]) ∧ Mem w0 S [.blk u.1 67 (cat [(16, (iv a0_s_0)), p1 (u.2.1), (512, (iv x0.1)), p1 (.map (some u.2.2))]), .row u.2.1 3 1 x0.2.1.length (ec e1 x0.2.1), mpE u.2.2 x0.2.2] w' | .inr x1 => ∃ _u : Unit, e = .returned (.tuple #[.pointer none, .int .i64 4]) ∧ Mem w0 S [] w') := by
  unfold huff_New at hm
  refine calls_CW (n := 64) w0 S [ro sa0_s_1 1 a0_s_1.length (ec e1 a0_s_1)] Try.func11 rfl rfl rfl hM0 ?_
  refine CW.seq ?_
  refine CW.region ?_
  refine RW.box (v := .agg (cat [(16, (iv a0_s_0)), p1 (sa0_s_1)])) rfl rfl rfl (fun b8 => ?_)
  refine RW.yi (.pointer none) rfl rfl (Yi.pv _ rfl) ?_
  refine RW.yi (.int .i64 0) rfl rfl (Yi.pv _ rfl) ?_
  refine RW.nil ?_
  refine EW.next ?_
  refine CW.seq ?_
  refine CW.seq ?_
  refine CW.region ?_
  refine RW.yi (.agg (cat [(16, (iv a0_s_0)), p1 (sa0_s_1)])) rfl rfl (Yi.loadW (i := 0) rfl rfl Try.isAgg25 (by simp only [cat_size]; exact Try.sizeOf25)) ?_
  obtain ⟨r9, hr9, hm⟩ := of_bind hm
  refine RW.ca (.bool r9) rfl rfl (Ca.call (cs := []) [ro sa0_s_1 1 a0_s_1.length (ec e1 a0_s_1)] rfl rfl Try.call15 (fun w hM => lentF (A := []) hM 1 rfl (lent0)) (fun w S' hM => (c_huff_Right K a0_s_0 a0_s_1 sa0_s_1 r9 w S' hM hr9).mono (fun _ _ h => by obtain ⟨_, h1, h2⟩ := h; exact ⟨h1, h2⟩))) ?_
  refine RW.forkB 11 (r9) rfl (fun h10 => ?_) (fun h10 => ?_)
  · replace hm := (if_pos h10).symm.trans hm
    refine RW.yi (.bool false) rfl rfl (Yi.pv _ rfl) ?_
    refine RW.nil ?_
    refine EW.next ?_
    refine CW.cond_false rfl ?_
    refine CW.skip ?_
    refine EW.next ?_
    refine CW.seq ?_
    obtain ⟨r11, hr11, hm⟩ := of_bind hm
    refine CW.held (m := 10) [.blk b8 25 (cat [(16, (iv a0_s_0)), p1 (sa0_s_1)]), ro sa0_s_1 1 a0_s_1.length (ec e1 a0_s_1)] (by kernel_rfl) (by kernel_rfl) (by kernel_rfl) (fun A63 hA63 hns => ?_)
    have hA63_1111111111 : ∀ (u12 : Value) (b14 : Nat) (b15 : Nat), A63 0 #[true, true, true, true, true, true, true, true, true, true] [(1, .pointer (some ⟨b8, 0, none⟩)), (4, .pointer (some ⟨b15, 0, none⟩))] [.blk b15 67 (cat [(16, (iv a0_s_0)), p1 (u12), (512, (iv zf)), p1 (.map (some b14))]), mpE b14 ([] : List MEnt), .row u12 3 1 r11.length (ec e1 r11), .blk b8 25 (cat [(16, (iv a0_s_0)), p1 (sa0_s_1)]), ro sa0_s_1 1 a0_s_1.length (ec e1 a0_s_1)] := by
      intro u12 b14 b15
      rw [hA63]
      refine AW.fin (by kernel_rfl) ?_
      refine EW.next ?_
      refine CW.seq ?_
      refine CW.region ?_
      refine RW.yi (.int .i64 0) rfl rfl (Yi.pv _ rfl) ?_
      refine RW.yi (.int .i64 0) rfl rfl (Yi.pv _ rfl) ?_
      refine RW.nil ?_
      refine EW.next ?_
      refine CW.join (fun a w => ∃ (v16 : (Nat → Int)) (v17 : (List MEnt)), St 64 [(4, .pointer (some ⟨b15, 0, none⟩))] a ∧ Mem w0 S [.blk b15 67 (cat [(16, (iv a0_s_0)), p1 (u12), (512, (iv v16)), p1 (.map (some b14))]), .row u12 3 1 r11.length (ec e1 r11), mpE b14 v17] w ∧ huff_New_j1 K r11 v16 v17 = some r) ?_ ?_
      · refine CW.seq ?_
        refine CW.region ?_
        refine RW.yi (.pointer (some ⟨b8, 0, none⟩)) rfl rfl (Yi.fieldAddr (j := 0) Try.underlying25 rfl Try.sizeOf22 rfl) ?_
        refine RW.yi (.agg (cf 16 (iv a0_s_0))) rfl rfl (Yi.to (Yi.loadA (i := 3) (j := 0) (m := 16) (cs := cat [(16, (iv a0_s_0)), p1 (sa0_s_1)]) rfl rfl Try.isAgg22 Try.sizeOf22 (by rw [cat_size]; show _ ≤ 17; omega)) (congrArg Value.agg (Eq.trans (cat_part (ps := [(16, (iv a0_s_0)), p1 (sa0_s_1)]) (nn := 16) (i := 0) (m := 16) 0 rfl (by decide) rfl rfl) (by rw [shf_zero])))) ?_
        refine RW.yi (.int .i64 0) rfl rfl (Yi.pv _ rfl) ?_
        refine RW.nil ?_
        refine EW.next ?_
        refine CW.block ?_
        refine CW.loop (fun k a w => ∃ (v24 : (Nat → Int)) (v25 : (List MEnt)) (v26 : Int) (v27 : Int) (v28 : Int), St 64 [(1, .pointer (some ⟨b8, 0, none⟩)), (4, .pointer (some ⟨b15, 0, none⟩)), (5, .int .i64 v26), (6, .int .i64 v27), (23, .agg (cf 16 (iv a0_s_0))), (24, .int .i64 v28)] a ∧ Mem w0 S [.blk b8 25 (cat [(16, (iv a0_s_0)), p1 (sa0_s_1)]), ro sa0_s_1 1 a0_s_1.length (ec e1 a0_s_1), .blk b15 67 (cat [(16, (iv a0_s_0)), p1 (u12), (512, (iv v24)), p1 (.map (some b14))]), .row u12 3 1 r11.length (ec e1 r11), mpE b14 v25] w ∧ huff_New_l1 K a0_s_0 a0_s_1 r11 k v24 v25 v26 v27 v28 = some r) K ?_ ?_ ?_
        · rintro a w ⟨_, _, _, _, _, _, _, hm⟩
          rw [huff_New_l1.eq_1] at hm
          cases hm
        · exact fun a w hs hM => ⟨zf, ([] : List MEnt), 0, 0, 0, hs.sub ⟨rfl, rfl, rfl, rfl, rfl, rfl, trivial⟩, (hM.pick [3, 4, 0, 2, 1] rfl rfl), hm⟩
        · rintro k1 a w ⟨v24, v25, v26, v27, v28, hs, hM, hm⟩
          rw [huff_New_l1.eq_2] at hm
          refine CW.enter hs hM ?_
          refine CW.seq ?_
          refine CW.region ?_
          refine RW.yi (.bool (decide (v28 < 16))) rfl rfl (Yi.pv _ rfl) ?_
          refine RW.nil ?_
          refine EW.next ?_
          refine CW.seq ?_
          refine CW.fork 25 (v28 < 16) rfl (fun h34 => ?_) (fun h34 => ?_)
          · replace hm := (if_pos h34).symm.trans hm
            refine CW.cond_true rfl ?_
            refine CW.skip ?_
            refine EW.next ?_
            refine CW.join (fun a w => ∃ (v35 : (Nat → Int)) (v36 : (List MEnt)) (v37 : Int) (v38 : Int), St 64 [(1, .pointer (some ⟨b8, 0, none⟩)), (4, .pointer (some ⟨b15, 0, none⟩)), (5, .int .i64 v37), (6, .int .i64 v38), (23, .agg (cf 16 (iv a0_s_0))), (24, .int .i64 v28)] a ∧ Mem w0 S [.blk b8 25 (cat [(16, (iv a0_s_0)), p1 (sa0_s_1)]), ro sa0_s_1 1 a0_s_1.length (ec e1 a0_s_1), .blk b15 67 (cat [(16, (iv a0_s_0)), p1 (u12), (512, (iv v35)), p1 (.map (some b14))]), .row u12 3 1 r11.length (ec e1 r11), mpE b14 v36] w ∧ huff_New_j2 K (huff_New_l1 K a0_s_0 a0_s_1 r11 k1) v28 v35 v36 v37 v38 = some r) ?_ ?_
            · refine CW.block ?_
              refine CW.seq ?_
              refine CW.region ?_
              refine RW.yi (.int .i64 v28) rfl rfl (Yi.pv _ rfl) ?_
              obtain ⟨g39, hm⟩ := of_guard hm
              refine RW.yi (.int .i64 (a0_s_0 v28.toNat)) rfl rfl (Yi.index _ Try.underlying22 Try.sizeOf3 Try.isAgg3 rfl rfl g39.1 g39.2 (cf_get (by omega))) ?_
              refine RW.yi (.int .i64 v28) rfl rfl (Yi.pv _ rfl) ?_
              refine RW.yi (.int .i64 (a0_s_0 v28.toNat)) rfl rfl (Yi.pv _ rfl) ?_
              refine RW.nil ?_
              refine EW.next ?_
              refine CW.seq ?_
              refine CW.region ?_
              refine RW.yi (.int .i64 v26) rfl rfl (Yi.pv _ rfl) ?_
              refine RW.yi (.int .i64 (shlI .i64 v26 1)) rfl rfl (Yi.shl rfl rfl (by decide)) ?_
              refine RW.yi (.int .i64 (shlI .i64 v26 1)) rfl rfl (Yi.pv _ rfl) ?_
              refine RW.nil ?_
              refine EW.next ?_
              refine CW.seq ?_
              refine CW.region ?_
              refine RW.yi (.int .i64 (a0_s_0 v28.toNat)) rfl rfl (Yi.pv _ rfl) ?_
              refine RW.yi (.int .i64 0) rfl rfl (Yi.pv _ rfl) ?_
              refine RW.nil ?_
              refine EW.next ?_
              refine CW.block ?_
              refine CW.loop (fun k a w => ∃ (v46 : (Nat → Int)) (v47 : (List MEnt)) (v48 : Int) (v49 : Int) (v50 : Int), St 64 [(1, .pointer (some ⟨b8, 0, none⟩)), (4, .pointer (some ⟨b15, 0, none⟩)), (5, .int .i64 v48), (6, .int .i64 v49), (7, .int .i64 v28), (23, .agg (cf 16 (iv a0_s_0))), (24, .int .i64 v28), (30, .int .i64 (a0_s_0 v28.toNat)), (31, .int .i64 v50)] a ∧ Mem w0 S [.blk b8 25 (cat [(16, (iv a0_s_0)), p1 (sa0_s_1)]), ro sa0_s_1 1 a0_s_1.length (ec e1 a0_s_1), .blk b15 67 (cat [(16, (iv a0_s_0)), p1 (u12), (512, (iv v46)), p1 (.map (some b14))]), .row u12 3 1 r11.length (ec e1 r11), mpE b14 v47] w ∧ huff_New_l2 K (huff_New_l1 K a0_s_0 a0_s_1 r11 k1) a0_s_0 a0_s_1 v28 k v46 v47 v48 v49 v50 = some r) K ?_ ?_ ?_
              · rintro a w ⟨_, _, _, _, _, _, _, hm⟩
                rw [huff_New_l2.eq_1] at hm
                cases hm
              · exact fun a w hs hM => ⟨v24, v25, (shlI .i64 v26 1), v27, 0, hs.sub ⟨rfl, rfl, rfl, rfl, rfl, rfl, rfl, rfl, rfl, trivial⟩, (hM.pick [0, 1, 2, 3, 4] rfl rfl), hm⟩
              · rintro k2 a w ⟨v46, v47, v48, v49, v50, hs, hM, hm⟩
                rw [huff_New_l2.eq_2] at hm
                refine CW.enter hs hM ?_
                refine CW.seq ?_
                refine CW.region ?_
                refine RW.yi (.bool (decide (v50 < (a0_s_0 v28.toNat)))) rfl rfl (Yi.pv _ rfl) ?_
                refine RW.nil ?_
                refine EW.next ?_
                refine CW.seq ?_
                refine CW.fork 32 (v50 < (a0_s_0 v28.toNat)) rfl (fun h56 => ?_) (fun h56 => ?_)
                · replace hm := (if_pos h56).symm.trans hm
                  refine CW.cond_true rfl ?_
                  refine CW.skip ?_
                  refine EW.next ?_
                  refine CW.seq ?_
                  refine CW.block ?_
                  refine CW.seq ?_
                  refine CW.region ?_
                  refine RW.yi (.int .i64 v48) rfl rfl (Yi.pv _ rfl) ?_
                  refine RW.yi (.int .i64 v28) rfl rfl (Yi.pv _ rfl) ?_
                  refine RW.yi (.int .i64 (w64 (v28 + 1))) rfl rfl (Yi.pv _ rfl) ?_
                  refine RW.yi (.agg #[.int .i64 v48, .int .i64 (w64 (v28 + 1))]) rfl rfl (Yi.build (vs := [.int .i64 v48, .int .i64 (w64 (v28 + 1))]) _ rfl rfl (fun _ => by kernel_rfl)) ?_
                  refine RW.alloc (z := .agg #[.int .i64 0, .int .i64 0]) (#[.int .i64 0, .int .i64 0]) rfl rfl (fun _ => by kernel_rfl) rfl (fun b57 => ?_)
                  refine RW.storeW (i := 0) (cs' := #[.int .i64 v48, .int .i64 (w64 (v28 + 1))]) rfl rfl rfl rfl (by kernel_rfl) rfl (by kernel_rfl) ?_
                  refine RW.nil ?_
                  refine EW.next ?_
                  refine CW.seq ?_
                  obtain ⟨g58, hm⟩ := of_guard hm
                  obtain ⟨g59, hm⟩ := of_guard hm
                  refine CW.held (m := 11) [.blk b57 64 (#[.int .i64 v48, .int .i64 (w64 (v28 + 1))]), .blk b8 25 (cat [(16, (iv a0_s_0)), p1 (sa0_s_1)]), ro sa0_s_1 1 a0_s_1.length (ec e1 a0_s_1), .row u12 3 1 r11.length (ec e1 r11), mpE b14 v47] (by kernel_rfl) (by kernel_rfl) (by kernel_rfl) (fun A62 hA62 hns => ?_)
                  have hA62_11111111111 : A62 0 #[true, true, true, true, true, true, true, true, true, true, true] [(1, .pointer (some ⟨b8, 0, none⟩)), (4, .pointer (some ⟨b15, 0, none⟩)), (5, .int .i64 v48), (6, .int .i64 v49), (7, .int .i64 v28), (9, .pointer (some ⟨b57, 0, none⟩)), (23, .agg (cf 16 (iv a0_s_0))), (24, .int .i64 v28), (30, .int .i64 (a0_s_0 v28.toNat)), (31, .int .i64 v50)] [.blk b57 64 (#[.int .i64 v48, .int .i64 (w64 (v28 + 1))]), .blk b8 25 (cat [(16, (iv a0_s_0)), p1 (sa0_s_1)]), ro sa0_s_1 1 a0_s_1.length (ec e1 a0_s_1), .blk b15 67 (cat [(16, (iv a0_s_0)), p1 (u12), (512, (iv (upd (upd v46 ((a0_s_1.getD v49.toNat 0).toNat * 2) v48) (((a0_s_1.getD v49.toNat 0).toNat * 2) + 1) (w64 (v28 + 1))))), p1 (.map (some b14))]), .row u12 3 1 r11.length (ec e1 r11), mpE b14 v47] := by
                    rw [hA62]
                    refine AW.fin (by kernel_rfl) ?_
                    refine EW.next ?_
                    refine CW.seq ?_
                    obtain ⟨g60, hm⟩ := of_guard hm
                    refine CW.held (m := 11) [.blk b57 64 (#[.int .i64 v48, .int .i64 (w64 (v28 + 1))]), .blk b8 25 (cat [(16, (iv a0_s_0)), p1 (sa0_s_1)]), ro sa0_s_1 1 a0_s_1.length (ec e1 a0_s_1), .blk b15 67 (cat [(16, (iv a0_s_0)), p1 (u12), (512, (iv (upd (upd v46 ((a0_s_1.getD v49.toNat 0).toNat * 2) v48) (((a0_s_1.getD v49.toNat 0).toNat * 2) + 1) (w64 (v28 + 1))))), p1 (.map (some b14))]), .row u12 3 1 r11.length (ec e1 r11)] (by kernel_rfl) (by kernel_rfl) (by kernel_rfl) (fun A61 hA61 hns => ?_)
                    have hA61_11111111111 : A61 0 #[true, true, true, true, true, true, true, true, true, true, true] [(1, .pointer (some ⟨b8, 0, none⟩)), (4, .pointer (some ⟨b15, 0, none⟩)), (5, .int .i64 v48), (6, .int .i64 v49), (7, .int .i64 v28), (23, .agg (cf 16 (iv a0_s_0))), (24, .int .i64 v28), (30, .int .i64 (a0_s_0 v28.toNat)), (31, .int .i64 v50)] [.blk b57 64 (#[.int .i64 v48, .int .i64 (w64 (v28 + 1))]), .blk b8 25 (cat [(16, (iv a0_s_0)), p1 (sa0_s_1)]), ro sa0_s_1 1 a0_s_1.length (ec e1 a0_s_1), .blk b15 67 (cat [(16, (iv a0_s_0)), p1 (u12), (512, (iv (upd (upd v46 ((a0_s_1.getD v49.toNat 0).toNat * 2) v48) (((a0_s_1.getD v49.toNat 0).toNat * 2) + 1) (w64 (v28 + 1))))), p1 (.map (some b14))]), .row u12 3 1 r11.length (ec e1 r11), mpE b14 (v47 ++ [((v48, (w64 (v28 + 1))), (a0_s_1.getD v49.toNat 0))])] := by
                      rw [hA61]
                      refine AW.fin (by kernel_rfl) ?_
                      refine EW.next ?_
                      refine CW.seq ?_
                      refine CW.region ?_
                      refine RW.yi (.int .i64 v48) rfl rfl (Yi.pv _ rfl) ?_
                      refine RW.yi (.int .i64 (w64 (v48 + 1))) rfl rfl (Yi.pv _ rfl) ?_
                      refine RW.yi (.int .i64 (w64 (v48 + 1))) rfl rfl (Yi.pv _ rfl) ?_
                      refine RW.nil ?_
                      refine EW.next ?_
                      refine CW.region ?_
                      refine RW.yi (.int .i64 v49) rfl rfl (Yi.pv _ rfl) ?_
                      refine RW.yi (.int .i64 (w64 (v49 + 1))) rfl rfl (Yi.pv _ rfl) ?_
                      refine RW.yi (.int .i64 (w64 (v49 + 1))) rfl rfl (Yi.pv _ rfl) ?_
                      refine RW.nil ?_
                      refine EW.bln ?_
                      refine EW.next ?_
                      refine CW.region ?_
                      refine RW.yi (.int .i64 (w64 (v50 + 1))) rfl rfl (Yi.pv _ rfl) ?_
                      refine RW.yi (.int .i64 (w64 (v50 + 1))) rfl rfl (Yi.pv _ rfl) ?_
                      refine RW.nil ?_
                      refine EW.thn ?_
                      exact fun a w hs hM => ⟨(upd (upd v46 ((a0_s_1.getD v49.toNat 0).toNat * 2) v48) (((a0_s_1.getD v49.toNat 0).toNat * 2) + 1) (w64 (v28 + 1))), (v47 ++ [((v48, (w64 (v28 + 1))), (a0_s_1.getD v49.toNat 0))]), (w64 (v48 + 1)), (w64 (v49 + 1)), (w64 (v50 + 1)), hs.sub ⟨rfl, rfl, rfl, rfl, rfl, rfl, rfl, rfl, rfl, trivial⟩, (hM.pick [1, 2, 3, 4, 5] rfl rfl), hm⟩
                    have hA61_11111111110 : A61 1 #[true, true, true, true, true, true, true, true, true, true, false] [(1, .pointer (some ⟨b8, 0, none⟩)), (4, .pointer (some ⟨b15, 0, none⟩)), (5, .int .i64 v48), (6, .int .i64 v49), (7, .int .i64 v28), (23, .agg (cf 16 (iv a0_s_0))), (24, .int .i64 v28), (30, .int .i64 (a0_s_0 v28.toNat)), (31, .int .i64 v50), (50, .map (some b14)), (51, .agg #[.int .i64 v48, .int .i64 (w64 (v28 + 1))]), (56, .int .i64 (a0_s_1.getD v49.toNat 0))] [.blk b57 64 (#[.int .i64 v48, .int .i64 (w64 (v28 + 1))]), .blk b8 25 (cat [(16, (iv a0_s_0)), p1 (sa0_s_1)]), ro sa0_s_1 1 a0_s_1.length (ec e1 a0_s_1), .blk b15 67 (cat [(16, (iv a0_s_0)), p1 (u12), (512, (iv (upd (upd v46 ((a0_s_1.getD v49.toNat 0).toNat * 2) v48) (((a0_s_1.getD v49.toNat 0).toNat * 2) + 1) (w64 (v28 + 1))))), p1 (.map (some b14))]), .row u12 3 1 r11.length (ec e1 r11), mpE b14 v47] := by
                      rw [hA61]
                      refine AW.step 10 [] (by kernel_rfl) ⟨⟨_, rfl, ?_⟩, trivial⟩
                      · refine RW.mapPut (i := 5) (es := v47) rfl Try.underlying62 Try.underlying64 Try.stoodInHeld64 (by kernel_rfl) rfl rfl rfl rfl rfl g60 ?_
                        refine RW.nil ?_
                        refine AW.on (done' := #[true, true, true, true, true, true, true, true, true, true, true]) rfl [0, 1, 2, 3, 4] rfl rfl ?_
                        have ht := hA61_11111111111
                        rw [hA61] at ht
                        refine AW.to [0, 1, 2, 3, 4, 5] rfl rfl ?_ ht
                        exact ⟨rfl, rfl, rfl, rfl, rfl, rfl, rfl, rfl, rfl, trivial⟩
                    rw [hA61]
                    refine AW.take 0 (done' := #[true, false, false, false, false, false, false, false, false, false, false]) (.pointer (some ⟨b15, 0, none⟩)) [0, 1, 2, 3, 4] hns rfl rfl rfl (by kernel_rfl) (by kernel_rfl) rfl rfl rfl (by kernel_rfl) (fun _ _ => Yi.pv _ rfl) ?_
                    refine AW.take 1 (done' := #[true, true, false, false, false, false, false, false, false, false, false]) (.pointer (some ⟨b15, 0, none⟩)) [0, 1, 2, 3, 4] hns rfl rfl rfl (by kernel_rfl) (by kernel_rfl) rfl rfl rfl (by kernel_rfl) (fun _ _ => Yi.nilCheck rfl (fun h => by cases h) (fun h => by cases h) (fun h => by cases h) (fun _ _ _ h => by cases h)) ?_
                    refine AW.take 2 (done' := #[true, true, true, false, false, false, false, false, false, false, false]) (.pointer (some ⟨b15, 529, none⟩)) [0, 1, 2, 3, 4] hns rfl rfl rfl (by kernel_rfl) (by kernel_rfl) rfl rfl rfl (by kernel_rfl) (fun _ _ => Yi.fieldAddr (j := 2) Try.underlying67 rfl Try.sizeOf62 rfl) ?_
                    refine AW.take 3 (done' := #[true, true, true, true, false, false, false, false, false, false, false]) (.map (some b14)) [0, 1, 2, 3, 4] hns rfl rfl rfl (by kernel_rfl) (by kernel_rfl) rfl rfl rfl (by kernel_rfl) (fun _ _ => Yi.load1 (i := 3) _ rfl rfl Try.isAgg62 (cat_get1 (ps := [(16, (iv a0_s_0)), p1 (u12), (512, (iv (upd (upd v46 ((a0_s_1.getD v49.toNat 0).toNat * 2) v48) (((a0_s_1.getD v49.toNat 0).toNat * 2) + 1) (w64 (v28 + 1))))), p1 (.map (some b14))]) 3 rfl rfl)) ?_
                    refine AW.take 4 (done' := #[true, true, true, true, true, false, false, false, false, false, false]) (.agg #[.int .i64 v48, .int .i64 (w64 (v28 + 1))]) [0, 1, 2, 3, 4] hns rfl rfl rfl (by kernel_rfl) (by kernel_rfl) rfl rfl rfl (by kernel_rfl) (fun _ _ => Yi.loadW (i := 0) rfl rfl Try.isAgg64 Try.sizeOf64) ?_
                    refine AW.take 5 (done' := #[true, true, true, true, true, true, false, false, false, false, false]) (.pointer (some ⟨b8, 16, none⟩)) [0, 1, 2, 3, 4] hns rfl rfl rfl (by kernel_rfl) (by kernel_rfl) rfl rfl rfl (by kernel_rfl) (fun _ _ => Yi.fieldAddr (j := 1) Try.underlying25 rfl Try.sizeOf23 rfl) ?_
                    refine AW.take 6 (done' := #[true, true, true, true, true, true, true, false, false, false, false]) (sa0_s_1) [0, 1, 2, 3, 4] hns rfl rfl rfl (by kernel_rfl) (by kernel_rfl) rfl rfl rfl (by kernel_rfl) (fun _ _ => Yi.load1 (i := 1) _ rfl rfl Try.isAgg23 (cat_get1 (ps := [(16, (iv a0_s_0)), p1 (sa0_s_1)]) 1 rfl rfl)) ?_
                    refine AW.take 7 (done' := #[true, true, true, true, true, true, true, true, false, false, false]) (.int .i64 v49) [0, 1, 2, 3, 4] hns rfl rfl rfl (by kernel_rfl) (by kernel_rfl) rfl rfl rfl (by kernel_rfl) (fun _ _ => Yi.pv _ rfl) ?_
                    refine AW.take 8 (done' := #[true, true, true, true, true, true, true, true, true, false, false]) (.pointer (some (eaddr sa0_s_1 1 v49.toNat 0))) [0, 1, 2, 3, 4] hns rfl rfl rfl (by kernel_rfl) (by kernel_rfl) rfl rfl rfl (by kernel_rfl) (fun _ _ => Yi.idxS (m := a0_s_1.length) Try.underlying23 Try.sizeOf3 rfl rfl (rdF 2 rfl) g58.1 g58.2) ?_
                    refine AW.take 9 (done' := #[true, true, true, true, true, true, true, true, true, true, false]) (.int .i64 (a0_s_1.getD v49.toNat 0)) [0, 1, 2, 3, 4] hns rfl rfl rfl (by kernel_rfl) (by kernel_rfl) rfl rfl rfl (by kernel_rfl) (fun _ _ => Yi.loadS (m := a0_s_1.length) (cs := ec e1 a0_s_1) _ rfl (rdF 2 rfl) Try.isAgg3 (by omega) (by omega) (by rw [ec_get (d := 0) e1_is (by omega) (by decide)]; rfl)) ?_
                    have ht := hA61_11111111110
                    rw [hA61] at ht
                    refine AW.to [0, 1, 2, 3, 4, 5] rfl rfl ?_ ht
                    exact ⟨rfl, rfl, rfl, rfl, rfl, rfl, rfl, rfl, rfl, rfl, rfl, rfl, trivial⟩
                  have hA62_11111111110 : A62 1 #[true, true, true, true, true, true, true, true, true, true, false] [(1, .pointer (some ⟨b8, 0, none⟩)), (4, .pointer (some ⟨b15, 0, none⟩)), (5, .int .i64 v48), (6, .int .i64 v49), (7, .int .i64 v28), (9, .pointer (some ⟨b57, 0, none⟩)), (23, .agg (cf 16 (iv a0_s_0))), (24, .int .i64 v28), (30, .int .i64 (a0_s_0 v28.toNat)), (31, .int .i64 v50), (43, .agg #[.int .i64 v48, .int .i64 (w64 (v28 + 1))]), (46, .pointer (some ⟨b15, 17 + (a0_s_1.getD v49.toNat 0).toNat * 2, none⟩))] [.blk b57 64 (#[.int .i64 v48, .int .i64 (w64 (v28 + 1))]), .blk b8 25 (cat [(16, (iv a0_s_0)), p1 (sa0_s_1)]), ro sa0_s_1 1 a0_s_1.length (ec e1 a0_s_1), .blk b15 67 (cat [(16, (iv a0_s_0)), p1 (u12), (512, (iv v46)), p1 (.map (some b14))]), .row u12 3 1 r11.length (ec e1 r11), mpE b14 v47] := by
                    rw [hA62]
                    refine AW.step 10 [] (by kernel_rfl) ⟨⟨_, rfl, ?_⟩, trivial⟩
                    · refine RW.storeQ (i := 3) (m := 2) (cs' := cat [(16, (iv a0_s_0)), p1 (u12), (512, (iv (upd (upd v46 ((a0_s_1.getD v49.toNat 0).toNat * 2) v48) (((a0_s_1.getD v49.toNat 0).toNat * 2) + 1) (w64 (v28 + 1))))), p1 (.map (some b14))]) rfl rfl rfl rfl Try.sizeOf64 rfl (by rw [cat_size]; show _ ≤ 530; omega) (by simp [Value.oneCell']) (fun c' hs hget => (cat_upd2 (ps := [(16, (iv a0_s_0)), p1 (u12), (512, (iv v46)), p1 (.map (some b14))]) (i := (a0_s_1.getD v49.toNat 0).toNat * 2) (m := 512) 2 rfl (by omega) (by show 17 + ((a0_s_1.getD v49.toNat 0).toNat * 2) = _; omega) hs hget)) ?_
                      refine RW.nil ?_
                      refine AW.on (done' := #[true, true, true, true, true, true, true, true, true, true, true]) rfl [0, 1, 2, 4, 5] rfl rfl ?_
                      have ht := hA62_11111111111
                      rw [hA62] at ht
                      refine AW.to [0, 1, 2, 3, 4, 5] rfl rfl ?_ ht
                      exact ⟨rfl, rfl, rfl, rfl, rfl, rfl, rfl, rfl, rfl, rfl, trivial⟩
                  rw [hA62]
                  refine AW.take 0 (done' := #[true, false, false, false, false, false, false, false, false, false, false]) (.pointer (some ⟨b15, 0, none⟩)) [0, 1, 2, 4, 5] hns rfl rfl rfl (by kernel_rfl) (by kernel_rfl) rfl rfl rfl (by kernel_rfl) (fun _ _ => Yi.pv _ rfl) ?_
                  refine AW.take 1 (done' := #[true, true, false, false, false, false, false, false, false, false, false]) (.pointer (some ⟨b8, 16, none⟩)) [0, 1, 2, 4, 5] hns rfl rfl rfl (by kernel_rfl) (by kernel_rfl) rfl rfl rfl (by kernel_rfl) (fun _ _ => Yi.fieldAddr (j := 1) Try.underlying25 rfl Try.sizeOf23 rfl) ?_
                  refine AW.take 2 (done' := #[true, true, true, false, false, false, false, false, false, false, false]) (sa0_s_1) [0, 1, 2, 4, 5] hns rfl rfl rfl (by kernel_rfl) (by kernel_rfl) rfl rfl rfl (by kernel_rfl) (fun _ _ => Yi.load1 (i := 1) _ rfl rfl Try.isAgg23 (cat_get1 (ps := [(16, (iv a0_s_0)), p1 (sa0_s_1)]) 1 rfl rfl)) ?_
                  refine AW.take 3 (done' := #[true, true, true, true, false, false, false, false, false, false, false]) (.int .i64 v49) [0, 1, 2, 4, 5] hns rfl rfl rfl (by kernel_rfl) (by kernel_rfl) rfl rfl rfl (by kernel_rfl) (fun _ _ => Yi.pv _ rfl) ?_
                  refine AW.take 4 (done' := #[true, true, true, true, true, false, false, false, false, false, false]) (.pointer (some (eaddr sa0_s_1 1 v49.toNat 0))) [0, 1, 2, 4, 5] hns rfl rfl rfl (by kernel_rfl) (by kernel_rfl) rfl rfl rfl (by kernel_rfl) (fun _ _ => Yi.idxS (m := a0_s_1.length) Try.underlying23 Try.sizeOf3 rfl rfl (rdF 2 rfl) g58.1 g58.2) ?_
                  refine AW.take 5 (done' := #[true, true, true, true, true, true, false, false, false, false, false]) (.int .i64 (a0_s_1.getD v49.toNat 0)) [0, 1, 2, 4, 5] hns rfl rfl rfl (by kernel_rfl) (by kernel_rfl) rfl rfl rfl (by kernel_rfl) (fun _ _ => Yi.loadS (m := a0_s_1.length) (cs := ec e1 a0_s_1) _ rfl (rdF 2 rfl) Try.isAgg3 (by omega) (by omega) (by rw [ec_get (d := 0) e1_is (by omega) (by decide)]; rfl)) ?_
                  refine AW.take 6 (done' := #[true, true, true, true, true, true, true, false, false, false, false]) (.agg #[.int .i64 v48, .int .i64 (w64 (v28 + 1))]) [0, 1, 2, 4, 5] hns rfl rfl rfl (by kernel_rfl) (by kernel_rfl) rfl rfl rfl (by kernel_rfl) (fun _ _ => Yi.loadW (i := 0) rfl rfl Try.isAgg64 Try.sizeOf64) ?_
                  refine AW.take 7 (done' := #[true, true, true, true, true, true, true, true, false, false, false]) (.pointer (some ⟨b15, 0, none⟩)) [0, 1, 2, 4, 5] hns rfl rfl rfl (by kernel_rfl) (by kernel_rfl) rfl rfl rfl (by kernel_rfl) (fun _ _ => Yi.nilCheck rfl (fun h => by cases h) (fun h => by cases h) (fun h => by cases h) (fun _ _ _ h => by cases h)) ?_
                  refine AW.take 8 (done' := #[true, true, true, true, true, true, true, true, true, false, false]) (.pointer (some ⟨b15, 17, none⟩)) [0, 1, 2, 4, 5] hns rfl rfl rfl (by kernel_rfl) (by kernel_rfl) rfl rfl rfl (by kernel_rfl) (fun _ _ => Yi.fieldAddr (j := 1) Try.underlying67 rfl Try.sizeOf65 rfl) ?_
                  refine AW.take 9 (done' := #[true, true, true, true, true, true, true, true, true, true, false]) (.pointer (some ⟨b15, 17 + (a0_s_1.getD v49.toNat 0).toNat * 2, none⟩)) [0, 1, 2, 4, 5] hns rfl rfl rfl (by kernel_rfl) (by kernel_rfl) rfl rfl rfl (by kernel_rfl) (fun _ _ => Yi.indexAddr' _ Try.underlying65 Try.sizeOf64 rfl rfl g59.1 g59.2 (by omega)) ?_
                  have ht := hA62_11111111110
                  rw [hA62] at ht
                  refine AW.to [0, 1, 2, 3, 4, 5] rfl rfl ?_ ht
                  exact ⟨rfl, rfl, rfl, rfl, rfl, rfl, rfl, rfl, rfl, rfl, rfl, rfl, trivial⟩
                · replace hm := (if_neg h56).symm.trans hm
                  refine CW.cond_false rfl ?_
                  refine CW.exit ?_
                  refine EW.thx ?_
                  refine EW.thx ?_
                  refine EW.blx ?_
                  refine EW.bln ?_
                  refine EW.thn ?_
                  exact fun a w hs hM => ⟨v46, v47, v48, v49, hs.sub ⟨rfl, rfl, rfl, rfl, rfl, rfl, trivial⟩, (hM.pick [0, 1, 2, 3, 4] rfl rfl), hm⟩
            · rintro a w ⟨v35, v36, v37, v38, hs, hM, hm⟩
              unfold huff_New_j2 at hm
              refine CW.enter hs hM ?_
              refine CW.region ?_
              refine RW.yi (.int .i64 (w64 (v28 + 1))) rfl rfl (Yi.pv _ rfl) ?_
              refine RW.yi (.int .i64 (w64 (v28 + 1))) rfl rfl (Yi.pv _ rfl) ?_
              refine RW.nil ?_
              refine EW.thn ?_
              exact fun a w hs hM => ⟨v35, v36, v37, v38, (w64 (v28 + 1)), hs.sub ⟨rfl, rfl, rfl, rfl, rfl, rfl, trivial⟩, (hM.pick [0, 1, 2, 3, 4] rfl rfl), hm⟩
          · replace hm := (if_neg h34).symm.trans hm
            refine CW.cond_false rfl ?_
            refine CW.exit ?_
            refine EW.thx ?_
            refine EW.thx ?_
            refine EW.blx ?_
            refine EW.thn ?_
            exact fun a w hs hM => ⟨v24, v25, hs.sub ⟨rfl, trivial⟩, (hM.pick [2, 3, 4] rfl rfl), hm⟩
      · rintro a w ⟨v16, v17, hs, hM, hm⟩
        unfold huff_New_j1 at hm
        refine CW.enter hs hM ?_
        refine CW.seq ?_
        refine CW.region ?_
        refine RW.yi (.pointer (some ⟨b15, 0, none⟩)) rfl rfl (Yi.pv _ rfl) ?_
        refine RW.yi (.pointer (some ⟨b15, 0, none⟩)) rfl rfl (Yi.pv _ rfl) ?_
        refine RW.yi (.int .i64 0) rfl rfl (Yi.pv _ rfl) ?_
        refine RW.nil ?_
        refine EW.next ?_
        refine CW.ret ?_
        obtain rfl := Option.some.inj hm
        exact EW.done (rs := [.tmp 2, .tmp 3]) rfl (.tmp (t := 2) (v := .pointer (some ⟨b15, 0, none⟩)) rfl (.tmp (t := 3) (v := .int .i64 0) rfl .nil)) (fun _ hM => ⟨(b15, u12, b14), rfl, (hM.pick [0, 1, 2] rfl rfl)⟩)
    have hA63_1111111100 : ∀ (u64 : Value) (b66 : Nat), A63 2 #[true, true, true, true, true, true, true, true, false, false] [(1, .pointer (some ⟨b8, 0, none⟩)), (20, .agg (cat [(16, (iv a0_s_0)), p1 (u64), (512, (iv zf)), p1 (.map (some b66))]))] [mpE b66 ([] : List MEnt), .row u64 3 1 r11.length (ec e1 r11), .blk b8 25 (cat [(16, (iv a0_s_0)), p1 (sa0_s_1)]), ro sa0_s_1 1 a0_s_1.length (ec e1 a0_s_1)] := by
      intro u64 b66
      rw [hA63]
      refine AW.step 8 [] (by kernel_rfl) ⟨⟨_, rfl, ?_⟩, trivial⟩
      · refine RW.box (v := .agg (cat [(16, (iv a0_s_0)), p1 (u64), (512, (iv zf)), p1 (.map (some b66))])) rfl rfl rfl (fun b67 => ?_)
        refine RW.nil ?_
        refine AW.on (done' := #[true, true, true, true, true, true, true, true, true, false]) rfl [3, 4] rfl rfl ?_
        refine AW.take 9 (done' := #[true, true, true, true, true, true, true, true, true, true]) (.pointer (some ⟨b67, 0, none⟩)) [3, 4] hns rfl rfl rfl (by kernel_rfl) (by kernel_rfl) rfl rfl rfl (by kernel_rfl) (fun _ _ => Yi.pv _ rfl) ?_
        have ht := hA63_1111111111 u64 b66 b67
        rw [hA63] at ht
        refine AW.to [0, 1, 2, 3, 4] rfl rfl ?_ ht
        exact ⟨rfl, rfl, trivial⟩
    have hA63_1111110000 : ∀ (u64 : Value), A63 4 #[true, true, true, true, true, true, false, false, false, false] [(1, .pointer (some ⟨b8, 0, none⟩)), (18, .agg (cat [(16, (iv a0_s_0)), p1 (u64)]))] [.row u64 3 1 r11.length (ec e1 r11), .blk b8 25 (cat [(16, (iv a0_s_0)), p1 (sa0_s_1)]), ro sa0_s_1 1 a0_s_1.length (ec e1 a0_s_1)] := by
      intro u64
      rw [hA63]
      refine AW.step 6 [] (by kernel_rfl) ⟨⟨_, rfl, ?_⟩, trivial⟩
      · refine RW.makeMap rfl rfl (fun b66 => ?_)
        refine RW.nil ?_
        refine AW.on (done' := #[true, true, true, true, true, true, true, false, false, false]) rfl [2, 3] rfl rfl ?_
        refine AW.take 7 (done' := #[true, true, true, true, true, true, true, true, false, false]) (.agg (cat [(16, (iv a0_s_0)), p1 (u64), (512, (iv zf)), p1 (.map (some b66))])) [2, 3] hns rfl rfl rfl (by kernel_rfl) (by kernel_rfl) rfl rfl rfl (by kernel_rfl) (fun _ _ => Yi.build (vs := [.agg (cat [(16, (iv a0_s_0)), p1 (u64)]), .map (some b66)]) _ rfl rfl (fun _ => by kernel_rfl)) ?_
        have ht := hA63_1111111100 u64 b66
        rw [hA63] at ht
        refine AW.to [0, 1, 2, 3] rfl rfl ?_ ht
        exact ⟨rfl, rfl, trivial⟩
    have hA63_1111101000 : ∀ (u64 : Value) (b68 : Nat), A63 4 #[true, true, true, true, true, false, true, false, false, false] [(1, .pointer (some ⟨b8, 0, none⟩)), (14, .agg (cf 16 (iv a0_s_0))), (17, u64), (19, .map (some b68))] [mpE b68 ([] : List MEnt), .row u64 3 1 r11.length (ec e1 r11), .blk b8 25 (cat [(16, (iv a0_s_0)), p1 (sa0_s_1)]), ro sa0_s_1 1 a0_s_1.length (ec e1 a0_s_1)] := by
      intro u64 b68
      rw [hA63]
      refine AW.step 5 [] (by kernel_rfl) ⟨⟨_, rfl, ?_⟩, trivial⟩
      · refine RW.yi (.agg (cat [(16, (iv a0_s_0)), p1 (u64)])) rfl rfl (Yi.buildM (vs := [.agg (cf 16 (iv a0_s_0)), u64]) _ rfl rfl (fun w hM => by have e0 := rd_slice ((rdW 1 rfl) w hM); revert e0; generalize u64 = x0; rintro ⟨_, _, _, rfl⟩; show _ = _; kernel_rfl)) ?_
        refine RW.nil ?_
        refine AW.on (done' := #[true, true, true, true, true, true, true, false, false, false]) rfl [2, 3] rfl rfl ?_
        refine AW.take 7 (done' := #[true, true, true, true, true, true, true, true, false, false]) (.agg (cat [(16, (iv a0_s_0)), p1 (u64), (512, (iv zf)), p1 (.map (some b68))])) [2, 3] hns rfl rfl rfl (by kernel_rfl) (by kernel_rfl) rfl rfl rfl (by kernel_rfl) (fun _ _ => Yi.build (vs := [.agg (cat [(16, (iv a0_s_0)), p1 (u64)]), .map (some b68)]) _ rfl rfl (fun _ => by kernel_rfl)) ?_
        have ht := hA63_1111111100 u64 b68
        rw [hA63] at ht
        refine AW.to [0, 1, 2, 3] rfl rfl ?_ ht
        exact ⟨rfl, rfl, trivial⟩
    have hA63_1111100000 : ∀ (u64 : Value), A63 5 #[true, true, true, true, true, false, false, false, false, false] [(1, .pointer (some ⟨b8, 0, none⟩)), (14, .agg (cf 16 (iv a0_s_0))), (17, u64)] [.row u64 3 1 r11.length (ec e1 r11), .blk b8 25 (cat [(16, (iv a0_s_0)), p1 (sa0_s_1)]), ro sa0_s_1 1 a0_s_1.length (ec e1 a0_s_1)] := by
      intro u64
      rw [hA63]
      refine AW.step 5 [6] (by kernel_rfl) ⟨⟨_, rfl, ?_⟩, ⟨_, rfl, ?_⟩, trivial⟩
      · refine RW.yi (.agg (cat [(16, (iv a0_s_0)), p1 (u64)])) rfl rfl (Yi.buildM (vs := [.agg (cf 16 (iv a0_s_0)), u64]) _ rfl rfl (fun w hM => by have e0 := rd_slice ((rdW 0 rfl) w hM); revert e0; generalize u64 = x0; rintro ⟨_, _, _, rfl⟩; show _ = _; kernel_rfl)) ?_
        refine RW.nil ?_
        refine AW.on (done' := #[true, true, true, true, true, true, false, false, false, false]) rfl [1, 2] rfl rfl ?_
        have ht := hA63_1111110000 u64
        rw [hA63] at ht
        refine AW.to [0, 1, 2] rfl rfl ?_ ht
        exact ⟨rfl, rfl, trivial⟩
      · refine RW.makeMap rfl rfl (fun b68 => ?_)
        refine RW.nil ?_
        refine AW.on (done' := #[true, true, true, true, true, false, true, false, false, false]) rfl [2, 3] rfl rfl ?_
        have ht := hA63_1111101000 u64 b68
        rw [hA63] at ht
        refine AW.to [0, 1, 2, 3] rfl rfl ?_ ht
        exact ⟨rfl, rfl, rfl, rfl, trivial⟩
    have hA63_1111001000 : ∀ (b69 : Nat), A63 5 #[true, true, true, true, false, false, true, false, false, false] [(1, .pointer (some ⟨b8, 0, none⟩)), (14, .agg (cf 16 (iv a0_s_0))), (16, sa0_s_1), (19, .map (some b69))] [mpE b69 ([] : List MEnt), .blk b8 25 (cat [(16, (iv a0_s_0)), p1 (sa0_s_1)]), ro sa0_s_1 1 a0_s_1.length (ec e1 a0_s_1)] := by
      intro b69
      rw [hA63]
      refine AW.step 4 [] (by kernel_rfl) ⟨⟨_, rfl, ?_⟩, trivial⟩
      · refine RW.callM (cs := []) [] [mpE b69 ([] : List MEnt), .blk b8 25 (cat [(16, (iv a0_s_0)), p1 (sa0_s_1)]), ro sa0_s_1 1 a0_s_1.length (ec e1 a0_s_1)] [ro sa0_s_1 1 a0_s_1.length (ec e1 a0_s_1)] [0, 1, 2] (fun (u70 : Value) => [.row u70 3 1 r11.length (ec e1 r11)]) (fun (u70 : Value) => u70) rfl rfl rfl rfl Try.call26 rfl rfl rfl (fun w hM => lentF (A := []) hM 2 rfl (lent0)) (.inl fun _ => rfl) (fun w S' hM => c_slices_Clone K a0_s_1 sa0_s_1 r11 w S' hM hr11) (fun u70 => ?_)
        refine RW.nil ?_
        refine AW.on (done' := #[true, true, true, true, true, false, true, false, false, false]) rfl [2, 3] rfl rfl ?_
        have ht := hA63_1111101000 u70 b69
        rw [hA63] at ht
        refine AW.to [1, 0, 2, 3] rfl rfl ?_ ht
        exact ⟨rfl, rfl, rfl, rfl, trivial⟩
    have hA63_1111000000 : A63 6 #[true, true, true, true, false, false, false, false, false, false] [(1, .pointer (some ⟨b8, 0, none⟩)), (14, .agg (cf 16 (iv a0_s_0))), (16, sa0_s_1)] [.blk b8 25 (cat [(16, (iv a0_s_0)), p1 (sa0_s_1)]), ro sa0_s_1 1 a0_s_1.length (ec e1 a0_s_1)] := by
      rw [hA63]
      refine AW.step 4 [6] (by kernel_rfl) ⟨⟨_, rfl, ?_⟩, ⟨_, rfl, ?_⟩, trivial⟩
      · refine RW.callM (cs := []) [] [.blk b8 25 (cat [(16, (iv a0_s_0)), p1 (sa0_s_1)]), ro sa0_s_1 1 a0_s_1.length (ec e1 a0_s_1)] [ro sa0_s_1 1 a0_s_1.length (ec e1 a0_s_1)] [0, 1] (fun (u64 : Value) => [.row u64 3 1 r11.length (ec e1 r11)]) (fun (u64 : Value) => u64) rfl rfl rfl rfl Try.call26 rfl rfl rfl (fun w hM => lentF (A := []) hM 1 rfl (lent0)) (.inl fun _ => rfl) (fun w S' hM => c_slices_Clone K a0_s_1 sa0_s_1 r11 w S' hM hr11) (fun u64 => ?_)
        refine RW.nil ?_
        refine AW.on (done' := #[true, true, true, true, true, false, false, false, false, false]) rfl [1, 2] rfl rfl ?_
        have ht := hA63_1111100000 u64
        rw [hA63] at ht
        refine AW.to [0, 1, 2] rfl rfl ?_ ht
        exact ⟨rfl, rfl, rfl, trivial⟩
      · refine RW.makeMap rfl rfl (fun b69 => ?_)
        refine RW.nil ?_
        refine AW.on (done' := #[true, true, true, true, false, false, true, false, false, false]) rfl [1, 2] rfl rfl ?_
        have ht := hA63_1111001000 b69
        rw [hA63] at ht
        refine AW.to [0, 1, 2] rfl rfl ?_ ht
        exact ⟨rfl, rfl, rfl, rfl, trivial⟩
    rw [hA63]
    refine AW.take 0 (done' := #[true, false, false, false, false, false, false, false, false, false]) (.pointer (some ⟨b8, 0, none⟩)) [0, 1] hns rfl rfl rfl (by kernel_rfl) (by kernel_rfl) rfl rfl rfl (by kernel_rfl) (fun _ _ => Yi.fieldAddr (j := 0) Try.underlying25 rfl Try.sizeOf22 rfl) ?_
    refine AW.take 1 (done' := #[true, true, false, false, false, false, false, false, false, false]) (.agg (cf 16 (iv a0_s_0))) [0, 1] hns rfl rfl rfl (by kernel_rfl) (by kernel_rfl) rfl rfl rfl (by kernel_rfl) (fun _ _ => Yi.to (Yi.loadA (i := 0) (j := 0) (m := 16) (cs := cat [(16, (iv a0_s_0)), p1 (sa0_s_1)]) rfl rfl Try.isAgg22 Try.sizeOf22 (by rw [cat_size]; show _ ≤ 17; omega)) (congrArg Value.agg (Eq.trans (cat_part (ps := [(16, (iv a0_s_0)), p1 (sa0_s_1)]) (nn := 16) (i := 0) (m := 16) 0 rfl (by decide) rfl rfl) (by rw [shf_zero])))) ?_
    refine AW.take 2 (done' := #[true, true, true, false, false, false, false, false, false, false]) (.pointer (some ⟨b8, 16, none⟩)) [0, 1] hns rfl rfl rfl (by kernel_rfl) (by kernel_rfl) rfl rfl rfl (by kernel_rfl) (fun _ _ => Yi.fieldAddr (j := 1) Try.underlying25 rfl Try.sizeOf23 rfl) ?_
    refine AW.take 3 (done' := #[true, true, true, true, false, false, false, false, false, false]) (sa0_s_1) [0, 1] hns rfl rfl rfl (by kernel_rfl) (by kernel_rfl) rfl rfl rfl (by kernel_rfl) (fun _ _ => Yi.load1 (i := 0) _ rfl rfl Try.isAgg23 (cat_get1 (ps := [(16, (iv a0_s_0)), p1 (sa0_s_1)]) 1 rfl rfl)) ?_
    have ht := hA63_1111000000
    rw [hA63] at ht
    refine AW.to [0, 1] rfl rfl ?_ ht
    exact ⟨rfl, rfl, rfl, trivial⟩
  · replace hm := (if_neg h10).symm.trans hm
    refine RW.yi (.bool true) rfl rfl (Yi.pv _ rfl) ?_
    refine RW.nil ?_
    refine EW.next ?_
    refine CW.cond_true rfl ?_
    refine CW.seq ?_
    refine CW.region ?_
    refine RW.yi (.pointer none) rfl rfl (Yi.pv _ rfl) ?_
    refine RW.yi (.int .i64 4) rfl rfl (Yi.pv _ rfl) ?_
    refine RW.nil ?_
    refine EW.next ?_
    refine CW.ret ?_
    refine EW.thr ?_
    obtain rfl := Option.some.inj hm
    exact EW.done (rs := [.tmp 2, .tmp 3]) rfl (.tmp (t := 2) (v := .pointer none) rfl (.tmp (t := 3) (v := .int .i64 4) rfl .nil)) (fun _ hM => ⟨(), rfl, (hM.pick [] rfl rfl)⟩)

end Go.Proofs.Ytoepbakbpimkiaa
