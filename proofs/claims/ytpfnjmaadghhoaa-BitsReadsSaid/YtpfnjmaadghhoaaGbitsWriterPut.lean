import Derived.Test.YtpfnjmaadghhoaaN8
import Derived.Test.YtpfnjmaadghhoaaProg
import Derived.Test.YtpfnjmaadghhoaaGbitstailpush
set_option maxRecDepth 100000
set_option maxHeartbeats 1000000
namespace Go.Proofs.Ytpfnjmaadghhoaa
open Go Go.RowKit K

def bits_Writer_Put_j1 (_ : Nat) (a0_w_3 : Int) (a2_count : Int) (v21 : (List Int)) (v23 : Int) (v24 : Int) : Option (Int × Int × Int × Int × (List Int)) :=
  some (0, v23, v24, (w64 (a0_w_3 + a2_count)), v21)

def bits_Writer_Put_l1 (K : Nat) (a0_w_3 : Int) (a1_value : Int) (a2_count : Int) : Nat → (List Int) → Int → Int → Int →  Option (Int × Int × Int × Int × (List Int))
  | 0, _, _, _, _ => none
  | k1 + 1, v28, v30, v31, v32 =>
    (if 0 ≤ v32 then (if 0 ≤ v32 then ((bits_tail_push K v28 v30 v31 a0_w_3 (bitI .and .i64 (shrI .i64 a1_value v32) 1)).bind fun r41 => (bits_Writer_Put_l1 K a0_w_3 a1_value a2_count k1) r41.2.2 r41.1 r41.2.1 (w64 (v32 - 1))) else none) else bits_Writer_Put_j1 K a0_w_3 a2_count v28 v30 v31)

def bits_Writer_Put (K : Nat) (a0_w_0 : (List Int)) (a0_w_1 : Int) (a0_w_2 : Int) (a0_w_3 : Int) (a1_value : Int) (a2_count : Int) : Option (Int × Int × Int × Int × (List Int)) :=
  (if a2_count < 0 then some (2, a0_w_1, a0_w_2, a0_w_3, a0_w_0) else (if 24 < a2_count then some (2, a0_w_1, a0_w_2, a0_w_3, a0_w_0) else (if a1_value < 0 then some (2, a0_w_1, a0_w_2, a0_w_3, a0_w_0) else (if 0 ≤ a2_count then (if (shlI .i64 1 a2_count) ≤ a1_value then some (2, a0_w_1, a0_w_2, a0_w_3, a0_w_0) else bits_Writer_Put_l1 K a0_w_3 a1_value a2_count K a0_w_0 a0_w_1 a0_w_2 (w64 (a2_count - 1))) else none))))

theorem c_bits_Writer_Put (K : Nat) (a0_w_0 : (List Int)) (a0_w_1 : Int) (a0_w_2 : Int) (a0_w_3 : Int) (a1_value : Int) (a2_count : Int) (ba0_w : Nat) (sa0_w_0 : Value) (r : Int × Int × Int × Int × (List Int)) (w0 : World) (S : Own) (hM0 : Mem w0 S [.blk ba0_w 60 (#[sa0_w_0, .int .i64 a0_w_1, .int .i64 a0_w_2, .int .i64 a0_w_3]), .row sa0_w_0 5 1 a0_w_0.length (ec eb a0_w_0)] w0) (hm : bits_Writer_Put K a0_w_0 a0_w_1 a0_w_2 a0_w_3 a1_value a2_count = some r) : Calls Try.prog 13 #[.pointer (some ⟨ba0_w, 0, none⟩), .int .i64 a1_value, .int .i64 a2_count] w0 fun e w' => ∃ u : Value, e = .returned (.int .i64 r.1) ∧ Mem w0 S [.blk ba0_w 60 (#[u, .int .i64 r.2.1, .int .i64 r.2.2.1, .int .i64 r.2.2.2.1]), .row u 5 1 r.2.2.2.2.length (ec eb r.2.2.2.2)] w' := by
  unfold bits_Writer_Put at hm
  refine calls_CW (n := 48) w0 S [.blk ba0_w 60 (#[sa0_w_0, .int .i64 a0_w_1, .int .i64 a0_w_2, .int .i64 a0_w_3]), .row sa0_w_0 5 1 a0_w_0.length (ec eb a0_w_0)] Try.func13 rfl rfl rfl hM0 ?_
  refine CW.seq ?_
  refine CW.region ?_
  refine RW.yi (.int .i64 0) rfl rfl (Yi.pv _ rfl) ?_
  refine RW.nil ?_
  refine EW.next ?_
  refine CW.seq ?_
  refine CW.seq ?_
  refine CW.region ?_
  refine RW.yi (.pointer (some ⟨ba0_w, 0, none⟩)) rfl rfl (Yi.pv _ rfl) ?_
  refine RW.yi (.bool false) rfl rfl (Yi.eqNil false rfl rfl Try.underlying24 (.inr ⟨rfl, rfl⟩)) ?_
  refine RW.nil ?_
  refine EW.next ?_
  refine CW.cond_false rfl ?_
  refine CW.skip ?_
  refine EW.next ?_
  refine CW.seq ?_
  refine CW.seq ?_
  refine CW.region ?_
  refine RW.yi (.int .i64 a2_count) rfl rfl (Yi.pv _ rfl) ?_
  refine RW.yi (.bool (decide (a2_count < 0))) rfl rfl (Yi.pv _ rfl) ?_
  refine RW.yi (.bool (decide (a2_count < 0))) rfl rfl (Yi.pv _ rfl) ?_
  refine RW.fork 12 (a2_count < 0) rfl (fun h15 => ?_) (fun h15 => ?_)
  · replace hm := (if_pos h15).symm.trans hm
    refine RW.pass rfl rfl ?_
    refine RW.pass rfl rfl ?_
    refine RW.yi (.bool true) rfl rfl (Yi.pv _ rfl) ?_
    refine RW.yi (.bool true) rfl rfl (Yi.pv _ rfl) ?_
    refine RW.pass rfl rfl ?_
    refine RW.pass rfl rfl ?_
    refine RW.yi (.bool true) rfl rfl (Yi.pv _ rfl) ?_
    refine RW.yi (.bool true) rfl rfl (Yi.pv _ rfl) ?_
    refine RW.pass rfl rfl ?_
    refine RW.pass rfl rfl ?_
    refine RW.pass rfl rfl ?_
    refine RW.pass rfl rfl ?_
    refine RW.yi (.bool true) rfl rfl (Yi.pv _ rfl) ?_
    refine RW.nil ?_
    refine EW.next ?_
    refine CW.cond_true rfl ?_
    refine CW.seq ?_
    refine CW.region ?_
    refine RW.yi (.int .i64 2) rfl rfl (Yi.pv _ rfl) ?_
    refine RW.nil ?_
    refine EW.next ?_
    refine CW.ret ?_
    refine EW.thr ?_
    obtain rfl := Option.some.inj hm
    exact EW.done (rs := [.tmp 6]) rfl (.tmp (t := 6) (v := .int .i64 2) rfl .nil) (fun _ hM => ⟨(sa0_w_0), rfl, (hM.pick [0, 1] rfl rfl)⟩)
  · replace hm := (if_neg h15).symm.trans hm
    refine RW.yi (.int .i64 a2_count) rfl rfl (Yi.pv _ rfl) ?_
    refine RW.yi (.bool (decide (24 < a2_count))) rfl rfl (Yi.pv _ rfl) ?_
    refine RW.yi (.bool (decide (24 < a2_count))) rfl rfl (Yi.pv _ rfl) ?_
    refine RW.yi (.bool (decide (24 < a2_count))) rfl rfl (Yi.pv _ rfl) ?_
    refine RW.fork 16 (24 < a2_count) rfl (fun h16 => ?_) (fun h16 => ?_)
    · replace hm := (if_pos h16).symm.trans hm
      refine RW.pass rfl rfl ?_
      refine RW.pass rfl rfl ?_
      refine RW.yi (.bool true) rfl rfl (Yi.pv _ rfl) ?_
      refine RW.yi (.bool true) rfl rfl (Yi.pv _ rfl) ?_
      refine RW.pass rfl rfl ?_
      refine RW.pass rfl rfl ?_
      refine RW.pass rfl rfl ?_
      refine RW.pass rfl rfl ?_
      refine RW.yi (.bool true) rfl rfl (Yi.pv _ rfl) ?_
      refine RW.nil ?_
      refine EW.next ?_
      refine CW.cond_true rfl ?_
      refine CW.seq ?_
      refine CW.region ?_
      refine RW.yi (.int .i64 2) rfl rfl (Yi.pv _ rfl) ?_
      refine RW.nil ?_
      refine EW.next ?_
      refine CW.ret ?_
      refine EW.thr ?_
      obtain rfl := Option.some.inj hm
      exact EW.done (rs := [.tmp 6]) rfl (.tmp (t := 6) (v := .int .i64 2) rfl .nil) (fun _ hM => ⟨(sa0_w_0), rfl, (hM.pick [0, 1] rfl rfl)⟩)
    · replace hm := (if_neg h16).symm.trans hm
      refine RW.yi (.int .i64 a1_value) rfl rfl (Yi.pv _ rfl) ?_
      refine RW.yi (.bool (decide (a1_value < 0))) rfl rfl (Yi.pv _ rfl) ?_
      refine RW.yi (.bool (decide (a1_value < 0))) rfl rfl (Yi.pv _ rfl) ?_
      refine RW.yi (.bool (decide (a1_value < 0))) rfl rfl (Yi.pv _ rfl) ?_
      refine RW.fork 20 (a1_value < 0) rfl (fun h17 => ?_) (fun h17 => ?_)
      · replace hm := (if_pos h17).symm.trans hm
        refine RW.pass rfl rfl ?_
        refine RW.pass rfl rfl ?_
        refine RW.pass rfl rfl ?_
        refine RW.pass rfl rfl ?_
        refine RW.yi (.bool true) rfl rfl (Yi.pv _ rfl) ?_
        refine RW.nil ?_
        refine EW.next ?_
        refine CW.cond_true rfl ?_
        refine CW.seq ?_
        refine CW.region ?_
        refine RW.yi (.int .i64 2) rfl rfl (Yi.pv _ rfl) ?_
        refine RW.nil ?_
        refine EW.next ?_
        refine CW.ret ?_
        refine EW.thr ?_
        obtain rfl := Option.some.inj hm
        exact EW.done (rs := [.tmp 6]) rfl (.tmp (t := 6) (v := .int .i64 2) rfl .nil) (fun _ hM => ⟨(sa0_w_0), rfl, (hM.pick [0, 1] rfl rfl)⟩)
      · replace hm := (if_neg h17).symm.trans hm
        refine RW.yi (.int .i64 a1_value) rfl rfl (Yi.pv _ rfl) ?_
        refine RW.yi (.int .i64 a2_count) rfl rfl (Yi.pv _ rfl) ?_
        obtain ⟨g18, hm⟩ := of_guard hm
        refine RW.yi (.int .i64 (shlI .i64 1 a2_count)) rfl rfl (Yi.shl rfl rfl g18) ?_
        refine RW.yi (.bool (decide ((shlI .i64 1 a2_count) ≤ a1_value))) rfl rfl (Yi.pv _ rfl) ?_
        refine RW.yi (.bool (decide ((shlI .i64 1 a2_count) ≤ a1_value))) rfl rfl (Yi.pv _ rfl) ?_
        refine RW.nil ?_
        refine EW.next ?_
        refine CW.fork 25 ((shlI .i64 1 a2_count) ≤ a1_value) rfl (fun h19 => ?_) (fun h19 => ?_)
        · replace hm := (if_pos h19).symm.trans hm
          refine CW.cond_true rfl ?_
          refine CW.seq ?_
          refine CW.region ?_
          refine RW.yi (.int .i64 2) rfl rfl (Yi.pv _ rfl) ?_
          refine RW.nil ?_
          refine EW.next ?_
          refine CW.ret ?_
          refine EW.thr ?_
          obtain rfl := Option.some.inj hm
          exact EW.done (rs := [.tmp 6]) rfl (.tmp (t := 6) (v := .int .i64 2) rfl .nil) (fun _ hM => ⟨(sa0_w_0), rfl, (hM.pick [0, 1] rfl rfl)⟩)
        · replace hm := (if_neg h19).symm.trans hm
          refine CW.cond_false rfl ?_
          refine CW.skip ?_
          refine EW.next ?_
          refine CW.join (fun a w => ∃ (v21 : (List Int)) (v23 : Int) (v24 : Int) (s22 : Value), St 48 [(0, .pointer (some ⟨ba0_w, 0, none⟩)), (2, .int .i64 a2_count)] a ∧ Mem w0 S [.blk ba0_w 60 (#[s22, .int .i64 v23, .int .i64 v24, .int .i64 a0_w_3]), .row s22 5 1 v21.length (ec eb v21)] w ∧ bits_Writer_Put_j1 K a0_w_3 a2_count v21 v23 v24 = some r) ?_ ?_
          · refine CW.seq ?_
            refine CW.region ?_
            refine RW.yi (.int .i64 a2_count) rfl rfl (Yi.pv _ rfl) ?_
            refine RW.yi (.int .i64 (w64 (a2_count - 1))) rfl rfl (Yi.pv _ rfl) ?_
            refine RW.yi (.int .i64 (w64 (a2_count - 1))) rfl rfl (Yi.pv _ rfl) ?_
            refine RW.nil ?_
            refine EW.next ?_
            refine CW.block ?_
            refine CW.loop (fun k a w => ∃ (v28 : (List Int)) (v30 : Int) (v31 : Int) (v32 : Int) (s29 : Value), St 48 [(0, .pointer (some ⟨ba0_w, 0, none⟩)), (1, .int .i64 a1_value), (2, .int .i64 a2_count), (7, .int .i64 v32)] a ∧ Mem w0 S [.blk ba0_w 60 (#[s29, .int .i64 v30, .int .i64 v31, .int .i64 a0_w_3]), .row s29 5 1 v28.length (ec eb v28)] w ∧ bits_Writer_Put_l1 K a0_w_3 a1_value a2_count k v28 v30 v31 v32 = some r) K ?_ ?_ ?_
            · rintro a w ⟨_, _, _, _, _, _, _, hm⟩
              rw [bits_Writer_Put_l1.eq_1] at hm
              cases hm
            · exact fun a w hs hM => ⟨a0_w_0, a0_w_1, a0_w_2, (w64 (a2_count - 1)), sa0_w_0, hs.sub ⟨rfl, rfl, rfl, rfl, trivial⟩, (hM.pick [0, 1] rfl rfl), hm⟩
            · rintro k1 a w ⟨v28, v30, v31, v32, s29, hs, hM, hm⟩
              rw [bits_Writer_Put_l1.eq_2] at hm
              refine CW.enter hs hM ?_
              refine CW.seq ?_
              refine CW.seq ?_
              refine CW.region ?_
              refine RW.yi (.int .i64 v32) rfl rfl (Yi.pv _ rfl) ?_
              refine RW.yi (.bool (decide (0 ≤ v32))) rfl rfl (Yi.pv _ rfl) ?_
              refine RW.nil ?_
              refine EW.next ?_
              refine CW.fork 29 (0 ≤ v32) rfl (fun h39 => ?_) (fun h39 => ?_)
              · replace hm := (if_pos h39).symm.trans hm
                refine CW.cond_true rfl ?_
                refine CW.skip ?_
                refine EW.next ?_
                refine CW.seq ?_
                refine CW.block ?_
                obtain ⟨g40, hm⟩ := of_guard hm
                obtain ⟨r41, hr41, hm⟩ := of_bind hm
                refine CW.held (m := 8) [] (by kernel_rfl) (by kernel_rfl) (by kernel_rfl) (fun A44 hA44 hns => ?_)
                have hA44_11111111 : ∀ (u42 : Value), A44 0 #[true, true, true, true, true, true, true, true] [(0, .pointer (some ⟨ba0_w, 0, none⟩)), (1, .int .i64 a1_value), (2, .int .i64 a2_count), (7, .int .i64 v32)] [.blk ba0_w 60 (#[u42, .int .i64 r41.1, .int .i64 r41.2.1, .int .i64 a0_w_3]), .row u42 5 1 r41.2.2.length (ec eb r41.2.2)] := by
                  intro u42
                  rw [hA44]
                  refine AW.fin (by kernel_rfl) ?_
                  refine EW.bln ?_
                  refine EW.next ?_
                  refine CW.region ?_
                  refine RW.yi (.int .i64 v32) rfl rfl (Yi.pv _ rfl) ?_
                  refine RW.yi (.int .i64 (w64 (v32 - 1))) rfl rfl (Yi.pv _ rfl) ?_
                  refine RW.yi (.int .i64 (w64 (v32 - 1))) rfl rfl (Yi.pv _ rfl) ?_
                  refine RW.nil ?_
                  refine EW.thn ?_
                  exact fun a w hs hM => ⟨r41.2.2, r41.1, r41.2.1, (w64 (v32 - 1)), u42, hs.sub ⟨rfl, rfl, rfl, rfl, trivial⟩, (hM.pick [0, 1] rfl rfl), hm⟩
                have hA44_11111110 : A44 1 #[true, true, true, true, true, true, true, false] [(0, .pointer (some ⟨ba0_w, 0, none⟩)), (1, .int .i64 a1_value), (2, .int .i64 a2_count), (7, .int .i64 v32), (34, .pointer (some ⟨ba0_w, 0, none⟩)), (38, .int .i64 (bitI .and .i64 (shrI .i64 a1_value v32) 1))] [.blk ba0_w 60 (#[s29, .int .i64 v30, .int .i64 v31, .int .i64 a0_w_3]), .row s29 5 1 v28.length (ec eb v28)] := by
                  rw [hA44]
                  refine AW.step 7 [] (by kernel_rfl) ⟨⟨_, rfl, ?_⟩, trivial⟩
                  · refine RW.callM (cs := []) [.blk ba0_w 60 (#[s29, .int .i64 v30, .int .i64 v31, .int .i64 a0_w_3]), .row s29 5 1 v28.length (ec eb v28)] [] [] [0, 1] (fun (u45 : Value) => [.blk ba0_w 60 (#[u45, .int .i64 r41.1, .int .i64 r41.2.1, .int .i64 a0_w_3]), .row u45 5 1 r41.2.2.length (ec eb r41.2.2)]) (fun (u45 : Value) => .tuple #[]) rfl rfl rfl rfl Try.call29 rfl rfl rfl (fun w hM => lent0) (.inl fun _ => rfl) (fun w S' hM => c_bits_tail_push K v28 v30 v31 a0_w_3 (bitI .and .i64 (shrI .i64 a1_value v32) 1) ba0_w s29 r41 w S' hM hr41) (fun u45 => ?_)
                    refine RW.nil ?_
                    refine AW.on (done' := #[true, true, true, true, true, true, true, true]) rfl [] rfl rfl ?_
                    have ht := hA44_11111111 u45
                    rw [hA44] at ht
                    refine AW.to [0, 1] rfl rfl ?_ ht
                    exact ⟨rfl, rfl, rfl, rfl, trivial⟩
                rw [hA44]
                refine AW.take 0 (done' := #[true, false, false, false, false, false, false, false]) (.pointer (some ⟨ba0_w, 0, none⟩)) [] hns rfl rfl rfl (by kernel_rfl) (by kernel_rfl) rfl rfl rfl (by kernel_rfl) (fun _ _ => Yi.pv _ rfl) ?_
                refine AW.take 1 (done' := #[true, true, false, false, false, false, false, false]) (.pointer (some ⟨ba0_w, 0, none⟩)) [] hns rfl rfl rfl (by kernel_rfl) (by kernel_rfl) rfl rfl rfl (by kernel_rfl) (fun _ _ => Yi.nilCheck rfl (fun h => by cases h) (fun h => by cases h) (fun h => by cases h) (fun _ _ _ h => by cases h)) ?_
                refine AW.take 2 (done' := #[true, true, true, false, false, false, false, false]) (.pointer (some ⟨ba0_w, 0, none⟩)) [] hns rfl rfl rfl (by kernel_rfl) (by kernel_rfl) rfl rfl rfl (by kernel_rfl) (fun _ _ => Yi.fieldAddr (j := 0) Try.underlying60 rfl Try.sizeOf58 rfl) ?_
                refine AW.take 3 (done' := #[true, true, true, true, false, false, false, false]) (.int .i64 a1_value) [] hns rfl rfl rfl (by kernel_rfl) (by kernel_rfl) rfl rfl rfl (by kernel_rfl) (fun _ _ => Yi.pv _ rfl) ?_
                refine AW.take 4 (done' := #[true, true, true, true, true, false, false, false]) (.int .i64 v32) [] hns rfl rfl rfl (by kernel_rfl) (by kernel_rfl) rfl rfl rfl (by kernel_rfl) (fun _ _ => Yi.pv _ rfl) ?_
                refine AW.take 5 (done' := #[true, true, true, true, true, true, false, false]) (.int .i64 (shrI .i64 a1_value v32)) [] hns rfl rfl rfl (by kernel_rfl) (by kernel_rfl) rfl rfl rfl (by kernel_rfl) (fun _ _ => Yi.shr rfl rfl g40) ?_
                refine AW.take 6 (done' := #[true, true, true, true, true, true, true, false]) (.int .i64 (bitI .and .i64 (shrI .i64 a1_value v32) 1)) [] hns rfl rfl rfl (by kernel_rfl) (by kernel_rfl) rfl rfl rfl (by kernel_rfl) (fun _ _ => Yi.bits rfl rfl (by simp)) ?_
                have ht := hA44_11111110
                rw [hA44] at ht
                refine AW.to [0, 1] rfl rfl ?_ ht
                exact ⟨rfl, rfl, rfl, rfl, rfl, rfl, trivial⟩
              · replace hm := (if_neg h39).symm.trans hm
                refine CW.cond_false rfl ?_
                refine CW.exit ?_
                refine EW.thx ?_
                refine EW.thx ?_
                refine EW.blx ?_
                refine EW.thn ?_
                exact fun a w hs hM => ⟨v28, v30, v31, s29, hs.sub ⟨rfl, rfl, trivial⟩, (hM.pick [0, 1] rfl rfl), hm⟩
          · rintro a w ⟨v21, v23, v24, s22, hs, hM, hm⟩
            unfold bits_Writer_Put_j1 at hm
            refine CW.enter hs hM ?_
            refine CW.seq ?_
            refine CW.region ?_
            refine RW.yi (.pointer (some ⟨ba0_w, 0, none⟩)) rfl rfl (Yi.pv _ rfl) ?_
            refine RW.yi (.pointer (some ⟨ba0_w, 0, none⟩)) rfl rfl (Yi.nilCheck rfl (fun h => by cases h) (fun h => by cases h) (fun h => by cases h) (fun _ _ _ h => by cases h)) ?_
            refine RW.yi (.pointer (some ⟨ba0_w, 3, none⟩)) rfl rfl (Yi.fieldAddr (j := 1) Try.underlying60 rfl Try.sizeOf3 rfl) ?_
            refine RW.yi (.int .i64 a0_w_3) rfl rfl (Yi.load1 (i := 0) _ rfl rfl Try.isAgg3 rfl) ?_
            refine RW.yi (.int .i64 a2_count) rfl rfl (Yi.pv _ rfl) ?_
            refine RW.yi (.int .i64 (w64 (a0_w_3 + a2_count))) rfl rfl (Yi.pv _ rfl) ?_
            refine RW.yi (.pointer (some ⟨ba0_w, 0, none⟩)) rfl rfl (Yi.nilCheck rfl (fun h => by cases h) (fun h => by cases h) (fun h => by cases h) (fun _ _ _ h => by cases h)) ?_
            refine RW.yi (.pointer (some ⟨ba0_w, 3, none⟩)) rfl rfl (Yi.fieldAddr (j := 1) Try.underlying60 rfl Try.sizeOf3 rfl) ?_
            refine RW.store1 (i := 0) (cs' := #[s22, .int .i64 v23, .int .i64 v24, .int .i64 (w64 (a0_w_3 + a2_count))]) rfl rfl rfl rfl Try.sizeOf3 rfl rfl (Nat.le_of_ble_eq_true rfl) rfl ?_
            refine RW.nil ?_
            refine EW.next ?_
            refine CW.seq ?_
            refine CW.region ?_
            refine RW.yi (.int .i64 0) rfl rfl (Yi.pv _ rfl) ?_
            refine RW.nil ?_
            refine EW.next ?_
            refine CW.ret ?_
            obtain rfl := Option.some.inj hm
            exact EW.done (rs := [.tmp 6]) rfl (.tmp (t := 6) (v := .int .i64 0) rfl .nil) (fun _ hM => ⟨(s22), rfl, (hM.pick [0, 1] rfl rfl)⟩)

end Go.Proofs.Ytpfnjmaadghhoaa
