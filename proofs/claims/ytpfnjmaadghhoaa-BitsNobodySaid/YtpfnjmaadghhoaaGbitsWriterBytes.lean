import Derived.Test.YtpfnjmaadghhoaaN8
import Derived.Test.YtpfnjmaadghhoaaProg
import Derived.Test.YtpfnjmaadghhoaaGbitstailpush2
set_option maxRecDepth 100000
set_option maxHeartbeats 1000000
namespace Go.Proofs.Ytpfnjmaadghhoaa
open Go Go.RowKit K

def bits_Writer_Bytes_j1 (_ : Nat) (v10 : (List Int)) (v12 : Int) (v13 : Int) : Option ((List Int)) :=
  some v10

def bits_Writer_Bytes_l1 (K : Nat)  : Nat → (List Int) → Int → Int →  Option ((List Int))
  | 0, _, _, _ => none
  | k1 + 1, v15, v17, v18 =>
    (if 0 < v18 then ((bits_tail_push_2 K v15 v17 v18 1).bind fun r25 => (bits_Writer_Bytes_l1 K k1) r25.2.2 r25.1 r25.2.1) else bits_Writer_Bytes_j1 K v15 v17 v18)

def bits_Writer_Bytes (K : Nat) (a0_w_0 : (List Int)) (a0_w_1 : Int) (a0_w_2 : Int) (a0_w_3 : Int) : Option ((List Int)) :=
  (if ([] : List Int).length + a0_w_0.length ≤ 140737488355328 then bits_Writer_Bytes_l1 K K (([] : List Int) ++ a0_w_0) a0_w_1 a0_w_2 else none)

theorem c_bits_Writer_Bytes (K : Nat) (a0_w_0 : (List Int)) (a0_w_1 : Int) (a0_w_2 : Int) (a0_w_3 : Int) (ba0_w : Nat) (sa0_w_0 : Value) (r : (List Int)) (w0 : World) (S : Own) (hM0 : Mem w0 S [.blk ba0_w 60 (#[sa0_w_0, .int .i64 a0_w_1, .int .i64 a0_w_2, .int .i64 a0_w_3]), .row sa0_w_0 5 1 a0_w_0.length (ec eb a0_w_0)] w0) (hm : bits_Writer_Bytes K a0_w_0 a0_w_1 a0_w_2 a0_w_3 = some r) : Calls Try.prog 15 #[.pointer (some ⟨ba0_w, 0, none⟩)] w0 fun e w' => ∃ u : Value, e = .returned (u) ∧ Mem w0 S [.row u 5 1 r.length (ec eb r), .blk ba0_w 60 (#[sa0_w_0, .int .i64 a0_w_1, .int .i64 a0_w_2, .int .i64 a0_w_3]), .row sa0_w_0 5 1 a0_w_0.length (ec eb a0_w_0)] w' := by
  unfold bits_Writer_Bytes at hm
  refine calls_CW (n := 30) w0 S [.blk ba0_w 60 (#[sa0_w_0, .int .i64 a0_w_1, .int .i64 a0_w_2, .int .i64 a0_w_3]), .row sa0_w_0 5 1 a0_w_0.length (ec eb a0_w_0)] Try.func15 rfl rfl rfl hM0 ?_
  refine CW.seq ?_
  refine CW.region ?_
  refine RW.yi (.slice none 0 0) rfl rfl (Yi.pv _ rfl) ?_
  refine RW.nil ?_
  refine EW.next ?_
  refine CW.seq ?_
  refine CW.seq ?_
  refine CW.region ?_
  refine RW.yi (.pointer (some ⟨ba0_w, 0, none⟩)) rfl rfl (Yi.pv _ rfl) ?_
  refine RW.yi (.bool false) rfl rfl (Yi.eqNil false rfl rfl Try.underlying24 (.inr ⟨rfl, rfl⟩)) ?_
  refine RW.nil ?_
  refine EW.next ?_
  refine CW.cond_false rfl ?_
  refine CW.skip ?_
  refine EW.next ?_
  refine CW.seq ?_
  obtain ⟨g4, hm⟩ := of_guard hm
  refine CW.held (m := 20) [.blk ba0_w 60 (#[sa0_w_0, .int .i64 a0_w_1, .int .i64 a0_w_2, .int .i64 a0_w_3]), .row sa0_w_0 5 1 a0_w_0.length (ec eb a0_w_0)] (by kernel_rfl) (by kernel_rfl) (by kernel_rfl) (fun A28 hA28 hns => ?_)
  have hA28_11111111111111111111 : ∀ (s5 : Value) (s7 : Value) (b8 : Nat), A28 0 #[true, true, true, true, true, true, true, true, true, true, true, true, true, true, true, true, true, true, true, true] [(3, .pointer (some ⟨b8, 0, none⟩))] [.blk b8 58 (#[s7, .int .i64 a0_w_1, .int .i64 a0_w_2]), .row s7 5 1 (([] : List Int) ++ a0_w_0).length (ec eb (([] : List Int) ++ a0_w_0)), .blk ba0_w 60 (#[sa0_w_0, .int .i64 a0_w_1, .int .i64 a0_w_2, .int .i64 a0_w_3]), .row sa0_w_0 5 1 a0_w_0.length (ec eb a0_w_0)] := by
    intro s5 s7 b8
    rw [hA28]
    refine AW.fin (by kernel_rfl) ?_
    refine EW.next ?_
    refine CW.join (fun a w => ∃ (v10 : (List Int)) (v12 : Int) (v13 : Int) (s11 : Value), St 30 [(3, .pointer (some ⟨b8, 0, none⟩))] a ∧ Mem w0 S [.blk b8 58 (#[s11, .int .i64 v12, .int .i64 v13]), .row s11 5 1 v10.length (ec eb v10), .blk ba0_w 60 (#[sa0_w_0, .int .i64 a0_w_1, .int .i64 a0_w_2, .int .i64 a0_w_3]), .row sa0_w_0 5 1 a0_w_0.length (ec eb a0_w_0)] w ∧ bits_Writer_Bytes_j1 K v10 v12 v13 = some r) ?_ ?_
    · refine CW.block ?_
      refine CW.loop (fun k a w => ∃ (v15 : (List Int)) (v17 : Int) (v18 : Int) (s16 : Value), St 30 [(3, .pointer (some ⟨b8, 0, none⟩))] a ∧ Mem w0 S [.blk b8 58 (#[s16, .int .i64 v17, .int .i64 v18]), .row s16 5 1 v15.length (ec eb v15), .blk ba0_w 60 (#[sa0_w_0, .int .i64 a0_w_1, .int .i64 a0_w_2, .int .i64 a0_w_3]), .row sa0_w_0 5 1 a0_w_0.length (ec eb a0_w_0)] w ∧ bits_Writer_Bytes_l1 K k v15 v17 v18 = some r) K ?_ ?_ ?_
      · rintro a w ⟨_, _, _, _, _, _, hm⟩
        rw [bits_Writer_Bytes_l1.eq_1] at hm
        cases hm
      · exact fun a w hs hM => ⟨(([] : List Int) ++ a0_w_0), a0_w_1, a0_w_2, s7, hs.sub ⟨rfl, trivial⟩, (hM.pick [0, 1, 2, 3] rfl rfl), hm⟩
      · rintro k1 a w ⟨v15, v17, v18, s16, hs, hM, hm⟩
        rw [bits_Writer_Bytes_l1.eq_2] at hm
        refine CW.enter hs hM ?_
        refine CW.seq ?_
        refine CW.seq ?_
        refine CW.region ?_
        refine RW.yi (.pointer (some ⟨b8, 2, none⟩)) rfl rfl (Yi.fieldAddr (j := 2) Try.underlying58 rfl Try.sizeOf3 rfl) ?_
        refine RW.yi (.int .i64 v18) rfl rfl (Yi.load1 (i := 0) _ rfl rfl Try.isAgg3 rfl) ?_
        refine RW.yi (.bool (decide (0 < v18))) rfl rfl (Yi.pv _ rfl) ?_
        refine RW.nil ?_
        refine EW.next ?_
        refine CW.fork 26 (0 < v18) rfl (fun h24 => ?_) (fun h24 => ?_)
        · replace hm := (if_pos h24).symm.trans hm
          refine CW.cond_true rfl ?_
          refine CW.skip ?_
          refine EW.next ?_
          refine CW.block ?_
          refine CW.region ?_
          obtain ⟨r25, hr25, hm⟩ := of_bind hm
          refine RW.callM (cs := []) [.blk b8 58 (#[s16, .int .i64 v17, .int .i64 v18]), .row s16 5 1 v15.length (ec eb v15)] [.blk ba0_w 60 (#[sa0_w_0, .int .i64 a0_w_1, .int .i64 a0_w_2, .int .i64 a0_w_3]), .row sa0_w_0 5 1 a0_w_0.length (ec eb a0_w_0)] [] [0, 1, 2, 3] (fun (u26 : Value) => [.blk b8 58 (#[u26, .int .i64 r25.1, .int .i64 r25.2.1]), .row u26 5 1 r25.2.2.length (ec eb r25.2.2)]) (fun (u26 : Value) => .tuple #[]) rfl rfl rfl rfl Try.call29 rfl rfl rfl (fun w hM => lent0) (.inl fun _ => rfl) (fun w S' hM => c_bits_tail_push_2 K v15 v17 v18 1 b8 s16 r25 w S' hM hr25) (fun u26 => ?_)
          refine RW.nil ?_
          refine EW.bln ?_
          refine EW.thn ?_
          exact fun a w hs hM => ⟨r25.2.2, r25.1, r25.2.1, u26, hs.sub ⟨rfl, trivial⟩, (hM.pick [0, 1, 2, 3] rfl rfl), hm⟩
        · replace hm := (if_neg h24).symm.trans hm
          refine CW.cond_false rfl ?_
          refine CW.exit ?_
          refine EW.thx ?_
          refine EW.thx ?_
          refine EW.blx ?_
          refine EW.thn ?_
          exact fun a w hs hM => ⟨v15, v17, v18, s16, hs.sub ⟨rfl, trivial⟩, (hM.pick [0, 1, 2, 3] rfl rfl), hm⟩
    · rintro a w ⟨v10, v12, v13, s11, hs, hM, hm⟩
      unfold bits_Writer_Bytes_j1 at hm
      refine CW.enter hs hM ?_
      refine CW.seq ?_
      refine CW.region ?_
      refine RW.yi (.pointer (some ⟨b8, 0, none⟩)) rfl rfl (Yi.fieldAddr (j := 0) Try.underlying58 rfl Try.sizeOf34 rfl) ?_
      refine RW.yi (s11) rfl rfl (Yi.load1 (i := 0) _ rfl rfl Try.isAgg34 rfl) ?_
      refine RW.yi (s11) rfl rfl (Yi.pv _ rfl) ?_
      refine RW.nil ?_
      refine EW.next ?_
      refine CW.ret ?_
      obtain rfl := Option.some.inj hm
      exact EW.done (rs := [.tmp 2]) rfl (.tmp (t := 2) (v := s11) rfl .nil) (fun _ hM => ⟨(s11), rfl, (hM.pick [1, 2, 3] rfl rfl)⟩)
  have hA28_11111111111111111110 : ∀ (s29 : Value) (s31 : Value) (b32 : Nat), A28 1 #[true, true, true, true, true, true, true, true, true, true, true, true, true, true, true, true, true, true, true, false] [(3, .pointer (some ⟨b32, 0, none⟩)), (23, .agg #[s31, .int .i64 a0_w_1, .int .i64 a0_w_2])] [.blk b32 58 (#[.slice none 0 0, .int .i64 0, .int .i64 0]), .row s31 5 1 (([] : List Int) ++ a0_w_0).length (ec eb (([] : List Int) ++ a0_w_0)), .blk ba0_w 60 (#[sa0_w_0, .int .i64 a0_w_1, .int .i64 a0_w_2, .int .i64 a0_w_3]), .row sa0_w_0 5 1 a0_w_0.length (ec eb a0_w_0)] := by
    intro s29 s31 b32
    rw [hA28]
    refine AW.step 19 [] (by kernel_rfl) ⟨⟨_, rfl, ?_⟩, trivial⟩
    · refine RW.conv1 (fun w hM => ones_cat (ps := [p1 (s31), p1 (.int .i64 a0_w_1), p1 (.int .i64 a0_w_2)]) (ones_cons (fun _ => (rd_one ((rdW 1 rfl) w hM)).2) (ones_cons (fun _ => rfl) (ones_cons (fun _ => rfl) ones_nil)))) (fun hone => ?_)
      refine RW.storeQ (i := 0) (m := 3) (cs' := #[s31, .int .i64 a0_w_1, .int .i64 a0_w_2]) rfl rfl rfl rfl Try.sizeOf58 rfl (Nat.le_of_ble_eq_true rfl) hone (fun c' hs hget => (cat_spl (A := []) (X := [p1 (.slice none 0 0), p1 (.int .i64 0), p1 (.int .i64 0)]) (B := []) (Y := [p1 (s31), p1 (.int .i64 a0_w_1), p1 (.int .i64 a0_w_2)]) rfl hs (by first | exact hget | (rw [cat_one]; exact hget)))) ?_
      refine RW.nil ?_
      refine AW.on (done' := #[true, true, true, true, true, true, true, true, true, true, true, true, true, true, true, true, true, true, true, true]) rfl [2, 3] rfl rfl ?_
      have ht := hA28_11111111111111111111 s29 s31 b32
      rw [hA28] at ht
      refine AW.to [0, 1, 2, 3] rfl rfl ?_ ht
      exact ⟨rfl, trivial⟩
  have hA28_11111111111111111100 : ∀ (s29 : Value) (s31 : Value), A28 2 #[true, true, true, true, true, true, true, true, true, true, true, true, true, true, true, true, true, true, false, false] [(23, .agg #[s31, .int .i64 a0_w_1, .int .i64 a0_w_2])] [.row s31 5 1 (([] : List Int) ++ a0_w_0).length (ec eb (([] : List Int) ++ a0_w_0)), .blk ba0_w 60 (#[sa0_w_0, .int .i64 a0_w_1, .int .i64 a0_w_2, .int .i64 a0_w_3]), .row sa0_w_0 5 1 a0_w_0.length (ec eb a0_w_0)] := by
    intro s29 s31
    rw [hA28]
    refine AW.step 18 [] (by kernel_rfl) ⟨⟨_, rfl, ?_⟩, trivial⟩
    · refine RW.alloc (z := .agg #[.slice none 0 0, .int .i64 0, .int .i64 0]) (#[.slice none 0 0, .int .i64 0, .int .i64 0]) rfl rfl (fun _ => by kernel_rfl) rfl (fun b32 => ?_)
      refine RW.nil ?_
      refine AW.on (done' := #[true, true, true, true, true, true, true, true, true, true, true, true, true, true, true, true, true, true, true, false]) rfl [2, 3] rfl rfl ?_
      have ht := hA28_11111111111111111110 s29 s31 b32
      rw [hA28] at ht
      refine AW.to [0, 1, 2, 3] rfl rfl ?_ ht
      exact ⟨rfl, rfl, trivial⟩
  have hA28_11111111111111111010 : ∀ (s29 : Value) (s31 : Value) (b33 : Nat), A28 2 #[true, true, true, true, true, true, true, true, true, true, true, true, true, true, true, true, true, false, true, false] [(3, .pointer (some ⟨b33, 0, none⟩)), (12, s31), (17, .int .i64 a0_w_1), (22, .int .i64 a0_w_2)] [.blk b33 58 (#[.slice none 0 0, .int .i64 0, .int .i64 0]), .row s31 5 1 (([] : List Int) ++ a0_w_0).length (ec eb (([] : List Int) ++ a0_w_0)), .blk ba0_w 60 (#[sa0_w_0, .int .i64 a0_w_1, .int .i64 a0_w_2, .int .i64 a0_w_3]), .row sa0_w_0 5 1 a0_w_0.length (ec eb a0_w_0)] := by
    intro s29 s31 b33
    rw [hA28]
    refine AW.step 17 [] (by kernel_rfl) ⟨⟨_, rfl, ?_⟩, trivial⟩
    · refine RW.yi (.agg #[s31, .int .i64 a0_w_1, .int .i64 a0_w_2]) rfl rfl (Yi.buildM (vs := [s31, .int .i64 a0_w_1, .int .i64 a0_w_2]) _ rfl rfl (fun w hM => by have e0 := rd_slice ((rdW 1 rfl) w hM); revert e0; generalize s31 = x0; rintro ⟨_, _, _, rfl⟩; show _ = _; kernel_rfl)) ?_
      refine RW.nil ?_
      refine AW.on (done' := #[true, true, true, true, true, true, true, true, true, true, true, true, true, true, true, true, true, true, true, false]) rfl [2, 3] rfl rfl ?_
      have ht := hA28_11111111111111111110 s29 s31 b33
      rw [hA28] at ht
      refine AW.to [0, 1, 2, 3] rfl rfl ?_ ht
      exact ⟨rfl, rfl, trivial⟩
  have hA28_11111111111111111000 : ∀ (s29 : Value) (s31 : Value), A28 3 #[true, true, true, true, true, true, true, true, true, true, true, true, true, true, true, true, true, false, false, false] [(12, s31), (17, .int .i64 a0_w_1), (22, .int .i64 a0_w_2)] [.row s31 5 1 (([] : List Int) ++ a0_w_0).length (ec eb (([] : List Int) ++ a0_w_0)), .blk ba0_w 60 (#[sa0_w_0, .int .i64 a0_w_1, .int .i64 a0_w_2, .int .i64 a0_w_3]), .row sa0_w_0 5 1 a0_w_0.length (ec eb a0_w_0)] := by
    intro s29 s31
    rw [hA28]
    refine AW.step 17 [18] (by kernel_rfl) ⟨⟨_, rfl, ?_⟩, ⟨_, rfl, ?_⟩, trivial⟩
    · refine RW.yi (.agg #[s31, .int .i64 a0_w_1, .int .i64 a0_w_2]) rfl rfl (Yi.buildM (vs := [s31, .int .i64 a0_w_1, .int .i64 a0_w_2]) _ rfl rfl (fun w hM => by have e0 := rd_slice ((rdW 0 rfl) w hM); revert e0; generalize s31 = x0; rintro ⟨_, _, _, rfl⟩; show _ = _; kernel_rfl)) ?_
      refine RW.nil ?_
      refine AW.on (done' := #[true, true, true, true, true, true, true, true, true, true, true, true, true, true, true, true, true, true, false, false]) rfl [1, 2] rfl rfl ?_
      have ht := hA28_11111111111111111100 s29 s31
      rw [hA28] at ht
      refine AW.to [0, 1, 2] rfl rfl ?_ ht
      exact ⟨rfl, trivial⟩
    · refine RW.alloc (z := .agg #[.slice none 0 0, .int .i64 0, .int .i64 0]) (#[.slice none 0 0, .int .i64 0, .int .i64 0]) rfl rfl (fun _ => by kernel_rfl) rfl (fun b33 => ?_)
      refine RW.nil ?_
      refine AW.on (done' := #[true, true, true, true, true, true, true, true, true, true, true, true, true, true, true, true, true, false, true, false]) rfl [2, 3] rfl rfl ?_
      have ht := hA28_11111111111111111010 s29 s31 b33
      rw [hA28] at ht
      refine AW.to [0, 1, 2, 3] rfl rfl ?_ ht
      exact ⟨rfl, rfl, rfl, rfl, trivial⟩
  have hA28_11111101111111111010 : ∀ (s29 : Value) (b34 : Nat), A28 3 #[true, true, true, true, true, true, false, true, true, true, true, true, true, true, true, true, true, false, true, false] [(3, .pointer (some ⟨b34, 0, none⟩)), (6, s29), (11, sa0_w_0), (17, .int .i64 a0_w_1), (22, .int .i64 a0_w_2)] [.blk b34 58 (#[.slice none 0 0, .int .i64 0, .int .i64 0]), .row s29 5 1 ([] : List Int).length (ec eb ([] : List Int)), .blk ba0_w 60 (#[sa0_w_0, .int .i64 a0_w_1, .int .i64 a0_w_2, .int .i64 a0_w_3]), .row sa0_w_0 5 1 a0_w_0.length (ec eb a0_w_0)] := by
    intro s29 b34
    rw [hA28]
    refine AW.step 6 [] (by kernel_rfl) ⟨⟨_, rfl, ?_⟩, trivial⟩
    · refine RW.app (i := 1) (e := 5) (sz := 1) (by_ := 1) (z := .int .u8 0) (m := ([] : List Int).length) (mx := a0_w_0.length) (m' := (([] : List Int) ++ a0_w_0).length) (cs := ec eb ([] : List Int)) (news := ec eb a0_w_0) (cs' := ec eb (([] : List Int) ++ a0_w_0)) rfl rfl Try.underlying34 (by kernel_rfl) rfl (by decide) (by decide) rfl rfl rfl (rdW 3 rfl) (ec_one eb_is _) (by omega) (ec_append _ _ _) (by simp only [List.length_append]) (fun s35 => ?_)
      refine RW.nil ?_
      refine AW.on (done' := #[true, true, true, true, true, true, true, true, true, true, true, true, true, true, true, true, true, false, true, false]) rfl [2, 3] rfl rfl ?_
      have ht := hA28_11111111111111111010 s29 s35 b34
      rw [hA28] at ht
      refine AW.to [0, 1, 2, 3] rfl rfl ?_ ht
      exact ⟨rfl, rfl, rfl, rfl, trivial⟩
  have hA28_11111101111111111000 : ∀ (s29 : Value), A28 4 #[true, true, true, true, true, true, false, true, true, true, true, true, true, true, true, true, true, false, false, false] [(6, s29), (11, sa0_w_0), (17, .int .i64 a0_w_1), (22, .int .i64 a0_w_2)] [.row s29 5 1 ([] : List Int).length (ec eb ([] : List Int)), .blk ba0_w 60 (#[sa0_w_0, .int .i64 a0_w_1, .int .i64 a0_w_2, .int .i64 a0_w_3]), .row sa0_w_0 5 1 a0_w_0.length (ec eb a0_w_0)] := by
    intro s29
    rw [hA28]
    refine AW.step 6 [18] (by kernel_rfl) ⟨⟨_, rfl, ?_⟩, ⟨_, rfl, ?_⟩, trivial⟩
    · refine RW.app (i := 0) (e := 5) (sz := 1) (by_ := 1) (z := .int .u8 0) (m := ([] : List Int).length) (mx := a0_w_0.length) (m' := (([] : List Int) ++ a0_w_0).length) (cs := ec eb ([] : List Int)) (news := ec eb a0_w_0) (cs' := ec eb (([] : List Int) ++ a0_w_0)) rfl rfl Try.underlying34 (by kernel_rfl) rfl (by decide) (by decide) rfl rfl rfl (rdW 2 rfl) (ec_one eb_is _) (by omega) (ec_append _ _ _) (by simp only [List.length_append]) (fun s31 => ?_)
      refine RW.nil ?_
      refine AW.on (done' := #[true, true, true, true, true, true, true, true, true, true, true, true, true, true, true, true, true, false, false, false]) rfl [1, 2] rfl rfl ?_
      have ht := hA28_11111111111111111000 s29 s31
      rw [hA28] at ht
      refine AW.to [0, 1, 2] rfl rfl ?_ ht
      exact ⟨rfl, rfl, rfl, trivial⟩
    · refine RW.alloc (z := .agg #[.slice none 0 0, .int .i64 0, .int .i64 0]) (#[.slice none 0 0, .int .i64 0, .int .i64 0]) rfl rfl (fun _ => by kernel_rfl) rfl (fun b34 => ?_)
      refine RW.nil ?_
      refine AW.on (done' := #[true, true, true, true, true, true, false, true, true, true, true, true, true, true, true, true, true, false, true, false]) rfl [2, 3] rfl rfl ?_
      have ht := hA28_11111101111111111010 s29 b34
      rw [hA28] at ht
      refine AW.to [0, 1, 2, 3] rfl rfl ?_ ht
      exact ⟨rfl, rfl, rfl, rfl, rfl, trivial⟩
  have hA28_01111101111111111010 : ∀ (b36 : Nat), A28 4 #[false, true, true, true, true, true, false, true, true, true, true, true, true, true, true, true, true, false, true, false] [(3, .pointer (some ⟨b36, 0, none⟩)), (11, sa0_w_0), (17, .int .i64 a0_w_1), (22, .int .i64 a0_w_2)] [.blk b36 58 (#[.slice none 0 0, .int .i64 0, .int .i64 0]), .blk ba0_w 60 (#[sa0_w_0, .int .i64 a0_w_1, .int .i64 a0_w_2, .int .i64 a0_w_3]), .row sa0_w_0 5 1 a0_w_0.length (ec eb a0_w_0)] := by
    intro b36
    rw [hA28]
    refine AW.step 0 [] (by kernel_rfl) ⟨⟨_, rfl, ?_⟩, trivial⟩
    · refine RW.buildS (e := 5) (sz := 1) (vs := []) ((ec eb ([] : List Int)).toArray) rfl rfl rfl rfl rfl (by decide) (fun _ => by kernel_rfl) (fun s37 => ?_)
      refine RW.nil ?_
      refine AW.on (done' := #[true, true, true, true, true, true, false, true, true, true, true, true, true, true, true, true, true, false, true, false]) rfl [2, 3] rfl rfl ?_
      have ht := hA28_11111101111111111010 s37 b36
      rw [hA28] at ht
      refine AW.to [1, 0, 2, 3] rfl rfl ?_ ht
      exact ⟨rfl, rfl, rfl, rfl, rfl, trivial⟩
  have hA28_01111101111111111000 : A28 5 #[false, true, true, true, true, true, false, true, true, true, true, true, true, true, true, true, true, false, false, false] [(11, sa0_w_0), (17, .int .i64 a0_w_1), (22, .int .i64 a0_w_2)] [.blk ba0_w 60 (#[sa0_w_0, .int .i64 a0_w_1, .int .i64 a0_w_2, .int .i64 a0_w_3]), .row sa0_w_0 5 1 a0_w_0.length (ec eb a0_w_0)] := by
    rw [hA28]
    refine AW.step 0 [18] (by kernel_rfl) ⟨⟨_, rfl, ?_⟩, ⟨_, rfl, ?_⟩, trivial⟩
    · refine RW.buildS (e := 5) (sz := 1) (vs := []) ((ec eb ([] : List Int)).toArray) rfl rfl rfl rfl rfl (by decide) (fun _ => by kernel_rfl) (fun s29 => ?_)
      refine RW.nil ?_
      refine AW.on (done' := #[true, true, true, true, true, true, false, true, true, true, true, true, true, true, true, true, true, false, false, false]) rfl [1, 2] rfl rfl ?_
      have ht := hA28_11111101111111111000 s29
      rw [hA28] at ht
      refine AW.to [0, 1, 2] rfl rfl ?_ ht
      exact ⟨rfl, rfl, rfl, rfl, trivial⟩
    · refine RW.alloc (z := .agg #[.slice none 0 0, .int .i64 0, .int .i64 0]) (#[.slice none 0 0, .int .i64 0, .int .i64 0]) rfl rfl (fun _ => by kernel_rfl) rfl (fun b36 => ?_)
      refine RW.nil ?_
      refine AW.on (done' := #[false, true, true, true, true, true, false, true, true, true, true, true, true, true, true, true, true, false, true, false]) rfl [1, 2] rfl rfl ?_
      have ht := hA28_01111101111111111010 b36
      rw [hA28] at ht
      refine AW.to [0, 1, 2] rfl rfl ?_ ht
      exact ⟨rfl, rfl, rfl, rfl, trivial⟩
  rw [hA28]
  refine AW.take 1 (done' := #[false, true, false, false, false, false, false, false, false, false, false, false, false, false, false, false, false, false, false, false]) (.pointer (some ⟨ba0_w, 0, none⟩)) [0, 1] hns rfl rfl rfl (by kernel_rfl) (by kernel_rfl) rfl rfl rfl (by kernel_rfl) (fun _ _ => Yi.pv _ rfl) ?_
  refine AW.take 2 (done' := #[false, true, true, false, false, false, false, false, false, false, false, false, false, false, false, false, false, false, false, false]) (.pointer (some ⟨ba0_w, 0, none⟩)) [0, 1] hns rfl rfl rfl (by kernel_rfl) (by kernel_rfl) rfl rfl rfl (by kernel_rfl) (fun _ _ => Yi.nilCheck rfl (fun h => by cases h) (fun h => by cases h) (fun h => by cases h) (fun _ _ _ h => by cases h)) ?_
  refine AW.take 3 (done' := #[false, true, true, true, false, false, false, false, false, false, false, false, false, false, false, false, false, false, false, false]) (.pointer (some ⟨ba0_w, 0, none⟩)) [0, 1] hns rfl rfl rfl (by kernel_rfl) (by kernel_rfl) rfl rfl rfl (by kernel_rfl) (fun _ _ => Yi.fieldAddr (j := 0) Try.underlying60 rfl Try.sizeOf58 rfl) ?_
  refine AW.take 4 (done' := #[false, true, true, true, true, false, false, false, false, false, false, false, false, false, false, false, false, false, false, false]) (.pointer (some ⟨ba0_w, 0, none⟩)) [0, 1] hns rfl rfl rfl (by kernel_rfl) (by kernel_rfl) rfl rfl rfl (by kernel_rfl) (fun _ _ => Yi.fieldAddr (j := 0) Try.underlying58 rfl Try.sizeOf34 rfl) ?_
  refine AW.take 5 (done' := #[false, true, true, true, true, true, false, false, false, false, false, false, false, false, false, false, false, false, false, false]) (sa0_w_0) [0, 1] hns rfl rfl rfl (by kernel_rfl) (by kernel_rfl) rfl rfl rfl (by kernel_rfl) (fun _ _ => Yi.load1 (i := 0) _ rfl rfl Try.isAgg34 rfl) ?_
  refine AW.take 7 (done' := #[false, true, true, true, true, true, false, true, false, false, false, false, false, false, false, false, false, false, false, false]) (.pointer (some ⟨ba0_w, 0, none⟩)) [0, 1] hns rfl rfl rfl (by kernel_rfl) (by kernel_rfl) rfl rfl rfl (by kernel_rfl) (fun _ _ => Yi.pv _ rfl) ?_
  refine AW.take 8 (done' := #[false, true, true, true, true, true, false, true, true, false, false, false, false, false, false, false, false, false, false, false]) (.pointer (some ⟨ba0_w, 0, none⟩)) [0, 1] hns rfl rfl rfl (by kernel_rfl) (by kernel_rfl) rfl rfl rfl (by kernel_rfl) (fun _ _ => Yi.nilCheck rfl (fun h => by cases h) (fun h => by cases h) (fun h => by cases h) (fun _ _ _ h => by cases h)) ?_
  refine AW.take 9 (done' := #[false, true, true, true, true, true, false, true, true, true, false, false, false, false, false, false, false, false, false, false]) (.pointer (some ⟨ba0_w, 0, none⟩)) [0, 1] hns rfl rfl rfl (by kernel_rfl) (by kernel_rfl) rfl rfl rfl (by kernel_rfl) (fun _ _ => Yi.fieldAddr (j := 0) Try.underlying60 rfl Try.sizeOf58 rfl) ?_
  refine AW.take 10 (done' := #[false, true, true, true, true, true, false, true, true, true, true, false, false, false, false, false, false, false, false, false]) (.pointer (some ⟨ba0_w, 1, none⟩)) [0, 1] hns rfl rfl rfl (by kernel_rfl) (by kernel_rfl) rfl rfl rfl (by kernel_rfl) (fun _ _ => Yi.fieldAddr (j := 1) Try.underlying58 rfl Try.sizeOf3 rfl) ?_
  refine AW.take 11 (done' := #[false, true, true, true, true, true, false, true, true, true, true, true, false, false, false, false, false, false, false, false]) (.int .i64 a0_w_1) [0, 1] hns rfl rfl rfl (by kernel_rfl) (by kernel_rfl) rfl rfl rfl (by kernel_rfl) (fun _ _ => Yi.load1 (i := 0) _ rfl rfl Try.isAgg3 rfl) ?_
  refine AW.take 12 (done' := #[false, true, true, true, true, true, false, true, true, true, true, true, true, false, false, false, false, false, false, false]) (.pointer (some ⟨ba0_w, 0, none⟩)) [0, 1] hns rfl rfl rfl (by kernel_rfl) (by kernel_rfl) rfl rfl rfl (by kernel_rfl) (fun _ _ => Yi.pv _ rfl) ?_
  refine AW.take 13 (done' := #[false, true, true, true, true, true, false, true, true, true, true, true, true, true, false, false, false, false, false, false]) (.pointer (some ⟨ba0_w, 0, none⟩)) [0, 1] hns rfl rfl rfl (by kernel_rfl) (by kernel_rfl) rfl rfl rfl (by kernel_rfl) (fun _ _ => Yi.nilCheck rfl (fun h => by cases h) (fun h => by cases h) (fun h => by cases h) (fun _ _ _ h => by cases h)) ?_
  refine AW.take 14 (done' := #[false, true, true, true, true, true, false, true, true, true, true, true, true, true, true, false, false, false, false, false]) (.pointer (some ⟨ba0_w, 0, none⟩)) [0, 1] hns rfl rfl rfl (by kernel_rfl) (by kernel_rfl) rfl rfl rfl (by kernel_rfl) (fun _ _ => Yi.fieldAddr (j := 0) Try.underlying60 rfl Try.sizeOf58 rfl) ?_
  refine AW.take 15 (done' := #[false, true, true, true, true, true, false, true, true, true, true, true, true, true, true, true, false, false, false, false]) (.pointer (some ⟨ba0_w, 2, none⟩)) [0, 1] hns rfl rfl rfl (by kernel_rfl) (by kernel_rfl) rfl rfl rfl (by kernel_rfl) (fun _ _ => Yi.fieldAddr (j := 2) Try.underlying58 rfl Try.sizeOf3 rfl) ?_
  refine AW.take 16 (done' := #[false, true, true, true, true, true, false, true, true, true, true, true, true, true, true, true, true, false, false, false]) (.int .i64 a0_w_2) [0, 1] hns rfl rfl rfl (by kernel_rfl) (by kernel_rfl) rfl rfl rfl (by kernel_rfl) (fun _ _ => Yi.load1 (i := 0) _ rfl rfl Try.isAgg3 rfl) ?_
  have ht := hA28_01111101111111111000
  rw [hA28] at ht
  refine AW.to [0, 1] rfl rfl ?_ ht
  exact ⟨rfl, rfl, rfl, trivial⟩

end Go.Proofs.Ytpfnjmaadghhoaa
