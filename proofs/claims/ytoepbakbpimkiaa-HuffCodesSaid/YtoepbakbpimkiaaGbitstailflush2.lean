import Derived.Test.YtoepbakbpimkiaaN8
import Derived.Test.YtoepbakbpimkiaaProg
set_option maxRecDepth 100000
set_option maxHeartbeats 1000000
namespace Go.Proofs.Ytoepbakbpimkiaa
open Go Go.RowKit K

def bits_tail_flush_2_j1 (_ : Nat) (v9 : (List Int)) : Option ((List Int)) :=
  some v9

def bits_tail_flush_2 (K : Nat) (a0_t_0 : (List Int)) (a0_t_1 : Int) (a0_t_2 : Int) : Option ((List Int)) :=
  (if a0_t_0.length + ([(IntKind.u8.wrap (a0_t_1))] : List Int).length ≤ 140737488355328 then (if a0_t_1 = 255 then (if (a0_t_0 ++ ([(IntKind.u8.wrap (a0_t_1))] : List Int)).length + ([0] : List Int).length ≤ 140737488355328 then bits_tail_flush_2_j1 K ((a0_t_0 ++ ([(IntKind.u8.wrap (a0_t_1))] : List Int)) ++ ([0] : List Int)) else none) else bits_tail_flush_2_j1 K (a0_t_0 ++ ([(IntKind.u8.wrap (a0_t_1))] : List Int))) else none)

theorem c_bits_tail_flush_2 (K : Nat) (a0_t_0 : (List Int)) (a0_t_1 : Int) (a0_t_2 : Int) (ba0_t : Nat) (sa0_t_0 : Value) (r : (List Int)) (w0 : World) (S : Own) (hM0 : Mem w0 S [.blk ba0_t 79 (#[sa0_t_0, .int .i64 a0_t_1, .int .i64 a0_t_2]), .row sa0_t_0 5 1 a0_t_0.length (ec eb a0_t_0)] w0) (hm : bits_tail_flush_2 K a0_t_0 a0_t_1 a0_t_2 = some r) : Calls Try.prog 34 #[.pointer (some ⟨ba0_t, 0, none⟩)] w0 fun e w' => ∃ u : Value, e = .returned (.tuple #[]) ∧ Mem w0 S [.blk ba0_t 79 (#[u, .int .i64 0, .int .i64 0]), .row u 5 1 r.length (ec eb r)] w' := by
  unfold bits_tail_flush_2 at hm
  refine calls_CW (n := 36) w0 S [.blk ba0_t 79 (#[sa0_t_0, .int .i64 a0_t_1, .int .i64 a0_t_2]), .row sa0_t_0 5 1 a0_t_0.length (ec eb a0_t_0)] Try.func34 rfl rfl rfl hM0 ?_
  refine CW.seq ?_
  obtain ⟨g3, hm⟩ := of_guard hm
  refine CW.held (m := 15) [] (by kernel_rfl) (by kernel_rfl) (by kernel_rfl) (fun A16 hA16 hns => ?_)
  have hA16_111111111111111 : ∀ (s4 : Value) (s6 : Value), A16 0 #[true, true, true, true, true, true, true, true, true, true, true, true, true, true, true] [(0, .pointer (some ⟨ba0_t, 0, none⟩))] [.row s4 5 1 ([(IntKind.u8.wrap (a0_t_1))] : List Int).length (ec eb ([(IntKind.u8.wrap (a0_t_1))] : List Int)), .blk ba0_t 79 (#[s6, .int .i64 a0_t_1, .int .i64 a0_t_2]), .row s6 5 1 (a0_t_0 ++ ([(IntKind.u8.wrap (a0_t_1))] : List Int)).length (ec eb (a0_t_0 ++ ([(IntKind.u8.wrap (a0_t_1))] : List Int)))] := by
    intro s4 s6
    rw [hA16]
    refine AW.fin (by kernel_rfl) ?_
    refine EW.next ?_
    refine CW.join (fun a w => ∃ (v9 : (List Int)) (s10 : Value), St 36 [(0, .pointer (some ⟨ba0_t, 0, none⟩))] a ∧ Mem w0 S [.blk ba0_t 79 (#[s10, .int .i64 a0_t_1, .int .i64 a0_t_2]), .row s10 5 1 v9.length (ec eb v9)] w ∧ bits_tail_flush_2_j1 K v9 = some r) ?_ ?_
    · refine CW.seq ?_
      refine CW.region ?_
      refine RW.yi (.pointer (some ⟨ba0_t, 0, none⟩)) rfl rfl (Yi.pv _ rfl) ?_
      refine RW.yi (.pointer (some ⟨ba0_t, 0, none⟩)) rfl rfl (Yi.nilCheck rfl (fun h => by cases h) (fun h => by cases h) (fun h => by cases h) (fun _ _ _ h => by cases h)) ?_
      refine RW.yi (.pointer (some ⟨ba0_t, 1, none⟩)) rfl rfl (Yi.fieldAddr (j := 1) Try.underlying79 rfl Try.sizeOf3 rfl) ?_
      refine RW.yi (.int .i64 a0_t_1) rfl rfl (Yi.load1 (i := 1) _ rfl rfl Try.isAgg3 rfl) ?_
      refine RW.yi (.bool (decide (a0_t_1 = 255))) rfl rfl (Yi.pv _ rfl) ?_
      refine RW.nil ?_
      refine EW.next ?_
      refine CW.fork 20 (a0_t_1 = 255) rfl (fun h11 => ?_) (fun h11 => ?_)
      · replace hm := (if_pos h11).symm.trans hm
        refine CW.cond_true rfl ?_
        refine CW.region ?_
        refine RW.yi (.pointer (some ⟨ba0_t, 0, none⟩)) rfl rfl (Yi.pv _ rfl) ?_
        refine RW.yi (.pointer (some ⟨ba0_t, 0, none⟩)) rfl rfl (Yi.pv _ rfl) ?_
        refine RW.yi (.pointer (some ⟨ba0_t, 0, none⟩)) rfl rfl (Yi.nilCheck rfl (fun h => by cases h) (fun h => by cases h) (fun h => by cases h) (fun _ _ _ h => by cases h)) ?_
        refine RW.yi (.pointer (some ⟨ba0_t, 0, none⟩)) rfl rfl (Yi.fieldAddr (j := 0) Try.underlying79 rfl Try.sizeOf44 rfl) ?_
        refine RW.yi (s6) rfl rfl (Yi.load1 (i := 1) _ rfl rfl Try.isAgg44 rfl) ?_
        refine RW.buildS (e := 5) (sz := 1) (vs := [.int .u8 0]) ((ec eb ([0] : List Int)).toArray) rfl rfl rfl rfl rfl (by decide) (fun _ => by kernel_rfl) (fun s12 => ?_)
        obtain ⟨g14, hm⟩ := of_guard hm
        refine RW.app (i := 3) (e := 5) (sz := 1) (by_ := 1) (z := .int .u8 0) (m := (a0_t_0 ++ ([(IntKind.u8.wrap (a0_t_1))] : List Int)).length) (mx := ([0] : List Int).length) (m' := ((a0_t_0 ++ ([(IntKind.u8.wrap (a0_t_1))] : List Int)) ++ ([0] : List Int)).length) (cs := ec eb (a0_t_0 ++ ([(IntKind.u8.wrap (a0_t_1))] : List Int))) (news := ec eb ([0] : List Int)) (cs' := ec eb ((a0_t_0 ++ ([(IntKind.u8.wrap (a0_t_1))] : List Int)) ++ ([0] : List Int))) rfl rfl Try.underlying44 (by kernel_rfl) rfl (by decide) (by decide) rfl rfl rfl (rdW 0 rfl) (ec_one eb_is _) (by omega) (ec_append _ _ _) (by simp only [List.length_append]) (fun s15 => ?_)
        refine RW.yi (.pointer (some ⟨ba0_t, 0, none⟩)) rfl rfl (Yi.nilCheck rfl (fun h => by cases h) (fun h => by cases h) (fun h => by cases h) (fun _ _ _ h => by cases h)) ?_
        refine RW.yi (.pointer (some ⟨ba0_t, 0, none⟩)) rfl rfl (Yi.fieldAddr (j := 0) Try.underlying79 rfl Try.sizeOf44 rfl) ?_
        refine RW.storeS (sz := 1) (m := ((a0_t_0 ++ ([(IntKind.u8.wrap (a0_t_1))] : List Int)) ++ ([0] : List Int)).length) (vs := ec eb ((a0_t_0 ++ ([(IntKind.u8.wrap (a0_t_1))] : List Int)) ++ ([0] : List Int))) (i := 2) (cs' := #[s15, .int .i64 a0_t_1, .int .i64 a0_t_2]) (rdW 3 rfl) rfl rfl rfl rfl Try.sizeOf44 (Nat.le_of_ble_eq_true rfl) rfl ?_
        refine RW.nil ?_
        refine EW.thn ?_
        exact fun a w hs hM => ⟨((a0_t_0 ++ ([(IntKind.u8.wrap (a0_t_1))] : List Int)) ++ ([0] : List Int)), s15, hs.sub ⟨rfl, trivial⟩, (hM.pick [2, 3] rfl rfl), hm⟩
      · replace hm := (if_neg h11).symm.trans hm
        refine CW.cond_false rfl ?_
        refine CW.skip ?_
        refine EW.thn ?_
        exact fun a w hs hM => ⟨(a0_t_0 ++ ([(IntKind.u8.wrap (a0_t_1))] : List Int)), s6, hs.sub ⟨rfl, trivial⟩, (hM.pick [1, 2] rfl rfl), hm⟩
    · rintro a w ⟨v9, s10, hs, hM, hm⟩
      unfold bits_tail_flush_2_j1 at hm
      refine CW.enter hs hM ?_
      refine CW.region ?_
      refine RW.yi (.pointer (some ⟨ba0_t, 0, none⟩)) rfl rfl (Yi.pv _ rfl) ?_
      refine RW.yi (.pointer (some ⟨ba0_t, 0, none⟩)) rfl rfl (Yi.pv _ rfl) ?_
      refine RW.yi (.pointer (some ⟨ba0_t, 0, none⟩)) rfl rfl (Yi.nilCheck rfl (fun h => by cases h) (fun h => by cases h) (fun h => by cases h) (fun _ _ _ h => by cases h)) ?_
      refine RW.yi (.pointer (some ⟨ba0_t, 1, none⟩)) rfl rfl (Yi.fieldAddr (j := 1) Try.underlying79 rfl Try.sizeOf3 rfl) ?_
      refine RW.store1 (i := 0) (cs' := #[s10, .int .i64 0, .int .i64 a0_t_2]) rfl rfl rfl rfl Try.sizeOf3 rfl rfl (Nat.le_of_ble_eq_true rfl) rfl ?_
      refine RW.yi (.pointer (some ⟨ba0_t, 0, none⟩)) rfl rfl (Yi.nilCheck rfl (fun h => by cases h) (fun h => by cases h) (fun h => by cases h) (fun _ _ _ h => by cases h)) ?_
      refine RW.yi (.pointer (some ⟨ba0_t, 2, none⟩)) rfl rfl (Yi.fieldAddr (j := 2) Try.underlying79 rfl Try.sizeOf3 rfl) ?_
      refine RW.store1 (i := 0) (cs' := #[s10, .int .i64 0, .int .i64 0]) rfl rfl rfl rfl Try.sizeOf3 rfl rfl (Nat.le_of_ble_eq_true rfl) rfl ?_
      refine RW.nil ?_
      obtain rfl := Option.some.inj hm
      exact EW.done' (rs := []) rfl .nil (fun _ hM => ⟨(s10), rfl, (hM.pick [0, 1] rfl rfl)⟩)
  have hA16_111111111111110 : ∀ (s17 : Value) (s19 : Value), A16 1 #[true, true, true, true, true, true, true, true, true, true, true, true, true, true, false] [(0, .pointer (some ⟨ba0_t, 0, none⟩)), (13, s19), (15, .pointer (some ⟨ba0_t, 0, none⟩))] [.row s17 5 1 ([(IntKind.u8.wrap (a0_t_1))] : List Int).length (ec eb ([(IntKind.u8.wrap (a0_t_1))] : List Int)), .blk ba0_t 79 (#[sa0_t_0, .int .i64 a0_t_1, .int .i64 a0_t_2]), .row s19 5 1 (a0_t_0 ++ ([(IntKind.u8.wrap (a0_t_1))] : List Int)).length (ec eb (a0_t_0 ++ ([(IntKind.u8.wrap (a0_t_1))] : List Int)))] := by
    intro s17 s19
    rw [hA16]
    refine AW.step 14 [] (by kernel_rfl) ⟨⟨_, rfl, ?_⟩, trivial⟩
    · refine RW.storeS (sz := 1) (m := (a0_t_0 ++ ([(IntKind.u8.wrap (a0_t_1))] : List Int)).length) (vs := ec eb (a0_t_0 ++ ([(IntKind.u8.wrap (a0_t_1))] : List Int))) (i := 1) (cs' := #[s19, .int .i64 a0_t_1, .int .i64 a0_t_2]) (rdW 2 rfl) rfl rfl rfl rfl Try.sizeOf44 (Nat.le_of_ble_eq_true rfl) rfl ?_
      refine RW.nil ?_
      refine AW.on (done' := #[true, true, true, true, true, true, true, true, true, true, true, true, true, true, true]) rfl [] rfl rfl ?_
      have ht := hA16_111111111111111 s17 s19
      rw [hA16] at ht
      refine AW.to [0, 1, 2] rfl rfl ?_ ht
      exact ⟨rfl, trivial⟩
  have hA16_111111111110000 : ∀ (s17 : Value), A16 4 #[true, true, true, true, true, true, true, true, true, true, true, false, false, false, false] [(0, .pointer (some ⟨ba0_t, 0, none⟩)), (2, .pointer (some ⟨ba0_t, 0, none⟩)), (6, sa0_t_0), (12, s17)] [.row s17 5 1 ([(IntKind.u8.wrap (a0_t_1))] : List Int).length (ec eb ([(IntKind.u8.wrap (a0_t_1))] : List Int)), .blk ba0_t 79 (#[sa0_t_0, .int .i64 a0_t_1, .int .i64 a0_t_2]), .row sa0_t_0 5 1 a0_t_0.length (ec eb a0_t_0)] := by
    intro s17
    rw [hA16]
    refine AW.step 11 [] (by kernel_rfl) ⟨⟨_, rfl, ?_⟩, trivial⟩
    · refine RW.app (i := 2) (e := 5) (sz := 1) (by_ := 1) (z := .int .u8 0) (m := a0_t_0.length) (mx := ([(IntKind.u8.wrap (a0_t_1))] : List Int).length) (m' := (a0_t_0 ++ ([(IntKind.u8.wrap (a0_t_1))] : List Int)).length) (cs := ec eb a0_t_0) (news := ec eb ([(IntKind.u8.wrap (a0_t_1))] : List Int)) (cs' := ec eb (a0_t_0 ++ ([(IntKind.u8.wrap (a0_t_1))] : List Int))) rfl rfl Try.underlying44 (by kernel_rfl) rfl (by decide) (by decide) rfl rfl rfl (rdW 0 rfl) (ec_one eb_is _) (by omega) (ec_append _ _ _) (by simp only [List.length_append]) (fun s19 => ?_)
      refine RW.nil ?_
      refine AW.on (done' := #[true, true, true, true, true, true, true, true, true, true, true, true, false, false, false]) rfl [] rfl rfl ?_
      refine AW.take 12 (done' := #[true, true, true, true, true, true, true, true, true, true, true, true, true, false, false]) (.pointer (some ⟨ba0_t, 0, none⟩)) [] hns rfl rfl rfl (by kernel_rfl) (by kernel_rfl) rfl rfl rfl (by kernel_rfl) (fun _ _ => Yi.nilCheck rfl (fun h => by cases h) (fun h => by cases h) (fun h => by cases h) (fun _ _ _ h => by cases h)) ?_
      refine AW.take 13 (done' := #[true, true, true, true, true, true, true, true, true, true, true, true, true, true, false]) (.pointer (some ⟨ba0_t, 0, none⟩)) [] hns rfl rfl rfl (by kernel_rfl) (by kernel_rfl) rfl rfl rfl (by kernel_rfl) (fun _ _ => Yi.fieldAddr (j := 0) Try.underlying79 rfl Try.sizeOf44 rfl) ?_
      have ht := hA16_111111111111110 s17 s19
      rw [hA16] at ht
      refine AW.to [0, 1, 2] rfl rfl ?_ ht
      exact ⟨rfl, rfl, rfl, trivial⟩
  have hA16_111111111100000 : A16 5 #[true, true, true, true, true, true, true, true, true, true, false, false, false, false, false] [(0, .pointer (some ⟨ba0_t, 0, none⟩)), (2, .pointer (some ⟨ba0_t, 0, none⟩)), (6, sa0_t_0), (11, .int .u8 (IntKind.u8.wrap (a0_t_1)))] [.blk ba0_t 79 (#[sa0_t_0, .int .i64 a0_t_1, .int .i64 a0_t_2]), .row sa0_t_0 5 1 a0_t_0.length (ec eb a0_t_0)] := by
    rw [hA16]
    refine AW.step 10 [] (by kernel_rfl) ⟨⟨_, rfl, ?_⟩, trivial⟩
    · refine RW.buildS (e := 5) (sz := 1) (vs := [.int .u8 (IntKind.u8.wrap (a0_t_1))]) ((ec eb ([(IntKind.u8.wrap (a0_t_1))] : List Int)).toArray) rfl rfl rfl rfl rfl (by decide) (fun _ => by kernel_rfl) (fun s17 => ?_)
      refine RW.nil ?_
      refine AW.on (done' := #[true, true, true, true, true, true, true, true, true, true, true, false, false, false, false]) rfl [] rfl rfl ?_
      have ht := hA16_111111111110000 s17
      rw [hA16] at ht
      refine AW.to [0, 1, 2] rfl rfl ?_ ht
      exact ⟨rfl, rfl, rfl, rfl, trivial⟩
  have hA16_111111110000000 : A16 7 #[true, true, true, true, true, true, true, true, false, false, false, false, false, false, false] [(0, .pointer (some ⟨ba0_t, 0, none⟩)), (2, .pointer (some ⟨ba0_t, 0, none⟩)), (6, sa0_t_0), (9, .pointer (some ⟨ba0_t, 1, none⟩))] [.blk ba0_t 79 (#[sa0_t_0, .int .i64 a0_t_1, .int .i64 a0_t_2]), .row sa0_t_0 5 1 a0_t_0.length (ec eb a0_t_0)] := by
    rw [hA16]
    refine AW.step 8 [] (by kernel_rfl) ⟨⟨_, rfl, ?_⟩, trivial⟩
    · refine RW.yi (.int .i64 a0_t_1) rfl rfl (Yi.load1 (i := 0) _ rfl rfl Try.isAgg3 rfl) ?_
      refine RW.nil ?_
      refine AW.on (done' := #[true, true, true, true, true, true, true, true, true, false, false, false, false, false, false]) rfl [] rfl rfl ?_
      refine AW.take 9 (done' := #[true, true, true, true, true, true, true, true, true, true, false, false, false, false, false]) (.int .u8 (IntKind.u8.wrap (a0_t_1))) [] hns rfl rfl rfl (by kernel_rfl) (by kernel_rfl) rfl rfl rfl (by kernel_rfl) (fun _ _ => Yi.conv ⟨_, Try.underlying3⟩ Try.underlying5 rfl) ?_
      have ht := hA16_111111111100000
      rw [hA16] at ht
      refine AW.to [0, 1] rfl rfl ?_ ht
      exact ⟨rfl, rfl, rfl, rfl, trivial⟩
  have hA16_111101111110000 : ∀ (s20 : Value), A16 5 #[true, true, true, true, false, true, true, true, true, true, true, false, false, false, false] [(0, .pointer (some ⟨ba0_t, 0, none⟩)), (2, .pointer (some ⟨ba0_t, 0, none⟩)), (5, .pointer (some ⟨ba0_t, 0, none⟩)), (12, s20)] [.row s20 5 1 ([(IntKind.u8.wrap (a0_t_1))] : List Int).length (ec eb ([(IntKind.u8.wrap (a0_t_1))] : List Int)), .blk ba0_t 79 (#[sa0_t_0, .int .i64 a0_t_1, .int .i64 a0_t_2]), .row sa0_t_0 5 1 a0_t_0.length (ec eb a0_t_0)] := by
    intro s20
    rw [hA16]
    refine AW.step 4 [] (by kernel_rfl) ⟨⟨_, rfl, ?_⟩, trivial⟩
    · refine RW.yi (sa0_t_0) rfl rfl (Yi.load1 (i := 1) _ rfl rfl Try.isAgg44 rfl) ?_
      refine RW.nil ?_
      refine AW.on (done' := #[true, true, true, true, true, true, true, true, true, true, true, false, false, false, false]) rfl [] rfl rfl ?_
      have ht := hA16_111111111110000 s20
      rw [hA16] at ht
      refine AW.to [0, 1, 2] rfl rfl ?_ ht
      exact ⟨rfl, rfl, rfl, rfl, trivial⟩
  have hA16_111101111100000 : A16 6 #[true, true, true, true, false, true, true, true, true, true, false, false, false, false, false] [(0, .pointer (some ⟨ba0_t, 0, none⟩)), (2, .pointer (some ⟨ba0_t, 0, none⟩)), (5, .pointer (some ⟨ba0_t, 0, none⟩)), (11, .int .u8 (IntKind.u8.wrap (a0_t_1)))] [.blk ba0_t 79 (#[sa0_t_0, .int .i64 a0_t_1, .int .i64 a0_t_2]), .row sa0_t_0 5 1 a0_t_0.length (ec eb a0_t_0)] := by
    rw [hA16]
    refine AW.step 4 [10] (by kernel_rfl) ⟨⟨_, rfl, ?_⟩, ⟨_, rfl, ?_⟩, trivial⟩
    · refine RW.yi (sa0_t_0) rfl rfl (Yi.load1 (i := 0) _ rfl rfl Try.isAgg44 rfl) ?_
      refine RW.nil ?_
      refine AW.on (done' := #[true, true, true, true, true, true, true, true, true, true, false, false, false, false, false]) rfl [] rfl rfl ?_
      have ht := hA16_111111111100000
      rw [hA16] at ht
      refine AW.to [0, 1] rfl rfl ?_ ht
      exact ⟨rfl, rfl, rfl, rfl, trivial⟩
    · refine RW.buildS (e := 5) (sz := 1) (vs := [.int .u8 (IntKind.u8.wrap (a0_t_1))]) ((ec eb ([(IntKind.u8.wrap (a0_t_1))] : List Int)).toArray) rfl rfl rfl rfl rfl (by decide) (fun _ => by kernel_rfl) (fun s20 => ?_)
      refine RW.nil ?_
      refine AW.on (done' := #[true, true, true, true, false, true, true, true, true, true, true, false, false, false, false]) rfl [] rfl rfl ?_
      have ht := hA16_111101111110000 s20
      rw [hA16] at ht
      refine AW.to [0, 1, 2] rfl rfl ?_ ht
      exact ⟨rfl, rfl, rfl, rfl, trivial⟩
  have hA16_111101110000000 : A16 8 #[true, true, true, true, false, true, true, true, false, false, false, false, false, false, false] [(0, .pointer (some ⟨ba0_t, 0, none⟩)), (2, .pointer (some ⟨ba0_t, 0, none⟩)), (5, .pointer (some ⟨ba0_t, 0, none⟩)), (9, .pointer (some ⟨ba0_t, 1, none⟩))] [.blk ba0_t 79 (#[sa0_t_0, .int .i64 a0_t_1, .int .i64 a0_t_2]), .row sa0_t_0 5 1 a0_t_0.length (ec eb a0_t_0)] := by
    rw [hA16]
    refine AW.step 4 [8] (by kernel_rfl) ⟨⟨_, rfl, ?_⟩, ⟨_, rfl, ?_⟩, trivial⟩
    · refine RW.yi (sa0_t_0) rfl rfl (Yi.load1 (i := 0) _ rfl rfl Try.isAgg44 rfl) ?_
      refine RW.nil ?_
      refine AW.on (done' := #[true, true, true, true, true, true, true, true, false, false, false, false, false, false, false]) rfl [] rfl rfl ?_
      have ht := hA16_111111110000000
      rw [hA16] at ht
      refine AW.to [0, 1] rfl rfl ?_ ht
      exact ⟨rfl, rfl, rfl, rfl, trivial⟩
    · refine RW.yi (.int .i64 a0_t_1) rfl rfl (Yi.load1 (i := 0) _ rfl rfl Try.isAgg3 rfl) ?_
      refine RW.nil ?_
      refine AW.on (done' := #[true, true, true, true, false, true, true, true, true, false, false, false, false, false, false]) rfl [] rfl rfl ?_
      refine AW.take 9 (done' := #[true, true, true, true, false, true, true, true, true, true, false, false, false, false, false]) (.int .u8 (IntKind.u8.wrap (a0_t_1))) [] hns rfl rfl rfl (by kernel_rfl) (by kernel_rfl) rfl rfl rfl (by kernel_rfl) (fun _ _ => Yi.conv ⟨_, Try.underlying3⟩ Try.underlying5 rfl) ?_
      have ht := hA16_111101111100000
      rw [hA16] at ht
      refine AW.to [0, 1] rfl rfl ?_ ht
      exact ⟨rfl, rfl, rfl, rfl, trivial⟩
  rw [hA16]
  refine AW.take 0 (done' := #[true, false, false, false, false, false, false, false, false, false, false, false, false, false, false]) (.pointer (some ⟨ba0_t, 0, none⟩)) [] hns rfl rfl rfl (by kernel_rfl) (by kernel_rfl) rfl rfl rfl (by kernel_rfl) (fun _ _ => Yi.pv _ rfl) ?_
  refine AW.take 1 (done' := #[true, true, false, false, false, false, false, false, false, false, false, false, false, false, false]) (.pointer (some ⟨ba0_t, 0, none⟩)) [] hns rfl rfl rfl (by kernel_rfl) (by kernel_rfl) rfl rfl rfl (by kernel_rfl) (fun _ _ => Yi.pv _ rfl) ?_
  refine AW.take 2 (done' := #[true, true, true, false, false, false, false, false, false, false, false, false, false, false, false]) (.pointer (some ⟨ba0_t, 0, none⟩)) [] hns rfl rfl rfl (by kernel_rfl) (by kernel_rfl) rfl rfl rfl (by kernel_rfl) (fun _ _ => Yi.nilCheck rfl (fun h => by cases h) (fun h => by cases h) (fun h => by cases h) (fun _ _ _ h => by cases h)) ?_
  refine AW.take 3 (done' := #[true, true, true, true, false, false, false, false, false, false, false, false, false, false, false]) (.pointer (some ⟨ba0_t, 0, none⟩)) [] hns rfl rfl rfl (by kernel_rfl) (by kernel_rfl) rfl rfl rfl (by kernel_rfl) (fun _ _ => Yi.fieldAddr (j := 0) Try.underlying79 rfl Try.sizeOf44 rfl) ?_
  refine AW.take 5 (done' := #[true, true, true, true, false, true, false, false, false, false, false, false, false, false, false]) (.pointer (some ⟨ba0_t, 0, none⟩)) [] hns rfl rfl rfl (by kernel_rfl) (by kernel_rfl) rfl rfl rfl (by kernel_rfl) (fun _ _ => Yi.pv _ rfl) ?_
  refine AW.take 6 (done' := #[true, true, true, true, false, true, true, false, false, false, false, false, false, false, false]) (.pointer (some ⟨ba0_t, 0, none⟩)) [] hns rfl rfl rfl (by kernel_rfl) (by kernel_rfl) rfl rfl rfl (by kernel_rfl) (fun _ _ => Yi.nilCheck rfl (fun h => by cases h) (fun h => by cases h) (fun h => by cases h) (fun _ _ _ h => by cases h)) ?_
  refine AW.take 7 (done' := #[true, true, true, true, false, true, true, true, false, false, false, false, false, false, false]) (.pointer (some ⟨ba0_t, 1, none⟩)) [] hns rfl rfl rfl (by kernel_rfl) (by kernel_rfl) rfl rfl rfl (by kernel_rfl) (fun _ _ => Yi.fieldAddr (j := 1) Try.underlying79 rfl Try.sizeOf3 rfl) ?_
  have ht := hA16_111101110000000
  rw [hA16] at ht
  refine AW.to [0, 1] rfl rfl ?_ ht
  exact ⟨rfl, rfl, rfl, rfl, trivial⟩

end Go.Proofs.Ytoepbakbpimkiaa
