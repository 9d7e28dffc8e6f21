import Derived.Test.YtpfnjmaadghhoaaN7
import Derived.Test.YtpfnjmaadghhoaaProg
set_option maxRecDepth 100000
set_option maxHeartbeats 1000000
namespace Go.Proofs.Ytpfnjmaadghhoaa
open Go Go.RowKit K

def ref04_Reader_Skip (_ : Nat) (a0_r_0 : (List Int)) (a0_r_1 : Int) (a0_r_2 : (List Int)) : Option (Unit) :=
  some ()

theorem c_ref04_Reader_Skip (K : Nat) (a0_r_0 : (List Int)) (a0_r_1 : Int) (a0_r_2 : (List Int)) (sa0_r_0 : Value) (sa0_r_2 : Value) (r : Unit) (w0 : World) (S : Own) (hM0 : Mem w0 S [ro sa0_r_0 1 a0_r_0.length (ec eb a0_r_0), ro sa0_r_2 1 a0_r_2.length (ec e1 a0_r_2)] w0) (hm : ref04_Reader_Skip K a0_r_0 a0_r_1 a0_r_2 = some r) : Calls Try.prog 25 #[.agg #[sa0_r_0, .int .i64 a0_r_1, sa0_r_2]] w0 fun e w' => ∃ _u : Unit, e = .returned (.tuple #[.agg #[sa0_r_0, .int .i64 a0_r_1, .slice none 0 0], .int .i64 (a0_r_2.length : Int)]) ∧ Mem w0 S [] w' := by
  unfold ref04_Reader_Skip at hm
  refine calls_CW (n := 12) w0 S [ro sa0_r_0 1 a0_r_0.length (ec eb a0_r_0), ro sa0_r_2 1 a0_r_2.length (ec e1 a0_r_2)] Try.func25 rfl rfl rfl hM0 ?_
  refine CW.seq ?_
  refine CW.region ?_
  refine RW.box (v := .agg #[sa0_r_0, .int .i64 a0_r_1, sa0_r_2]) rfl rfl rfl (fun b1 => ?_)
  refine RW.alloc (z := .agg #[.slice none 0 0, .int .i64 0, .slice none 0 0]) (#[.slice none 0 0, .int .i64 0, .slice none 0 0]) rfl rfl (fun _ => by kernel_rfl) rfl (fun b2 => ?_)
  refine RW.yi (.int .i64 0) rfl rfl (Yi.pv _ rfl) ?_
  refine RW.nil ?_
  refine EW.next ?_
  refine CW.seq ?_
  refine CW.held (m := 10) [.blk b1 50 (#[sa0_r_0, .int .i64 a0_r_1, sa0_r_2]), ro sa0_r_0 1 a0_r_0.length (ec eb a0_r_0), ro sa0_r_2 1 a0_r_2.length (ec e1 a0_r_2)] (by kernel_rfl) (by kernel_rfl) (by kernel_rfl) (fun A3 hA3 hns => ?_)
  have hA3_1111111111 : A3 0 #[true, true, true, true, true, true, true, true, true, true] [(2, .pointer (some ⟨b2, 0, none⟩)), (3, .int .i64 (a0_r_2.length : Int))] [.blk b2 50 (#[sa0_r_0, .int .i64 a0_r_1, .slice none 0 0]), .blk b1 50 (#[sa0_r_0, .int .i64 a0_r_1, sa0_r_2]), ro sa0_r_0 1 a0_r_0.length (ec eb a0_r_0), ro sa0_r_2 1 a0_r_2.length (ec e1 a0_r_2)] := by
    rw [hA3]
    refine AW.fin (by kernel_rfl) ?_
    refine EW.next ?_
    refine CW.ret ?_
    obtain rfl := Option.some.inj hm
    exact EW.done (rs := [.cell 2 50, .tmp 3]) rfl (.cellW (i := 0) (cs := #[sa0_r_0, .int .i64 a0_r_1, .slice none 0 0]) rfl rfl Try.isAgg50 Try.sizeOf50 (.tmp (t := 3) (v := .int .i64 (a0_r_2.length : Int)) rfl .nil)) (fun _ hM => ⟨(), rfl, (hM.pick [] rfl rfl)⟩)
  have hA3_1111111100 : A3 2 #[true, true, true, true, true, true, true, true, false, false] [(2, .pointer (some ⟨b2, 0, none⟩)), (3, .int .i64 0), (8, .agg #[sa0_r_0, .int .i64 a0_r_1, .slice none 0 0]), (11, .int .i64 (a0_r_2.length : Int))] [.blk b2 50 (#[.slice none 0 0, .int .i64 0, .slice none 0 0]), .blk b1 50 (#[sa0_r_0, .int .i64 a0_r_1, sa0_r_2]), ro sa0_r_0 1 a0_r_0.length (ec eb a0_r_0), ro sa0_r_2 1 a0_r_2.length (ec e1 a0_r_2)] := by
    rw [hA3]
    refine AW.step 8 [] (by kernel_rfl) ⟨⟨_, rfl, ?_⟩, trivial⟩
    · refine RW.conv1 (fun w hM => ones_cat (ps := [p1 (sa0_r_0), p1 (.int .i64 a0_r_1), p1 (.slice none 0 0)]) (ones_cons (fun _ => (rd_one ((rdF 2 rfl) w hM)).2) (ones_cons (fun _ => rfl) (ones_cons (fun _ => rfl) ones_nil)))) (fun hone => ?_)
      refine RW.storeQ (i := 0) (m := 3) (cs' := #[sa0_r_0, .int .i64 a0_r_1, .slice none 0 0]) rfl rfl rfl rfl Try.sizeOf50 rfl (Nat.le_of_ble_eq_true rfl) hone (fun c' hs hget => (cat_spl (A := []) (X := [p1 (.slice none 0 0), p1 (.int .i64 0), p1 (.slice none 0 0)]) (B := []) (Y := [p1 (sa0_r_0), p1 (.int .i64 a0_r_1), p1 (.slice none 0 0)]) rfl hs (by first | exact hget | (rw [cat_one]; exact hget)))) ?_
      refine RW.nil ?_
      refine AW.on (done' := #[true, true, true, true, true, true, true, true, true, false]) rfl [1, 2, 3] rfl rfl ?_
      refine AW.take 9 (done' := #[true, true, true, true, true, true, true, true, true, true]) (.int .i64 (a0_r_2.length : Int)) [1, 2, 3] hns rfl rfl rfl (by kernel_rfl) (by kernel_rfl) rfl rfl rfl (by kernel_rfl) (fun _ _ => Yi.pv _ rfl) ?_
      have ht := hA3_1111111111
      rw [hA3] at ht
      refine AW.to [0, 1, 2, 3] rfl rfl ?_ ht
      exact ⟨rfl, rfl, trivial⟩
  rw [hA3]
  refine AW.take 0 (done' := #[true, false, false, false, false, false, false, false, false, false]) (.pointer (some ⟨b1, 0, none⟩)) [1, 2, 3] hns rfl rfl rfl (by kernel_rfl) (by kernel_rfl) rfl rfl rfl (by kernel_rfl) (fun _ _ => Yi.fieldAddr (j := 0) Try.underlying50 rfl Try.sizeOf34 rfl) ?_
  refine AW.take 1 (done' := #[true, true, false, false, false, false, false, false, false, false]) (sa0_r_0) [1, 2, 3] hns rfl rfl rfl (by kernel_rfl) (by kernel_rfl) rfl rfl rfl (by kernel_rfl) (fun _ _ => Yi.load1 (i := 0) _ rfl rfl Try.isAgg34 rfl) ?_
  refine AW.take 2 (done' := #[true, true, true, false, false, false, false, false, false, false]) (.pointer (some ⟨b1, 1, none⟩)) [1, 2, 3] hns rfl rfl rfl (by kernel_rfl) (by kernel_rfl) rfl rfl rfl (by kernel_rfl) (fun _ _ => Yi.fieldAddr (j := 1) Try.underlying50 rfl Try.sizeOf3 rfl) ?_
  refine AW.take 3 (done' := #[true, true, true, true, false, false, false, false, false, false]) (.int .i64 a0_r_1) [1, 2, 3] hns rfl rfl rfl (by kernel_rfl) (by kernel_rfl) rfl rfl rfl (by kernel_rfl) (fun _ _ => Yi.load1 (i := 0) _ rfl rfl Try.isAgg3 rfl) ?_
  refine AW.take 4 (done' := #[true, true, true, true, true, false, false, false, false, false]) (.agg #[sa0_r_0, .int .i64 a0_r_1, .slice none 0 0]) [1, 2, 3] hns rfl rfl rfl (by kernel_rfl) (by kernel_rfl) rfl rfl rfl (by kernel_rfl) (fun _ _ => Yi.buildM (vs := [sa0_r_0, .int .i64 a0_r_1, .slice none 0 0]) _ rfl rfl (fun w hM => by have e0 := rd_slice ((rdF 1 rfl) w hM); revert e0; generalize sa0_r_0 = x0; rintro ⟨_, _, _, rfl⟩; show _ = _; kernel_rfl)) ?_
  refine AW.take 5 (done' := #[true, true, true, true, true, true, false, false, false, false]) (.pointer (some ⟨b1, 2, none⟩)) [1, 2, 3] hns rfl rfl rfl (by kernel_rfl) (by kernel_rfl) rfl rfl rfl (by kernel_rfl) (fun _ _ => Yi.fieldAddr (j := 2) Try.underlying50 rfl Try.sizeOf26 rfl) ?_
  refine AW.take 6 (done' := #[true, true, true, true, true, true, true, false, false, false]) (sa0_r_2) [1, 2, 3] hns rfl rfl rfl (by kernel_rfl) (by kernel_rfl) rfl rfl rfl (by kernel_rfl) (fun _ _ => Yi.load1 (i := 0) _ rfl rfl Try.isAgg26 rfl) ?_
  refine AW.take 7 (done' := #[true, true, true, true, true, true, true, true, false, false]) (.int .i64 (a0_r_2.length : Int)) [1, 2, 3] hns rfl rfl rfl (by kernel_rfl) (by kernel_rfl) rfl rfl rfl (by kernel_rfl) (fun _ _ => Yi.lenS (cs := ec e1 a0_r_2) (m := a0_r_2.length) Try.underlying26 rfl (rdF 2 rfl)) ?_
  have ht := hA3_1111111100
  rw [hA3] at ht
  refine AW.to [0, 1, 2, 3] rfl rfl ?_ ht
  exact ⟨rfl, rfl, rfl, rfl, trivial⟩

end Go.Proofs.Ytpfnjmaadghhoaa
