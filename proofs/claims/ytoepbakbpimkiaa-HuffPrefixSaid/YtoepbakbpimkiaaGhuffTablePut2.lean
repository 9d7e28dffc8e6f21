import Derived.Test.YtoepbakbpimkiaaN8
import Derived.Test.YtoepbakbpimkiaaProg
import Derived.Test.YtoepbakbpimkiaaGbitsWriterPut
import Derived.Test.YtoepbakbpimkiaaGhuffTableCode
set_option maxRecDepth 100000
set_option maxHeartbeats 1000000
namespace Go.Proofs.Ytoepbakbpimkiaa
open Go Go.RowKit K

def huff_Table_Put_2 (K : Nat) (a0_t_0 : (Nat → Int)) (a0_t_1 : (List Int)) (a0_t_2 : (Nat → Int)) (a0_t_3 : (List MEnt)) (a1_w_0 : (List Int)) (a1_w_1 : Int) (a1_w_2 : Int) (a1_w_3 : Int) (a2_value : Int) : Option (Int × Int × Int × Int × (List Int)) :=
  ((huff_Table_Code K a0_t_0 a0_t_1 a0_t_2 a0_t_3 a2_value).bind fun r17 => (if r17.2.2 = true then ((bits_Writer_Put K a1_w_0 a1_w_1 a1_w_2 a1_w_3 r17.1 r17.2.1).bind fun r21 => some (r21.1, r21.2.1, r21.2.2.1, r21.2.2.2.1, r21.2.2.2.2)) else some (6, a1_w_1, a1_w_2, a1_w_3, a1_w_0)))

theorem c_huff_Table_Put_2 (K : Nat) (a0_t_0 : (Nat → Int)) (a0_t_1 : (List Int)) (a0_t_2 : (Nat → Int)) (a0_t_3 : (List MEnt)) (a1_w_0 : (List Int)) (a1_w_1 : Int) (a1_w_2 : Int) (a1_w_3 : Int) (a2_value : Int) (ba0_t : Nat) (sa0_t_1 : Value) (ba0_t_3 : Nat) (ba1_w : Nat) (sa1_w_0 : Value) (r : Int × Int × Int × Int × (List Int)) (w0 : World) (S : Own) (hM0 : Mem w0 S [.blk ba0_t 67 (cat [(16, (iv a0_t_0)), p1 (sa0_t_1), (512, (iv a0_t_2)), p1 (.map (some ba0_t_3))]), .row sa0_t_1 3 1 a0_t_1.length (ec e1 a0_t_1), mpE ba0_t_3 a0_t_3, .blk ba1_w 81 (#[sa1_w_0, .int .i64 a1_w_1, .int .i64 a1_w_2, .int .i64 a1_w_3]), .row sa1_w_0 5 1 a1_w_0.length (ec eb a1_w_0)] w0) (hm : huff_Table_Put_2 K a0_t_0 a0_t_1 a0_t_2 a0_t_3 a1_w_0 a1_w_1 a1_w_2 a1_w_3 a2_value = some r) : Calls Try.prog 23 #[.pointer (some ⟨ba0_t, 0, none⟩), .pointer (some ⟨ba1_w, 0, none⟩), .int .i64 a2_value] w0 fun e w' => ∃ u : Value, e = .returned (.int .i64 r.1) ∧ Mem w0 S [.blk ba0_t 67 (cat [(16, (iv a0_t_0)), p1 (sa0_t_1), (512, (iv a0_t_2)), p1 (.map (some ba0_t_3))]), .row sa0_t_1 3 1 a0_t_1.length (ec e1 a0_t_1), mpE ba0_t_3 a0_t_3, .blk ba1_w 81 (#[u, .int .i64 r.2.1, .int .i64 r.2.2.1, .int .i64 r.2.2.2.1]), .row u 5 1 r.2.2.2.2.length (ec eb r.2.2.2.2)] w' := by
  unfold huff_Table_Put_2 at hm
  refine calls_CW (n := 23) w0 S [.blk ba0_t 67 (cat [(16, (iv a0_t_0)), p1 (sa0_t_1), (512, (iv a0_t_2)), p1 (.map (some ba0_t_3))]), .row sa0_t_1 3 1 a0_t_1.length (ec e1 a0_t_1), mpE ba0_t_3 a0_t_3, .blk ba1_w 81 (#[sa1_w_0, .int .i64 a1_w_1, .int .i64 a1_w_2, .int .i64 a1_w_3]), .row sa1_w_0 5 1 a1_w_0.length (ec eb a1_w_0)] Try.func23 rfl rfl rfl hM0 ?_
  refine CW.seq ?_
  refine CW.region ?_
  refine RW.yi (.int .i64 0) rfl rfl (Yi.pv _ rfl) ?_
  refine RW.nil ?_
  refine EW.next ?_
  refine CW.seq ?_
  refine CW.region ?_
  refine RW.yi (.pointer (some ⟨ba0_t, 0, none⟩)) rfl rfl (Yi.pv _ rfl) ?_
  refine RW.yi (.int .i64 a2_value) rfl rfl (Yi.pv _ rfl) ?_
  obtain ⟨r17, hr17, hm⟩ := of_bind hm
  refine RW.callM (cs := []) [.blk ba0_t 67 (cat [(16, (iv a0_t_0)), p1 (sa0_t_1), (512, (iv a0_t_2)), p1 (.map (some ba0_t_3))]), .row sa0_t_1 3 1 a0_t_1.length (ec e1 a0_t_1), mpE ba0_t_3 a0_t_3] [.blk ba1_w 81 (#[sa1_w_0, .int .i64 a1_w_1, .int .i64 a1_w_2, .int .i64 a1_w_3]), .row sa1_w_0 5 1 a1_w_0.length (ec eb a1_w_0)] [] [0, 1, 2, 3, 4] (fun (_ : Unit) => [.blk ba0_t 67 (cat [(16, (iv a0_t_0)), p1 (sa0_t_1), (512, (iv a0_t_2)), p1 (.map (some ba0_t_3))]), .row sa0_t_1 3 1 a0_t_1.length (ec e1 a0_t_1), mpE ba0_t_3 a0_t_3]) (fun (_ : Unit) => .tuple #[.int .i64 r17.1, .int .i64 r17.2.1, .bool r17.2.2]) rfl rfl rfl rfl Try.call13 rfl rfl rfl (fun w hM => lent0) (.inl fun _ => rfl) (fun w S' hM => c_huff_Table_Code K a0_t_0 a0_t_1 a0_t_2 a0_t_3 a2_value ba0_t sa0_t_1 ba0_t_3 r17 w S' hM hr17) (fun _ => ?_)
  refine RW.yi (.tuple #[.int .i64 r17.1, .int .i64 r17.2.1, .bool r17.2.2]) rfl rfl (Yi.pv _ rfl) ?_
  refine RW.yi (.int .i64 r17.1) rfl rfl (Yi.pv _ rfl) ?_
  refine RW.yi (.int .i64 r17.2.1) rfl rfl (Yi.pv _ rfl) ?_
  refine RW.yi (.bool r17.2.2) rfl rfl (Yi.pv _ rfl) ?_
  refine RW.yi (.int .i64 r17.1) rfl rfl (Yi.pv _ rfl) ?_
  refine RW.yi (.int .i64 r17.2.1) rfl rfl (Yi.pv _ rfl) ?_
  refine RW.yi (.bool r17.2.2) rfl rfl (Yi.pv _ rfl) ?_
  refine RW.nil ?_
  refine EW.next ?_
  refine CW.seq ?_
  refine CW.seq ?_
  refine CW.region ?_
  refine RW.yi (.bool r17.2.2) rfl rfl (Yi.pv _ rfl) ?_
  refine RW.forkB 17 (r17.2.2) rfl (fun h20 => ?_) (fun h20 => ?_)
  · replace hm := (if_pos h20).symm.trans hm
    refine RW.yi (.bool false) rfl rfl (Yi.pv _ rfl) ?_
    refine RW.nil ?_
    refine EW.next ?_
    refine CW.cond_false rfl ?_
    refine CW.skip ?_
    refine EW.next ?_
    refine CW.seq ?_
    refine CW.region ?_
    refine RW.yi (.pointer (some ⟨ba1_w, 0, none⟩)) rfl rfl (Yi.pv _ rfl) ?_
    refine RW.yi (.int .i64 r17.1) rfl rfl (Yi.pv _ rfl) ?_
    refine RW.yi (.int .i64 r17.2.1) rfl rfl (Yi.pv _ rfl) ?_
    obtain ⟨r21, hr21, hm⟩ := of_bind hm
    refine RW.callM (cs := []) [.blk ba1_w 81 (#[sa1_w_0, .int .i64 a1_w_1, .int .i64 a1_w_2, .int .i64 a1_w_3]), .row sa1_w_0 5 1 a1_w_0.length (ec eb a1_w_0)] [.blk ba0_t 67 (cat [(16, (iv a0_t_0)), p1 (sa0_t_1), (512, (iv a0_t_2)), p1 (.map (some ba0_t_3))]), .row sa0_t_1 3 1 a0_t_1.length (ec e1 a0_t_1), mpE ba0_t_3 a0_t_3] [] [3, 4, 0, 1, 2] (fun (u22 : Value) => [.blk ba1_w 81 (#[u22, .int .i64 r21.2.1, .int .i64 r21.2.2.1, .int .i64 r21.2.2.2.1]), .row u22 5 1 r21.2.2.2.2.length (ec eb r21.2.2.2.2)]) (fun (u22 : Value) => .int .i64 r21.1) rfl rfl rfl rfl Try.call30 rfl rfl rfl (fun w hM => lent0) (.inl fun _ => rfl) (fun w S' hM => c_bits_Writer_Put K a1_w_0 a1_w_1 a1_w_2 a1_w_3 r17.1 r17.2.1 ba1_w sa1_w_0 r21 w S' hM hr21) (fun u22 => ?_)
    refine RW.yi (.int .i64 r21.1) rfl rfl (Yi.pv _ rfl) ?_
    refine RW.nil ?_
    refine EW.next ?_
    refine CW.ret ?_
    obtain rfl := Option.some.inj hm
    exact EW.done (rs := [.tmp 6]) rfl (.tmp (t := 6) (v := .int .i64 r21.1) rfl .nil) (fun _ hM => ⟨(u22), rfl, (hM.pick [2, 3, 4, 0, 1] rfl rfl)⟩)
  · replace hm := (if_neg h20).symm.trans hm
    refine RW.yi (.bool true) rfl rfl (Yi.pv _ rfl) ?_
    refine RW.nil ?_
    refine EW.next ?_
    refine CW.cond_true rfl ?_
    refine CW.seq ?_
    refine CW.region ?_
    refine RW.yi (.int .i64 6) rfl rfl (Yi.pv _ rfl) ?_
    refine RW.nil ?_
    refine EW.next ?_
    refine CW.ret ?_
    refine EW.thr ?_
    obtain rfl := Option.some.inj hm
    exact EW.done (rs := [.tmp 6]) rfl (.tmp (t := 6) (v := .int .i64 6) rfl .nil) (fun _ hM => ⟨(sa1_w_0), rfl, (hM.pick [0, 1, 2, 3, 4] rfl rfl)⟩)

end Go.Proofs.Ytoepbakbpimkiaa
