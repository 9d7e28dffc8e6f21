import Derived.Test.YtoepbakbpimkiaaN8
import Derived.Test.YtoepbakbpimkiaaProg
import Derived.Test.YtoepbakbpimkiaaGbitsNewReader
import Derived.Test.YtoepbakbpimkiaaGbitsNewWriter
import Derived.Test.YtoepbakbpimkiaaGbitsWriterCount
import Derived.Test.YtoepbakbpimkiaaGhuffTableCode2
import Derived.Test.YtoepbakbpimkiaaGhuffTableGet2
import Derived.Test.YtoepbakbpimkiaaGhuffTablePut
import Derived.Test.YtoepbakbpimkiaaGhuffTableSpec2
import Derived.Test.YtoepbakbpimkiaaGlaw05awake
set_option maxRecDepth 100000
set_option maxHeartbeats 1000000
namespace Go.Proofs.Ytoepbakbpimkiaa
open Go Go.RowKit K

def law05_HuffNobody (K : Nat) (a0 : Int) (a1 : (List Int)) : Option (Bool) :=
  ((huff_Table_Code_2 K a0).bind fun r2 => ((bits_NewWriter K ).bind fun r3 => ((bits_NewReader K a1).bind fun r5 => ((huff_Table_Get_2 K 0 0 0 (([] : List Int) ++ a1)).bind fun r8 => ((huff_Table_Put K ([] : List Int) 0 0 0 a0).bind fun r13 => ((bits_Writer_Count K ([] : List Int) 0 0 0).bind fun r18 => ((huff_Table_Spec_2 K ).bind fun r21 => ((law05_awake K ).bind fun r22 => some r22))))))))

theorem c_law05_HuffNobody (K : Nat) (a0 : Int) (a1 : (List Int)) (sa1 : Value) (r : Bool) (w0 : World) (S : Own) (hM0 : Mem w0 S [ro sa1 1 a1.length (ec eb a1)] w0) (hm : law05_HuffNobody K a0 a1 = some r) : Calls Try.prog 8 #[.int .i64 a0, sa1] w0 fun e w' => ∃ _u : Unit, e = .returned (.bool r) ∧ Mem w0 S [] w' := by
  unfold law05_HuffNobody at hm
  refine calls_CW (n := 67) w0 S [ro sa1 1 a1.length (ec eb a1)] Try.func8 rfl rfl rfl hM0 ?_
  refine CW.seq ?_
  refine CW.region ?_
  refine RW.yi (.bool false) rfl rfl (Yi.pv _ rfl) ?_
  refine RW.nil ?_
  refine EW.next ?_
  refine CW.seq ?_
  refine CW.region ?_
  refine RW.yi (.pointer none) rfl rfl (Yi.pv _ rfl) ?_
  refine RW.nil ?_
  refine EW.next ?_
  refine CW.seq ?_
  refine CW.region ?_
  refine RW.yi (.pointer none) rfl rfl (Yi.pv _ rfl) ?_
  refine RW.yi (.int .i64 a0) rfl rfl (Yi.pv _ rfl) ?_
  obtain ⟨r2, hr2, hm⟩ := of_bind hm
  refine RW.ca (.tuple #[.int .i64 0, .int .i64 0, .bool false]) rfl rfl (Ca.call (cs := []) [] rfl rfl Try.call13 (fun w hM => lent0) (fun w S' hM => (c_huff_Table_Code_2 K a0 r2 w S' hM hr2).mono (fun _ _ h => by obtain ⟨_, h1, h2⟩ := h; exact ⟨h1, h2⟩))) ?_
  refine RW.yi (.tuple #[.int .i64 0, .int .i64 0, .bool false]) rfl rfl (Yi.pv _ rfl) ?_
  refine RW.yi (.int .i64 0) rfl rfl (Yi.pv _ rfl) ?_
  refine RW.yi (.int .i64 0) rfl rfl (Yi.pv _ rfl) ?_
  refine RW.yi (.bool false) rfl rfl (Yi.pv _ rfl) ?_
  refine RW.yi (.int .i64 0) rfl rfl (Yi.pv _ rfl) ?_
  refine RW.yi (.int .i64 0) rfl rfl (Yi.pv _ rfl) ?_
  refine RW.yi (.bool false) rfl rfl (Yi.pv _ rfl) ?_
  refine RW.nil ?_
  refine EW.next ?_
  refine CW.seq ?_
  refine CW.region ?_
  obtain ⟨r3, hr3, hm⟩ := of_bind hm
  refine RW.callM (cs := []) [] [ro sa1 1 a1.length (ec eb a1)] [] [0] (fun (u4 : Nat) => [.blk u4 81 (#[.slice none 0 0, .int .i64 0, .int .i64 0, .int .i64 0])]) (fun (u4 : Nat) => .pointer (some ⟨u4, 0, none⟩)) rfl rfl rfl rfl Try.call22 rfl rfl rfl (fun w hM => lent0) (.inl fun _ => rfl) (fun w S' hM => c_bits_NewWriter K  r3 w S' hM hr3) (fun u4 => ?_)
  refine RW.yi (.pointer (some ⟨u4, 0, none⟩)) rfl rfl (Yi.pv _ rfl) ?_
  refine RW.nil ?_
  refine EW.next ?_
  refine CW.seq ?_
  refine CW.region ?_
  refine RW.yi (.pointer none) rfl rfl (Yi.pv _ rfl) ?_
  refine RW.yi (sa1) rfl rfl (Yi.pv _ rfl) ?_
  obtain ⟨r5, hr5, hm⟩ := of_bind hm
  refine RW.callM (cs := []) [] [.blk u4 81 (#[.slice none 0 0, .int .i64 0, .int .i64 0, .int .i64 0]), ro sa1 1 a1.length (ec eb a1)] [ro sa1 1 a1.length (ec eb a1)] [0, 1] (fun (u6 : Nat × Value) => [.blk u6.1 74 (#[.int .i64 0, .int .i64 0, .int .i64 0, u6.2]), .row u6.2 5 1 (([] : List Int) ++ a1).length (ec eb (([] : List Int) ++ a1))]) (fun (u6 : Nat × Value) => .pointer (some ⟨u6.1, 0, none⟩)) rfl rfl rfl rfl Try.call18 rfl rfl rfl (fun w hM => lentF (A := []) hM 1 rfl (lent0)) (.inl fun _ => rfl) (fun w S' hM => c_bits_NewReader K a1 sa1 r5 w S' hM hr5) (fun u6 => ?_)
  obtain ⟨r8, hr8, hm⟩ := of_bind hm
  refine RW.callM (cs := []) [.blk u6.1 74 (#[.int .i64 0, .int .i64 0, .int .i64 0, u6.2]), .row u6.2 5 1 (([] : List Int) ++ a1).length (ec eb (([] : List Int) ++ a1))] [.blk u4 81 (#[.slice none 0 0, .int .i64 0, .int .i64 0, .int .i64 0]), ro sa1 1 a1.length (ec eb a1)] [] [0, 1, 2, 3] (fun (_ : Unit) => [.blk u6.1 74 (#[.int .i64 0, .int .i64 0, .int .i64 0, u6.2]), .row u6.2 5 1 (([] : List Int) ++ a1).length (ec eb (([] : List Int) ++ a1))]) (fun (_ : Unit) => .tuple #[.int .i64 0, .int .i64 6]) rfl rfl rfl rfl Try.call19 rfl rfl rfl (fun w hM => lent0) (.inl fun _ => rfl) (fun w S' hM => c_huff_Table_Get_2 K 0 0 0 (([] : List Int) ++ a1) u6.1 u6.2 r8 w S' hM hr8) (fun _ => ?_)
  refine RW.yi (.tuple #[.int .i64 0, .int .i64 6]) rfl rfl (Yi.pv _ rfl) ?_
  refine RW.yi (.int .i64 0) rfl rfl (Yi.pv _ rfl) ?_
  refine RW.yi (.int .i64 6) rfl rfl (Yi.pv _ rfl) ?_
  refine RW.yi (.int .i64 0) rfl rfl (Yi.pv _ rfl) ?_
  refine RW.yi (.int .i64 6) rfl rfl (Yi.pv _ rfl) ?_
  refine RW.nil ?_
  refine EW.next ?_
  refine CW.seq ?_
  refine CW.region ?_
  refine RW.yi (.int .i64 0) rfl rfl (Yi.pv _ rfl) ?_
  refine RW.yi (.bool true) rfl rfl (Yi.pv _ rfl) ?_
  refine RW.yi (.bool true) rfl rfl (Yi.pv _ rfl) ?_
  refine RW.yi (.int .i64 0) rfl rfl (Yi.pv _ rfl) ?_
  refine RW.yi (.bool true) rfl rfl (Yi.pv _ rfl) ?_
  refine RW.yi (.bool true) rfl rfl (Yi.pv _ rfl) ?_
  refine RW.yi (.bool true) rfl rfl (Yi.pv _ rfl) ?_
  refine RW.yi (.bool false) rfl rfl (Yi.pv _ rfl) ?_
  refine RW.yi (.bool true) rfl rfl (Yi.pv _ rfl) ?_
  refine RW.yi (.bool true) rfl rfl (Yi.pv _ rfl) ?_
  refine RW.yi (.bool true) rfl rfl (Yi.pv _ rfl) ?_
  refine RW.yi (.pointer none) rfl rfl (Yi.pv _ rfl) ?_
  refine RW.yi (.pointer (some ⟨u4, 0, none⟩)) rfl rfl (Yi.pv _ rfl) ?_
  refine RW.yi (.int .i64 a0) rfl rfl (Yi.pv _ rfl) ?_
  obtain ⟨r13, hr13, hm⟩ := of_bind hm
  refine RW.conv (fun _ hM => hM.nilRow 5 1) ?_
  refine RW.callM (cs := []) [.blk u4 81 (#[.slice none 0 0, .int .i64 0, .int .i64 0, .int .i64 0]), .row (.slice none 0 0) 5 1 ([] : List Int).length (ec eb ([] : List Int))] [.blk u6.1 74 (#[.int .i64 0, .int .i64 0, .int .i64 0, u6.2]), .row u6.2 5 1 (([] : List Int) ++ a1).length (ec eb (([] : List Int) ++ a1)), ro sa1 1 a1.length (ec eb a1)] [] [3, 0, 1, 2, 4] (fun (_ : Unit) => [.blk u4 81 (#[.slice none 0 0, .int .i64 0, .int .i64 0, .int .i64 0]), .row (.slice none 0 0) 5 1 ([] : List Int).length (ec eb ([] : List Int))]) (fun (_ : Unit) => .int .i64 6) rfl rfl rfl rfl Try.call23 rfl rfl rfl (fun w hM => lent0) (.inl fun _ => rfl) (fun w S' hM => c_huff_Table_Put K ([] : List Int) 0 0 0 a0 u4 (.slice none 0 0) r13 w S' hM hr13) (fun _ => ?_)
  refine RW.yi (.bool true) rfl rfl (Yi.pv _ rfl) ?_
  refine RW.yi (.bool true) rfl rfl (Yi.pv _ rfl) ?_
  refine RW.yi (.bool true) rfl rfl (Yi.pv _ rfl) ?_
  refine RW.yi (.pointer (some ⟨u4, 0, none⟩)) rfl rfl (Yi.pv _ rfl) ?_
  obtain ⟨r18, hr18, hm⟩ := of_bind hm
  refine RW.callM (cs := []) [.blk u4 81 (#[.slice none 0 0, .int .i64 0, .int .i64 0, .int .i64 0]), .row (.slice none 0 0) 5 1 ([] : List Int).length (ec eb ([] : List Int))] [.blk u6.1 74 (#[.int .i64 0, .int .i64 0, .int .i64 0, u6.2]), .row u6.2 5 1 (([] : List Int) ++ a1).length (ec eb (([] : List Int) ++ a1)), ro sa1 1 a1.length (ec eb a1)] [] [0, 1, 2, 3, 4] (fun (_ : Unit) => [.blk u4 81 (#[.slice none 0 0, .int .i64 0, .int .i64 0, .int .i64 0]), .row (.slice none 0 0) 5 1 ([] : List Int).length (ec eb ([] : List Int))]) (fun (_ : Unit) => .int .i64 0) rfl rfl rfl rfl Try.call24 rfl rfl rfl (fun w hM => lent0) (.inl fun _ => rfl) (fun w S' hM => c_bits_Writer_Count K ([] : List Int) 0 0 0 u4 (.slice none 0 0) r18 w S' hM hr18) (fun _ => ?_)
  refine RW.yi (.bool true) rfl rfl (Yi.pv _ rfl) ?_
  refine RW.yi (.bool true) rfl rfl (Yi.pv _ rfl) ?_
  refine RW.yi (.bool true) rfl rfl (Yi.pv _ rfl) ?_
  refine RW.yi (.int .i64 0) rfl rfl (Yi.pv _ rfl) ?_
  refine RW.yi (.bool true) rfl rfl (Yi.pv _ rfl) ?_
  refine RW.yi (.bool true) rfl rfl (Yi.pv _ rfl) ?_
  refine RW.yi (.bool true) rfl rfl (Yi.pv _ rfl) ?_
  refine RW.yi (.int .i64 6) rfl rfl (Yi.pv _ rfl) ?_
  refine RW.yi (.bool true) rfl rfl (Yi.pv _ rfl) ?_
  refine RW.yi (.bool true) rfl rfl (Yi.pv _ rfl) ?_
  refine RW.yi (.bool true) rfl rfl (Yi.pv _ rfl) ?_
  refine RW.yi (.pointer none) rfl rfl (Yi.pv _ rfl) ?_
  obtain ⟨r21, hr21, hm⟩ := of_bind hm
  refine RW.ca (.agg (cat [(16, (iv zf)), p1 (.slice none 0 0)])) rfl rfl (Ca.call (cs := []) [] rfl rfl Try.call17 (fun w hM => lent0) (fun w S' hM => (c_huff_Table_Spec_2 K  r21 w S' hM hr21).mono (fun _ _ h => by obtain ⟨_, h1, h2⟩ := h; exact ⟨h1, h2⟩))) ?_
  refine RW.yi (.slice none 0 0) rfl rfl (Yi.field (j := 1) _ Try.underlying25 rfl Try.isAgg23 rfl (cat_get1 (ps := [(16, (iv zf)), p1 (.slice none 0 0)]) 1 rfl rfl)) ?_
  refine RW.yi (.int .i64 0) rfl rfl (Yi.lenN rfl Try.underlying23) ?_
  refine RW.yi (.bool true) rfl rfl (Yi.pv _ rfl) ?_
  refine RW.yi (.bool true) rfl rfl (Yi.pv _ rfl) ?_
  refine RW.yi (.bool true) rfl rfl (Yi.pv _ rfl) ?_
  obtain ⟨r22, hr22, hm⟩ := of_bind hm
  refine RW.ca (.bool r22) rfl rfl (Ca.call (cs := []) [] rfl rfl Try.call10 (fun w hM => lent0) (fun w S' hM => (c_law05_awake K  r22 w S' hM hr22).mono (fun _ _ h => by obtain ⟨_, h1, h2⟩ := h; exact ⟨h1, h2⟩))) ?_
  refine RW.yi (.bool r22) rfl rfl (Yi.pv _ rfl) ?_
  refine RW.yi (.bool r22) rfl rfl (Yi.pv _ rfl) ?_
  refine RW.nil ?_
  refine EW.next ?_
  refine CW.ret ?_
  obtain rfl := Option.some.inj hm
  exact EW.done (rs := [.tmp 4]) rfl (.tmp (t := 4) (v := .bool r22) rfl .nil) (fun _ hM => ⟨(), rfl, (hM.pick [] rfl rfl)⟩)

end Go.Proofs.Ytoepbakbpimkiaa
