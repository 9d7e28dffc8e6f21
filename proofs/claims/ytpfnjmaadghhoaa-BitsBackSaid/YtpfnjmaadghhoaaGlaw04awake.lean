import Derived.Test.YtpfnjmaadghhoaaN8
import Derived.Test.YtpfnjmaadghhoaaProg
import Derived.Test.YtpfnjmaadghhoaaGbitsNewWriter
import Derived.Test.YtpfnjmaadghhoaaGbitsWriterBytes
import Derived.Test.YtpfnjmaadghhoaaGbitsWriterCount
import Derived.Test.YtpfnjmaadghhoaaGbitsWriterPut
set_option maxRecDepth 100000
set_option maxHeartbeats 1000000
namespace Go.Proofs.Ytpfnjmaadghhoaa
open Go Go.RowKit K

def law04_awake (K : Nat)  : Option (Bool) :=
  ((bits_NewWriter K ).bind fun r6 => ((bits_Writer_Put K ([] : List Int) 0 0 0 255 8).bind fun r10 => ((bits_Writer_Put K r10.2.2.2.2 r10.2.1 r10.2.2.1 r10.2.2.2.1 0 1).bind fun r15 => (if r10.1 = 0 then (if r15.1 = 0 then ((bits_Writer_Put K r15.2.2.2.2 r15.2.1 r15.2.2.1 r15.2.2.2.1 2 1).bind fun r20 => (if r20.1 = 2 then ((bits_Writer_Bytes K r20.2.2.2.2 r20.2.1 r20.2.2.1 r20.2.2.2.1).bind fun r24 => (if (bs r24).toList = (⟨#[255, 0, 127]⟩ : ByteArray).toList then ((bits_Writer_Count K r20.2.2.2.2 r20.2.1 r20.2.2.1 r20.2.2.2.1).bind fun r29 => some (decide (r20.2.2.2.1 = 9))) else some false)) else some false)) else some false) else some false))))

theorem c_law04_awake (K : Nat)   (r : Bool) (w0 : World) (S : Own) (hM0 : Mem w0 S [] w0) (hm : law04_awake K  = some r) : Calls Try.prog 10 #[] w0 fun e w' => ∃ _u : Unit, e = .returned (.bool r) ∧ Mem w0 S [] w' := by
  unfold law04_awake at hm
  refine calls_CW (n := 31) w0 S [] Try.func10 rfl rfl rfl hM0 ?_
  refine CW.seq ?_
  refine CW.region ?_
  refine RW.yi (.bool false) rfl rfl (Yi.pv _ rfl) ?_
  refine RW.nil ?_
  refine EW.next ?_
  refine CW.seq ?_
  refine CW.region ?_
  obtain ⟨r6, hr6, hm⟩ := of_bind hm
  refine RW.callM (cs := []) [] [] [] [] (fun (u7 : Nat) => [.blk u7 60 (#[.slice none 0 0, .int .i64 0, .int .i64 0, .int .i64 0])]) (fun (u7 : Nat) => .pointer (some ⟨u7, 0, none⟩)) rfl rfl rfl rfl Try.call11 rfl rfl rfl (fun w hM => lent0) (.inl fun _ => rfl) (fun w S' hM => c_bits_NewWriter K  r6 w S' hM hr6) (fun u7 => ?_)
  refine RW.yi (.pointer (some ⟨u7, 0, none⟩)) rfl rfl (Yi.pv _ rfl) ?_
  refine RW.nil ?_
  refine EW.next ?_
  refine CW.seq ?_
  refine CW.region ?_
  refine RW.yi (.pointer (some ⟨u7, 0, none⟩)) rfl rfl (Yi.pv _ rfl) ?_
  obtain ⟨r10, hr10, hm⟩ := of_bind hm
  refine RW.conv (fun _ hM => hM.nilRow 5 1) ?_
  refine RW.callM (cs := []) [.blk u7 60 (#[.slice none 0 0, .int .i64 0, .int .i64 0, .int .i64 0]), .row (.slice none 0 0) 5 1 ([] : List Int).length (ec eb ([] : List Int))] [] [] [1, 0] (fun (u13 : Value) => [.blk u7 60 (#[u13, .int .i64 r10.2.1, .int .i64 r10.2.2.1, .int .i64 r10.2.2.2.1]), .row u13 5 1 r10.2.2.2.2.length (ec eb r10.2.2.2.2)]) (fun (u13 : Value) => .int .i64 r10.1) rfl rfl rfl rfl Try.call13 rfl rfl rfl (fun w hM => lent0) (.inl fun _ => rfl) (fun w S' hM => c_bits_Writer_Put K ([] : List Int) 0 0 0 255 8 u7 (.slice none 0 0) r10 w S' hM hr10) (fun u13 => ?_)
  refine RW.yi (.pointer (some ⟨u7, 0, none⟩)) rfl rfl (Yi.pv _ rfl) ?_
  obtain ⟨r15, hr15, hm⟩ := of_bind hm
  refine RW.callM (cs := []) [.blk u7 60 (#[u13, .int .i64 r10.2.1, .int .i64 r10.2.2.1, .int .i64 r10.2.2.2.1]), .row u13 5 1 r10.2.2.2.2.length (ec eb r10.2.2.2.2)] [] [] [0, 1] (fun (u16 : Value) => [.blk u7 60 (#[u16, .int .i64 r15.2.1, .int .i64 r15.2.2.1, .int .i64 r15.2.2.2.1]), .row u16 5 1 r15.2.2.2.2.length (ec eb r15.2.2.2.2)]) (fun (u16 : Value) => .int .i64 r15.1) rfl rfl rfl rfl Try.call13 rfl rfl rfl (fun w hM => lent0) (.inl fun _ => rfl) (fun w S' hM => c_bits_Writer_Put K r10.2.2.2.2 r10.2.1 r10.2.2.1 r10.2.2.2.1 0 1 u7 u13 r15 w S' hM hr15) (fun u16 => ?_)
  refine RW.yi (.int .i64 r10.1) rfl rfl (Yi.pv _ rfl) ?_
  refine RW.yi (.int .i64 r15.1) rfl rfl (Yi.pv _ rfl) ?_
  refine RW.nil ?_
  refine EW.next ?_
  refine CW.seq ?_
  refine CW.region ?_
  refine RW.yi (.int .i64 r10.1) rfl rfl (Yi.pv _ rfl) ?_
  refine RW.yi (.bool (decide (r10.1 = 0))) rfl rfl (Yi.pv _ rfl) ?_
  refine RW.yi (.bool (decide (r10.1 = 0))) rfl rfl (Yi.pv _ rfl) ?_
  refine RW.fork 11 (r10.1 = 0) rfl (fun h18 => ?_) (fun h18 => ?_)
  · replace hm := (if_pos h18).symm.trans hm
    refine RW.yi (.int .i64 r15.1) rfl rfl (Yi.pv _ rfl) ?_
    refine RW.yi (.bool (decide (r15.1 = 0))) rfl rfl (Yi.pv _ rfl) ?_
    refine RW.yi (.bool (decide (r15.1 = 0))) rfl rfl (Yi.pv _ rfl) ?_
    refine RW.yi (.bool (decide (r15.1 = 0))) rfl rfl (Yi.pv _ rfl) ?_
    refine RW.fork 15 (r15.1 = 0) rfl (fun h19 => ?_) (fun h19 => ?_)
    · replace hm := (if_pos h19).symm.trans hm
      refine RW.yi (.pointer (some ⟨u7, 0, none⟩)) rfl rfl (Yi.pv _ rfl) ?_
      obtain ⟨r20, hr20, hm⟩ := of_bind hm
      refine RW.callM (cs := []) [.blk u7 60 (#[u16, .int .i64 r15.2.1, .int .i64 r15.2.2.1, .int .i64 r15.2.2.2.1]), .row u16 5 1 r15.2.2.2.2.length (ec eb r15.2.2.2.2)] [] [] [0, 1] (fun (u21 : Value) => [.blk u7 60 (#[u21, .int .i64 r20.2.1, .int .i64 r20.2.2.1, .int .i64 r20.2.2.2.1]), .row u21 5 1 r20.2.2.2.2.length (ec eb r20.2.2.2.2)]) (fun (u21 : Value) => .int .i64 r20.1) rfl rfl rfl rfl Try.call13 rfl rfl rfl (fun w hM => lent0) (.inl fun _ => rfl) (fun w S' hM => c_bits_Writer_Put K r15.2.2.2.2 r15.2.1 r15.2.2.1 r15.2.2.2.1 2 1 u7 u16 r20 w S' hM hr20) (fun u21 => ?_)
      refine RW.yi (.bool (decide (r20.1 = 2))) rfl rfl (Yi.pv _ rfl) ?_
      refine RW.yi (.bool (decide (r20.1 = 2))) rfl rfl (Yi.pv _ rfl) ?_
      refine RW.yi (.bool (decide (r20.1 = 2))) rfl rfl (Yi.pv _ rfl) ?_
      refine RW.fork 20 (r20.1 = 2) rfl (fun h23 => ?_) (fun h23 => ?_)
      · replace hm := (if_pos h23).symm.trans hm
        refine RW.yi (.pointer (some ⟨u7, 0, none⟩)) rfl rfl (Yi.pv _ rfl) ?_
        obtain ⟨r24, hr24, hm⟩ := of_bind hm
        refine RW.callM (cs := []) [.blk u7 60 (#[u21, .int .i64 r20.2.1, .int .i64 r20.2.2.1, .int .i64 r20.2.2.2.1]), .row u21 5 1 r20.2.2.2.2.length (ec eb r20.2.2.2.2)] [] [] [0, 1] (fun (u25 : Value) => [.row u25 5 1 r24.length (ec eb r24), .blk u7 60 (#[u21, .int .i64 r20.2.1, .int .i64 r20.2.2.1, .int .i64 r20.2.2.2.1]), .row u21 5 1 r20.2.2.2.2.length (ec eb r20.2.2.2.2)]) (fun (u25 : Value) => u25) rfl rfl rfl rfl Try.call15 rfl rfl rfl (fun w hM => lent0) (.inl fun _ => rfl) (fun w S' hM => c_bits_Writer_Bytes K r20.2.2.2.2 r20.2.1 r20.2.2.1 r20.2.2.2.1 u7 u21 r24 w S' hM hr24) (fun u25 => ?_)
        refine RW.yi (.string (bs r24)) rfl rfl (Yi.str (xs := r24) Try.underlying34 Try.underlying5 Try.underlying9 rfl (rdW 0 rfl)) ?_
        refine RW.yi (.bool (decide ((bs r24).toList = (⟨#[255, 0, 127]⟩ : ByteArray).toList))) rfl rfl (Yi.eqStr rfl rfl) ?_
        refine RW.yi (.bool (decide ((bs r24).toList = (⟨#[255, 0, 127]⟩ : ByteArray).toList))) rfl rfl (Yi.pv _ rfl) ?_
        refine RW.yi (.bool (decide ((bs r24).toList = (⟨#[255, 0, 127]⟩ : ByteArray).toList))) rfl rfl (Yi.pv _ rfl) ?_
        refine RW.fork 26 ((bs r24).toList = (⟨#[255, 0, 127]⟩ : ByteArray).toList) rfl (fun h28 => ?_) (fun h28 => ?_)
        · replace hm := (if_pos h28).symm.trans hm
          refine RW.yi (.pointer (some ⟨u7, 0, none⟩)) rfl rfl (Yi.pv _ rfl) ?_
          obtain ⟨r29, hr29, hm⟩ := of_bind hm
          refine RW.callM (cs := []) [.blk u7 60 (#[u21, .int .i64 r20.2.1, .int .i64 r20.2.2.1, .int .i64 r20.2.2.2.1]), .row u21 5 1 r20.2.2.2.2.length (ec eb r20.2.2.2.2)] [.row u25 5 1 r24.length (ec eb r24)] [] [1, 2, 0] (fun (_ : Unit) => [.blk u7 60 (#[u21, .int .i64 r20.2.1, .int .i64 r20.2.2.1, .int .i64 r20.2.2.2.1]), .row u21 5 1 r20.2.2.2.2.length (ec eb r20.2.2.2.2)]) (fun (_ : Unit) => .int .i64 r20.2.2.2.1) rfl rfl rfl rfl Try.call14 rfl rfl rfl (fun w hM => lent0) (.inl fun _ => rfl) (fun w S' hM => c_bits_Writer_Count K r20.2.2.2.2 r20.2.1 r20.2.2.1 r20.2.2.2.1 u7 u21 r29 w S' hM hr29) (fun _ => ?_)
          refine RW.yi (.bool (decide (r20.2.2.2.1 = 9))) rfl rfl (Yi.pv _ rfl) ?_
          refine RW.yi (.bool (decide (r20.2.2.2.1 = 9))) rfl rfl (Yi.pv _ rfl) ?_
          refine RW.yi (.bool (decide (r20.2.2.2.1 = 9))) rfl rfl (Yi.pv _ rfl) ?_
          refine RW.nil ?_
          refine EW.next ?_
          refine CW.ret ?_
          obtain rfl := Option.some.inj hm
          exact EW.done (rs := [.tmp 0]) rfl (.tmp (t := 0) (v := .bool (decide (r20.2.2.2.1 = 9))) rfl .nil) (fun _ hM => ⟨(), rfl, (hM.pick [] rfl rfl)⟩)
        · replace hm := (if_neg h28).symm.trans hm
          refine RW.pass rfl rfl ?_
          refine RW.pass rfl rfl ?_
          refine RW.pass rfl rfl ?_
          refine RW.yi (.bool false) rfl rfl (Yi.pv _ rfl) ?_
          refine RW.yi (.bool false) rfl rfl (Yi.pv _ rfl) ?_
          refine RW.nil ?_
          refine EW.next ?_
          refine CW.ret ?_
          obtain rfl := Option.some.inj hm
          exact EW.done (rs := [.tmp 0]) rfl (.tmp (t := 0) (v := .bool false) rfl .nil) (fun _ hM => ⟨(), rfl, (hM.pick [] rfl rfl)⟩)
      · replace hm := (if_neg h23).symm.trans hm
        refine RW.pass rfl rfl ?_
        refine RW.pass rfl rfl ?_
        refine RW.pass rfl rfl ?_
        refine RW.pass rfl rfl ?_
        refine RW.yi (.bool false) rfl rfl (Yi.pv _ rfl) ?_
        refine RW.yi (.bool false) rfl rfl (Yi.pv _ rfl) ?_
        refine RW.pass rfl rfl ?_
        refine RW.pass rfl rfl ?_
        refine RW.pass rfl rfl ?_
        refine RW.yi (.bool false) rfl rfl (Yi.pv _ rfl) ?_
        refine RW.yi (.bool false) rfl rfl (Yi.pv _ rfl) ?_
        refine RW.nil ?_
        refine EW.next ?_
        refine CW.ret ?_
        obtain rfl := Option.some.inj hm
        exact EW.done (rs := [.tmp 0]) rfl (.tmp (t := 0) (v := .bool false) rfl .nil) (fun _ hM => ⟨(), rfl, (hM.pick [] rfl rfl)⟩)
    · replace hm := (if_neg h19).symm.trans hm
      refine RW.pass rfl rfl ?_
      refine RW.pass rfl rfl ?_
      refine RW.pass rfl rfl ?_
      refine RW.yi (.bool false) rfl rfl (Yi.pv _ rfl) ?_
      refine RW.yi (.bool false) rfl rfl (Yi.pv _ rfl) ?_
      refine RW.pass rfl rfl ?_
      refine RW.pass rfl rfl ?_
      refine RW.pass rfl rfl ?_
      refine RW.pass rfl rfl ?_
      refine RW.yi (.bool false) rfl rfl (Yi.pv _ rfl) ?_
      refine RW.yi (.bool false) rfl rfl (Yi.pv _ rfl) ?_
      refine RW.pass rfl rfl ?_
      refine RW.pass rfl rfl ?_
      refine RW.pass rfl rfl ?_
      refine RW.yi (.bool false) rfl rfl (Yi.pv _ rfl) ?_
      refine RW.yi (.bool false) rfl rfl (Yi.pv _ rfl) ?_
      refine RW.nil ?_
      refine EW.next ?_
      refine CW.ret ?_
      obtain rfl := Option.some.inj hm
      exact EW.done (rs := [.tmp 0]) rfl (.tmp (t := 0) (v := .bool false) rfl .nil) (fun _ hM => ⟨(), rfl, (hM.pick [] rfl rfl)⟩)
  · replace hm := (if_neg h18).symm.trans hm
    refine RW.pass rfl rfl ?_
    refine RW.pass rfl rfl ?_
    refine RW.yi (.bool false) rfl rfl (Yi.pv _ rfl) ?_
    refine RW.yi (.bool false) rfl rfl (Yi.pv _ rfl) ?_
    refine RW.pass rfl rfl ?_
    refine RW.pass rfl rfl ?_
    refine RW.pass rfl rfl ?_
    refine RW.yi (.bool false) rfl rfl (Yi.pv _ rfl) ?_
    refine RW.yi (.bool false) rfl rfl (Yi.pv _ rfl) ?_
    refine RW.pass rfl rfl ?_
    refine RW.pass rfl rfl ?_
    refine RW.pass rfl rfl ?_
    refine RW.pass rfl rfl ?_
    refine RW.yi (.bool false) rfl rfl (Yi.pv _ rfl) ?_
    refine RW.yi (.bool false) rfl rfl (Yi.pv _ rfl) ?_
    refine RW.pass rfl rfl ?_
    refine RW.pass rfl rfl ?_
    refine RW.pass rfl rfl ?_
    refine RW.yi (.bool false) rfl rfl (Yi.pv _ rfl) ?_
    refine RW.yi (.bool false) rfl rfl (Yi.pv _ rfl) ?_
    refine RW.nil ?_
    refine EW.next ?_
    refine CW.ret ?_
    obtain rfl := Option.some.inj hm
    exact EW.done (rs := [.tmp 0]) rfl (.tmp (t := 0) (v := .bool false) rfl .nil) (fun _ hM => ⟨(), rfl, (hM.pick [] rfl rfl)⟩)

end Go.Proofs.Ytpfnjmaadghhoaa
