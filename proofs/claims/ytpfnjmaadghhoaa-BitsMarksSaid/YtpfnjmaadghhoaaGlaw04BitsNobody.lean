import Derived.Test.YtpfnjmaadghhoaaN7
import Derived.Test.YtpfnjmaadghhoaaProg
import Derived.Test.YtpfnjmaadghhoaaGbitsReaderAt2
import Derived.Test.YtpfnjmaadghhoaaGbitsReaderBit2
import Derived.Test.YtpfnjmaadghhoaaGbitsReaderGet2
import Derived.Test.YtpfnjmaadghhoaaGbitsReaderMarker2
import Derived.Test.YtpfnjmaadghhoaaGbitsReaderSkip2
import Derived.Test.YtpfnjmaadghhoaaGbitsWriterBytes2
import Derived.Test.YtpfnjmaadghhoaaGbitsWriterCount2
import Derived.Test.YtpfnjmaadghhoaaGbitsWriterPut2
import Derived.Test.YtpfnjmaadghhoaaGlaw04awake
set_option maxRecDepth 100000
set_option maxHeartbeats 1000000
namespace Go.Proofs.Ytpfnjmaadghhoaa
open Go Go.RowKit K

def law04_BitsNobody (K : Nat) (a0_0 : Int) (a0_1 : Int) : Option (Bool) :=
  ((bits_Reader_Bit_2 K ).bind fun r3 => ((bits_Reader_Get_2 K a0_1).bind fun r4 => ((bits_Reader_Marker_2 K ).bind fun r5 => ((bits_Writer_Put_2 K a0_0 a0_1).bind fun r6 => ((bits_Writer_Count_2 K ).bind fun r7 => ((bits_Writer_Bytes_2 K ).bind fun r8 => ((bits_Reader_Skip_2 K ).bind fun r9 => ((bits_Reader_At_2 K ).bind fun r10 => ((law04_awake K ).bind fun r11 => some r11)))))))))

theorem c_law04_BitsNobody (K : Nat) (a0_0 : Int) (a0_1 : Int)  (r : Bool) (w0 : World) (S : Own) (hM0 : Mem w0 S [] w0) (hm : law04_BitsNobody K a0_0 a0_1 = some r) : Calls Try.prog 8 #[.agg #[.int .i64 a0_0, .int .i64 a0_1]] w0 fun e w' => ∃ _u : Unit, e = .returned (.bool r) ∧ Mem w0 S [] w' := by
  unfold law04_BitsNobody at hm
  refine calls_CW (n := 83) w0 S [] Try.func8 rfl rfl rfl hM0 ?_
  refine CW.seq ?_
  refine CW.region ?_
  refine RW.box (v := .agg #[.int .i64 a0_0, .int .i64 a0_1]) rfl rfl rfl (fun b2 => ?_)
  refine RW.yi (.bool false) rfl rfl (Yi.pv _ rfl) ?_
  refine RW.nil ?_
  refine EW.next ?_
  refine CW.seq ?_
  refine CW.region ?_
  refine RW.yi (.pointer none) rfl rfl (Yi.pv _ rfl) ?_
  refine RW.nil ?_
  refine EW.next ?_
  refine CW.seq ?_
  refine CW.region ?_
  refine RW.yi (.pointer none) rfl rfl (Yi.pv _ rfl) ?_
  refine RW.nil ?_
  refine EW.next ?_
  refine CW.seq ?_
  refine CW.region ?_
  refine RW.yi (.pointer none) rfl rfl (Yi.pv _ rfl) ?_
  obtain ⟨r3, hr3, hm⟩ := of_bind hm
  refine RW.ca (.tuple #[.int .i64 0, .int .i64 3]) rfl rfl (Ca.call (cs := []) [] rfl rfl Try.call18 (fun w hM => lent0) (fun w S' hM => (c_bits_Reader_Bit_2 K  r3 w S' hM hr3).mono (fun _ _ h => by obtain ⟨_, h1, h2⟩ := h; exact ⟨h1, h2⟩))) ?_
  refine RW.yi (.tuple #[.int .i64 0, .int .i64 3]) rfl rfl (Yi.pv _ rfl) ?_
  refine RW.yi (.int .i64 0) rfl rfl (Yi.pv _ rfl) ?_
  refine RW.yi (.int .i64 3) rfl rfl (Yi.pv _ rfl) ?_
  refine RW.yi (.int .i64 0) rfl rfl (Yi.pv _ rfl) ?_
  refine RW.yi (.int .i64 3) rfl rfl (Yi.pv _ rfl) ?_
  refine RW.nil ?_
  refine EW.next ?_
  refine CW.seq ?_
  refine CW.region ?_
  refine RW.yi (.pointer none) rfl rfl (Yi.pv _ rfl) ?_
  refine RW.yi (.pointer (some ⟨b2, 1, none⟩)) rfl rfl (Yi.fieldAddr (j := 1) Try.underlying28 rfl Try.sizeOf3 rfl) ?_
  refine RW.yi (.int .i64 a0_1) rfl rfl (Yi.load1 (i := 0) _ rfl rfl Try.isAgg3 rfl) ?_
  obtain ⟨r4, hr4, hm⟩ := of_bind hm
  refine RW.ca (.tuple #[.int .i64 0, .int .i64 3]) rfl rfl (Ca.call (cs := []) [] rfl rfl Try.call21 (fun w hM => lent0) (fun w S' hM => (c_bits_Reader_Get_2 K a0_1 r4 w S' hM hr4).mono (fun _ _ h => by obtain ⟨_, h1, h2⟩ := h; exact ⟨h1, h2⟩))) ?_
  refine RW.yi (.tuple #[.int .i64 0, .int .i64 3]) rfl rfl (Yi.pv _ rfl) ?_
  refine RW.yi (.int .i64 0) rfl rfl (Yi.pv _ rfl) ?_
  refine RW.yi (.int .i64 3) rfl rfl (Yi.pv _ rfl) ?_
  refine RW.yi (.int .i64 0) rfl rfl (Yi.pv _ rfl) ?_
  refine RW.yi (.int .i64 3) rfl rfl (Yi.pv _ rfl) ?_
  refine RW.nil ?_
  refine EW.next ?_
  refine CW.seq ?_
  refine CW.region ?_
  refine RW.yi (.pointer none) rfl rfl (Yi.pv _ rfl) ?_
  obtain ⟨r5, hr5, hm⟩ := of_bind hm
  refine RW.ca (.tuple #[.int .i64 0, .int .i64 3]) rfl rfl (Ca.call (cs := []) [] rfl rfl Try.call19 (fun w hM => lent0) (fun w S' hM => (c_bits_Reader_Marker_2 K  r5 w S' hM hr5).mono (fun _ _ h => by obtain ⟨_, h1, h2⟩ := h; exact ⟨h1, h2⟩))) ?_
  refine RW.yi (.tuple #[.int .i64 0, .int .i64 3]) rfl rfl (Yi.pv _ rfl) ?_
  refine RW.yi (.int .i64 0) rfl rfl (Yi.pv _ rfl) ?_
  refine RW.yi (.int .i64 3) rfl rfl (Yi.pv _ rfl) ?_
  refine RW.yi (.int .i64 0) rfl rfl (Yi.pv _ rfl) ?_
  refine RW.yi (.int .i64 3) rfl rfl (Yi.pv _ rfl) ?_
  refine RW.nil ?_
  refine EW.next ?_
  refine CW.seq ?_
  refine CW.region ?_
  refine RW.yi (.pointer none) rfl rfl (Yi.pv _ rfl) ?_
  refine RW.yi (.pointer (some ⟨b2, 0, none⟩)) rfl rfl (Yi.fieldAddr (j := 0) Try.underlying28 rfl Try.sizeOf3 rfl) ?_
  refine RW.yi (.int .i64 a0_0) rfl rfl (Yi.load1 (i := 0) _ rfl rfl Try.isAgg3 rfl) ?_
  refine RW.yi (.pointer (some ⟨b2, 1, none⟩)) rfl rfl (Yi.fieldAddr (j := 1) Try.underlying28 rfl Try.sizeOf3 rfl) ?_
  refine RW.yi (.int .i64 a0_1) rfl rfl (Yi.load1 (i := 0) _ rfl rfl Try.isAgg3 rfl) ?_
  obtain ⟨r6, hr6, hm⟩ := of_bind hm
  refine RW.ca (.int .i64 3) rfl rfl (Ca.call (cs := []) [] rfl rfl Try.call13 (fun w hM => lent0) (fun w S' hM => (c_bits_Writer_Put_2 K a0_0 a0_1 r6 w S' hM hr6).mono (fun _ _ h => by obtain ⟨_, h1, h2⟩ := h; exact ⟨h1, h2⟩))) ?_
  refine RW.yi (.bool true) rfl rfl (Yi.pv _ rfl) ?_
  refine RW.yi (.bool true) rfl rfl (Yi.pv _ rfl) ?_
  refine RW.yi (.pointer none) rfl rfl (Yi.pv _ rfl) ?_
  obtain ⟨r7, hr7, hm⟩ := of_bind hm
  refine RW.ca (.int .i64 0) rfl rfl (Ca.call (cs := []) [] rfl rfl Try.call14 (fun w hM => lent0) (fun w S' hM => (c_bits_Writer_Count_2 K  r7 w S' hM hr7).mono (fun _ _ h => by obtain ⟨_, h1, h2⟩ := h; exact ⟨h1, h2⟩))) ?_
  refine RW.yi (.bool true) rfl rfl (Yi.pv _ rfl) ?_
  refine RW.yi (.bool true) rfl rfl (Yi.pv _ rfl) ?_
  refine RW.yi (.bool true) rfl rfl (Yi.pv _ rfl) ?_
  refine RW.yi (.pointer none) rfl rfl (Yi.pv _ rfl) ?_
  obtain ⟨r8, hr8, hm⟩ := of_bind hm
  refine RW.ca (.slice none 0 0) rfl rfl (Ca.call (cs := []) [] rfl rfl Try.call15 (fun w hM => lent0) (fun w S' hM => (c_bits_Writer_Bytes_2 K  r8 w S' hM hr8).mono (fun _ _ h => by obtain ⟨_, h1, h2⟩ := h; exact ⟨h1, h2⟩))) ?_
  refine RW.yi (.int .i64 0) rfl rfl (Yi.lenN rfl Try.underlying34) ?_
  refine RW.yi (.bool true) rfl rfl (Yi.pv _ rfl) ?_
  refine RW.yi (.bool true) rfl rfl (Yi.pv _ rfl) ?_
  refine RW.yi (.bool true) rfl rfl (Yi.pv _ rfl) ?_
  refine RW.yi (.int .i64 0) rfl rfl (Yi.pv _ rfl) ?_
  refine RW.yi (.bool true) rfl rfl (Yi.pv _ rfl) ?_
  refine RW.yi (.bool true) rfl rfl (Yi.pv _ rfl) ?_
  refine RW.yi (.bool true) rfl rfl (Yi.pv _ rfl) ?_
  refine RW.yi (.int .i64 3) rfl rfl (Yi.pv _ rfl) ?_
  refine RW.yi (.bool true) rfl rfl (Yi.pv _ rfl) ?_
  refine RW.yi (.bool true) rfl rfl (Yi.pv _ rfl) ?_
  refine RW.yi (.bool true) rfl rfl (Yi.pv _ rfl) ?_
  refine RW.yi (.int .i64 0) rfl rfl (Yi.pv _ rfl) ?_
  refine RW.yi (.bool true) rfl rfl (Yi.pv _ rfl) ?_
  refine RW.yi (.bool true) rfl rfl (Yi.pv _ rfl) ?_
  refine RW.yi (.bool true) rfl rfl (Yi.pv _ rfl) ?_
  refine RW.yi (.int .i64 3) rfl rfl (Yi.pv _ rfl) ?_
  refine RW.yi (.bool true) rfl rfl (Yi.pv _ rfl) ?_
  refine RW.yi (.bool true) rfl rfl (Yi.pv _ rfl) ?_
  refine RW.yi (.bool true) rfl rfl (Yi.pv _ rfl) ?_
  refine RW.yi (.int .i64 0) rfl rfl (Yi.pv _ rfl) ?_
  refine RW.yi (.bool true) rfl rfl (Yi.pv _ rfl) ?_
  refine RW.yi (.bool true) rfl rfl (Yi.pv _ rfl) ?_
  refine RW.yi (.bool true) rfl rfl (Yi.pv _ rfl) ?_
  refine RW.yi (.int .i64 3) rfl rfl (Yi.pv _ rfl) ?_
  refine RW.yi (.bool true) rfl rfl (Yi.pv _ rfl) ?_
  refine RW.yi (.bool true) rfl rfl (Yi.pv _ rfl) ?_
  refine RW.yi (.bool true) rfl rfl (Yi.pv _ rfl) ?_
  refine RW.yi (.pointer none) rfl rfl (Yi.pv _ rfl) ?_
  obtain ⟨r9, hr9, hm⟩ := of_bind hm
  refine RW.ca (.int .i64 0) rfl rfl (Ca.call (cs := []) [] rfl rfl Try.call22 (fun w hM => lent0) (fun w S' hM => (c_bits_Reader_Skip_2 K  r9 w S' hM hr9).mono (fun _ _ h => by obtain ⟨_, h1, h2⟩ := h; exact ⟨h1, h2⟩))) ?_
  refine RW.yi (.bool true) rfl rfl (Yi.pv _ rfl) ?_
  refine RW.yi (.bool true) rfl rfl (Yi.pv _ rfl) ?_
  refine RW.yi (.bool true) rfl rfl (Yi.pv _ rfl) ?_
  refine RW.yi (.pointer none) rfl rfl (Yi.pv _ rfl) ?_
  obtain ⟨r10, hr10, hm⟩ := of_bind hm
  refine RW.ca (.int .i64 0) rfl rfl (Ca.call (cs := []) [] rfl rfl Try.call20 (fun w hM => lent0) (fun w S' hM => (c_bits_Reader_At_2 K  r10 w S' hM hr10).mono (fun _ _ h => by obtain ⟨_, h1, h2⟩ := h; exact ⟨h1, h2⟩))) ?_
  refine RW.yi (.bool true) rfl rfl (Yi.pv _ rfl) ?_
  refine RW.yi (.bool true) rfl rfl (Yi.pv _ rfl) ?_
  refine RW.yi (.bool true) rfl rfl (Yi.pv _ rfl) ?_
  obtain ⟨r11, hr11, hm⟩ := of_bind hm
  refine RW.ca (.bool r11) rfl rfl (Ca.call (cs := []) [] rfl rfl Try.call10 (fun w hM => lent0) (fun w S' hM => (c_law04_awake K  r11 w S' hM hr11).mono (fun _ _ h => by obtain ⟨_, h1, h2⟩ := h; exact ⟨h1, h2⟩))) ?_
  refine RW.yi (.bool r11) rfl rfl (Yi.pv _ rfl) ?_
  refine RW.yi (.bool r11) rfl rfl (Yi.pv _ rfl) ?_
  refine RW.nil ?_
  refine EW.next ?_
  refine CW.ret ?_
  obtain rfl := Option.some.inj hm
  exact EW.done (rs := [.tmp 2]) rfl (.tmp (t := 2) (v := .bool r11) rfl .nil) (fun _ hM => ⟨(), rfl, (hM.pick [] rfl rfl)⟩)

end Go.Proofs.Ytpfnjmaadghhoaa
