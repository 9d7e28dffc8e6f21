import Derived.Test.YtpfnjmaadghhoaaN8
import Derived.Test.YtpfnjmaadghhoaaProg
import Derived.Test.YtpfnjmaadghhoaaGref04Digits
import Derived.Test.YtpfnjmaadghhoaaGref04Power
set_option maxRecDepth 100000
set_option maxHeartbeats 1000000
namespace Go.Proofs.Ytpfnjmaadghhoaa
open Go Go.RowKit K

def ref04_Put (K : Nat) (a0_l : (List Int)) (a1_value : Int) (a2_count : Int) : Option (Int × (List Int)) :=
  (if a2_count < 0 then some (2, a0_l) else (if 24 < a2_count then some (2, a0_l) else (if a1_value < 0 then some (2, a0_l) else ((ref04_Power K a2_count).bind fun r12 => (if r12 ≤ a1_value then some (2, a0_l) else (if ([] : List Int).length + a0_l.length ≤ 17592186044416 then ((ref04_Digits K a1_value a2_count).bind fun r18 => (if (([] : List Int) ++ a0_l).length + r18.length ≤ 17592186044416 then some (0, ((([] : List Int) ++ a0_l) ++ r18)) else none)) else none))))))

theorem c_ref04_Put (K : Nat) (a0_l : (List Int)) (a1_value : Int) (a2_count : Int) (sa0_l : Value) (r : Int × (List Int)) (w0 : World) (S : Own) (hM0 : Mem w0 S [ro sa0_l 1 a0_l.length (ec e1 a0_l)] w0) (hm : ref04_Put K a0_l a1_value a2_count = some r) : Calls Try.prog 12 #[sa0_l, .int .i64 a1_value, .int .i64 a2_count] w0 fun e w' => ∃ u : Value, e = .returned (.tuple #[u, .int .i64 r.1]) ∧ Mem w0 S [ro u 1 r.2.length (ec e1 r.2)] w' := by
  unfold ref04_Put at hm
  refine calls_CW (n := 32) w0 S [ro sa0_l 1 a0_l.length (ec e1 a0_l)] Try.func12 rfl rfl rfl hM0 ?_
  refine CW.seq ?_
  refine CW.region ?_
  refine RW.yi (.slice none 0 0) rfl rfl (Yi.pv _ rfl) ?_
  refine RW.yi (.int .i64 0) rfl rfl (Yi.pv _ rfl) ?_
  refine RW.nil ?_
  refine EW.next ?_
  refine CW.seq ?_
  refine CW.seq ?_
  refine CW.region ?_
  refine RW.yi (.int .i64 a2_count) rfl rfl (Yi.pv _ rfl) ?_
  refine RW.yi (.bool (decide (a2_count < 0))) rfl rfl (Yi.pv _ rfl) ?_
  refine RW.yi (.bool (decide (a2_count < 0))) rfl rfl (Yi.pv _ rfl) ?_
  refine RW.fork 10 (a2_count < 0) rfl (fun h9 => ?_) (fun h9 => ?_)
  · replace hm := (if_pos h9).symm.trans hm
    refine RW.pass rfl rfl ?_
    refine RW.pass rfl rfl ?_
    refine RW.yi (.bool true) rfl rfl (Yi.pv _ rfl) ?_
    refine RW.yi (.bool true) rfl rfl (Yi.pv _ rfl) ?_
    refine RW.pass rfl rfl ?_
    refine RW.pass rfl rfl ?_
    refine RW.yi (.bool true) rfl rfl (Yi.pv _ rfl) ?_
    refine RW.yi (.bool true) rfl rfl (Yi.pv _ rfl) ?_
    refine RW.pass rfl rfl ?_
    refine RW.pass rfl rfl ?_
    refine RW.pass rfl rfl ?_
    refine RW.pass rfl rfl ?_
    refine RW.yi (.bool true) rfl rfl (Yi.pv _ rfl) ?_
    refine RW.nil ?_
    refine EW.next ?_
    refine CW.cond_true rfl ?_
    refine CW.seq ?_
    refine CW.region ?_
    refine RW.yi (sa0_l) rfl rfl (Yi.pv _ rfl) ?_
    refine RW.yi (sa0_l) rfl rfl (Yi.pv _ rfl) ?_
    refine RW.yi (.int .i64 2) rfl rfl (Yi.pv _ rfl) ?_
    refine RW.nil ?_
    refine EW.next ?_
    refine CW.ret ?_
    refine EW.thr ?_
    obtain rfl := Option.some.inj hm
    exact EW.done (rs := [.tmp 6, .tmp 7]) rfl (.tmp (t := 6) (v := sa0_l) rfl (.tmp (t := 7) (v := .int .i64 2) rfl .nil)) (fun _ hM => ⟨(sa0_l), rfl, (hM.pick [0] rfl rfl)⟩)
  · replace hm := (if_neg h9).symm.trans hm
    refine RW.yi (.int .i64 a2_count) rfl rfl (Yi.pv _ rfl) ?_
    refine RW.yi (.bool (decide (24 < a2_count))) rfl rfl (Yi.pv _ rfl) ?_
    refine RW.yi (.bool (decide (24 < a2_count))) rfl rfl (Yi.pv _ rfl) ?_
    refine RW.yi (.bool (decide (24 < a2_count))) rfl rfl (Yi.pv _ rfl) ?_
    refine RW.fork 14 (24 < a2_count) rfl (fun h10 => ?_) (fun h10 => ?_)
    · replace hm := (if_pos h10).symm.trans hm
      refine RW.pass rfl rfl ?_
      refine RW.pass rfl rfl ?_
      refine RW.yi (.bool true) rfl rfl (Yi.pv _ rfl) ?_
      refine RW.yi (.bool true) rfl rfl (Yi.pv _ rfl) ?_
      refine RW.pass rfl rfl ?_
      refine RW.pass rfl rfl ?_
      refine RW.pass rfl rfl ?_
      refine RW.pass rfl rfl ?_
      refine RW.yi (.bool true) rfl rfl (Yi.pv _ rfl) ?_
      refine RW.nil ?_
      refine EW.next ?_
      refine CW.cond_true rfl ?_
      refine CW.seq ?_
      refine CW.region ?_
      refine RW.yi (sa0_l) rfl rfl (Yi.pv _ rfl) ?_
      refine RW.yi (sa0_l) rfl rfl (Yi.pv _ rfl) ?_
      refine RW.yi (.int .i64 2) rfl rfl (Yi.pv _ rfl) ?_
      refine RW.nil ?_
      refine EW.next ?_
      refine CW.ret ?_
      refine EW.thr ?_
      obtain rfl := Option.some.inj hm
      exact EW.done (rs := [.tmp 6, .tmp 7]) rfl (.tmp (t := 6) (v := sa0_l) rfl (.tmp (t := 7) (v := .int .i64 2) rfl .nil)) (fun _ hM => ⟨(sa0_l), rfl, (hM.pick [0] rfl rfl)⟩)
    · replace hm := (if_neg h10).symm.trans hm
      refine RW.yi (.int .i64 a1_value) rfl rfl (Yi.pv _ rfl) ?_
      refine RW.yi (.bool (decide (a1_value < 0))) rfl rfl (Yi.pv _ rfl) ?_
      refine RW.yi (.bool (decide (a1_value < 0))) rfl rfl (Yi.pv _ rfl) ?_
      refine RW.yi (.bool (decide (a1_value < 0))) rfl rfl (Yi.pv _ rfl) ?_
      refine RW.fork 18 (a1_value < 0) rfl (fun h11 => ?_) (fun h11 => ?_)
      · replace hm := (if_pos h11).symm.trans hm
        refine RW.pass rfl rfl ?_
        refine RW.pass rfl rfl ?_
        refine RW.pass rfl rfl ?_
        refine RW.pass rfl rfl ?_
        refine RW.yi (.bool true) rfl rfl (Yi.pv _ rfl) ?_
        refine RW.nil ?_
        refine EW.next ?_
        refine CW.cond_true rfl ?_
        refine CW.seq ?_
        refine CW.region ?_
        refine RW.yi (sa0_l) rfl rfl (Yi.pv _ rfl) ?_
        refine RW.yi (sa0_l) rfl rfl (Yi.pv _ rfl) ?_
        refine RW.yi (.int .i64 2) rfl rfl (Yi.pv _ rfl) ?_
        refine RW.nil ?_
        refine EW.next ?_
        refine CW.ret ?_
        refine EW.thr ?_
        obtain rfl := Option.some.inj hm
        exact EW.done (rs := [.tmp 6, .tmp 7]) rfl (.tmp (t := 6) (v := sa0_l) rfl (.tmp (t := 7) (v := .int .i64 2) rfl .nil)) (fun _ hM => ⟨(sa0_l), rfl, (hM.pick [0] rfl rfl)⟩)
      · replace hm := (if_neg h11).symm.trans hm
        refine RW.yi (.int .i64 a1_value) rfl rfl (Yi.pv _ rfl) ?_
        refine RW.yi (.int .i64 a2_count) rfl rfl (Yi.pv _ rfl) ?_
        obtain ⟨r12, hr12, hm⟩ := of_bind hm
        refine RW.ca (.int .i64 r12) rfl rfl (Ca.call (cs := []) [] rfl rfl Try.call27 (fun w hM => lent0) (fun w S' hM => (c_ref04_Power K a2_count r12 w S' hM hr12).mono (fun _ _ h => by obtain ⟨_, h1, h2⟩ := h; exact ⟨h1, h2⟩))) ?_
        refine RW.yi (.bool (decide (r12 ≤ a1_value))) rfl rfl (Yi.pv _ rfl) ?_
        refine RW.yi (.bool (decide (r12 ≤ a1_value))) rfl rfl (Yi.pv _ rfl) ?_
        refine RW.nil ?_
        refine EW.next ?_
        refine CW.fork 23 (r12 ≤ a1_value) rfl (fun h13 => ?_) (fun h13 => ?_)
        · replace hm := (if_pos h13).symm.trans hm
          refine CW.cond_true rfl ?_
          refine CW.seq ?_
          refine CW.region ?_
          refine RW.yi (sa0_l) rfl rfl (Yi.pv _ rfl) ?_
          refine RW.yi (sa0_l) rfl rfl (Yi.pv _ rfl) ?_
          refine RW.yi (.int .i64 2) rfl rfl (Yi.pv _ rfl) ?_
          refine RW.nil ?_
          refine EW.next ?_
          refine CW.ret ?_
          refine EW.thr ?_
          obtain rfl := Option.some.inj hm
          exact EW.done (rs := [.tmp 6, .tmp 7]) rfl (.tmp (t := 6) (v := sa0_l) rfl (.tmp (t := 7) (v := .int .i64 2) rfl .nil)) (fun _ hM => ⟨(sa0_l), rfl, (hM.pick [0] rfl rfl)⟩)
        · replace hm := (if_neg h13).symm.trans hm
          refine CW.cond_false rfl ?_
          refine CW.skip ?_
          refine EW.next ?_
          refine CW.seq ?_
          refine CW.region ?_
          refine RW.buildS (e := 3) (sz := 1) (vs := []) ((ec e1 ([] : List Int)).toArray) rfl rfl rfl rfl rfl (by decide) (fun _ => by kernel_rfl) (fun s14 => ?_)
          refine RW.yi (sa0_l) rfl rfl (Yi.pv _ rfl) ?_
          obtain ⟨g16, hm⟩ := of_guard hm
          refine RW.app (i := 0) (e := 3) (sz := 1) (by_ := 8) (z := .int .i64 0) (m := ([] : List Int).length) (mx := a0_l.length) (m' := (([] : List Int) ++ a0_l).length) (cs := ec e1 ([] : List Int)) (news := ec e1 a0_l) (cs' := ec e1 (([] : List Int) ++ a0_l)) rfl rfl Try.underlying26 (by kernel_rfl) rfl (by decide) (by decide) rfl rfl rfl (rdF 1 rfl) (ec_one e1_is _) (by omega) (ec_append _ _ _) (by simp only [List.length_append]) (fun s17 => ?_)
          refine RW.yi (.int .i64 a1_value) rfl rfl (Yi.pv _ rfl) ?_
          refine RW.yi (.int .i64 a2_count) rfl rfl (Yi.pv _ rfl) ?_
          obtain ⟨r18, hr18, hm⟩ := of_bind hm
          refine RW.callM (cs := []) [] [.row s17 3 1 (([] : List Int) ++ a0_l).length (ec e1 (([] : List Int) ++ a0_l)), ro sa0_l 1 a0_l.length (ec e1 a0_l)] [] [0, 1] (fun (u19 : Value) => [.row u19 3 1 r18.length (ec e1 r18)]) (fun (u19 : Value) => u19) rfl rfl rfl rfl Try.call28 rfl rfl rfl (fun w hM => lent0) (.inl fun _ => rfl) (fun w S' hM => c_ref04_Digits K a1_value a2_count r18 w S' hM hr18) (fun u19 => ?_)
          obtain ⟨g21, hm⟩ := of_guard hm
          refine RW.app (i := 1) (e := 3) (sz := 1) (by_ := 8) (z := .int .i64 0) (m := (([] : List Int) ++ a0_l).length) (mx := r18.length) (m' := ((([] : List Int) ++ a0_l) ++ r18).length) (cs := ec e1 (([] : List Int) ++ a0_l)) (news := ec e1 r18) (cs' := ec e1 ((([] : List Int) ++ a0_l) ++ r18)) rfl rfl Try.underlying26 (by kernel_rfl) rfl (by decide) (by decide) rfl rfl rfl (rdW 0 rfl) (ec_one e1_is _) (by omega) (ec_append _ _ _) (by simp only [List.length_append]) (fun s22 => ?_)
          refine RW.yi (s22) rfl rfl (Yi.pv _ rfl) ?_
          refine RW.yi (.int .i64 0) rfl rfl (Yi.pv _ rfl) ?_
          refine RW.nil ?_
          refine EW.next ?_
          refine CW.ret ?_
          obtain rfl := Option.some.inj hm
          exact EW.done (rs := [.tmp 6, .tmp 7]) rfl (.tmp (t := 6) (v := s22) rfl (.tmp (t := 7) (v := .int .i64 0) rfl .nil)) (fun _ hM => ⟨(s22), rfl, ((hM.freeze 1 rfl).pick [1] rfl rfl)⟩)

end Go.Proofs.Ytpfnjmaadghhoaa
