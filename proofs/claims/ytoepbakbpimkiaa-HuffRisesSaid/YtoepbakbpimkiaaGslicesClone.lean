import Derived.Test.YtoepbakbpimkiaaN8
import Derived.Test.YtoepbakbpimkiaaProg
set_option maxRecDepth 100000
set_option maxHeartbeats 1000000
namespace Go.Proofs.Ytoepbakbpimkiaa
open Go Go.RowKit K

def slices_Clone (_ : Nat) (xs : List Int) : Option (List Int) := if xs.length ≤ 17592186044416 then some xs else none

theorem c_slices_Clone (K : Nat) (xs : List Int) (sv : Value) (r : List Int) (w0 : World) (S : Own) (hM0 : Mem w0 S [ro sv 1 xs.length (ec e1 xs)] w0) (hm : slices_Clone K xs = some r) :
    Calls Try.prog 26 #[sv] w0 fun e w' => ∃ u : Value, e = .returned (u) ∧ Mem w0 S [.row u 3 1 r.length (ec e1 r)] w' := by
  unfold slices_Clone at hm
  obtain ⟨g1, hm⟩ := of_guard hm
  obtain rfl := Option.some.inj hm
  have hrd : Rd 1 w0 sv xs.length (ec e1 xs) := (hM0.ok _ (List.mem_cons_self ..)).2.1
  have hnil : (sv = .slice none 0 0 ∧ xs = []) ∨ ∃ a n c, sv = .slice (some a) n c := by
    obtain ⟨_, _, h3⟩ := hrd
    rcases h3 with ⟨rfl | ⟨a, c, rfl⟩, h⟩ | ⟨g, off, cap, cur, t, fr, rfl, _⟩
    · exact .inl ⟨rfl, List.eq_nil_of_length_eq_zero h⟩
    · exact .inr ⟨_, _, _, rfl⟩
    · exact .inr ⟨_, _, _, rfl⟩
  refine calls_CW (n := 8) w0 S [ro sv 1 xs.length (ec e1 xs)] Try.func26 rfl rfl rfl hM0 ?_
  refine CW.seq ?_
  refine CW.region ?_
  refine RW.yi (.slice none 0 0) rfl rfl (Yi.pv _ rfl) ?_
  refine RW.nil ?_
  refine EW.next ?_
  refine CW.seq ?_
  refine CW.seq ?_
  refine CW.region ?_
  refine RW.yi (sv) rfl rfl (Yi.pv _ rfl) ?_
  rcases hnil with ⟨rfl, rfl⟩ | ⟨a, m, c, rfl⟩
  · refine RW.yi (.bool true) rfl rfl (Yi.eqNilS true rfl rfl Try.underlying23 rfl) ?_
    refine RW.nil ?_
    refine EW.next ?_
    refine CW.cond_true rfl ?_
    refine CW.seq ?_
    refine CW.region ?_
    refine RW.yi (.slice none 0 0) rfl rfl (Yi.pv _ rfl) ?_
    refine RW.nil ?_
    refine EW.next ?_
    refine CW.ret ?_
    refine EW.thr ?_
    exact EW.done (rs := [.tmp 2]) rfl (.tmp (t := 2) (v := .slice none 0 0) rfl .nil) (fun _ hM => ⟨_, rfl, ((hM.nilRow 3 1).pick [0] rfl rfl)⟩)
  · refine RW.yi (.bool false) rfl rfl (Yi.eqNilS false rfl rfl Try.underlying23 rfl) ?_
    refine RW.nil ?_
    refine EW.next ?_
    refine CW.cond_false rfl ?_
    refine CW.skip ?_
    refine EW.next ?_
    refine CW.seq ?_
    refine CW.region ?_
    refine RW.buildS (e := 3) (sz := 1) (vs := []) ((ec e1 ([] : List Int)).toArray) rfl rfl rfl rfl rfl (by decide) (fun _ => by kernel_rfl) (fun s1 => ?_)
    refine RW.yi (.slice (some a) m c) rfl rfl (Yi.pv _ rfl) ?_
    refine RW.app (i := 0) (e := 3) (sz := 1) (by_ := 8) (z := .int .i64 0) (m := 0) (mx := xs.length) (m' := xs.length) (cs := ec e1 ([] : List Int)) (news := ec e1 xs) (cs' := ec e1 xs) rfl rfl Try.underlying23 (by kernel_rfl) rfl (by decide) (by decide) rfl rfl rfl (rdF 1 rfl) (ec_one e1_is _) (by omega) rfl (by omega) (fun s2 => ?_)
    refine RW.yi (s2) rfl rfl (Yi.pv _ rfl) ?_
    refine RW.nil ?_
    refine EW.next ?_
    refine CW.ret ?_
    exact EW.done (rs := [.tmp 2]) rfl (.tmp (t := 2) (v := s2) rfl .nil) (fun _ hM => ⟨_, rfl, hM.pick [0] rfl rfl⟩)

end Go.Proofs.Ytoepbakbpimkiaa
