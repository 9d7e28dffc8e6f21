/- In scan bytes there is no marker; one that is put behind them is found when the bits are over. -/
import Derived.Test.YtpfnjmaadghhoaaR
import Derived.Test.YtpfnjmaadghhoaaBE
namespace Go.Proofs.Ytpfnjmaadghhoaa
open Go.ChangeShapes Go.WideShapes Go.ChangeAt Go.RowKit K
set_option maxRecDepth 100000 in
theorem lifted_bitsMarks (os : Os) (started : os.Started) (H : Type) (enc : TypeId × Value → H) :
    ReturnsInHanded {} Try.checked os 5 .any (Rows.bitsMarksSpec.pre6 enc Try.prog Try.f5 Rows.bitsMarksRow.domain false) (Rows.bitsMarksSpec.post enc Try.prog Try.f5 false true false false) := by
  refine returnsInHanded_of_change_sized (C := Try.checked) own started (by kernel_rfl) Try.func5
    (ChangeSpec.witness6 (enc := enc) (C := Try.checked) false ⟨#[], #[.slice none 0 0, .int .u8 0], []⟩ 8 (by kernel_rfl) (by kernel_rfl) (by kernel_rfl) (by kernel_rfl)) ?_
  intro W base args ds gs before hval0 hW _ hz _
  have hval : ∀ (j : Nat) t v, Try.f5.params[j]? = some t → args[j]? = some v → Value.okWide Try.prog W .any base t v := hval0
  have hW' := hW
  obtain ⟨p, q, hA0, hV, rfl, hfz, hnd⟩ := hW
  have hA : DataW.TrodAll enc Try.prog W 0 (fun _ => true) true Try.f5.params.toList args.toList ds p := hA0
  rw [Try.params5] at hA hval
  obtain ⟨v0, vs0, d0, ds0, p0, q0, hargs, rfl, rfl, h0, r0⟩ := trodAll_cons hA
  obtain ⟨v1, vs1, d1, ds1, p1, q1, rfl, rfl, rfl, h1, r1⟩ := trodAll_cons r0
  obtain ⟨rfl, rfl, rfl⟩ := trodAll_nil r1
  obtain rfl : args = #[v0, v1] := by cases args; simp_all
  obtain ⟨rfl, rfl⟩ := trodVars_none hV
  obtain ⟨a0, rd0, l0, tl0⟩ := ar_sl (sz := 2) (enc := e2) (B := (fun p => Bnd p.1 ∧ Bnd p.2)) Try.underlying22 (by kernel_rfl) (by decide) e2_is (el_p2 (ints_struct (n := 2) Try.underlying28 (by kernel_rfl) rfl (by kernel_rfl))) (hval 0 22 v0 rfl rfl) h0
  obtain ⟨a1, rfl, l1, u1⟩ := ar_int (k := .u8) Try.underlying5 (hval 1 5 v1 rfl rfl)
  have lt0 : ∀ x ∈ p0, x.block < W.heap.size := by obtain ⟨m, hm⟩ := h0; exact DataW.trod_lt m _ _ _ hm
  have lt1 : ∀ x ∈ p1, x.block < W.heap.size := by obtain ⟨m, hm⟩ := h1; exact DataW.trod_lt m _ _ _ hm
  refine (c_law04_BitsMarks 100000 a0 a1 v0 true W _ (mem_facts (facts_ro rd0 facts_nil)) (bitsMarks_eq a0 a1 ⟨l1, u1⟩)).mono fun e W' h => ?_
  obtain ⟨_, he, hM⟩ := h
  have bel : Below W.heap.size W W' := hM.below
  subst he
  exact ⟨_, rfl, _, _, _, [], _, [], hW', trodAll_mk1 (shut_bool Try.underlying4 _), (trodAll_cons_mk (Below.trod laidOut (by kernel_rfl) (of_decide_eq_true (by kernel_rfl)) h0 bel lt0) (trodAll_cons_mk (Below.trod laidOut (by kernel_rfl) (of_decide_eq_true (by kernel_rfl)) h1 bel lt1) trodAll_mk0)), rfl, bel.frame _, fun h => by cases h⟩
theorem bitsMarks_row : Rows.BitsMarksSaid :=
  OpenClaim.holds_of_wide 5 Try.f5 rfl rfl rfl rfl rfl rfl rfl ⟨rfl, rfl, rfl, rfl, rfl⟩ rfl rfl rfl rfl rfl (by kernel_rfl) Try.func5 (by kernel_rfl)
    (of_decide_eq_true (by kernel_rfl)) (by unfold Func.isWrapper; first | (rw [if_pos (by decide +kernel)]; kernel_rfl) | (rw [if_neg (by decide +kernel)]; exact ⟨rfl, rfl⟩))
    (fun os started H enc _ => lifted_bitsMarks os started H enc)
theorem bitsMarks_holds : Rows.BitsMarksSaid := bitsMarks_row
#print axioms bitsMarks_holds
end Go.Proofs.Ytpfnjmaadghhoaa
