/- A question that can not be answered leaves a reader where it stood. -/
import Derived.Test.YtpfnjmaadghhoaaR
import Derived.Test.YtpfnjmaadghhoaaBE
namespace Go.Proofs.Ytpfnjmaadghhoaa
open Go.ChangeShapes Go.WideShapes Go.ChangeAt Go.RowKit K
set_option maxRecDepth 100000 in
theorem lifted_bitsStands (os : Os) (started : os.Started) (H : Type) (enc : TypeId × Value → H) :
    ReturnsInHanded {} Try.checked os 6 .any (Rows.bitsStandsSpec.pre6 enc Try.prog Try.f6 Rows.bitsStandsRow.domain false) (Rows.bitsStandsSpec.post enc Try.prog Try.f6 false true false false) := by
  refine returnsInHanded_of_change_sized (C := Try.checked) own started (by kernel_rfl) Try.func6
    (ChangeSpec.witness6 (enc := enc) (C := Try.checked) false ⟨#[], #[.slice none 0 0, .slice none 0 0, .int .i64 0], []⟩ 8 (by kernel_rfl) (by kernel_rfl) (by kernel_rfl) (by kernel_rfl)) ?_
  intro W base args ds gs before hval0 hW _ hz _
  have hval : ∀ (j : Nat) t v, Try.f6.params[j]? = some t → args[j]? = some v → Value.okWide Try.prog W .any base t v := hval0
  have hW' := hW
  obtain ⟨p, q, hA0, hV, rfl, hfz, hnd⟩ := hW
  have hA : DataW.TrodAll enc Try.prog W 0 (fun _ => true) true Try.f6.params.toList args.toList ds p := hA0
  rw [Try.params6] at hA hval
  obtain ⟨v0, vs0, d0, ds0, p0, q0, hargs, rfl, rfl, h0, r0⟩ := trodAll_cons hA
  obtain ⟨v1, vs1, d1, ds1, p1, q1, rfl, rfl, rfl, h1, r1⟩ := trodAll_cons r0
  obtain ⟨v2, vs2, d2, ds2, p2, q2, rfl, rfl, rfl, h2, r2⟩ := trodAll_cons r1
  obtain ⟨rfl, rfl, rfl⟩ := trodAll_nil r2
  obtain rfl : args = #[v0, v1, v2] := by cases args; simp_all
  obtain ⟨rfl, rfl⟩ := trodVars_none hV
  obtain ⟨a0, rd0, l0, tl0⟩ := ar_sl (sz := 1) (enc := eb) (B := Byt) Try.underlying34 (by kernel_rfl) (by decide) eb_is (el_u8 Try.underlying5) (hval 0 34 v0 rfl rfl) h0
  obtain ⟨a1, rd1, l1, tl1⟩ := ar_sl (sz := 2) (enc := e2) (B := (fun p => Bnd p.1 ∧ Bnd p.2)) Try.underlying43 (by kernel_rfl) (by decide) e2_is (el_p2 (ints_struct (n := 2) Try.underlying45 (by kernel_rfl) rfl (by kernel_rfl))) (hval 1 43 v1 rfl rfl) h1
  obtain ⟨a2, rfl, l2, u2⟩ := ar_i64 Try.underlying3 (hval 2 3 v2 rfl rfl)
  have lt0 : ∀ x ∈ p0, x.block < W.heap.size := by obtain ⟨m, hm⟩ := h0; exact DataW.trod_lt m _ _ _ hm
  have lt1 : ∀ x ∈ p1, x.block < W.heap.size := by obtain ⟨m, hm⟩ := h1; exact DataW.trod_lt m _ _ _ hm
  have lt2 : ∀ x ∈ p2, x.block < W.heap.size := by obtain ⟨m, hm⟩ := h2; exact DataW.trod_lt m _ _ _ hm
  refine (c_law04_BitsStands 100000 a0 a1 a2 v0 v1 true W _ (mem_facts (facts_ro rd0 (facts_ro rd1 facts_nil))) (bitsStands_eq a0 a1 a2 l0)).mono fun e W' h => ?_
  obtain ⟨_, he, hM⟩ := h
  have bel : Below W.heap.size W W' := hM.below
  subst he
  exact ⟨_, rfl, _, _, _, [], _, [], hW', trodAll_mk1 (shut_bool Try.underlying4 _), (trodAll_cons_mk (Below.trod laidOut (by kernel_rfl) (of_decide_eq_true (by kernel_rfl)) h0 bel lt0) (trodAll_cons_mk (Below.trod laidOut (by kernel_rfl) (of_decide_eq_true (by kernel_rfl)) h1 bel lt1) (trodAll_cons_mk (Below.trod laidOut (by kernel_rfl) (of_decide_eq_true (by kernel_rfl)) h2 bel lt2) trodAll_mk0))), rfl, bel.frame _, fun h => by cases h⟩
theorem bitsStands_row : Rows.BitsStandsSaid :=
  OpenClaim.holds_of_wide 6 Try.f6 rfl rfl rfl rfl rfl rfl rfl ⟨rfl, rfl, rfl, rfl, rfl⟩ rfl rfl rfl rfl rfl (by kernel_rfl) Try.func6 (by kernel_rfl)
    (of_decide_eq_true (by kernel_rfl)) (by unfold Func.isWrapper; first | (rw [if_pos (by decide +kernel)]; kernel_rfl) | (rw [if_neg (by decide +kernel)]; exact ⟨rfl, rfl⟩))
    (fun os started H enc _ => lifted_bitsStands os started H enc)
theorem bitsStands_holds : Rows.BitsStandsSaid := bitsStands_row
#print axioms bitsStands_holds
end Go.Proofs.Ytpfnjmaadghhoaa
