/- In a spec's order codes grow no shorter, and of those as long as each other each is one more than the one ahead. -/
import Derived.Test.YtoepbakbpimkiaaR
import Derived.Test.YtoepbakbpimkiaaHC
namespace Go.Proofs.Ytoepbakbpimkiaa
open Go.ChangeShapes Go.WideShapes Go.ChangeAt Go.RowKit K
set_option maxRecDepth 100000 in
theorem lifted_huffRises (os : Os) (started : os.Started) (H : Type) (enc : TypeId × Value → H) :
    ReturnsInHanded {} Try.checked os 4 .any (Rows.huffRisesSpec.pre6 enc Try.prog Try.f4 Rows.huffRisesRow.domain false) (Rows.huffRisesSpec.post enc Try.prog Try.f4 false true false false) := by
  refine returnsInHanded_of_change_sized (C := Try.checked) own started (by kernel_rfl) Try.func4
    (ChangeSpec.witness6 (enc := enc) (C := Try.checked) false ⟨#[], #[.agg (cf 16 (iv zf) ++ #[.slice none 0 0])], []⟩ 8 (by kernel_rfl) (by kernel_rfl) (by kernel_rfl) (by kernel_rfl)) ?_
  intro W base args ds gs before hval0 hW _ hz _
  have hval : ∀ (j : Nat) t v, Try.f4.params[j]? = some t → args[j]? = some v → Value.okWide Try.prog W .any base t v := hval0
  have hW' := hW
  obtain ⟨p, q, hA0, hV, rfl, hfz, hnd⟩ := hW
  have hA : DataW.TrodAll enc Try.prog W 0 (fun _ => true) true Try.f4.params.toList args.toList ds p := hA0
  rw [Try.params4] at hA hval
  obtain ⟨v0, vs0, d0, ds0, p0, q0, hargs, rfl, rfl, h0, r0⟩ := trodAll_cons hA
  obtain ⟨rfl, rfl, rfl⟩ := trodAll_nil r0
  obtain rfl : args = #[v0] := by cases args; simp_all
  obtain ⟨rfl, rfl⟩ := trodVars_none hV
  obtain ⟨a0_0, v100, a0_1, rfl, l0, rd0, m0⟩ := ar_spec (n := 16) (sz := 1) (enc := e1) (B := Bnd) Try.underlying25 (by kernel_rfl) rfl rfl rfl rfl rfl rfl (by kernel_rfl) (by kernel_rfl) (ints_arr (m := 16) (n := 1) (k := 16) Try.underlying22 (by kernel_rfl) (by kernel_rfl) (by decide) (by decide) (ints_int Try.underlying3)) Try.underlying23 (by kernel_rfl) (by decide) e1_is (el_i64 Try.underlying3) (hval 0 25 v0 rfl rfl) h0
  have lt0 : ∀ x ∈ p0, x.block < W.heap.size := by obtain ⟨m, hm⟩ := h0; exact DataW.trod_lt m _ _ _ hm
  refine (c_law05_HuffRises 100000 a0_0 a0_1 v100 true W _ (mem_facts (facts_ro rd0 facts_nil)) (huffRises_eq a0_0 a0_1)).mono fun e W' h => ?_
  obtain ⟨_, he, hM⟩ := h
  have bel : Below W.heap.size W W' := hM.below
  subst he
  exact ⟨_, rfl, _, _, _, [], _, [], hW', trodAll_mk1 (shut_bool Try.underlying4 _), (trodAll_cons_mk (Below.trod laidOut (by kernel_rfl) (of_decide_eq_true (by kernel_rfl)) h0 bel lt0) trodAll_mk0), rfl, bel.frame _, fun h => by cases h⟩
theorem huffRises_row : Rows.HuffRisesSaid :=
  OpenClaim.holds_of_wide 4 Try.f4 rfl rfl rfl rfl rfl rfl rfl ⟨rfl, rfl, rfl, rfl, rfl⟩ rfl rfl rfl rfl rfl (by kernel_rfl) Try.func4 (by kernel_rfl)
    (of_decide_eq_true (by kernel_rfl)) (by unfold Func.isWrapper; first | (rw [if_pos (by decide +kernel)]; kernel_rfl) | (rw [if_neg (by decide +kernel)]; exact ⟨rfl, rfl⟩))
    (fun os started H enc _ => lifted_huffRises os started H enc)
theorem huffRises_holds : Rows.HuffRisesSaid := huffRises_row
#print axioms huffRises_holds
end Go.Proofs.Ytoepbakbpimkiaa
