/- Those that are not there have nothing, and take nothing. -/
import Derived.Test.YtpfnjmaadghhoaaR
import Derived.Test.YtpfnjmaadghhoaaBE
namespace Go.Proofs.Ytpfnjmaadghhoaa
open Go.ChangeShapes Go.WideShapes Go.ChangeAt Go.RowKit K
set_option maxRecDepth 100000 in
theorem lifted_bitsNobody (os : Os) (started : os.Started) (H : Type) (enc : TypeId × Value → H) :
    ReturnsInHanded {} Try.checked os 8 .any (Rows.bitsNobodySpec.pre6 enc Try.prog Try.f8 Rows.bitsNobodyRow.domain false) (Rows.bitsNobodySpec.post enc Try.prog Try.f8 false true false false) := by
  refine returnsInHanded_of_change_sized (C := Try.checked) own started (by kernel_rfl) Try.func8
    (ChangeSpec.witness6 (enc := enc) (C := Try.checked) false ⟨#[], #[.agg (cf 2 (iv zf))], []⟩ 8 (by kernel_rfl) (by kernel_rfl) (by kernel_rfl) (by kernel_rfl)) ?_
  intro W base args ds gs before hval0 hW _ hz _
  have hval : ∀ (j : Nat) t v, Try.f8.params[j]? = some t → args[j]? = some v → Value.okWide Try.prog W .any base t v := hval0
  have hW' := hW
  obtain ⟨p, q, hA0, hV, rfl, hfz, hnd⟩ := hW
  have hA : DataW.TrodAll enc Try.prog W 0 (fun _ => true) true Try.f8.params.toList args.toList ds p := hA0
  rw [Try.params8] at hA hval
  obtain ⟨v0, vs0, d0, ds0, p0, q0, hargs, rfl, rfl, h0, r0⟩ := trodAll_cons hA
  obtain ⟨rfl, rfl, rfl⟩ := trodAll_nil r0
  obtain rfl : args = #[v0] := by cases args; simp_all
  obtain ⟨rfl, rfl⟩ := trodVars_none hV
  obtain ⟨a0, rfl, l0⟩ := ar_str (n := 2) (e := 3) Try.underlying28 (by kernel_rfl) (by kernel_rfl) Try.underlying3 (hval 0 28 v0 rfl rfl)
  have lt0 : ∀ x ∈ p0, x.block < W.heap.size := by obtain ⟨m, hm⟩ := h0; exact DataW.trod_lt m _ _ _ hm
  refine (c_law04_BitsNobody 100000 (a0 0) (a0 1) true W _ (mem_facts facts_nil) (bitsNobody_eq (a0 0) (a0 1))).mono fun e W' h => ?_
  obtain ⟨_, he, hM⟩ := h
  have bel : Below W.heap.size W W' := hM.below
  subst he
  exact ⟨_, rfl, _, _, _, [], _, [], hW', trodAll_mk1 (shut_bool Try.underlying4 _), (trodAll_cons_mk (Below.trod laidOut (by kernel_rfl) (of_decide_eq_true (by kernel_rfl)) h0 bel lt0) trodAll_mk0), rfl, bel.frame _, fun h => by cases h⟩
theorem bitsNobody_row : Rows.BitsNobodySaid :=
  OpenClaim.holds_of_wide 8 Try.f8 rfl rfl rfl rfl rfl rfl rfl ⟨rfl, rfl, rfl, rfl, rfl⟩ rfl rfl rfl rfl rfl (by kernel_rfl) Try.func8 (by kernel_rfl)
    (of_decide_eq_true (by kernel_rfl)) (by unfold Func.isWrapper; first | (rw [if_pos (by decide +kernel)]; kernel_rfl) | (rw [if_neg (by decide +kernel)]; exact ⟨rfl, rfl⟩))
    (fun os started H enc _ => lifted_bitsNobody os started H enc)
theorem bitsNobody_holds : Rows.BitsNobodySaid := bitsNobody_row
#print axioms bitsNobody_holds
end Go.Proofs.Ytpfnjmaadghhoaa
