/- Bits that were put are got by the same counts, and by one at a time; what is left are set bits, fewer than 8. -/
import Derived.Test.YtpfnjmaadghhoaaR
import Derived.Test.YtpfnjmaadghhoaaBE
namespace Go.Proofs.Ytpfnjmaadghhoaa
open Go.ChangeShapes Go.WideShapes Go.ChangeAt Go.RowKit K
set_option maxRecDepth 100000 in
theorem lifted_bitsBack (os : Os) (started : os.Started) (H : Type) (enc : TypeId × Value → H) :
    ReturnsInHanded {} Try.checked os 7 .any (Rows.bitsBackSpec.pre6 enc Try.prog Try.f7 Rows.bitsBackRow.domain false) (Rows.bitsBackSpec.post enc Try.prog Try.f7 false true false false) := by
  refine returnsInHanded_of_change_sized (C := Try.checked) own started (by kernel_rfl) Try.func7
    (ChangeSpec.witness6 (enc := enc) (C := Try.checked) false ⟨#[], #[.slice none 0 0], []⟩ 8 (by kernel_rfl) (by kernel_rfl) (by kernel_rfl) (by kernel_rfl)) ?_
  intro W base args ds gs before hval0 hW _ hz _
  have hval : ∀ (j : Nat) t v, Try.f7.params[j]? = some t → args[j]? = some v → Value.okWide Try.prog W .any base t v := hval0
  have hW' := hW
  obtain ⟨p, q, hA0, hV, rfl, hfz, hnd⟩ := hW
  have hA : DataW.TrodAll enc Try.prog W 0 (fun _ => true) true Try.f7.params.toList args.toList ds p := hA0
  rw [Try.params7] at hA hval
  obtain ⟨v0, vs0, d0, ds0, p0, q0, hargs, rfl, rfl, h0, r0⟩ := trodAll_cons hA
  obtain ⟨rfl, rfl, rfl⟩ := trodAll_nil r0
  obtain rfl : args = #[v0] := by cases args; simp_all
  obtain ⟨rfl, rfl⟩ := trodVars_none hV
  obtain ⟨a0, rd0, l0, tl0⟩ := ar_sl (sz := 2) (enc := e2) (B := (fun p => Bnd p.1 ∧ Bnd p.2)) Try.underlying22 (by kernel_rfl) (by decide) e2_is (el_p2 (ints_struct (n := 2) Try.underlying28 (by kernel_rfl) rfl (by kernel_rfl))) (hval 0 22 v0 rfl rfl) h0
  have lt0 : ∀ x ∈ p0, x.block < W.heap.size := by obtain ⟨m, hm⟩ := h0; exact DataW.trod_lt m _ _ _ hm
  refine (c_law04_BitsBack 100000 a0 v0 true W _ (mem_facts (facts_ro rd0 facts_nil)) (bitsBack_eq a0)).mono fun e W' h => ?_
  obtain ⟨_, he, hM⟩ := h
  have bel : Below W.heap.size W W' := hM.below
  subst he
  exact ⟨_, rfl, _, _, _, [], _, [], hW', trodAll_mk1 (shut_bool Try.underlying4 _), (trodAll_cons_mk (Below.trod laidOut (by kernel_rfl) (of_decide_eq_true (by kernel_rfl)) h0 bel lt0) trodAll_mk0), rfl, bel.frame _, fun h => by cases h⟩
theorem bitsBack_row : Rows.BitsBackSaid :=
  OpenClaim.holds_of_wide 7 Try.f7 rfl rfl rfl rfl rfl rfl rfl ⟨rfl, rfl, rfl, rfl, rfl⟩ rfl rfl rfl rfl rfl (by kernel_rfl) Try.func7 (by kernel_rfl)
    (of_decide_eq_true (by kernel_rfl)) (by unfold Func.isWrapper; first | (rw [if_pos (by decide +kernel)]; kernel_rfl) | (rw [if_neg (by decide +kernel)]; exact ⟨rfl, rfl⟩))
    (fun os started H enc _ => lifted_bitsBack os started H enc)
theorem bitsBack_holds : Rows.BitsBackSaid := bitsBack_row
#print axioms bitsBack_holds
end Go.Proofs.Ytpfnjmaadghhoaa
