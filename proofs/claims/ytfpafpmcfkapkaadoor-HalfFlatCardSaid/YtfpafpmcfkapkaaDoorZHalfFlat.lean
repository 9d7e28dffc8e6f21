/- The law HalfFlat of layer 10: for every input the call returns true, and each argument reads behind the call as it read before; the card ties the table to the text. -/
import Derived.Test.YtfpafpmcfkapkaaDoorR
import Derived.Test.YtfpafpmcfkapkaaDoorLH
import Derived.Test.YtfpafpmcfkapkaaDoorHD
import Derived.Test.YtfpafpmcfkapkaaDoorTie
import Derived.Test.YtfpafpmcfkapkaaDoorCards
import Derived.SevenTiedAt
namespace Go.Proofs.YtfpafpmcfkapkaaDoor
open Go.ChangeShapes Go.WideShapes Go.ChangeAt Go.RowKit K
set_option maxRecDepth 100000 in
theorem lifted_halfFlat (os : Os) (started : os.Started) (H : Type) (enc : TypeId × Value → H) :
    ReturnsInHanded {} Tryd.checked os 14 .any (fun w args => (Rows.halfFlatSpec.pre enc Tryd.prog Tryd.f14 Rows.halfFlatRow.domain false w args ∧ laidMet Tryd.prog laidL w) ∧ sizedMet enc Tryd.prog Tryd.f14 (OpenSpec.ofChange Rows.halfFlatSpec) false w args) (Rows.halfFlatSpec.post enc Tryd.prog Tryd.f14 false true false false) := by
  refine returnsInHanded_of_change_and (C := Tryd.checked) (X := fun w _ => laidMet Tryd.prog laidL w) (fun _ _ _ hh h => h.of_heap hh) own started (by kernel_rfl) Tryd.func14
    (ChangeSpec.witness_at (enc := enc) (C := Tryd.checked) (os := os) (X := fun w _ => laidMet Tryd.prog laidL w) false (laidWorld os) #[.int .i64 0, .agg (cf 64 (iv zf))] 8 rfl (by kernel_rfl) (by kernel_rfl) (by kernel_rfl) (by kernel_rfl) (by kernel_rfl) (laidWorld_met os _)) ?_
  intro W base args ds gs before hval0 hW _ _ hL _
  have hval : ∀ (j : Nat) t v, Tryd.f14.params[j]? = some t → args[j]? = some v → Value.okWide Tryd.prog W .any base t v := hval0
  have hW' := hW
  obtain ⟨p, q, hA0, hV, rfl, hfz, hnd⟩ := hW
  have hA : DataW.TrodAll enc Tryd.prog W 0 (fun _ => true) true Tryd.f14.params.toList args.toList ds p := hA0
  rw [Tryd.params14] at hA hval
  obtain ⟨v0, vs0, d0, ds0, p0, q0, hargs, rfl, rfl, h0, r0⟩ := trodAll_cons hA
  obtain ⟨v1, vs1, d1, ds1, p1, q1, rfl, rfl, rfl, h1, r1⟩ := trodAll_cons r0
  obtain ⟨rfl, rfl, rfl⟩ := trodAll_nil r1
  obtain rfl : args = #[v0, v1] := by cases args; simp_all
  obtain ⟨rfl, rfl⟩ := trodVars_none hV
  obtain ⟨a0, rfl, l0, u0⟩ := ar_i64 Tryd.underlying3 (hval 0 3 v0 rfl rfl)
  obtain ⟨a1, rfl, l1⟩ := ar_arr (n := 64) (e := 3) Tryd.underlying23 (by kernel_rfl) (by kernel_rfl) Tryd.underlying3 (hval 1 23 v1 rfl rfl)
  have lt0 : ∀ x ∈ p0, x.block < W.heap.size := by obtain ⟨m, hm⟩ := h0; exact DataW.trod_lt m _ _ _ hm
  have lt1 : ∀ x ∈ p1, x.block < W.heap.size := by obtain ⟨m, hm⟩ := h1; exact DataW.trod_lt m _ _ _ hm
  refine (c_lawHalfFlat 65 a0 a1 true W (gl_laid hL) (HalfFlat_eq a0 a1 )).mono fun e W' ⟨he, bel⟩ => ?_
  subst he
  exact ⟨_, rfl, _, _, _, [], _, [], hW', trodAll_mk1 (shut_bool Tryd.underlying4 _), (trodAll_cons_mk (Below.trod laidOut (by kernel_rfl) (of_decide_eq_true (by kernel_rfl)) h0 bel lt0) (trodAll_cons_mk (Below.trod laidOut (by kernel_rfl) (of_decide_eq_true (by kernel_rfl)) h1 bel lt1) trodAll_mk0)), rfl, bel.frame _, fun h => by cases h⟩
theorem halfFlat_row : Rows.HalfFlatSaid :=
  OpenClaim.holds_of_wide 14 Tryd.f14 rfl rfl rfl rfl rfl rfl rfl ⟨rfl, rfl, rfl, rfl, rfl⟩ rfl rfl rfl rfl rfl (by kernel_rfl) Tryd.func14 (by kernel_rfl)
    (of_decide_eq_true (by kernel_rfl)) (by unfold Func.isWrapper; first | (rw [if_pos (by decide +kernel)]; kernel_rfl) | (rw [if_neg (by decide +kernel)]; exact ⟨rfl, rfl⟩))
    (fun os started H enc _ => lifted_halfFlat os started H enc)
theorem halfFlat_holds : Rows.HalfFlatCardSaid :=
  Claim7.holds_tied_plain_at .later [] [.data] true (true, "e563d281e17dc9a27730b5981416927bf9d7c9cf5a0e83fedb4d7277f4559b6a") false
    halfFlat_row (fun _ h => by cases h) (by kernel_rfl) (fun _ h => by cases h) halfFlat_row_tie rfl ⟨rfl, rfl⟩ (by kernel_rfl) rfl
    (fun f fn hf hfn => by
      obtain rfl : f = 14 := Option.some.inj ((show Tryd.prog.funcNamed "clerestory/clerestorylaw10.HalfFlat" = some 14 by kernel_rfl).symm.trans hf) |>.symm
      obtain rfl : fn = Tryd.f14 := (Option.some.inj (Tryd.func14.symm.trans hfn)).symm
      refine ⟨by kernel_rfl, fun j t ht => ?_⟩
      rw [Tryd.params14] at ht
      have hall : ∀ t ∈ ([3, 23] : List TypeId), Tryd.prog.wantsStandIn t = false := by
        intro t ht
        simp only [List.mem_cons, List.not_mem_nil, or_false] at ht
        rcases ht with rfl | rfl <;> kernel_rfl
      exact hall t (List.mem_of_getElem? (by simpa using ht)))
    (by kernel_rfl)
#print axioms halfFlat_holds
end Go.Proofs.YtfpafpmcfkapkaaDoor
