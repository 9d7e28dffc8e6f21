/-
  No cell of these rows narrows 'for every input' (looked for: loops, veiled, ifaces, maps, wideKeys, modest, calm, conditions, laid).
  DERIVED. THE GIVEN ROWS OF THIS SEAT. 7 by the template 'for every input the law returns true; each argument reads behind the call as it read before'; 0 by the template 'total and deterministic' (their statements: YtoepbakbpimkiaaTotals.lean).
  GIVEN WITH THE SEED: the statements are not yours to turn. If you find one false, say at which input.
  Laid BY PROGRAM, IN A SANDBOX (cutbox-rows.mjs): the forced cells as the released guide's own fill.sh prints them over the translation f56cbd990aebacf0… (all of the seat's roots in one cut). By AI agents, Wed Nov 11 2026. No macro, syntax, notation, axiom, sorry.
-/
import Derived.Test.YtoepbakbpimkiaaChecked
import GoSem.Claim
import GoSem.ClaimJoined
import GoSem.ClaimMapViews
import Derived.JoinedTies
import Derived.KernelRfl
namespace Go.Proofs.Ytoepbakbpimkiaa
/- THE CELL 'sum', in the pinned program and in every row, IS THE sha256 OF THE DUMP (.gsa) THAT YtoepbakbpimkiaaProg.lean LOADS. Nothing in Lean hashes anything: it is a label: what it is worth is what the hold of that sum in a sandbox is worth. -/
noncomputable def Try.pinned : Pinned := { name := "ytoepbakbpimkiaa", sum := "f56cbd990aebacf0624961c769f4ba4f3ff77044b9f7a603430bf103199dfae6", checked := Try.checked }
namespace Rows
def none {H : Type} : Left H := { results := [], args := [] }

/-- 'clerestorylaw05.HuffPrefix': WHATEVER THE INPUT: true; the input reads as it did. -/
def huffPrefixSpec : ChangeSpec := { name := "huffPrefix", fn := fun _ => fun
  | [d] => { results := [.lit (.bool true)], args := [d] }
  | _ => none }
def huffPrefixRow : OpenClaim := { program := "ytoepbakbpimkiaa", sum := "f56cbd990aebacf0624961c769f4ba4f3ff77044b9f7a603430bf103199dfae6", func := "clerestory/clerestorylaw05.HuffPrefix", spec := "huffPrefix", plainKeys := false, apart := false }
def HuffPrefixSaid : Prop := huffPrefixRow.holds Try.pinned (OpenSpec.ofChange huffPrefixSpec)

/-- ITS FALSE NEIGHBOUR: 'it returns false'. Refute it at one input. -/
def huffPrefixWrong : ChangeSpec := { name := "huffPrefix", fn := fun _ => fun
  | [d] => { results := [.lit (.bool false)], args := [d] }
  | _ => none }
def HuffPrefixWrongFalsely : Prop := huffPrefixRow.holds Try.pinned (OpenSpec.ofChange huffPrefixWrong)

/-- 'clerestorylaw05.HuffRises': WHATEVER THE INPUT: true; the input reads as it did. -/
def huffRisesSpec : ChangeSpec := { name := "huffRises", fn := fun _ => fun
  | [d] => { results := [.lit (.bool true)], args := [d] }
  | _ => none }
def huffRisesRow : OpenClaim := { program := "ytoepbakbpimkiaa", sum := "f56cbd990aebacf0624961c769f4ba4f3ff77044b9f7a603430bf103199dfae6", func := "clerestory/clerestorylaw05.HuffRises", spec := "huffRises", plainKeys := false, apart := false }
def HuffRisesSaid : Prop := huffRisesRow.holds Try.pinned (OpenSpec.ofChange huffRisesSpec)

/-- ITS FALSE NEIGHBOUR: 'it returns false'. Refute it at one input. -/
def huffRisesWrong : ChangeSpec := { name := "huffRises", fn := fun _ => fun
  | [d] => { results := [.lit (.bool false)], args := [d] }
  | _ => none }
def HuffRisesWrongFalsely : Prop := huffRisesRow.holds Try.pinned (OpenSpec.ofChange huffRisesWrong)

/-- 'clerestorylaw05.HuffCodes': WHATEVER THE INPUT: true; the input reads as it did. -/
def huffCodesSpec : ChangeSpec := { name := "huffCodes", fn := fun _ => fun
  | [d1, d2] => { results := [.lit (.bool true)], args := [d1, d2] }
  | _ => none }
def huffCodesRow : OpenClaim := { program := "ytoepbakbpimkiaa", sum := "f56cbd990aebacf0624961c769f4ba4f3ff77044b9f7a603430bf103199dfae6", func := "clerestory/clerestorylaw05.HuffCodes", spec := "huffCodes", plainKeys := false, apart := false }
def HuffCodesSaid : Prop := huffCodesRow.holds Try.pinned (OpenSpec.ofChange huffCodesSpec)

/-- ITS FALSE NEIGHBOUR: 'it returns false'. Refute it at one input. -/
def huffCodesWrong : ChangeSpec := { name := "huffCodes", fn := fun _ => fun
  | [d1, d2] => { results := [.lit (.bool false)], args := [d1, d2] }
  | _ => none }
def HuffCodesWrongFalsely : Prop := huffCodesRow.holds Try.pinned (OpenSpec.ofChange huffCodesWrong)

/-- 'clerestorylaw05.HuffAgain': WHATEVER THE INPUT: true; the input reads as it did. -/
def huffAgainSpec : ChangeSpec := { name := "huffAgain", fn := fun _ => fun
  | [d1, d2] => { results := [.lit (.bool true)], args := [d1, d2] }
  | _ => none }
def huffAgainRow : OpenClaim := { program := "ytoepbakbpimkiaa", sum := "f56cbd990aebacf0624961c769f4ba4f3ff77044b9f7a603430bf103199dfae6", func := "clerestory/clerestorylaw05.HuffAgain", spec := "huffAgain", plainKeys := false, apart := false }
def HuffAgainSaid : Prop := huffAgainRow.holds Try.pinned (OpenSpec.ofChange huffAgainSpec)

/-- ITS FALSE NEIGHBOUR: 'it returns false'. Refute it at one input. -/
def huffAgainWrong : ChangeSpec := { name := "huffAgain", fn := fun _ => fun
  | [d1, d2] => { results := [.lit (.bool false)], args := [d1, d2] }
  | _ => none }
def HuffAgainWrongFalsely : Prop := huffAgainRow.holds Try.pinned (OpenSpec.ofChange huffAgainWrong)

/-- 'clerestorylaw05.HuffGets': WHATEVER THE INPUT: true; the input reads as it did. -/
def huffGetsSpec : ChangeSpec := { name := "huffGets", fn := fun _ => fun
  | [d1, d2] => { results := [.lit (.bool true)], args := [d1, d2] }
  | _ => none }
def huffGetsRow : OpenClaim := { program := "ytoepbakbpimkiaa", sum := "f56cbd990aebacf0624961c769f4ba4f3ff77044b9f7a603430bf103199dfae6", func := "clerestory/clerestorylaw05.HuffGets", spec := "huffGets", plainKeys := false, apart := false }
def HuffGetsSaid : Prop := huffGetsRow.holds Try.pinned (OpenSpec.ofChange huffGetsSpec)

/-- ITS FALSE NEIGHBOUR: 'it returns false'. Refute it at one input. -/
def huffGetsWrong : ChangeSpec := { name := "huffGets", fn := fun _ => fun
  | [d1, d2] => { results := [.lit (.bool false)], args := [d1, d2] }
  | _ => none }
def HuffGetsWrongFalsely : Prop := huffGetsRow.holds Try.pinned (OpenSpec.ofChange huffGetsWrong)

/-- 'clerestorylaw05.HuffNobody': WHATEVER THE INPUT: true; the input reads as it did. -/
def huffNobodySpec : ChangeSpec := { name := "huffNobody", fn := fun _ => fun
  | [d1, d2] => { results := [.lit (.bool true)], args := [d1, d2] }
  | _ => none }
def huffNobodyRow : OpenClaim := { program := "ytoepbakbpimkiaa", sum := "f56cbd990aebacf0624961c769f4ba4f3ff77044b9f7a603430bf103199dfae6", func := "clerestory/clerestorylaw05.HuffNobody", spec := "huffNobody", plainKeys := false, apart := false }
def HuffNobodySaid : Prop := huffNobodyRow.holds Try.pinned (OpenSpec.ofChange huffNobodySpec)

/-- ITS FALSE NEIGHBOUR: 'it returns false'. Refute it at one input. -/
def huffNobodyWrong : ChangeSpec := { name := "huffNobody", fn := fun _ => fun
  | [d1, d2] => { results := [.lit (.bool false)], args := [d1, d2] }
  | _ => none }
def HuffNobodyWrongFalsely : Prop := huffNobodyRow.holds Try.pinned (OpenSpec.ofChange huffNobodyWrong)

/-- 'clerestorylaw05.HuffBack': WHATEVER THE INPUT: true; the input reads as it did. -/
def huffBackSpec : ChangeSpec := { name := "huffBack", fn := fun _ => fun
  | [d1, d2] => { results := [.lit (.bool true)], args := [d1, d2] }
  | _ => none }
def huffBackRow : OpenClaim := { program := "ytoepbakbpimkiaa", sum := "f56cbd990aebacf0624961c769f4ba4f3ff77044b9f7a603430bf103199dfae6", func := "clerestory/clerestorylaw05.HuffBack", spec := "huffBack", plainKeys := false, apart := false }
def HuffBackSaid : Prop := huffBackRow.holds Try.pinned (OpenSpec.ofChange huffBackSpec)

/-- ITS FALSE NEIGHBOUR: 'it returns false'. Refute it at one input. -/
def huffBackWrong : ChangeSpec := { name := "huffBack", fn := fun _ => fun
  | [d1, d2] => { results := [.lit (.bool false)], args := [d1, d2] }
  | _ => none }
def HuffBackWrongFalsely : Prop := huffBackRow.holds Try.pinned (OpenSpec.ofChange huffBackWrong)

/- THE SECOND FORM. 'bulk': how many values and letters a reading holds, each counted each time it is reached (what is shared counts as often as it is met; a slice's spare places count too). A statement '..UptoSaid' is the law's where the arguments, and the package variables that the reading takes, are together of bulk at most 1048576: NARROWER than '..Said'. Prove '..Said' where nothing that the law and all that it calls make is longer than what came in: it says more and counts as full. Else prove '..UptoSaid'. A law counts once. -/
mutual
def uptoBulk {H : Type} : DataW H → Nat
  | .lit (.string bytes) => bytes.length + 1
  | .lit _ => 1
  | .nil => 1
  | .ptr d => uptoBulk d + 1
  | .slice elems spare => uptoBulkAll elems + uptoBulkAll spare + 1
  | .agg parts => uptoBulkAll parts + 1
  | .iface _ d => uptoBulk d + 1
  | .map entries => uptoBulkEntries entries + 1
  | .held _ => 1
def uptoBulkAll {H : Type} : List (DataW H) → Nat
  | [] => 0
  | d :: r => uptoBulk d + uptoBulkAll r
def uptoBulkEntries {H : Type} : List (Lit × DataW H) → Nat
  | [] => 0
  | x :: r => uptoBulkEntry x + uptoBulkEntries r
def uptoBulkEntry {H : Type} : Lit × DataW H → Nat
  | (.string bytes, d) => bytes.length + uptoBulk d + 1
  | (_, d) => uptoBulk d + 1
 end
def uptoSmall : (H : Type) → List (DataW H) → Bool := fun _ ds => decide (uptoBulkAll ds ≤ 1048576)
def OpenSpec.upto (s : _root_.Go.ChangeSpec) : _root_.Go.OpenSpec := { _root_.Go.OpenSpec.ofChange s with cond := some uptoSmall }

/-- 'clerestorylaw05.HuffPrefix', WHERE WHAT IT READS IS OF BULK AT MOST 1048576: true; the input reads as it did. -/
def huffPrefixUptoRow : OpenClaim := { program := "ytoepbakbpimkiaa", sum := "f56cbd990aebacf0624961c769f4ba4f3ff77044b9f7a603430bf103199dfae6", func := "clerestory/clerestorylaw05.HuffPrefix", spec := "huffPrefix", plainKeys := false, apart := false, narrowed := true }
def HuffPrefixUptoSaid : Prop := huffPrefixUptoRow.holds Try.pinned (OpenSpec.upto huffPrefixSpec)

/-- 'clerestorylaw05.HuffRises', WHERE WHAT IT READS IS OF BULK AT MOST 1048576: true; the input reads as it did. -/
def huffRisesUptoRow : OpenClaim := { program := "ytoepbakbpimkiaa", sum := "f56cbd990aebacf0624961c769f4ba4f3ff77044b9f7a603430bf103199dfae6", func := "clerestory/clerestorylaw05.HuffRises", spec := "huffRises", plainKeys := false, apart := false, narrowed := true }
def HuffRisesUptoSaid : Prop := huffRisesUptoRow.holds Try.pinned (OpenSpec.upto huffRisesSpec)

/-- 'clerestorylaw05.HuffCodes', WHERE WHAT IT READS IS OF BULK AT MOST 1048576: true; the input reads as it did. -/
def huffCodesUptoRow : OpenClaim := { program := "ytoepbakbpimkiaa", sum := "f56cbd990aebacf0624961c769f4ba4f3ff77044b9f7a603430bf103199dfae6", func := "clerestory/clerestorylaw05.HuffCodes", spec := "huffCodes", plainKeys := false, apart := false, narrowed := true }
def HuffCodesUptoSaid : Prop := huffCodesUptoRow.holds Try.pinned (OpenSpec.upto huffCodesSpec)

/-- 'clerestorylaw05.HuffAgain', WHERE WHAT IT READS IS OF BULK AT MOST 1048576: true; the input reads as it did. -/
def huffAgainUptoRow : OpenClaim := { program := "ytoepbakbpimkiaa", sum := "f56cbd990aebacf0624961c769f4ba4f3ff77044b9f7a603430bf103199dfae6", func := "clerestory/clerestorylaw05.HuffAgain", spec := "huffAgain", plainKeys := false, apart := false, narrowed := true }
def HuffAgainUptoSaid : Prop := huffAgainUptoRow.holds Try.pinned (OpenSpec.upto huffAgainSpec)

/-- 'clerestorylaw05.HuffGets', WHERE WHAT IT READS IS OF BULK AT MOST 1048576: true; the input reads as it did. -/
def huffGetsUptoRow : OpenClaim := { program := "ytoepbakbpimkiaa", sum := "f56cbd990aebacf0624961c769f4ba4f3ff77044b9f7a603430bf103199dfae6", func := "clerestory/clerestorylaw05.HuffGets", spec := "huffGets", plainKeys := false, apart := false, narrowed := true }
def HuffGetsUptoSaid : Prop := huffGetsUptoRow.holds Try.pinned (OpenSpec.upto huffGetsSpec)

/-- 'clerestorylaw05.HuffNobody', WHERE WHAT IT READS IS OF BULK AT MOST 1048576: true; the input reads as it did. -/
def huffNobodyUptoRow : OpenClaim := { program := "ytoepbakbpimkiaa", sum := "f56cbd990aebacf0624961c769f4ba4f3ff77044b9f7a603430bf103199dfae6", func := "clerestory/clerestorylaw05.HuffNobody", spec := "huffNobody", plainKeys := false, apart := false, narrowed := true }
def HuffNobodyUptoSaid : Prop := huffNobodyUptoRow.holds Try.pinned (OpenSpec.upto huffNobodySpec)

/-- 'clerestorylaw05.HuffBack', WHERE WHAT IT READS IS OF BULK AT MOST 1048576: true; the input reads as it did. -/
def huffBackUptoRow : OpenClaim := { program := "ytoepbakbpimkiaa", sum := "f56cbd990aebacf0624961c769f4ba4f3ff77044b9f7a603430bf103199dfae6", func := "clerestory/clerestorylaw05.HuffBack", spec := "huffBack", plainKeys := false, apart := false, narrowed := true }
def HuffBackUptoSaid : Prop := huffBackUptoRow.holds Try.pinned (OpenSpec.upto huffBackSpec)

end Rows
end Go.Proofs.Ytoepbakbpimkiaa
