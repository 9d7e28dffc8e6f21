/-
  No cell of these rows narrows 'for every input' (looked for: loops, veiled, ifaces, maps, wideKeys, modest, calm, conditions, laid).
  DERIVED. THE GIVEN ROWS OF THIS SEAT. 7 by the template 'for every input the law returns true; each argument reads behind the call as it read before'; 0 by the template 'total and deterministic' (their statements: YtpfnjmaadghhoaaTotals.lean).
  GIVEN WITH THE SEED: the statements are not yours to turn. If you find one false, say at which input.
  Laid BY PROGRAM, IN A SANDBOX (cutbox-rows.mjs): the forced cells as the released guide's own fill.sh prints them over the translation 2ee993fed40da870… (all of the seat's roots in one cut). By AI agents, Wed Nov 11 2026. No macro, syntax, notation, axiom, sorry.
-/
import Derived.Test.YtpfnjmaadghhoaaChecked
import GoSem.Claim
import GoSem.ClaimJoined
import GoSem.ClaimMapViews
import Derived.JoinedTies
import Derived.KernelRfl
namespace Go.Proofs.Ytpfnjmaadghhoaa
/- THE CELL 'sum', in the pinned program and in every row, IS THE sha256 OF THE DUMP (.gsa) THAT YtpfnjmaadghhoaaProg.lean LOADS. Nothing in Lean hashes anything: it is a label: what it is worth is what the hold of that sum in a sandbox is worth. -/
noncomputable def Try.pinned : Pinned := { name := "ytpfnjmaadghhoaa", sum := "2ee993fed40da870ea99ecd9e562be1538178fb6b4ba94d6c599bc26b3ec6ba8", checked := Try.checked }
namespace Rows
def none {H : Type} : Left H := { results := [], args := [] }

/-- 'clerestorylaw04.BitsPuts': WHATEVER THE INPUT: true; the input reads as it did. -/
def bitsPutsSpec : ChangeSpec := { name := "bitsPuts", fn := fun _ => fun
  | [d] => { results := [.lit (.bool true)], args := [d] }
  | _ => none }
def bitsPutsRow : OpenClaim := { program := "ytpfnjmaadghhoaa", sum := "2ee993fed40da870ea99ecd9e562be1538178fb6b4ba94d6c599bc26b3ec6ba8", func := "clerestory/clerestorylaw04.BitsPuts", spec := "bitsPuts", apart := false }
def BitsPutsSaid : Prop := bitsPutsRow.holds Try.pinned (OpenSpec.ofChange bitsPutsSpec)

/-- ITS FALSE NEIGHBOUR: 'it returns false'. Refute it at one input. -/
def bitsPutsWrong : ChangeSpec := { name := "bitsPuts", fn := fun _ => fun
  | [d] => { results := [.lit (.bool false)], args := [d] }
  | _ => none }
def BitsPutsWrongFalsely : Prop := bitsPutsRow.holds Try.pinned (OpenSpec.ofChange bitsPutsWrong)

/-- 'clerestorylaw04.BitsOnes': WHATEVER THE INPUT: true; the input reads as it did. -/
def bitsOnesSpec : ChangeSpec := { name := "bitsOnes", fn := fun _ => fun
  | [d] => { results := [.lit (.bool true)], args := [d] }
  | _ => none }
def bitsOnesRow : OpenClaim := { program := "ytpfnjmaadghhoaa", sum := "2ee993fed40da870ea99ecd9e562be1538178fb6b4ba94d6c599bc26b3ec6ba8", func := "clerestory/clerestorylaw04.BitsOnes", spec := "bitsOnes", apart := false }
def BitsOnesSaid : Prop := bitsOnesRow.holds Try.pinned (OpenSpec.ofChange bitsOnesSpec)

/-- ITS FALSE NEIGHBOUR: 'it returns false'. Refute it at one input. -/
def bitsOnesWrong : ChangeSpec := { name := "bitsOnes", fn := fun _ => fun
  | [d] => { results := [.lit (.bool false)], args := [d] }
  | _ => none }
def BitsOnesWrongFalsely : Prop := bitsOnesRow.holds Try.pinned (OpenSpec.ofChange bitsOnesWrong)

/-- 'clerestorylaw04.BitsMarks': WHATEVER THE INPUT: true; the input reads as it did. -/
def bitsMarksSpec : ChangeSpec := { name := "bitsMarks", fn := fun _ => fun
  | [d1, d2] => { results := [.lit (.bool true)], args := [d1, d2] }
  | _ => none }
def bitsMarksRow : OpenClaim := { program := "ytpfnjmaadghhoaa", sum := "2ee993fed40da870ea99ecd9e562be1538178fb6b4ba94d6c599bc26b3ec6ba8", func := "clerestory/clerestorylaw04.BitsMarks", spec := "bitsMarks", apart := false }
def BitsMarksSaid : Prop := bitsMarksRow.holds Try.pinned (OpenSpec.ofChange bitsMarksSpec)

/-- ITS FALSE NEIGHBOUR: 'it returns false'. Refute it at one input. -/
def bitsMarksWrong : ChangeSpec := { name := "bitsMarks", fn := fun _ => fun
  | [d1, d2] => { results := [.lit (.bool false)], args := [d1, d2] }
  | _ => none }
def BitsMarksWrongFalsely : Prop := bitsMarksRow.holds Try.pinned (OpenSpec.ofChange bitsMarksWrong)

/-- 'clerestorylaw04.BitsStands': WHATEVER THE INPUT: true; the input reads as it did. -/
def bitsStandsSpec : ChangeSpec := { name := "bitsStands", fn := fun _ => fun
  | [d1, d2, d3] => { results := [.lit (.bool true)], args := [d1, d2, d3] }
  | _ => none }
def bitsStandsRow : OpenClaim := { program := "ytpfnjmaadghhoaa", sum := "2ee993fed40da870ea99ecd9e562be1538178fb6b4ba94d6c599bc26b3ec6ba8", func := "clerestory/clerestorylaw04.BitsStands", spec := "bitsStands", apart := false }
def BitsStandsSaid : Prop := bitsStandsRow.holds Try.pinned (OpenSpec.ofChange bitsStandsSpec)

/-- ITS FALSE NEIGHBOUR: 'it returns false'. Refute it at one input. -/
def bitsStandsWrong : ChangeSpec := { name := "bitsStands", fn := fun _ => fun
  | [d1, d2, d3] => { results := [.lit (.bool false)], args := [d1, d2, d3] }
  | _ => none }
def BitsStandsWrongFalsely : Prop := bitsStandsRow.holds Try.pinned (OpenSpec.ofChange bitsStandsWrong)

/-- 'clerestorylaw04.BitsBack': WHATEVER THE INPUT: true; the input reads as it did. -/
def bitsBackSpec : ChangeSpec := { name := "bitsBack", fn := fun _ => fun
  | [d] => { results := [.lit (.bool true)], args := [d] }
  | _ => none }
def bitsBackRow : OpenClaim := { program := "ytpfnjmaadghhoaa", sum := "2ee993fed40da870ea99ecd9e562be1538178fb6b4ba94d6c599bc26b3ec6ba8", func := "clerestory/clerestorylaw04.BitsBack", spec := "bitsBack", apart := false }
def BitsBackSaid : Prop := bitsBackRow.holds Try.pinned (OpenSpec.ofChange bitsBackSpec)

/-- ITS FALSE NEIGHBOUR: 'it returns false'. Refute it at one input. -/
def bitsBackWrong : ChangeSpec := { name := "bitsBack", fn := fun _ => fun
  | [d] => { results := [.lit (.bool false)], args := [d] }
  | _ => none }
def BitsBackWrongFalsely : Prop := bitsBackRow.holds Try.pinned (OpenSpec.ofChange bitsBackWrong)

/-- 'clerestorylaw04.BitsNobody': WHATEVER THE INPUT: true; the input reads as it did. -/
def bitsNobodySpec : ChangeSpec := { name := "bitsNobody", fn := fun _ => fun
  | [d] => { results := [.lit (.bool true)], args := [d] }
  | _ => none }
def bitsNobodyRow : OpenClaim := { program := "ytpfnjmaadghhoaa", sum := "2ee993fed40da870ea99ecd9e562be1538178fb6b4ba94d6c599bc26b3ec6ba8", func := "clerestory/clerestorylaw04.BitsNobody", spec := "bitsNobody", apart := false }
def BitsNobodySaid : Prop := bitsNobodyRow.holds Try.pinned (OpenSpec.ofChange bitsNobodySpec)

/-- ITS FALSE NEIGHBOUR: 'it returns false'. Refute it at one input. -/
def bitsNobodyWrong : ChangeSpec := { name := "bitsNobody", fn := fun _ => fun
  | [d] => { results := [.lit (.bool false)], args := [d] }
  | _ => none }
def BitsNobodyWrongFalsely : Prop := bitsNobodyRow.holds Try.pinned (OpenSpec.ofChange bitsNobodyWrong)

/-- 'clerestorylaw04.BitsReads': WHATEVER THE INPUT: true; the input reads as it did. -/
def bitsReadsSpec : ChangeSpec := { name := "bitsReads", fn := fun _ => fun
  | [d1, d2] => { results := [.lit (.bool true)], args := [d1, d2] }
  | _ => none }
def bitsReadsRow : OpenClaim := { program := "ytpfnjmaadghhoaa", sum := "2ee993fed40da870ea99ecd9e562be1538178fb6b4ba94d6c599bc26b3ec6ba8", func := "clerestory/clerestorylaw04.BitsReads", spec := "bitsReads", apart := false }
def BitsReadsSaid : Prop := bitsReadsRow.holds Try.pinned (OpenSpec.ofChange bitsReadsSpec)

/-- ITS FALSE NEIGHBOUR: 'it returns false'. Refute it at one input. -/
def bitsReadsWrong : ChangeSpec := { name := "bitsReads", fn := fun _ => fun
  | [d1, d2] => { results := [.lit (.bool false)], args := [d1, d2] }
  | _ => none }
def BitsReadsWrongFalsely : Prop := bitsReadsRow.holds Try.pinned (OpenSpec.ofChange bitsReadsWrong)

/- THE SECOND FORM. 'bulk': how many values and letters a reading holds, each counted each time it is reached (what is shared counts as often as it is met; a slice's spare places count too). A statement '..UptoSaid' is the law's where the arguments, and the package variables that the reading takes, are together of bulk at most 1048576: NARROWER than '..Said'. Prove '..Said' where nothing that the law and all that it calls make is longer than what came in: it says more and counts as full. Else prove '..UptoSaid'. A law counts once. -/
mutual
def uptoBulk {H : Type} : DataW H → Nat
  | .lit (.string bytes) => bytes.length + 1
  | .lit _ => 1
  | .nil => 1
  | .ptr d => uptoBulk d + 1
  | .slice elems spare => uptoBulkAll elems + uptoBulkAll spare + 1
  | .agg parts => uptoBulkAll parts + 1
  | .iface _ d => uptoBulk d + 1
  | .map entries => uptoBulkEntries entries + 1
  | .held _ => 1
def uptoBulkAll {H : Type} : List (DataW H) → Nat
  | [] => 0
  | d :: r => uptoBulk d + uptoBulkAll r
def uptoBulkEntries {H : Type} : List (Lit × DataW H) → Nat
  | [] => 0
  | x :: r => uptoBulkEntry x + uptoBulkEntries r
def uptoBulkEntry {H : Type} : Lit × DataW H → Nat
  | (.string bytes, d) => bytes.length + uptoBulk d + 1
  | (_, d) => uptoBulk d + 1
 end
def uptoSmall : (H : Type) → List (DataW H) → Bool := fun _ ds => decide (uptoBulkAll ds ≤ 1048576)
def OpenSpec.upto (s : _root_.Go.ChangeSpec) : _root_.Go.OpenSpec := { _root_.Go.OpenSpec.ofChange s with cond := some uptoSmall }

/-- 'clerestorylaw04.BitsPuts', WHERE WHAT IT READS IS OF BULK AT MOST 1048576: true; the input reads as it did. -/
def bitsPutsUptoRow : OpenClaim := { program := "ytpfnjmaadghhoaa", sum := "2ee993fed40da870ea99ecd9e562be1538178fb6b4ba94d6c599bc26b3ec6ba8", func := "clerestory/clerestorylaw04.BitsPuts", spec := "bitsPuts", apart := false, narrowed := true }
def BitsPutsUptoSaid : Prop := bitsPutsUptoRow.holds Try.pinned (OpenSpec.upto bitsPutsSpec)

/-- 'clerestorylaw04.BitsOnes', WHERE WHAT IT READS IS OF BULK AT MOST 1048576: true; the input reads as it did. -/
def bitsOnesUptoRow : OpenClaim := { program := "ytpfnjmaadghhoaa", sum := "2ee993fed40da870ea99ecd9e562be1538178fb6b4ba94d6c599bc26b3ec6ba8", func := "clerestory/clerestorylaw04.BitsOnes", spec := "bitsOnes", apart := false, narrowed := true }
def BitsOnesUptoSaid : Prop := bitsOnesUptoRow.holds Try.pinned (OpenSpec.upto bitsOnesSpec)

/-- 'clerestorylaw04.BitsMarks', WHERE WHAT IT READS IS OF BULK AT MOST 1048576: true; the input reads as it did. -/
def bitsMarksUptoRow : OpenClaim := { program := "ytpfnjmaadghhoaa", sum := "2ee993fed40da870ea99ecd9e562be1538178fb6b4ba94d6c599bc26b3ec6ba8", func := "clerestory/clerestorylaw04.BitsMarks", spec := "bitsMarks", apart := false, narrowed := true }
def BitsMarksUptoSaid : Prop := bitsMarksUptoRow.holds Try.pinned (OpenSpec.upto bitsMarksSpec)

/-- 'clerestorylaw04.BitsStands', WHERE WHAT IT READS IS OF BULK AT MOST 1048576: true; the input reads as it did. -/
def bitsStandsUptoRow : OpenClaim := { program := "ytpfnjmaadghhoaa", sum := "2ee993fed40da870ea99ecd9e562be1538178fb6b4ba94d6c599bc26b3ec6ba8", func := "clerestory/clerestorylaw04.BitsStands", spec := "bitsStands", apart := false, narrowed := true }
def BitsStandsUptoSaid : Prop := bitsStandsUptoRow.holds Try.pinned (OpenSpec.upto bitsStandsSpec)

/-- 'clerestorylaw04.BitsBack', WHERE WHAT IT READS IS OF BULK AT MOST 1048576: true; the input reads as it did. -/
def bitsBackUptoRow : OpenClaim := { program := "ytpfnjmaadghhoaa", sum := "2ee993fed40da870ea99ecd9e562be1538178fb6b4ba94d6c599bc26b3ec6ba8", func := "clerestory/clerestorylaw04.BitsBack", spec := "bitsBack", apart := false, narrowed := true }
def BitsBackUptoSaid : Prop := bitsBackUptoRow.holds Try.pinned (OpenSpec.upto bitsBackSpec)

/-- 'clerestorylaw04.BitsNobody', WHERE WHAT IT READS IS OF BULK AT MOST 1048576: true; the input reads as it did. -/
def bitsNobodyUptoRow : OpenClaim := { program := "ytpfnjmaadghhoaa", sum := "2ee993fed40da870ea99ecd9e562be1538178fb6b4ba94d6c599bc26b3ec6ba8", func := "clerestory/clerestorylaw04.BitsNobody", spec := "bitsNobody", apart := false, narrowed := true }
def BitsNobodyUptoSaid : Prop := bitsNobodyUptoRow.holds Try.pinned (OpenSpec.upto bitsNobodySpec)

/-- 'clerestorylaw04.BitsReads', WHERE WHAT IT READS IS OF BULK AT MOST 1048576: true; the input reads as it did. -/
def bitsReadsUptoRow : OpenClaim := { program := "ytpfnjmaadghhoaa", sum := "2ee993fed40da870ea99ecd9e562be1538178fb6b4ba94d6c599bc26b3ec6ba8", func := "clerestory/clerestorylaw04.BitsReads", spec := "bitsReads", apart := false, narrowed := true }
def BitsReadsUptoSaid : Prop := bitsReadsUptoRow.holds Try.pinned (OpenSpec.upto bitsReadsSpec)

end Rows
end Go.Proofs.Ytpfnjmaadghhoaa
