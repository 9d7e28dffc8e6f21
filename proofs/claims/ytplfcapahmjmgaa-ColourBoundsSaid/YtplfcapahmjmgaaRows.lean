/-
  No cell of these rows narrows 'for every input' (looked for: loops, veiled, ifaces, maps, wideKeys, modest, calm, conditions, laid).
  DERIVED. THE GIVEN ROWS OF THIS SEAT. 4 by the template 'for every input the law returns true; each argument reads behind the call as it read before'; 0 by the template 'total and deterministic' (their statements: YtplfcapahmjmgaaTotals.lean).
  GIVEN WITH THE SEED: the statements are not yours to turn. If you find one false, say at which input.
  Laid BY PROGRAM, IN A SANDBOX (cutbox-rows.mjs): the forced cells as the released guide's own fill.sh prints them over the translation 9ce076df31b2402d… (all of the seat's roots in one cut). By AI agents, Wed Nov 11 2026. No macro, syntax, notation, axiom, sorry.
-/
import Derived.Test.YtplfcapahmjmgaaChecked
import GoSem.Claim
import GoSem.ClaimJoined
import GoSem.ClaimMapViews
import Derived.JoinedTies
import Derived.KernelRfl
namespace Go.Proofs.Ytplfcapahmjmgaa
/- THE CELL 'sum', in the pinned program and in every row, IS THE sha256 OF THE DUMP (.gsa) THAT YtplfcapahmjmgaaProg.lean LOADS. Nothing in Lean hashes anything: it is a label: what it is worth is what the hold of that sum in a sandbox is worth. -/
noncomputable def Try.pinned : Pinned := { name := "ytplfcapahmjmgaa", sum := "9ce076df31b2402d3a831dff65106832d65efe3f25bdb7dae85c8d8b108d715b", checked := Try.checked }
namespace Rows
def none {H : Type} : Left H := { results := [], args := [] }

/-- 'clerestorylaw11.ColourBrighter': WHATEVER THE INPUT: true; the input reads as it did. -/
def colourBrighterSpec : ChangeSpec := { name := "colourBrighter", fn := fun _ => fun
  | [d1, d2] => { results := [.lit (.bool true)], args := [d1, d2] }
  | _ => none }
def colourBrighterRow : OpenClaim := { program := "ytplfcapahmjmgaa", sum := "9ce076df31b2402d3a831dff65106832d65efe3f25bdb7dae85c8d8b108d715b", func := "clerestory/clerestorylaw11.ColourBrighter", spec := "colourBrighter", recurses := true, apart := false }
def ColourBrighterSaid : Prop := colourBrighterRow.holds Try.pinned (OpenSpec.ofChange colourBrighterSpec)

/-- ITS FALSE NEIGHBOUR: 'it returns false'. Refute it at one input. -/
def colourBrighterWrong : ChangeSpec := { name := "colourBrighter", fn := fun _ => fun
  | [d1, d2] => { results := [.lit (.bool false)], args := [d1, d2] }
  | _ => none }
def ColourBrighterWrongFalsely : Prop := colourBrighterRow.holds Try.pinned (OpenSpec.ofChange colourBrighterWrong)

/-- 'clerestorylaw11.ColourPixels': WHATEVER THE INPUT: true; the input reads as it did. -/
def colourPixelsSpec : ChangeSpec := { name := "colourPixels", fn := fun _ => fun
  | [d] => { results := [.lit (.bool true)], args := [d] }
  | _ => none }
def colourPixelsRow : OpenClaim := { program := "ytplfcapahmjmgaa", sum := "9ce076df31b2402d3a831dff65106832d65efe3f25bdb7dae85c8d8b108d715b", func := "clerestory/clerestorylaw11.ColourPixels", spec := "colourPixels", recurses := true, apart := false }
def ColourPixelsSaid : Prop := colourPixelsRow.holds Try.pinned (OpenSpec.ofChange colourPixelsSpec)

/-- ITS FALSE NEIGHBOUR: 'it returns false'. Refute it at one input. -/
def colourPixelsWrong : ChangeSpec := { name := "colourPixels", fn := fun _ => fun
  | [d] => { results := [.lit (.bool false)], args := [d] }
  | _ => none }
def ColourPixelsWrongFalsely : Prop := colourPixelsRow.holds Try.pinned (OpenSpec.ofChange colourPixelsWrong)

/-- 'clerestorylaw11.ColourGrey': WHATEVER THE INPUT: true; the input reads as it did. -/
def colourGreySpec : ChangeSpec := { name := "colourGrey", fn := fun _ => fun
  | [d] => { results := [.lit (.bool true)], args := [d] }
  | _ => none }
def colourGreyRow : OpenClaim := { program := "ytplfcapahmjmgaa", sum := "9ce076df31b2402d3a831dff65106832d65efe3f25bdb7dae85c8d8b108d715b", func := "clerestory/clerestorylaw11.ColourGrey", spec := "colourGrey", recurses := true, apart := false }
def ColourGreySaid : Prop := colourGreyRow.holds Try.pinned (OpenSpec.ofChange colourGreySpec)

/-- ITS FALSE NEIGHBOUR: 'it returns false'. Refute it at one input. -/
def colourGreyWrong : ChangeSpec := { name := "colourGrey", fn := fun _ => fun
  | [d] => { results := [.lit (.bool false)], args := [d] }
  | _ => none }
def ColourGreyWrongFalsely : Prop := colourGreyRow.holds Try.pinned (OpenSpec.ofChange colourGreyWrong)

/-- 'clerestorylaw11.ColourBounds': WHATEVER THE INPUT: true; the input reads as it did. -/
def colourBoundsSpec : ChangeSpec := { name := "colourBounds", fn := fun _ => fun
  | [d1, d2] => { results := [.lit (.bool true)], args := [d1, d2] }
  | _ => none }
def colourBoundsRow : OpenClaim := { program := "ytplfcapahmjmgaa", sum := "9ce076df31b2402d3a831dff65106832d65efe3f25bdb7dae85c8d8b108d715b", func := "clerestory/clerestorylaw11.ColourBounds", spec := "colourBounds", recurses := true, apart := false }
def ColourBoundsSaid : Prop := colourBoundsRow.holds Try.pinned (OpenSpec.ofChange colourBoundsSpec)

/-- ITS FALSE NEIGHBOUR: 'it returns false'. Refute it at one input. -/
def colourBoundsWrong : ChangeSpec := { name := "colourBounds", fn := fun _ => fun
  | [d1, d2] => { results := [.lit (.bool false)], args := [d1, d2] }
  | _ => none }
def ColourBoundsWrongFalsely : Prop := colourBoundsRow.holds Try.pinned (OpenSpec.ofChange colourBoundsWrong)

/- THE SECOND FORM. 'bulk': how many values and letters a reading holds, each counted each time it is reached (what is shared counts as often as it is met; a slice's spare places count too). A statement '..UptoSaid' is the law's where the arguments, and the package variables that the reading takes, are together of bulk at most 1048576: NARROWER than '..Said'. Prove '..Said' where nothing that the law and all that it calls make is longer than what came in: it says more and counts as full. Else prove '..UptoSaid'. A law counts once. -/
mutual
def uptoBulk {H : Type} : DataW H → Nat
  | .lit (.string bytes) => bytes.length + 1
  | .lit _ => 1
  | .nil => 1
  | .ptr d => uptoBulk d + 1
  | .slice elems spare => uptoBulkAll elems + uptoBulkAll spare + 1
  | .agg parts => uptoBulkAll parts + 1
  | .iface _ d => uptoBulk d + 1
  | .map entries => uptoBulkEntries entries + 1
  | .held _ => 1
def uptoBulkAll {H : Type} : List (DataW H) → Nat
  | [] => 0
  | d :: r => uptoBulk d + uptoBulkAll r
def uptoBulkEntries {H : Type} : List (Lit × DataW H) → Nat
  | [] => 0
  | x :: r => uptoBulkEntry x + uptoBulkEntries r
def uptoBulkEntry {H : Type} : Lit × DataW H → Nat
  | (.string bytes, d) => bytes.length + uptoBulk d + 1
  | (_, d) => uptoBulk d + 1
 end
def uptoSmall : (H : Type) → List (DataW H) → Bool := fun _ ds => decide (uptoBulkAll ds ≤ 1048576)
def OpenSpec.upto (s : _root_.Go.ChangeSpec) : _root_.Go.OpenSpec := { _root_.Go.OpenSpec.ofChange s with cond := some uptoSmall }

/-- 'clerestorylaw11.ColourBrighter', WHERE WHAT IT READS IS OF BULK AT MOST 1048576: true; the input reads as it did. -/
def colourBrighterUptoRow : OpenClaim := { program := "ytplfcapahmjmgaa", sum := "9ce076df31b2402d3a831dff65106832d65efe3f25bdb7dae85c8d8b108d715b", func := "clerestory/clerestorylaw11.ColourBrighter", spec := "colourBrighter", recurses := true, apart := false, narrowed := true }
def ColourBrighterUptoSaid : Prop := colourBrighterUptoRow.holds Try.pinned (OpenSpec.upto colourBrighterSpec)

/-- 'clerestorylaw11.ColourPixels', WHERE WHAT IT READS IS OF BULK AT MOST 1048576: true; the input reads as it did. -/
def colourPixelsUptoRow : OpenClaim := { program := "ytplfcapahmjmgaa", sum := "9ce076df31b2402d3a831dff65106832d65efe3f25bdb7dae85c8d8b108d715b", func := "clerestory/clerestorylaw11.ColourPixels", spec := "colourPixels", recurses := true, apart := false, narrowed := true }
def ColourPixelsUptoSaid : Prop := colourPixelsUptoRow.holds Try.pinned (OpenSpec.upto colourPixelsSpec)

/-- 'clerestorylaw11.ColourGrey', WHERE WHAT IT READS IS OF BULK AT MOST 1048576: true; the input reads as it did. -/
def colourGreyUptoRow : OpenClaim := { program := "ytplfcapahmjmgaa", sum := "9ce076df31b2402d3a831dff65106832d65efe3f25bdb7dae85c8d8b108d715b", func := "clerestory/clerestorylaw11.ColourGrey", spec := "colourGrey", recurses := true, apart := false, narrowed := true }
def ColourGreyUptoSaid : Prop := colourGreyUptoRow.holds Try.pinned (OpenSpec.upto colourGreySpec)

/-- 'clerestorylaw11.ColourBounds', WHERE WHAT IT READS IS OF BULK AT MOST 1048576: true; the input reads as it did. -/
def colourBoundsUptoRow : OpenClaim := { program := "ytplfcapahmjmgaa", sum := "9ce076df31b2402d3a831dff65106832d65efe3f25bdb7dae85c8d8b108d715b", func := "clerestory/clerestorylaw11.ColourBounds", spec := "colourBounds", recurses := true, apart := false, narrowed := true }
def ColourBoundsUptoSaid : Prop := colourBoundsUptoRow.holds Try.pinned (OpenSpec.upto colourBoundsSpec)

end Rows
end Go.Proofs.Ytplfcapahmjmgaa
