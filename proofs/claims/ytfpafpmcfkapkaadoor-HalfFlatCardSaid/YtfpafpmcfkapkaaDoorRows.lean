/-
  NARROWER THAN 'FOR EVERY INPUT', by the rows' own cells (each row's printed sentence says how): DctForward: laid · DctFlat: laid · HalfMerges: laid · HalfNoughts: laid · HalfTurned: laid · HalfSigns: laid · DctInverse: laid · DctNear: laid · DctTurns: laid · DctTurned: laid · HalfTold: laid · HalfFlat: laid.
  DERIVED. THE GIVEN ROWS OF THIS SEAT. 12 by the template 'for every input the law returns true; each argument reads behind the call as it read before'; 0 by the template 'total and deterministic' (their statements: YtfpafpmcfkapkaaDoorTotals.lean).
  GIVEN WITH THE SEED: the statements are not yours to turn. If you find one false, say at which input.
  Laid BY PROGRAM, IN A SANDBOX (cutbox-rows.mjs): the forced cells as the released guide's own fill.sh prints them over the translation cb6b018429e1ef60… (all of the seat's roots in one cut). By AI agents, Wed Nov 11 2026. No macro, syntax, notation, axiom, sorry.
-/
import Derived.Test.YtfpafpmcfkapkaaDoorChecked
import GoSem.Claim
import GoSem.ClaimJoined
import GoSem.ClaimMapViews
import Derived.JoinedTies
import Derived.KernelRfl
namespace Go.Proofs.YtfpafpmcfkapkaaDoor
/- THE CELL 'sum', in the pinned program and in every row, IS THE sha256 OF THE DUMP (.gsa) THAT YtfpafpmcfkapkaaDoorProg.lean LOADS. Nothing in Lean hashes anything: it is a label: what it is worth is what the hold of that sum in a sandbox is worth. -/
noncomputable def Tryd.pinned : Pinned := { name := "ytfpafpmcfkapkaadoor", sum := "cb6b018429e1ef60b9a9a5686eaaa48dd1715ee5194cd9f6e4bbc9b80eec0d44", checked := Tryd.checked }
namespace Rows
def none {H : Type} : Left H := { results := [], args := [] }

/- WHAT THE LISTED PACKAGE-LEVEL VARIABLES READ AS WHEN THE CALL BEGINS. Each datum BY PROGRAM (the guide's laid-datum.mjs) off the statement by which the dump's own 'gosem.cut.vars' lays the variable. In a bare row this is a premise. The card (YtfpafpmcfkapkaaDoorCards.lean) ties it to the program's text. -/
def laid_clerestory_dct_waves {H : Type} : DataW H := .agg [.agg [.lit (.int .i64 2896), .lit (.int .i64 2896), .lit (.int .i64 2896), .lit (.int .i64 2896), .lit (.int .i64 2896), .lit (.int .i64 2896), .lit (.int .i64 2896), .lit (.int .i64 2896)], .agg [.lit (.int .i64 4017), .lit (.int .i64 3406), .lit (.int .i64 2276), .lit (.int .i64 799), .lit (.int .i64 (-799)), .lit (.int .i64 (-2276)), .lit (.int .i64 (-3406)), .lit (.int .i64 (-4017))], .agg [.lit (.int .i64 3784), .lit (.int .i64 1567), .lit (.int .i64 (-1567)), .lit (.int .i64 (-3784)), .lit (.int .i64 (-3784)), .lit (.int .i64 (-1567)), .lit (.int .i64 1567), .lit (.int .i64 3784)], .agg [.lit (.int .i64 3406), .lit (.int .i64 (-799)), .lit (.int .i64 (-4017)), .lit (.int .i64 (-2276)), .lit (.int .i64 2276), .lit (.int .i64 4017), .lit (.int .i64 799), .lit (.int .i64 (-3406))], .agg [.lit (.int .i64 2896), .lit (.int .i64 (-2896)), .lit (.int .i64 (-2896)), .lit (.int .i64 2896), .lit (.int .i64 2896), .lit (.int .i64 (-2896)), .lit (.int .i64 (-2896)), .lit (.int .i64 2896)], .agg [.lit (.int .i64 2276), .lit (.int .i64 (-4017)), .lit (.int .i64 799), .lit (.int .i64 3406), .lit (.int .i64 (-3406)), .lit (.int .i64 (-799)), .lit (.int .i64 4017), .lit (.int .i64 (-2276))], .agg [.lit (.int .i64 1567), .lit (.int .i64 (-3784)), .lit (.int .i64 3784), .lit (.int .i64 (-1567)), .lit (.int .i64 (-1567)), .lit (.int .i64 3784), .lit (.int .i64 (-3784)), .lit (.int .i64 1567)], .agg [.lit (.int .i64 799), .lit (.int .i64 (-2276)), .lit (.int .i64 3406), .lit (.int .i64 (-4017)), .lit (.int .i64 4017), .lit (.int .i64 (-3406)), .lit (.int .i64 2276), .lit (.int .i64 (-799))]]
def laid_clerestory_half_parts {H : Type} : DataW H := .agg [.agg [.agg [.lit (.int .i64 2896), .lit (.int .i64 0), .lit (.int .i64 0), .lit (.int .i64 0)], .agg [.lit (.int .i64 2624), .lit (.int .i64 1204), .lit (.int .i64 (-216)), .lit (.int .i64 66)], .agg [.lit (.int .i64 0), .lit (.int .i64 2896), .lit (.int .i64 0), .lit (.int .i64 0)], .agg [.lit (.int .i64 (-922)), .lit (.int .i64 2291), .lit (.int .i64 1487), .lit (.int .i64 (-283))], .agg [.lit (.int .i64 0), .lit (.int .i64 0), .lit (.int .i64 2896), .lit (.int .i64 0)], .agg [.lit (.int .i64 616), .lit (.int .i64 (-1021)), .lit (.int .i64 2225), .lit (.int .i64 1420)], .agg [.lit (.int .i64 0), .lit (.int .i64 0), .lit (.int .i64 0), .lit (.int .i64 2896)], .agg [.lit (.int .i64 (-522)), .lit (.int .i64 805), .lit (.int .i64 (-1087)), .lit (.int .i64 2507)]], .agg [.agg [.lit (.int .i64 2896), .lit (.int .i64 0), .lit (.int .i64 0), .lit (.int .i64 0)], .agg [.lit (.int .i64 (-2624)), .lit (.int .i64 1204), .lit (.int .i64 216), .lit (.int .i64 66)], .agg [.lit (.int .i64 0), .lit (.int .i64 (-2896)), .lit (.int .i64 0), .lit (.int .i64 0)], .agg [.lit (.int .i64 922), .lit (.int .i64 2291), .lit (.int .i64 (-1487)), .lit (.int .i64 (-283))], .agg [.lit (.int .i64 0), .lit (.int .i64 0), .lit (.int .i64 2896), .lit (.int .i64 0)], .agg [.lit (.int .i64 (-616)), .lit (.int .i64 (-1021)), .lit (.int .i64 (-2225)), .lit (.int .i64 1420)], .agg [.lit (.int .i64 0), .lit (.int .i64 0), .lit (.int .i64 0), .lit (.int .i64 (-2896))], .agg [.lit (.int .i64 522), .lit (.int .i64 805), .lit (.int .i64 1087), .lit (.int .i64 2507)]]]

/-- 'clerestorylaw09.DctForward': WHATEVER THE INPUT: true; the input reads as it did. -/
def dctForwardSpec : ChangeSpec := { name := "dctForward", fn := fun _ => fun
  | [d1, d2, d3] => { results := [.lit (.bool true)], args := [d1, d2, d3] }
  | _ => none }
def dctForwardRow : OpenClaim := { program := "ytfpafpmcfkapkaadoor", sum := "cb6b018429e1ef60b9a9a5686eaaa48dd1715ee5194cd9f6e4bbc9b80eec0d44", func := "clerestory/clerestorylaw09.DctForward", spec := "dctForward", recurses := true, named := ["clerestory/dct.waves"], apart := false, laid := [("clerestory/dct.waves", laid_clerestory_dct_waves)] }
def DctForwardSaid : Prop := dctForwardRow.holds Tryd.pinned (OpenSpec.ofChange dctForwardSpec)

/-- ITS FALSE NEIGHBOUR: 'it returns false'. Refute it at one input. -/
def dctForwardWrong : ChangeSpec := { name := "dctForward", fn := fun _ => fun
  | [d1, d2, d3] => { results := [.lit (.bool false)], args := [d1, d2, d3] }
  | _ => none }
def DctForwardWrongFalsely : Prop := dctForwardRow.holds Tryd.pinned (OpenSpec.ofChange dctForwardWrong)

/-- 'clerestorylaw09.DctFlat': WHATEVER THE INPUT: true; the input reads as it did. -/
def dctFlatSpec : ChangeSpec := { name := "dctFlat", fn := fun _ => fun
  | [d] => { results := [.lit (.bool true)], args := [d] }
  | _ => none }
def dctFlatRow : OpenClaim := { program := "ytfpafpmcfkapkaadoor", sum := "cb6b018429e1ef60b9a9a5686eaaa48dd1715ee5194cd9f6e4bbc9b80eec0d44", func := "clerestory/clerestorylaw09.DctFlat", spec := "dctFlat", recurses := true, named := ["clerestory/dct.waves"], apart := false, laid := [("clerestory/dct.waves", laid_clerestory_dct_waves)] }
def DctFlatSaid : Prop := dctFlatRow.holds Tryd.pinned (OpenSpec.ofChange dctFlatSpec)

/-- ITS FALSE NEIGHBOUR: 'it returns false'. Refute it at one input. -/
def dctFlatWrong : ChangeSpec := { name := "dctFlat", fn := fun _ => fun
  | [d] => { results := [.lit (.bool false)], args := [d] }
  | _ => none }
def DctFlatWrongFalsely : Prop := dctFlatRow.holds Tryd.pinned (OpenSpec.ofChange dctFlatWrong)

/-- 'clerestorylaw10.HalfMerges': WHATEVER THE INPUT: true; the input reads as it did. -/
def halfMergesSpec : ChangeSpec := { name := "halfMerges", fn := fun _ => fun
  | [d1, d2, d3, d4] => { results := [.lit (.bool true)], args := [d1, d2, d3, d4] }
  | _ => none }
def halfMergesRow : OpenClaim := { program := "ytfpafpmcfkapkaadoor", sum := "cb6b018429e1ef60b9a9a5686eaaa48dd1715ee5194cd9f6e4bbc9b80eec0d44", func := "clerestory/clerestorylaw10.HalfMerges", spec := "halfMerges", unfollowed := true, recurses := true, named := ["clerestory/half.parts"], apart := false, laid := [("clerestory/half.parts", laid_clerestory_half_parts)] }
def HalfMergesSaid : Prop := halfMergesRow.holds Tryd.pinned (OpenSpec.ofChange halfMergesSpec)

/-- ITS FALSE NEIGHBOUR: 'it returns false'. Refute it at one input. -/
def halfMergesWrong : ChangeSpec := { name := "halfMerges", fn := fun _ => fun
  | [d1, d2, d3, d4] => { results := [.lit (.bool false)], args := [d1, d2, d3, d4] }
  | _ => none }
def HalfMergesWrongFalsely : Prop := halfMergesRow.holds Tryd.pinned (OpenSpec.ofChange halfMergesWrong)

/-- 'clerestorylaw10.HalfNoughts': WHATEVER THE INPUT: true; the input reads as it did. -/
def halfNoughtsSpec : ChangeSpec := { name := "halfNoughts", fn := fun _ => fun
  | [d1, d2, d3] => { results := [.lit (.bool true)], args := [d1, d2, d3] }
  | _ => none }
def halfNoughtsRow : OpenClaim := { program := "ytfpafpmcfkapkaadoor", sum := "cb6b018429e1ef60b9a9a5686eaaa48dd1715ee5194cd9f6e4bbc9b80eec0d44", func := "clerestory/clerestorylaw10.HalfNoughts", spec := "halfNoughts", unfollowed := true, recurses := true, named := ["clerestory/half.parts"], apart := false, laid := [("clerestory/half.parts", laid_clerestory_half_parts)] }
def HalfNoughtsSaid : Prop := halfNoughtsRow.holds Tryd.pinned (OpenSpec.ofChange halfNoughtsSpec)

/-- ITS FALSE NEIGHBOUR: 'it returns false'. Refute it at one input. -/
def halfNoughtsWrong : ChangeSpec := { name := "halfNoughts", fn := fun _ => fun
  | [d1, d2, d3] => { results := [.lit (.bool false)], args := [d1, d2, d3] }
  | _ => none }
def HalfNoughtsWrongFalsely : Prop := halfNoughtsRow.holds Tryd.pinned (OpenSpec.ofChange halfNoughtsWrong)

/-- 'clerestorylaw10.HalfTurned': WHATEVER THE INPUT: true; the input reads as it did. -/
def halfTurnedSpec : ChangeSpec := { name := "halfTurned", fn := fun _ => fun
  | [d] => { results := [.lit (.bool true)], args := [d] }
  | _ => none }
def halfTurnedRow : OpenClaim := { program := "ytfpafpmcfkapkaadoor", sum := "cb6b018429e1ef60b9a9a5686eaaa48dd1715ee5194cd9f6e4bbc9b80eec0d44", func := "clerestory/clerestorylaw10.HalfTurned", spec := "halfTurned", unfollowed := true, recurses := true, named := ["clerestory/half.parts"], apart := false, laid := [("clerestory/half.parts", laid_clerestory_half_parts)] }
def HalfTurnedSaid : Prop := halfTurnedRow.holds Tryd.pinned (OpenSpec.ofChange halfTurnedSpec)

/-- ITS FALSE NEIGHBOUR: 'it returns false'. Refute it at one input. -/
def halfTurnedWrong : ChangeSpec := { name := "halfTurned", fn := fun _ => fun
  | [d] => { results := [.lit (.bool false)], args := [d] }
  | _ => none }
def HalfTurnedWrongFalsely : Prop := halfTurnedRow.holds Tryd.pinned (OpenSpec.ofChange halfTurnedWrong)

/-- 'clerestorylaw10.HalfSigns': WHATEVER THE INPUT: true; the input reads as it did. -/
def halfSignsSpec : ChangeSpec := { name := "halfSigns", fn := fun _ => fun
  | [d] => { results := [.lit (.bool true)], args := [d] }
  | _ => none }
def halfSignsRow : OpenClaim := { program := "ytfpafpmcfkapkaadoor", sum := "cb6b018429e1ef60b9a9a5686eaaa48dd1715ee5194cd9f6e4bbc9b80eec0d44", func := "clerestory/clerestorylaw10.HalfSigns", spec := "halfSigns", unfollowed := true, recurses := true, named := ["clerestory/half.parts"], apart := false, laid := [("clerestory/half.parts", laid_clerestory_half_parts)] }
def HalfSignsSaid : Prop := halfSignsRow.holds Tryd.pinned (OpenSpec.ofChange halfSignsSpec)

/-- ITS FALSE NEIGHBOUR: 'it returns false'. Refute it at one input. -/
def halfSignsWrong : ChangeSpec := { name := "halfSigns", fn := fun _ => fun
  | [d] => { results := [.lit (.bool false)], args := [d] }
  | _ => none }
def HalfSignsWrongFalsely : Prop := halfSignsRow.holds Tryd.pinned (OpenSpec.ofChange halfSignsWrong)

/-- 'clerestorylaw09.DctInverse': WHATEVER THE INPUT: true; the input reads as it did. -/
def dctInverseSpec : ChangeSpec := { name := "dctInverse", fn := fun _ => fun
  | [d] => { results := [.lit (.bool true)], args := [d] }
  | _ => none }
def dctInverseRow : OpenClaim := { program := "ytfpafpmcfkapkaadoor", sum := "cb6b018429e1ef60b9a9a5686eaaa48dd1715ee5194cd9f6e4bbc9b80eec0d44", func := "clerestory/clerestorylaw09.DctInverse", spec := "dctInverse", recurses := true, named := ["clerestory/dct.waves"], apart := false, laid := [("clerestory/dct.waves", laid_clerestory_dct_waves)] }
def DctInverseSaid : Prop := dctInverseRow.holds Tryd.pinned (OpenSpec.ofChange dctInverseSpec)

/-- ITS FALSE NEIGHBOUR: 'it returns false'. Refute it at one input. -/
def dctInverseWrong : ChangeSpec := { name := "dctInverse", fn := fun _ => fun
  | [d] => { results := [.lit (.bool false)], args := [d] }
  | _ => none }
def DctInverseWrongFalsely : Prop := dctInverseRow.holds Tryd.pinned (OpenSpec.ofChange dctInverseWrong)

/-- 'clerestorylaw09.DctNear': WHATEVER THE INPUT: true; the input reads as it did. -/
def dctNearSpec : ChangeSpec := { name := "dctNear", fn := fun _ => fun
  | [d] => { results := [.lit (.bool true)], args := [d] }
  | _ => none }
def dctNearRow : OpenClaim := { program := "ytfpafpmcfkapkaadoor", sum := "cb6b018429e1ef60b9a9a5686eaaa48dd1715ee5194cd9f6e4bbc9b80eec0d44", func := "clerestory/clerestorylaw09.DctNear", spec := "dctNear", recurses := true, named := ["clerestory/dct.waves"], apart := false, laid := [("clerestory/dct.waves", laid_clerestory_dct_waves)] }
def DctNearSaid : Prop := dctNearRow.holds Tryd.pinned (OpenSpec.ofChange dctNearSpec)

/-- ITS FALSE NEIGHBOUR: 'it returns false'. Refute it at one input. -/
def dctNearWrong : ChangeSpec := { name := "dctNear", fn := fun _ => fun
  | [d] => { results := [.lit (.bool false)], args := [d] }
  | _ => none }
def DctNearWrongFalsely : Prop := dctNearRow.holds Tryd.pinned (OpenSpec.ofChange dctNearWrong)

/-- 'clerestorylaw09.DctTurns': WHATEVER THE INPUT: true; the input reads as it did. -/
def dctTurnsSpec : ChangeSpec := { name := "dctTurns", fn := fun _ => fun
  | [d] => { results := [.lit (.bool true)], args := [d] }
  | _ => none }
def dctTurnsRow : OpenClaim := { program := "ytfpafpmcfkapkaadoor", sum := "cb6b018429e1ef60b9a9a5686eaaa48dd1715ee5194cd9f6e4bbc9b80eec0d44", func := "clerestory/clerestorylaw09.DctTurns", spec := "dctTurns", recurses := true, named := ["clerestory/dct.waves"], apart := false, laid := [("clerestory/dct.waves", laid_clerestory_dct_waves)] }
def DctTurnsSaid : Prop := dctTurnsRow.holds Tryd.pinned (OpenSpec.ofChange dctTurnsSpec)

/-- ITS FALSE NEIGHBOUR: 'it returns false'. Refute it at one input. -/
def dctTurnsWrong : ChangeSpec := { name := "dctTurns", fn := fun _ => fun
  | [d] => { results := [.lit (.bool false)], args := [d] }
  | _ => none }
def DctTurnsWrongFalsely : Prop := dctTurnsRow.holds Tryd.pinned (OpenSpec.ofChange dctTurnsWrong)

/-- 'clerestorylaw09.DctTurned': WHATEVER THE INPUT: true; the input reads as it did. -/
def dctTurnedSpec : ChangeSpec := { name := "dctTurned", fn := fun _ => fun
  | [d] => { results := [.lit (.bool true)], args := [d] }
  | _ => none }
def dctTurnedRow : OpenClaim := { program := "ytfpafpmcfkapkaadoor", sum := "cb6b018429e1ef60b9a9a5686eaaa48dd1715ee5194cd9f6e4bbc9b80eec0d44", func := "clerestory/clerestorylaw09.DctTurned", spec := "dctTurned", recurses := true, named := ["clerestory/dct.waves"], apart := false, laid := [("clerestory/dct.waves", laid_clerestory_dct_waves)] }
def DctTurnedSaid : Prop := dctTurnedRow.holds Tryd.pinned (OpenSpec.ofChange dctTurnedSpec)

/-- ITS FALSE NEIGHBOUR: 'it returns false'. Refute it at one input. -/
def dctTurnedWrong : ChangeSpec := { name := "dctTurned", fn := fun _ => fun
  | [d] => { results := [.lit (.bool false)], args := [d] }
  | _ => none }
def DctTurnedWrongFalsely : Prop := dctTurnedRow.holds Tryd.pinned (OpenSpec.ofChange dctTurnedWrong)

/-- 'clerestorylaw10.HalfTold': WHATEVER THE INPUT: true; the input reads as it did. -/
def halfToldSpec : ChangeSpec := { name := "halfTold", fn := fun _ => fun
  | [d1, d2] => { results := [.lit (.bool true)], args := [d1, d2] }
  | _ => none }
def halfToldRow : OpenClaim := { program := "ytfpafpmcfkapkaadoor", sum := "cb6b018429e1ef60b9a9a5686eaaa48dd1715ee5194cd9f6e4bbc9b80eec0d44", func := "clerestory/clerestorylaw10.HalfTold", spec := "halfTold", unfollowed := true, recurses := true, named := ["clerestory/half.parts"], apart := false, laid := [("clerestory/half.parts", laid_clerestory_half_parts)] }
def HalfToldSaid : Prop := halfToldRow.holds Tryd.pinned (OpenSpec.ofChange halfToldSpec)

/-- ITS FALSE NEIGHBOUR: 'it returns false'. Refute it at one input. -/
def halfToldWrong : ChangeSpec := { name := "halfTold", fn := fun _ => fun
  | [d1, d2] => { results := [.lit (.bool false)], args := [d1, d2] }
  | _ => none }
def HalfToldWrongFalsely : Prop := halfToldRow.holds Tryd.pinned (OpenSpec.ofChange halfToldWrong)

/-- 'clerestorylaw10.HalfFlat': WHATEVER THE INPUT: true; the input reads as it did. -/
def halfFlatSpec : ChangeSpec := { name := "halfFlat", fn := fun _ => fun
  | [d1, d2] => { results := [.lit (.bool true)], args := [d1, d2] }
  | _ => none }
def halfFlatRow : OpenClaim := { program := "ytfpafpmcfkapkaadoor", sum := "cb6b018429e1ef60b9a9a5686eaaa48dd1715ee5194cd9f6e4bbc9b80eec0d44", func := "clerestory/clerestorylaw10.HalfFlat", spec := "halfFlat", unfollowed := true, recurses := true, named := ["clerestory/half.parts"], apart := false, laid := [("clerestory/half.parts", laid_clerestory_half_parts)] }
def HalfFlatSaid : Prop := halfFlatRow.holds Tryd.pinned (OpenSpec.ofChange halfFlatSpec)

/-- ITS FALSE NEIGHBOUR: 'it returns false'. Refute it at one input. -/
def halfFlatWrong : ChangeSpec := { name := "halfFlat", fn := fun _ => fun
  | [d1, d2] => { results := [.lit (.bool false)], args := [d1, d2] }
  | _ => none }
def HalfFlatWrongFalsely : Prop := halfFlatRow.holds Tryd.pinned (OpenSpec.ofChange halfFlatWrong)

/- THE SECOND FORM. 'bulk': how many values and letters a reading holds, each counted each time it is reached (what is shared counts as often as it is met; a slice's spare places count too). A statement '..UptoSaid' is the law's where the arguments, and the package variables that the reading takes, are together of bulk at most 1048576: NARROWER than '..Said'. Prove '..Said' where nothing that the law and all that it calls make is longer than what came in: it says more and counts as full. Else prove '..UptoSaid'. A law counts once. -/
mutual
def uptoBulk {H : Type} : DataW H → Nat
  | .lit (.string bytes) => bytes.length + 1
  | .lit _ => 1
  | .nil => 1
  | .ptr d => uptoBulk d + 1
  | .slice elems spare => uptoBulkAll elems + uptoBulkAll spare + 1
  | .agg parts => uptoBulkAll parts + 1
  | .iface _ d => uptoBulk d + 1
  | .map entries => uptoBulkEntries entries + 1
  | .held _ => 1
def uptoBulkAll {H : Type} : List (DataW H) → Nat
  | [] => 0
  | d :: r => uptoBulk d + uptoBulkAll r
def uptoBulkEntries {H : Type} : List (Lit × DataW H) → Nat
  | [] => 0
  | x :: r => uptoBulkEntry x + uptoBulkEntries r
def uptoBulkEntry {H : Type} : Lit × DataW H → Nat
  | (.string bytes, d) => bytes.length + uptoBulk d + 1
  | (_, d) => uptoBulk d + 1
 end
def uptoSmall : (H : Type) → List (DataW H) → Bool := fun _ ds => decide (uptoBulkAll ds ≤ 1048576)
def OpenSpec.upto (s : _root_.Go.ChangeSpec) : _root_.Go.OpenSpec := { _root_.Go.OpenSpec.ofChange s with cond := some uptoSmall }

/-- 'clerestorylaw09.DctForward', WHERE WHAT IT READS IS OF BULK AT MOST 1048576: true; the input reads as it did. -/
def dctForwardUptoRow : OpenClaim := { program := "ytfpafpmcfkapkaadoor", sum := "cb6b018429e1ef60b9a9a5686eaaa48dd1715ee5194cd9f6e4bbc9b80eec0d44", func := "clerestory/clerestorylaw09.DctForward", spec := "dctForward", recurses := true, named := ["clerestory/dct.waves"], apart := false, laid := [("clerestory/dct.waves", laid_clerestory_dct_waves)], narrowed := true }
def DctForwardUptoSaid : Prop := dctForwardUptoRow.holds Tryd.pinned (OpenSpec.upto dctForwardSpec)

/-- 'clerestorylaw09.DctFlat', WHERE WHAT IT READS IS OF BULK AT MOST 1048576: true; the input reads as it did. -/
def dctFlatUptoRow : OpenClaim := { program := "ytfpafpmcfkapkaadoor", sum := "cb6b018429e1ef60b9a9a5686eaaa48dd1715ee5194cd9f6e4bbc9b80eec0d44", func := "clerestory/clerestorylaw09.DctFlat", spec := "dctFlat", recurses := true, named := ["clerestory/dct.waves"], apart := false, laid := [("clerestory/dct.waves", laid_clerestory_dct_waves)], narrowed := true }
def DctFlatUptoSaid : Prop := dctFlatUptoRow.holds Tryd.pinned (OpenSpec.upto dctFlatSpec)

/-- 'clerestorylaw10.HalfMerges', WHERE WHAT IT READS IS OF BULK AT MOST 1048576: true; the input reads as it did. -/
def halfMergesUptoRow : OpenClaim := { program := "ytfpafpmcfkapkaadoor", sum := "cb6b018429e1ef60b9a9a5686eaaa48dd1715ee5194cd9f6e4bbc9b80eec0d44", func := "clerestory/clerestorylaw10.HalfMerges", spec := "halfMerges", unfollowed := true, recurses := true, named := ["clerestory/half.parts"], apart := false, laid := [("clerestory/half.parts", laid_clerestory_half_parts)], narrowed := true }
def HalfMergesUptoSaid : Prop := halfMergesUptoRow.holds Tryd.pinned (OpenSpec.upto halfMergesSpec)

/-- 'clerestorylaw10.HalfNoughts', WHERE WHAT IT READS IS OF BULK AT MOST 1048576: true; the input reads as it did. -/
def halfNoughtsUptoRow : OpenClaim := { program := "ytfpafpmcfkapkaadoor", sum := "cb6b018429e1ef60b9a9a5686eaaa48dd1715ee5194cd9f6e4bbc9b80eec0d44", func := "clerestory/clerestorylaw10.HalfNoughts", spec := "halfNoughts", unfollowed := true, recurses := true, named := ["clerestory/half.parts"], apart := false, laid := [("clerestory/half.parts", laid_clerestory_half_parts)], narrowed := true }
def HalfNoughtsUptoSaid : Prop := halfNoughtsUptoRow.holds Tryd.pinned (OpenSpec.upto halfNoughtsSpec)

/-- 'clerestorylaw10.HalfTurned', WHERE WHAT IT READS IS OF BULK AT MOST 1048576: true; the input reads as it did. -/
def halfTurnedUptoRow : OpenClaim := { program := "ytfpafpmcfkapkaadoor", sum := "cb6b018429e1ef60b9a9a5686eaaa48dd1715ee5194cd9f6e4bbc9b80eec0d44", func := "clerestory/clerestorylaw10.HalfTurned", spec := "halfTurned", unfollowed := true, recurses := true, named := ["clerestory/half.parts"], apart := false, laid := [("clerestory/half.parts", laid_clerestory_half_parts)], narrowed := true }
def HalfTurnedUptoSaid : Prop := halfTurnedUptoRow.holds Tryd.pinned (OpenSpec.upto halfTurnedSpec)

/-- 'clerestorylaw10.HalfSigns', WHERE WHAT IT READS IS OF BULK AT MOST 1048576: true; the input reads as it did. -/
def halfSignsUptoRow : OpenClaim := { program := "ytfpafpmcfkapkaadoor", sum := "cb6b018429e1ef60b9a9a5686eaaa48dd1715ee5194cd9f6e4bbc9b80eec0d44", func := "clerestory/clerestorylaw10.HalfSigns", spec := "halfSigns", unfollowed := true, recurses := true, named := ["clerestory/half.parts"], apart := false, laid := [("clerestory/half.parts", laid_clerestory_half_parts)], narrowed := true }
def HalfSignsUptoSaid : Prop := halfSignsUptoRow.holds Tryd.pinned (OpenSpec.upto halfSignsSpec)

/-- 'clerestorylaw09.DctInverse', WHERE WHAT IT READS IS OF BULK AT MOST 1048576: true; the input reads as it did. -/
def dctInverseUptoRow : OpenClaim := { program := "ytfpafpmcfkapkaadoor", sum := "cb6b018429e1ef60b9a9a5686eaaa48dd1715ee5194cd9f6e4bbc9b80eec0d44", func := "clerestory/clerestorylaw09.DctInverse", spec := "dctInverse", recurses := true, named := ["clerestory/dct.waves"], apart := false, laid := [("clerestory/dct.waves", laid_clerestory_dct_waves)], narrowed := true }
def DctInverseUptoSaid : Prop := dctInverseUptoRow.holds Tryd.pinned (OpenSpec.upto dctInverseSpec)

/-- 'clerestorylaw09.DctNear', WHERE WHAT IT READS IS OF BULK AT MOST 1048576: true; the input reads as it did. -/
def dctNearUptoRow : OpenClaim := { program := "ytfpafpmcfkapkaadoor", sum := "cb6b018429e1ef60b9a9a5686eaaa48dd1715ee5194cd9f6e4bbc9b80eec0d44", func := "clerestory/clerestorylaw09.DctNear", spec := "dctNear", recurses := true, named := ["clerestory/dct.waves"], apart := false, laid := [("clerestory/dct.waves", laid_clerestory_dct_waves)], narrowed := true }
def DctNearUptoSaid : Prop := dctNearUptoRow.holds Tryd.pinned (OpenSpec.upto dctNearSpec)

/-- 'clerestorylaw09.DctTurns', WHERE WHAT IT READS IS OF BULK AT MOST 1048576: true; the input reads as it did. -/
def dctTurnsUptoRow : OpenClaim := { program := "ytfpafpmcfkapkaadoor", sum := "cb6b018429e1ef60b9a9a5686eaaa48dd1715ee5194cd9f6e4bbc9b80eec0d44", func := "clerestory/clerestorylaw09.DctTurns", spec := "dctTurns", recurses := true, named := ["clerestory/dct.waves"], apart := false, laid := [("clerestory/dct.waves", laid_clerestory_dct_waves)], narrowed := true }
def DctTurnsUptoSaid : Prop := dctTurnsUptoRow.holds Tryd.pinned (OpenSpec.upto dctTurnsSpec)

/-- 'clerestorylaw09.DctTurned', WHERE WHAT IT READS IS OF BULK AT MOST 1048576: true; the input reads as it did. -/
def dctTurnedUptoRow : OpenClaim := { program := "ytfpafpmcfkapkaadoor", sum := "cb6b018429e1ef60b9a9a5686eaaa48dd1715ee5194cd9f6e4bbc9b80eec0d44", func := "clerestory/clerestorylaw09.DctTurned", spec := "dctTurned", recurses := true, named := ["clerestory/dct.waves"], apart := false, laid := [("clerestory/dct.waves", laid_clerestory_dct_waves)], narrowed := true }
def DctTurnedUptoSaid : Prop := dctTurnedUptoRow.holds Tryd.pinned (OpenSpec.upto dctTurnedSpec)

/-- 'clerestorylaw10.HalfTold', WHERE WHAT IT READS IS OF BULK AT MOST 1048576: true; the input reads as it did. -/
def halfToldUptoRow : OpenClaim := { program := "ytfpafpmcfkapkaadoor", sum := "cb6b018429e1ef60b9a9a5686eaaa48dd1715ee5194cd9f6e4bbc9b80eec0d44", func := "clerestory/clerestorylaw10.HalfTold", spec := "halfTold", unfollowed := true, recurses := true, named := ["clerestory/half.parts"], apart := false, laid := [("clerestory/half.parts", laid_clerestory_half_parts)], narrowed := true }
def HalfToldUptoSaid : Prop := halfToldUptoRow.holds Tryd.pinned (OpenSpec.upto halfToldSpec)

/-- 'clerestorylaw10.HalfFlat', WHERE WHAT IT READS IS OF BULK AT MOST 1048576: true; the input reads as it did. -/
def halfFlatUptoRow : OpenClaim := { program := "ytfpafpmcfkapkaadoor", sum := "cb6b018429e1ef60b9a9a5686eaaa48dd1715ee5194cd9f6e4bbc9b80eec0d44", func := "clerestory/clerestorylaw10.HalfFlat", spec := "halfFlat", unfollowed := true, recurses := true, named := ["clerestory/half.parts"], apart := false, laid := [("clerestory/half.parts", laid_clerestory_half_parts)], narrowed := true }
def HalfFlatUptoSaid : Prop := halfFlatUptoRow.holds Tryd.pinned (OpenSpec.upto halfFlatSpec)

end Rows
end Go.Proofs.YtfpafpmcfkapkaaDoor
