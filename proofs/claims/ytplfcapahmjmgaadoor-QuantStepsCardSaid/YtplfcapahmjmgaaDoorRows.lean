/-
  NARROWER THAN 'FOR EVERY INPUT', by the rows' own cells (each row's printed sentence says how): QuantRounds: laid · QuantFiner: laid · QuantSteps: laid · QuantMoves: laid · QuantBack: laid · QuantTurns: laid.
  DERIVED. THE GIVEN ROWS OF THIS SEAT. 6 by the template 'for every input the law returns true; each argument reads behind the call as it read before'; 0 by the template 'total and deterministic' (their statements: YtplfcapahmjmgaaDoorTotals.lean).
  GIVEN WITH THE SEED: the statements are not yours to turn. If you find one false, say at which input.
  Laid BY PROGRAM, IN A SANDBOX (cutbox-rows.mjs): the forced cells as the released guide's own fill.sh prints them over the translation 2ef3a3df93613a7b… (all of the seat's roots in one cut). By AI agents, Wed Nov 11 2026. No macro, syntax, notation, axiom, sorry.
-/
import Derived.Test.YtplfcapahmjmgaaDoorChecked
import GoSem.Claim
import GoSem.ClaimJoined
import GoSem.ClaimMapViews
import Derived.JoinedTies
import Derived.KernelRfl
namespace Go.Proofs.YtplfcapahmjmgaaDoor
/- THE CELL 'sum', in the pinned program and in every row, IS THE sha256 OF THE DUMP (.gsa) THAT YtplfcapahmjmgaaDoorProg.lean LOADS. Nothing in Lean hashes anything: it is a label: what it is worth is what the hold of that sum in a sandbox is worth. -/
noncomputable def Tryd.pinned : Pinned := { name := "ytplfcapahmjmgaadoor", sum := "2ef3a3df93613a7bcb24606c7d0b24ff800e61c053ae853597e312ee02b09353", checked := Tryd.checked }
namespace Rows
def none {H : Type} : Left H := { results := [], args := [] }

/- WHAT THE LISTED PACKAGE-LEVEL VARIABLES READ AS WHEN THE CALL BEGINS. Each datum BY PROGRAM (the guide's laid-datum.mjs) off the statement by which the dump's own 'gosem.cut.vars' lays the variable. In a bare row this is a premise. The card (YtplfcapahmjmgaaDoorCards.lean) ties it to the program's text. -/
def laid_clerestory_quant_bright {H : Type} : DataW H := .agg [.lit (.int .i64 16), .lit (.int .i64 11), .lit (.int .i64 10), .lit (.int .i64 16), .lit (.int .i64 24), .lit (.int .i64 40), .lit (.int .i64 51), .lit (.int .i64 61), .lit (.int .i64 12), .lit (.int .i64 12), .lit (.int .i64 14), .lit (.int .i64 19), .lit (.int .i64 26), .lit (.int .i64 58), .lit (.int .i64 60), .lit (.int .i64 55), .lit (.int .i64 14), .lit (.int .i64 13), .lit (.int .i64 16), .lit (.int .i64 24), .lit (.int .i64 40), .lit (.int .i64 57), .lit (.int .i64 69), .lit (.int .i64 56), .lit (.int .i64 14), .lit (.int .i64 17), .lit (.int .i64 22), .lit (.int .i64 29), .lit (.int .i64 51), .lit (.int .i64 87), .lit (.int .i64 80), .lit (.int .i64 62), .lit (.int .i64 18), .lit (.int .i64 22), .lit (.int .i64 37), .lit (.int .i64 56), .lit (.int .i64 68), .lit (.int .i64 109), .lit (.int .i64 103), .lit (.int .i64 77), .lit (.int .i64 24), .lit (.int .i64 35), .lit (.int .i64 55), .lit (.int .i64 64), .lit (.int .i64 81), .lit (.int .i64 104), .lit (.int .i64 113), .lit (.int .i64 92), .lit (.int .i64 49), .lit (.int .i64 64), .lit (.int .i64 78), .lit (.int .i64 87), .lit (.int .i64 103), .lit (.int .i64 121), .lit (.int .i64 120), .lit (.int .i64 101), .lit (.int .i64 72), .lit (.int .i64 92), .lit (.int .i64 95), .lit (.int .i64 98), .lit (.int .i64 112), .lit (.int .i64 100), .lit (.int .i64 103), .lit (.int .i64 99)]
def laid_clerestory_quant_tinted {H : Type} : DataW H := .agg [.lit (.int .i64 17), .lit (.int .i64 18), .lit (.int .i64 24), .lit (.int .i64 47), .lit (.int .i64 99), .lit (.int .i64 99), .lit (.int .i64 99), .lit (.int .i64 99), .lit (.int .i64 18), .lit (.int .i64 21), .lit (.int .i64 26), .lit (.int .i64 66), .lit (.int .i64 99), .lit (.int .i64 99), .lit (.int .i64 99), .lit (.int .i64 99), .lit (.int .i64 24), .lit (.int .i64 26), .lit (.int .i64 56), .lit (.int .i64 99), .lit (.int .i64 99), .lit (.int .i64 99), .lit (.int .i64 99), .lit (.int .i64 99), .lit (.int .i64 47), .lit (.int .i64 66), .lit (.int .i64 99), .lit (.int .i64 99), .lit (.int .i64 99), .lit (.int .i64 99), .lit (.int .i64 99), .lit (.int .i64 99), .lit (.int .i64 99), .lit (.int .i64 99), .lit (.int .i64 99), .lit (.int .i64 99), .lit (.int .i64 99), .lit (.int .i64 99), .lit (.int .i64 99), .lit (.int .i64 99), .lit (.int .i64 99), .lit (.int .i64 99), .lit (.int .i64 99), .lit (.int .i64 99), .lit (.int .i64 99), .lit (.int .i64 99), .lit (.int .i64 99), .lit (.int .i64 99), .lit (.int .i64 99), .lit (.int .i64 99), .lit (.int .i64 99), .lit (.int .i64 99), .lit (.int .i64 99), .lit (.int .i64 99), .lit (.int .i64 99), .lit (.int .i64 99), .lit (.int .i64 99), .lit (.int .i64 99), .lit (.int .i64 99), .lit (.int .i64 99), .lit (.int .i64 99), .lit (.int .i64 99), .lit (.int .i64 99), .lit (.int .i64 99)]

/-- 'clerestorylaw08.QuantRounds': WHATEVER THE INPUT: true; the input reads as it did. -/
def quantRoundsSpec : ChangeSpec := { name := "quantRounds", fn := fun _ => fun
  | [d1, d2] => { results := [.lit (.bool true)], args := [d1, d2] }
  | _ => none }
def quantRoundsRow : OpenClaim := { program := "ytplfcapahmjmgaadoor", sum := "2ef3a3df93613a7bcb24606c7d0b24ff800e61c053ae853597e312ee02b09353", func := "clerestory/clerestorylaw08.QuantRounds", spec := "quantRounds", recurses := true, named := ["clerestory/quant.bright", "clerestory/quant.tinted"], apart := false, laid := [("clerestory/quant.bright", laid_clerestory_quant_bright), ("clerestory/quant.tinted", laid_clerestory_quant_tinted)] }
def QuantRoundsSaid : Prop := quantRoundsRow.holds Tryd.pinned (OpenSpec.ofChange quantRoundsSpec)

/-- ITS FALSE NEIGHBOUR: 'it returns false'. Refute it at one input. -/
def quantRoundsWrong : ChangeSpec := { name := "quantRounds", fn := fun _ => fun
  | [d1, d2] => { results := [.lit (.bool false)], args := [d1, d2] }
  | _ => none }
def QuantRoundsWrongFalsely : Prop := quantRoundsRow.holds Tryd.pinned (OpenSpec.ofChange quantRoundsWrong)

/-- 'clerestorylaw08.QuantFiner': WHATEVER THE INPUT: true; the input reads as it did. -/
def quantFinerSpec : ChangeSpec := { name := "quantFiner", fn := fun _ => fun
  | [d1, d2, d3] => { results := [.lit (.bool true)], args := [d1, d2, d3] }
  | _ => none }
def quantFinerRow : OpenClaim := { program := "ytplfcapahmjmgaadoor", sum := "2ef3a3df93613a7bcb24606c7d0b24ff800e61c053ae853597e312ee02b09353", func := "clerestory/clerestorylaw08.QuantFiner", spec := "quantFiner", recurses := true, named := ["clerestory/quant.bright", "clerestory/quant.tinted"], apart := false, laid := [("clerestory/quant.bright", laid_clerestory_quant_bright), ("clerestory/quant.tinted", laid_clerestory_quant_tinted)] }
def QuantFinerSaid : Prop := quantFinerRow.holds Tryd.pinned (OpenSpec.ofChange quantFinerSpec)

/-- ITS FALSE NEIGHBOUR: 'it returns false'. Refute it at one input. -/
def quantFinerWrong : ChangeSpec := { name := "quantFiner", fn := fun _ => fun
  | [d1, d2, d3] => { results := [.lit (.bool false)], args := [d1, d2, d3] }
  | _ => none }
def QuantFinerWrongFalsely : Prop := quantFinerRow.holds Tryd.pinned (OpenSpec.ofChange quantFinerWrong)

/-- 'clerestorylaw08.QuantSteps': WHATEVER THE INPUT: true; the input reads as it did. -/
def quantStepsSpec : ChangeSpec := { name := "quantSteps", fn := fun _ => fun
  | [d1, d2, d3] => { results := [.lit (.bool true)], args := [d1, d2, d3] }
  | _ => none }
def quantStepsRow : OpenClaim := { program := "ytplfcapahmjmgaadoor", sum := "2ef3a3df93613a7bcb24606c7d0b24ff800e61c053ae853597e312ee02b09353", func := "clerestory/clerestorylaw08.QuantSteps", spec := "quantSteps", recurses := true, named := ["clerestory/quant.bright", "clerestory/quant.tinted"], apart := false, laid := [("clerestory/quant.bright", laid_clerestory_quant_bright), ("clerestory/quant.tinted", laid_clerestory_quant_tinted)] }
def QuantStepsSaid : Prop := quantStepsRow.holds Tryd.pinned (OpenSpec.ofChange quantStepsSpec)

/-- ITS FALSE NEIGHBOUR: 'it returns false'. Refute it at one input. -/
def quantStepsWrong : ChangeSpec := { name := "quantSteps", fn := fun _ => fun
  | [d1, d2, d3] => { results := [.lit (.bool false)], args := [d1, d2, d3] }
  | _ => none }
def QuantStepsWrongFalsely : Prop := quantStepsRow.holds Tryd.pinned (OpenSpec.ofChange quantStepsWrong)

/-- 'clerestorylaw08.QuantMoves': WHATEVER THE INPUT: true; the input reads as it did. -/
def quantMovesSpec : ChangeSpec := { name := "quantMoves", fn := fun _ => fun
  | [d1, d2] => { results := [.lit (.bool true)], args := [d1, d2] }
  | _ => none }
def quantMovesRow : OpenClaim := { program := "ytplfcapahmjmgaadoor", sum := "2ef3a3df93613a7bcb24606c7d0b24ff800e61c053ae853597e312ee02b09353", func := "clerestory/clerestorylaw08.QuantMoves", spec := "quantMoves", recurses := true, named := ["clerestory/quant.bright", "clerestory/quant.tinted"], apart := false, laid := [("clerestory/quant.bright", laid_clerestory_quant_bright), ("clerestory/quant.tinted", laid_clerestory_quant_tinted)] }
def QuantMovesSaid : Prop := quantMovesRow.holds Tryd.pinned (OpenSpec.ofChange quantMovesSpec)

/-- ITS FALSE NEIGHBOUR: 'it returns false'. Refute it at one input. -/
def quantMovesWrong : ChangeSpec := { name := "quantMoves", fn := fun _ => fun
  | [d1, d2] => { results := [.lit (.bool false)], args := [d1, d2] }
  | _ => none }
def QuantMovesWrongFalsely : Prop := quantMovesRow.holds Tryd.pinned (OpenSpec.ofChange quantMovesWrong)

/-- 'clerestorylaw08.QuantBack': WHATEVER THE INPUT: true; the input reads as it did. -/
def quantBackSpec : ChangeSpec := { name := "quantBack", fn := fun _ => fun
  | [d1, d2] => { results := [.lit (.bool true)], args := [d1, d2] }
  | _ => none }
def quantBackRow : OpenClaim := { program := "ytplfcapahmjmgaadoor", sum := "2ef3a3df93613a7bcb24606c7d0b24ff800e61c053ae853597e312ee02b09353", func := "clerestory/clerestorylaw08.QuantBack", spec := "quantBack", recurses := true, named := ["clerestory/quant.bright", "clerestory/quant.tinted"], apart := false, laid := [("clerestory/quant.bright", laid_clerestory_quant_bright), ("clerestory/quant.tinted", laid_clerestory_quant_tinted)] }
def QuantBackSaid : Prop := quantBackRow.holds Tryd.pinned (OpenSpec.ofChange quantBackSpec)

/-- ITS FALSE NEIGHBOUR: 'it returns false'. Refute it at one input. -/
def quantBackWrong : ChangeSpec := { name := "quantBack", fn := fun _ => fun
  | [d1, d2] => { results := [.lit (.bool false)], args := [d1, d2] }
  | _ => none }
def QuantBackWrongFalsely : Prop := quantBackRow.holds Tryd.pinned (OpenSpec.ofChange quantBackWrong)

/-- 'clerestorylaw08.QuantTurns': WHATEVER THE INPUT: true; the input reads as it did. -/
def quantTurnsSpec : ChangeSpec := { name := "quantTurns", fn := fun _ => fun
  | [d1, d2] => { results := [.lit (.bool true)], args := [d1, d2] }
  | _ => none }
def quantTurnsRow : OpenClaim := { program := "ytplfcapahmjmgaadoor", sum := "2ef3a3df93613a7bcb24606c7d0b24ff800e61c053ae853597e312ee02b09353", func := "clerestory/clerestorylaw08.QuantTurns", spec := "quantTurns", recurses := true, named := ["clerestory/quant.bright", "clerestory/quant.tinted"], apart := false, laid := [("clerestory/quant.bright", laid_clerestory_quant_bright), ("clerestory/quant.tinted", laid_clerestory_quant_tinted)] }
def QuantTurnsSaid : Prop := quantTurnsRow.holds Tryd.pinned (OpenSpec.ofChange quantTurnsSpec)

/-- ITS FALSE NEIGHBOUR: 'it returns false'. Refute it at one input. -/
def quantTurnsWrong : ChangeSpec := { name := "quantTurns", fn := fun _ => fun
  | [d1, d2] => { results := [.lit (.bool false)], args := [d1, d2] }
  | _ => none }
def QuantTurnsWrongFalsely : Prop := quantTurnsRow.holds Tryd.pinned (OpenSpec.ofChange quantTurnsWrong)

/- THE SECOND FORM. 'bulk': how many values and letters a reading holds, each counted each time it is reached (what is shared counts as often as it is met; a slice's spare places count too). A statement '..UptoSaid' is the law's where the arguments, and the package variables that the reading takes, are together of bulk at most 1048576: NARROWER than '..Said'. Prove '..Said' where nothing that the law and all that it calls make is longer than what came in: it says more and counts as full. Else prove '..UptoSaid'. A law counts once. -/
mutual
def uptoBulk {H : Type} : DataW H → Nat
  | .lit (.string bytes) => bytes.length + 1
  | .lit _ => 1
  | .nil => 1
  | .ptr d => uptoBulk d + 1
  | .slice elems spare => uptoBulkAll elems + uptoBulkAll spare + 1
  | .agg parts => uptoBulkAll parts + 1
  | .iface _ d => uptoBulk d + 1
  | .map entries => uptoBulkEntries entries + 1
  | .held _ => 1
def uptoBulkAll {H : Type} : List (DataW H) → Nat
  | [] => 0
  | d :: r => uptoBulk d + uptoBulkAll r
def uptoBulkEntries {H : Type} : List (Lit × DataW H) → Nat
  | [] => 0
  | x :: r => uptoBulkEntry x + uptoBulkEntries r
def uptoBulkEntry {H : Type} : Lit × DataW H → Nat
  | (.string bytes, d) => bytes.length + uptoBulk d + 1
  | (_, d) => uptoBulk d + 1
 end
def uptoSmall : (H : Type) → List (DataW H) → Bool := fun _ ds => decide (uptoBulkAll ds ≤ 1048576)
def OpenSpec.upto (s : _root_.Go.ChangeSpec) : _root_.Go.OpenSpec := { _root_.Go.OpenSpec.ofChange s with cond := some uptoSmall }

/-- 'clerestorylaw08.QuantRounds', WHERE WHAT IT READS IS OF BULK AT MOST 1048576: true; the input reads as it did. -/
def quantRoundsUptoRow : OpenClaim := { program := "ytplfcapahmjmgaadoor", sum := "2ef3a3df93613a7bcb24606c7d0b24ff800e61c053ae853597e312ee02b09353", func := "clerestory/clerestorylaw08.QuantRounds", spec := "quantRounds", recurses := true, named := ["clerestory/quant.bright", "clerestory/quant.tinted"], apart := false, laid := [("clerestory/quant.bright", laid_clerestory_quant_bright), ("clerestory/quant.tinted", laid_clerestory_quant_tinted)], narrowed := true }
def QuantRoundsUptoSaid : Prop := quantRoundsUptoRow.holds Tryd.pinned (OpenSpec.upto quantRoundsSpec)

/-- 'clerestorylaw08.QuantFiner', WHERE WHAT IT READS IS OF BULK AT MOST 1048576: true; the input reads as it did. -/
def quantFinerUptoRow : OpenClaim := { program := "ytplfcapahmjmgaadoor", sum := "2ef3a3df93613a7bcb24606c7d0b24ff800e61c053ae853597e312ee02b09353", func := "clerestory/clerestorylaw08.QuantFiner", spec := "quantFiner", recurses := true, named := ["clerestory/quant.bright", "clerestory/quant.tinted"], apart := false, laid := [("clerestory/quant.bright", laid_clerestory_quant_bright), ("clerestory/quant.tinted", laid_clerestory_quant_tinted)], narrowed := true }
def QuantFinerUptoSaid : Prop := quantFinerUptoRow.holds Tryd.pinned (OpenSpec.upto quantFinerSpec)

/-- 'clerestorylaw08.QuantSteps', WHERE WHAT IT READS IS OF BULK AT MOST 1048576: true; the input reads as it did. -/
def quantStepsUptoRow : OpenClaim := { program := "ytplfcapahmjmgaadoor", sum := "2ef3a3df93613a7bcb24606c7d0b24ff800e61c053ae853597e312ee02b09353", func := "clerestory/clerestorylaw08.QuantSteps", spec := "quantSteps", recurses := true, named := ["clerestory/quant.bright", "clerestory/quant.tinted"], apart := false, laid := [("clerestory/quant.bright", laid_clerestory_quant_bright), ("clerestory/quant.tinted", laid_clerestory_quant_tinted)], narrowed := true }
def QuantStepsUptoSaid : Prop := quantStepsUptoRow.holds Tryd.pinned (OpenSpec.upto quantStepsSpec)

/-- 'clerestorylaw08.QuantMoves', WHERE WHAT IT READS IS OF BULK AT MOST 1048576: true; the input reads as it did. -/
def quantMovesUptoRow : OpenClaim := { program := "ytplfcapahmjmgaadoor", sum := "2ef3a3df93613a7bcb24606c7d0b24ff800e61c053ae853597e312ee02b09353", func := "clerestory/clerestorylaw08.QuantMoves", spec := "quantMoves", recurses := true, named := ["clerestory/quant.bright", "clerestory/quant.tinted"], apart := false, laid := [("clerestory/quant.bright", laid_clerestory_quant_bright), ("clerestory/quant.tinted", laid_clerestory_quant_tinted)], narrowed := true }
def QuantMovesUptoSaid : Prop := quantMovesUptoRow.holds Tryd.pinned (OpenSpec.upto quantMovesSpec)

/-- 'clerestorylaw08.QuantBack', WHERE WHAT IT READS IS OF BULK AT MOST 1048576: true; the input reads as it did. -/
def quantBackUptoRow : OpenClaim := { program := "ytplfcapahmjmgaadoor", sum := "2ef3a3df93613a7bcb24606c7d0b24ff800e61c053ae853597e312ee02b09353", func := "clerestory/clerestorylaw08.QuantBack", spec := "quantBack", recurses := true, named := ["clerestory/quant.bright", "clerestory/quant.tinted"], apart := false, laid := [("clerestory/quant.bright", laid_clerestory_quant_bright), ("clerestory/quant.tinted", laid_clerestory_quant_tinted)], narrowed := true }
def QuantBackUptoSaid : Prop := quantBackUptoRow.holds Tryd.pinned (OpenSpec.upto quantBackSpec)

/-- 'clerestorylaw08.QuantTurns', WHERE WHAT IT READS IS OF BULK AT MOST 1048576: true; the input reads as it did. -/
def quantTurnsUptoRow : OpenClaim := { program := "ytplfcapahmjmgaadoor", sum := "2ef3a3df93613a7bcb24606c7d0b24ff800e61c053ae853597e312ee02b09353", func := "clerestory/clerestorylaw08.QuantTurns", spec := "quantTurns", recurses := true, named := ["clerestory/quant.bright", "clerestory/quant.tinted"], apart := false, laid := [("clerestory/quant.bright", laid_clerestory_quant_bright), ("clerestory/quant.tinted", laid_clerestory_quant_tinted)], narrowed := true }
def QuantTurnsUptoSaid : Prop := quantTurnsUptoRow.holds Tryd.pinned (OpenSpec.upto quantTurnsSpec)

end Rows
end Go.Proofs.YtplfcapahmjmgaaDoor
