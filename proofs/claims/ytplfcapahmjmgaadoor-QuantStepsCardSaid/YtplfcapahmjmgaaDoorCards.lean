/-
  DERIVED. GIVEN WITH THE SEED: THE CARDS: each row of YtplfcapahmjmgaaDoorRows.lean that lists a variable, with what it lists TIED to the program's text (the seventh form; the later family's looks); each row that meets fmt, with fmt's text TOLD by the authors' own Lean function (tested against real Go, not proved from fmt's source: count such statements apart). THE CARD IS WHAT COUNTS. Prove the row's statement (the work); the ties are given (YtplfcapahmjmgaaDoorTie.lean); close each card by the builder's one call (the guide's Derived/Test/ToyasCard.lean, 'card_holds'). Laid BY PROGRAM, IN A SANDBOX (cutbox-door.mjs). By AI agents, Wed Nov 11 2026. No macro, syntax, notation, axiom, sorry.
-/
import Derived.Test.YtplfcapahmjmgaaDoorRows
import GoSem.ClaimSeven
namespace Go.Proofs.YtplfcapahmjmgaaDoor
namespace Rows

/-- THE TIED CARD OF 'clerestorylaw08.QuantRounds'. -/
def quantRoundsCard : Claim7 := { stood := { row := quantRoundsRow, standIns := [], harness := (true, "fe3206c595848101edde27c3b73d9cd89f089a38a12dcc03c61340fb9bbb85ce"), looks := false }, kinds := [], alts := [], laidByText := true, laidKinds := [.data, .data], laidTests := true, laidLooks := .later }
def QuantRoundsCardSaid : Prop := Claim7.holds Tryd.pinned (.plain (OpenSpec.ofChange quantRoundsSpec)) quantRoundsCard

/-- THE TIED CARD OF 'clerestorylaw08.QuantFiner'. -/
def quantFinerCard : Claim7 := { stood := { row := quantFinerRow, standIns := [], harness := (true, "fe3206c595848101edde27c3b73d9cd89f089a38a12dcc03c61340fb9bbb85ce"), looks := false }, kinds := [], alts := [], laidByText := true, laidKinds := [.data, .data], laidTests := true, laidLooks := .later }
def QuantFinerCardSaid : Prop := Claim7.holds Tryd.pinned (.plain (OpenSpec.ofChange quantFinerSpec)) quantFinerCard

/-- THE TIED CARD OF 'clerestorylaw08.QuantSteps'. -/
def quantStepsCard : Claim7 := { stood := { row := quantStepsRow, standIns := [], harness := (true, "fe3206c595848101edde27c3b73d9cd89f089a38a12dcc03c61340fb9bbb85ce"), looks := false }, kinds := [], alts := [], laidByText := true, laidKinds := [.data, .data], laidTests := true, laidLooks := .later }
def QuantStepsCardSaid : Prop := Claim7.holds Tryd.pinned (.plain (OpenSpec.ofChange quantStepsSpec)) quantStepsCard

/-- THE TIED CARD OF 'clerestorylaw08.QuantMoves'. -/
def quantMovesCard : Claim7 := { stood := { row := quantMovesRow, standIns := [], harness := (true, "fe3206c595848101edde27c3b73d9cd89f089a38a12dcc03c61340fb9bbb85ce"), looks := false }, kinds := [], alts := [], laidByText := true, laidKinds := [.data, .data], laidTests := true, laidLooks := .later }
def QuantMovesCardSaid : Prop := Claim7.holds Tryd.pinned (.plain (OpenSpec.ofChange quantMovesSpec)) quantMovesCard

/-- THE TIED CARD OF 'clerestorylaw08.QuantBack'. -/
def quantBackCard : Claim7 := { stood := { row := quantBackRow, standIns := [], harness := (true, "fe3206c595848101edde27c3b73d9cd89f089a38a12dcc03c61340fb9bbb85ce"), looks := false }, kinds := [], alts := [], laidByText := true, laidKinds := [.data, .data], laidTests := true, laidLooks := .later }
def QuantBackCardSaid : Prop := Claim7.holds Tryd.pinned (.plain (OpenSpec.ofChange quantBackSpec)) quantBackCard

/-- THE TIED CARD OF 'clerestorylaw08.QuantTurns'. -/
def quantTurnsCard : Claim7 := { stood := { row := quantTurnsRow, standIns := [], harness := (true, "fe3206c595848101edde27c3b73d9cd89f089a38a12dcc03c61340fb9bbb85ce"), looks := false }, kinds := [], alts := [], laidByText := true, laidKinds := [.data, .data], laidTests := true, laidLooks := .later }
def QuantTurnsCardSaid : Prop := Claim7.holds Tryd.pinned (.plain (OpenSpec.ofChange quantTurnsSpec)) quantTurnsCard

/-- THE SECOND FORM's CARD OF 'clerestorylaw08.QuantRounds'. -/
def quantRoundsUptoCard : Claim7 := { stood := { row := quantRoundsUptoRow, standIns := [], harness := (true, "fe3206c595848101edde27c3b73d9cd89f089a38a12dcc03c61340fb9bbb85ce"), looks := false }, kinds := [], alts := [], laidByText := true, laidKinds := [.data, .data], laidTests := true, laidLooks := .later }
def QuantRoundsUptoCardSaid : Prop := Claim7.holds Tryd.pinned (.plain (OpenSpec.upto quantRoundsSpec)) quantRoundsUptoCard

/-- THE SECOND FORM's CARD OF 'clerestorylaw08.QuantFiner'. -/
def quantFinerUptoCard : Claim7 := { stood := { row := quantFinerUptoRow, standIns := [], harness := (true, "fe3206c595848101edde27c3b73d9cd89f089a38a12dcc03c61340fb9bbb85ce"), looks := false }, kinds := [], alts := [], laidByText := true, laidKinds := [.data, .data], laidTests := true, laidLooks := .later }
def QuantFinerUptoCardSaid : Prop := Claim7.holds Tryd.pinned (.plain (OpenSpec.upto quantFinerSpec)) quantFinerUptoCard

/-- THE SECOND FORM's CARD OF 'clerestorylaw08.QuantSteps'. -/
def quantStepsUptoCard : Claim7 := { stood := { row := quantStepsUptoRow, standIns := [], harness := (true, "fe3206c595848101edde27c3b73d9cd89f089a38a12dcc03c61340fb9bbb85ce"), looks := false }, kinds := [], alts := [], laidByText := true, laidKinds := [.data, .data], laidTests := true, laidLooks := .later }
def QuantStepsUptoCardSaid : Prop := Claim7.holds Tryd.pinned (.plain (OpenSpec.upto quantStepsSpec)) quantStepsUptoCard

/-- THE SECOND FORM's CARD OF 'clerestorylaw08.QuantMoves'. -/
def quantMovesUptoCard : Claim7 := { stood := { row := quantMovesUptoRow, standIns := [], harness := (true, "fe3206c595848101edde27c3b73d9cd89f089a38a12dcc03c61340fb9bbb85ce"), looks := false }, kinds := [], alts := [], laidByText := true, laidKinds := [.data, .data], laidTests := true, laidLooks := .later }
def QuantMovesUptoCardSaid : Prop := Claim7.holds Tryd.pinned (.plain (OpenSpec.upto quantMovesSpec)) quantMovesUptoCard

/-- THE SECOND FORM's CARD OF 'clerestorylaw08.QuantBack'. -/
def quantBackUptoCard : Claim7 := { stood := { row := quantBackUptoRow, standIns := [], harness := (true, "fe3206c595848101edde27c3b73d9cd89f089a38a12dcc03c61340fb9bbb85ce"), looks := false }, kinds := [], alts := [], laidByText := true, laidKinds := [.data, .data], laidTests := true, laidLooks := .later }
def QuantBackUptoCardSaid : Prop := Claim7.holds Tryd.pinned (.plain (OpenSpec.upto quantBackSpec)) quantBackUptoCard

/-- THE SECOND FORM's CARD OF 'clerestorylaw08.QuantTurns'. -/
def quantTurnsUptoCard : Claim7 := { stood := { row := quantTurnsUptoRow, standIns := [], harness := (true, "fe3206c595848101edde27c3b73d9cd89f089a38a12dcc03c61340fb9bbb85ce"), looks := false }, kinds := [], alts := [], laidByText := true, laidKinds := [.data, .data], laidTests := true, laidLooks := .later }
def QuantTurnsUptoCardSaid : Prop := Claim7.holds Tryd.pinned (.plain (OpenSpec.upto quantTurnsSpec)) quantTurnsUptoCard
end Rows
end Go.Proofs.YtplfcapahmjmgaaDoor
