/-
  DERIVED. GIVEN WITH THE SEED: THE CARDS: each row of YtfpafpmcfkapkaaDoorRows.lean that lists a variable, with what it lists TIED to the program's text (the seventh form; the later family's looks); each row that meets fmt, with fmt's text TOLD by the authors' own Lean function (tested against real Go, not proved from fmt's source: count such statements apart). THE CARD IS WHAT COUNTS. Prove the row's statement (the work); the ties are given (YtfpafpmcfkapkaaDoorTie.lean); close each card by the builder's one call (the guide's Derived/Test/ToyasCard.lean, 'card_holds'). Laid BY PROGRAM, IN A SANDBOX (cutbox-door.mjs). By AI agents, Wed Nov 11 2026. No macro, syntax, notation, axiom, sorry.
-/
import Derived.Test.YtfpafpmcfkapkaaDoorRows
import GoSem.ClaimSeven
namespace Go.Proofs.YtfpafpmcfkapkaaDoor
namespace Rows

/-- THE TIED CARD OF 'clerestorylaw09.DctForward'. -/
def dctForwardCard : Claim7 := { stood := { row := dctForwardRow, standIns := [], harness := (true, "e563d281e17dc9a27730b5981416927bf9d7c9cf5a0e83fedb4d7277f4559b6a"), looks := false }, kinds := [], alts := [], laidByText := true, laidKinds := [.data], laidTests := true, laidLooks := .later }
def DctForwardCardSaid : Prop := Claim7.holds Tryd.pinned (.plain (OpenSpec.ofChange dctForwardSpec)) dctForwardCard

/-- THE TIED CARD OF 'clerestorylaw09.DctFlat'. -/
def dctFlatCard : Claim7 := { stood := { row := dctFlatRow, standIns := [], harness := (true, "e563d281e17dc9a27730b5981416927bf9d7c9cf5a0e83fedb4d7277f4559b6a"), looks := false }, kinds := [], alts := [], laidByText := true, laidKinds := [.data], laidTests := true, laidLooks := .later }
def DctFlatCardSaid : Prop := Claim7.holds Tryd.pinned (.plain (OpenSpec.ofChange dctFlatSpec)) dctFlatCard

/-- THE TIED CARD OF 'clerestorylaw10.HalfMerges'. -/
def halfMergesCard : Claim7 := { stood := { row := halfMergesRow, standIns := [], harness := (true, "e563d281e17dc9a27730b5981416927bf9d7c9cf5a0e83fedb4d7277f4559b6a"), looks := false }, kinds := [], alts := [], laidByText := true, laidKinds := [.data], laidTests := true, laidLooks := .later }
def HalfMergesCardSaid : Prop := Claim7.holds Tryd.pinned (.plain (OpenSpec.ofChange halfMergesSpec)) halfMergesCard

/-- THE TIED CARD OF 'clerestorylaw10.HalfNoughts'. -/
def halfNoughtsCard : Claim7 := { stood := { row := halfNoughtsRow, standIns := [], harness := (true, "e563d281e17dc9a27730b5981416927bf9d7c9cf5a0e83fedb4d7277f4559b6a"), looks := false }, kinds := [], alts := [], laidByText := true, laidKinds := [.data], laidTests := true, laidLooks := .later }
def HalfNoughtsCardSaid : Prop := Claim7.holds Tryd.pinned (.plain (OpenSpec.ofChange halfNoughtsSpec)) halfNoughtsCard

/-- THE TIED CARD OF 'clerestorylaw10.HalfTurned'. -/
def halfTurnedCard : Claim7 := { stood := { row := halfTurnedRow, standIns := [], harness := (true, "e563d281e17dc9a27730b5981416927bf9d7c9cf5a0e83fedb4d7277f4559b6a"), looks := false }, kinds := [], alts := [], laidByText := true, laidKinds := [.data], laidTests := true, laidLooks := .later }
def HalfTurnedCardSaid : Prop := Claim7.holds Tryd.pinned (.plain (OpenSpec.ofChange halfTurnedSpec)) halfTurnedCard

/-- THE TIED CARD OF 'clerestorylaw10.HalfSigns'. -/
def halfSignsCard : Claim7 := { stood := { row := halfSignsRow, standIns := [], harness := (true, "e563d281e17dc9a27730b5981416927bf9d7c9cf5a0e83fedb4d7277f4559b6a"), looks := false }, kinds := [], alts := [], laidByText := true, laidKinds := [.data], laidTests := true, laidLooks := .later }
def HalfSignsCardSaid : Prop := Claim7.holds Tryd.pinned (.plain (OpenSpec.ofChange halfSignsSpec)) halfSignsCard

/-- THE TIED CARD OF 'clerestorylaw09.DctInverse'. -/
def dctInverseCard : Claim7 := { stood := { row := dctInverseRow, standIns := [], harness := (true, "e563d281e17dc9a27730b5981416927bf9d7c9cf5a0e83fedb4d7277f4559b6a"), looks := false }, kinds := [], alts := [], laidByText := true, laidKinds := [.data], laidTests := true, laidLooks := .later }
def DctInverseCardSaid : Prop := Claim7.holds Tryd.pinned (.plain (OpenSpec.ofChange dctInverseSpec)) dctInverseCard

/-- THE TIED CARD OF 'clerestorylaw09.DctNear'. -/
def dctNearCard : Claim7 := { stood := { row := dctNearRow, standIns := [], harness := (true, "e563d281e17dc9a27730b5981416927bf9d7c9cf5a0e83fedb4d7277f4559b6a"), looks := false }, kinds := [], alts := [], laidByText := true, laidKinds := [.data], laidTests := true, laidLooks := .later }
def DctNearCardSaid : Prop := Claim7.holds Tryd.pinned (.plain (OpenSpec.ofChange dctNearSpec)) dctNearCard

/-- THE TIED CARD OF 'clerestorylaw09.DctTurns'. -/
def dctTurnsCard : Claim7 := { stood := { row := dctTurnsRow, standIns := [], harness := (true, "e563d281e17dc9a27730b5981416927bf9d7c9cf5a0e83fedb4d7277f4559b6a"), looks := false }, kinds := [], alts := [], laidByText := true, laidKinds := [.data], laidTests := true, laidLooks := .later }
def DctTurnsCardSaid : Prop := Claim7.holds Tryd.pinned (.plain (OpenSpec.ofChange dctTurnsSpec)) dctTurnsCard

/-- THE TIED CARD OF 'clerestorylaw09.DctTurned'. -/
def dctTurnedCard : Claim7 := { stood := { row := dctTurnedRow, standIns := [], harness := (true, "e563d281e17dc9a27730b5981416927bf9d7c9cf5a0e83fedb4d7277f4559b6a"), looks := false }, kinds := [], alts := [], laidByText := true, laidKinds := [.data], laidTests := true, laidLooks := .later }
def DctTurnedCardSaid : Prop := Claim7.holds Tryd.pinned (.plain (OpenSpec.ofChange dctTurnedSpec)) dctTurnedCard

/-- THE TIED CARD OF 'clerestorylaw10.HalfTold'. -/
def halfToldCard : Claim7 := { stood := { row := halfToldRow, standIns := [], harness := (true, "e563d281e17dc9a27730b5981416927bf9d7c9cf5a0e83fedb4d7277f4559b6a"), looks := false }, kinds := [], alts := [], laidByText := true, laidKinds := [.data], laidTests := true, laidLooks := .later }
def HalfToldCardSaid : Prop := Claim7.holds Tryd.pinned (.plain (OpenSpec.ofChange halfToldSpec)) halfToldCard

/-- THE TIED CARD OF 'clerestorylaw10.HalfFlat'. -/
def halfFlatCard : Claim7 := { stood := { row := halfFlatRow, standIns := [], harness := (true, "e563d281e17dc9a27730b5981416927bf9d7c9cf5a0e83fedb4d7277f4559b6a"), looks := false }, kinds := [], alts := [], laidByText := true, laidKinds := [.data], laidTests := true, laidLooks := .later }
def HalfFlatCardSaid : Prop := Claim7.holds Tryd.pinned (.plain (OpenSpec.ofChange halfFlatSpec)) halfFlatCard

/-- THE SECOND FORM's CARD OF 'clerestorylaw09.DctForward'. -/
def dctForwardUptoCard : Claim7 := { stood := { row := dctForwardUptoRow, standIns := [], harness := (true, "e563d281e17dc9a27730b5981416927bf9d7c9cf5a0e83fedb4d7277f4559b6a"), looks := false }, kinds := [], alts := [], laidByText := true, laidKinds := [.data], laidTests := true, laidLooks := .later }
def DctForwardUptoCardSaid : Prop := Claim7.holds Tryd.pinned (.plain (OpenSpec.upto dctForwardSpec)) dctForwardUptoCard

/-- THE SECOND FORM's CARD OF 'clerestorylaw09.DctFlat'. -/
def dctFlatUptoCard : Claim7 := { stood := { row := dctFlatUptoRow, standIns := [], harness := (true, "e563d281e17dc9a27730b5981416927bf9d7c9cf5a0e83fedb4d7277f4559b6a"), looks := false }, kinds := [], alts := [], laidByText := true, laidKinds := [.data], laidTests := true, laidLooks := .later }
def DctFlatUptoCardSaid : Prop := Claim7.holds Tryd.pinned (.plain (OpenSpec.upto dctFlatSpec)) dctFlatUptoCard

/-- THE SECOND FORM's CARD OF 'clerestorylaw10.HalfMerges'. -/
def halfMergesUptoCard : Claim7 := { stood := { row := halfMergesUptoRow, standIns := [], harness := (true, "e563d281e17dc9a27730b5981416927bf9d7c9cf5a0e83fedb4d7277f4559b6a"), looks := false }, kinds := [], alts := [], laidByText := true, laidKinds := [.data], laidTests := true, laidLooks := .later }
def HalfMergesUptoCardSaid : Prop := Claim7.holds Tryd.pinned (.plain (OpenSpec.upto halfMergesSpec)) halfMergesUptoCard

/-- THE SECOND FORM's CARD OF 'clerestorylaw10.HalfNoughts'. -/
def halfNoughtsUptoCard : Claim7 := { stood := { row := halfNoughtsUptoRow, standIns := [], harness := (true, "e563d281e17dc9a27730b5981416927bf9d7c9cf5a0e83fedb4d7277f4559b6a"), looks := false }, kinds := [], alts := [], laidByText := true, laidKinds := [.data], laidTests := true, laidLooks := .later }
def HalfNoughtsUptoCardSaid : Prop := Claim7.holds Tryd.pinned (.plain (OpenSpec.upto halfNoughtsSpec)) halfNoughtsUptoCard

/-- THE SECOND FORM's CARD OF 'clerestorylaw10.HalfTurned'. -/
def halfTurnedUptoCard : Claim7 := { stood := { row := halfTurnedUptoRow, standIns := [], harness := (true, "e563d281e17dc9a27730b5981416927bf9d7c9cf5a0e83fedb4d7277f4559b6a"), looks := false }, kinds := [], alts := [], laidByText := true, laidKinds := [.data], laidTests := true, laidLooks := .later }
def HalfTurnedUptoCardSaid : Prop := Claim7.holds Tryd.pinned (.plain (OpenSpec.upto halfTurnedSpec)) halfTurnedUptoCard

/-- THE SECOND FORM's CARD OF 'clerestorylaw10.HalfSigns'. -/
def halfSignsUptoCard : Claim7 := { stood := { row := halfSignsUptoRow, standIns := [], harness := (true, "e563d281e17dc9a27730b5981416927bf9d7c9cf5a0e83fedb4d7277f4559b6a"), looks := false }, kinds := [], alts := [], laidByText := true, laidKinds := [.data], laidTests := true, laidLooks := .later }
def HalfSignsUptoCardSaid : Prop := Claim7.holds Tryd.pinned (.plain (OpenSpec.upto halfSignsSpec)) halfSignsUptoCard

/-- THE SECOND FORM's CARD OF 'clerestorylaw09.DctInverse'. -/
def dctInverseUptoCard : Claim7 := { stood := { row := dctInverseUptoRow, standIns := [], harness := (true, "e563d281e17dc9a27730b5981416927bf9d7c9cf5a0e83fedb4d7277f4559b6a"), looks := false }, kinds := [], alts := [], laidByText := true, laidKinds := [.data], laidTests := true, laidLooks := .later }
def DctInverseUptoCardSaid : Prop := Claim7.holds Tryd.pinned (.plain (OpenSpec.upto dctInverseSpec)) dctInverseUptoCard

/-- THE SECOND FORM's CARD OF 'clerestorylaw09.DctNear'. -/
def dctNearUptoCard : Claim7 := { stood := { row := dctNearUptoRow, standIns := [], harness := (true, "e563d281e17dc9a27730b5981416927bf9d7c9cf5a0e83fedb4d7277f4559b6a"), looks := false }, kinds := [], alts := [], laidByText := true, laidKinds := [.data], laidTests := true, laidLooks := .later }
def DctNearUptoCardSaid : Prop := Claim7.holds Tryd.pinned (.plain (OpenSpec.upto dctNearSpec)) dctNearUptoCard

/-- THE SECOND FORM's CARD OF 'clerestorylaw09.DctTurns'. -/
def dctTurnsUptoCard : Claim7 := { stood := { row := dctTurnsUptoRow, standIns := [], harness := (true, "e563d281e17dc9a27730b5981416927bf9d7c9cf5a0e83fedb4d7277f4559b6a"), looks := false }, kinds := [], alts := [], laidByText := true, laidKinds := [.data], laidTests := true, laidLooks := .later }
def DctTurnsUptoCardSaid : Prop := Claim7.holds Tryd.pinned (.plain (OpenSpec.upto dctTurnsSpec)) dctTurnsUptoCard

/-- THE SECOND FORM's CARD OF 'clerestorylaw09.DctTurned'. -/
def dctTurnedUptoCard : Claim7 := { stood := { row := dctTurnedUptoRow, standIns := [], harness := (true, "e563d281e17dc9a27730b5981416927bf9d7c9cf5a0e83fedb4d7277f4559b6a"), looks := false }, kinds := [], alts := [], laidByText := true, laidKinds := [.data], laidTests := true, laidLooks := .later }
def DctTurnedUptoCardSaid : Prop := Claim7.holds Tryd.pinned (.plain (OpenSpec.upto dctTurnedSpec)) dctTurnedUptoCard

/-- THE SECOND FORM's CARD OF 'clerestorylaw10.HalfTold'. -/
def halfToldUptoCard : Claim7 := { stood := { row := halfToldUptoRow, standIns := [], harness := (true, "e563d281e17dc9a27730b5981416927bf9d7c9cf5a0e83fedb4d7277f4559b6a"), looks := false }, kinds := [], alts := [], laidByText := true, laidKinds := [.data], laidTests := true, laidLooks := .later }
def HalfToldUptoCardSaid : Prop := Claim7.holds Tryd.pinned (.plain (OpenSpec.upto halfToldSpec)) halfToldUptoCard

/-- THE SECOND FORM's CARD OF 'clerestorylaw10.HalfFlat'. -/
def halfFlatUptoCard : Claim7 := { stood := { row := halfFlatUptoRow, standIns := [], harness := (true, "e563d281e17dc9a27730b5981416927bf9d7c9cf5a0e83fedb4d7277f4559b6a"), looks := false }, kinds := [], alts := [], laidByText := true, laidKinds := [.data], laidTests := true, laidLooks := .later }
def HalfFlatUptoCardSaid : Prop := Claim7.holds Tryd.pinned (.plain (OpenSpec.upto halfFlatSpec)) halfFlatUptoCard
end Rows
end Go.Proofs.YtfpafpmcfkapkaaDoor
