/-
  DERIVED. GIVEN WITH THE SEED: THE CARDS: each row of YtfbhdjflkaldgaaDoorRows.lean that lists a variable, with what it lists TIED to the program's text (the seventh form; the later family's looks); each row that meets fmt, with fmt's text TOLD by the authors' own Lean function (tested against real Go, not proved from fmt's source: count such statements apart). THE CARD IS WHAT COUNTS. Prove the row's statement (the work); the ties are given (YtfbhdjflkaldgaaDoorTie.lean); close each card by the builder's one call (the guide's Derived/Test/ToyasCard.lean, 'card_holds'). Laid BY PROGRAM, IN A SANDBOX (cutbox-door.mjs). By AI agents, Wed Nov 11 2026. No macro, syntax, notation, axiom, sorry.
-/
import Derived.Test.YtfbhdjflkaldgaaDoorRows
import GoSem.ClaimSeven
namespace Go.Proofs.YtfbhdjflkaldgaaDoor
namespace Rows

/-- THE TIED CARD OF 'pentaglotlaw42.OrthographyDivides'. -/
def orthographyDividesCard : Claim7 := { stood := { row := orthographyDividesRow, standIns := [], harness := (true, "7cb486db33c4c7ba68e1bd1160913e22426243b37fb68b2fa49248ef2dcad7a1"), looks := false }, kinds := [], alts := [], laidByText := true, laidKinds := [.data, .pinned], laidTests := true, laidLooks := .later }
def OrthographyDividesCardSaid : Prop := Claim7.holds Tryd.pinned (.plain (OpenSpec.ofChange orthographyDividesSpec)) orthographyDividesCard

/-- THE TIED CARD OF 'pentaglotlaw42.OrthographyWords'. -/
def orthographyWordsCard : Claim7 := { stood := { row := orthographyWordsRow, standIns := [], harness := (true, "7cb486db33c4c7ba68e1bd1160913e22426243b37fb68b2fa49248ef2dcad7a1"), looks := false }, kinds := [], alts := [], laidByText := true, laidKinds := [.data, .pinned], laidTests := true, laidLooks := .later }
def OrthographyWordsCardSaid : Prop := Claim7.holds Tryd.pinned (.plain (OpenSpec.ofChange orthographyWordsSpec)) orthographyWordsCard

/-- THE TIED CARD OF 'pentaglotlaw42.OrthographyReturns'. -/
def orthographyReturnsCard : Claim7 := { stood := { row := orthographyReturnsRow, standIns := [], harness := (true, "7cb486db33c4c7ba68e1bd1160913e22426243b37fb68b2fa49248ef2dcad7a1"), looks := false }, kinds := [], alts := [], laidByText := true, laidKinds := [.data, .pinned], laidTests := true, laidLooks := .later }
def OrthographyReturnsCardSaid : Prop := Claim7.holds Tryd.pinned (.plain (OpenSpec.ofChange orthographyReturnsSpec)) orthographyReturnsCard

/-- THE SECOND FORM's CARD OF 'pentaglotlaw42.OrthographyDivides'. -/
def orthographyDividesUptoCard : Claim7 := { stood := { row := orthographyDividesUptoRow, standIns := [], harness := (true, "7cb486db33c4c7ba68e1bd1160913e22426243b37fb68b2fa49248ef2dcad7a1"), looks := false }, kinds := [], alts := [], laidByText := true, laidKinds := [.data, .pinned], laidTests := true, laidLooks := .later }
def OrthographyDividesUptoCardSaid : Prop := Claim7.holds Tryd.pinned (.plain (OpenSpec.upto orthographyDividesSpec)) orthographyDividesUptoCard

/-- THE SECOND FORM's CARD OF 'pentaglotlaw42.OrthographyWords'. -/
def orthographyWordsUptoCard : Claim7 := { stood := { row := orthographyWordsUptoRow, standIns := [], harness := (true, "7cb486db33c4c7ba68e1bd1160913e22426243b37fb68b2fa49248ef2dcad7a1"), looks := false }, kinds := [], alts := [], laidByText := true, laidKinds := [.data, .pinned], laidTests := true, laidLooks := .later }
def OrthographyWordsUptoCardSaid : Prop := Claim7.holds Tryd.pinned (.plain (OpenSpec.upto orthographyWordsSpec)) orthographyWordsUptoCard

/-- THE SECOND FORM's CARD OF 'pentaglotlaw42.OrthographyReturns'. -/
def orthographyReturnsUptoCard : Claim7 := { stood := { row := orthographyReturnsUptoRow, standIns := [], harness := (true, "7cb486db33c4c7ba68e1bd1160913e22426243b37fb68b2fa49248ef2dcad7a1"), looks := false }, kinds := [], alts := [], laidByText := true, laidKinds := [.data, .pinned], laidTests := true, laidLooks := .later }
def OrthographyReturnsUptoCardSaid : Prop := Claim7.holds Tryd.pinned (.plain (OpenSpec.upto orthographyReturnsSpec)) orthographyReturnsUptoCard
end Rows
end Go.Proofs.YtfbhdjflkaldgaaDoor
