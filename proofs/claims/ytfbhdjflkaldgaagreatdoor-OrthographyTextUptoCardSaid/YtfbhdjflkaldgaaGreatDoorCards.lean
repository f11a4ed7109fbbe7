/-
  DERIVED. GIVEN WITH THE SEED: THE CARDS: each row of YtfbhdjflkaldgaaGreatDoorRows.lean that lists a variable, with what it lists TIED to the program's text (the seventh form; the later family's looks); each row that meets fmt, with fmt's text TOLD by the authors' own Lean function (tested against real Go, not proved from fmt's source: count such statements apart). THE CARD IS WHAT COUNTS. Prove the row's statement (the work); the ties are given (YtfbhdjflkaldgaaGreatDoorTie.lean); close each card by the builder's one call (the guide's Derived/Test/ToyasCard.lean, 'card_holds'). Laid BY PROGRAM, IN A SANDBOX (cutbox-door.mjs). By AI agents, Wed Nov 11 2026. No macro, syntax, notation, axiom, sorry.
-/
import Derived.Test.YtfbhdjflkaldgaaGreatDoorRows
import GoSem.ClaimSeven
namespace Go.Proofs.YtfbhdjflkaldgaaGreatDoor
namespace Rows

/-- THE TIED CARD OF 'pentaglotlaw42.OrthographySentence'. -/
def orthographySentenceCard : Claim7 := { stood := { row := orthographySentenceRow, standIns := [], harness := (true, "638c69b22faf3770e1d57cbee47acf7a61266c9a6583b52840d998c6eb2d428b"), looks := false }, kinds := [], alts := [], laidByText := true, laidKinds := [.data, .pinned], laidTests := true, laidLooks := .later }
def OrthographySentenceCardSaid : Prop := Claim7.holds Tryz.pinned (.plain (OpenSpec.ofChange orthographySentenceSpec)) orthographySentenceCard

/-- THE TIED CARD OF 'pentaglotlaw42.OrthographyText'. -/
def orthographyTextCard : Claim7 := { stood := { row := orthographyTextRow, standIns := [], harness := (true, "638c69b22faf3770e1d57cbee47acf7a61266c9a6583b52840d998c6eb2d428b"), looks := false }, kinds := [], alts := [], laidByText := true, laidKinds := [.data, .pinned], laidTests := true, laidLooks := .later }
def OrthographyTextCardSaid : Prop := Claim7.holds Tryz.pinned (.plain (OpenSpec.ofChange orthographyTextSpec)) orthographyTextCard

/-- THE SECOND FORM's CARD OF 'pentaglotlaw42.OrthographySentence'. -/
def orthographySentenceUptoCard : Claim7 := { stood := { row := orthographySentenceUptoRow, standIns := [], harness := (true, "638c69b22faf3770e1d57cbee47acf7a61266c9a6583b52840d998c6eb2d428b"), looks := false }, kinds := [], alts := [], laidByText := true, laidKinds := [.data, .pinned], laidTests := true, laidLooks := .later }
def OrthographySentenceUptoCardSaid : Prop := Claim7.holds Tryz.pinned (.plain (OpenSpec.upto orthographySentenceSpec)) orthographySentenceUptoCard

/-- THE SECOND FORM's CARD OF 'pentaglotlaw42.OrthographyText'. -/
def orthographyTextUptoCard : Claim7 := { stood := { row := orthographyTextUptoRow, standIns := [], harness := (true, "638c69b22faf3770e1d57cbee47acf7a61266c9a6583b52840d998c6eb2d428b"), looks := false }, kinds := [], alts := [], laidByText := true, laidKinds := [.data, .pinned], laidTests := true, laidLooks := .later }
def OrthographyTextUptoCardSaid : Prop := Claim7.holds Tryz.pinned (.plain (OpenSpec.upto orthographyTextSpec)) orthographyTextUptoCard
end Rows
end Go.Proofs.YtfbhdjflkaldgaaGreatDoor
