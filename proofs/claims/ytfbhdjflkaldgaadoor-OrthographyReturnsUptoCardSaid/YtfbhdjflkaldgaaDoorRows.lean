/-
  NARROWER THAN 'FOR EVERY INPUT', by the rows' own cells (each row's printed sentence says how): OrthographyDivides: laid · OrthographyWords: laid · OrthographyReturns: laid.
  DERIVED. THE GIVEN ROWS OF THIS SEAT. 3 by the template 'for every input the law returns true; each argument reads behind the call as it read before'; 0 by the template 'total and deterministic' (their statements: YtfbhdjflkaldgaaDoorTotals.lean).
  GIVEN WITH THE SEED: the statements are not yours to turn. If you find one false, say at which input.
  Laid BY PROGRAM, IN A SANDBOX (cutbox-rows.mjs): the forced cells as the released guide's own fill.sh prints them over the translation 912092d2aa79e9c1… (all of the seat's roots in one cut). By AI agents, Wed Nov 11 2026. No macro, syntax, notation, axiom, sorry.
-/
import Derived.Test.YtfbhdjflkaldgaaDoorChecked
import GoSem.PinnedTables
import GoSem.Claim
import GoSem.ClaimJoined
import GoSem.ClaimMapViews
import Derived.JoinedTies
import Derived.KernelRfl
namespace Go.Proofs.YtfbhdjflkaldgaaDoor
/- THE CELL 'sum', in the pinned program and in every row, IS THE sha256 OF THE DUMP (.gsa) THAT YtfbhdjflkaldgaaDoorProg.lean LOADS. Nothing in Lean hashes anything: it is a label: what it is worth is what the hold of that sum in a sandbox is worth. -/
noncomputable def Tryd.pinned : Pinned := { name := "ytfbhdjflkaldgaadoor", sum := "912092d2aa79e9c1472c95328d844a817a5935396e3bb18952d2b75cb4933fc7", checked := Tryd.checked }
namespace Rows
def none {H : Type} : Left H := { results := [], args := [] }

/- WHAT THE LISTED PACKAGE-LEVEL VARIABLES READ AS WHEN THE CALL BEGINS. Each datum BY PROGRAM (the guide's laid-datum.mjs) off the statement by which the dump's own 'gosem.cut.vars' lays the variable. In a bare row this is a premise. The card (YtfbhdjflkaldgaaDoorCards.lean) ties it to the program's text. -/
def laid_unicode_utf8_acceptRanges {H : Type} : DataW H := .agg [.agg [.lit (.int .u8 128), .lit (.int .u8 191)], .agg [.lit (.int .u8 160), .lit (.int .u8 191)], .agg [.lit (.int .u8 128), .lit (.int .u8 159)], .agg [.lit (.int .u8 144), .lit (.int .u8 191)], .agg [.lit (.int .u8 128), .lit (.int .u8 143)], .agg [.lit (.int .u8 0), .lit (.int .u8 0)], .agg [.lit (.int .u8 0), .lit (.int .u8 0)], .agg [.lit (.int .u8 0), .lit (.int .u8 0)], .agg [.lit (.int .u8 0), .lit (.int .u8 0)], .agg [.lit (.int .u8 0), .lit (.int .u8 0)], .agg [.lit (.int .u8 0), .lit (.int .u8 0)], .agg [.lit (.int .u8 0), .lit (.int .u8 0)], .agg [.lit (.int .u8 0), .lit (.int .u8 0)], .agg [.lit (.int .u8 0), .lit (.int .u8 0)], .agg [.lit (.int .u8 0), .lit (.int .u8 0)], .agg [.lit (.int .u8 0), .lit (.int .u8 0)]]
/-- One of Go's own tables, pinned by name: the form's constant. -/
def laid_unicode_utf8_first : DataW Unit := Go.Pinned.utf8First

/-- 'pentaglotlaw42.OrthographyDivides': WHATEVER THE INPUT: true; the input reads as it did. -/
def orthographyDividesSpec : ChangeSpec := { name := "orthographyDivides", fn := fun _ => fun
  | [d1, d2] => { results := [.lit (.bool true)], args := [d1, d2] }
  | _ => none }
def orthographyDividesRow : OpenClaim := { program := "ytfbhdjflkaldgaadoor", sum := "912092d2aa79e9c1472c95328d844a817a5935396e3bb18952d2b75cb4933fc7", func := "pentaglot/pentaglotlaw42.OrthographyDivides", spec := "orthographyDivides", inPlace := ["internal/bytealg.IndexByteString", "internal/abi.NoEscape", "internal/bytealg.MakeNoZero"], unfollowed := true, recurses := true, named := ["unicode/utf8.first", "unicode/utf8.acceptRanges"], apart := false, laid := [("unicode/utf8.acceptRanges", laid_unicode_utf8_acceptRanges), ("unicode/utf8.first", laid_unicode_utf8_first)] }
def OrthographyDividesSaid : Prop := orthographyDividesRow.holds Tryd.pinned (OpenSpec.ofChange orthographyDividesSpec)

/-- ITS FALSE NEIGHBOUR: 'it returns false'. Refute it at one input. -/
def orthographyDividesWrong : ChangeSpec := { name := "orthographyDivides", fn := fun _ => fun
  | [d1, d2] => { results := [.lit (.bool false)], args := [d1, d2] }
  | _ => none }
def OrthographyDividesWrongFalsely : Prop := orthographyDividesRow.holds Tryd.pinned (OpenSpec.ofChange orthographyDividesWrong)

/-- 'pentaglotlaw42.OrthographyWords': WHATEVER THE INPUT: true; the input reads as it did. -/
def orthographyWordsSpec : ChangeSpec := { name := "orthographyWords", fn := fun _ => fun
  | [d1, d2] => { results := [.lit (.bool true)], args := [d1, d2] }
  | _ => none }
def orthographyWordsRow : OpenClaim := { program := "ytfbhdjflkaldgaadoor", sum := "912092d2aa79e9c1472c95328d844a817a5935396e3bb18952d2b75cb4933fc7", func := "pentaglot/pentaglotlaw42.OrthographyWords", spec := "orthographyWords", inPlace := ["internal/bytealg.IndexByteString", "internal/abi.NoEscape", "internal/bytealg.MakeNoZero"], unfollowed := true, recurses := true, named := ["unicode/utf8.first", "unicode/utf8.acceptRanges"], apart := false, laid := [("unicode/utf8.acceptRanges", laid_unicode_utf8_acceptRanges), ("unicode/utf8.first", laid_unicode_utf8_first)] }
def OrthographyWordsSaid : Prop := orthographyWordsRow.holds Tryd.pinned (OpenSpec.ofChange orthographyWordsSpec)

/-- ITS FALSE NEIGHBOUR: 'it returns false'. Refute it at one input. -/
def orthographyWordsWrong : ChangeSpec := { name := "orthographyWords", fn := fun _ => fun
  | [d1, d2] => { results := [.lit (.bool false)], args := [d1, d2] }
  | _ => none }
def OrthographyWordsWrongFalsely : Prop := orthographyWordsRow.holds Tryd.pinned (OpenSpec.ofChange orthographyWordsWrong)

/-- 'pentaglotlaw42.OrthographyReturns': WHATEVER THE INPUT: true; the input reads as it did. -/
def orthographyReturnsSpec : ChangeSpec := { name := "orthographyReturns", fn := fun _ => fun
  | [d1, d2] => { results := [.lit (.bool true)], args := [d1, d2] }
  | _ => none }
def orthographyReturnsRow : OpenClaim := { program := "ytfbhdjflkaldgaadoor", sum := "912092d2aa79e9c1472c95328d844a817a5935396e3bb18952d2b75cb4933fc7", func := "pentaglot/pentaglotlaw42.OrthographyReturns", spec := "orthographyReturns", inPlace := ["internal/bytealg.IndexByteString", "internal/abi.NoEscape", "internal/bytealg.MakeNoZero"], unfollowed := true, recurses := true, named := ["unicode/utf8.first", "unicode/utf8.acceptRanges"], apart := false, laid := [("unicode/utf8.acceptRanges", laid_unicode_utf8_acceptRanges), ("unicode/utf8.first", laid_unicode_utf8_first)] }
def OrthographyReturnsSaid : Prop := orthographyReturnsRow.holds Tryd.pinned (OpenSpec.ofChange orthographyReturnsSpec)

/-- ITS FALSE NEIGHBOUR: 'it returns false'. Refute it at one input. -/
def orthographyReturnsWrong : ChangeSpec := { name := "orthographyReturns", fn := fun _ => fun
  | [d1, d2] => { results := [.lit (.bool false)], args := [d1, d2] }
  | _ => none }
def OrthographyReturnsWrongFalsely : Prop := orthographyReturnsRow.holds Tryd.pinned (OpenSpec.ofChange orthographyReturnsWrong)

/- THE SECOND FORM. 'bulk': how many values and letters a reading holds, each counted each time it is reached (what is shared counts as often as it is met; a slice's spare places count too). A statement '..UptoSaid' is the law's where the arguments, and the package variables that the reading takes, are together of bulk at most 1048576: NARROWER than '..Said'. Prove '..Said' where nothing that the law and all that it calls make is longer than what came in: it says more and counts as full. Else prove '..UptoSaid'. A law counts once. -/
mutual
def uptoBulk {H : Type} : DataW H → Nat
  | .lit (.string bytes) => bytes.length + 1
  | .lit _ => 1
  | .nil => 1
  | .ptr d => uptoBulk d + 1
  | .slice elems spare => uptoBulkAll elems + uptoBulkAll spare + 1
  | .agg parts => uptoBulkAll parts + 1
  | .iface _ d => uptoBulk d + 1
  | .map entries => uptoBulkEntries entries + 1
  | .held _ => 1
def uptoBulkAll {H : Type} : List (DataW H) → Nat
  | [] => 0
  | d :: r => uptoBulk d + uptoBulkAll r
def uptoBulkEntries {H : Type} : List (Lit × DataW H) → Nat
  | [] => 0
  | x :: r => uptoBulkEntry x + uptoBulkEntries r
def uptoBulkEntry {H : Type} : Lit × DataW H → Nat
  | (.string bytes, d) => bytes.length + uptoBulk d + 1
  | (_, d) => uptoBulk d + 1
 end
def uptoSmall : (H : Type) → List (DataW H) → Bool := fun _ ds => decide (uptoBulkAll ds ≤ 1048576)
def OpenSpec.upto (s : _root_.Go.ChangeSpec) : _root_.Go.OpenSpec := { _root_.Go.OpenSpec.ofChange s with cond := some uptoSmall }

/-- 'pentaglotlaw42.OrthographyDivides', WHERE WHAT IT READS IS OF BULK AT MOST 1048576: true; the input reads as it did. -/
def orthographyDividesUptoRow : OpenClaim := { program := "ytfbhdjflkaldgaadoor", sum := "912092d2aa79e9c1472c95328d844a817a5935396e3bb18952d2b75cb4933fc7", func := "pentaglot/pentaglotlaw42.OrthographyDivides", spec := "orthographyDivides", inPlace := ["internal/bytealg.IndexByteString", "internal/abi.NoEscape", "internal/bytealg.MakeNoZero"], unfollowed := true, recurses := true, named := ["unicode/utf8.first", "unicode/utf8.acceptRanges"], apart := false, laid := [("unicode/utf8.acceptRanges", laid_unicode_utf8_acceptRanges), ("unicode/utf8.first", laid_unicode_utf8_first)], narrowed := true }
def OrthographyDividesUptoSaid : Prop := orthographyDividesUptoRow.holds Tryd.pinned (OpenSpec.upto orthographyDividesSpec)

/-- 'pentaglotlaw42.OrthographyWords', WHERE WHAT IT READS IS OF BULK AT MOST 1048576: true; the input reads as it did. -/
def orthographyWordsUptoRow : OpenClaim := { program := "ytfbhdjflkaldgaadoor", sum := "912092d2aa79e9c1472c95328d844a817a5935396e3bb18952d2b75cb4933fc7", func := "pentaglot/pentaglotlaw42.OrthographyWords", spec := "orthographyWords", inPlace := ["internal/bytealg.IndexByteString", "internal/abi.NoEscape", "internal/bytealg.MakeNoZero"], unfollowed := true, recurses := true, named := ["unicode/utf8.first", "unicode/utf8.acceptRanges"], apart := false, laid := [("unicode/utf8.acceptRanges", laid_unicode_utf8_acceptRanges), ("unicode/utf8.first", laid_unicode_utf8_first)], narrowed := true }
def OrthographyWordsUptoSaid : Prop := orthographyWordsUptoRow.holds Tryd.pinned (OpenSpec.upto orthographyWordsSpec)

/-- 'pentaglotlaw42.OrthographyReturns', WHERE WHAT IT READS IS OF BULK AT MOST 1048576: true; the input reads as it did. -/
def orthographyReturnsUptoRow : OpenClaim := { program := "ytfbhdjflkaldgaadoor", sum := "912092d2aa79e9c1472c95328d844a817a5935396e3bb18952d2b75cb4933fc7", func := "pentaglot/pentaglotlaw42.OrthographyReturns", spec := "orthographyReturns", inPlace := ["internal/bytealg.IndexByteString", "internal/abi.NoEscape", "internal/bytealg.MakeNoZero"], unfollowed := true, recurses := true, named := ["unicode/utf8.first", "unicode/utf8.acceptRanges"], apart := false, laid := [("unicode/utf8.acceptRanges", laid_unicode_utf8_acceptRanges), ("unicode/utf8.first", laid_unicode_utf8_first)], narrowed := true }
def OrthographyReturnsUptoSaid : Prop := orthographyReturnsUptoRow.holds Tryd.pinned (OpenSpec.upto orthographyReturnsSpec)

end Rows
end Go.Proofs.YtfbhdjflkaldgaaDoor
