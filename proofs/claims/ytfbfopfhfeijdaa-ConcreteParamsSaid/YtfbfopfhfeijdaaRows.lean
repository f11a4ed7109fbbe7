/-
  No cell of these rows narrows 'for every input' (looked for: loops, veiled, ifaces, maps, wideKeys, modest, calm, conditions, laid).
  DERIVED. THE GIVEN ROWS OF THIS SEAT. 9 by the template 'for every input the law returns true; each argument reads behind the call as it read before'; 0 by the template 'total and deterministic' (their statements: YtfbfopfhfeijdaaTotals.lean).
  GIVEN WITH THE SEED: the statements are not yours to turn. If you find one false, say at which input.
  Laid BY PROGRAM, IN A SANDBOX (cutbox-rows.mjs): the forced cells as the released guide's own fill.sh prints them over the translation 84ec3c9c183cadf2… (all of the seat's roots in one cut). By AI agents, Wed Nov 11 2026. No macro, syntax, notation, axiom, sorry.
-/
import Derived.Test.YtfbfopfhfeijdaaChecked
import GoSem.Claim
import GoSem.ClaimJoined
import GoSem.ClaimMapViews
import Derived.JoinedTies
import Derived.KernelRfl
namespace Go.Proofs.Ytfbfopfhfeijdaa
/- THE CELL 'sum', in the pinned program and in every row, IS THE sha256 OF THE DUMP (.gsa) THAT YtfbfopfhfeijdaaProg.lean LOADS. Nothing in Lean hashes anything: it is a label: what it is worth is what the hold of that sum in a sandbox is worth. -/
noncomputable def Try.pinned : Pinned := { name := "ytfbfopfhfeijdaa", sum := "84ec3c9c183cadf23b727596294a4351899455d05b8377d4b2ef55dc6692d459", checked := Try.checked }
namespace Rows
def none {H : Type} : Left H := { results := [], args := [] }

/-- 'pentaglotlaw33.ConcreteTemplate': WHATEVER THE INPUT: true; the input reads as it did. -/
def concreteTemplateSpec : ChangeSpec := { name := "concreteTemplate", fn := fun _ => fun
  | [d1, d2] => { results := [.lit (.bool true)], args := [d1, d2] }
  | _ => none }
def concreteTemplateRow : OpenClaim := { program := "ytfbfopfhfeijdaa", sum := "84ec3c9c183cadf23b727596294a4351899455d05b8377d4b2ef55dc6692d459", func := "pentaglot/pentaglotlaw33.ConcreteTemplate", spec := "concreteTemplate", inPlace := ["internal/bytealg.IndexByteString", "internal/bytealg.IndexString", "internal/abi.NoEscape"], unfollowed := true, recurses := true, named := ["internal/bytealg.MaxLen"], apart := false }
def ConcreteTemplateSaid : Prop := concreteTemplateRow.holds Try.pinned (OpenSpec.ofChange concreteTemplateSpec)

/-- ITS FALSE NEIGHBOUR: 'it returns false'. Refute it at one input. -/
def concreteTemplateWrong : ChangeSpec := { name := "concreteTemplate", fn := fun _ => fun
  | [d1, d2] => { results := [.lit (.bool false)], args := [d1, d2] }
  | _ => none }
def ConcreteTemplateWrongFalsely : Prop := concreteTemplateRow.holds Try.pinned (OpenSpec.ofChange concreteTemplateWrong)

/-- 'pentaglotlaw33.ConcretePlain': WHATEVER THE INPUT: true; the input reads as it did. -/
def concretePlainSpec : ChangeSpec := { name := "concretePlain", fn := fun _ => fun
  | [d1, d2] => { results := [.lit (.bool true)], args := [d1, d2] }
  | _ => none }
def concretePlainRow : OpenClaim := { program := "ytfbfopfhfeijdaa", sum := "84ec3c9c183cadf23b727596294a4351899455d05b8377d4b2ef55dc6692d459", func := "pentaglot/pentaglotlaw33.ConcretePlain", spec := "concretePlain", inPlace := ["internal/bytealg.IndexByteString", "internal/bytealg.IndexString", "internal/abi.NoEscape"], unfollowed := true, recurses := true, named := ["internal/bytealg.MaxLen"], apart := false }
def ConcretePlainSaid : Prop := concretePlainRow.holds Try.pinned (OpenSpec.ofChange concretePlainSpec)

/-- ITS FALSE NEIGHBOUR: 'it returns false'. Refute it at one input. -/
def concretePlainWrong : ChangeSpec := { name := "concretePlain", fn := fun _ => fun
  | [d1, d2] => { results := [.lit (.bool false)], args := [d1, d2] }
  | _ => none }
def ConcretePlainWrongFalsely : Prop := concretePlainRow.holds Try.pinned (OpenSpec.ofChange concretePlainWrong)

/-- 'pentaglotlaw33.ConcreteJoins': WHATEVER THE INPUT: true; the input reads as it did. -/
def concreteJoinsSpec : ChangeSpec := { name := "concreteJoins", fn := fun _ => fun
  | [d1, d2, d3] => { results := [.lit (.bool true)], args := [d1, d2, d3] }
  | _ => none }
def concreteJoinsRow : OpenClaim := { program := "ytfbfopfhfeijdaa", sum := "84ec3c9c183cadf23b727596294a4351899455d05b8377d4b2ef55dc6692d459", func := "pentaglot/pentaglotlaw33.ConcreteJoins", spec := "concreteJoins", inPlace := ["internal/bytealg.IndexByteString", "internal/bytealg.IndexString", "internal/abi.NoEscape"], unfollowed := true, recurses := true, named := ["internal/bytealg.MaxLen"], apart := false }
def ConcreteJoinsSaid : Prop := concreteJoinsRow.holds Try.pinned (OpenSpec.ofChange concreteJoinsSpec)

/-- ITS FALSE NEIGHBOUR: 'it returns false'. Refute it at one input. -/
def concreteJoinsWrong : ChangeSpec := { name := "concreteJoins", fn := fun _ => fun
  | [d1, d2, d3] => { results := [.lit (.bool false)], args := [d1, d2, d3] }
  | _ => none }
def ConcreteJoinsWrongFalsely : Prop := concreteJoinsRow.holds Try.pinned (OpenSpec.ofChange concreteJoinsWrong)

/-- 'pentaglotlaw33.ConcreteApplies': WHATEVER THE INPUT: true; the input reads as it did. -/
def concreteAppliesSpec : ChangeSpec := { name := "concreteApplies", fn := fun _ => fun
  | [d1, d2] => { results := [.lit (.bool true)], args := [d1, d2] }
  | _ => none }
def concreteAppliesRow : OpenClaim := { program := "ytfbfopfhfeijdaa", sum := "84ec3c9c183cadf23b727596294a4351899455d05b8377d4b2ef55dc6692d459", func := "pentaglot/pentaglotlaw33.ConcreteApplies", spec := "concreteApplies", inPlace := ["internal/bytealg.IndexByteString", "internal/bytealg.IndexString", "internal/abi.NoEscape"], unfollowed := true, recurses := true, named := ["internal/bytealg.MaxLen"], apart := false }
def ConcreteAppliesSaid : Prop := concreteAppliesRow.holds Try.pinned (OpenSpec.ofChange concreteAppliesSpec)

/-- ITS FALSE NEIGHBOUR: 'it returns false'. Refute it at one input. -/
def concreteAppliesWrong : ChangeSpec := { name := "concreteApplies", fn := fun _ => fun
  | [d1, d2] => { results := [.lit (.bool false)], args := [d1, d2] }
  | _ => none }
def ConcreteAppliesWrongFalsely : Prop := concreteAppliesRow.holds Try.pinned (OpenSpec.ofChange concreteAppliesWrong)

/-- 'pentaglotlaw33.ConcreteWeaker': WHATEVER THE INPUT: true; the input reads as it did. -/
def concreteWeakerSpec : ChangeSpec := { name := "concreteWeaker", fn := fun _ => fun
  | [d1, d2, d3, d4] => { results := [.lit (.bool true)], args := [d1, d2, d3, d4] }
  | _ => none }
def concreteWeakerRow : OpenClaim := { program := "ytfbfopfhfeijdaa", sum := "84ec3c9c183cadf23b727596294a4351899455d05b8377d4b2ef55dc6692d459", func := "pentaglot/pentaglotlaw33.ConcreteWeaker", spec := "concreteWeaker", inPlace := ["internal/bytealg.IndexByteString", "internal/bytealg.IndexString", "internal/abi.NoEscape"], unfollowed := true, recurses := true, named := ["internal/bytealg.MaxLen"], apart := false }
def ConcreteWeakerSaid : Prop := concreteWeakerRow.holds Try.pinned (OpenSpec.ofChange concreteWeakerSpec)

/-- ITS FALSE NEIGHBOUR: 'it returns false'. Refute it at one input. -/
def concreteWeakerWrong : ChangeSpec := { name := "concreteWeaker", fn := fun _ => fun
  | [d1, d2, d3, d4] => { results := [.lit (.bool false)], args := [d1, d2, d3, d4] }
  | _ => none }
def ConcreteWeakerWrongFalsely : Prop := concreteWeakerRow.holds Try.pinned (OpenSpec.ofChange concreteWeakerWrong)

/-- 'pentaglotlaw33.ConcreteResult': WHATEVER THE INPUT: true; the input reads as it did. -/
def concreteResultSpec : ChangeSpec := { name := "concreteResult", fn := fun _ => fun
  | [d1, d2] => { results := [.lit (.bool true)], args := [d1, d2] }
  | _ => none }
def concreteResultRow : OpenClaim := { program := "ytfbfopfhfeijdaa", sum := "84ec3c9c183cadf23b727596294a4351899455d05b8377d4b2ef55dc6692d459", func := "pentaglot/pentaglotlaw33.ConcreteResult", spec := "concreteResult", inPlace := ["internal/bytealg.IndexByteString", "internal/bytealg.IndexString", "internal/abi.NoEscape"], unfollowed := true, recurses := true, named := ["internal/bytealg.MaxLen"], apart := false }
def ConcreteResultSaid : Prop := concreteResultRow.holds Try.pinned (OpenSpec.ofChange concreteResultSpec)

/-- ITS FALSE NEIGHBOUR: 'it returns false'. Refute it at one input. -/
def concreteResultWrong : ChangeSpec := { name := "concreteResult", fn := fun _ => fun
  | [d1, d2] => { results := [.lit (.bool false)], args := [d1, d2] }
  | _ => none }
def ConcreteResultWrongFalsely : Prop := concreteResultRow.holds Try.pinned (OpenSpec.ofChange concreteResultWrong)

/-- 'pentaglotlaw33.ConcreteChoose': WHATEVER THE INPUT: true; the input reads as it did. -/
def concreteChooseSpec : ChangeSpec := { name := "concreteChoose", fn := fun _ => fun
  | [d1, d2, d3] => { results := [.lit (.bool true)], args := [d1, d2, d3] }
  | _ => none }
def concreteChooseRow : OpenClaim := { program := "ytfbfopfhfeijdaa", sum := "84ec3c9c183cadf23b727596294a4351899455d05b8377d4b2ef55dc6692d459", func := "pentaglot/pentaglotlaw33.ConcreteChoose", spec := "concreteChoose", inPlace := ["internal/bytealg.IndexByteString", "internal/bytealg.IndexString", "internal/abi.NoEscape"], unfollowed := true, recurses := true, named := ["internal/bytealg.MaxLen"], apart := false }
def ConcreteChooseSaid : Prop := concreteChooseRow.holds Try.pinned (OpenSpec.ofChange concreteChooseSpec)

/-- ITS FALSE NEIGHBOUR: 'it returns false'. Refute it at one input. -/
def concreteChooseWrong : ChangeSpec := { name := "concreteChoose", fn := fun _ => fun
  | [d1, d2, d3] => { results := [.lit (.bool false)], args := [d1, d2, d3] }
  | _ => none }
def ConcreteChooseWrongFalsely : Prop := concreteChooseRow.holds Try.pinned (OpenSpec.ofChange concreteChooseWrong)

/-- 'pentaglotlaw33.ConcreteFind': WHATEVER THE INPUT: true; the input reads as it did. -/
def concreteFindSpec : ChangeSpec := { name := "concreteFind", fn := fun _ => fun
  | [d1, d2] => { results := [.lit (.bool true)], args := [d1, d2] }
  | _ => none }
def concreteFindRow : OpenClaim := { program := "ytfbfopfhfeijdaa", sum := "84ec3c9c183cadf23b727596294a4351899455d05b8377d4b2ef55dc6692d459", func := "pentaglot/pentaglotlaw33.ConcreteFind", spec := "concreteFind", inPlace := ["internal/bytealg.IndexByteString", "internal/bytealg.IndexString", "internal/abi.NoEscape"], unfollowed := true, recurses := true, named := ["internal/bytealg.MaxLen"], apart := false }
def ConcreteFindSaid : Prop := concreteFindRow.holds Try.pinned (OpenSpec.ofChange concreteFindSpec)

/-- ITS FALSE NEIGHBOUR: 'it returns false'. Refute it at one input. -/
def concreteFindWrong : ChangeSpec := { name := "concreteFind", fn := fun _ => fun
  | [d1, d2] => { results := [.lit (.bool false)], args := [d1, d2] }
  | _ => none }
def ConcreteFindWrongFalsely : Prop := concreteFindRow.holds Try.pinned (OpenSpec.ofChange concreteFindWrong)

/-- 'pentaglotlaw33.ConcreteParams': WHATEVER THE INPUT: true; the input reads as it did. -/
def concreteParamsSpec : ChangeSpec := { name := "concreteParams", fn := fun _ => fun
  | [d] => { results := [.lit (.bool true)], args := [d] }
  | _ => none }
def concreteParamsRow : OpenClaim := { program := "ytfbfopfhfeijdaa", sum := "84ec3c9c183cadf23b727596294a4351899455d05b8377d4b2ef55dc6692d459", func := "pentaglot/pentaglotlaw33.ConcreteParams", spec := "concreteParams", inPlace := ["internal/bytealg.IndexByteString", "internal/bytealg.IndexString", "internal/abi.NoEscape"], unfollowed := true, recurses := true, named := ["internal/bytealg.MaxLen"], apart := false }
def ConcreteParamsSaid : Prop := concreteParamsRow.holds Try.pinned (OpenSpec.ofChange concreteParamsSpec)

/-- ITS FALSE NEIGHBOUR: 'it returns false'. Refute it at one input. -/
def concreteParamsWrong : ChangeSpec := { name := "concreteParams", fn := fun _ => fun
  | [d] => { results := [.lit (.bool false)], args := [d] }
  | _ => none }
def ConcreteParamsWrongFalsely : Prop := concreteParamsRow.holds Try.pinned (OpenSpec.ofChange concreteParamsWrong)

/- THE SECOND FORM. 'bulk': how many values and letters a reading holds, each counted each time it is reached (what is shared counts as often as it is met; a slice's spare places count too). A statement '..UptoSaid' is the law's where the arguments, and the package variables that the reading takes, are together of bulk at most 1048576: NARROWER than '..Said'. Prove '..Said' where nothing that the law and all that it calls make is longer than what came in: it says more and counts as full. Else prove '..UptoSaid'. A law counts once. -/
mutual
def uptoBulk {H : Type} : DataW H → Nat
  | .lit (.string bytes) => bytes.length + 1
  | .lit _ => 1
  | .nil => 1
  | .ptr d => uptoBulk d + 1
  | .slice elems spare => uptoBulkAll elems + uptoBulkAll spare + 1
  | .agg parts => uptoBulkAll parts + 1
  | .iface _ d => uptoBulk d + 1
  | .map entries => uptoBulkEntries entries + 1
  | .held _ => 1
def uptoBulkAll {H : Type} : List (DataW H) → Nat
  | [] => 0
  | d :: r => uptoBulk d + uptoBulkAll r
def uptoBulkEntries {H : Type} : List (Lit × DataW H) → Nat
  | [] => 0
  | x :: r => uptoBulkEntry x + uptoBulkEntries r
def uptoBulkEntry {H : Type} : Lit × DataW H → Nat
  | (.string bytes, d) => bytes.length + uptoBulk d + 1
  | (_, d) => uptoBulk d + 1
 end
def uptoSmall : (H : Type) → List (DataW H) → Bool := fun _ ds => decide (uptoBulkAll ds ≤ 1048576)
def OpenSpec.upto (s : _root_.Go.ChangeSpec) : _root_.Go.OpenSpec := { _root_.Go.OpenSpec.ofChange s with cond := some uptoSmall }

/-- 'pentaglotlaw33.ConcreteTemplate', WHERE WHAT IT READS IS OF BULK AT MOST 1048576: true; the input reads as it did. -/
def concreteTemplateUptoRow : OpenClaim := { program := "ytfbfopfhfeijdaa", sum := "84ec3c9c183cadf23b727596294a4351899455d05b8377d4b2ef55dc6692d459", func := "pentaglot/pentaglotlaw33.ConcreteTemplate", spec := "concreteTemplate", inPlace := ["internal/bytealg.IndexByteString", "internal/bytealg.IndexString", "internal/abi.NoEscape"], unfollowed := true, recurses := true, named := ["internal/bytealg.MaxLen"], apart := false, narrowed := true }
def ConcreteTemplateUptoSaid : Prop := concreteTemplateUptoRow.holds Try.pinned (OpenSpec.upto concreteTemplateSpec)

/-- 'pentaglotlaw33.ConcretePlain', WHERE WHAT IT READS IS OF BULK AT MOST 1048576: true; the input reads as it did. -/
def concretePlainUptoRow : OpenClaim := { program := "ytfbfopfhfeijdaa", sum := "84ec3c9c183cadf23b727596294a4351899455d05b8377d4b2ef55dc6692d459", func := "pentaglot/pentaglotlaw33.ConcretePlain", spec := "concretePlain", inPlace := ["internal/bytealg.IndexByteString", "internal/bytealg.IndexString", "internal/abi.NoEscape"], unfollowed := true, recurses := true, named := ["internal/bytealg.MaxLen"], apart := false, narrowed := true }
def ConcretePlainUptoSaid : Prop := concretePlainUptoRow.holds Try.pinned (OpenSpec.upto concretePlainSpec)

/-- 'pentaglotlaw33.ConcreteJoins', WHERE WHAT IT READS IS OF BULK AT MOST 1048576: true; the input reads as it did. -/
def concreteJoinsUptoRow : OpenClaim := { program := "ytfbfopfhfeijdaa", sum := "84ec3c9c183cadf23b727596294a4351899455d05b8377d4b2ef55dc6692d459", func := "pentaglot/pentaglotlaw33.ConcreteJoins", spec := "concreteJoins", inPlace := ["internal/bytealg.IndexByteString", "internal/bytealg.IndexString", "internal/abi.NoEscape"], unfollowed := true, recurses := true, named := ["internal/bytealg.MaxLen"], apart := false, narrowed := true }
def ConcreteJoinsUptoSaid : Prop := concreteJoinsUptoRow.holds Try.pinned (OpenSpec.upto concreteJoinsSpec)

/-- 'pentaglotlaw33.ConcreteApplies', WHERE WHAT IT READS IS OF BULK AT MOST 1048576: true; the input reads as it did. -/
def concreteAppliesUptoRow : OpenClaim := { program := "ytfbfopfhfeijdaa", sum := "84ec3c9c183cadf23b727596294a4351899455d05b8377d4b2ef55dc6692d459", func := "pentaglot/pentaglotlaw33.ConcreteApplies", spec := "concreteApplies", inPlace := ["internal/bytealg.IndexByteString", "internal/bytealg.IndexString", "internal/abi.NoEscape"], unfollowed := true, recurses := true, named := ["internal/bytealg.MaxLen"], apart := false, narrowed := true }
def ConcreteAppliesUptoSaid : Prop := concreteAppliesUptoRow.holds Try.pinned (OpenSpec.upto concreteAppliesSpec)

/-- 'pentaglotlaw33.ConcreteWeaker', WHERE WHAT IT READS IS OF BULK AT MOST 1048576: true; the input reads as it did. -/
def concreteWeakerUptoRow : OpenClaim := { program := "ytfbfopfhfeijdaa", sum := "84ec3c9c183cadf23b727596294a4351899455d05b8377d4b2ef55dc6692d459", func := "pentaglot/pentaglotlaw33.ConcreteWeaker", spec := "concreteWeaker", inPlace := ["internal/bytealg.IndexByteString", "internal/bytealg.IndexString", "internal/abi.NoEscape"], unfollowed := true, recurses := true, named := ["internal/bytealg.MaxLen"], apart := false, narrowed := true }
def ConcreteWeakerUptoSaid : Prop := concreteWeakerUptoRow.holds Try.pinned (OpenSpec.upto concreteWeakerSpec)

/-- 'pentaglotlaw33.ConcreteResult', WHERE WHAT IT READS IS OF BULK AT MOST 1048576: true; the input reads as it did. -/
def concreteResultUptoRow : OpenClaim := { program := "ytfbfopfhfeijdaa", sum := "84ec3c9c183cadf23b727596294a4351899455d05b8377d4b2ef55dc6692d459", func := "pentaglot/pentaglotlaw33.ConcreteResult", spec := "concreteResult", inPlace := ["internal/bytealg.IndexByteString", "internal/bytealg.IndexString", "internal/abi.NoEscape"], unfollowed := true, recurses := true, named := ["internal/bytealg.MaxLen"], apart := false, narrowed := true }
def ConcreteResultUptoSaid : Prop := concreteResultUptoRow.holds Try.pinned (OpenSpec.upto concreteResultSpec)

/-- 'pentaglotlaw33.ConcreteChoose', WHERE WHAT IT READS IS OF BULK AT MOST 1048576: true; the input reads as it did. -/
def concreteChooseUptoRow : OpenClaim := { program := "ytfbfopfhfeijdaa", sum := "84ec3c9c183cadf23b727596294a4351899455d05b8377d4b2ef55dc6692d459", func := "pentaglot/pentaglotlaw33.ConcreteChoose", spec := "concreteChoose", inPlace := ["internal/bytealg.IndexByteString", "internal/bytealg.IndexString", "internal/abi.NoEscape"], unfollowed := true, recurses := true, named := ["internal/bytealg.MaxLen"], apart := false, narrowed := true }
def ConcreteChooseUptoSaid : Prop := concreteChooseUptoRow.holds Try.pinned (OpenSpec.upto concreteChooseSpec)

/-- 'pentaglotlaw33.ConcreteFind', WHERE WHAT IT READS IS OF BULK AT MOST 1048576: true; the input reads as it did. -/
def concreteFindUptoRow : OpenClaim := { program := "ytfbfopfhfeijdaa", sum := "84ec3c9c183cadf23b727596294a4351899455d05b8377d4b2ef55dc6692d459", func := "pentaglot/pentaglotlaw33.ConcreteFind", spec := "concreteFind", inPlace := ["internal/bytealg.IndexByteString", "internal/bytealg.IndexString", "internal/abi.NoEscape"], unfollowed := true, recurses := true, named := ["internal/bytealg.MaxLen"], apart := false, narrowed := true }
def ConcreteFindUptoSaid : Prop := concreteFindUptoRow.holds Try.pinned (OpenSpec.upto concreteFindSpec)

/-- 'pentaglotlaw33.ConcreteParams', WHERE WHAT IT READS IS OF BULK AT MOST 1048576: true; the input reads as it did. -/
def concreteParamsUptoRow : OpenClaim := { program := "ytfbfopfhfeijdaa", sum := "84ec3c9c183cadf23b727596294a4351899455d05b8377d4b2ef55dc6692d459", func := "pentaglot/pentaglotlaw33.ConcreteParams", spec := "concreteParams", inPlace := ["internal/bytealg.IndexByteString", "internal/bytealg.IndexString", "internal/abi.NoEscape"], unfollowed := true, recurses := true, named := ["internal/bytealg.MaxLen"], apart := false, narrowed := true }
def ConcreteParamsUptoSaid : Prop := concreteParamsUptoRow.holds Try.pinned (OpenSpec.upto concreteParamsSpec)

end Rows
end Go.Proofs.Ytfbfopfhfeijdaa
