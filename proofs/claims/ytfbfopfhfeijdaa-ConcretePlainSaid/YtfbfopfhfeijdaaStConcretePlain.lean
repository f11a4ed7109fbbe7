-- Written by a program of this session (ownprint.py, over the kit's printer). Not trusted: Lean checks it.
import Derived.Test.YtfbfopfhfeijdaaKinds
import Derived.Test.YtfbfopfhfeijdaaPrF4
namespace Go.Proofs.Ytfbfopfhfeijdaa.PuConcretePlain
open Go.RowKit Go.Proofs.Ytfbfopfhfeijdaa.Pr Go.Proofs.Ytfbfopfhfeijdaa.Opn
def Said : Prop := ∀ (a0 : ByteArray) (l1 : List (List (S37))), Ms.string.good a0 → (Ms.slice (Ms.slice ms37)).good l1 → ∃ k, pentaglotlaw33_ConcretePlain.f k a0 l1 = some true
def Upto : Prop := ∀ (a0 : ByteArray) (l1 : List (List (S37))), Ms.string.good a0 → (Ms.slice (Ms.slice ms37)).good l1 → Ms.string.bulk a0 + (Ms.slice (Ms.slice ms37)).bulk l1 ≤ 1048576 → ∃ k, pentaglotlaw33_ConcretePlain.f k a0 l1 = some true
theorem Said.upto (h : Said) : Upto := fun a0 l1 g0 g1 _ => h a0 l1 g0 g1
end Go.Proofs.Ytfbfopfhfeijdaa.PuConcretePlain
