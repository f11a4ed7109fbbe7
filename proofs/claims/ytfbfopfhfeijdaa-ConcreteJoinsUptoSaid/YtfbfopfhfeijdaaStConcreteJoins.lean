-- Written by a program of this session (ownprint.py, over the kit's printer). Not trusted: Lean checks it.
import Derived.Test.YtfbfopfhfeijdaaKinds
import Derived.Test.YtfbfopfhfeijdaaPrF5
namespace Go.Proofs.Ytfbfopfhfeijdaa.PuConcreteJoins
open Go.RowKit Go.Proofs.Ytfbfopfhfeijdaa.Pr Go.Proofs.Ytfbfopfhfeijdaa.Opn
def Said : Prop := ∀ (a0 : ByteArray) (a1 : ByteArray) (l2 : List (List (S37))), Ms.string.good a0 → Ms.string.good a1 → (Ms.slice (Ms.slice ms37)).good l2 → ∃ k, pentaglotlaw33_ConcreteJoins.f k a0 a1 l2 = some true
def Upto : Prop := ∀ (a0 : ByteArray) (a1 : ByteArray) (l2 : List (List (S37))), Ms.string.good a0 → Ms.string.good a1 → (Ms.slice (Ms.slice ms37)).good l2 → Ms.string.bulk a0 + Ms.string.bulk a1 + (Ms.slice (Ms.slice ms37)).bulk l2 ≤ 1048576 → ∃ k, pentaglotlaw33_ConcreteJoins.f k a0 a1 l2 = some true
theorem Said.upto (h : Said) : Upto := fun a0 a1 l2 g0 g1 g2 _ => h a0 a1 l2 g0 g1 g2
end Go.Proofs.Ytfbfopfhfeijdaa.PuConcreteJoins
