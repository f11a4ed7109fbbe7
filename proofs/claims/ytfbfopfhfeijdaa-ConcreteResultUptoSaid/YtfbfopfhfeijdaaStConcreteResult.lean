-- Written by a program of this session (ownprint.py, over the kit's printer). Not trusted: Lean checks it.
import Derived.Test.YtfbfopfhfeijdaaKinds
import Derived.Test.YtfbfopfhfeijdaaPrF8
namespace Go.Proofs.Ytfbfopfhfeijdaa.PuConcreteResult
open Go.RowKit Go.Proofs.Ytfbfopfhfeijdaa.Pr Go.Proofs.Ytfbfopfhfeijdaa.Opn
def Said : Prop := ∀ (a0_0 : ByteArray) (l0_1 : List (List (S37))) (l0_2 : List (S37)) (l0_3 : List (S88)) (l1 : List (List (S37))), (Ms.pair Ms.string (Ms.pair (Ms.slice (Ms.slice ms37)) (Ms.pair (Ms.slice ms37) (Ms.slice ms88)))).good (a0_0, l0_1, l0_2, l0_3) → (Ms.slice (Ms.slice ms37)).good l1 → ∃ k, pentaglotlaw33_ConcreteResult.f k a0_0 l0_1 l0_2 l0_3 l1 = some true
def Upto : Prop := ∀ (a0_0 : ByteArray) (l0_1 : List (List (S37))) (l0_2 : List (S37)) (l0_3 : List (S88)) (l1 : List (List (S37))), (Ms.pair Ms.string (Ms.pair (Ms.slice (Ms.slice ms37)) (Ms.pair (Ms.slice ms37) (Ms.slice ms88)))).good (a0_0, l0_1, l0_2, l0_3) → (Ms.slice (Ms.slice ms37)).good l1 → (Ms.pair Ms.string (Ms.pair (Ms.slice (Ms.slice ms37)) (Ms.pair (Ms.slice ms37) (Ms.slice ms88)))).bulk (a0_0, l0_1, l0_2, l0_3) + (Ms.slice (Ms.slice ms37)).bulk l1 ≤ 1048576 → ∃ k, pentaglotlaw33_ConcreteResult.f k a0_0 l0_1 l0_2 l0_3 l1 = some true
theorem Said.upto (h : Said) : Upto := fun a0_0 l0_1 l0_2 l0_3 l1 g0 g1 _ => h a0_0 l0_1 l0_2 l0_3 l1 g0 g1
end Go.Proofs.Ytfbfopfhfeijdaa.PuConcreteResult
