-- Written by a program of this session (ownprint.py, over the kit's printer). Not trusted: Lean checks it.
import Derived.Test.YtfbfopfhfeijdaaKinds
import Derived.Test.YtfbfopfhfeijdaaWeak
namespace Go.Proofs.Ytfbfopfhfeijdaa.PuConcreteWeaker
open Go.RowKit Go.Proofs.Ytfbfopfhfeijdaa.Pr Go.Proofs.Ytfbfopfhfeijdaa.Opn
def Said : Prop := ∀ (a0_0 : ByteArray) (l0_1 : List (List (S37))) (l0_2 : List (S37)) (l0_3 : List (S88)) (l1 : List (List (S37))) (a2 : Int) (a3 : Int), (Ms.pair Ms.string (Ms.pair (Ms.slice (Ms.slice ms37)) (Ms.pair (Ms.slice ms37) (Ms.slice ms88)))).good (a0_0, l0_1, l0_2, l0_3) → (Ms.slice (Ms.slice ms37)).good l1 → (Ms.int .i64).good a2 → (Ms.int .i64).good a3 → ∃ k, pentaglotlaw33_ConcreteWeaker.f k a0_0 l0_1 l0_2 l0_3 l1 a2 a3 = some true
def Upto : Prop := ∀ (a0_0 : ByteArray) (l0_1 : List (List (S37))) (l0_2 : List (S37)) (l0_3 : List (S88)) (l1 : List (List (S37))) (a2 : Int) (a3 : Int), (Ms.pair Ms.string (Ms.pair (Ms.slice (Ms.slice ms37)) (Ms.pair (Ms.slice ms37) (Ms.slice ms88)))).good (a0_0, l0_1, l0_2, l0_3) → (Ms.slice (Ms.slice ms37)).good l1 → (Ms.int .i64).good a2 → (Ms.int .i64).good a3 → (Ms.pair Ms.string (Ms.pair (Ms.slice (Ms.slice ms37)) (Ms.pair (Ms.slice ms37) (Ms.slice ms88)))).bulk (a0_0, l0_1, l0_2, l0_3) + (Ms.slice (Ms.slice ms37)).bulk l1 + (Ms.int .i64).bulk a2 + (Ms.int .i64).bulk a3 ≤ 1048576 → ∃ k, pentaglotlaw33_ConcreteWeaker.f k a0_0 l0_1 l0_2 l0_3 l1 a2 a3 = some true
theorem Said.upto (h : Said) : Upto := fun a0_0 l0_1 l0_2 l0_3 l1 a2 a3 g0 g1 g2 g3 _ => h a0_0 l0_1 l0_2 l0_3 l1 a2 a3 g0 g1 g2 g3
end Go.Proofs.Ytfbfopfhfeijdaa.PuConcreteWeaker
