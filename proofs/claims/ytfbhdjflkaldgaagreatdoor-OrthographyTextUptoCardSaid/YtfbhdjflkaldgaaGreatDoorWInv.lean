-- Cut by a program of this session (shake.py) out of a text that the kit's print.sh lays: what this claim uses of it.
import Derived.Test.YtfbhdjflkaldgaaGreatDoorWTab
/-! ### 57. A region of open order by ONE relation over what is listed so far: each operation is shown once, whatever came up before it -/
namespace Go.Proofs.YtfbhdjflkaldgaaGreatDoorW.PrintLast
section
variable {P:Program} {ops:Array Oper} {Q:Exit → Act → World → Prop} {md:Region.Mode} {T:Bool × List (List Nat × List Nat)} {B:List Nat} {O:List Nat} {b:Nat → Bool} {i j n:Nat}
end
end Go.Proofs.YtfbhdjflkaldgaaGreatDoorW.PrintLast
