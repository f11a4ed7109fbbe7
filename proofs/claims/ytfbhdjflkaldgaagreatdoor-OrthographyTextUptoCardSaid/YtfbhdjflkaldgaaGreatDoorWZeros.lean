-- Cut by a program of this session (shake.py) out of a text that the kit's print.sh lays: what this claim uses of it.
import Derived.Test.YtfbhdjflkaldgaaGreatDoorWApart
import Derived.Test.YtfbhdjflkaldgaaGreatDoorWArr
/-! ### 42. append(v, make([]T, n)...): the operation comes as_ append with the number in the second place -/
namespace Go.Proofs.YtfbhdjflkaldgaaGreatDoorW.PrintWords
open Go.RowKit
namespace Kd
end Kd
end Go.Proofs.YtfbhdjflkaldgaaGreatDoorW.PrintWords
