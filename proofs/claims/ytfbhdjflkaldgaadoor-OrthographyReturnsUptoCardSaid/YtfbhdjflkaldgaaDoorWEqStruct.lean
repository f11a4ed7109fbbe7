import Derived.Test.YtfbhdjflkaldgaaDoorWWords
import Derived.Laws.StructEq
