/- HashjoinBucket: for all rows, key columns, numbers of parts and levels that hold together at most 1048576 values and letters, the law returns true. Condition: that bound (the Upto form). -/
import Derived.Lib.AtoiAllCases
import Derived.Test.YtklniminnejicaaGreatDoorT6
set_option linter.all false
namespace Go.Ev
end Go.Ev
namespace Go.Ev
end Go.Ev
namespace Go.Ev
def hd (P : UInt8 → Prop) (s : Str) : Prop := ∀ b, s.head? = some b → P b
end Go.Ev
namespace Go.Ev
end Go.Ev
namespace Go.Ev
end Go.Ev
namespace Go.Ev
end Go.Ev
namespace Go.Ev
end Go.Ev
