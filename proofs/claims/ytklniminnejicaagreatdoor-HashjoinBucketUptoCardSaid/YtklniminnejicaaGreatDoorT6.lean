/- HashjoinBucket: for all rows, key columns, numbers of parts and levels that hold together at most 1048576 values and letters, the law returns true. Condition: that bound (the Upto form). -/
import Derived.Lib.AtoiAll
import Derived.Test.YtklniminnejicaaGreatDoorT4
import Derived.Test.YtklniminnejicaaGreatDoorT5
set_option linter.all false
namespace Go.Ev
def zmH (s : Str) : Int × Bool := match Lib.atoiAll s with
 | .ok v => (v, true)
 | .range => (Lib.atoiSat s, false)
 | _ => (0, false)
end Go.Ev
