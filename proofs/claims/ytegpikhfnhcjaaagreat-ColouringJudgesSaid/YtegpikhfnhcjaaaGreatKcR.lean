/- Facts of the runs. Printed by wip/facts4.py. -/
import Derived.Test.YtegpikhfnhcjaaaGreatKcC
import Derived.Test.YtegpikhfnhcjaaaGreatKc1
import Derived.Test.YtegpikhfnhcjaaaGreatKc2
import Derived.Test.YtegpikhfnhcjaaaGreatKc3
namespace Go.Proofs.YtegpikhfnhcjaaaGreat
namespace Ev
open Go
set_option maxRecDepth 1000000
end Ev
end Go.Proofs.YtegpikhfnhcjaaaGreat
