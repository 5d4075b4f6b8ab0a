/- Lemmas of the claim; no condition. -/
import Derived.Test.YtgdcbjligbnpgaaK8
import Derived.Test.YtgdcbjligbnpgaaHfYJ
set_option linter.all false
set_option maxRecDepth 100000
set_option maxHeartbeats 40000000
namespace Go.Proofs.Ytgdcbjligbnpgaa
open Go.RowKit
namespace Pl
end Pl
open Pl
attribute [local go_sem ↓] Go.wp_at_zero Go.wp_at_succ
section
open Go.Maps (int_keyed keyOf_int_mk)
end
section
open Go.RowKit Pl Go.Maps
end
def Plan.of:List Nat→Plan→Plan
 | [],p=>p
 | i::is,p=> .go i (Plan.of is p)
section
attribute [local irreducible] wpAlone
end
end Go.Proofs.Ytgdcbjligbnpgaa
