/- Lemmas of the claim; no condition. -/
import Derived.Test.YtgdcbjligbnpgaaGreatH17
import Derived.Test.YtgdcbjligbnpgaaGreatH20
import Derived.Test.YtgdcbjligbnpgaaGreatHfZJ
set_option linter.all false
set_option maxRecDepth 100000
set_option maxHeartbeats 40000000
namespace Go.Proofs.YtgdcbjligbnpgaaGreat
open Go.RowKit
namespace Pl
end Pl
open Pl
attribute [local go_sem ↓] Go.wp_at_zero Go.wp_at_succ
section
open Go.Maps (int_keyed keyOf_int_mk)
end
section
open Go.RowKit Pl Go.Maps
end
section
open Pl
end
section
open Pl
end
end Go.Proofs.YtgdcbjligbnpgaaGreat
