/-
  What the Dive laws of rows 13, 15, 16, 17, 19 share.
-/
import Derived.Test.YtgdcbjligbnpgaaGreatH17
import Derived.Test.YtgdcbjligbnpgaaGreatH20
namespace Go.Proofs.YtgdcbjligbnpgaaGreat
end Go.Proofs.YtgdcbjligbnpgaaGreat
