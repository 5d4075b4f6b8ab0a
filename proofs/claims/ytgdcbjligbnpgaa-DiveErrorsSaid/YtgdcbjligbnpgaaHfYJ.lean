/-
  What the law DiveErrors uses.
-/
import Derived.Test.YtgdcbjligbnpgaaK8
namespace Go.Proofs.Ytgdcbjligbnpgaa
end Go.Proofs.Ytgdcbjligbnpgaa
