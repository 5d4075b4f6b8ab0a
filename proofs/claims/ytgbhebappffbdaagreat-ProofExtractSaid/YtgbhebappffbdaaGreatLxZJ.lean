/-
  What the laws of rows 32 to 35 share.
-/
import Derived.Test.YtgbhebappffbdaaGreatP30
namespace Go.Proofs.YtgbhebappffbdaaGreat
end Go.Proofs.YtgbhebappffbdaaGreat
