/-
  What the laws of package basis share.
-/
import Derived.Test.YtidgdpkcloaheaaGreatQ25
namespace Go.Proofs.YtidgdpkcloaheaaGreat
end Go.Proofs.YtidgdpkcloaheaaGreat
