/-
  Layer 2: the statements on Hashers, parts and digits.
-/
import Derived.Test.YtodedkoebcdejaaDoorSh5
namespace Go.Proofs.YtodedkoebcdejaaDoor
open Go Go.SL

end Go.Proofs.YtodedkoebcdejaaDoor
