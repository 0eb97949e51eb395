/-
  Contracts: registers, meets.
-/
import Derived.Test.YtciojbjoijedjaaGreatB18
import Derived.Test.YtciojbjoijedjaaGreatB17
namespace Go.Proofs.YtciojbjoijedjaaGreat
open Go.RowKit
end Go.Proofs.YtciojbjoijedjaaGreat
