/-
  Contracts: the law JoinJoins.
-/
import Derived.Test.YtciojbjoijedjaaGreatC10
import Derived.Test.YtciojbjoijedjaaGreatC7
import Derived.Test.YtciojbjoijedjaaGreatB21
namespace Go.Proofs.YtciojbjoijedjaaGreat
open Go.RowKit
end Go.Proofs.YtciojbjoijedjaaGreat
