/-
  Contracts: registers, meets.
-/
import Derived.Test.YtnjmbgnaplomaaaGreatB18
import Derived.Test.YtnjmbgnaplomaaaGreatB17
namespace Go.Proofs.YtnjmbgnaplomaaaGreat
open Go.RowKit
end Go.Proofs.YtnjmbgnaplomaaaGreat
