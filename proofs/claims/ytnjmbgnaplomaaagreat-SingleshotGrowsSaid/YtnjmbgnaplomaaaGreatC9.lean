/-
  Contracts of the reference: unions, closures.
  Contracts of the reference: joined registers, numbers, flat elements.
-/
import Derived.Test.YtnjmbgnaplomaaaGreatC8
import Derived.Test.YtnjmbgnaplomaaaGreatC2
import Derived.Test.YtnjmbgnaplomaaaGreatC7
namespace Go.Proofs.YtnjmbgnaplomaaaGreat
open Go.RowKit
end Go.Proofs.YtnjmbgnaplomaaaGreat

namespace Go.Proofs.YtnjmbgnaplomaaaGreat
open Go.RowKit
end Go.Proofs.YtnjmbgnaplomaaaGreat
