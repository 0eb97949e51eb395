/-
  Contracts of the reference: bounds of maps.
  Contracts of the reference: bounds, Join, Meet.
-/
import Derived.Test.YtnjmbgnaplomaaaGreatC9
import Derived.Test.YtnjmbgnaplomaaaGreatB23
namespace Go.Proofs.YtnjmbgnaplomaaaGreat
open Go.RowKit
section
variable {up : Bool} {q : Lat} {a b : Val} {s : Nm} {x y : Val}
end
section
variable {f : Nm → Option Val} {u : List Nm} {k : Nat} {s : Nm} {v : Val}
end
end Go.Proofs.YtnjmbgnaplomaaaGreat

namespace Go.Proofs.YtnjmbgnaplomaaaGreat
open Go.RowKit
end Go.Proofs.YtnjmbgnaplomaaaGreat
