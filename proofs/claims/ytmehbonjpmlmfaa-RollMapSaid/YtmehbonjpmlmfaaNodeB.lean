/- The contracts of node.Leaves and node.Path. -/
import Derived.Test.YtmehbonjpmlmfaaNodeA
import Derived.Below
import Derived.Deep.Draws
namespace Go.Proofs.Ytmehbonjpmlmfaa
open Go.RowKit
theorem wrapN {n : Nat} (h : n < 18446744073709551616) : IntKind.u64.wrap (n : Int) = (n : Int) := by rw [IntKind.wrap_u64]; omega


end Go.Proofs.Ytmehbonjpmlmfaa
