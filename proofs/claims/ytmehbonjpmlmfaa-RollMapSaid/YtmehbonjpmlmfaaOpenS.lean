/- Opening the arguments of a row: the words. -/
import Derived.Test.YtmehbonjpmlmfaaSetAns
import Derived.ProofKit
import Derived.OpenShut
import Derived.ShutString
import Derived.ChangeOld
import Derived.ChangeSame
import Derived.SizedLaws
import Derived.Lib.SmallJoins
import Derived.Deep.SlicePairs
namespace Go.Proofs.Ytmehbonjpmlmfaa
open Go.ChangeShapes Go.WideShapes Go.ChangeAt Go.RowKit

theorem own : ownKnob Try.prog.godebug = none := by kernel_rfl
theorem laidOut : laidOutB Try.prog = true := by kernel_rfl
theorem cells_u64' : Try.prog.cellsOf 30 = 1 := by kernel_rfl
end Go.Proofs.Ytmehbonjpmlmfaa
