/- The walk of SealDoes: the Go text answers true and writes nothing that was there. -/
import Derived.Test.YtdaodopeodheeaaRefU
import Derived.Test.YtdaodopeodheeaaRefV
import Derived.Test.YtdaodopeodheeaaRefX
import Derived.Test.YtdaodopeodheeaaLive04
import Derived.Deep.DeepCutAuto
import Derived.Deep.RegionHeld3
namespace Go.Proofs.Ytdaodopeodheeaa
open Go.RowKit

theorem sealof_eq {l : List (BitVec 8)} {c0 c1 t0 t1 : BitVec 64} (hC : Hid (blockOf (l.take 16) = (c0, c1))) (hT : Hid (blockOf (l.drop 16) = (t0, t1))) (hl : l.length = 32) {a : Option Addr} {cap : Nat} (hcap : 32 ≤ cap) (w : World) (hB : Bytes w a l) :
    Calls Try.prog 35 #[.slice a 32 cap] w fun e w' => e = .returned (.tuple #[.agg #[.int .u64 (U c0), .int .u64 (U c1), .int .u64 (U t0), .int .u64 (U t1)], .int .i64 0]) ∧ Below w.heap.size w w' := by
  rcases hB with rfl | ⟨b, off, rfl, hc⟩
  · simp at hl
  · exact sealof_some hC hT hl b off cap hcap w hc
theorem rsealof_eq {l : List (BitVec 8)} {c0 c1 t0 t1 : BitVec 64} (hC : Hid (blockOf (l.take 16) = (c0, c1))) (hT : Hid (blockOf (l.drop 16) = (t0, t1))) (hl : l.length = 32) {a : Option Addr} {cap : Nat} (hcap : 32 ≤ cap) (w : World) (hB : Bytes w a l) :
    Calls Try.prog 36 #[.slice a 32 cap] w fun e w' => e = .returned (.tuple #[.agg #[.int .u64 (U c0), .int .u64 (U c1), .int .u64 (U t0), .int .u64 (U t1)], .int .i64 0]) ∧ Below w.heap.size w w' := by
  rcases hB with rfl | ⟨b, off, rfl, hc⟩
  · simp at hl
  · exact rsealof_some hC hT hl b off cap hcap w hc
end Go.Proofs.Ytdaodopeodheeaa
