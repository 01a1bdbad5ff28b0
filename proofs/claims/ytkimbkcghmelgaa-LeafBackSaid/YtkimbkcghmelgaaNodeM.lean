/- Contracts of package node in the words of the plain mathematics: Meet. -/
import Derived.Test.YtkimbkcghmelgaaLive01
namespace Go.Proofs.Ytkimbkcghmelgaa
open Go.RowKit

theorem Meet_any {h a b m : Nat} (H : Node h a) (K : Node h b) (hm : Hid (meet a b = m)) (w : World) :
    Calls Try.prog 19 #[.int .i64 (h : Int), .int .u64 (a : Int), .int .u64 (b : Int)] w fun e w' => e = .returned (.tuple #[.int .u64 (m : Int), .int .i64 0]) ∧ ∃ n, w' = w.drewN n :=
  Meet_eq H K (mkHid rfl) (mkHid rfl) (mkHid rfl) (mkHid rfl) (mkHid rfl) (mkHid rfl) (mkHid hm.out) w
end Go.Proofs.Ytkimbkcghmelgaa
