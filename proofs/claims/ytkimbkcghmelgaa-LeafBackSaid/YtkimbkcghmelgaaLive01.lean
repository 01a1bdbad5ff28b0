/- The chapter's example of package node. -/
import Derived.Test.YtkimbkcghmelgaaNodeB
import Derived.Test.YtkimbkcghmelgaaNodeQ
import Derived.Test.YtkimbkcghmelgaaBase
namespace Go.Proofs.Ytkimbkcghmelgaa
open Go.RowKit

theorem dep3 : dep 13 = 3 ∧ dep 12 = 3 := by decide
set_option maxHeartbeats 1000000 in
theorem live01 (w : World) : Calls Try.prog 16 #[] w fun e w' => e = .returned (.bool true) ∧ ∃ n, w' = w.drewN n := by
  have n1 : Node 3 13 := by decide
  have n2 : Node 3 12 := by decide
  have c1 : ∀ w, Calls Try.prog 21 #[.int .i64 3, .int .u64 5] w fun e w' => e = .returned (.tuple #[.int .u64 13, .int .i64 0]) ∧ w' = w :=
    fun w => leaf_yes (h := 3) (i := 5) (r := 13) (by decide) (by decide) (by decide) (mkHid (by decide)) w
  have c2 : ∀ w, Calls Try.prog 19 #[.int .i64 3, .int .u64 13, .int .u64 12] w fun e w' => e = .returned (.tuple #[.int .u64 6, .int .i64 0]) ∧ ∃ n, w' = w.drewN n :=
    fun w => Meet_eq (h := 3) (a := 13) (b := 12) (p := 3) (q := 3) (m := 3) (x := 13) (y := 12) (k := 1) (r := 6) n1 n2 (mkHid dep3.1) (mkHid dep3.2) (mkHid (by decide)) (mkHid (by decide)) (mkHid (by decide)) (mkHid (by decide)) (mkHid (by decide)) w
  clear n1 n2
  go_enter Try.func16, Try.ntmps16
  go_wp2_with fail
  refine (c1 _).mono ?_
  rintro e w1 ⟨rfl, rfl⟩
  go_wp2_with fail
  refine (c2 _).mono ?_
  rintro e w1 ⟨rfl, nd, rfl⟩
  go_wp2_with fail
  go_ret
  exact ⟨rfl, _, rfl⟩
theorem live01_below (w : World) : Calls Try.prog 16 #[] w fun e w' => e = .returned (.bool true) ∧ Below w.heap.size w w' :=
  (live01 w).mono fun _ _ ⟨he, n, hw⟩ => ⟨he, by rw [hw]; exact below_drewN (Below.refl _ _) _⟩
end Go.Proofs.Ytkimbkcghmelgaa
