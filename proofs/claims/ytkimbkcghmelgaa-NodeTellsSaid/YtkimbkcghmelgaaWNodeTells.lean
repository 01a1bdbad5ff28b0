/- The walk of NodeTells: the Go text answers true and writes nothing that was there. -/
import Derived.Test.YtkimbkcghmelgaaPureDepth
import Derived.Test.YtkimbkcghmelgaaPureUp
import Derived.Test.YtkimbkcghmelgaaSpan
namespace Go.Proofs.Ytkimbkcghmelgaa
open Go.RowKit

/-! each function and its answer by the document come to the same -/
theorem two_leaf (h : Int) (n : Nat) : ∃ a q : Int, (∀ w : World, Calls Try.prog 21 #[.int .i64 h, .int .u64 (n : Int)] w fun e w' => e = .returned (.tuple #[.int .u64 a, .int .i64 q]) ∧ w' = w) ∧ (∀ w : World, Calls Try.prog 22 #[.int .i64 h, .int .u64 (n : Int)] w fun e w' => e = .returned (.tuple #[.int .u64 a, .int .i64 q]) ∧ w' = w) := by
  by_cases c1 : h < 1
  · exact ⟨_, _, fun w => leaf_lo c1 w, fun w => rleaf_lo c1 w⟩
  by_cases c2 : 32 < h
  · exact ⟨_, _, fun w => leaf_hi c2 w, fun w => rleaf_hi c2 w⟩
  obtain ⟨h, rfl⟩ : ∃ k : Nat, h = (k : Int) := ⟨h.toNat, by omega⟩
  by_cases c3 : 2 ^ h ≤ n
  · exact ⟨_, _, fun w => leaf_none (by omega) (by omega) c3 w, fun w => rleaf_none (by omega) (by omega) c3 w⟩
  · have h1 : 1 ≤ h := by omega
    have h2 : h ≤ 32 := by omega
    have h3 : n < 2 ^ h := by omega
    exact ⟨_, _, fun w => leaf_yes h1 h2 h3 (mkHid rfl) w, fun w => rleaf_yes h1 h2 h3 (mkHid rfl) w⟩
theorem two_check (h : Int) (n : Nat) (hn : n < 18446744073709551616) : ∃ q : Int, (∀ w : World, Calls Try.prog 28 #[.int .i64 h, .int .u64 (n : Int)] w fun e w' => e = .returned (.int .i64 q) ∧ w' = w) ∧ (∀ w : World, Calls Try.prog 29 #[.int .i64 h, .int .u64 (n : Int)] w fun e w' => e = .returned (.int .i64 q) ∧ w' = w) := by
  rcases node_or (h := h) hn with H | ⟨h, rfl, H⟩
  · exact ⟨_, fun w => check_no H hn w, fun w => rcheck_no H hn w⟩
  · exact ⟨_, fun w => check_yes H w, fun w => rcheck_yes H w⟩
theorem two_depth (h : Int) (n : Nat) (hn : n < 18446744073709551616) : ∃ a q : Int, (∀ w : World, Calls Try.prog 23 #[.int .i64 h, .int .u64 (n : Int)] w fun e w' => e = .returned (.tuple #[.int .i64 a, .int .i64 q]) ∧ w' = w) ∧ (∀ w : World, Calls Try.prog 24 #[.int .i64 h, .int .u64 (n : Int)] w fun e w' => e = .returned (.tuple #[.int .i64 a, .int .i64 q]) ∧ Below w.heap.size w w') := by
  rcases node_or (h := h) hn with H | ⟨h, rfl, H⟩
  · exact ⟨_, _, fun w => depth_no H hn w, fun w => PDepth.rdepth_no H hn w⟩
  · exact ⟨_, _, fun w => depth_yes H (mkHid rfl) w, fun w => PDepth.rdepth_yes H (mkHid rfl) w⟩
theorem two_up (h : Int) (n : Nat) (t : Int) (hn : n < 18446744073709551616) : ∃ a q : Int, (∀ w : World, Calls Try.prog 25 #[.int .i64 h, .int .u64 (n : Int), .int .i64 t] w fun e w' => e = .returned (.tuple #[.int .u64 a, .int .i64 q]) ∧ w' = w) ∧ (∀ w : World, Calls Try.prog 26 #[.int .i64 h, .int .u64 (n : Int), .int .i64 t] w fun e w' => e = .returned (.tuple #[.int .u64 a, .int .i64 q]) ∧ Below w.heap.size w w') := by
  rcases node_or (h := h) hn with H | ⟨h, rfl, H⟩
  · exact ⟨_, _, fun w => up_no H hn w, fun w => PUp.rup_no H hn w⟩
  by_cases c1 : t < 0
  · exact ⟨_, _, fun w => up_low H c1 w, fun w => PUp.rup_none H (mkHid rfl) (.inl c1) w⟩
  by_cases c2 : (dep n : Int) < t
  · exact ⟨_, _, fun w => up_deep H (mkHid rfl) c2 w, fun w => PUp.rup_none H (mkHid rfl) (.inr c2) w⟩
  obtain ⟨t, rfl⟩ : ∃ k : Nat, t = (k : Int) := ⟨t.toNat, by omega⟩
  have h3 : t ≤ dep n := by omega
  exact ⟨_, _, fun w => up_yes H (mkHid rfl) h3 (mkHid rfl) w, fun w => PUp.rup_yes H (mkHid rfl) h3 (mkHid rfl) w⟩
theorem two_leaves (h : Int) (n : Nat) (hn : n < 18446744073709551616) : ∃ a b q : Int, (∀ w : World, Calls Try.prog 17 #[.int .i64 h, .int .u64 (n : Int)] w fun e w' => e = .returned (.tuple #[.agg #[.int .u64 a, .int .u64 b], .int .i64 q]) ∧ Below w.heap.size w w') ∧ (∀ w : World, Calls Try.prog 27 #[.int .i64 h, .int .u64 (n : Int)] w fun e w' => e = .returned (.tuple #[.agg #[.int .u64 a, .int .u64 b], .int .i64 q]) ∧ Below w.heap.size w w') := by
  rcases node_or (h := h) hn with H | ⟨h, rfl, H⟩
  · exact ⟨_, _, _, fun w => leaves_no H hn w, fun w => rleaves_no H hn w⟩
  · obtain ⟨lo, hi, e1, e2⟩ := span_ex H rfl
    exact ⟨_, _, _, fun w => leaves_yes H (mkHid rfl) (mkHid e1) (mkHid e2) w, fun w => rleaves_yes H (mkHid rfl) (mkHid e1) (mkHid e2) w⟩

set_option maxRecDepth 100000 in
set_option maxHeartbeats 4000000 in
theorem walk_NodeTells (h : Int) (_hh : (Lit.int .i64 h).wf = true) (n : Int) (hn : (Lit.int .u64 n).wf = true) (t : Int) (_ht : (Lit.int .i64 t).wf = true) (w : World) :
    Calls Try.prog 5 #[.int .i64 h, .int .u64 n, .int .i64 t] w fun e w' => e = .returned (.bool true) ∧ Below w.heap.size w w' := by
  obtain ⟨n, rfl, ln⟩ := nat_u64 hn
  clear hn
  obtain ⟨la, le, l1, l2⟩ := two_leaf h n
  obtain ⟨ce, c1, c2⟩ := two_check h n ln
  obtain ⟨da, de, d1, d2⟩ := two_depth h n ln
  obtain ⟨ua, ue, u1, u2⟩ := two_up h n t ln
  obtain ⟨sa, sb, se, s1, s2⟩ := two_leaves h n ln
  have L1 := mkHid l1
  have L2 := mkHid l2
  have C1 := mkHid c1
  have C2 := mkHid c2
  have D1 := mkHid d1
  have D2 := mkHid d2
  have U1 := mkHid u1
  have U2 := mkHid u2
  have S1 := mkHid s1
  have S2 := mkHid s2
  clear l1 l2 c1 c2 d1 d2 u1 u2 s1 s2
  have hq := eq_spans
  go_enter Try.func5, Try.ntmps5
  go_wp2_with fail
  refine (live01_below _).mono ?_
  rintro e w1 ⟨rfl, hb1⟩
  have hBN := Below.step (w := w) (by repeat' first | with_reducible exact Below.refl _ _ | with_reducible refine Below.drew ?_ | with_reducible refine below_drewN ?_ _ | with_reducible refine Below.setCell ?_ ?_ _ | with_reducible refine Below.alloc ?_ ?_ _ | (dsimp only; omega) | (simp <;> fail) | (simp; omega)) hb1
  clear hb1
  have HBel := mkHid hBN
  clear hBN
  go_wp2_with fail
  (with_reducible refine (L1.out _).mono ?_)
  rintro e w' ⟨rfl, rfl⟩
  go_wp2_with fail
  (with_reducible refine (L2.out _).mono ?_)
  rintro e w' ⟨rfl, rfl⟩
  go_wp2_with fail
  (with_reducible refine (D1.out _).mono ?_)
  rintro e w' ⟨rfl, rfl⟩
  go_wp2_with fail
  refine (D2.out _).mono ?_
  rintro e w2 ⟨rfl, hb2⟩
  have hBN := Below.step (w := w) (by repeat' first | with_reducible exact HBel.out | with_reducible exact Below.refl _ _ | with_reducible refine Below.drew ?_ | with_reducible refine below_drewN ?_ _ | with_reducible refine Below.setCell ?_ ?_ _ | with_reducible refine Below.alloc ?_ ?_ _ | (dsimp only; omega) | (simp <;> fail) | (have := HBel.out.size; simp; omega)) hb2
  clear HBel hb2
  have HBel := mkHid hBN
  clear hBN
  go_wp2_with fail
  (with_reducible refine (U1.out _).mono ?_)
  rintro e w' ⟨rfl, rfl⟩
  go_wp2_with fail
  refine (U2.out _).mono ?_
  rintro e w3 ⟨rfl, hb3⟩
  have hBN := Below.step (w := w) (by repeat' first | with_reducible exact HBel.out | with_reducible exact Below.refl _ _ | with_reducible refine Below.drew ?_ | with_reducible refine below_drewN ?_ _ | with_reducible refine Below.setCell ?_ ?_ _ | with_reducible refine Below.alloc ?_ ?_ _ | (dsimp only; omega) | (simp <;> fail) | (have := HBel.out.size; simp; omega)) hb3
  clear HBel hb3
  have HBel := mkHid hBN
  clear hBN
  go_wp2_with fail
  refine (S1.out _).mono ?_
  rintro e w4 ⟨rfl, hb4⟩
  have hBN := Below.step (w := w) (by repeat' first | with_reducible exact HBel.out | with_reducible exact Below.refl _ _ | with_reducible refine Below.drew ?_ | with_reducible refine below_drewN ?_ _ | with_reducible refine Below.setCell ?_ ?_ _ | with_reducible refine Below.alloc ?_ ?_ _ | (dsimp only; omega) | (simp <;> fail) | (have := HBel.out.size; simp; omega)) hb4
  clear HBel hb4
  have HBel := mkHid hBN
  clear hBN
  go_wp2_with fail
  refine (S2.out _).mono ?_
  rintro e w5 ⟨rfl, hb5⟩
  have bS := Blk.keep (n := w4.heap.size) (t := 25) (cs := #[.int .u64 (sa), .int .u64 (sb)]) (by repeat' first | with_reducible refine Blk.drew ?_ | (with_reducible refine Blk.at _ _ _ ?_; (simp <;> fail)) | with_reducible refine Blk.alloc ?_ _) hb5
  have hBN := Below.step (w := w) (by repeat' first | with_reducible exact HBel.out | with_reducible exact Below.refl _ _ | with_reducible refine Below.drew ?_ | with_reducible refine below_drewN ?_ _ | with_reducible refine Below.setCell ?_ ?_ _ | with_reducible refine Below.alloc ?_ ?_ _ | (dsimp only; omega) | (simp <;> fail) | (have := HBel.out.size; simp; omega)) hb5
  clear HBel hb5
  have cS := bS.two
  have HS := mkHid bS
  have lS := bS.lt
  clear bS
  have HBel := mkHid hBN
  clear hBN
  go_wp2_with fail
  have dTS : w4.heap.size < w5.heap.size := lS
  (with_reducible refine (C1.out _).mono ?_)
  rintro e w' ⟨rfl, rfl⟩
  go_wp2_with fail
  (with_reducible refine (C2.out _).mono ?_)
  rintro e w' ⟨rfl, rfl⟩
  go_wp2_with fail
  go_ret
  exact ⟨by simp, (by repeat' first | with_reducible exact HBel.out | with_reducible exact Below.refl _ _ | with_reducible refine Below.drew ?_ | with_reducible refine below_drewN ?_ _ | with_reducible refine Below.setCell ?_ ?_ _ | with_reducible refine Below.alloc ?_ ?_ _ | (dsimp only; omega) | (simp <;> fail) | (have := HBel.out.size; simp; omega))⟩
end Go.Proofs.Ytkimbkcghmelgaa
