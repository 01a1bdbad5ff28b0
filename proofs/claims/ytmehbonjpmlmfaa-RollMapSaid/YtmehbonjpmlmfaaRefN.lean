/- The contracts of the first chapter's answer: power, May, Check, Leaf, Child, Other, Leaves. -/
import Derived.Test.YtmehbonjpmlmfaaLWith
namespace Go.Proofs.Ytmehbonjpmlmfaa
open Go.RowKit

theorem ret2_u64 {a b : Int} {v : Value} (h : a = b) : Ending.returned (.tuple #[.int .u64 a, v]) = .returned (.tuple #[.int .u64 b, v]) := by rw [h]
theorem pow33' {k : Nat} (hk : k ≤ 33) : 2 ^ k ≤ 8589934592 := pow_le (b := 33) hk
set_option maxHeartbeats 400000 in
theorem power_eq {k p : Nat} (hp : Hid (2 ^ k = p)) (hk : k ≤ 33) (w : World) :
    Calls Try.prog 74 #[.int .i64 (k : Int)] w fun e w' => e = .returned (.int .u64 (p : Int)) ∧ w' = w := by
  go_enter Try.func74, Try.ntmps74
  go_wp2_with fail
  go_loop [3, 5] (fun n i => ∃ j q : Nat, j ≤ k ∧ Hid (2 ^ j = q) ∧ i = .int .i64 (j : Int) ∧ n = .int .u64 (q : Int)) (fun _ i => k - (intOf i).toNat)
  case atStart => exact ⟨0, 1, by omega, mkHid rfl, rfl, rfl⟩
  case round =>
    obtain ⟨j, q, hj, hq, rfl, rfl⟩ := hrel
    have hb : q ≤ 8589934592 := by rw [← hq.out]; exact pow33' (by omega)
    by_cases hlt : j < k
    · go_wp2_with fail
      go_round
      case rel => exact ⟨j + 1, 2 * q, by omega, mkHid (by rw [Nat.pow_succ, hq.out]; omega), by go_num, by go_num⟩
      case measure => simp [intOf]; omega
    · obtain rfl : j = k := by omega
      obtain rfl : q = p := hq.out.symm.trans hp.out
      go_wp2_with fail
      go_ret
      exact ⟨rfl, rfl⟩


/-- power at one more -/
theorem power_next {h p : Nat} (hp : Hid (2 ^ (h + 1) = p)) (hk : h ≤ 32) (w : World) :
    Calls Try.prog 74 #[.int .i64 ((h : Int) + 1)] w fun e w' => e = .returned (.int .u64 (p : Int)) ∧ w' = w := by
  have c := power_eq hp (by omega) w
  rwa [show ((h + 1 : Nat) : Int) = (h : Int) + 1 by omega] at c

set_option maxHeartbeats 400000 in
theorem may_yes {h n : Nat} (H : Node h n) (w : World) :
    Calls Try.prog 66 #[.int .i64 (h : Int), .int .u64 (n : Int)] w fun e w' => e = .returned (.bool true) ∧ w' = w := by
  obtain ⟨p, hp⟩ : ∃ p, Hid (2 ^ (h + 1) = p) := ⟨_, mkHid rfl⟩
  have hl : n < p := by rw [← hp.out]; exact H.lt
  obtain ⟨h1, h2, h3, h4, h5⟩ := H
  have a : decide ((1 : Int) ≤ (h : Int)) = true := decide_eq_true (by omega)
  have b : decide ((h : Int) ≤ 32) = true := decide_eq_true (by omega)
  have c : decide ((1 : Int) ≤ (n : Int)) = true := decide_eq_true (by omega)
  have d : decide ((n : Int) < (p : Int)) = true := decide_eq_true (by omega)
  have d' : decide (n < p) = true := decide_eq_true (by omega)
  go_enter Try.func66, Try.ntmps66
  go_wp2_with (first | (go_at_call 74; ((with_reducible refine (power_next hp h2 _).mono ?_); rintro e w' ⟨rfl, rfl⟩)))
  go_ret
  exact ⟨by simp [*], rfl⟩

set_option maxHeartbeats 400000 in
theorem may_lo {h : Int} {n : Nat} (H : h < 1) (w : World) :
    Calls Try.prog 66 #[.int .i64 h, .int .u64 (n : Int)] w fun e w' => e = .returned (.bool false) ∧ w' = w := by
  have a : decide ((1 : Int) ≤ h) = false := decide_eq_false (by omega)
  go_enter Try.func66, Try.ntmps66
  go_wp2_with fail
  go_ret
  exact ⟨rfl, rfl⟩

set_option maxHeartbeats 400000 in
theorem may_hi {h : Int} {n : Nat} (H : 32 < h) (w : World) :
    Calls Try.prog 66 #[.int .i64 h, .int .u64 (n : Int)] w fun e w' => e = .returned (.bool false) ∧ w' = w := by
  have a : decide ((1 : Int) ≤ h) = true := decide_eq_true (by omega)
  have b : decide (h ≤ 32) = false := decide_eq_false (by omega)
  go_enter Try.func66, Try.ntmps66
  go_wp2_with fail
  go_ret
  exact ⟨rfl, rfl⟩

set_option maxHeartbeats 400000 in
theorem may_zero {h n : Nat} (h1 : 1 ≤ h) (h2 : h ≤ 32) (h3 : n = 0) (w : World) :
    Calls Try.prog 66 #[.int .i64 (h : Int), .int .u64 (n : Int)] w fun e w' => e = .returned (.bool false) ∧ w' = w := by
  have a : decide ((1 : Int) ≤ (h : Int)) = true := decide_eq_true (by omega)
  have b : decide ((h : Int) ≤ 32) = true := decide_eq_true (by omega)
  have c : decide ((1 : Int) ≤ (n : Int)) = false := decide_eq_false (by omega)
  clear h3
  go_enter Try.func66, Try.ntmps66
  go_wp2_with fail
  go_ret
  exact ⟨rfl, rfl⟩

set_option maxHeartbeats 400000 in
theorem may_deep {h n : Nat} (h1 : 1 ≤ h) (h2 : h ≤ 32) (h3 : 1 ≤ n) (h4 : 2 ^ (h + 1) ≤ n) (w : World) :
    Calls Try.prog 66 #[.int .i64 (h : Int), .int .u64 (n : Int)] w fun e w' => e = .returned (.bool false) ∧ w' = w := by
  obtain ⟨p, hp⟩ : ∃ p, Hid (2 ^ (h + 1) = p) := ⟨_, mkHid rfl⟩
  have hl : p ≤ n := by rw [← hp.out]; exact h4
  have a : decide ((1 : Int) ≤ (h : Int)) = true := decide_eq_true (by omega)
  have b : decide ((h : Int) ≤ 32) = true := decide_eq_true (by omega)
  have c : decide ((1 : Int) ≤ (n : Int)) = true := decide_eq_true (by omega)
  have d : decide ((n : Int) < (p : Int)) = false := decide_eq_false (by omega)
  have d' : decide (n < p) = false := decide_eq_false (by omega)
  clear h4
  go_enter Try.func66, Try.ntmps66
  go_wp2_with (first | (go_at_call 74; ((with_reducible refine (power_next hp h2 _).mono ?_); rintro e w' ⟨rfl, rfl⟩)))
  go_ret
  exact ⟨by simp [*], rfl⟩

theorem NoNode.out {h : Int} {n : Nat} (H : NoNode h n) (hn : n < 18446744073709551616) : h < 1 ∨ 32 < h ∨ ∃ k : Nat, h = (k : Int) ∧ 1 ≤ k ∧ k ≤ 32 ∧ (n = 0 ∨ (1 ≤ n ∧ 2 ^ (k + 1) ≤ n)) := by
  by_cases a : h < 1
  · exact .inl a
  by_cases b : 32 < h
  · exact .inr (.inl b)
  obtain ⟨k, rfl⟩ : ∃ k : Nat, h = (k : Int) := ⟨h.toNat, by omega⟩
  refine .inr (.inr ⟨k, rfl, by omega, by omega, ?_⟩)
  rcases H with H | H | H | ⟨j, e, c, d, f, g⟩
  · omega
  · omega
  · exact .inl H
  · obtain rfl : k = j := by omega
    refine .inr ⟨f, Nat.le_trans (pow_le (by omega)) (dep_lo f hn)⟩
theorem may_no {h : Int} {n : Nat} (H : NoNode h n) (hn : n < 18446744073709551616) (w : World) :
    Calls Try.prog 66 #[.int .i64 h, .int .u64 (n : Int)] w fun e w' => e = .returned (.bool false) ∧ w' = w := by
  rcases H.out hn with a | a | ⟨k, rfl, a, b, c | ⟨c, d⟩⟩
  · exact may_lo a w
  · exact may_hi a w
  · exact may_zero a b c w
  · exact may_deep a b c d w

set_option maxHeartbeats 400000 in
theorem rcheck_yes {h n : Nat} (H : Node h n) (w : World) :
    Calls Try.prog 50 #[.int .i64 (h : Int), .int .u64 (n : Int)] w fun e w' => e = .returned (.int .i64 0) ∧ w' = w := by
  have H' := mkHid H
  clear H
  go_enter Try.func50, Try.ntmps50
  go_wp2_with (first | (go_at_call 66; ((with_reducible refine (may_yes H'.out _).mono ?_); rintro e w' ⟨rfl, rfl⟩)))
  go_ret
  exact ⟨rfl, rfl⟩

set_option maxHeartbeats 400000 in
theorem rcheck_no {h : Int} {n : Nat} (H : NoNode h n) (hn : n < 18446744073709551616) (w : World) :
    Calls Try.prog 50 #[.int .i64 h, .int .u64 (n : Int)] w fun e w' => e = .returned (.int .i64 1) ∧ w' = w := by
  have H' := mkHid H
  clear H
  go_enter Try.func50, Try.ntmps50
  go_wp2_with (first | (go_at_call 66; ((with_reducible refine (may_no H'.out hn _).mono ?_); rintro e w' ⟨rfl, rfl⟩)))
  go_ret
  exact ⟨rfl, rfl⟩

set_option maxHeartbeats 400000 in
theorem rleaf_lo {h : Int} {n : Nat} (H : h < 1) (w : World) :
    Calls Try.prog 65 #[.int .i64 h, .int .u64 (n : Int)] w fun e w' => e = .returned (.tuple #[.int .u64 (0), .int .i64 1]) ∧ w' = w := by
  go_enter Try.func65, Try.ntmps65
  go_wp2_with fail
  go_ret2
  exact ⟨rfl, rfl⟩

set_option maxHeartbeats 400000 in
theorem rleaf_hi {h : Int} {n : Nat} (H : 32 < h) (w : World) :
    Calls Try.prog 65 #[.int .i64 h, .int .u64 (n : Int)] w fun e w' => e = .returned (.tuple #[.int .u64 (0), .int .i64 1]) ∧ w' = w := by
  have a : decide (h < 1) = false := decide_eq_false (by omega)
  go_enter Try.func65, Try.ntmps65
  go_wp2_with fail
  go_ret2
  exact ⟨rfl, rfl⟩

set_option maxHeartbeats 400000 in
theorem rleaf_none {h i : Nat} (h1 : 1 ≤ h) (h2 : h ≤ 32) (hi : 2 ^ h ≤ i) (w : World) :
    Calls Try.prog 65 #[.int .i64 (h : Int), .int .u64 (i : Int)] w fun e w' => e = .returned (.tuple #[.int .u64 (0), .int .i64 4]) ∧ w' = w := by
  obtain ⟨p, hp⟩ : ∃ p, Hid (2 ^ h = p) := ⟨_, mkHid rfl⟩
  have hl : p ≤ i := by rw [← hp.out]; exact hi
  clear hi
  have a : decide ((h : Int) < 1) = false := decide_eq_false (by omega)
  have b : decide ((32 : Int) < (h : Int)) = false := decide_eq_false (by omega)
  have c : decide ((p : Int) ≤ (i : Int)) = true := decide_eq_true (by omega)
  have d : decide (p ≤ i) = true := decide_eq_true (by omega)
  go_enter Try.func65, Try.ntmps65
  go_wp2_with (first | (go_at_call 74; ((with_reducible refine (power_eq hp (by omega) _).mono ?_); rintro e w' ⟨rfl, rfl⟩)))
  go_ret2
  exact ⟨rfl, rfl⟩

set_option maxHeartbeats 400000 in
theorem rleaf_yes {h i r : Nat} (h1 : 1 ≤ h) (h2 : h ≤ 32) (hi : i < 2 ^ h) (hr : Hid (2 ^ h + i = r)) (w : World) :
    Calls Try.prog 65 #[.int .i64 (h : Int), .int .u64 (i : Int)] w fun e w' => e = .returned (.tuple #[.int .u64 ((r : Int)), .int .i64 0]) ∧ w' = w := by
  obtain ⟨p, hp⟩ : ∃ p, Hid (2 ^ h = p) := ⟨_, mkHid rfl⟩
  have hl : i < p := by rw [← hp.out]; exact hi
  have hb : p ≤ 8589934592 := by rw [← hp.out]; exact pow33' (by omega)
  have er : (p : Int) + (i : Int) = (r : Int) := by have := hr.out; rw [hp.out] at this; omega
  clear hi hr
  have a : decide ((h : Int) < 1) = false := decide_eq_false (by omega)
  have b : decide ((32 : Int) < (h : Int)) = false := decide_eq_false (by omega)
  have c : decide ((p : Int) ≤ (i : Int)) = false := decide_eq_false (by omega)
  have d : decide (p ≤ i) = false := decide_eq_false (by omega)
  go_enter Try.func65, Try.ntmps65
  go_wp2_with (first | (go_at_call 74; ((with_reducible refine (power_eq hp (by omega) _).mono ?_); rintro e w' ⟨rfl, rfl⟩)))
  go_ret2
  exact ⟨rfl, rfl⟩

end Go.Proofs.Ytmehbonjpmlmfaa
