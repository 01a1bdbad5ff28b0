/- The contract of the first chapter's answer: Leaves. -/
import Derived.Test.YtkimbkcghmelgaaRefN
namespace Go.Proofs.Ytkimbkcghmelgaa
open Go.RowKit

set_option maxHeartbeats 1000000 in
theorem rleaves_no {h : Int} {n : Nat} (H : NoNode h n) (hn : n < 18446744073709551616) (w : World) :
    Calls Try.prog 27 #[.int .i64 h, .int .u64 (n : Int)] w fun e w' => e = .returned (.tuple #[.agg #[.int .u64 0, .int .u64 0], .int .i64 1]) ∧ Below w.heap.size w w' := by
  have H' := mkHid H
  clear H
  go_enter Try.func27, Try.ntmps27
  go_wp2_with (go_at_call 61; ((with_reducible refine (may_no H'.out hn _).mono ?_); rintro e w' ⟨rfl, rfl⟩))
  refine bodyPost_ret (v := .tuple #[.agg #[.int .u64 0, .int .u64 0], .int .i64 1]) (by simp [results, Try.results27, go_sem]) rfl ⟨rfl, ?_⟩
  exact ((Below.refl _ _).alloc (Nat.le_refl _) _)

theorem low_lt {h n d j : Nat} (H : Node h n) (hd : dep n = d) (hj : j < h - d) : n * 2 ^ j < 2 ^ h := by
  have a := dep_hi H.2.2.1 H.2.2.2.2
  rw [hd] at a
  have b := Nat.mul_lt_mul_of_pos_right a (Nat.two_pow_pos j)
  rw [← Nat.pow_add] at b
  exact Nat.lt_of_lt_of_le b (pow_le (by omega))
theorem low_ge {h n d : Nat} (H : Node h n) (hd : dep n = d) : 2 ^ h ≤ n * 2 ^ (h - d) := by
  have a := dep_lo H.2.2.1 H.2.2.2.2
  have c := H.2.2.2.1
  rw [hd] at a c
  have b := Nat.mul_le_mul_right (2 ^ (h - d)) a
  rwa [← Nat.pow_add, show d + (h - d) = h by omega] at b
theorem low_bd {h n d : Nat} (H : Node h n) (hd : dep n = d) : (n + 1) * 2 ^ (h - d) ≤ 8589934592 := by
  have a := dep_hi H.2.2.1 H.2.2.2.2
  have c := H.2.2.2.1
  rw [hd] at a c
  have b := Nat.mul_le_mul_right (2 ^ (h - d)) (show n + 1 ≤ 2 ^ (d + 1) by omega)
  rw [← Nat.pow_add, show d + 1 + (h - d) = h + 1 by omega] at b
  exact Nat.le_trans b (pow33 H.2.1)

set_option maxHeartbeats 2000000 in
theorem rleaves_yes {h n d lo hi : Nat} (H : Node h n) (hd : Hid (dep n = d)) (hlo : Hid (n * 2 ^ (h - d) = 2 ^ h + lo)) (hhi : Hid (lo + 2 ^ (h - d) = hi + 1)) (w : World) :
    Calls Try.prog 27 #[.int .i64 (h : Int), .int .u64 (n : Int)] w fun e w' => e = .returned (.tuple #[.agg #[.int .u64 (lo : Int), .int .u64 (hi : Int)], .int .i64 0]) ∧ Below w.heap.size w w' := by
  obtain ⟨p, hp⟩ : ∃ p, Hid (2 ^ h = p) := ⟨_, mkHid rfl⟩
  have h32 := H.2.1
  have hb := low_bd H hd.out
  have hpb : p ≤ 8589934592 := by rw [← hp.out]; exact pow33' (by omega)
  have H' := mkHid H
  clear H
  have Hb := mkHid hb
  clear hb
  go_enter Try.func27, Try.ntmps27
  go_wp2_with (go_at_call 61; ((with_reducible refine (may_yes H'.out _).mono ?_); rintro e w' ⟨rfl, rfl⟩))
  go_loop [6, 7] (fun x y => ∃ j a b : Nat, j ≤ h - d ∧ Hid (n * 2 ^ j = a) ∧ Hid (a + 2 ^ j = b + 1) ∧ b < 8589934592 ∧ x = .int .u64 (a : Int) ∧ y = .int .u64 (b : Int)) (fun x _ => 8589934592 - (intOf x).toNat)
  case atStart => exact ⟨0, n, n, by omega, mkHid (by rw [Nat.pow_zero, Nat.mul_one]), mkHid (by rw [Nat.pow_zero]), H'.out.small, rfl, rfl⟩
  case round =>
    obtain ⟨j, a, b, hj, ha, hab, hb, rfl, rfl⟩ := hrel
    have hab0 : a ≤ b := by have := hab.out; have := Nat.two_pow_pos j; omega
    by_cases hlt : j < h - d
    · have hc : a < p := by rw [← ha.out, ← hp.out]; exact low_lt H'.out hd.out hlt
      have t1 : decide (a < p) = true := decide_eq_true hc
      have t2 : decide ((a : Int) < (p : Int)) = true := decide_eq_true (by omega)
      have a2 : n * 2 ^ (j + 1) = 2 * a := by rw [Nat.pow_succ, ← ha.out, ← Nat.mul_assoc, Nat.mul_comm]
      have b2 : 2 * a + 2 ^ (j + 1) = 2 * b + 1 + 1 := by have := hab.out; rw [Nat.pow_succ]; omega
      have c2 : 2 * b + 1 < 8589934592 := by
        have m := Nat.mul_le_mul_left (n + 1) (pow_le (a := j + 1) (b := h - d) (by omega))
        have := Hb.out
        rw [Nat.add_mul, a2] at m
        omega
      have a1 : 1 ≤ a := by
        rw [← ha.out]; exact Nat.mul_pos H'.out.2.2.1 (Nat.two_pow_pos j)
      have A2 := mkHid a2
      have B2 := mkHid b2
      clear a2 b2
      go_wp2_with (go_at_call 60; ((with_reducible refine (power_eq hp (by omega) _).mono ?_); rintro e w' ⟨rfl, rfl⟩))
      go_round
      case rel => exact ⟨j + 1, 2 * a, 2 * b + 1, by omega, A2, B2, c2, by go_num, by go_num⟩
      case measure => simp [intOf]; omega
    · obtain rfl : j = h - d := by omega
      have hc : p ≤ a := by rw [← ha.out, ← hp.out]; exact low_ge H'.out hd.out
      have t1 : decide (a < p) = false := decide_eq_false (by omega)
      have t2 : decide ((a : Int) < (p : Int)) = false := decide_eq_false (by omega)
      have e1 : (a : Int) - (p : Int) = (lo : Int) := by have := hlo.out; rw [ha.out, hp.out] at this; omega
      have e2 : (b : Int) - (p : Int) = (hi : Int) := by have := hlo.out; rw [ha.out, hp.out] at this; have := hab.out; have := hhi.out; omega
      have w1 : IntKind.u64.wrap (lo : Int) = (lo : Int) := wrapN (by omega)
      have w2 : IntKind.u64.wrap (hi : Int) = (hi : Int) := wrapN (by omega)
      go_wp2_with (go_at_call 60; ((with_reducible refine (power_eq hp (by omega) _).mono ?_); rintro e w' ⟨rfl, rfl⟩))
      refine bodyPost_ret (v := .tuple #[.agg #[.int .u64 (lo : Int), .int .u64 (hi : Int)], .int .i64 0]) (by simp [results, Try.results27, go_sem]) rfl ⟨rfl, ?_⟩
      exact (Below.refl _ _).alloc (Nat.le_refl _) _
end Go.Proofs.Ytkimbkcghmelgaa
