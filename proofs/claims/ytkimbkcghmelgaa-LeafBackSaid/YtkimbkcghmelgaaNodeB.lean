/- The contracts of node.Leaves and node.Path. -/
import Derived.Test.YtkimbkcghmelgaaNodeA
import Derived.Below
import Derived.Deep.Draws
namespace Go.Proofs.Ytkimbkcghmelgaa
open Go.RowKit
theorem wrapN {n : Nat} (h : n < 18446744073709551616) : IntKind.u64.wrap (n : Int) = (n : Int) := by rw [IntKind.wrap_u64]; omega


set_option maxHeartbeats 1000000 in
theorem leaves_yes {h n d lo hi : Nat} (H : Node h n) (hd : Hid (dep n = d)) (hlo : Hid (n * 2 ^ (h - d) = 2 ^ h + lo)) (hhi : Hid (lo + 2 ^ (h - d) = hi + 1)) (w : World) :
    Calls Try.prog 17 #[.int .i64 (h : Int), .int .u64 (n : Int)] w fun e w' => e = .returned (.tuple #[.agg #[.int .u64 ((lo : Int)), .int .u64 ((hi : Int))], .int .i64 0]) ∧ Below w.heap.size w w' := by
  obtain ⟨h1, h2, h3, h4, h5⟩ := id H
  have H' := mkHid H
  clear H
  rw [hd.out] at h4
  have e : (h : Int) - (d : Int) = ((h - d : Nat) : Int) := by omega
  have hsm : n * 2 ^ (h - d) < 8589934592 := by
    have a := dep_hi h3 h5
    rw [hd.out] at a
    have b := pow33 h2
    have c : n * 2 ^ (h - d) < 2 ^ (d + 1) * 2 ^ (h - d) := Nat.mul_lt_mul_of_pos_right a (Nat.two_pow_pos _)
    rw [← Nat.pow_add, show d + 1 + (h - d) = h + 1 by omega] at c
    omega
  have e1 := hlo.out
  have e2 := hhi.out
  generalize h - d = u at *
  have hu : u ≤ 32 := by omega
  have pu := pow_le hu
  have ph := pow_le h2
  have pu0 := Nat.two_pow_pos u
  have ph0 := Nat.two_pow_pos h
  have lo1 : lo < 18446744073709551616 := by omega
  have hi1 : hi < 18446744073709551616 := by omega
  have s1 : IntKind.u64.wrap ((n : Int) * 2 ^ u) = ((n * 2 ^ u : Nat) : Int) := by rw [pow_int, ← Int.natCast_mul]; exact wrapN (by omega)
  have s2 : IntKind.u64.wrap ((2 : Int) ^ h) = ((2 ^ h : Nat) : Int) := by rw [pow_int]; exact wrapN (by omega)
  have s3 : IntKind.u64.wrap ((2 : Int) ^ u) = ((2 ^ u : Nat) : Int) := by rw [pow_int]; exact wrapN (by omega)
  have s4 : (n : Int) * 2 ^ u - 2 ^ h = (lo : Int) := by rw [pow_int, pow_int, ← Int.natCast_mul]; omega
  have s5 : IntKind.u64.wrap ((lo : Int) + 2 ^ u) = (hi : Int) + 1 := by rw [pow_int, show (lo : Int) + ((2 ^ u : Nat) : Int) = ((lo + 2 ^ u : Nat) : Int) by omega]; rw [wrapN (by omega)]; omega
  have s6 : IntKind.u64.wrap (lo : Int) = (lo : Int) := wrapN lo1
  have s7 : IntKind.u64.wrap (hi : Int) = (hi : Int) := wrapN (by omega)
  clear hlo hhi e1 e2 pu ph pu0 ph0 hsm
  go_enter Try.func17, Try.ntmps17
  go_wp2_with (first | (go_at_call 28; ((with_reducible refine (check_yes H'.out _).mono ?_); rintro e w' ⟨rfl, rfl⟩)) | (go_at_call 55; ((with_reducible refine (depth_eq hd h3 h5 _).mono ?_); rintro e w' ⟨rfl, rfl⟩)))
  go_quiet (fail)
  go_wp2_with fail
  refine bodyPost_ret (v := .tuple #[.agg #[.int .u64 (lo : Int), .int .u64 (hi : Int)], .int .i64 0]) (by simp [results, Try.results17, go_sem]) rfl ⟨rfl, ?_⟩
  exact ((below_drewN ((Below.refl _ _).alloc (Nat.le_refl _) _) _).setCell (p := ⟨w.heap.size, 0, none⟩) (Nat.le_refl _) _).setCell (p := ⟨w.heap.size, 1, none⟩) (Nat.le_refl _) _

set_option maxHeartbeats 1000000 in
theorem leaves_no {h : Int} {n : Nat} (H : NoNode h n) (hn : n < 18446744073709551616) (w : World) :
    Calls Try.prog 17 #[.int .i64 h, .int .u64 (n : Int)] w fun e w' => e = .returned (.tuple #[.agg #[.int .u64 (0), .int .u64 (0)], .int .i64 1]) ∧ Below w.heap.size w w' := by
  have H' := mkHid H
  clear H
  go_enter Try.func17, Try.ntmps17
  go_wp2_with (first | (go_at_call 28; ((with_reducible refine (check_no H'.out hn _).mono ?_); rintro e w' ⟨rfl, rfl⟩)))
  refine bodyPost_ret (v := .tuple #[.agg #[.int .u64 0, .int .u64 0], .int .i64 1]) (by simp [results, Try.results17, go_sem]) rfl ⟨rfl, ?_⟩
  exact ((Below.refl _ _).alloc (Nat.le_refl _) _)
end Go.Proofs.Ytkimbkcghmelgaa
