/- The contracts of package node. -/
import Derived.Test.YtkimbkcghmelgaaRows
import Derived.Test.YtkimbkcghmelgaaShelf
import Derived.Test.YtkimbkcghmelgaaNodeP
import Derived.WalkKit
import Derived.WalkSpells
import Derived.WalkLawsBesides
import Derived.Deep.QuietTactic
import Derived.BigQuiet
import Derived.IntWalk
namespace Go.Proofs.Ytkimbkcghmelgaa
open Go.RowKit

theorem mkHid {p : Prop} (h : p) : Hid p := h
theorem pow_int (k : Nat) : (2 : Int) ^ k = ((2 ^ k : Nat) : Int) := by rw [Int.natCast_pow]; rfl
theorem bits_or (a b : Nat) (ha : a < 18446744073709551616) (hb : b < 18446744073709551616) : bits BinOp.or IntKind.u64 (a : Int) (b : Int) = ((a ||| b : Nat) : Int) := by
  show IntKind.u64.wrap ((BitVec.ofInt 64 (a : Int) ||| BitVec.ofInt 64 (b : Int)).toNat : Int) = _
  have h := Nat.or_lt_two_pow (n := 64) ha hb
  rw [BitVec.ofInt_natCast, BitVec.ofInt_natCast, BitVec.toNat_or, BitVec.toNat_ofNat, BitVec.toNat_ofNat, Nat.mod_eq_of_lt ha, Nat.mod_eq_of_lt hb, IntKind.wrap_u64]
  omega
theorem bits_xor (a b : Nat) (ha : a < 18446744073709551616) (hb : b < 18446744073709551616) : bits BinOp.xor IntKind.u64 (a : Int) (b : Int) = ((a ^^^ b : Nat) : Int) := by
  show IntKind.u64.wrap ((BitVec.ofInt 64 (a : Int) ^^^ BitVec.ofInt 64 (b : Int)).toNat : Int) = _
  have h := Nat.xor_lt_two_pow (n := 64) ha hb
  rw [BitVec.ofInt_natCast, BitVec.ofInt_natCast, BitVec.toNat_xor, BitVec.toNat_ofNat, BitVec.toNat_ofNat, Nat.mod_eq_of_lt ha, Nat.mod_eq_of_lt hb, IntKind.wrap_u64]
  omega
theorem bits_and (a b : Nat) (ha : a < 18446744073709551616) (hb : b < 18446744073709551616) : bits BinOp.and IntKind.u64 (a : Int) (b : Int) = ((a &&& b : Nat) : Int) := by
  show IntKind.u64.wrap ((BitVec.ofInt 64 (a : Int) &&& BitVec.ofInt 64 (b : Int)).toNat : Int) = _
  have h := Nat.and_lt_two_pow (n := 64) a hb
  rw [BitVec.ofInt_natCast, BitVec.ofInt_natCast, BitVec.toNat_and, BitVec.toNat_ofNat, BitVec.toNat_ofNat, Nat.mod_eq_of_lt ha, Nat.mod_eq_of_lt hb, IntKind.wrap_u64]
  omega
theorem or_pow {h i : Nat} (hi : i < 2 ^ h) : 2 ^ h ||| i = 2 ^ h + i := by
  have := Nat.two_pow_add_eq_or_of_lt hi 1
  rw [Nat.mul_one] at this
  exact this.symm
theorem or_two {n s : Nat} (hs : s ≤ 1) : 2 * n ||| s = 2 * n + s := by
  have := Nat.two_pow_add_eq_or_of_lt (i := 1) (b := s) (by omega) n
  rw [Nat.pow_one] at this
  exact this.symm
theorem nat_u64 {n : Int} (h : (Lit.int .u64 n).wf = true) : ∃ k : Nat, n = (k : Int) ∧ k < 18446744073709551616 := by
  have hmin : IntKind.u64.min = 0 := rfl
  have hmax : IntKind.u64.max = 18446744073709551615 := rfl
  simp only [Lit.wf, Bool.and_eq_true, decide_eq_true_eq, hmin, hmax] at h
  exact ⟨n.toNat, by omega, by omega⟩
theorem ret_int {k : IntKind} {a b : Int} (h : a = b) : Ending.returned (.int k a) = .returned (.int k b) := by rw [h]


set_option maxHeartbeats 400000 in
theorem high_yes (h : Nat) (h1 : 1 ≤ h) (h2 : h ≤ 32) (w : World) :
    Calls Try.prog 59 #[.int .i64 (h : Int)] w fun e w' => e = .returned (.bool true) ∧ w' = w := by
  have a : (1 : Int) ≤ (h : Int) := by omega
  have b : (h : Int) ≤ 32 := by omega
  have c : decide ((1 : Int) ≤ (h : Int)) = true := decide_eq_true a
  have d : decide ((h : Int) ≤ 32) = true := decide_eq_true b
  go_enter Try.func59, Try.ntmps59
  go_wp2_with fail
  go_ret
  exact ⟨by simp [*], rfl⟩

set_option maxHeartbeats 400000 in
theorem high_lo (h : Int) (h1 : h < 1) (w : World) :
    Calls Try.prog 59 #[.int .i64 h] w fun e w' => e = .returned (.bool false) ∧ w' = w := by
  have c : decide ((1 : Int) ≤ h) = false := decide_eq_false (by omega)
  go_enter Try.func59, Try.ntmps59
  go_wp2_with fail
  go_ret
  exact ⟨rfl, rfl⟩

set_option maxHeartbeats 400000 in
theorem high_hi (h : Int) (h1 : 32 < h) (w : World) :
    Calls Try.prog 59 #[.int .i64 h] w fun e w' => e = .returned (.bool false) ∧ w' = w := by
  have c : decide ((1 : Int) ≤ h) = true := decide_eq_true (by omega)
  have d : decide (h ≤ 32) = false := decide_eq_false (by omega)
  go_enter Try.func59, Try.ntmps59
  go_wp2_with fail
  go_ret
  exact ⟨by simp [*], rfl⟩

set_option maxHeartbeats 400000 in
theorem depth_eq {n d : Nat} (hd : Hid (dep n = d)) (h1 : 1 ≤ n) (h2 : n < 18446744073709551616) (w : World) :
    Calls Try.prog 55 #[.int .u64 (n : Int)] w fun e w' => e = .returned (.int .i64 (d : Int)) ∧ w' = w := by
  have hb := bitLen_dep h1 h2
  rw [hd.out] at hb
  have hl := dep_lt h1 h2
  rw [hd.out] at hl
  have hc : Calls Try.prog 58 #[.int .u64 (n : Int)] w fun e w' => e = .returned (.int .i64 ((d : Int) + 1)) ∧ w' = w := by
    have c := Try.bits_Len64 (n : Int) w (by omega) (by omega)
    rw [Int.toNat_natCast, hb] at c
    exact c
  clear hb
  go_enter Try.func55, Try.ntmps55
  go_wp2_with (first | (go_at_call 58; ((with_reducible refine (hc).mono ?_); rintro e w' ⟨rfl, rfl⟩)))
  go_ret
  exact ⟨ret_int (by omega), rfl⟩

set_option maxHeartbeats 400000 in
theorem check_yes {h n : Nat} (H : Node h n) (w : World) :
    Calls Try.prog 28 #[.int .i64 (h : Int), .int .u64 (n : Int)] w fun e w' => e = .returned (.int .i64 0) ∧ w' = w := by
  obtain ⟨d, hd⟩ : ∃ d, Hid (dep n = d) := ⟨_, mkHid rfl⟩
  obtain ⟨h1, h2, h3, h4, h5⟩ := H
  rw [hd.out] at h4
  have a : decide ((n : Int) < 1) = false := decide_eq_false (by omega)
  have b : decide ((h : Int) < (d : Int)) = false := decide_eq_false (by omega)
  have b' : decide (h < d) = false := decide_eq_false (by omega)
  go_enter Try.func28, Try.ntmps28
  go_wp2_with (first | (go_at_call 59; ((with_reducible refine (high_yes h h1 h2 _).mono ?_); rintro e w' ⟨rfl, rfl⟩)) | (go_at_call 55; ((with_reducible refine (depth_eq hd h3 h5 _).mono ?_); rintro e w' ⟨rfl, rfl⟩)))
  go_ret
  exact ⟨rfl, rfl⟩

set_option maxHeartbeats 400000 in
theorem check_lo {h : Int} {n : Nat} (H : h < 1) (w : World) :
    Calls Try.prog 28 #[.int .i64 h, .int .u64 (n : Int)] w fun e w' => e = .returned (.int .i64 1) ∧ w' = w := by
  go_enter Try.func28, Try.ntmps28
  go_wp2_with (first | (go_at_call 59; ((with_reducible refine (high_lo h H _).mono ?_); rintro e w' ⟨rfl, rfl⟩)))
  go_ret
  exact ⟨rfl, rfl⟩

set_option maxHeartbeats 400000 in
theorem check_hi {h : Int} {n : Nat} (H : 32 < h) (w : World) :
    Calls Try.prog 28 #[.int .i64 h, .int .u64 (n : Int)] w fun e w' => e = .returned (.int .i64 1) ∧ w' = w := by
  go_enter Try.func28, Try.ntmps28
  go_wp2_with (first | (go_at_call 59; ((with_reducible refine (high_hi h H _).mono ?_); rintro e w' ⟨rfl, rfl⟩)))
  go_ret
  exact ⟨rfl, rfl⟩

set_option maxHeartbeats 400000 in
theorem check_zero {h : Nat} (h1 : 1 ≤ h) (h2 : h ≤ 32) (w : World) :
    Calls Try.prog 28 #[.int .i64 (h : Int), .int .u64 0] w fun e w' => e = .returned (.int .i64 1) ∧ w' = w := by
  go_enter Try.func28, Try.ntmps28
  go_wp2_with (first | (go_at_call 59; ((with_reducible refine (high_yes h h1 h2 _).mono ?_); rintro e w' ⟨rfl, rfl⟩)))
  go_ret
  exact ⟨rfl, rfl⟩

set_option maxHeartbeats 400000 in
theorem check_deep {h n : Nat} (h1 : 1 ≤ h) (h2 : h ≤ 32) (h3 : 1 ≤ n) (h5 : n < 18446744073709551616) (h4 : h < dep n) (w : World) :
    Calls Try.prog 28 #[.int .i64 (h : Int), .int .u64 (n : Int)] w fun e w' => e = .returned (.int .i64 1) ∧ w' = w := by
  obtain ⟨d, hd⟩ : ∃ d, Hid (dep n = d) := ⟨_, mkHid rfl⟩
  rw [hd.out] at h4
  have a : decide ((n : Int) < 1) = false := decide_eq_false (by omega)
  have b : decide ((h : Int) < (d : Int)) = true := decide_eq_true (by omega)
  have b' : decide (h < d) = true := decide_eq_true (by omega)
  go_enter Try.func28, Try.ntmps28
  go_wp2_with (first | (go_at_call 59; ((with_reducible refine (high_yes h h1 h2 _).mono ?_); rintro e w' ⟨rfl, rfl⟩)) | (go_at_call 55; ((with_reducible refine (depth_eq hd h3 h5 _).mono ?_); rintro e w' ⟨rfl, rfl⟩)))
  go_ret
  exact ⟨rfl, rfl⟩

/-- there is no such node: of any whole number for a height -/
def NoNode (h : Int) (n : Nat) : Prop := h < 1 ∨ 32 < h ∨ n = 0 ∨ ∃ k : Nat, h = (k : Int) ∧ 1 ≤ k ∧ k ≤ 32 ∧ 1 ≤ n ∧ k < dep n
theorem node_or {h : Int} {n : Nat} (hn : n < 18446744073709551616) : NoNode h n ∨ ∃ k : Nat, h = (k : Int) ∧ Node k n := by
  by_cases a : h < 1
  · exact .inl (.inl a)
  by_cases b : 32 < h
  · exact .inl (.inr (.inl b))
  obtain ⟨k, rfl⟩ : ∃ k : Nat, h = (k : Int) := ⟨h.toNat, by omega⟩
  by_cases c : n = 0
  · exact .inl (.inr (.inr (.inl c)))
  by_cases d : k < dep n
  · exact .inl (.inr (.inr (.inr ⟨k, rfl, by omega, by omega, by omega, d⟩)))
  · exact .inr ⟨k, rfl, by omega, by omega, by omega, by omega, hn⟩
theorem check_no {h : Int} {n : Nat} (H : NoNode h n) (hn : n < 18446744073709551616) (w : World) :
    Calls Try.prog 28 #[.int .i64 h, .int .u64 (n : Int)] w fun e w' => e = .returned (.int .i64 1) ∧ w' = w := by
  rcases H with H | H | rfl | ⟨k, rfl, a, b, c, d⟩
  · exact check_lo H w
  · exact check_hi H w
  · by_cases a : h < 1
    · exact check_lo a w
    by_cases b : 32 < h
    · exact check_hi b w
    obtain ⟨k, rfl⟩ : ∃ k : Nat, h = (k : Int) := ⟨h.toNat, by omega⟩
    exact check_zero (by omega) (by omega) w
  · exact check_deep a b c hn d w

set_option maxHeartbeats 400000 in
theorem both_yes {h a b : Nat} (H : Node h a) (K : Node h b) (w : World) :
    Calls Try.prog 56 #[.int .i64 (h : Int), .int .u64 (a : Int), .int .u64 (b : Int)] w fun e w' => e = .returned (.int .i64 0) ∧ w' = w := by
  go_enter Try.func56, Try.ntmps56
  go_wp2_with (first | (go_at_call 28; ((with_reducible refine (check_yes (by assumption) _).mono ?_); rintro e w' ⟨rfl, rfl⟩)))
  go_ret
  exact ⟨rfl, rfl⟩

set_option maxHeartbeats 400000 in
theorem both_no1 {h : Int} {a b : Nat} (H : NoNode h a) (ha : a < 18446744073709551616) (w : World) :
    Calls Try.prog 56 #[.int .i64 h, .int .u64 (a : Int), .int .u64 (b : Int)] w fun e w' => e = .returned (.int .i64 1) ∧ w' = w := by
  have H' := mkHid H
  clear H
  go_enter Try.func56, Try.ntmps56
  go_wp2_with (first | (go_at_call 28; ((with_reducible refine (check_no H'.out ha _).mono ?_); rintro e w' ⟨rfl, rfl⟩)))
  go_ret
  exact ⟨rfl, rfl⟩

set_option maxHeartbeats 400000 in
theorem both_no2 {h a b : Nat} (H : Node h a) (K : NoNode h b) (hb : b < 18446744073709551616) (w : World) :
    Calls Try.prog 56 #[.int .i64 (h : Int), .int .u64 (a : Int), .int .u64 (b : Int)] w fun e w' => e = .returned (.int .i64 1) ∧ w' = w := by
  have K' := mkHid K
  have H' := mkHid H
  clear H K
  go_enter Try.func56, Try.ntmps56
  go_wp2_with (first | (go_at_call 28; ((with_reducible refine (check_yes H'.out _).mono ?_); rintro e w' ⟨rfl, rfl⟩)) | (go_at_call 28; ((with_reducible refine (check_no K'.out hb _).mono ?_); rintro e w' ⟨rfl, rfl⟩)))
  go_ret
  exact ⟨rfl, rfl⟩

set_option maxHeartbeats 400000 in
theorem leaf_yes {h i r : Nat} (h1 : 1 ≤ h) (h2 : h ≤ 32) (hi : i < 2 ^ h) (hr : Hid (2 ^ h + i = r)) (w : World) :
    Calls Try.prog 21 #[.int .i64 (h : Int), .int .u64 (i : Int)] w fun e w' => e = .returned (.tuple #[.int .u64 ((r : Int)), .int .i64 0]) ∧ w' = w := by
  have hp : 2 ^ h ≤ 4294967296 := pow_le (b := 32) h2
  have hp0 := Nat.two_pow_pos h
  have es : (i : Int) / 2 ^ h = 0 := by rw [pow_int, ← Int.natCast_ediv, Nat.div_eq_of_lt hi]; rfl
  have el : IntKind.u64.wrap (2 ^ h) = ((2 ^ h : Nat) : Int) := by rw [pow_int, IntKind.wrap_u64]; omega
  have eo : bits BinOp.or IntKind.u64 ((2 : Int) ^ h) (i : Int) = (r : Int) := by rw [pow_int, bits_or _ _ (by omega) (by omega), or_pow hi, hr.out]
  clear hp hp0 hr hi
  go_enter Try.func21, Try.ntmps21
  go_wp2_with (first | (go_at_call 59; ((with_reducible refine (high_yes h h1 h2 _).mono ?_); rintro e w' ⟨rfl, rfl⟩)))
  go_ret2
  exact ⟨rfl, rfl⟩

set_option maxHeartbeats 400000 in
theorem leaf_none {h i : Nat} (h1 : 1 ≤ h) (h2 : h ≤ 32) (hi : 2 ^ h ≤ i) (w : World) :
    Calls Try.prog 21 #[.int .i64 (h : Int), .int .u64 (i : Int)] w fun e w' => e = .returned (.tuple #[.int .u64 (0), .int .i64 4]) ∧ w' = w := by
  have hp0 : 1 ≤ i / 2 ^ h := by rw [Nat.le_div_iff_mul_le (Nat.two_pow_pos h)]; omega
  have es : (0 : Int) < (i : Int) / 2 ^ h := by rw [pow_int, ← Int.natCast_ediv]; omega
  have ed : decide ((0 : Int) < (i : Int) / 2 ^ h) = true := decide_eq_true es
  clear hp0 hi
  go_enter Try.func21, Try.ntmps21
  go_wp2_with (first | (go_at_call 59; ((with_reducible refine (high_yes h h1 h2 _).mono ?_); rintro e w' ⟨rfl, rfl⟩)))
  go_ret2
  exact ⟨rfl, rfl⟩

set_option maxHeartbeats 400000 in
theorem leaf_lo {h : Int} {n : Nat} (H : h < 1) (w : World) :
    Calls Try.prog 21 #[.int .i64 h, .int .u64 (n : Int)] w fun e w' => e = .returned (.tuple #[.int .u64 (0), .int .i64 1]) ∧ w' = w := by
  go_enter Try.func21, Try.ntmps21
  go_wp2_with (first | (go_at_call 59; ((with_reducible refine (high_lo h H _).mono ?_); rintro e w' ⟨rfl, rfl⟩)))
  go_ret2
  exact ⟨rfl, rfl⟩

set_option maxHeartbeats 400000 in
theorem leaf_hi {h : Int} {n : Nat} (H : 32 < h) (w : World) :
    Calls Try.prog 21 #[.int .i64 h, .int .u64 (n : Int)] w fun e w' => e = .returned (.tuple #[.int .u64 (0), .int .i64 1]) ∧ w' = w := by
  go_enter Try.func21, Try.ntmps21
  go_wp2_with (first | (go_at_call 59; ((with_reducible refine (high_hi h H _).mono ?_); rintro e w' ⟨rfl, rfl⟩)))
  go_ret2
  exact ⟨rfl, rfl⟩

set_option maxHeartbeats 400000 in
theorem depth_yes {h n d : Nat} (H : Node h n) (hd : Hid (dep n = d)) (w : World) :
    Calls Try.prog 23 #[.int .i64 (h : Int), .int .u64 (n : Int)] w fun e w' => e = .returned (.tuple #[.int .i64 ((d : Int)), .int .i64 0]) ∧ w' = w := by
  obtain ⟨h1, h2, h3, h4, h5⟩ := id H
  have H' := mkHid H
  clear H
  go_enter Try.func23, Try.ntmps23
  go_wp2_with (first | (go_at_call 28; ((with_reducible refine (check_yes H'.out _).mono ?_); rintro e w' ⟨rfl, rfl⟩)) | (go_at_call 55; ((with_reducible refine (depth_eq hd h3 h5 _).mono ?_); rintro e w' ⟨rfl, rfl⟩)))
  go_ret2
  exact ⟨rfl, rfl⟩

set_option maxHeartbeats 400000 in
theorem depth_no {h : Int} {n : Nat} (H : NoNode h n) (hn : n < 18446744073709551616) (w : World) :
    Calls Try.prog 23 #[.int .i64 h, .int .u64 (n : Int)] w fun e w' => e = .returned (.tuple #[.int .i64 (0), .int .i64 1]) ∧ w' = w := by
  have H' := mkHid H
  clear H
  go_enter Try.func23, Try.ntmps23
  go_wp2_with (first | (go_at_call 28; ((with_reducible refine (check_no H'.out hn _).mono ?_); rintro e w' ⟨rfl, rfl⟩)))
  go_ret2
  exact ⟨rfl, rfl⟩

set_option maxHeartbeats 400000 in
theorem up_yes {h n d t r : Nat} (H : Node h n) (hd : Hid (dep n = d)) (ht : t ≤ d) (hr : Hid (n / 2 ^ (d - t) = r)) (w : World) :
    Calls Try.prog 25 #[.int .i64 (h : Int), .int .u64 (n : Int), .int .i64 (t : Int)] w fun e w' => e = .returned (.tuple #[.int .u64 ((r : Int)), .int .i64 0]) ∧ w' = w := by
  obtain ⟨h1, h2, h3, h4, h5⟩ := id H
  have H' := mkHid H
  clear H
  rw [hd.out] at h4
  have a : decide ((t : Int) < 0) = false := decide_eq_false (by omega)
  have b : decide (d < t) = false := decide_eq_false (by omega)
  have b' : decide ((d : Int) < (t : Int)) = false := decide_eq_false (by omega)
  have e : (d : Int) - (t : Int) = ((d - t : Nat) : Int) := by omega
  generalize d - t = u at *
  have hu : u ≤ 32 := by omega
  have er : (n : Int) / 2 ^ u = (r : Int) := by rw [pow_int, ← Int.natCast_ediv, hr.out]
  clear hr
  go_enter Try.func25, Try.ntmps25
  go_wp2_with (first | (go_at_call 28; ((with_reducible refine (check_yes H'.out _).mono ?_); rintro e w' ⟨rfl, rfl⟩)) | (go_at_call 55; ((with_reducible refine (depth_eq hd h3 h5 _).mono ?_); rintro e w' ⟨rfl, rfl⟩)))
  go_ret2
  exact ⟨rfl, rfl⟩

set_option maxHeartbeats 400000 in
theorem up_low {h n : Nat} {t : Int} (H : Node h n) (ht : t < 0) (w : World) :
    Calls Try.prog 25 #[.int .i64 (h : Int), .int .u64 (n : Int), .int .i64 t] w fun e w' => e = .returned (.tuple #[.int .u64 (0), .int .i64 4]) ∧ w' = w := by
  have H' := mkHid H
  clear H
  go_enter Try.func25, Try.ntmps25
  go_wp2_with (first | (go_at_call 28; ((with_reducible refine (check_yes H'.out _).mono ?_); rintro e w' ⟨rfl, rfl⟩)))
  go_ret2
  exact ⟨rfl, rfl⟩

set_option maxHeartbeats 400000 in
theorem up_deep {h n d : Nat} {t : Int} (H : Node h n) (hd : Hid (dep n = d)) (ht : (d : Int) < t) (w : World) :
    Calls Try.prog 25 #[.int .i64 (h : Int), .int .u64 (n : Int), .int .i64 t] w fun e w' => e = .returned (.tuple #[.int .u64 (0), .int .i64 4]) ∧ w' = w := by
  obtain ⟨h1, h2, h3, h4, h5⟩ := id H
  have H' := mkHid H
  clear H
  rw [hd.out] at h4
  have a : decide (t < 0) = false := decide_eq_false (by omega)
  have b' : decide ((d : Int) < t) = true := decide_eq_true ht
  go_enter Try.func25, Try.ntmps25
  go_wp2_with (first | (go_at_call 28; ((with_reducible refine (check_yes H'.out _).mono ?_); rintro e w' ⟨rfl, rfl⟩)) | (go_at_call 55; ((with_reducible refine (depth_eq hd h3 h5 _).mono ?_); rintro e w' ⟨rfl, rfl⟩)))
  go_ret2
  exact ⟨rfl, rfl⟩

set_option maxHeartbeats 400000 in
theorem up_no {h t : Int} {n : Nat} (H : NoNode h n) (hn : n < 18446744073709551616) (w : World) :
    Calls Try.prog 25 #[.int .i64 h, .int .u64 (n : Int), .int .i64 t] w fun e w' => e = .returned (.tuple #[.int .u64 (0), .int .i64 1]) ∧ w' = w := by
  have H' := mkHid H
  clear H
  go_enter Try.func25, Try.ntmps25
  go_wp2_with (first | (go_at_call 28; ((with_reducible refine (check_no H'.out hn _).mono ?_); rintro e w' ⟨rfl, rfl⟩)))
  go_ret2
  exact ⟨rfl, rfl⟩

set_option maxHeartbeats 400000 in
theorem child_yes {h n d s r : Nat} (H : Node h n) (hd : Hid (dep n = d)) (hlt : d < h) (hs0 : s ≤ 1) (hr : Hid (2 * n + s = r)) (w : World) :
    Calls Try.prog 20 #[.int .i64 (h : Int), .int .u64 (n : Int), .int .i64 (s : Int)] w fun e w' => e = .returned (.tuple #[.int .u64 ((r : Int)), .int .i64 0]) ∧ w' = w := by
  obtain ⟨h1, h2, h3, h4, h5⟩ := id H
  have H' := mkHid H
  clear H
  rw [hd.out] at h4
  have hsm := H'.out.small
  have hs : bits BinOp.andNot IntKind.i64 (s : Int) 1 = 0 := by rcases (show s = 0 ∨ s = 1 by omega) with rfl | rfl <;> decide
  have hs1 : IntKind.u64.wrap (s : Int) = (s : Int) := by rw [IntKind.wrap_u64]; omega
  have a : ((d : Int) == (h : Int)) = false := by rw [beq_eq_false_iff_ne]; omega
  have a' : (d == h) = false := by rw [beq_eq_false_iff_ne]; omega
  have e : IntKind.u64.wrap ((n : Int) * 2) = ((2 * n : Nat) : Int) := by rw [IntKind.wrap_u64]; omega
  have er : bits BinOp.or IntKind.u64 (2 * (n : Int)) (s : Int) = (r : Int) := by
    rw [show 2 * (n : Int) = ((2 * n : Nat) : Int) by omega, bits_or _ _ (by omega) (by omega), or_two hs0, hr.out]
  clear hr
  go_enter Try.func20, Try.ntmps20
  go_wp2_with (first | (go_at_call 28; ((with_reducible refine (check_yes H'.out _).mono ?_); rintro e w' ⟨rfl, rfl⟩)) | (go_at_call 55; ((with_reducible refine (depth_eq hd h3 h5 _).mono ?_); rintro e w' ⟨rfl, rfl⟩)))
  go_ret2
  exact ⟨rfl, rfl⟩

set_option maxHeartbeats 400000 in
theorem child_none {h n d s : Nat} (H : Node h n) (hd : Hid (dep n = d)) (hlt : d = h) (hs0 : s ≤ 1) (w : World) :
    Calls Try.prog 20 #[.int .i64 (h : Int), .int .u64 (n : Int), .int .i64 (s : Int)] w fun e w' => e = .returned (.tuple #[.int .u64 (0), .int .i64 4]) ∧ w' = w := by
  subst hlt
  obtain ⟨h1, h2, h3, h4, h5⟩ := id H
  have H' := mkHid H
  clear H
  rw [hd.out] at h4
  have hs : bits BinOp.andNot IntKind.i64 (s : Int) 1 = 0 := by rcases (show s = 0 ∨ s = 1 by omega) with rfl | rfl <;> decide
  have hs1 : IntKind.u64.wrap (s : Int) = (s : Int) := by rw [IntKind.wrap_u64]; omega
  go_enter Try.func20, Try.ntmps20
  go_wp2_with (first | (go_at_call 28; ((with_reducible refine (check_yes H'.out _).mono ?_); rintro e w' ⟨rfl, rfl⟩)) | (go_at_call 55; ((with_reducible refine (depth_eq hd h3 h5 _).mono ?_); rintro e w' ⟨rfl, rfl⟩)))
  go_ret2
  exact ⟨rfl, rfl⟩

set_option maxHeartbeats 400000 in
theorem child_side {h n : Nat} {s : Int} (H : Node h n) (hs : bits BinOp.andNot IntKind.i64 s 1 ≠ 0) (w : World) :
    Calls Try.prog 20 #[.int .i64 (h : Int), .int .u64 (n : Int), .int .i64 s] w fun e w' => e = .returned (.tuple #[.int .u64 (0), .int .i64 1]) ∧ w' = w := by
  have H' := mkHid H
  clear H
  have hs1 : (bits BinOp.andNot IntKind.i64 s 1 != 0) = true := by rw [bne_iff_ne]; exact hs
  clear hs
  go_enter Try.func20, Try.ntmps20
  go_wp2_with (first | (go_at_call 28; ((with_reducible refine (check_yes H'.out _).mono ?_); rintro e w' ⟨rfl, rfl⟩)))
  go_ret2
  exact ⟨rfl, rfl⟩

set_option maxHeartbeats 400000 in
theorem child_no {h s : Int} {n : Nat} (H : NoNode h n) (hn : n < 18446744073709551616) (w : World) :
    Calls Try.prog 20 #[.int .i64 h, .int .u64 (n : Int), .int .i64 s] w fun e w' => e = .returned (.tuple #[.int .u64 (0), .int .i64 1]) ∧ w' = w := by
  have H' := mkHid H
  clear H
  go_enter Try.func20, Try.ntmps20
  go_wp2_with (first | (go_at_call 28; ((with_reducible refine (check_no H'.out hn _).mono ?_); rintro e w' ⟨rfl, rfl⟩)))
  go_ret2
  exact ⟨rfl, rfl⟩

set_option maxHeartbeats 400000 in
theorem other_yes {h n r : Nat} (H : Node h n) (h1 : n ≠ 1) (hr : Hid (n ^^^ 1 = r)) (w : World) :
    Calls Try.prog 30 #[.int .i64 (h : Int), .int .u64 (n : Int)] w fun e w' => e = .returned (.tuple #[.int .u64 ((r : Int)), .int .i64 0]) ∧ w' = w := by
  have H' := mkHid H
  clear H
  have h5 := H'.out.2.2.2.2
  have a : ((n : Int) == 1) = false := by rw [beq_eq_false_iff_ne]; omega
  have a' : (n == 1) = false := by rw [beq_eq_false_iff_ne]; omega
  have er : bits BinOp.xor IntKind.u64 (n : Int) 1 = (r : Int) := by
    rw [show (1 : Int) = ((1 : Nat) : Int) from rfl, bits_xor _ _ h5 (by omega), hr.out]
  clear hr h5
  go_enter Try.func30, Try.ntmps30
  go_wp2_with (first | (go_at_call 28; ((with_reducible refine (check_yes H'.out _).mono ?_); rintro e w' ⟨rfl, rfl⟩)))
  go_ret2
  exact ⟨rfl, rfl⟩

set_option maxHeartbeats 400000 in
theorem other_root {h n : Nat} (H : Node h n) (h1 : n = 1) (w : World) :
    Calls Try.prog 30 #[.int .i64 (h : Int), .int .u64 (n : Int)] w fun e w' => e = .returned (.tuple #[.int .u64 (0), .int .i64 4]) ∧ w' = w := by
  have H' := mkHid H
  clear H
  have a : ((n : Int) == 1) = true := by rw [beq_iff_eq]; omega
  have a' : (n == 1) = true := by rw [beq_iff_eq]; omega
  clear h1
  go_enter Try.func30, Try.ntmps30
  go_wp2_with (first | (go_at_call 28; ((with_reducible refine (check_yes H'.out _).mono ?_); rintro e w' ⟨rfl, rfl⟩)))
  go_ret2
  exact ⟨rfl, rfl⟩

set_option maxHeartbeats 400000 in
theorem other_no {h : Int} {n : Nat} (H : NoNode h n) (hn : n < 18446744073709551616) (w : World) :
    Calls Try.prog 30 #[.int .i64 h, .int .u64 (n : Int)] w fun e w' => e = .returned (.tuple #[.int .u64 (0), .int .i64 1]) ∧ w' = w := by
  have H' := mkHid H
  clear H
  go_enter Try.func30, Try.ntmps30
  go_wp2_with (first | (go_at_call 28; ((with_reducible refine (check_no H'.out hn _).mono ?_); rintro e w' ⟨rfl, rfl⟩)))
  go_ret2
  exact ⟨rfl, rfl⟩

set_option maxHeartbeats 400000 in
theorem above_deep {a b p q : Nat} (hp : Hid (dep a = p)) (hq : Hid (dep b = q)) (a1 : 1 ≤ a) (a2 : a < 18446744073709551616) (b1 : 1 ≤ b) (b2 : b < 18446744073709551616) (hl : q < p) (w : World) :
    Calls Try.prog 57 #[.int .u64 (a : Int), .int .u64 (b : Int)] w fun e w' => e = .returned (.bool false) ∧ w' = w := by
  have c : decide (p ≤ q) = false := decide_eq_false (by omega)
  have c' : decide ((p : Int) ≤ (q : Int)) = false := decide_eq_false (by omega)
  go_enter Try.func57, Try.ntmps57
  go_wp2_with (first | (go_at_call 55; ((with_reducible refine (depth_eq hp a1 a2 _).mono ?_); rintro e w' ⟨rfl, rfl⟩)) | (go_at_call 55; ((with_reducible refine (depth_eq hq b1 b2 _).mono ?_); rintro e w' ⟨rfl, rfl⟩)))
  go_ret
  exact ⟨by simp [*], rfl⟩

set_option maxHeartbeats 400000 in
theorem above_eq {a b p q : Nat} (hp : Hid (dep a = p)) (hq : Hid (dep b = q)) (a1 : 1 ≤ a) (a2 : a < 18446744073709551616) (b1 : 1 ≤ b) (b2 : b < 18446744073709551616) {r : Nat} (hl : p ≤ q) (hr : Hid (b / 2 ^ (q - p) = r)) (w : World) :
    Calls Try.prog 57 #[.int .u64 (a : Int), .int .u64 (b : Int)] w fun e w' => e = .returned (.bool ((r : Int) == (a : Int))) ∧ w' = w := by
  have hp1 := dep_lt a1 a2
  rw [hp.out] at hp1
  have hq1 := dep_lt b1 b2
  rw [hq.out] at hq1
  have c : decide (p ≤ q) = true := decide_eq_true (by omega)
  have c' : decide ((p : Int) ≤ (q : Int)) = true := decide_eq_true (by omega)
  have e : (q : Int) - (p : Int) = ((q - p : Nat) : Int) := by omega
  generalize q - p = u at *
  have hu : u ≤ 64 := by omega
  have er : (b : Int) / 2 ^ u = (r : Int) := by rw [pow_int, ← Int.natCast_ediv, hr.out]
  clear hr
  go_enter Try.func57, Try.ntmps57
  go_wp2_with (first | (go_at_call 55; ((with_reducible refine (depth_eq hp a1 a2 _).mono ?_); rintro e w' ⟨rfl, rfl⟩)) | (go_at_call 55; ((with_reducible refine (depth_eq hq b1 b2 _).mono ?_); rintro e w' ⟨rfl, rfl⟩)))
  go_ret
  exact ⟨by simp [*], rfl⟩

theorem above_any {a b : Nat} (a1 : 1 ≤ a) (a2 : a < 18446744073709551616) (b1 : 1 ≤ b) (b2 : b < 18446744073709551616) (w : World) :
    Calls Try.prog 57 #[.int .u64 (a : Int), .int .u64 (b : Int)] w fun e w' => e = .returned (.bool (decide (Anc a b))) ∧ w' = w := by
  by_cases hl : dep a ≤ dep b
  · have c := above_eq (mkHid rfl) (mkHid rfl) a1 a2 b1 b2 hl (mkHid rfl) w
    have e : (((b / 2 ^ (dep b - dep a) : Nat) : Int) == (a : Int)) = decide (Anc a b) := by
      rw [Bool.eq_iff_iff, beq_iff_eq, decide_eq_true_eq]
      exact ⟨fun h => ⟨hl, by omega⟩, fun h => by rw [h.2]⟩
    rw [e] at c
    exact c
  · have c := above_deep (mkHid rfl) (mkHid rfl) a1 a2 b1 b2 (by omega) w
    have e : decide (Anc a b) = false := decide_eq_false fun h => hl h.1
    rw [e]
    exact c
theorem above_yes {a b : Nat} (h : Anc a b) (a1 : 1 ≤ a) (a2 : a < 18446744073709551616) (b1 : 1 ≤ b) (b2 : b < 18446744073709551616) (w : World) :
    Calls Try.prog 57 #[.int .u64 (a : Int), .int .u64 (b : Int)] w fun e w' => e = .returned (.bool true) ∧ w' = w := by
  have c := above_any a1 a2 b1 b2 w
  rwa [decide_eq_true h] at c
theorem above_not {a b : Nat} (h : ¬ Anc a b) (a1 : 1 ≤ a) (a2 : a < 18446744073709551616) (b1 : 1 ≤ b) (b2 : b < 18446744073709551616) (w : World) :
    Calls Try.prog 57 #[.int .u64 (a : Int), .int .u64 (b : Int)] w fun e w' => e = .returned (.bool false) ∧ w' = w := by
  have c := above_any a1 a2 b1 b2 w
  rwa [decide_eq_false h] at c

set_option maxHeartbeats 400000 in
theorem Above_any {h a b : Nat} {z : Bool} (H : Node h a) (K : Node h b) (hz : Hid (decide (Anc a b) = z)) (w : World) :
    Calls Try.prog 18 #[.int .i64 (h : Int), .int .u64 (a : Int), .int .u64 (b : Int)] w fun e w' => e = .returned (.tuple #[.bool z, .int .i64 0]) ∧ w' = w := by
  obtain ⟨_, _, a1, _, a2⟩ := id H
  obtain ⟨_, _, b1, _, b2⟩ := id K
  have H' := mkHid H
  have K' := mkHid K
  clear H K
  have hc : Calls Try.prog 57 #[.int .u64 (a : Int), .int .u64 (b : Int)] w fun e w' => e = .returned (.bool z) ∧ w' = w := by
    have c := above_any a1 a2 b1 b2 w
    rwa [hz.out] at c
  clear hz
  go_enter Try.func18, Try.ntmps18
  go_wp2_with (first | (go_at_call 56; ((with_reducible refine (both_yes H'.out K'.out _).mono ?_); rintro e w' ⟨rfl, rfl⟩)) | (go_at_call 57; ((with_reducible refine (hc).mono ?_); rintro e w' ⟨rfl, rfl⟩)))
  go_ret2
  exact ⟨rfl, rfl⟩

set_option maxHeartbeats 400000 in
theorem Above_no1 {h : Int} {a b : Nat} (H : NoNode h a) (ha : a < 18446744073709551616) (w : World) :
    Calls Try.prog 18 #[.int .i64 h, .int .u64 (a : Int), .int .u64 (b : Int)] w fun e w' => e = .returned (.tuple #[.bool false, .int .i64 1]) ∧ w' = w := by
  have H' := mkHid H
  clear H
  go_enter Try.func18, Try.ntmps18
  go_wp2_with (first | (go_at_call 56; ((with_reducible refine (both_no1 H'.out ha _).mono ?_); rintro e w' ⟨rfl, rfl⟩)))
  go_ret2
  exact ⟨rfl, rfl⟩

set_option maxHeartbeats 400000 in
theorem Above_no2 {h a b : Nat} (H : Node h a) (K : NoNode h b) (hb : b < 18446744073709551616) (w : World) :
    Calls Try.prog 18 #[.int .i64 (h : Int), .int .u64 (a : Int), .int .u64 (b : Int)] w fun e w' => e = .returned (.tuple #[.bool false, .int .i64 1]) ∧ w' = w := by
  have K' := mkHid K
  have H' := mkHid H
  clear H K
  go_enter Try.func18, Try.ntmps18
  go_wp2_with (first | (go_at_call 56; ((with_reducible refine (both_no2 H'.out K'.out hb _).mono ?_); rintro e w' ⟨rfl, rfl⟩)))
  go_ret2
  exact ⟨rfl, rfl⟩

set_option maxHeartbeats 400000 in
theorem Meet_no1 {h : Int} {a b : Nat} (H : NoNode h a) (ha : a < 18446744073709551616) (w : World) :
    Calls Try.prog 19 #[.int .i64 h, .int .u64 (a : Int), .int .u64 (b : Int)] w fun e w' => e = .returned (.tuple #[.int .u64 (0), .int .i64 1]) ∧ w' = w := by
  have H' := mkHid H
  clear H
  go_enter Try.func19, Try.ntmps19
  go_wp2_with (first | (go_at_call 56; ((with_reducible refine (both_no1 H'.out ha _).mono ?_); rintro e w' ⟨rfl, rfl⟩)))
  go_ret2
  exact ⟨rfl, rfl⟩

set_option maxHeartbeats 400000 in
theorem Meet_no2 {h a b : Nat} (H : Node h a) (K : NoNode h b) (hb : b < 18446744073709551616) (w : World) :
    Calls Try.prog 19 #[.int .i64 (h : Int), .int .u64 (a : Int), .int .u64 (b : Int)] w fun e w' => e = .returned (.tuple #[.int .u64 (0), .int .i64 1]) ∧ w' = w := by
  have K' := mkHid K
  have H' := mkHid H
  clear H K
  go_enter Try.func19, Try.ntmps19
  go_wp2_with (first | (go_at_call 56; ((with_reducible refine (both_no2 H'.out K'.out hb _).mono ?_); rintro e w' ⟨rfl, rfl⟩)))
  go_ret2
  exact ⟨rfl, rfl⟩

set_option maxHeartbeats 1000000 in
theorem Meet_eq {h a b p q m x y k r : Nat} (H : Node h a) (K : Node h b) (hp : Hid (dep a = p)) (hq : Hid (dep b = q)) (hm : Hid (min p q = m)) (hx : Hid (a / 2 ^ (p - m) = x)) (hy : Hid (b / 2 ^ (q - m) = y)) (hk : Hid (Lib.bitLen (x ^^^ y) = k)) (hr : Hid (x / 2 ^ k = r)) (w : World) :
    Calls Try.prog 19 #[.int .i64 (h : Int), .int .u64 (a : Int), .int .u64 (b : Int)] w fun e w' => e = .returned (.tuple #[.int .u64 ((r : Int)), .int .i64 0]) ∧ ∃ n, w' = w.drewN n := by
  obtain ⟨_, _, a1, _, a2⟩ := id H
  obtain ⟨_, _, b1, _, b2⟩ := id K
  have H' := mkHid H
  have K' := mkHid K
  clear H K
  have hp1 := dep_lt a1 a2
  rw [hp.out] at hp1
  have hq1 := dep_lt b1 b2
  rw [hq.out] at hq1
  have hx1 : x < 18446744073709551616 := by rw [← hx.out]; exact Nat.lt_of_le_of_lt (Nat.div_le_self _ _) a2
  have hy1 : y < 18446744073709551616 := by rw [← hy.out]; exact Nat.lt_of_le_of_lt (Nat.div_le_self _ _) b2
  have hz1 := Nat.xor_lt_two_pow (n := 64) hx1 hy1
  have hmn : min (p : Int) (q : Int) = (m : Int) := by rw [← hm.out]; omega
  have mp : m ≤ p := by rw [← hm.out]; omega
  have mq : m ≤ q := by rw [← hm.out]; omega
  have ep : (p : Int) - (m : Int) = ((p - m : Nat) : Int) := by omega
  have eq : (q : Int) - (m : Int) = ((q - m : Nat) : Int) := by omega
  have ep' : IntKind.i64.wrap ((p : Int) - (m : Int)) = ((p - m : Nat) : Int) := by rw [ep]; exact IntWalk.i64_in _ (by omega)
  have eq' : IntKind.i64.wrap ((q : Int) - (m : Int)) = ((q - m : Nat) : Int) := by rw [eq]; exact IntWalk.i64_in _ (by omega)
  generalize hu : p - m = u at *
  generalize hv : q - m = v at *
  have hu1 : u ≤ 64 := by omega
  have hv1 : v ≤ 64 := by omega
  have ex : (a : Int) / 2 ^ u = (x : Int) := by rw [pow_int, ← Int.natCast_ediv, hx.out]
  have ey : (b : Int) / 2 ^ v = (y : Int) := by rw [pow_int, ← Int.natCast_ediv, hy.out]
  have ez : bits BinOp.xor IntKind.u64 (x : Int) (y : Int) = ((x ^^^ y : Nat) : Int) := bits_xor _ _ hx1 hy1
  have hlen : ∀ w : World, Calls Try.prog 58 #[.int .u64 ((x ^^^ y : Nat) : Int)] w fun e w' => e = .returned (.int .i64 (k : Int)) ∧ w' = w := by
    intro w
    have c := Try.bits_Len64 ((x ^^^ y : Nat) : Int) w (by omega) (by omega)
    rw [Int.toNat_natCast, hk.out] at c
    exact c
  have hk1 : k ≤ 64 := by rw [← hk.out]; exact Lib.bitLen_le _ 64 (by omega) hz1
  have er : (x : Int) / 2 ^ k = (r : Int) := by rw [pow_int, ← Int.natCast_ediv, hr.out]
  have Ex := mkHid ex
  have Ey := mkHid ey
  have Er := mkHid er
  clear hx hy hm hu hv hk hr ep eq hz1 er
  clear ex ey
  generalize x ^^^ y = z at *
  go_enter Try.func19, Try.ntmps19
  go_wp2_with (first | (go_at_call 56; ((with_reducible refine (both_yes H'.out K'.out _).mono ?_); rintro e w' ⟨rfl, rfl⟩)) | (go_at_call 55; ((with_reducible refine (depth_eq hp a1 a2 _).mono ?_); rintro e w' ⟨rfl, rfl⟩)) | (go_at_call 55; ((with_reducible refine (depth_eq hq b1 b2 _).mono ?_); rintro e w' ⟨rfl, rfl⟩)))
  have ex := Ex.out
  have ey := Ey.out
  go_quiet ((first | (go_at_call 55; exact Calls.quiet_of_same (depth_eq hp a1 a2 _)) | (go_at_call 55; exact Calls.quiet_of_same (depth_eq hq b1 b2 _))))
  clear ex ey
  have er := Er.out
  go_wp2_with (go_at_call 58; ((with_reducible refine (hlen _).mono ?_); rintro e w' ⟨rfl, rfl⟩))
  go_ret2
  exact ⟨rfl, _, rfl⟩
end Go.Proofs.Ytkimbkcghmelgaa
