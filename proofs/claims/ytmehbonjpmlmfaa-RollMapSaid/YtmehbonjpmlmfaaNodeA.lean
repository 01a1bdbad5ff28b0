/- The contracts of package node. -/
import Derived.Test.YtmehbonjpmlmfaaNodeQ
import Derived.Test.YtmehbonjpmlmfaaRows
import Derived.Test.YtmehbonjpmlmfaaShelf
import Derived.WalkKit
import Derived.WalkSpells
import Derived.WalkLawsBesides
import Derived.Deep.QuietTactic
import Derived.BigQuiet
import Derived.IntWalk
namespace Go.Proofs.Ytmehbonjpmlmfaa
open Go.RowKit

theorem mkHid {p : Prop} (h : p) : Hid p := h
theorem pow_int (k : Nat) : (2 : Int) ^ k = ((2 ^ k : Nat) : Int) := by rw [Int.natCast_pow]; rfl
theorem bits_or (a b : Nat) (ha : a < 18446744073709551616) (hb : b < 18446744073709551616) : bits BinOp.or IntKind.u64 (a : Int) (b : Int) = ((a ||| b : Nat) : Int) := by
  show IntKind.u64.wrap ((BitVec.ofInt 64 (a : Int) ||| BitVec.ofInt 64 (b : Int)).toNat : Int) = _
  have h := Nat.or_lt_two_pow (n := 64) ha hb
  rw [BitVec.ofInt_natCast, BitVec.ofInt_natCast, BitVec.toNat_or, BitVec.toNat_ofNat, BitVec.toNat_ofNat, Nat.mod_eq_of_lt ha, Nat.mod_eq_of_lt hb, IntKind.wrap_u64]
  omega
theorem bits_xor (a b : Nat) (ha : a < 18446744073709551616) (hb : b < 18446744073709551616) : bits BinOp.xor IntKind.u64 (a : Int) (b : Int) = ((a ^^^ b : Nat) : Int) := by
  show IntKind.u64.wrap ((BitVec.ofInt 64 (a : Int) ^^^ BitVec.ofInt 64 (b : Int)).toNat : Int) = _
  have h := Nat.xor_lt_two_pow (n := 64) ha hb
  rw [BitVec.ofInt_natCast, BitVec.ofInt_natCast, BitVec.toNat_xor, BitVec.toNat_ofNat, BitVec.toNat_ofNat, Nat.mod_eq_of_lt ha, Nat.mod_eq_of_lt hb, IntKind.wrap_u64]
  omega
theorem bits_and (a b : Nat) (ha : a < 18446744073709551616) (hb : b < 18446744073709551616) : bits BinOp.and IntKind.u64 (a : Int) (b : Int) = ((a &&& b : Nat) : Int) := by
  show IntKind.u64.wrap ((BitVec.ofInt 64 (a : Int) &&& BitVec.ofInt 64 (b : Int)).toNat : Int) = _
  have h := Nat.and_lt_two_pow (n := 64) a hb
  rw [BitVec.ofInt_natCast, BitVec.ofInt_natCast, BitVec.toNat_and, BitVec.toNat_ofNat, BitVec.toNat_ofNat, Nat.mod_eq_of_lt ha, Nat.mod_eq_of_lt hb, IntKind.wrap_u64]
  omega
theorem or_pow {h i : Nat} (hi : i < 2 ^ h) : 2 ^ h ||| i = 2 ^ h + i := by
  have := Nat.two_pow_add_eq_or_of_lt hi 1
  rw [Nat.mul_one] at this
  exact this.symm
theorem or_two {n s : Nat} (hs : s ≤ 1) : 2 * n ||| s = 2 * n + s := by
  have := Nat.two_pow_add_eq_or_of_lt (i := 1) (b := s) (by omega) n
  rw [Nat.pow_one] at this
  exact this.symm
theorem nat_u64 {n : Int} (h : (Lit.int .u64 n).wf = true) : ∃ k : Nat, n = (k : Int) ∧ k < 18446744073709551616 := by
  have hmin : IntKind.u64.min = 0 := rfl
  have hmax : IntKind.u64.max = 18446744073709551615 := rfl
  simp only [Lit.wf, Bool.and_eq_true, decide_eq_true_eq, hmin, hmax] at h
  exact ⟨n.toNat, by omega, by omega⟩
theorem ret_int {k : IntKind} {a b : Int} (h : a = b) : Ending.returned (.int k a) = .returned (.int k b) := by rw [h]


set_option maxHeartbeats 400000 in
theorem high_yes (h : Nat) (h1 : 1 ≤ h) (h2 : h ≤ 32) (w : World) :
    Calls Try.prog 71 #[.int .i64 (h : Int)] w fun e w' => e = .returned (.bool true) ∧ w' = w := by
  have a : (1 : Int) ≤ (h : Int) := by omega
  have b : (h : Int) ≤ 32 := by omega
  have c : decide ((1 : Int) ≤ (h : Int)) = true := decide_eq_true a
  have d : decide ((h : Int) ≤ 32) = true := decide_eq_true b
  go_enter Try.func71, Try.ntmps71
  go_wp2_with fail
  go_ret
  exact ⟨by simp [*], rfl⟩

set_option maxHeartbeats 400000 in
theorem high_lo (h : Int) (h1 : h < 1) (w : World) :
    Calls Try.prog 71 #[.int .i64 h] w fun e w' => e = .returned (.bool false) ∧ w' = w := by
  have c : decide ((1 : Int) ≤ h) = false := decide_eq_false (by omega)
  go_enter Try.func71, Try.ntmps71
  go_wp2_with fail
  go_ret
  exact ⟨rfl, rfl⟩

set_option maxHeartbeats 400000 in
theorem high_hi (h : Int) (h1 : 32 < h) (w : World) :
    Calls Try.prog 71 #[.int .i64 h] w fun e w' => e = .returned (.bool false) ∧ w' = w := by
  have c : decide ((1 : Int) ≤ h) = true := decide_eq_true (by omega)
  have d : decide (h ≤ 32) = false := decide_eq_false (by omega)
  go_enter Try.func71, Try.ntmps71
  go_wp2_with fail
  go_ret
  exact ⟨by simp [*], rfl⟩

set_option maxHeartbeats 400000 in
theorem depth_eq {n d : Nat} (hd : Hid (dep n = d)) (h1 : 1 ≤ n) (h2 : n < 18446744073709551616) (w : World) :
    Calls Try.prog 72 #[.int .u64 (n : Int)] w fun e w' => e = .returned (.int .i64 (d : Int)) ∧ w' = w := by
  have hb := bitLen_dep h1 h2
  rw [hd.out] at hb
  have hl := dep_lt h1 h2
  rw [hd.out] at hl
  have hc : Calls Try.prog 79 #[.int .u64 (n : Int)] w fun e w' => e = .returned (.int .i64 ((d : Int) + 1)) ∧ w' = w := by
    have c := Try.bits_Len64 (n : Int) w (by omega) (by omega)
    rw [Int.toNat_natCast, hb] at c
    exact c
  clear hb
  go_enter Try.func72, Try.ntmps72
  go_wp2_with (first | (go_at_call 79; ((with_reducible refine (hc).mono ?_); rintro e w' ⟨rfl, rfl⟩)))
  go_ret
  exact ⟨ret_int (by omega), rfl⟩

set_option maxHeartbeats 400000 in
theorem check_yes {h n : Nat} (H : Node h n) (w : World) :
    Calls Try.prog 62 #[.int .i64 (h : Int), .int .u64 (n : Int)] w fun e w' => e = .returned (.int .i64 0) ∧ w' = w := by
  obtain ⟨d, hd⟩ : ∃ d, Hid (dep n = d) := ⟨_, mkHid rfl⟩
  obtain ⟨h1, h2, h3, h4, h5⟩ := H
  rw [hd.out] at h4
  have a : decide ((n : Int) < 1) = false := decide_eq_false (by omega)
  have b : decide ((h : Int) < (d : Int)) = false := decide_eq_false (by omega)
  have b' : decide (h < d) = false := decide_eq_false (by omega)
  go_enter Try.func62, Try.ntmps62
  go_wp2_with (first | (go_at_call 71; ((with_reducible refine (high_yes h h1 h2 _).mono ?_); rintro e w' ⟨rfl, rfl⟩)) | (go_at_call 72; ((with_reducible refine (depth_eq hd h3 h5 _).mono ?_); rintro e w' ⟨rfl, rfl⟩)))
  go_ret
  exact ⟨rfl, rfl⟩

set_option maxHeartbeats 400000 in
theorem check_lo {h : Int} {n : Nat} (H : h < 1) (w : World) :
    Calls Try.prog 62 #[.int .i64 h, .int .u64 (n : Int)] w fun e w' => e = .returned (.int .i64 1) ∧ w' = w := by
  go_enter Try.func62, Try.ntmps62
  go_wp2_with (first | (go_at_call 71; ((with_reducible refine (high_lo h H _).mono ?_); rintro e w' ⟨rfl, rfl⟩)))
  go_ret
  exact ⟨rfl, rfl⟩

set_option maxHeartbeats 400000 in
theorem check_hi {h : Int} {n : Nat} (H : 32 < h) (w : World) :
    Calls Try.prog 62 #[.int .i64 h, .int .u64 (n : Int)] w fun e w' => e = .returned (.int .i64 1) ∧ w' = w := by
  go_enter Try.func62, Try.ntmps62
  go_wp2_with (first | (go_at_call 71; ((with_reducible refine (high_hi h H _).mono ?_); rintro e w' ⟨rfl, rfl⟩)))
  go_ret
  exact ⟨rfl, rfl⟩

set_option maxHeartbeats 400000 in
theorem check_zero {h : Nat} (h1 : 1 ≤ h) (h2 : h ≤ 32) (w : World) :
    Calls Try.prog 62 #[.int .i64 (h : Int), .int .u64 0] w fun e w' => e = .returned (.int .i64 1) ∧ w' = w := by
  go_enter Try.func62, Try.ntmps62
  go_wp2_with (first | (go_at_call 71; ((with_reducible refine (high_yes h h1 h2 _).mono ?_); rintro e w' ⟨rfl, rfl⟩)))
  go_ret
  exact ⟨rfl, rfl⟩

set_option maxHeartbeats 400000 in
theorem check_deep {h n : Nat} (h1 : 1 ≤ h) (h2 : h ≤ 32) (h3 : 1 ≤ n) (h5 : n < 18446744073709551616) (h4 : h < dep n) (w : World) :
    Calls Try.prog 62 #[.int .i64 (h : Int), .int .u64 (n : Int)] w fun e w' => e = .returned (.int .i64 1) ∧ w' = w := by
  obtain ⟨d, hd⟩ : ∃ d, Hid (dep n = d) := ⟨_, mkHid rfl⟩
  rw [hd.out] at h4
  have a : decide ((n : Int) < 1) = false := decide_eq_false (by omega)
  have b : decide ((h : Int) < (d : Int)) = true := decide_eq_true (by omega)
  have b' : decide (h < d) = true := decide_eq_true (by omega)
  go_enter Try.func62, Try.ntmps62
  go_wp2_with (first | (go_at_call 71; ((with_reducible refine (high_yes h h1 h2 _).mono ?_); rintro e w' ⟨rfl, rfl⟩)) | (go_at_call 72; ((with_reducible refine (depth_eq hd h3 h5 _).mono ?_); rintro e w' ⟨rfl, rfl⟩)))
  go_ret
  exact ⟨rfl, rfl⟩

/-- there is no such node: of any whole number for a height -/
def NoNode (h : Int) (n : Nat) : Prop := h < 1 ∨ 32 < h ∨ n = 0 ∨ ∃ k : Nat, h = (k : Int) ∧ 1 ≤ k ∧ k ≤ 32 ∧ 1 ≤ n ∧ k < dep n
theorem node_or {h : Int} {n : Nat} (hn : n < 18446744073709551616) : NoNode h n ∨ ∃ k : Nat, h = (k : Int) ∧ Node k n := by
  by_cases a : h < 1
  · exact .inl (.inl a)
  by_cases b : 32 < h
  · exact .inl (.inr (.inl b))
  obtain ⟨k, rfl⟩ : ∃ k : Nat, h = (k : Int) := ⟨h.toNat, by omega⟩
  by_cases c : n = 0
  · exact .inl (.inr (.inr (.inl c)))
  by_cases d : k < dep n
  · exact .inl (.inr (.inr (.inr ⟨k, rfl, by omega, by omega, by omega, d⟩)))
  · exact .inr ⟨k, rfl, by omega, by omega, by omega, by omega, hn⟩
theorem check_no {h : Int} {n : Nat} (H : NoNode h n) (hn : n < 18446744073709551616) (w : World) :
    Calls Try.prog 62 #[.int .i64 h, .int .u64 (n : Int)] w fun e w' => e = .returned (.int .i64 1) ∧ w' = w := by
  rcases H with H | H | rfl | ⟨k, rfl, a, b, c, d⟩
  · exact check_lo H w
  · exact check_hi H w
  · by_cases a : h < 1
    · exact check_lo a w
    by_cases b : 32 < h
    · exact check_hi b w
    obtain ⟨k, rfl⟩ : ∃ k : Nat, h = (k : Int) := ⟨h.toNat, by omega⟩
    exact check_zero (by omega) (by omega) w
  · exact check_deep a b c hn d w

set_option maxHeartbeats 400000 in
theorem leaf_yes {h i r : Nat} (h1 : 1 ≤ h) (h2 : h ≤ 32) (hi : i < 2 ^ h) (hr : Hid (2 ^ h + i = r)) (w : World) :
    Calls Try.prog 73 #[.int .i64 (h : Int), .int .u64 (i : Int)] w fun e w' => e = .returned (.tuple #[.int .u64 ((r : Int)), .int .i64 0]) ∧ w' = w := by
  have hp : 2 ^ h ≤ 4294967296 := pow_le (b := 32) h2
  have hp0 := Nat.two_pow_pos h
  have es : (i : Int) / 2 ^ h = 0 := by rw [pow_int, ← Int.natCast_ediv, Nat.div_eq_of_lt hi]; rfl
  have el : IntKind.u64.wrap (2 ^ h) = ((2 ^ h : Nat) : Int) := by rw [pow_int, IntKind.wrap_u64]; omega
  have eo : bits BinOp.or IntKind.u64 ((2 : Int) ^ h) (i : Int) = (r : Int) := by rw [pow_int, bits_or _ _ (by omega) (by omega), or_pow hi, hr.out]
  clear hp hp0 hr hi
  go_enter Try.func73, Try.ntmps73
  go_wp2_with (first | (go_at_call 71; ((with_reducible refine (high_yes h h1 h2 _).mono ?_); rintro e w' ⟨rfl, rfl⟩)))
  go_ret2
  exact ⟨rfl, rfl⟩

set_option maxHeartbeats 400000 in
theorem leaf_none {h i : Nat} (h1 : 1 ≤ h) (h2 : h ≤ 32) (hi : 2 ^ h ≤ i) (w : World) :
    Calls Try.prog 73 #[.int .i64 (h : Int), .int .u64 (i : Int)] w fun e w' => e = .returned (.tuple #[.int .u64 (0), .int .i64 4]) ∧ w' = w := by
  have hp0 : 1 ≤ i / 2 ^ h := by rw [Nat.le_div_iff_mul_le (Nat.two_pow_pos h)]; omega
  have es : (0 : Int) < (i : Int) / 2 ^ h := by rw [pow_int, ← Int.natCast_ediv]; omega
  have ed : decide ((0 : Int) < (i : Int) / 2 ^ h) = true := decide_eq_true es
  clear hp0 hi
  go_enter Try.func73, Try.ntmps73
  go_wp2_with (first | (go_at_call 71; ((with_reducible refine (high_yes h h1 h2 _).mono ?_); rintro e w' ⟨rfl, rfl⟩)))
  go_ret2
  exact ⟨rfl, rfl⟩

set_option maxHeartbeats 400000 in
theorem leaf_lo {h : Int} {n : Nat} (H : h < 1) (w : World) :
    Calls Try.prog 73 #[.int .i64 h, .int .u64 (n : Int)] w fun e w' => e = .returned (.tuple #[.int .u64 (0), .int .i64 1]) ∧ w' = w := by
  go_enter Try.func73, Try.ntmps73
  go_wp2_with (first | (go_at_call 71; ((with_reducible refine (high_lo h H _).mono ?_); rintro e w' ⟨rfl, rfl⟩)))
  go_ret2
  exact ⟨rfl, rfl⟩

set_option maxHeartbeats 400000 in
theorem leaf_hi {h : Int} {n : Nat} (H : 32 < h) (w : World) :
    Calls Try.prog 73 #[.int .i64 h, .int .u64 (n : Int)] w fun e w' => e = .returned (.tuple #[.int .u64 (0), .int .i64 1]) ∧ w' = w := by
  go_enter Try.func73, Try.ntmps73
  go_wp2_with (first | (go_at_call 71; ((with_reducible refine (high_hi h H _).mono ?_); rintro e w' ⟨rfl, rfl⟩)))
  go_ret2
  exact ⟨rfl, rfl⟩

end Go.Proofs.Ytmehbonjpmlmfaa
