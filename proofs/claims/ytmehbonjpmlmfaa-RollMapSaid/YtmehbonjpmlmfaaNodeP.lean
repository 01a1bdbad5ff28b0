/- Plain mathematics of nodes: depth, what lies above, spans. No program in sight. -/
import Derived.WalkKit
import Derived.Lib.BitFns
import Derived.Lib.ItoaNum
namespace Go.Proofs.Ytmehbonjpmlmfaa

/-- how deep a node is -/
def dep (n : Nat) : Nat := Lib.bitLen n - 1
theorem bitLen_pos {n : Nat} (h : 1 ≤ n) (h2 : n < 18446744073709551616) : 1 ≤ Lib.bitLen n := (Lib.bitLenAux_bounds 64 n h2 (by omega)).1
theorem bitLen_dep {n : Nat} (h : 1 ≤ n) (h2 : n < 18446744073709551616) : Lib.bitLen n = dep n + 1 := by
  have := bitLen_pos h h2; unfold dep; omega
theorem dep_lo {n : Nat} (h : 1 ≤ n) (h2 : n < 18446744073709551616) : 2 ^ dep n ≤ n := (Lib.bitLenAux_bounds 64 n h2 (by omega)).2.1
theorem dep_hi {n : Nat} (h : 1 ≤ n) (h2 : n < 18446744073709551616) : n < 2 ^ (dep n + 1) := by
  have := (Lib.bitLenAux_bounds 64 n h2 (by omega)).2.2
  have e := bitLen_dep h h2
  unfold Lib.bitLen at e
  rw [e] at this; exact this
theorem pow_lt {a b : Nat} (h : 2 ^ a < 2 ^ b) : a < b := (Nat.pow_lt_pow_iff_right (by decide)).1 h
theorem pow_le {a b : Nat} (h : a ≤ b) : 2 ^ a ≤ 2 ^ b := Nat.pow_le_pow_right (by decide) h
theorem dep_unique {n d : Nat} (h1 : 2 ^ d ≤ n) (h2 : n < 2 ^ (d + 1)) (h3 : n < 18446744073709551616) : dep n = d := by
  have h0 : 1 ≤ n := Nat.le_trans (Nat.one_le_two_pow) h1
  have a := dep_lo h0 h3
  have b := dep_hi h0 h3
  have c := pow_lt (Nat.lt_of_le_of_lt a h2)
  have d := pow_lt (Nat.lt_of_le_of_lt h1 b)
  omega
theorem dep_lt {n : Nat} (h : 1 ≤ n) (h2 : n < 18446744073709551616) : dep n < 64 := by
  have := dep_lo h h2
  exact pow_lt (Nat.lt_of_le_of_lt this (by simpa using h2))
/-- there is such a node -/
def Node (h n : Nat) : Prop := 1 ≤ h ∧ h ≤ 32 ∧ 1 ≤ n ∧ dep n ≤ h ∧ n < 18446744073709551616
instance (h n : Nat) : Decidable (Node h n) := by unfold Node; infer_instance
theorem Node.lt {h n : Nat} (H : Node h n) : n < 2 ^ (h + 1) := by
  obtain ⟨a, b, c, d, e⟩ := H
  exact Nat.lt_of_lt_of_le (dep_hi c e) (pow_le (by omega))
theorem pow33 {h : Nat} (hh : h ≤ 32) : 2 ^ (h + 1) ≤ 8589934592 := pow_le (b := 33) (by omega)
theorem Node.small {h n : Nat} (H : Node h n) : n < 8589934592 := Nat.lt_of_lt_of_le H.lt (pow33 H.2.1)
theorem node_iff {h n : Nat} (h1 : 1 ≤ h) (h2 : h ≤ 32) : Node h n ↔ 1 ≤ n ∧ n < 2 ^ (h + 1) := by
  constructor
  · exact fun H => ⟨H.2.2.1, H.lt⟩
  · rintro ⟨a, b⟩
    have c : n < 18446744073709551616 := Nat.lt_trans (Nat.lt_of_lt_of_le b (pow33 h2)) (by decide)
    have := dep_lo a c
    have := pow_lt (Nat.lt_of_le_of_lt this b)
    exact ⟨h1, h2, a, by omega, c⟩
theorem dep_one : dep 1 = 0 := dep_unique (by decide) (by decide) (by decide)
theorem dep_child {n s : Nat} (h : 1 ≤ n) (h2 : n < 9223372036854775808) (hs : s ≤ 1) : dep (2 * n + s) = dep n + 1 := by
  have a := dep_lo h (by omega)
  have b := dep_hi h (by omega)
  refine dep_unique ?_ ?_ (by omega)
  · rw [Nat.pow_succ]; omega
  · rw [Nat.pow_succ]; omega
theorem dep_shift {n k : Nat} (h : 1 ≤ n) (h2 : n < 18446744073709551616) (hk : k ≤ dep n) : dep (n / 2 ^ k) = dep n - k := by
  have a := dep_lo h h2
  have b := dep_hi h h2
  refine dep_unique ?_ ?_ (Nat.lt_of_le_of_lt (Nat.div_le_self _ _) h2)
  · rw [Nat.le_div_iff_mul_le (Nat.two_pow_pos k), ← Nat.pow_add]
    rwa [show dep n - k + k = dep n by omega]
  · rw [Nat.div_lt_iff_lt_mul (Nat.two_pow_pos k), ← Nat.pow_add]
    rwa [show dep n - k + 1 + k = dep n + 1 by omega]
theorem shift_pos {n k : Nat} (h : 1 ≤ n) (h2 : n < 18446744073709551616) (hk : k ≤ dep n) : 1 ≤ n / 2 ^ k := by
  have a := dep_lo h h2
  rw [Nat.le_div_iff_mul_le (Nat.two_pow_pos k)]
  have := pow_le hk
  omega
theorem shift_full {n : Nat} (h : 1 ≤ n) (h2 : n < 18446744073709551616) : n / 2 ^ dep n = 1 := by
  have a := dep_lo h h2
  have b := dep_hi h h2
  apply Nat.le_antisymm
  · rw [← Nat.lt_succ_iff, Nat.div_lt_iff_lt_mul (Nat.two_pow_pos _)]
    rw [Nat.pow_succ] at b; omega
  · rw [Nat.le_div_iff_mul_le (Nat.two_pow_pos _)]; omega

/-- one is above another one (or it) -/
def Anc (a b : Nat) : Prop := dep a ≤ dep b ∧ b / 2 ^ (dep b - dep a) = a
instance (a b : Nat) : Decidable (Anc a b) := by unfold Anc; infer_instance
theorem Anc.refl (a : Nat) : Anc a a := ⟨Nat.le_refl _, by rw [Nat.sub_self, Nat.pow_zero, Nat.div_one]⟩
theorem anc_shift {n k : Nat} (h : 1 ≤ n) (h2 : n < 18446744073709551616) (hk : k ≤ dep n) : Anc (n / 2 ^ k) n := by
  have e := dep_shift h h2 hk
  refine ⟨by omega, ?_⟩
  rw [e, show dep n - (dep n - k) = k by omega]
theorem Anc.antisymm {a b : Nat} (h : Anc a b) (h' : Anc b a) : a = b := by
  have e : dep a = dep b := Nat.le_antisymm h.1 h'.1
  have := h.2
  rw [e, Nat.sub_self, Nat.pow_zero, Nat.div_one] at this
  exact this.symm
theorem Anc.trans {a b c : Nat} (h : Anc a b) (h' : Anc b c) : Anc a c := by
  refine ⟨Nat.le_trans h.1 h'.1, ?_⟩
  have e1 := h.2
  have e2 := h'.2
  have d1 := h.1
  have d2 := h'.1
  rw [← e2] at e1
  rw [Nat.div_div_eq_div_mul, ← Nat.pow_add] at e1
  rw [e2] at e1
  rwa [show dep c - dep b + (dep b - dep a) = dep c - dep a by omega] at e1
/-- two above one: the deeper one is below the other -/
theorem Anc.both {a b c : Nat} (h : Anc a c) (h' : Anc b c) (hd : dep a ≤ dep b) : Anc a b := by
  refine ⟨hd, ?_⟩
  have e1 := h.2
  have e2 := h'.2
  have d1 := h.1
  have d2 := h'.1
  rw [← e2, Nat.div_div_eq_div_mul, ← Nat.pow_add]
  rw [e2, show dep c - dep b + (dep b - dep a) = dep c - dep a by omega]
  exact e1
end Go.Proofs.Ytmehbonjpmlmfaa
