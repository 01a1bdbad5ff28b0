/- Plain mathematics of nodes: spans of leaves. No program in sight. -/
import Derived.Test.YtkimbkcghmelgaaNodeP
namespace Go.Proofs.Ytkimbkcghmelgaa

theorem span_ex {h n d : Nat} (H : Node h n) (hd : dep n = d) : ∃ lo hi, n * 2 ^ (h - d) = 2 ^ h + lo ∧ lo + 2 ^ (h - d) = hi + 1 := by
  obtain ⟨h1, h2, h3, h4, h5⟩ := H
  have a := dep_lo h3 h5
  rw [hd] at a h4
  have b : 2 ^ d * 2 ^ (h - d) ≤ n * 2 ^ (h - d) := Nat.mul_le_mul_right _ a
  rw [← Nat.pow_add, show d + (h - d) = h by omega] at b
  have c := Nat.two_pow_pos (h - d)
  exact ⟨n * 2 ^ (h - d) - 2 ^ h, n * 2 ^ (h - d) - 2 ^ h + 2 ^ (h - d) - 1, by omega, by omega⟩
theorem anc_span {h a b p q la ha lb hb : Nat} (H : Node h a) (K : Node h b) (hp : dep a = p) (hq : dep b = q)
    (a1 : a * 2 ^ (h - p) = 2 ^ h + la) (a2 : la + 2 ^ (h - p) = ha + 1) (b1 : b * 2 ^ (h - q) = 2 ^ h + lb) (b2 : lb + 2 ^ (h - q) = hb + 1) :
    Anc a b ↔ la ≤ lb ∧ hb ≤ ha := by
  have p1 := H.2.2.2.1
  have q1 := K.2.2.2.1
  rw [hp] at p1; rw [hq] at q1
  unfold Anc
  rw [hp, hq]
  constructor
  · rintro ⟨l, e⟩
    have s : h - p = (q - p) + (h - q) := by omega
    have m1 := Nat.div_mul_le_self b (2 ^ (q - p))
    rw [e] at m1
    have m2 : b < (a + 1) * 2 ^ (q - p) := by
      rw [← Nat.div_lt_iff_lt_mul (Nat.two_pow_pos _), e]; omega
    have k1 := Nat.mul_le_mul_right (2 ^ (h - q)) m1
    rw [Nat.mul_assoc, ← Nat.pow_add, ← s] at k1
    have k2 := Nat.mul_le_mul_right (2 ^ (h - q)) (show b + 1 ≤ (a + 1) * 2 ^ (q - p) by omega)
    rw [Nat.mul_assoc, ← Nat.pow_add, ← s, Nat.succ_mul, Nat.succ_mul] at k2
    omega
  · rintro ⟨l1, l2⟩
    have hle : 2 ^ (h - q) ≤ 2 ^ (h - p) := by omega
    have hle' := (Nat.pow_le_pow_iff_right (a := 2) (by decide)).1 hle
    have l : p ≤ q := by omega
    refine ⟨l, ?_⟩
    have s : h - p = (q - p) + (h - q) := by omega
    have z := Nat.two_pow_pos (h - q)
    have k1 : a * 2 ^ (q - p) * 2 ^ (h - q) ≤ b * 2 ^ (h - q) := by
      rw [Nat.mul_assoc, ← Nat.pow_add, ← s]; omega
    have k2 : (b + 1) * 2 ^ (h - q) ≤ (a + 1) * 2 ^ (q - p) * 2 ^ (h - q) := by
      rw [Nat.mul_assoc, ← Nat.pow_add, ← s, Nat.succ_mul, Nat.succ_mul]; omega
    have m1 := Nat.le_of_mul_le_mul_right k1 z
    have m2 := Nat.le_of_mul_le_mul_right k2 z
    apply Nat.le_antisymm
    · rw [← Nat.lt_succ_iff, Nat.div_lt_iff_lt_mul (Nat.two_pow_pos _)]; show b < (a + 1) * 2 ^ (q - p); omega
    · rw [Nat.le_div_iff_mul_le (Nat.two_pow_pos _)]; exact m1
/-- spans of the same length are the same or lie apart: so do those of two nodes neither of which is above the other one -/
theorem span_law {h a b p q la ha lb hb : Nat} (H : Node h a) (K : Node h b) (hp : dep a = p) (hq : dep b = q)
    (a1 : a * 2 ^ (h - p) = 2 ^ h + la) (a2 : la + 2 ^ (h - p) = ha + 1) (b1 : b * 2 ^ (h - q) = 2 ^ h + lb) (b2 : lb + 2 ^ (h - q) = hb + 1) (hl : p ≤ q) :
    (ha < lb ∨ hb < la) ↔ ¬ Anc a b := by
  have p1 := H.2.2.2.1
  have q1 := K.2.2.2.1
  rw [hp] at p1; rw [hq] at q1
  rw [anc_span H K hp hq a1 a2 b1 b2]
  have s : h - p = (q - p) + (h - q) := by omega
  have za := Nat.two_pow_pos (h - p)
  have zb := Nat.two_pow_pos (h - q)
  constructor
  · omega
  · intro n
    -- multiples of 2^(h-q): a * 2^(q-p) and b
    have e1 : a * 2 ^ (q - p) * 2 ^ (h - q) = 2 ^ h + la := by rw [Nat.mul_assoc, ← Nat.pow_add, ← s]; exact a1
    have e2 : (a * 2 ^ (q - p) + 2 ^ (q - p)) * 2 ^ (h - q) = 2 ^ h + (ha + 1) := by
      rw [Nat.add_mul, e1, ← Nat.pow_add, ← s]; omega
    generalize a * 2 ^ (q - p) = x at e1 e2
    generalize 2 ^ (q - p) = y at e2
    by_cases c1 : b < x
    · right
      have := Nat.mul_le_mul_right (2 ^ (h - q)) (show b + 1 ≤ x by omega)
      rw [Nat.succ_mul] at this
      omega
    · by_cases c2 : x + y ≤ b
      · left
        have := Nat.mul_le_mul_right (2 ^ (h - q)) c2
        omega
      · exfalso
        apply n
        have u1 := Nat.mul_le_mul_right (2 ^ (h - q)) (show x ≤ b by omega)
        have u2 := Nat.mul_le_mul_right (2 ^ (h - q)) (show b + 1 ≤ x + y by omega)
        rw [Nat.succ_mul] at u2
        omega
theorem spans_law {h a b p q la ha lb hb : Nat} (H : Node h a) (K : Node h b) (hp : dep a = p) (hq : dep b = q)
    (a1 : a * 2 ^ (h - p) = 2 ^ h + la) (a2 : la + 2 ^ (h - p) = ha + 1) (b1 : b * 2 ^ (h - q) = 2 ^ h + lb) (b2 : lb + 2 ^ (h - q) = hb + 1) :
    ((ha < lb ∨ hb < la) ↔ (¬ Anc a b ∧ ¬ Anc b a)) ∧ (Anc a b ∧ Anc b a ↔ a = b) ∧ la ≤ ha ∧ lb ≤ hb := by
  have x1 := anc_span H K hp hq a1 a2 b1 b2
  have x2 := anc_span K H hq hp b1 b2 a1 a2
  have za := Nat.two_pow_pos (h - p)
  have zb := Nat.two_pow_pos (h - q)
  refine ⟨?_, ⟨fun h => h.1.antisymm h.2, fun h => by subst h; exact ⟨Anc.refl _, Anc.refl _⟩⟩, by omega, by omega⟩
  rcases Nat.le_total p q with l | l
  · rw [span_law H K hp hq a1 a2 b1 b2 l]
    constructor
    · intro n
      refine ⟨n, fun m => ?_⟩
      rw [x1] at n; rw [x2] at m
      have := (span_law H K hp hq a1 a2 b1 b2 l).2 (by rw [x1]; exact n)
      omega
    · exact fun n => n.1
  · rw [Or.comm, span_law K H hq hp b1 b2 a1 a2 l]
    constructor
    · intro n
      refine ⟨fun m => ?_, n⟩
      rw [x2] at n; rw [x1] at m
      have := (span_law K H hq hp b1 b2 a1 a2 l).2 (by rw [x2]; exact n)
      omega
    · exact fun n => n.2

theorem xor_one (n : Nat) : n ^^^ 1 = 2 * (n / 2) + (1 - n % 2) := by
  have h1 : (n ^^^ 1) / 2 = n / 2 := by rw [Nat.xor_div_two]; simp
  have h2 : (n ^^^ 1) % 2 = 1 ↔ ¬ (n % 2 = 1) := by rw [Nat.xor_mod_two_eq_one]; simp
  omega
theorem xor_back (n : Nat) : (n ^^^ 1) ^^^ 1 = n := by rw [Nat.xor_assoc, Nat.xor_self, Nat.xor_zero]
theorem xor_with (n : Nat) : n ^^^ (n ^^^ 1) = 1 := by rw [← Nat.xor_assoc, Nat.xor_self, Nat.zero_xor]
/-- the other one below the one above -/
theorem other_law {h n : Nat} (H : Node h n) (h1 : n ≠ 1) : Node h (n ^^^ 1) ∧ dep (n ^^^ 1) = dep n ∧ 1 ≤ dep n ∧ n ^^^ 1 ≠ n ∧ n ^^^ 1 ≠ 1 := by
  obtain ⟨a, b, c, d, e⟩ := H
  have s := Node.small ⟨a, b, c, d, e⟩
  have x := xor_one n
  have d1 := dep_child (n := n / 2) (s := n % 2) (by omega) (by omega) (by omega)
  have d2 := dep_child (n := n / 2) (s := 1 - n % 2) (by omega) (by omega) (by omega)
  rw [show 2 * (n / 2) + n % 2 = n by omega] at d1
  rw [← x] at d2
  exact ⟨⟨a, b, by omega, by omega, by omega⟩, by omega, by omega, by omega, by omega⟩
end Go.Proofs.Ytkimbkcghmelgaa
