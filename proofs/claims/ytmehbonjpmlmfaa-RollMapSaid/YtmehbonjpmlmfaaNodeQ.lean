/- Plain mathematics of nodes: spans of leaves. No program in sight. -/
import Derived.Test.YtmehbonjpmlmfaaNodeP
namespace Go.Proofs.Ytmehbonjpmlmfaa

theorem span_ex {h n d : Nat} (H : Node h n) (hd : dep n = d) : ∃ lo hi, n * 2 ^ (h - d) = 2 ^ h + lo ∧ lo + 2 ^ (h - d) = hi + 1 := by
  obtain ⟨h1, h2, h3, h4, h5⟩ := H
  have a := dep_lo h3 h5
  rw [hd] at a h4
  have b : 2 ^ d * 2 ^ (h - d) ≤ n * 2 ^ (h - d) := Nat.mul_le_mul_right _ a
  rw [← Nat.pow_add, show d + (h - d) = h by omega] at b
  have c := Nat.two_pow_pos (h - d)
  exact ⟨n * 2 ^ (h - d) - 2 ^ h, n * 2 ^ (h - d) - 2 ^ h + 2 ^ (h - d) - 1, by omega, by omega⟩
theorem anc_span {h a b p q la ha lb hb : Nat} (H : Node h a) (K : Node h b) (hp : dep a = p) (hq : dep b = q)
    (a1 : a * 2 ^ (h - p) = 2 ^ h + la) (a2 : la + 2 ^ (h - p) = ha + 1) (b1 : b * 2 ^ (h - q) = 2 ^ h + lb) (b2 : lb + 2 ^ (h - q) = hb + 1) :
    Anc a b ↔ la ≤ lb ∧ hb ≤ ha := by
  have p1 := H.2.2.2.1
  have q1 := K.2.2.2.1
  rw [hp] at p1; rw [hq] at q1
  unfold Anc
  rw [hp, hq]
  constructor
  · rintro ⟨l, e⟩
    have s : h - p = (q - p) + (h - q) := by omega
    have m1 := Nat.div_mul_le_self b (2 ^ (q - p))
    rw [e] at m1
    have m2 : b < (a + 1) * 2 ^ (q - p) := by
      rw [← Nat.div_lt_iff_lt_mul (Nat.two_pow_pos _), e]; omega
    have k1 := Nat.mul_le_mul_right (2 ^ (h - q)) m1
    rw [Nat.mul_assoc, ← Nat.pow_add, ← s] at k1
    have k2 := Nat.mul_le_mul_right (2 ^ (h - q)) (show b + 1 ≤ (a + 1) * 2 ^ (q - p) by omega)
    rw [Nat.mul_assoc, ← Nat.pow_add, ← s, Nat.succ_mul, Nat.succ_mul] at k2
    omega
  · rintro ⟨l1, l2⟩
    have hle : 2 ^ (h - q) ≤ 2 ^ (h - p) := by omega
    have hle' := (Nat.pow_le_pow_iff_right (a := 2) (by decide)).1 hle
    have l : p ≤ q := by omega
    refine ⟨l, ?_⟩
    have s : h - p = (q - p) + (h - q) := by omega
    have z := Nat.two_pow_pos (h - q)
    have k1 : a * 2 ^ (q - p) * 2 ^ (h - q) ≤ b * 2 ^ (h - q) := by
      rw [Nat.mul_assoc, ← Nat.pow_add, ← s]; omega
    have k2 : (b + 1) * 2 ^ (h - q) ≤ (a + 1) * 2 ^ (q - p) * 2 ^ (h - q) := by
      rw [Nat.mul_assoc, ← Nat.pow_add, ← s, Nat.succ_mul, Nat.succ_mul]; omega
    have m1 := Nat.le_of_mul_le_mul_right k1 z
    have m2 := Nat.le_of_mul_le_mul_right k2 z
    apply Nat.le_antisymm
    · rw [← Nat.lt_succ_iff, Nat.div_lt_iff_lt_mul (Nat.two_pow_pos _)]; show b < (a + 1) * 2 ^ (q - p); omega
    · rw [Nat.le_div_iff_mul_le (Nat.two_pow_pos _)]; exact m1
/-- spans of the same length are the same or lie apart: so do those of two nodes neither of which is above the other one -/
theorem span_law {h a b p q la ha lb hb : Nat} (H : Node h a) (K : Node h b) (hp : dep a = p) (hq : dep b = q)
    (a1 : a * 2 ^ (h - p) = 2 ^ h + la) (a2 : la + 2 ^ (h - p) = ha + 1) (b1 : b * 2 ^ (h - q) = 2 ^ h + lb) (b2 : lb + 2 ^ (h - q) = hb + 1) (hl : p ≤ q) :
    (ha < lb ∨ hb < la) ↔ ¬ Anc a b := by
  have p1 := H.2.2.2.1
  have q1 := K.2.2.2.1
  rw [hp] at p1; rw [hq] at q1
  rw [anc_span H K hp hq a1 a2 b1 b2]
  have s : h - p = (q - p) + (h - q) := by omega
  have za := Nat.two_pow_pos (h - p)
  have zb := Nat.two_pow_pos (h - q)
  constructor
  · omega
  · intro n
    -- multiples of 2^(h-q): a * 2^(q-p) and b
    have e1 : a * 2 ^ (q - p) * 2 ^ (h - q) = 2 ^ h + la := by rw [Nat.mul_assoc, ← Nat.pow_add, ← s]; exact a1
    have e2 : (a * 2 ^ (q - p) + 2 ^ (q - p)) * 2 ^ (h - q) = 2 ^ h + (ha + 1) := by
      rw [Nat.add_mul, e1, ← Nat.pow_add, ← s]; omega
    generalize a * 2 ^ (q - p) = x at e1 e2
    generalize 2 ^ (q - p) = y at e2
    by_cases c1 : b < x
    · right
      have := Nat.mul_le_mul_right (2 ^ (h - q)) (show b + 1 ≤ x by omega)
      rw [Nat.succ_mul] at this
      omega
    · by_cases c2 : x + y ≤ b
      · left
        have := Nat.mul_le_mul_right (2 ^ (h - q)) c2
        omega
      · exfalso
        apply n
        have u1 := Nat.mul_le_mul_right (2 ^ (h - q)) (show x ≤ b by omega)
        have u2 := Nat.mul_le_mul_right (2 ^ (h - q)) (show b + 1 ≤ x + y by omega)
        rw [Nat.succ_mul] at u2
        omega
theorem spans_law {h a b p q la ha lb hb : Nat} (H : Node h a) (K : Node h b) (hp : dep a = p) (hq : dep b = q)
    (a1 : a * 2 ^ (h - p) = 2 ^ h + la) (a2 : la + 2 ^ (h - p) = ha + 1) (b1 : b * 2 ^ (h - q) = 2 ^ h + lb) (b2 : lb + 2 ^ (h - q) = hb + 1) :
    ((ha < lb ∨ hb < la) ↔ (¬ Anc a b ∧ ¬ Anc b a)) ∧ (Anc a b ∧ Anc b a ↔ a = b) ∧ la ≤ ha ∧ lb ≤ hb := by
  have x1 := anc_span H K hp hq a1 a2 b1 b2
  have x2 := anc_span K H hq hp b1 b2 a1 a2
  have za := Nat.two_pow_pos (h - p)
  have zb := Nat.two_pow_pos (h - q)
  refine ⟨?_, ⟨fun h => h.1.antisymm h.2, fun h => by subst h; exact ⟨Anc.refl _, Anc.refl _⟩⟩, by omega, by omega⟩
  rcases Nat.le_total p q with l | l
  · rw [span_law H K hp hq a1 a2 b1 b2 l]
    constructor
    · intro n
      refine ⟨n, fun m => ?_⟩
      rw [x1] at n; rw [x2] at m
      have := (span_law H K hp hq a1 a2 b1 b2 l).2 (by rw [x1]; exact n)
      omega
    · exact fun n => n.1
  · rw [Or.comm, span_law K H hq hp b1 b2 a1 a2 l]
    constructor
    · intro n
      refine ⟨fun m => ?_, n⟩
      rw [x2] at n; rw [x1] at m
      have := (span_law K H hq hp b1 b2 a1 a2 l).2 (by rw [x2]; exact n)
      omega
    · exact fun n => n.2

theorem xor_one (n : Nat) : n ^^^ 1 = 2 * (n / 2) + (1 - n % 2) := by
  have h1 : (n ^^^ 1) / 2 = n / 2 := by rw [Nat.xor_div_two]; simp
  have h2 : (n ^^^ 1) % 2 = 1 ↔ ¬ (n % 2 = 1) := by rw [Nat.xor_mod_two_eq_one]; simp
  omega
theorem xor_back (n : Nat) : (n ^^^ 1) ^^^ 1 = n := by rw [Nat.xor_assoc, Nat.xor_self, Nat.xor_zero]
theorem xor_with (n : Nat) : n ^^^ (n ^^^ 1) = 1 := by rw [← Nat.xor_assoc, Nat.xor_self, Nat.zero_xor]
/-- the other one below the one above -/
theorem other_law {h n : Nat} (H : Node h n) (h1 : n ≠ 1) : Node h (n ^^^ 1) ∧ dep (n ^^^ 1) = dep n ∧ 1 ≤ dep n ∧ n ^^^ 1 ≠ n ∧ n ^^^ 1 ≠ 1 := by
  obtain ⟨a, b, c, d, e⟩ := H
  have s := Node.small ⟨a, b, c, d, e⟩
  have x := xor_one n
  have d1 := dep_child (n := n / 2) (s := n % 2) (by omega) (by omega) (by omega)
  have d2 := dep_child (n := n / 2) (s := 1 - n % 2) (by omega) (by omega) (by omega)
  rw [show 2 * (n / 2) + n % 2 = n by omega] at d1
  rw [← x] at d2
  exact ⟨⟨a, b, by omega, by omega, by omega⟩, by omega, by omega, by omega, by omega⟩

/-! where two meet -/
def meet (a b : Nat) : Nat :=
  a / 2 ^ (dep a - min (dep a) (dep b)) / 2 ^ Lib.bitLen (a / 2 ^ (dep a - min (dep a) (dep b)) ^^^ b / 2 ^ (dep b - min (dep a) (dep b)))
theorem eq_of_xor {a b : Nat} (h : a ^^^ b = 0) : a = b := by
  have e : (a ^^^ b) ^^^ b = 0 ^^^ b := by rw [h]
  rwa [Nat.xor_assoc, Nat.xor_self, Nat.xor_zero, Nat.zero_xor] at e
theorem xor_low {x y j : Nat} (h : x / 2 ^ j = y / 2 ^ j) : x ^^^ y < 2 ^ j := by
  have e : (x ^^^ y) / 2 ^ j = 0 := by rw [Nat.xor_div_two_pow, h, Nat.xor_self]
  rcases Nat.lt_or_ge (x ^^^ y) (2 ^ j) with l | l
  · exact l
  · have : 1 ≤ (x ^^^ y) / 2 ^ j := by rw [Nat.le_div_iff_mul_le (Nat.two_pow_pos j)]; omega
    omega
theorem xor_same {x y j : Nat} (h : x ^^^ y < 2 ^ j) : x / 2 ^ j = y / 2 ^ j := by
  have e : (x ^^^ y) / 2 ^ j = 0 := Nat.div_eq_of_lt h
  rw [Nat.xor_div_two_pow] at e
  exact eq_of_xor e
theorem bitLen_hi {n : Nat} (h : n < 18446744073709551616) : n < 2 ^ Lib.bitLen n := by
  by_cases c : n = 0
  · subst c; exact Nat.two_pow_pos _
  · have e := bitLen_dep (n := n) (by omega) h
    rw [e]; exact dep_hi (by omega) h
theorem meet_all {a b : Nat} (a1 : 1 ≤ a) (a2 : a < 18446744073709551616) (b1 : 1 ≤ b) (b2 : b < 18446744073709551616) :
    1 ≤ meet a b ∧ meet a b ≤ a ∧ Anc (meet a b) a ∧ Anc (meet a b) b ∧ ∀ c, Anc c a → Anc c b → Anc c (meet a b) := by
  have ha := Nat.min_le_left (dep a) (dep b)
  have hb := Nat.min_le_right (dep a) (dep b)
  unfold meet
  generalize hd : min (dep a) (dep b) = d at *
  have x1 := shift_pos (k := dep a - d) a1 a2 (by omega)
  have y1 := shift_pos (k := dep b - d) b1 b2 (by omega)
  have x2 := dep_shift (k := dep a - d) a1 a2 (by omega)
  have y2 := dep_shift (k := dep b - d) b1 b2 (by omega)
  have x3 := anc_shift (k := dep a - d) a1 a2 (by omega)
  have y3 := anc_shift (k := dep b - d) b1 b2 (by omega)
  have x4 : a / 2 ^ (dep a - d) < 18446744073709551616 := Nat.lt_of_le_of_lt (Nat.div_le_self _ _) a2
  have y4 : b / 2 ^ (dep b - d) < 18446744073709551616 := Nat.lt_of_le_of_lt (Nat.div_le_self _ _) b2
  have x5 : a / 2 ^ (dep a - d) ≤ a := Nat.div_le_self _ _
  generalize a / 2 ^ (dep a - d) = x at *
  generalize b / 2 ^ (dep b - d) = y at *
  have dx : dep x = d := by omega
  have dy : dep y = d := by omega
  have fx := shift_full x1 x4
  have fy := shift_full y1 y4
  rw [dx] at fx; rw [dy] at fy
  have hz := xor_low (fx.trans fy.symm)
  have d64 := dep_lt x1 x4
  have hk := Lib.bitLen_le _ d (by omega) hz
  have hz2 : x ^^^ y < 18446744073709551616 := Nat.xor_lt_two_pow (n := 64) x4 y4
  have hz3 := xor_same (bitLen_hi hz2)
  have cx := anc_shift (k := Lib.bitLen (x ^^^ y)) x1 x4 (by omega)
  have cy := anc_shift (k := Lib.bitLen (x ^^^ y)) y1 y4 (by omega)
  rw [← hz3] at cy
  have px := shift_pos (k := Lib.bitLen (x ^^^ y)) x1 x4 (by omega)
  have dm := dep_shift (k := Lib.bitLen (x ^^^ y)) x1 x4 (by omega)
  refine ⟨px, Nat.le_trans (Nat.div_le_self _ _) x5, cx.trans x3, cy.trans y3, fun c h1 h2 => ?_⟩
  have hcd : dep c ≤ d := by rw [← hd]; exact Nat.le_min.2 ⟨h1.1, h2.1⟩
  have c1 := h1.both x3 (by omega)
  have c2 := h2.both y3 (by omega)
  have hj := xor_low ((c1.2.trans c2.2.symm : x / 2 ^ (dep x - dep c) = y / 2 ^ (dep y - dep c)).trans (by rw [dx, dy]))
  have hk2 := Lib.bitLen_le _ _ (by omega) hj
  exact c1.both cx (by omega)
theorem meet_comm {a b : Nat} (a1 : 1 ≤ a) (a2 : a < 18446744073709551616) (b1 : 1 ≤ b) (b2 : b < 18446744073709551616) : meet b a = meet a b := by
  obtain ⟨_, _, m1, m2, m3⟩ := meet_all a1 a2 b1 b2
  obtain ⟨_, _, n1, n2, n3⟩ := meet_all b1 b2 a1 a2
  exact (m3 _ n2 n1).antisymm (n3 _ m2 m1)
theorem meet_anc {a b : Nat} (a1 : 1 ≤ a) (a2 : a < 18446744073709551616) (b1 : 1 ≤ b) (b2 : b < 18446744073709551616) : Anc a b ↔ meet a b = a := by
  obtain ⟨_, _, m1, m2, m3⟩ := meet_all a1 a2 b1 b2
  exact ⟨fun h => m1.antisymm (m3 _ (Anc.refl a) h), fun h => by rw [h] at m2; exact m2⟩
theorem Anc.node {h a b : Nat} (H : Node h b) (h1 : 1 ≤ a) (hA : Anc a b) : Node h a := by
  obtain ⟨x1, x2, x3, x4, x5⟩ := H
  have := hA.2
  have e : b / 2 ^ (dep b - dep a) ≤ b := Nat.div_le_self _ _
  have l := hA.1
  exact ⟨x1, x2, h1, by omega, by omega⟩
theorem child_node {h m s : Nat} (H : Node h m) (hs : s ≤ 1) (hd : dep m < h) : Node h (2 * m + s) ∧ dep (2 * m + s) = dep m + 1 := by
  obtain ⟨x1, x2, x3, x4, x5⟩ := H
  have sm := Node.small ⟨x1, x2, x3, x4, x5⟩
  have d := dep_child (s := s) x3 (by omega) hs
  exact ⟨⟨x1, x2, by omega, by omega, by omega⟩, d⟩
end Go.Proofs.Ytmehbonjpmlmfaa
