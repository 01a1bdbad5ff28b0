/- Words, contracts and plain laws, part 1: what the proofs of this seat's statements about models lean on. -/
import Derived.WalkKit
import Derived.Lib.BitFns
import Derived.Lib.ItoaNum
import Derived.Test.YtmehbonjpmlmfaaRows
import Derived.Test.YtmehbonjpmlmfaaShelf
import Derived.WalkSpells
import Derived.WalkLawsBesides
import Derived.Deep.QuietTactic
import Derived.BigQuiet
import Derived.IntWalk
import Derived.Below
import Derived.Deep.Draws
import Derived.Deep.Light
import Derived.WalkSmall
import Derived.Test.YtmehbonjpmlmfaaWMore
import Derived.LoopTactic
import Derived.Lib.SliceRun
import Derived.Laws.OwnMore
import Derived.Laws.IdiomCopy
import Derived.Shelf.Spec.SlicesInsertGrow
import Derived.Deep.RegionLaw
namespace Go.Proofs.Ytmehbonjpmlmfaa

/-- how deep a node is -/
def dep (n : Nat) : Nat := Lib.bitLen n - 1
theorem bitLen_pos {n : Nat} (h : 1 ≤ n) (h2 : n < 18446744073709551616) : 1 ≤ Lib.bitLen n := (Lib.bitLenAux_bounds 64 n h2 (by omega)).1
theorem bitLen_dep {n : Nat} (h : 1 ≤ n) (h2 : n < 18446744073709551616) : Lib.bitLen n = dep n + 1 := by
  have := bitLen_pos h h2; unfold dep; omega
theorem dep_lo {n : Nat} (h : 1 ≤ n) (h2 : n < 18446744073709551616) : 2 ^ dep n ≤ n := (Lib.bitLenAux_bounds 64 n h2 (by omega)).2.1
theorem dep_hi {n : Nat} (h : 1 ≤ n) (h2 : n < 18446744073709551616) : n < 2 ^ (dep n + 1) := by
  have := (Lib.bitLenAux_bounds 64 n h2 (by omega)).2.2
  have e := bitLen_dep h h2
  unfold Lib.bitLen at e
  rw [e] at this; exact this
theorem pow_lt {a b : Nat} (h : 2 ^ a < 2 ^ b) : a < b := (Nat.pow_lt_pow_iff_right (by decide)).1 h
theorem pow_le {a b : Nat} (h : a ≤ b) : 2 ^ a ≤ 2 ^ b := Nat.pow_le_pow_right (by decide) h
theorem dep_unique {n d : Nat} (h1 : 2 ^ d ≤ n) (h2 : n < 2 ^ (d + 1)) (h3 : n < 18446744073709551616) : dep n = d := by
  have h0 : 1 ≤ n := Nat.le_trans (Nat.one_le_two_pow) h1
  have a := dep_lo h0 h3
  have b := dep_hi h0 h3
  have c := pow_lt (Nat.lt_of_le_of_lt a h2)
  have d := pow_lt (Nat.lt_of_le_of_lt h1 b)
  omega
theorem dep_lt {n : Nat} (h : 1 ≤ n) (h2 : n < 18446744073709551616) : dep n < 64 := by
  have := dep_lo h h2
  exact pow_lt (Nat.lt_of_le_of_lt this (by simpa using h2))
/-- there is such a node -/
def Node (h n : Nat) : Prop := 1 ≤ h ∧ h ≤ 32 ∧ 1 ≤ n ∧ dep n ≤ h ∧ n < 18446744073709551616
instance (h n : Nat) : Decidable (Node h n) := by unfold Node; infer_instance
theorem Node.lt {h n : Nat} (H : Node h n) : n < 2 ^ (h + 1) := by
  obtain ⟨a, b, c, d, e⟩ := H
  exact Nat.lt_of_lt_of_le (dep_hi c e) (pow_le (by omega))
theorem pow33 {h : Nat} (hh : h ≤ 32) : 2 ^ (h + 1) ≤ 8589934592 := pow_le (b := 33) (by omega)
theorem Node.small {h n : Nat} (H : Node h n) : n < 8589934592 := Nat.lt_of_lt_of_le H.lt (pow33 H.2.1)
theorem node_iff {h n : Nat} (h1 : 1 ≤ h) (h2 : h ≤ 32) : Node h n ↔ 1 ≤ n ∧ n < 2 ^ (h + 1) := by
  constructor
  · exact fun H => ⟨H.2.2.1, H.lt⟩
  · rintro ⟨a, b⟩
    have c : n < 18446744073709551616 := Nat.lt_trans (Nat.lt_of_lt_of_le b (pow33 h2)) (by decide)
    have := dep_lo a c
    have := pow_lt (Nat.lt_of_le_of_lt this b)
    exact ⟨h1, h2, a, by omega, c⟩
theorem dep_one : dep 1 = 0 := dep_unique (by decide) (by decide) (by decide)
theorem dep_child {n s : Nat} (h : 1 ≤ n) (h2 : n < 9223372036854775808) (hs : s ≤ 1) : dep (2 * n + s) = dep n + 1 := by
  have a := dep_lo h (by omega)
  have b := dep_hi h (by omega)
  refine dep_unique ?_ ?_ (by omega)
  · rw [Nat.pow_succ]; omega
  · rw [Nat.pow_succ]; omega
theorem dep_shift {n k : Nat} (h : 1 ≤ n) (h2 : n < 18446744073709551616) (hk : k ≤ dep n) : dep (n / 2 ^ k) = dep n - k := by
  have a := dep_lo h h2
  have b := dep_hi h h2
  refine dep_unique ?_ ?_ (Nat.lt_of_le_of_lt (Nat.div_le_self _ _) h2)
  · rw [Nat.le_div_iff_mul_le (Nat.two_pow_pos k), ← Nat.pow_add]
    rwa [show dep n - k + k = dep n by omega]
  · rw [Nat.div_lt_iff_lt_mul (Nat.two_pow_pos k), ← Nat.pow_add]
    rwa [show dep n - k + 1 + k = dep n + 1 by omega]
theorem shift_pos {n k : Nat} (h : 1 ≤ n) (h2 : n < 18446744073709551616) (hk : k ≤ dep n) : 1 ≤ n / 2 ^ k := by
  have a := dep_lo h h2
  rw [Nat.le_div_iff_mul_le (Nat.two_pow_pos k)]
  have := pow_le hk
  omega
theorem shift_full {n : Nat} (h : 1 ≤ n) (h2 : n < 18446744073709551616) : n / 2 ^ dep n = 1 := by
  have a := dep_lo h h2
  have b := dep_hi h h2
  apply Nat.le_antisymm
  · rw [← Nat.lt_succ_iff, Nat.div_lt_iff_lt_mul (Nat.two_pow_pos _)]
    rw [Nat.pow_succ] at b; omega
  · rw [Nat.le_div_iff_mul_le (Nat.two_pow_pos _)]; omega

/-- one is above another one (or it) -/
def Anc (a b : Nat) : Prop := dep a ≤ dep b ∧ b / 2 ^ (dep b - dep a) = a
instance (a b : Nat) : Decidable (Anc a b) := by unfold Anc; infer_instance
theorem Anc.refl (a : Nat) : Anc a a := ⟨Nat.le_refl _, by rw [Nat.sub_self, Nat.pow_zero, Nat.div_one]⟩
theorem anc_shift {n k : Nat} (h : 1 ≤ n) (h2 : n < 18446744073709551616) (hk : k ≤ dep n) : Anc (n / 2 ^ k) n := by
  have e := dep_shift h h2 hk
  refine ⟨by omega, ?_⟩
  rw [e, show dep n - (dep n - k) = k by omega]
theorem Anc.antisymm {a b : Nat} (h : Anc a b) (h' : Anc b a) : a = b := by
  have e : dep a = dep b := Nat.le_antisymm h.1 h'.1
  have := h.2
  rw [e, Nat.sub_self, Nat.pow_zero, Nat.div_one] at this
  exact this.symm
theorem Anc.trans {a b c : Nat} (h : Anc a b) (h' : Anc b c) : Anc a c := by
  refine ⟨Nat.le_trans h.1 h'.1, ?_⟩
  have e1 := h.2
  have e2 := h'.2
  have d1 := h.1
  have d2 := h'.1
  rw [← e2] at e1
  rw [Nat.div_div_eq_div_mul, ← Nat.pow_add] at e1
  rw [e2] at e1
  rwa [show dep c - dep b + (dep b - dep a) = dep c - dep a by omega] at e1
/-- two above one: the deeper one is below the other -/
theorem Anc.both {a b c : Nat} (h : Anc a c) (h' : Anc b c) (hd : dep a ≤ dep b) : Anc a b := by
  refine ⟨hd, ?_⟩
  have e1 := h.2
  have e2 := h'.2
  have d1 := h.1
  have d2 := h'.1
  rw [← e2, Nat.div_div_eq_div_mul, ← Nat.pow_add]
  rw [e2, show dep c - dep b + (dep b - dep a) = dep c - dep a by omega]
  exact e1
end Go.Proofs.Ytmehbonjpmlmfaa

namespace Go.Proofs.Ytmehbonjpmlmfaa

theorem span_ex {h n d : Nat} (H : Node h n) (hd : dep n = d) : ∃ lo hi, n * 2 ^ (h - d) = 2 ^ h + lo ∧ lo + 2 ^ (h - d) = hi + 1 := by
  obtain ⟨h1, h2, h3, h4, h5⟩ := H
  have a := dep_lo h3 h5
  rw [hd] at a h4
  have b : 2 ^ d * 2 ^ (h - d) ≤ n * 2 ^ (h - d) := Nat.mul_le_mul_right _ a
  rw [← Nat.pow_add, show d + (h - d) = h by omega] at b
  have c := Nat.two_pow_pos (h - d)
  exact ⟨n * 2 ^ (h - d) - 2 ^ h, n * 2 ^ (h - d) - 2 ^ h + 2 ^ (h - d) - 1, by omega, by omega⟩
theorem anc_span {h a b p q la ha lb hb : Nat} (H : Node h a) (K : Node h b) (hp : dep a = p) (hq : dep b = q)
    (a1 : a * 2 ^ (h - p) = 2 ^ h + la) (a2 : la + 2 ^ (h - p) = ha + 1) (b1 : b * 2 ^ (h - q) = 2 ^ h + lb) (b2 : lb + 2 ^ (h - q) = hb + 1) :
    Anc a b ↔ la ≤ lb ∧ hb ≤ ha := by
  have p1 := H.2.2.2.1
  have q1 := K.2.2.2.1
  rw [hp] at p1; rw [hq] at q1
  unfold Anc
  rw [hp, hq]
  constructor
  · rintro ⟨l, e⟩
    have s : h - p = (q - p) + (h - q) := by omega
    have m1 := Nat.div_mul_le_self b (2 ^ (q - p))
    rw [e] at m1
    have m2 : b < (a + 1) * 2 ^ (q - p) := by
      rw [← Nat.div_lt_iff_lt_mul (Nat.two_pow_pos _), e]; omega
    have k1 := Nat.mul_le_mul_right (2 ^ (h - q)) m1
    rw [Nat.mul_assoc, ← Nat.pow_add, ← s] at k1
    have k2 := Nat.mul_le_mul_right (2 ^ (h - q)) (show b + 1 ≤ (a + 1) * 2 ^ (q - p) by omega)
    rw [Nat.mul_assoc, ← Nat.pow_add, ← s, Nat.succ_mul, Nat.succ_mul] at k2
    omega
  · rintro ⟨l1, l2⟩
    have hle : 2 ^ (h - q) ≤ 2 ^ (h - p) := by omega
    have hle' := (Nat.pow_le_pow_iff_right (a := 2) (by decide)).1 hle
    have l : p ≤ q := by omega
    refine ⟨l, ?_⟩
    have s : h - p = (q - p) + (h - q) := by omega
    have z := Nat.two_pow_pos (h - q)
    have k1 : a * 2 ^ (q - p) * 2 ^ (h - q) ≤ b * 2 ^ (h - q) := by
      rw [Nat.mul_assoc, ← Nat.pow_add, ← s]; omega
    have k2 : (b + 1) * 2 ^ (h - q) ≤ (a + 1) * 2 ^ (q - p) * 2 ^ (h - q) := by
      rw [Nat.mul_assoc, ← Nat.pow_add, ← s, Nat.succ_mul, Nat.succ_mul]; omega
    have m1 := Nat.le_of_mul_le_mul_right k1 z
    have m2 := Nat.le_of_mul_le_mul_right k2 z
    apply Nat.le_antisymm
    · rw [← Nat.lt_succ_iff, Nat.div_lt_iff_lt_mul (Nat.two_pow_pos _)]; show b < (a + 1) * 2 ^ (q - p); omega
    · rw [Nat.le_div_iff_mul_le (Nat.two_pow_pos _)]; exact m1
/-- spans of the same length are the same or lie apart: so do those of two nodes neither of which is above the other one -/
theorem span_law {h a b p q la ha lb hb : Nat} (H : Node h a) (K : Node h b) (hp : dep a = p) (hq : dep b = q)
    (a1 : a * 2 ^ (h - p) = 2 ^ h + la) (a2 : la + 2 ^ (h - p) = ha + 1) (b1 : b * 2 ^ (h - q) = 2 ^ h + lb) (b2 : lb + 2 ^ (h - q) = hb + 1) (hl : p ≤ q) :
    (ha < lb ∨ hb < la) ↔ ¬ Anc a b := by
  have p1 := H.2.2.2.1
  have q1 := K.2.2.2.1
  rw [hp] at p1; rw [hq] at q1
  rw [anc_span H K hp hq a1 a2 b1 b2]
  have s : h - p = (q - p) + (h - q) := by omega
  have za := Nat.two_pow_pos (h - p)
  have zb := Nat.two_pow_pos (h - q)
  constructor
  · omega
  · intro n
    -- multiples of 2^(h-q): a * 2^(q-p) and b
    have e1 : a * 2 ^ (q - p) * 2 ^ (h - q) = 2 ^ h + la := by rw [Nat.mul_assoc, ← Nat.pow_add, ← s]; exact a1
    have e2 : (a * 2 ^ (q - p) + 2 ^ (q - p)) * 2 ^ (h - q) = 2 ^ h + (ha + 1) := by
      rw [Nat.add_mul, e1, ← Nat.pow_add, ← s]; omega
    generalize a * 2 ^ (q - p) = x at e1 e2
    generalize 2 ^ (q - p) = y at e2
    by_cases c1 : b < x
    · right
      have := Nat.mul_le_mul_right (2 ^ (h - q)) (show b + 1 ≤ x by omega)
      rw [Nat.succ_mul] at this
      omega
    · by_cases c2 : x + y ≤ b
      · left
        have := Nat.mul_le_mul_right (2 ^ (h - q)) c2
        omega
      · exfalso
        apply n
        have u1 := Nat.mul_le_mul_right (2 ^ (h - q)) (show x ≤ b by omega)
        have u2 := Nat.mul_le_mul_right (2 ^ (h - q)) (show b + 1 ≤ x + y by omega)
        rw [Nat.succ_mul] at u2
        omega
theorem spans_law {h a b p q la ha lb hb : Nat} (H : Node h a) (K : Node h b) (hp : dep a = p) (hq : dep b = q)
    (a1 : a * 2 ^ (h - p) = 2 ^ h + la) (a2 : la + 2 ^ (h - p) = ha + 1) (b1 : b * 2 ^ (h - q) = 2 ^ h + lb) (b2 : lb + 2 ^ (h - q) = hb + 1) :
    ((ha < lb ∨ hb < la) ↔ (¬ Anc a b ∧ ¬ Anc b a)) ∧ (Anc a b ∧ Anc b a ↔ a = b) ∧ la ≤ ha ∧ lb ≤ hb := by
  have x1 := anc_span H K hp hq a1 a2 b1 b2
  have x2 := anc_span K H hq hp b1 b2 a1 a2
  have za := Nat.two_pow_pos (h - p)
  have zb := Nat.two_pow_pos (h - q)
  refine ⟨?_, ⟨fun h => h.1.antisymm h.2, fun h => by subst h; exact ⟨Anc.refl _, Anc.refl _⟩⟩, by omega, by omega⟩
  rcases Nat.le_total p q with l | l
  · rw [span_law H K hp hq a1 a2 b1 b2 l]
    constructor
    · intro n
      refine ⟨n, fun m => ?_⟩
      rw [x1] at n; rw [x2] at m
      have := (span_law H K hp hq a1 a2 b1 b2 l).2 (by rw [x1]; exact n)
      omega
    · exact fun n => n.1
  · rw [Or.comm, span_law K H hq hp b1 b2 a1 a2 l]
    constructor
    · intro n
      refine ⟨fun m => ?_, n⟩
      rw [x2] at n; rw [x1] at m
      have := (span_law K H hq hp b1 b2 a1 a2 l).2 (by rw [x2]; exact n)
      omega
    · exact fun n => n.2

theorem xor_one (n : Nat) : n ^^^ 1 = 2 * (n / 2) + (1 - n % 2) := by
  have h1 : (n ^^^ 1) / 2 = n / 2 := by rw [Nat.xor_div_two]; simp
  have h2 : (n ^^^ 1) % 2 = 1 ↔ ¬ (n % 2 = 1) := by rw [Nat.xor_mod_two_eq_one]; simp
  omega
theorem xor_back (n : Nat) : (n ^^^ 1) ^^^ 1 = n := by rw [Nat.xor_assoc, Nat.xor_self, Nat.xor_zero]
theorem xor_with (n : Nat) : n ^^^ (n ^^^ 1) = 1 := by rw [← Nat.xor_assoc, Nat.xor_self, Nat.zero_xor]
/-- the other one below the one above -/
theorem other_law {h n : Nat} (H : Node h n) (h1 : n ≠ 1) : Node h (n ^^^ 1) ∧ dep (n ^^^ 1) = dep n ∧ 1 ≤ dep n ∧ n ^^^ 1 ≠ n ∧ n ^^^ 1 ≠ 1 := by
  obtain ⟨a, b, c, d, e⟩ := H
  have s := Node.small ⟨a, b, c, d, e⟩
  have x := xor_one n
  have d1 := dep_child (n := n / 2) (s := n % 2) (by omega) (by omega) (by omega)
  have d2 := dep_child (n := n / 2) (s := 1 - n % 2) (by omega) (by omega) (by omega)
  rw [show 2 * (n / 2) + n % 2 = n by omega] at d1
  rw [← x] at d2
  exact ⟨⟨a, b, by omega, by omega, by omega⟩, by omega, by omega, by omega, by omega⟩

/-! where two meet -/
def meet (a b : Nat) : Nat :=
  a / 2 ^ (dep a - min (dep a) (dep b)) / 2 ^ Lib.bitLen (a / 2 ^ (dep a - min (dep a) (dep b)) ^^^ b / 2 ^ (dep b - min (dep a) (dep b)))
theorem eq_of_xor {a b : Nat} (h : a ^^^ b = 0) : a = b := by
  have e : (a ^^^ b) ^^^ b = 0 ^^^ b := by rw [h]
  rwa [Nat.xor_assoc, Nat.xor_self, Nat.xor_zero, Nat.zero_xor] at e
theorem xor_low {x y j : Nat} (h : x / 2 ^ j = y / 2 ^ j) : x ^^^ y < 2 ^ j := by
  have e : (x ^^^ y) / 2 ^ j = 0 := by rw [Nat.xor_div_two_pow, h, Nat.xor_self]
  rcases Nat.lt_or_ge (x ^^^ y) (2 ^ j) with l | l
  · exact l
  · have : 1 ≤ (x ^^^ y) / 2 ^ j := by rw [Nat.le_div_iff_mul_le (Nat.two_pow_pos j)]; omega
    omega
theorem xor_same {x y j : Nat} (h : x ^^^ y < 2 ^ j) : x / 2 ^ j = y / 2 ^ j := by
  have e : (x ^^^ y) / 2 ^ j = 0 := Nat.div_eq_of_lt h
  rw [Nat.xor_div_two_pow] at e
  exact eq_of_xor e
theorem bitLen_hi {n : Nat} (h : n < 18446744073709551616) : n < 2 ^ Lib.bitLen n := by
  by_cases c : n = 0
  · subst c; exact Nat.two_pow_pos _
  · have e := bitLen_dep (n := n) (by omega) h
    rw [e]; exact dep_hi (by omega) h
theorem meet_all {a b : Nat} (a1 : 1 ≤ a) (a2 : a < 18446744073709551616) (b1 : 1 ≤ b) (b2 : b < 18446744073709551616) :
    1 ≤ meet a b ∧ meet a b ≤ a ∧ Anc (meet a b) a ∧ Anc (meet a b) b ∧ ∀ c, Anc c a → Anc c b → Anc c (meet a b) := by
  have ha := Nat.min_le_left (dep a) (dep b)
  have hb := Nat.min_le_right (dep a) (dep b)
  unfold meet
  generalize hd : min (dep a) (dep b) = d at *
  have x1 := shift_pos (k := dep a - d) a1 a2 (by omega)
  have y1 := shift_pos (k := dep b - d) b1 b2 (by omega)
  have x2 := dep_shift (k := dep a - d) a1 a2 (by omega)
  have y2 := dep_shift (k := dep b - d) b1 b2 (by omega)
  have x3 := anc_shift (k := dep a - d) a1 a2 (by omega)
  have y3 := anc_shift (k := dep b - d) b1 b2 (by omega)
  have x4 : a / 2 ^ (dep a - d) < 18446744073709551616 := Nat.lt_of_le_of_lt (Nat.div_le_self _ _) a2
  have y4 : b / 2 ^ (dep b - d) < 18446744073709551616 := Nat.lt_of_le_of_lt (Nat.div_le_self _ _) b2
  have x5 : a / 2 ^ (dep a - d) ≤ a := Nat.div_le_self _ _
  generalize a / 2 ^ (dep a - d) = x at *
  generalize b / 2 ^ (dep b - d) = y at *
  have dx : dep x = d := by omega
  have dy : dep y = d := by omega
  have fx := shift_full x1 x4
  have fy := shift_full y1 y4
  rw [dx] at fx; rw [dy] at fy
  have hz := xor_low (fx.trans fy.symm)
  have d64 := dep_lt x1 x4
  have hk := Lib.bitLen_le _ d (by omega) hz
  have hz2 : x ^^^ y < 18446744073709551616 := Nat.xor_lt_two_pow (n := 64) x4 y4
  have hz3 := xor_same (bitLen_hi hz2)
  have cx := anc_shift (k := Lib.bitLen (x ^^^ y)) x1 x4 (by omega)
  have cy := anc_shift (k := Lib.bitLen (x ^^^ y)) y1 y4 (by omega)
  rw [← hz3] at cy
  have px := shift_pos (k := Lib.bitLen (x ^^^ y)) x1 x4 (by omega)
  have dm := dep_shift (k := Lib.bitLen (x ^^^ y)) x1 x4 (by omega)
  refine ⟨px, Nat.le_trans (Nat.div_le_self _ _) x5, cx.trans x3, cy.trans y3, fun c h1 h2 => ?_⟩
  have hcd : dep c ≤ d := by rw [← hd]; exact Nat.le_min.2 ⟨h1.1, h2.1⟩
  have c1 := h1.both x3 (by omega)
  have c2 := h2.both y3 (by omega)
  have hj := xor_low ((c1.2.trans c2.2.symm : x / 2 ^ (dep x - dep c) = y / 2 ^ (dep y - dep c)).trans (by rw [dx, dy]))
  have hk2 := Lib.bitLen_le _ _ (by omega) hj
  exact c1.both cx (by omega)
theorem meet_comm {a b : Nat} (a1 : 1 ≤ a) (a2 : a < 18446744073709551616) (b1 : 1 ≤ b) (b2 : b < 18446744073709551616) : meet b a = meet a b := by
  obtain ⟨_, _, m1, m2, m3⟩ := meet_all a1 a2 b1 b2
  obtain ⟨_, _, n1, n2, n3⟩ := meet_all b1 b2 a1 a2
  exact (m3 _ n2 n1).antisymm (n3 _ m2 m1)
theorem meet_anc {a b : Nat} (a1 : 1 ≤ a) (a2 : a < 18446744073709551616) (b1 : 1 ≤ b) (b2 : b < 18446744073709551616) : Anc a b ↔ meet a b = a := by
  obtain ⟨_, _, m1, m2, m3⟩ := meet_all a1 a2 b1 b2
  exact ⟨fun h => m1.antisymm (m3 _ (Anc.refl a) h), fun h => by rw [h] at m2; exact m2⟩
theorem Anc.node {h a b : Nat} (H : Node h b) (h1 : 1 ≤ a) (hA : Anc a b) : Node h a := by
  obtain ⟨x1, x2, x3, x4, x5⟩ := H
  have := hA.2
  have e : b / 2 ^ (dep b - dep a) ≤ b := Nat.div_le_self _ _
  have l := hA.1
  exact ⟨x1, x2, h1, by omega, by omega⟩
theorem child_node {h m s : Nat} (H : Node h m) (hs : s ≤ 1) (hd : dep m < h) : Node h (2 * m + s) ∧ dep (2 * m + s) = dep m + 1 := by
  obtain ⟨x1, x2, x3, x4, x5⟩ := H
  have sm := Node.small ⟨x1, x2, x3, x4, x5⟩
  have d := dep_child (s := s) x3 (by omega) hs
  exact ⟨⟨x1, x2, by omega, by omega, by omega⟩, d⟩
end Go.Proofs.Ytmehbonjpmlmfaa

namespace Go.Proofs.Ytmehbonjpmlmfaa
open Go.RowKit

theorem mkHid {p : Prop} (h : p) : Hid p := h
theorem pow_int (k : Nat) : (2 : Int) ^ k = ((2 ^ k : Nat) : Int) := by rw [Int.natCast_pow]; rfl
theorem bits_or (a b : Nat) (ha : a < 18446744073709551616) (hb : b < 18446744073709551616) : bits BinOp.or IntKind.u64 (a : Int) (b : Int) = ((a ||| b : Nat) : Int) := by
  show IntKind.u64.wrap ((BitVec.ofInt 64 (a : Int) ||| BitVec.ofInt 64 (b : Int)).toNat : Int) = _
  have h := Nat.or_lt_two_pow (n := 64) ha hb
  rw [BitVec.ofInt_natCast, BitVec.ofInt_natCast, BitVec.toNat_or, BitVec.toNat_ofNat, BitVec.toNat_ofNat, Nat.mod_eq_of_lt ha, Nat.mod_eq_of_lt hb, IntKind.wrap_u64]
  omega
theorem bits_xor (a b : Nat) (ha : a < 18446744073709551616) (hb : b < 18446744073709551616) : bits BinOp.xor IntKind.u64 (a : Int) (b : Int) = ((a ^^^ b : Nat) : Int) := by
  show IntKind.u64.wrap ((BitVec.ofInt 64 (a : Int) ^^^ BitVec.ofInt 64 (b : Int)).toNat : Int) = _
  have h := Nat.xor_lt_two_pow (n := 64) ha hb
  rw [BitVec.ofInt_natCast, BitVec.ofInt_natCast, BitVec.toNat_xor, BitVec.toNat_ofNat, BitVec.toNat_ofNat, Nat.mod_eq_of_lt ha, Nat.mod_eq_of_lt hb, IntKind.wrap_u64]
  omega
theorem bits_and (a b : Nat) (ha : a < 18446744073709551616) (hb : b < 18446744073709551616) : bits BinOp.and IntKind.u64 (a : Int) (b : Int) = ((a &&& b : Nat) : Int) := by
  show IntKind.u64.wrap ((BitVec.ofInt 64 (a : Int) &&& BitVec.ofInt 64 (b : Int)).toNat : Int) = _
  have h := Nat.and_lt_two_pow (n := 64) a hb
  rw [BitVec.ofInt_natCast, BitVec.ofInt_natCast, BitVec.toNat_and, BitVec.toNat_ofNat, BitVec.toNat_ofNat, Nat.mod_eq_of_lt ha, Nat.mod_eq_of_lt hb, IntKind.wrap_u64]
  omega
theorem or_pow {h i : Nat} (hi : i < 2 ^ h) : 2 ^ h ||| i = 2 ^ h + i := by
  have := Nat.two_pow_add_eq_or_of_lt hi 1
  rw [Nat.mul_one] at this
  exact this.symm
theorem or_two {n s : Nat} (hs : s ≤ 1) : 2 * n ||| s = 2 * n + s := by
  have := Nat.two_pow_add_eq_or_of_lt (i := 1) (b := s) (by omega) n
  rw [Nat.pow_one] at this
  exact this.symm
theorem nat_u64 {n : Int} (h : (Lit.int .u64 n).wf = true) : ∃ k : Nat, n = (k : Int) ∧ k < 18446744073709551616 := by
  have hmin : IntKind.u64.min = 0 := rfl
  have hmax : IntKind.u64.max = 18446744073709551615 := rfl
  simp only [Lit.wf, Bool.and_eq_true, decide_eq_true_eq, hmin, hmax] at h
  exact ⟨n.toNat, by omega, by omega⟩
theorem ret_int {k : IntKind} {a b : Int} (h : a = b) : Ending.returned (.int k a) = .returned (.int k b) := by rw [h]


set_option maxHeartbeats 400000 in
theorem high_yes (h : Nat) (h1 : 1 ≤ h) (h2 : h ≤ 32) (w : World) :
    Calls Try.prog 71 #[.int .i64 (h : Int)] w fun e w' => e = .returned (.bool true) ∧ w' = w := by
  have a : (1 : Int) ≤ (h : Int) := by omega
  have b : (h : Int) ≤ 32 := by omega
  have c : decide ((1 : Int) ≤ (h : Int)) = true := decide_eq_true a
  have d : decide ((h : Int) ≤ 32) = true := decide_eq_true b
  go_enter Try.func71, Try.ntmps71
  go_wp2_with fail
  go_ret
  exact ⟨by simp [*], rfl⟩

set_option maxHeartbeats 400000 in
theorem high_lo (h : Int) (h1 : h < 1) (w : World) :
    Calls Try.prog 71 #[.int .i64 h] w fun e w' => e = .returned (.bool false) ∧ w' = w := by
  have c : decide ((1 : Int) ≤ h) = false := decide_eq_false (by omega)
  go_enter Try.func71, Try.ntmps71
  go_wp2_with fail
  go_ret
  exact ⟨rfl, rfl⟩

set_option maxHeartbeats 400000 in
theorem high_hi (h : Int) (h1 : 32 < h) (w : World) :
    Calls Try.prog 71 #[.int .i64 h] w fun e w' => e = .returned (.bool false) ∧ w' = w := by
  have c : decide ((1 : Int) ≤ h) = true := decide_eq_true (by omega)
  have d : decide (h ≤ 32) = false := decide_eq_false (by omega)
  go_enter Try.func71, Try.ntmps71
  go_wp2_with fail
  go_ret
  exact ⟨by simp [*], rfl⟩

set_option maxHeartbeats 400000 in
theorem depth_eq {n d : Nat} (hd : Hid (dep n = d)) (h1 : 1 ≤ n) (h2 : n < 18446744073709551616) (w : World) :
    Calls Try.prog 72 #[.int .u64 (n : Int)] w fun e w' => e = .returned (.int .i64 (d : Int)) ∧ w' = w := by
  have hb := bitLen_dep h1 h2
  rw [hd.out] at hb
  have hl := dep_lt h1 h2
  rw [hd.out] at hl
  have hc : Calls Try.prog 79 #[.int .u64 (n : Int)] w fun e w' => e = .returned (.int .i64 ((d : Int) + 1)) ∧ w' = w := by
    have c := Try.bits_Len64 (n : Int) w (by omega) (by omega)
    rw [Int.toNat_natCast, hb] at c
    exact c
  clear hb
  go_enter Try.func72, Try.ntmps72
  go_wp2_with (first | (go_at_call 79; ((with_reducible refine (hc).mono ?_); rintro e w' ⟨rfl, rfl⟩)))
  go_ret
  exact ⟨ret_int (by omega), rfl⟩

set_option maxHeartbeats 400000 in
theorem check_yes {h n : Nat} (H : Node h n) (w : World) :
    Calls Try.prog 62 #[.int .i64 (h : Int), .int .u64 (n : Int)] w fun e w' => e = .returned (.int .i64 0) ∧ w' = w := by
  obtain ⟨d, hd⟩ : ∃ d, Hid (dep n = d) := ⟨_, mkHid rfl⟩
  obtain ⟨h1, h2, h3, h4, h5⟩ := H
  rw [hd.out] at h4
  have a : decide ((n : Int) < 1) = false := decide_eq_false (by omega)
  have b : decide ((h : Int) < (d : Int)) = false := decide_eq_false (by omega)
  have b' : decide (h < d) = false := decide_eq_false (by omega)
  go_enter Try.func62, Try.ntmps62
  go_wp2_with (first | (go_at_call 71; ((with_reducible refine (high_yes h h1 h2 _).mono ?_); rintro e w' ⟨rfl, rfl⟩)) | (go_at_call 72; ((with_reducible refine (depth_eq hd h3 h5 _).mono ?_); rintro e w' ⟨rfl, rfl⟩)))
  go_ret
  exact ⟨rfl, rfl⟩

set_option maxHeartbeats 400000 in
theorem check_lo {h : Int} {n : Nat} (H : h < 1) (w : World) :
    Calls Try.prog 62 #[.int .i64 h, .int .u64 (n : Int)] w fun e w' => e = .returned (.int .i64 1) ∧ w' = w := by
  go_enter Try.func62, Try.ntmps62
  go_wp2_with (first | (go_at_call 71; ((with_reducible refine (high_lo h H _).mono ?_); rintro e w' ⟨rfl, rfl⟩)))
  go_ret
  exact ⟨rfl, rfl⟩

set_option maxHeartbeats 400000 in
theorem check_hi {h : Int} {n : Nat} (H : 32 < h) (w : World) :
    Calls Try.prog 62 #[.int .i64 h, .int .u64 (n : Int)] w fun e w' => e = .returned (.int .i64 1) ∧ w' = w := by
  go_enter Try.func62, Try.ntmps62
  go_wp2_with (first | (go_at_call 71; ((with_reducible refine (high_hi h H _).mono ?_); rintro e w' ⟨rfl, rfl⟩)))
  go_ret
  exact ⟨rfl, rfl⟩

set_option maxHeartbeats 400000 in
theorem check_zero {h : Nat} (h1 : 1 ≤ h) (h2 : h ≤ 32) (w : World) :
    Calls Try.prog 62 #[.int .i64 (h : Int), .int .u64 0] w fun e w' => e = .returned (.int .i64 1) ∧ w' = w := by
  go_enter Try.func62, Try.ntmps62
  go_wp2_with (first | (go_at_call 71; ((with_reducible refine (high_yes h h1 h2 _).mono ?_); rintro e w' ⟨rfl, rfl⟩)))
  go_ret
  exact ⟨rfl, rfl⟩

set_option maxHeartbeats 400000 in
theorem check_deep {h n : Nat} (h1 : 1 ≤ h) (h2 : h ≤ 32) (h3 : 1 ≤ n) (h5 : n < 18446744073709551616) (h4 : h < dep n) (w : World) :
    Calls Try.prog 62 #[.int .i64 (h : Int), .int .u64 (n : Int)] w fun e w' => e = .returned (.int .i64 1) ∧ w' = w := by
  obtain ⟨d, hd⟩ : ∃ d, Hid (dep n = d) := ⟨_, mkHid rfl⟩
  rw [hd.out] at h4
  have a : decide ((n : Int) < 1) = false := decide_eq_false (by omega)
  have b : decide ((h : Int) < (d : Int)) = true := decide_eq_true (by omega)
  have b' : decide (h < d) = true := decide_eq_true (by omega)
  go_enter Try.func62, Try.ntmps62
  go_wp2_with (first | (go_at_call 71; ((with_reducible refine (high_yes h h1 h2 _).mono ?_); rintro e w' ⟨rfl, rfl⟩)) | (go_at_call 72; ((with_reducible refine (depth_eq hd h3 h5 _).mono ?_); rintro e w' ⟨rfl, rfl⟩)))
  go_ret
  exact ⟨rfl, rfl⟩

/-- there is no such node: of any whole number for a height -/
def NoNode (h : Int) (n : Nat) : Prop := h < 1 ∨ 32 < h ∨ n = 0 ∨ ∃ k : Nat, h = (k : Int) ∧ 1 ≤ k ∧ k ≤ 32 ∧ 1 ≤ n ∧ k < dep n
theorem node_or {h : Int} {n : Nat} (hn : n < 18446744073709551616) : NoNode h n ∨ ∃ k : Nat, h = (k : Int) ∧ Node k n := by
  by_cases a : h < 1
  · exact .inl (.inl a)
  by_cases b : 32 < h
  · exact .inl (.inr (.inl b))
  obtain ⟨k, rfl⟩ : ∃ k : Nat, h = (k : Int) := ⟨h.toNat, by omega⟩
  by_cases c : n = 0
  · exact .inl (.inr (.inr (.inl c)))
  by_cases d : k < dep n
  · exact .inl (.inr (.inr (.inr ⟨k, rfl, by omega, by omega, by omega, d⟩)))
  · exact .inr ⟨k, rfl, by omega, by omega, by omega, by omega, hn⟩
theorem check_no {h : Int} {n : Nat} (H : NoNode h n) (hn : n < 18446744073709551616) (w : World) :
    Calls Try.prog 62 #[.int .i64 h, .int .u64 (n : Int)] w fun e w' => e = .returned (.int .i64 1) ∧ w' = w := by
  rcases H with H | H | rfl | ⟨k, rfl, a, b, c, d⟩
  · exact check_lo H w
  · exact check_hi H w
  · by_cases a : h < 1
    · exact check_lo a w
    by_cases b : 32 < h
    · exact check_hi b w
    obtain ⟨k, rfl⟩ : ∃ k : Nat, h = (k : Int) := ⟨h.toNat, by omega⟩
    exact check_zero (by omega) (by omega) w
  · exact check_deep a b c hn d w

set_option maxHeartbeats 400000 in
theorem leaf_yes {h i r : Nat} (h1 : 1 ≤ h) (h2 : h ≤ 32) (hi : i < 2 ^ h) (hr : Hid (2 ^ h + i = r)) (w : World) :
    Calls Try.prog 73 #[.int .i64 (h : Int), .int .u64 (i : Int)] w fun e w' => e = .returned (.tuple #[.int .u64 ((r : Int)), .int .i64 0]) ∧ w' = w := by
  have hp : 2 ^ h ≤ 4294967296 := pow_le (b := 32) h2
  have hp0 := Nat.two_pow_pos h
  have es : (i : Int) / 2 ^ h = 0 := by rw [pow_int, ← Int.natCast_ediv, Nat.div_eq_of_lt hi]; rfl
  have el : IntKind.u64.wrap (2 ^ h) = ((2 ^ h : Nat) : Int) := by rw [pow_int, IntKind.wrap_u64]; omega
  have eo : bits BinOp.or IntKind.u64 ((2 : Int) ^ h) (i : Int) = (r : Int) := by rw [pow_int, bits_or _ _ (by omega) (by omega), or_pow hi, hr.out]
  clear hp hp0 hr hi
  go_enter Try.func73, Try.ntmps73
  go_wp2_with (first | (go_at_call 71; ((with_reducible refine (high_yes h h1 h2 _).mono ?_); rintro e w' ⟨rfl, rfl⟩)))
  go_ret2
  exact ⟨rfl, rfl⟩

set_option maxHeartbeats 400000 in
theorem leaf_none {h i : Nat} (h1 : 1 ≤ h) (h2 : h ≤ 32) (hi : 2 ^ h ≤ i) (w : World) :
    Calls Try.prog 73 #[.int .i64 (h : Int), .int .u64 (i : Int)] w fun e w' => e = .returned (.tuple #[.int .u64 (0), .int .i64 4]) ∧ w' = w := by
  have hp0 : 1 ≤ i / 2 ^ h := by rw [Nat.le_div_iff_mul_le (Nat.two_pow_pos h)]; omega
  have es : (0 : Int) < (i : Int) / 2 ^ h := by rw [pow_int, ← Int.natCast_ediv]; omega
  have ed : decide ((0 : Int) < (i : Int) / 2 ^ h) = true := decide_eq_true es
  clear hp0 hi
  go_enter Try.func73, Try.ntmps73
  go_wp2_with (first | (go_at_call 71; ((with_reducible refine (high_yes h h1 h2 _).mono ?_); rintro e w' ⟨rfl, rfl⟩)))
  go_ret2
  exact ⟨rfl, rfl⟩

set_option maxHeartbeats 400000 in
theorem leaf_lo {h : Int} {n : Nat} (H : h < 1) (w : World) :
    Calls Try.prog 73 #[.int .i64 h, .int .u64 (n : Int)] w fun e w' => e = .returned (.tuple #[.int .u64 (0), .int .i64 1]) ∧ w' = w := by
  go_enter Try.func73, Try.ntmps73
  go_wp2_with (first | (go_at_call 71; ((with_reducible refine (high_lo h H _).mono ?_); rintro e w' ⟨rfl, rfl⟩)))
  go_ret2
  exact ⟨rfl, rfl⟩

set_option maxHeartbeats 400000 in
theorem leaf_hi {h : Int} {n : Nat} (H : 32 < h) (w : World) :
    Calls Try.prog 73 #[.int .i64 h, .int .u64 (n : Int)] w fun e w' => e = .returned (.tuple #[.int .u64 (0), .int .i64 1]) ∧ w' = w := by
  go_enter Try.func73, Try.ntmps73
  go_wp2_with (first | (go_at_call 71; ((with_reducible refine (high_hi h H _).mono ?_); rintro e w' ⟨rfl, rfl⟩)))
  go_ret2
  exact ⟨rfl, rfl⟩

end Go.Proofs.Ytmehbonjpmlmfaa

namespace Go.Proofs.Ytmehbonjpmlmfaa
open Go.RowKit
theorem wrapN {n : Nat} (h : n < 18446744073709551616) : IntKind.u64.wrap (n : Int) = (n : Int) := by rw [IntKind.wrap_u64]; omega


end Go.Proofs.Ytmehbonjpmlmfaa

namespace Go.Proofs.Ytmehbonjpmlmfaa
open Go.RowKit

/-! a block of the heap known whole -/
def Blk (w : World) (n : Nat) (t : TypeId) (cs : Array Value) : Prop := w.heap[n]? = some (.cells cs t (0, 0))
theorem Blk.cell {w : World} {n : Nat} {t : TypeId} {cs : Array Value} (h : Blk w n t cs) (i : Nat) : w.cell? ⟨n, i, none⟩ = cs[i]? := by
  unfold Blk at h; simp [World.cell?, h]
theorem Blk.frozen {w : World} {n : Nat} {t : TypeId} {cs : Array Value} (h : Blk w n t cs) (i : Nat) : w.frozen? ⟨n, i, none⟩ = false := by
  unfold Blk at h; simp [World.frozen?, h]
theorem Blk.lt {w : World} {n : Nat} {t : TypeId} {cs : Array Value} (h : Blk w n t cs) : n < w.heap.size := (Array.getElem?_eq_some_iff.1 h).1
theorem Blk.new (w : World) (t : TypeId) (cs : Array Value) : Blk (w.alloc (.cells cs t)) w.heap.size t cs := by
  show (w.heap.push _)[w.heap.size]? = _
  simp
theorem Blk.set {w : World} {n : Nat} {t : TypeId} {cs : Array Value} (h : Blk w n t cs) (i : Nat) (u : Value) : Blk (w.setCell ⟨n, i, none⟩ u) n t (cs.setIfInBounds i u) := by
  unfold Blk at *
  simp [World.setCell, Array.getElem?_modify, h]
theorem Blk.drew {w : World} {n : Nat} {t : TypeId} {cs : Array Value} (h : Blk w n t cs) : Blk w.drew n t cs := h
theorem Blk.drewN {w : World} {n : Nat} {t : TypeId} {cs : Array Value} (h : Blk w n t cs) (q : Nat) : Blk (w.drewN q) n t cs := h
theorem Blk.below {w w' : World} {n m : Nat} {t : TypeId} {cs : Array Value} (h : Blk w n t cs) (hb : Go.RowKit.Below m w w') (hn : n < m) : Blk w' n t cs := (hb.block n hn).trans h
theorem Blk.alloc {w : World} {n : Nat} {t : TypeId} {cs : Array Value} (h : Blk w n t cs) (o : Obj) : Blk (w.alloc o) n t cs := (Go.RowKit.Below.heap_alloc w o n h.lt).trans h
theorem Blk.other {w : World} {n m i : Nat} {t : TypeId} {cs : Array Value} (h : Blk w n t cs) (u : Value) (hm : n ≠ m) : Blk (w.setCell ⟨m, i, none⟩ u) n t cs := (Go.RowKit.Below.heap_setCell w ⟨m, i, none⟩ u n hm).trans h
theorem cutIn {p q : Prop} (hp : p) (k : p → q) : q := k hp
theorem fill_cells {w : World} {n : Nat} {u0 u1 : Value} (v0 v1 : Value) (h0 : w.cell? ⟨n, 0, none⟩ = some u0) (h1 : w.cell? ⟨n, 1, none⟩ = some u1) :
    ((w.setCell ⟨n, 0, none⟩ v0).setCell ⟨n, 1, none⟩ v1).cell? ⟨n, 0, none⟩ = some v0 ∧ ((w.setCell ⟨n, 0, none⟩ v0).setCell ⟨n, 1, none⟩ v1).cell? ⟨n, 1, none⟩ = some v1 := by
  constructor
  · rw [World.cell?_setCell_other _ _ _ _ (by simp)]; exact World.cell?_setCell_same _ _ _ h0
  · refine World.cell?_setCell_same (u := u1) _ _ _ ?_
    rw [World.cell?_setCell_other _ _ _ _ (by simp)]; exact h1
theorem fill_cell0 {w : World} {n : Nat} {u0 u1 v0 v1 : Value} (h0 : w.cell? ⟨n, 0, none⟩ = some u0) (h1 : w.cell? ⟨n, 1, none⟩ = some u1) :
    ((w.setCell ⟨n, 0, none⟩ v0).setCell ⟨n, 1, none⟩ v1).cell? ⟨n, 0, none⟩ = some v0 := (fill_cells v0 v1 h0 h1).1
theorem fill_cell1 {w : World} {n : Nat} {u0 u1 v0 v1 : Value} (h0 : w.cell? ⟨n, 0, none⟩ = some u0) (h1 : w.cell? ⟨n, 1, none⟩ = some u1) :
    ((w.setCell ⟨n, 0, none⟩ v0).setCell ⟨n, 1, none⟩ v1).cell? ⟨n, 1, none⟩ = some v1 := (fill_cells v0 v1 h0 h1).2
theorem Blk.at (w : World) {n : Nat} (t : TypeId) (cs : Array Value) (h : n = w.heap.size) : Blk (w.alloc (.cells cs t)) n t cs := by subst h; exact Blk.new w t cs
theorem Blk.keep {w w1 : World} {n : Nat} {t : TypeId} {cs : Array Value} (h : Blk w n t cs) (hb : Below w.heap.size w w1) : Blk w1 n t cs := h.below hb h.lt
theorem Blk.fill2 {w : World} {n : Nat} {t : TypeId} {a b u v : Value} (h : Blk w n t #[a, b]) : Blk ((w.setCell ⟨n, 0, none⟩ u).setCell ⟨n, 1, none⟩ v) n t #[u, v] := (h.set 0 u).set 1 v
theorem Blk.fill4 {w : World} {n : Nat} {t : TypeId} {a b c d x y u v : Value} (h : Blk w n t #[a, b, c, d]) :
    Blk ((((w.setCell ⟨n, 0, none⟩ x).setCell ⟨n, 1, none⟩ y).setCell ⟨n, 2, none⟩ u).setCell ⟨n, 3, none⟩ v) n t #[x, y, u, v] := (((h.set 0 x).set 1 y).set 2 u).set 3 v
theorem Blk.fill4a {w : World} {n : Nat} {t : TypeId} {a b c d x y : Value} (h : Blk w n t #[a, b, c, d]) : Blk ((w.setCell ⟨n, 0, none⟩ x).setCell ⟨n, 1, none⟩ y) n t #[x, y, c, d] := (h.set 0 x).set 1 y
theorem Blk.fill4b {w : World} {n : Nat} {t : TypeId} {a b c d x y : Value} (h : Blk w n t #[a, b, c, d]) : Blk ((w.setCell ⟨n, 2, none⟩ x).setCell ⟨n, 3, none⟩ y) n t #[a, b, x, y] := (h.set 2 x).set 3 y
theorem Blk.two {w : World} {n : Nat} {t : TypeId} {u v : Value} (h : Blk w n t #[u, v]) : w.cell? ⟨n, 0, none⟩ = some u ∧ w.cell? ⟨n, 1, none⟩ = some v := ⟨h.cell 0, h.cell 1⟩
theorem Blk.four {w : World} {n : Nat} {t : TypeId} {a b c d : Value} (h : Blk w n t #[a, b, c, d]) :
    w.cell? ⟨n, 0, none⟩ = some a ∧ w.cell? ⟨n, 1, none⟩ = some b ∧ w.cell? ⟨n, 2, none⟩ = some c ∧ w.cell? ⟨n, 3, none⟩ = some d := ⟨h.cell 0, h.cell 1, h.cell 2, h.cell 3⟩
theorem keeps {W w1 : World} (hb : Below W.heap.size W w1) {p : Addr} {v : Value} (h : W.cell? p = some v) : w1.cell? p = some v := (hb.cell (World.block_lt_of_cell? W p h)).trans h
theorem _root_.Go.RowKit.Below.step {w a b : World} (h : Below w.heap.size w a) (hb : Below a.heap.size a b) : Below w.heap.size w b := h.trans (hb.mono h.size)
theorem keepsF {W w1 : World} (hb : Below W.heap.size W w1) {p : Addr} {v : Value} (h : W.cell? p = some v) (hf : W.frozen? p = false) : w1.frozen? p = false := (hb.frozen (World.block_lt_of_cell? W p h)).trans hf
theorem bcell {W w1 : World} (hb : Below W.heap.size W w1) : (∀ b o, b < W.heap.size → w1.cell? ⟨b, o, none⟩ = W.cell? ⟨b, o, none⟩) ∧ (∀ b o, b < W.heap.size → w1.frozen? ⟨b, o, none⟩ = W.frozen? ⟨b, o, none⟩) :=
  ⟨fun b o h => hb.cell (p := ⟨b, o, none⟩) h, fun b o h => hb.frozen (p := ⟨b, o, none⟩) h⟩
end Go.Proofs.Ytmehbonjpmlmfaa

namespace Go.Proofs.Ytmehbonjpmlmfaa
open Go.RowKit Go.Proofs.YtmehbonjpmlmfaaW.PrintWords

theorem info_i64 : (Try.prog.info? 3).map (fun i => (i.zero, i.size, i.bytes)) = some (some (.int .i64 0), 1, 8) := by kernel_rfl
/-- a slice value that reads as a list of whole numbers -/
def ListAt (k : IntKind) (w : World) (v : Value) (l : List Int) : Prop := ∃ A c, v = .slice A l.length c ∧ l.length ≤ c ∧ (Kd.int k).C w A l.length l
theorem ListAt.of_R {k : IntKind} {e base : Nat} {ok : Nat → Prop} {w : World} {v : Value} {l : List Int} (h : (Kd.int k).R e w base ok v l) : ListAt k w v l := Kd.R_reads h
theorem ListAt.below {k : IntKind} {w w1 : World} {v : Value} {l : List Int} (h : ListAt k w v l) (hb : Below w.heap.size w w1) : ListAt k w1 v l := by
  obtain ⟨A, c, e, hl, hc⟩ := h
  exact ⟨A, c, e, hl, Kd.C_below hc hb⟩
theorem ListAt.nil (k : IntKind) (w : World) : ListAt k w (.slice none 0 0) [] := ListAt.of_R (Kd.R_nil (Kd.int k) 0 w 0 (fun _ => True))
theorem C_cell {k : IntKind} {w : World} {A : Option Addr} {n : Nat} {l : List Int} (h : (Kd.int k).C w A n l) (i : Nat) (hi : i < n) : ∃ ad, A = some ad ∧ w.cell? (ad.add i) = some (.int k (l.getD i 0)) := by
  obtain ⟨ad, c, e, _, hc, hr⟩ := Kd.C_get h 0 (i : Int) (by omega) (by omega)
  have hc' : c = [.int k (l.getD i 0)] := hc
  refine ⟨ad, e, ?_⟩
  have := hr 0 (.int k (l.getD i 0)) (by rw [hc']; rfl)
  simpa [Kd.int, Kd.scalar] using this
end Go.Proofs.Ytmehbonjpmlmfaa

namespace Go.Proofs.Ytmehbonjpmlmfaa
open Go.RowKit Go.Proofs.YtmehbonjpmlmfaaW.PrintWords

theorem addr_zero (a : Addr) : a.add 0 = a := by
  obtain ⟨b, o, sp⟩ := a
  unfold Addr.add
  split <;> simp_all
/-- a list of leaves as whole numbers -/
def zs (s : List Nat) : List Int := s.map fun (x : Nat) => (x : Int)
theorem zs_length (s : List Nat) : (zs s).length = s.length := by simp [zs]
theorem zs_getD (s : List Nat) (i : Nat) : (zs s).getD i 0 = ((s.getD i 0 : Nat) : Int) := by
  unfold zs
  rw [List.getD_eq_getElem?_getD, List.getD_eq_getElem?_getD, List.getElem?_map]
  cases s[i]? <;> rfl
/-- the first k are leaves, one greater than the other -/
def OkTo (h : Nat) (s : List Nat) (k : Nat) : Prop := ∀ j, j < k → s.getD j 0 < 2 ^ h ∧ (0 < j → s.getD (j - 1) 0 < s.getD j 0)
def SetOk (h : Nat) (s : List Nat) : Prop := s.length ≤ 1024 ∧ OkTo h s s.length
theorem OkTo.zero (h : Nat) (s : List Nat) : OkTo h s 0 := fun _ hj => by omega
theorem OkTo.succ {h : Nat} {s : List Nat} {k : Nat} (H : OkTo h s k) (a : s.getD k 0 < 2 ^ h) (b : 0 < k → s.getD (k - 1) 0 < s.getD k 0) : OkTo h s (k + 1) := by
  intro j hj
  rcases Nat.lt_or_ge j k with l | l
  · exact H j l
  · obtain rfl : j = k := by omega
    exact ⟨a, b⟩
/-- a slice in memory that reads as a list of leaves -/
def Reads (w : World) (A : Option Addr) (s : List Nat) : Prop := (Kd.int .u64).C w A s.length (zs s)
theorem Reads.below {w w1 : World} {A : Option Addr} {s : List Nat} (h : Reads w A s) (hb : Below w.heap.size w w1) : Reads w1 A s := Kd.C_below h hb
theorem Reads.cell {w : World} {A : Option Addr} {s : List Nat} (h : Reads w A s) (i : Nat) (hi : i < s.length) : ∃ ad, A = some ad ∧ w.cell? (ad.add i) = some (.int .u64 ((s.getD i 0 : Nat) : Int)) := by
  obtain ⟨ad, e, hc⟩ := C_cell h i hi
  exact ⟨ad, e, by rw [hc, zs_getD]⟩

theorem Reads.of_cells {w : World} {ad : Addr} {s : List Nat} (hl : s.length ≤ 9223372036854775807) (h : ∀ j, j < s.length → w.cell? (ad.add j) = some (.int .u64 ((s.getD j 0 : Nat) : Int))) : Reads w (some ad) s := by
  refine ⟨zs_length s, hl, fun hn => ⟨ad, rfl, fun j p hp => ⟨[.int .u64 p], rfl, rfl, fun i u hu => ?_⟩⟩⟩
  have hj : j < s.length := by
    rcases Nat.lt_or_ge j s.length with c | c
    · exact c
    · rw [List.getElem?_eq_none (by rw [zs_length]; exact c)] at hp; cases hp
  have e : p = ((s.getD j 0 : Nat) : Int) := by
    have := zs_getD s j
    rw [List.getD_eq_getElem?_getD, hp] at this
    exact this
  match i, hu with
  | 0, hu =>
    simp only [List.getElem?_cons_zero, Option.some.injEq] at hu
    rw [← hu, e]
    have hsz : (Kd.int IntKind.u64).sz = 1 := rfl
    rw [hsz, Nat.mul_one, Nat.add_zero]
    exact h j hj
theorem Reads.nil (w : World) : Reads w none [] := ⟨rfl, by decide, fun h => absurd h (by decide)⟩
set_option maxHeartbeats 400000 in
theorem is_yes {h i : Nat} (h1 : 1 ≤ h) (h2 : h ≤ 32) (hi : i < 2 ^ h) (w : World) :
    Calls Try.prog 63 #[.int .i64 (h : Int), .int .u64 (i : Int)] w fun e w' => e = .returned (.bool true) ∧ w' = w := by
  have hi' := mkHid hi
  clear hi
  go_enter Try.func63, Try.ntmps63
  go_wp2_with (go_at_call 73; ((with_reducible refine (leaf_yes h1 h2 hi'.out (mkHid rfl) _).mono ?_); rintro e w' ⟨rfl, rfl⟩))
  go_ret
  exact ⟨rfl, rfl⟩
set_option maxHeartbeats 400000 in
theorem is_not {h i : Nat} (h1 : 1 ≤ h) (h2 : h ≤ 32) (hi : 2 ^ h ≤ i) (w : World) :
    Calls Try.prog 63 #[.int .i64 (h : Int), .int .u64 (i : Int)] w fun e w' => e = .returned (.bool false) ∧ w' = w := by
  have hi' := mkHid hi
  clear hi
  go_enter Try.func63, Try.ntmps63
  go_wp2_with (go_at_call 73; ((with_reducible refine (leaf_none h1 h2 hi'.out _).mono ?_); rintro e w' ⟨rfl, rfl⟩))
  go_ret
  exact ⟨rfl, rfl⟩
theorem is_any {h i : Nat} {z : Bool} (h1 : 1 ≤ h) (h2 : h ≤ 32) (hz : Hid (decide (i < 2 ^ h) = z)) (w : World) :
    Calls Try.prog 63 #[.int .i64 (h : Int), .int .u64 (i : Int)] w fun e w' => e = .returned (.bool z) ∧ w' = w := by
  rw [← hz.out]
  by_cases c : i < 2 ^ h
  · rw [decide_eq_true c]; exact is_yes h1 h2 c w
  · rw [decide_eq_false c]; exact is_not h1 h2 (by omega) w

theorem root_node {h : Nat} (h1 : 1 ≤ h) (h2 : h ≤ 32) : Node h 1 := ⟨h1, h2, by decide, by rw [dep_one]; omega, by decide⟩
theorem check_root {h : Nat} (h1 : 1 ≤ h) (h2 : h ≤ 32) (w : World) :
    Calls Try.prog 62 #[.int .i64 (h : Int), .int .u64 1] w fun e w' => e = .returned (.int .i64 0) ∧ w' = w := check_yes (root_node h1 h2) w
theorem check_root_no {h : Int} (H : h < 1 ∨ 32 < h) (w : World) :
    Calls Try.prog 62 #[.int .i64 h, .int .u64 1] w fun e w' => e = .returned (.int .i64 1) ∧ w' = w := by
  rcases H with H | H
  · exact check_lo (n := 1) H w
  · exact check_hi (n := 1) H w

set_option maxHeartbeats 400000 in
theorem lcheck_bad {h : Int} (H : h < 1 ∨ 32 < h) (A : Option Addr) (n c : Nat) (w : World) :
    Calls Try.prog 44 #[.int .i64 h, .slice A n c] w fun e w' => e = .returned (.int .i64 1) ∧ w' = w := by
  have H' := mkHid H
  clear H
  go_enter Try.func44, Try.ntmps44
  go_wp2_with (go_at_call 62; ((with_reducible refine (check_root_no H'.out _).mono ?_); rintro e w' ⟨rfl, rfl⟩))
  go_ret
  exact ⟨rfl, rfl⟩
set_option maxHeartbeats 400000 in
theorem lcheck_long {h : Nat} (h1 : 1 ≤ h) (h2 : h ≤ 32) {n : Nat} (hn : 1024 < n) (A : Option Addr) (c : Nat) (w : World) :
    Calls Try.prog 44 #[.int .i64 (h : Int), .slice A n c] w fun e w' => e = .returned (.int .i64 1) ∧ w' = w := by
  have e1 : decide ((1024 : Int) < (n : Int)) = true := decide_eq_true (by omega)
  go_enter Try.func44, Try.ntmps44
  go_wp2_with (go_at_call 62; ((with_reducible refine (check_root h1 h2 _).mono ?_); rintro e w' ⟨rfl, rfl⟩))
  go_ret
  exact ⟨rfl, rfl⟩
/-- Check, of a set or of none: r is what it answers, in a list that is not too long -/
theorem lcheck_walk {h : Nat} (h1 : 1 ≤ h) (h2 : h ≤ 32) {s : List Nat} (hn : s.length ≤ 1024) {r : Int} (hr : Hid ((OkTo h s s.length ∧ r = 0) ∨ (¬ OkTo h s s.length ∧ r = 1))) (A : Option Addr) (c : Nat) (w : World) (hA : Reads w A s) :
    Calls Try.prog 44 #[.int .i64 (h : Int), .slice A s.length c] w fun e w' => e = .returned (.int .i64 r) ∧ w' = w := by
  have e1 : decide ((1024 : Int) < (s.length : Int)) = false := decide_eq_false (by omega)
  have HA := mkHid hA
  clear hA
  generalize hm : s.length = m at *
  have Hm := mkHid hm
  clear hm
  go_enter Try.func44, Try.ntmps44
  go_wp2_with (go_at_call 62; ((with_reducible refine (check_root h1 h2 _).mono ?_); rintro e w' ⟨rfl, hw'⟩; obtain rfl := hw'.symm))
  go_loop [17] (fun i => ∃ k : Nat, k ≤ m ∧ i = .int .i64 (k : Int) ∧ Hid (OkTo h s k)) (fun i => m - (intOf i).toNat)
  case atStart => exact ⟨0, by omega, rfl, OkTo.zero h s⟩
  case round =>
    obtain ⟨k, hk, rfl, hok⟩ := hrel
    by_cases hlt : k < m
    · obtain ⟨ad, rfl, hc⟩ := HA.out.cell k (by rw [Hm.out]; exact hlt)
      obtain ⟨x, hx⟩ : ∃ x, Hid (s.getD k 0 = x) := ⟨_, mkHid rfl⟩
      rw [hx.out] at hc
      obtain ⟨z, hz⟩ : ∃ z, Hid (decide (x < 2 ^ h) = z) := ⟨_, mkHid rfl⟩
      have bad : (z = false ∨ (0 < k ∧ x ≤ s.getD (k - 1) 0)) → r = 1 := by
        intro hb
        rcases hr.out with ⟨a, _⟩ | ⟨_, b⟩
        · exfalso
          have q := a k hlt
          rw [hx.out] at q
          rcases hb with hb | ⟨hb1, hb2⟩
          · rw [hb] at hz
            have := of_decide_eq_false hz.out
            omega
          · have := q.2 hb1; omega
        · exact b
      have BAD := mkHid bad
      clear bad
      cases z
      · obtain rfl : r = 1 := BAD.out (.inl rfl)
        go_wp2_with (go_at_call 63; ((with_reducible refine (is_any h1 h2 hz _).mono ?_); rintro e w' ⟨rfl, hw'⟩; obtain rfl := hw'.symm))
        go_ret
        exact ⟨rfl, rfl⟩
      · by_cases hk0 : k = 0
        · subst hk0
          have hc0 : w.cell? ad = some (.int .u64 (x : Int)) := by rw [← addr_zero ad]; exact hc
          go_wp2_with (go_at_call 63; ((with_reducible refine (is_any h1 h2 hz _).mono ?_); rintro e w' ⟨rfl, hw'⟩; obtain rfl := hw'.symm))
          go_round
          case rel => exact ⟨1, by omega, rfl, hok.out.succ (by rw [hx.out]; exact of_decide_eq_true hz.out) (fun h => by omega)⟩
          case measure => simp [intOf]; omega
        · obtain ⟨ad', e', hc'⟩ := HA.out.cell (k - 1) (by rw [Hm.out]; omega)
          cases e'
          obtain ⟨y, hy⟩ : ∃ y, Hid (s.getD (k - 1) 0 = y) := ⟨_, mkHid rfl⟩
          rw [hy.out] at hc'
          have ek : (k : Int) - 1 = ((k - 1 : Nat) : Int) := by omega
          have hk1 : k - 1 < m := by omega
          have e0 : decide ((0 : Int) < (k : Int)) = true := decide_eq_true (by omega)
          by_cases hxy : x ≤ y
          · obtain rfl : r = 1 := BAD.out (.inr ⟨by omega, by rw [hy.out]; exact hxy⟩)
            have e2 : decide (x ≤ y) = true := decide_eq_true hxy
            generalize k - 1 = k' at *
            go_wp2_with (go_at_call 63; ((with_reducible refine (is_any h1 h2 hz _).mono ?_); rintro e w' ⟨rfl, hw'⟩; obtain rfl := hw'.symm))
            go_ret
            exact ⟨rfl, rfl⟩
          · have e2 : decide (x ≤ y) = false := decide_eq_false hxy
            have hok' := mkHid (hok.out.succ (by rw [hx.out]; exact of_decide_eq_true hz.out) (fun _ => by rw [hx.out, hy.out]; omega))
            generalize k - 1 = k' at *
            go_wp2_with (go_at_call 63; ((with_reducible refine (is_any h1 h2 hz _).mono ?_); rintro e w' ⟨rfl, hw'⟩; obtain rfl := hw'.symm))
            go_round
            case rel => exact ⟨k + 1, by omega, by go_num, hok'⟩
            case measure => simp [intOf]; omega
    · obtain rfl : k = m := by omega
      obtain rfl : r = 0 := by
        rcases hr.out with ⟨_, b⟩ | ⟨a, _⟩
        · exact b
        · exact absurd hok.out a
      go_wp2_with fail
      go_ret
      exact ⟨rfl, rfl⟩
theorem lcheck_yes {h : Nat} (h1 : 1 ≤ h) (h2 : h ≤ 32) {s : List Nat} (hs : SetOk h s) (A : Option Addr) (c : Nat) (w : World) (hA : Reads w A s) :
    Calls Try.prog 44 #[.int .i64 (h : Int), .slice A s.length c] w fun e w' => e = .returned (.int .i64 0) ∧ w' = w :=
  lcheck_walk h1 h2 hs.1 (mkHid (.inl ⟨hs.2, rfl⟩)) A c w hA
theorem lcheck_no {h : Nat} (h1 : 1 ≤ h) (h2 : h ≤ 32) {s : List Nat} (hs : ¬ SetOk h s) (A : Option Addr) (c : Nat) (w : World) (hA : Reads w A s) :
    Calls Try.prog 44 #[.int .i64 (h : Int), .slice A s.length c] w fun e w' => e = .returned (.int .i64 1) ∧ w' = w := by
  by_cases hn : s.length ≤ 1024
  · exact lcheck_walk h1 h2 hn (mkHid (.inr ⟨fun q => hs ⟨hn, q⟩, rfl⟩)) A c w hA
  · exact lcheck_long h1 h2 (by omega) A c w
end Go.Proofs.Ytmehbonjpmlmfaa

namespace Go.Proofs.Ytmehbonjpmlmfaa
open Go.RowKit

set_option maxHeartbeats 400000 in
theorem nan1 (x : Nat) (w : World) : Calls Try.prog 81 #[.int .u64 (x : Int)] w fun e w' => e = .returned (.bool false) ∧ w' = w := by
  go_enter Try.func81, Try.ntmps81
  go_wp2_with fail
  go_ret
  exact ⟨by simp, rfl⟩
set_option maxHeartbeats 400000 in
theorem nan2 (x : Nat) (w : World) : Calls Try.prog 78 #[.int .u64 (x : Int)] w fun e w' => e = .returned (.bool false) ∧ w' = w := by
  go_enter Try.func78, Try.ntmps78
  go_wp2_with fail
  go_ret
  exact ⟨by simp, rfl⟩
set_option maxHeartbeats 400000 in
theorem less_u64 {x y : Nat} {z : Bool} (hz : decide (x < y) = z) (w : World) : Calls Try.prog 77 #[.int .u64 (x : Int), .int .u64 (y : Int)] w fun e w' => e = .returned (.bool z) ∧ w' = w := by
  go_enter Try.func77, Try.ntmps77
  go_wp2_with (go_at_call 81; ((with_reducible refine (nan1 _ _).mono ?_); rintro e w' ⟨rfl, rfl⟩))
  go_ret
  exact ⟨by simp, rfl⟩
/-- the place of a number in a list that grows: below it all are less, from it on none -/
structure Place (s : List Nat) (t k : Nat) : Prop where
  le : k ≤ s.length
  lo : ∀ j, j < k → s.getD j 0 < t
  hi : ∀ j, k ≤ j → j < s.length → t ≤ s.getD j 0

set_option maxRecDepth 100000 in
set_option maxHeartbeats 2000000 in
theorem search_eq {s : List Nat} {t k : Nat} {z : Bool} (hp : Hid (Place s t k)) (hz : Hid (decide (k < s.length ∧ s.getD k 0 = t) = z)) (hlen : s.length ≤ 4611686018427387904) (A : Option Addr) (c : Nat) (w : World) (hA : Reads w A s) :
    Calls Try.prog 70 #[.slice A s.length c, .int .u64 (t : Int)] w fun e w' => e = .returned (.tuple #[.int .i64 (k : Int), .bool z]) ∧ w' = w := by
  have hkl := hp.out.le
  have HA := mkHid hA
  clear hA
  generalize hm : s.length = m at *
  have Hm := mkHid hm
  clear hm
  go_enter Try.func70, Try.ntmps70
  go_wp2_with fail
  go_loop [7, 8] (fun i j => ∃ p q : Nat, p ≤ k ∧ k ≤ q ∧ q ≤ m ∧ i = .int .i64 (p : Int) ∧ j = .int .i64 (q : Int)) (fun i j => (intOf j).toNat - (intOf i).toNat)
  case atStart => exact ⟨0, m, by omega, hkl, by omega, rfl, rfl⟩
  case round =>
    obtain ⟨p, q, h1, h2, h3, rfl, rfl⟩ := hrel
    by_cases hlt : p < q
    · have hh : (p + q) / 2 < m := by omega
      obtain ⟨ad, rfl, hc⟩ := HA.out.cell ((p + q) / 2) (by rw [Hm.out]; exact hh)
      obtain ⟨x, hx⟩ : ∃ x, Hid (s.getD ((p + q) / 2) 0 = x) := ⟨_, mkHid rfl⟩
      rw [hx.out] at hc
      have e1 : IntKind.u64.wrap ((p : Int) + (q : Int)) = ((p + q : Nat) : Int) := by rw [IntKind.wrap_u64]; omega
      have e2 : ((p : Int) + (q : Int)) / 2 = (((p + q) / 2 : Nat) : Int) := by omega
      have hb : p ≤ (p + q) / 2 ∧ (p + q) / 2 < q := by omega
      have hlo : k ≤ (p + q) / 2 → t ≤ x := fun h => by rw [← hx.out]; exact hp.out.hi _ h (by rw [Hm.out]; exact hh)
      have hhi : (p + q) / 2 < k → x < t := fun h => by rw [← hx.out]; exact hp.out.lo _ h
      have Hlo := mkHid hlo
      have Hhi := mkHid hhi
      clear hlo hhi
      generalize hg : (p + q) / 2 = g at *
      clear hg
      by_cases c : x < t
      · have hgk : g < k := by
          rcases Nat.lt_or_ge g k with l | l
          · exact l
          · have := Hlo.out l; omega
        go_wp2_with (go_at_call 77; ((with_reducible refine (less_u64 (decide_eq_true c) _).mono ?_); rintro e w' ⟨rfl, hw'⟩; obtain rfl := hw'.symm))
        go_round
        case rel => exact ⟨g + 1, q, by omega, h2, h3, by go_num, rfl⟩
        case measure => simp [intOf]; omega
      · have hgk : k ≤ g := by
          rcases Nat.lt_or_ge g k with l | l
          · have := Hhi.out l; omega
          · exact l
        go_wp2_with (go_at_call 77; ((with_reducible refine (less_u64 (decide_eq_false c) _).mono ?_); rintro e w' ⟨rfl, hw'⟩; obtain rfl := hw'.symm))
        go_round
        case rel => exact ⟨p, g, h1, hgk, by omega, rfl, rfl⟩
        case measure => simp [intOf]; omega
    · obtain rfl : p = k := by omega
      obtain rfl : q = p := by omega
      by_cases hkm : q < m
      · obtain ⟨ad, rfl, hc⟩ := HA.out.cell q (by rw [Hm.out]; exact hkm)
        obtain ⟨x, hx⟩ : ∃ x, Hid (s.getD q 0 = x) := ⟨_, mkHid rfl⟩
        rw [hx.out] at hc
        have t1 : decide (q < m) = true := decide_eq_true hkm
        have ez : (x == t) = z := by
          have := hz.out
          rw [hx.out] at this
          rw [← this, Bool.eq_iff_iff, beq_iff_eq, decide_eq_true_eq]
          exact ⟨fun h => ⟨hkm, h⟩, fun h => h.2⟩
        have ez' : ((x : Int) == (t : Int)) = z := by rw [← ez, Bool.eq_iff_iff, beq_iff_eq, beq_iff_eq]; omega
        cases z
        all_goals
          go_wp2_with (go_at_call 78; ((with_reducible refine (nan2 _ _).mono ?_); rintro e w' ⟨rfl, hw'⟩; obtain rfl := hw'.symm))
          go_ret2
          exact ⟨by simp, rfl⟩
      · have t1 : decide (q < m) = false := decide_eq_false hkm
        have ez : z = false := by rw [← hz.out, decide_eq_false]; omega
        subst ez
        go_wp2_with fail
        go_ret2
        exact ⟨by simp, rfl⟩
/-- of each set each leaf has its place -/
theorem OkTo.mono {h : Nat} {s : List Nat} {n : Nat} (H : OkTo h s n) : ∀ d i, i + d < n → s.getD i 0 + d ≤ s.getD (i + d) 0 := by
  intro d
  induction d with
  | zero => intro i _; rw [Nat.add_zero, Nat.add_zero]; exact Nat.le_refl _
  | succ d ih =>
    intro i hi
    have a := ih i (by omega)
    have b := (H (i + (d + 1)) hi).2 (by omega)
    rw [show i + (d + 1) - 1 = i + d by omega] at b
    omega
theorem place_ex {h : Nat} {s : List Nat} (H : OkTo h s s.length) (t : Nat) : ∃ k, Place s t k := by
  have step : ∀ n, n ≤ s.length → (∃ k, k ≤ n ∧ (∀ j, j < k → s.getD j 0 < t) ∧ (∀ j, k ≤ j → j < n → t ≤ s.getD j 0)) := by
    intro n
    induction n with
    | zero => intro _; exact ⟨0, by omega, fun j h => by omega, fun j _ h => by omega⟩
    | succ n ih =>
      intro hn
      obtain ⟨k, h1, h2, h3⟩ := ih (by omega)
      by_cases c : s.getD n 0 < t
      · refine ⟨n + 1, by omega, fun j hj => ?_, fun j _ _ => by omega⟩
        have := H.mono (n - j) j (by omega)
        rw [show j + (n - j) = n by omega] at this
        omega
      · refine ⟨k, by omega, h2, fun j hk hj => ?_⟩
        rcases Nat.lt_or_ge j n with l | l
        · exact h3 j hk l
        · obtain rfl : j = n := by omega
          omega
  obtain ⟨k, h1, h2, h3⟩ := step s.length (Nat.le_refl _)
  exact ⟨k, ⟨h1, h2, h3⟩⟩
/-- whether it is in it -/
theorem place_mem {h : Nat} {s : List Nat} (H : OkTo h s s.length) {t k : Nat} (P : Place s t k) : (k < s.length ∧ s.getD k 0 = t) ↔ t ∈ s := by
  constructor
  · rintro ⟨a, b⟩
    rw [List.getD_eq_getElem?_getD, List.getElem?_eq_getElem a] at b
    rw [← b]
    exact List.getElem_mem a
  · intro hm
    obtain ⟨j, hj, e⟩ := List.getElem_of_mem hm
    have e' : s.getD j 0 = t := by rw [List.getD_eq_getElem?_getD, List.getElem?_eq_getElem hj]; exact e
    have a : k ≤ j := by
      rcases Nat.lt_or_ge j k with l | l
      · have := P.lo j l; omega
      · exact l
    have b := P.hi k (Nat.le_refl _) (by omega)
    refine ⟨by omega, ?_⟩
    have := H.mono (j - k) k (by omega)
    rw [show k + (j - k) = j by omega] at this
    omega
end Go.Proofs.Ytmehbonjpmlmfaa

namespace Go.Proofs.Ytmehbonjpmlmfaa
open Go.RowKit

set_option maxHeartbeats 400000 in
theorem find_yes {h : Nat} (h1 : 1 ≤ h) (h2 : h ≤ 32) {s : List Nat} (hs : Hid (SetOk h s)) {t k : Nat} (ht : t < 2 ^ h) {z : Bool} (hp : Hid (Place s t k)) (hz : Hid (decide (k < s.length ∧ s.getD k 0 = t) = z)) (A : Option Addr) (c : Nat) (w : World) (hA : Reads w A s) :
    Calls Try.prog 61 #[.int .i64 (h : Int), .slice A s.length c, .int .u64 (t : Int)] w fun e w' => e = .returned (.tuple #[.int .i64 (k : Int), .bool z, .int .i64 0]) ∧ w' = w := by
  have hlen : s.length ≤ 4611686018427387904 := by have := hs.out.1; omega
  have HA := mkHid hA
  have HT := mkHid ht
  clear hA ht
  go_enter Try.func61, Try.ntmps61
  go_wp2_with first
    | (go_at_call 44; ((with_reducible refine (lcheck_yes h1 h2 hs.out _ _ _ HA.out).mono ?_); rintro e w' ⟨rfl, hw'⟩; obtain rfl := hw'.symm))
    | (go_at_call 63; ((with_reducible refine (is_yes h1 h2 HT.out _).mono ?_); rintro e w' ⟨rfl, hw'⟩; obtain rfl := hw'.symm))
    | (go_at_call 70; ((with_reducible refine (search_eq hp hz hlen _ _ _ HA.out).mono ?_); rintro e w' ⟨rfl, hw'⟩; obtain rfl := hw'.symm))
  go_ret3
  exact ⟨by simp, rfl⟩
set_option maxHeartbeats 400000 in
theorem find_set {h : Nat} (h1 : 1 ≤ h) (h2 : h ≤ 32) {s : List Nat} (hs : Hid (¬ SetOk h s)) (t : Nat) (A : Option Addr) (c : Nat) (w : World) (hA : Reads w A s) :
    Calls Try.prog 61 #[.int .i64 (h : Int), .slice A s.length c, .int .u64 (t : Int)] w fun e w' => e = .returned (.tuple #[.int .i64 0, .bool false, .int .i64 1]) ∧ w' = w := by
  have HA := mkHid hA
  clear hA
  go_enter Try.func61, Try.ntmps61
  go_wp2_with (go_at_call 44; ((with_reducible refine (lcheck_no h1 h2 hs.out _ _ _ HA.out).mono ?_); rintro e w' ⟨rfl, hw'⟩; obtain rfl := hw'.symm))
  go_ret3
  exact ⟨by simp, rfl⟩
set_option maxHeartbeats 400000 in
theorem find_leaf {h : Nat} (h1 : 1 ≤ h) (h2 : h ≤ 32) {s : List Nat} (hs : Hid (SetOk h s)) {t : Nat} (ht : 2 ^ h ≤ t) (A : Option Addr) (c : Nat) (w : World) (hA : Reads w A s) :
    Calls Try.prog 61 #[.int .i64 (h : Int), .slice A s.length c, .int .u64 (t : Int)] w fun e w' => e = .returned (.tuple #[.int .i64 0, .bool false, .int .i64 1]) ∧ w' = w := by
  have HA := mkHid hA
  have HT := mkHid ht
  clear hA ht
  go_enter Try.func61, Try.ntmps61
  go_wp2_with first
    | (go_at_call 44; ((with_reducible refine (lcheck_yes h1 h2 hs.out _ _ _ HA.out).mono ?_); rintro e w' ⟨rfl, hw'⟩; obtain rfl := hw'.symm))
    | (go_at_call 63; ((with_reducible refine (is_not h1 h2 HT.out _).mono ?_); rintro e w' ⟨rfl, hw'⟩; obtain rfl := hw'.symm))
  go_ret3
  exact ⟨by simp, rfl⟩
set_option maxHeartbeats 400000 in
theorem find_bad {h : Int} (H : h < 1 ∨ 32 < h) (n t : Nat) (A : Option Addr) (c : Nat) (w : World) :
    Calls Try.prog 61 #[.int .i64 h, .slice A n c, .int .u64 (t : Int)] w fun e w' => e = .returned (.tuple #[.int .i64 0, .bool false, .int .i64 1]) ∧ w' = w := by
  have H' := mkHid H
  clear H
  go_enter Try.func61, Try.ntmps61
  go_wp2_with (go_at_call 44; ((with_reducible refine (lcheck_bad H'.out _ _ _ _).mono ?_); rintro e w' ⟨rfl, hw'⟩; obtain rfl := hw'.symm))
  go_ret3
  exact ⟨by simp, rfl⟩
/-- what find refuses -/
structure Refuses (h : Int) (s : List Nat) (t : Nat) : Prop where
  no : ¬ ((1 ≤ h ∧ h ≤ 32) ∧ SetOk h.toNat s ∧ t < 2 ^ h.toNat)
theorem find_no {h : Int} {s : List Nat} {t : Nat} (R : Refuses h s t) (A : Option Addr) (c : Nat) (w : World) (hA : Reads w A s) :
    Calls Try.prog 61 #[.int .i64 h, .slice A s.length c, .int .u64 (t : Int)] w fun e w' => e = .returned (.tuple #[.int .i64 0, .bool false, .int .i64 1]) ∧ w' = w := by
  by_cases H : 1 ≤ h ∧ h ≤ 32
  · obtain ⟨n, rfl⟩ : ∃ n : Nat, h = n := ⟨h.toNat, by omega⟩
    have e : (n : Int).toNat = n := by omega
    have r := R.no
    rw [e] at r
    by_cases hs : SetOk n s
    · exact find_leaf (by omega) (by omega) (mkHid hs) (by
        rcases Nat.lt_or_ge t (2 ^ n) with l | l
        · exact absurd ⟨H, hs, l⟩ r
        · exact l) A c w hA
    · exact find_set (by omega) (by omega) (mkHid hs) t A c w hA
  · exact find_bad (by omega) _ t A c w
set_option maxHeartbeats 400000 in
theorem has_no {h : Int} {s : List Nat} {t : Nat} (R : Refuses h s t) (A : Option Addr) (c : Nat) (w : World) (hA : Reads w A s) :
    Calls Try.prog 43 #[.int .i64 h, .slice A s.length c, .int .u64 (t : Int)] w fun e w' => e = .returned (.tuple #[.bool false, .int .i64 1]) ∧ w' = w := by
  have HA := mkHid hA
  clear hA
  go_enter Try.func43, Try.ntmps43
  go_wp2_with (go_at_call 61; ((with_reducible refine (find_no R _ _ _ HA.out).mono ?_); rintro e w' ⟨rfl, hw'⟩; obtain rfl := hw'.symm))
  go_ret2
  exact ⟨by simp, rfl⟩
set_option maxHeartbeats 400000 in
theorem has_yes {h : Nat} (h1 : 1 ≤ h) (h2 : h ≤ 32) {s : List Nat} (hs : Hid (SetOk h s)) {t : Nat} (ht : t < 2 ^ h) {z : Bool} (hz : Hid (decide (t ∈ s) = z)) (A : Option Addr) (c : Nat) (w : World) (hA : Reads w A s) :
    Calls Try.prog 43 #[.int .i64 (h : Int), .slice A s.length c, .int .u64 (t : Int)] w fun e w' => e = .returned (.tuple #[.bool z, .int .i64 0]) ∧ w' = w := by
  obtain ⟨k, hk⟩ := place_ex hs.out.2 t
  have hz' : Hid (decide (k < s.length ∧ s.getD k 0 = t) = z) := by
    unfold Hid
    rw [← hz.out, Bool.eq_iff_iff, decide_eq_true_eq, decide_eq_true_eq]
    exact place_mem hs.out.2 hk
  have HK := mkHid hk
  have HA := mkHid hA
  clear hA hk
  go_enter Try.func43, Try.ntmps43
  go_wp2_with (go_at_call 61; ((with_reducible refine (find_yes h1 h2 hs ht HK hz' _ _ _ HA.out).mono ?_); rintro e w' ⟨rfl, hw'⟩; obtain rfl := hw'.symm))
  go_ret2
  exact ⟨by simp, rfl⟩
end Go.Proofs.Ytmehbonjpmlmfaa

namespace Go.Proofs.Ytmehbonjpmlmfaa
open Go.RowKit

def natCells (s : List Nat) : List Value := s.map fun (x : Nat) => Value.int .u64 (x : Int)
theorem natCells_length (s : List Nat) : (natCells s).length = s.length := by simp [natCells]
theorem natCells_get (s : List Nat) (j : Nat) (h : j < s.length) : (natCells s)[j]? = some (.int .u64 ((s.getD j 0 : Nat) : Int)) := by
  unfold natCells
  rw [List.getElem?_map, List.getD_eq_getElem?_getD, List.getElem?_eq_getElem h]; rfl
theorem info_u64 : (Try.prog.info? 30).map (fun i => (i.zero, i.size, i.bytes)) = some (some (.int .u64 0), 1, 8) := by kernel_rfl
theorem Reads.of_row {w : World} {base : Nat} {v : Value} {s : List Nat} (h : w.ownsRow base 30 1 v s.length (natCells s)) : ∃ A c, v = .slice A s.length c ∧ s.length ≤ c ∧ c ≤ maxLen ∧ Reads w A s := by
  rcases h.2 with ⟨rfl, h0⟩ | ⟨g, cap, cur, rfl, _, _, h1, h2, _⟩
  · obtain rfl : s = [] := List.length_eq_zero_iff.1 h0
    exact ⟨none, 0, rfl, Nat.le_refl _, Nat.zero_le _, Reads.nil w⟩
  · exact ⟨_, cap, rfl, h1, h2, Reads.of_cells (by unfold maxLen at h2; omega) fun j hj => by
      have := h.cells (g := g) rfl j _ (natCells_get s j hj)
      exact this⟩
theorem Reads.news {w wc : World} {ad : Addr} {s : List Nat} (h : Reads w (some ad) s) (hb : Below w.heap.size w wc) : ∀ (j : Nat) (u : Value), (natCells s)[j]? = some u → wc.cell? (ad.add j) = some u := by
  intro j u hj
  have hl : j < s.length := by
    have := (List.getElem?_eq_some_iff.1 hj).1
    rwa [natCells_length] at this
  rw [natCells_get s j hl] at hj
  cases hj
  obtain ⟨ad', e, hc⟩ := h.cell j hl
  cases e
  exact keeps hb hc
theorem natCells_one (s : List Nat) : ∀ u ∈ natCells s, u.oneCell' = true := by
  intro u hu
  obtain ⟨x, _, rfl⟩ := List.mem_map.1 hu
  rfl
set_option maxRecDepth 100000 in
set_option maxHeartbeats 2000000 in
theorem clone_some (ad : Addr) {s : List Nat} (c : Nat) (hs : s.length ≤ 1048576) (w : World) (hA : Reads w (some ad) s) :
    Calls Try.prog 56 #[.slice (some ad) s.length c] w fun e w' => ∃ v, e = .returned v ∧ w'.ownsRow w.heap.size 30 1 v s.length (natCells s) ∧ Below w.heap.size w w' := by
  obtain ⟨i0, hi, hz0, hz1, hz2⟩ := info_parts info_u64
  have HN := mkHid (fun wc hb => Reads.news (wc := wc) hA hb)
  clear hA
  have q22 : ∀ (w : World) (a : Option Addr) (n c n' c' : Nat), (binOp .eql 22 (.slice a n c) (.slice none n' c')).run Try.prog w = .ok (.bool a.isNone) w := fun w a n c n' c' => Lib.run_eql_slice_nil w _ _ a n c n' c' Try.underlying22
  go_enter Try.func56, Try.ntmps56
  go_wp2_with (at_builtin; refine wpList_append_own _ rfl _ _ 22 rfl w.heap.size 30 i0 (.int .u64 0) 1 8 Try.underlying22 hi hz0 hz1 hz2 rfl (by decide) _ _ _ rfl (World.ownsRow_made w #[] 0 (Nat.le_refl _) (Nat.zero_le _) rfl) ad s.length c (natCells s) rfl ?qc1 ?qc2 ?qc3 ?qc4 ?qc5 ?qc6 ?_)
  case qc1 => rw [natCells_length]; omega
  case qc2 => exact HN.out _ ((Below.refl _ w).alloc (Nat.le_refl _) _)
  case qc3 => exact natCells_one s
  case qc4 => unfold maxLen; omega
  case qc5 => omega
  case qc6 => simp
  intro v' w1 hown hgrow hnil
  go_wp2
  go_ret
  refine ⟨v', rfl, by simpa using hown, ?_⟩
  exact ((Below.refl _ w).alloc (Nat.le_refl _) _).grown hgrow (by simp) (by intro k hk; simp [Value.ownBlock] at hk; omega)
set_option maxHeartbeats 1000000 in
theorem clone_nil (n c : Nat) (w : World) :
    Calls Try.prog 56 #[.slice none n c] w fun e w' => e = .returned (.slice none 0 0) ∧ w' = w := by
  have q22 : ∀ (w : World) (a : Option Addr) (n c n' c' : Nat), (binOp .eql 22 (.slice a n c) (.slice none n' c')).run Try.prog w = .ok (.bool a.isNone) w := fun w a n c n' c' => Lib.run_eql_slice_nil w _ _ a n c n' c' Try.underlying22
  go_enter Try.func56, Try.ntmps56
  go_wp2
  go_ret
  exact ⟨rfl, rfl⟩
theorem clone_any (A : Option Addr) {s : List Nat} (c : Nat) (hs : s.length ≤ 1048576) (w : World) (hA : Reads w A s) :
    Calls Try.prog 56 #[.slice A s.length c] w fun e w' => ∃ v, e = .returned v ∧ w'.ownsRow w.heap.size 30 1 v s.length (natCells s) ∧ Below w.heap.size w w' := by
  cases A with
  | some ad => exact clone_some ad c hs w hA
  | none =>
    obtain rfl : s = [] := by
      by_cases h : 0 < s.length
      · obtain ⟨ad, e, _⟩ := hA.cell 0 h
        cases e
      · exact List.length_eq_zero_iff.1 (by omega)
    exact (clone_nil 0 c w).mono fun e w' ⟨h1, h2⟩ => ⟨_, h1, by subst h2; exact World.ownsRow_nil _ _ _ _, by subst h2; exact Below.refl _ _⟩
end Go.Proofs.Ytmehbonjpmlmfaa

namespace Go.Proofs.Ytmehbonjpmlmfaa
open Go.RowKit

theorem getD_sub (s : List Nat) (f t j : Nat) (h : j < t - f) : ((s.drop f).take (t - f)).getD j 0 = s.getD (f + j) 0 := by
  rw [List.getD_eq_getElem?_getD, List.getD_eq_getElem?_getD, List.getElem?_take, if_pos h, List.getElem?_drop]
theorem Reads.subMap {w : World} {A : Option Addr} {s : List Nat} (h : Reads w A s) (f t : Nat) (ht : t ≤ s.length) : Reads w (A.map fun x => x.add f) ((s.drop f).take (t - f)) := by
  have hl : ((s.drop f).take (t - f)).length = t - f := by rw [List.length_take, List.length_drop]; omega
  by_cases hn : 0 < t - f
  · obtain ⟨⟨b, off, sp⟩, rfl, h0⟩ := h.cell 0 (by omega)
    rw [addr_zero] at h0
    have hsp : sp = none := World.cell?_spot h0
    subst hsp
    have hadd : ∀ o i, (⟨b, o, none⟩ : Addr).add i = ⟨b, o + i, none⟩ := fun o i => by unfold Addr.add; split <;> simp_all
    have hm : s.length ≤ 9223372036854775807 := h.2.1
    refine Reads.of_cells (ad := (⟨b, off, none⟩ : Addr).add f) (by omega) fun j hj => ?_
    rw [hl] at hj
    obtain ⟨ad, e, hc⟩ := h.cell (f + j) (by omega)
    cases e
    rw [getD_sub s f t j hj, hadd, hadd, Nat.add_assoc, ← hadd]
    exact hc
  · have e : (s.drop f).take (t - f) = [] := List.length_eq_zero_iff.1 (by omega)
    rw [e]
    exact ⟨rfl, by decide, fun h => absurd h (by decide)⟩
theorem Reads.subEnd {w : World} (A : Option Addr) {s : List Nat} {f t : Nat} (h : t - f = 0) : Reads w A ((s.drop f).take (t - f)) := by
  have e : (s.drop f).take (t - f) = [] := List.length_eq_zero_iff.1 (by rw [List.length_take]; omega)
  rw [e]
  exact ⟨rfl, by decide, fun h => absurd h (by decide)⟩
theorem _root_.Go.World.ownsRow.base {w : World} {b b' : Nat} {e : TypeId} {size : Nat} {v : Value} {n : Nat} {xs : List Value} (h : w.ownsRow b' e size v n xs) (hb : b ≤ b') : w.ownsRow b e size v n xs := by
  refine ⟨h.1, ?_⟩
  rcases h.2 with ⟨h1, h2⟩ | ⟨g, cap, cur, h1, h2, h3⟩
  · exact .inl ⟨h1, h2⟩
  · exact .inr ⟨g, cap, cur, h1, by omega, h3⟩
theorem Reads.of_row' {w : World} {base : Nat} {v : Value} {s : List Nat} (h : w.ownsRow base 30 1 v s.length (natCells s)) : ∃ A c, v = .slice A s.length c ∧ s.length ≤ c ∧ c ≤ maxLen ∧ Reads w A s ∧ (A = none → c = 0) := by
  rcases h.2 with ⟨rfl, h0⟩ | ⟨g, cap, cur, rfl, _, _, h1, h2, _⟩
  · obtain rfl : s = [] := List.length_eq_zero_iff.1 h0
    exact ⟨none, 0, rfl, Nat.le_refl _, Nat.zero_le _, Reads.nil w, fun _ => rfl⟩
  · exact ⟨_, cap, rfl, h1, h2, Reads.of_cells (by unfold maxLen at h2; omega) fun j hj => by
      have := h.cells (g := g) rfl j _ (natCells_get s j hj)
      exact this, fun e => by cases e⟩
theorem place_zero {h : Nat} {s : List Nat} (_ : SetOk h s) : Place s 0 0 := ⟨Nat.zero_le _, fun j hj => by omega, fun j _ _ => Nat.zero_le _⟩
theorem place_last {h last : Nat} {s : List Nat} (H : SetOk h s) (hl : last + 1 = 2 ^ h) : Place s (last + 1) s.length := ⟨Nat.le_refl _, fun j hj => by rw [hl]; exact (H.2 j hj).1, fun j h1 h2 => by omega⟩
theorem Place.mono {s : List Nat} {t t' k k' : Nat} (P : Place s t k) (Q : Place s t' k') (h : t ≤ t') : k ≤ k' := by
  rcases Nat.lt_or_ge k' k with l | l
  · have a := P.lo k' l
    have b := Q.hi k' (Nat.le_refl _) (by have := P.le; omega)
    omega
  · exact l
end Go.Proofs.Ytmehbonjpmlmfaa

namespace Go.Proofs.Ytmehbonjpmlmfaa
open Go.RowKit Go.Proofs.YtmehbonjpmlmfaaW.PrintWords

theorem natCells_append (s t : List Nat) : natCells (s ++ t) = natCells s ++ natCells t := by simp [natCells]
theorem Reads.none_nil {w : World} {s : List Nat} (h : Reads w none s) : s = [] := by
  by_cases c : 0 < s.length
  · obtain ⟨ad, e, _⟩ := h.cell 0 c
    cases e
  · exact List.length_eq_zero_iff.1 (by omega)
theorem run_append_u64 {w : World} (ty : TypeId) (base : Nat) (v : Value) (S : List Nat) (hown : w.ownsRow base 30 1 v S.length (natCells S)) (A : Option Addr) (c : Nat) (L : List Nat)
    (hA : Reads w A L) (z : A = none → c = 0) (b1 : S.length + L.length ≤ 1048576) (hbase : base ≤ w.heap.size) :
    ∃ v' w', (Builtin.append_ #[22, 22] ty #[v, .slice A L.length c]).run Try.prog w = .ok v' w' ∧ w'.ownsRow base 30 1 v' (S ++ L).length (natCells (S ++ L)) ∧ Below base w w' := by
  obtain ⟨i0, hi, hz0, hz1, hz2⟩ := info_parts info_u64
  cases A with
  | none =>
    obtain rfl := hA.none_nil
    obtain rfl := z rfl
    refine ⟨v, w, run_append_owned_none (P := Try.prog) (w := w) base 22 ty 30 i0 1 Try.underlying22 hi v S.length (natCells S) hown, ?_, Below.refl _ _⟩
    rw [List.append_nil]; exact hown
  | some ad =>
    obtain ⟨v', w', hr, h2, h3, h4⟩ := run_append_own (P := Try.prog) w base 22 ty 30 i0 (.int .u64 0) 1 8 Try.underlying22 hi hz0 hz1 hz2 rfl (by decide) v S.length (natCells S) hown ad L.length c (natCells L) (by rw [natCells_length]; omega) (hA.news (Below.refl _ _)) (natCells_one L) (by unfold maxLen; omega) (by omega) hbase
    refine ⟨v', w', hr, by rw [List.length_append, natCells_append]; exact h2, (Below.refl base w).grown h3 hbase fun k e => own_base (h := hown) k e⟩
theorem wpList_append_u64 {ops : Array Oper} {rest : List Oper} {o : Oper} {a : Act} {w : World} {Q : Exit → Act → World → Prop} (hw : Region.wanted o (yielded ops a.tmps) = true) (s x : Operand)
    (ho : o.op = .call { callee := .builtin .append, args := #[s, x], argTypes := #[22, 22] }) (base : Nat) (v : Value) (S : List Nat) (hs : a.eval s = v) (hown : w.ownsRow base 30 1 v S.length (natCells S))
    (A : Option Addr) (c : Nat) (L : List Nat) (hx : a.eval x = .slice A L.length c) (hA : Reads w A L) (z : A = none → c = 0) (b1 : S.length + L.length ≤ 1048576) (hbase : base ≤ w.heap.size)
    (h : ∀ v' w', w'.ownsRow base 30 1 v' (S ++ L).length (natCells (S ++ L)) → Below base w w' → wpList Try.prog ops Q rest (a.put o.dst v') w') : wpList Try.prog ops Q (o :: rest) a w := by
  refine wpList_step fun K hK => ?_
  rw [if_pos hw]
  obtain ⟨v', w', hr, h1, h2⟩ := run_append_u64 o.type base v S hown A c L hA z b1 hbase
  unfold Oper.wp execOp
  simp only [ho, resolve, invoke, builtin, Sem.run_bind, Sem.run_pure, Result.andThen_ok, List.map_toArray, List.map_cons, List.map_nil, hs, hx, hr]
  exact hK _ _ (h v' w' h1 h2)
end Go.Proofs.Ytmehbonjpmlmfaa

namespace Go.Proofs.Ytmehbonjpmlmfaa
open Go.RowKit Go.Proofs.YtmehbonjpmlmfaaW.PrintWords

/-- cells that hold some number of u64 and may be written, in a block that is not older than the base -/
def Mine (w : World) (base : Nat) (A : Option Addr) (n : Nat) : Prop :=
  0 < n → ∃ g, A = some ⟨g, 0, none⟩ ∧ base ≤ g ∧ ∀ j, j < n → (∃ y : Int, w.cell? ⟨g, j, none⟩ = some (.int .u64 y)) ∧ w.frozen? ⟨g, j, none⟩ = false
theorem Mine.of_row {w : World} {base : Nat} {v : Value} {s : List Nat} (h : w.ownsRow base 30 1 v s.length (natCells s)) : ∃ A c, v = .slice A s.length c ∧ s.length ≤ c ∧ Reads w A s ∧ Mine w base A s.length ∧ (A = none → c = 0) := by
  obtain ⟨A, c, rfl, h1, _, h3, h4⟩ := Reads.of_row' h
  refine ⟨A, c, rfl, h1, h3, fun hn => ?_, h4⟩
  rcases h.2 with ⟨hv, h0⟩ | ⟨g, cap, cur, hv, hb, hr⟩
  · omega
  · obtain ⟨e1, _, e3⟩ := Value.slice.inj hv
    subst e1 e3
    refine ⟨g, rfl, hb, fun j hj => ⟨⟨((s.getD j 0 : Nat) : Int), ?_⟩, h.frozenAt j⟩⟩
    rw [h.cellAt j (by omega)]
    exact natCells_get s j hj
theorem Mine.below {w w1 : World} {base n : Nat} {A : Option Addr} (h : Mine w base A n) (hb : Below w.heap.size w w1) : Mine w1 base A n := by
  intro hn
  obtain ⟨g, e, hg, hc⟩ := h hn
  refine ⟨g, e, hg, fun j hj => ?_⟩
  obtain ⟨⟨y, c⟩, f⟩ := hc j hj
  exact ⟨⟨y, keeps hb c⟩, keepsF hb c f⟩
theorem Mine.lt {w : World} {base n : Nat} {A : Option Addr} (h : Mine w base A n) : ∀ g, 0 < n → A = some ⟨g, 0, none⟩ → g < w.heap.size := by
  intro g hn e
  obtain ⟨g', e', _, hc⟩ := h hn
  rw [e] at e'
  cases e'
  obtain ⟨⟨y, c⟩, _⟩ := hc 0 hn
  exact World.block_lt_of_cell? w _ c
/-- a list that lies behind a block stays Mine when that block is written -/
theorem Mine.past {w : World} {base n g : Nat} {A : Option Addr} (h : Mine w base A n) (hg : g < base) (k : Nat) (v : Value) : Mine (w.setCell ⟨g, k, none⟩ v) base A n := by
  intro hn
  obtain ⟨g', rfl, hb, hc⟩ := h hn
  refine ⟨g', rfl, hb, fun j hj => ?_⟩
  obtain ⟨⟨z, c⟩, f⟩ := hc j hj
  exact ⟨⟨z, by rw [World.cell?_setCell_other w _ _ _ (fun e => by have := congrArg Addr.block e; dsimp only at this; omega)]; exact c⟩, by rw [World.frozen?_setCell]; exact f⟩
theorem Mine.set {w : World} {base n g : Nat} (h : Mine w base (some ⟨g, 0, none⟩) n) (k : Nat) (y : Int) : Mine (w.setCell ⟨g, k, none⟩ (.int .u64 y)) base (some ⟨g, 0, none⟩) n := by
  intro hn
  obtain ⟨g', e, hg, hc⟩ := h hn
  cases e
  refine ⟨g, rfl, hg, fun j hj => ?_⟩
  obtain ⟨⟨z, c⟩, f⟩ := hc j hj
  refine ⟨?_, by rw [World.frozen?_setCell]; exact f⟩
  by_cases hk : j = k
  · subst hk
    exact ⟨y, World.cell?_setCell_same _ _ _ c⟩
  · exact ⟨z, by rw [World.cell?_setCell_other w _ _ _ (fun e => hk (congrArg Addr.off e).symm)]; exact c⟩
/-- another list stays Mine when a cell of one is written that lies in another block -/
theorem Mine.other {w : World} {base n : Nat} {A : Option Addr} (h : Mine w base A n) {g : Nat} (hg : ∀ a, A = some a → a.block ≠ g) (k : Nat) (v : Value) : Mine (w.setCell ⟨g, k, none⟩ v) base A n := by
  intro hn
  obtain ⟨g', rfl, hb, hc⟩ := h hn
  have ne := hg _ rfl
  dsimp only at ne
  refine ⟨g', rfl, hb, fun j hj => ?_⟩
  obtain ⟨⟨z, c⟩, f⟩ := hc j hj
  exact ⟨⟨z, by rw [World.cell?_setCell_other w _ _ _ (fun e => ne (congrArg Addr.block e).symm)]; exact c⟩, by rw [World.frozen?_setCell]; exact f⟩
theorem Reads.other {w : World} {A : Option Addr} {s : List Nat} (h : Reads w A s) {b : Nat} (hb : ∀ a, A = some a → a.block < b) {g : Nat} (hg : b ≤ g) (k : Nat) (v : Value) : Reads (w.setCell ⟨g, k, none⟩ v) A s := by
  rcases Nat.eq_zero_or_pos s.length with h0 | h0
  · obtain rfl : s = [] := List.length_eq_zero_iff.1 h0
    exact ⟨rfl, by decide, fun h => absurd h (by decide)⟩
  · obtain ⟨ad, rfl, _⟩ := h.cell 0 h0
    have hB := hb _ rfl
    refine Reads.of_cells h.2.1 fun j hj => ?_
    obtain ⟨ad', e, c⟩ := h.cell j hj
    cases e
    rw [World.cell?_setCell_other _ _ _ _ ?_]
    · exact c
    · intro e
      have := congrArg Addr.block e
      unfold Addr.add at this
      split at this <;> simp at this <;> omega
end Go.Proofs.Ytmehbonjpmlmfaa

namespace Go.Proofs.Ytmehbonjpmlmfaa
open Go.RowKit

def Asc (s : List Nat) : Prop := s.Pairwise (· < ·)
theorem asc_lt {s : List Nat} (H : ∀ j, 0 < j → j < s.length → s.getD (j - 1) 0 < s.getD j 0) (i : Nat) : ∀ d, i + d + 1 < s.length → s.getD i 0 < s.getD (i + d + 1) 0 := by
  intro d
  induction d with
  | zero => intro h; exact H (i + 1) (by omega) h
  | succ d ih =>
    intro h
    have a := ih (by omega)
    have b := H (i + (d + 1) + 1) (by omega) h
    have e : i + (d + 1) + 1 - 1 = i + d + 1 := by omega
    rw [e] at b
    omega
theorem getD_eq {s : List Nat} {j : Nat} (h : j < s.length) : s.getD j 0 = s[j] := by rw [List.getD_eq_getElem?_getD, List.getElem?_eq_getElem h]; rfl
theorem setOk_iff {h : Nat} {s : List Nat} : SetOk h s ↔ s.length ≤ 1024 ∧ Asc s ∧ ∀ x ∈ s, x < 2 ^ h := by
  constructor
  · rintro ⟨h1, h2⟩
    refine ⟨h1, ?_, fun x hx => ?_⟩
    · refine List.pairwise_iff_getElem.2 fun i j hi hj hij => ?_
      have := asc_lt (s := s) (fun j h0 hj => (h2 j hj).2 h0) i (j - i - 1) (by omega)
      rw [show i + (j - i - 1) + 1 = j by omega, getD_eq hi, getD_eq hj] at this
      exact this
    · obtain ⟨j, hj, rfl⟩ := List.mem_iff_getElem.1 hx
      rw [← getD_eq hj]
      exact (h2 j hj).1
  · rintro ⟨h1, h2, h3⟩
    refine ⟨h1, fun j hj => ⟨?_, fun h0 => ?_⟩⟩
    · rw [getD_eq hj]; exact h3 _ (List.getElem_mem hj)
    · rw [getD_eq hj, getD_eq (show j - 1 < s.length by omega)]
      exact List.pairwise_iff_getElem.1 h2 (j - 1) j (by omega) hj (by omega)
theorem asc_ext : ∀ {s t : List Nat}, Asc s → Asc t → (∀ y, y ∈ s ↔ y ∈ t) → s = t
  | [], [], _, _, _ => rfl
  | [], b :: t, _, _, h => by have := (h b).2 (by simp); cases this
  | a :: s, [], _, _, h => by have := (h a).1 (by simp); cases this
  | a :: s, b :: t, hs, ht, h => by
    have hs' := List.pairwise_cons.1 hs
    have ht' := List.pairwise_cons.1 ht
    have e : a = b := by
      rcases List.mem_cons.1 ((h a).1 (by simp)) with q | q
      · exact q
      · rcases List.mem_cons.1 ((h b).2 (by simp)) with r | r
        · exact r.symm
        · have := hs'.1 b r
          have := ht'.1 a q
          omega
    subst e
    rw [asc_ext hs'.2 ht'.2 fun y => ?_]
    constructor
    · intro hy
      have := hs'.1 y hy
      rcases List.mem_cons.1 ((h y).1 (by simp [hy])) with q | q
      · omega
      · exact q
    · intro hy
      have := ht'.1 y hy
      rcases List.mem_cons.1 ((h y).2 (by simp [hy])) with q | q
      · omega
      · exact q

/-- with one more, with one less -/
def addL (s : List Nat) (x : Nat) : List Nat := s.filter (fun y => decide (y < x)) ++ x :: s.filter (fun y => decide (x < y))
def remL (s : List Nat) (x : Nat) : List Nat := s.filter (fun y => decide (y ≠ x))
theorem mem_addL {s : List Nat} {x y : Nat} : y ∈ addL s x ↔ y = x ∨ y ∈ s := by
  unfold addL
  simp only [List.mem_append, List.mem_filter, List.mem_cons, decide_eq_true_eq]
  constructor
  · rintro (⟨a, _⟩ | b | ⟨a, _⟩)
    · exact .inr a
    · exact .inl b
    · exact .inr a
  · rintro (h | h)
    · exact .inr (.inl h)
    · rcases Nat.lt_trichotomy y x with q | q | q
      · exact .inl ⟨h, q⟩
      · exact .inr (.inl q)
      · exact .inr (.inr ⟨h, q⟩)
theorem mem_remL {s : List Nat} {x y : Nat} : y ∈ remL s x ↔ y ∈ s ∧ y ≠ x := by
  unfold remL
  simp only [List.mem_filter, decide_eq_true_eq]
theorem asc_addL {s : List Nat} (h : Asc s) (x : Nat) : Asc (addL s x) := by
  unfold addL Asc
  refine List.pairwise_append.2 ⟨h.filter _, List.pairwise_cons.2 ⟨fun y hy => ?_, h.filter _⟩, fun a ha b hb => ?_⟩
  · exact of_decide_eq_true (List.mem_filter.1 hy).2
  · have h1 : a < x := of_decide_eq_true (List.mem_filter.1 ha).2
    rcases List.mem_cons.1 hb with rfl | hb
    · exact h1
    · have h2 : x < b := of_decide_eq_true (List.mem_filter.1 hb).2
      omega
theorem asc_remL {s : List Nat} (h : Asc s) (x : Nat) : Asc (remL s x) := h.filter _

def ins (s : List Nat) (k x : Nat) : List Nat := s.take k ++ x :: s.drop k
def del (s : List Nat) (k : Nat) : List Nat := s.take k ++ s.drop (k + 1)
theorem ins_length {s : List Nat} {k : Nat} (x : Nat) (h : k ≤ s.length) : (ins s k x).length = s.length + 1 := by unfold ins; simp; omega
theorem del_length {s : List Nat} {k : Nat} (h : k < s.length) : (del s k).length = s.length - 1 := by unfold del; simp; omega
theorem ins_getD {s : List Nat} {k : Nat} (x : Nat) (h : k ≤ s.length) (j : Nat) : (ins s k x).getD j 0 = if j < k then s.getD j 0 else if j = k then x else s.getD (j - 1) 0 := by
  unfold ins
  simp only [List.getD_eq_getElem?_getD]
  have hl : (s.take k).length = k := by rw [List.length_take]; omega
  by_cases a : j < k
  · rw [if_pos a, List.getElem?_append_left (by omega), List.getElem?_take, if_pos a]
  · rw [if_neg a, List.getElem?_append_right (by omega), hl]
    by_cases b : j = k
    · rw [if_pos b, b, Nat.sub_self]; rfl
    · rw [if_neg b, show j - k = (j - k - 1) + 1 by omega, List.getElem?_cons_succ, List.getElem?_drop, show k + (j - k - 1) = j - 1 by omega]
theorem del_getD {s : List Nat} {k : Nat} (h : k < s.length) (j : Nat) : (del s k).getD j 0 = if j < k then s.getD j 0 else s.getD (j + 1) 0 := by
  unfold del
  simp only [List.getD_eq_getElem?_getD]
  have hl : (s.take k).length = k := by rw [List.length_take]; omega
  by_cases a : j < k
  · rw [if_pos a, List.getElem?_append_left (by omega), List.getElem?_take, if_pos a]
  · rw [if_neg a, List.getElem?_append_right (by omega), hl, List.getElem?_drop, show k + 1 + (j - k) = j + 1 by omega]
theorem place_take {s : List Nat} {x k : Nat} (P : Place s x k) : ∀ y ∈ s.take k, y < x := by
  intro y hy
  obtain ⟨j, hj, rfl⟩ := List.mem_iff_getElem.1 hy
  have hj' : j < k ∧ j < s.length := by rw [List.length_take] at hj; omega
  have := P.lo j hj'.1
  rw [getD_eq hj'.2] at this
  simpa using this
theorem place_drop {s : List Nat} {x k : Nat} (P : Place s x k) : ∀ y ∈ s.drop k, x ≤ y := by
  intro y hy
  obtain ⟨j, hj, rfl⟩ := List.mem_iff_getElem.1 hy
  have hj' : k + j < s.length := by rw [List.length_drop] at hj; omega
  have := P.hi (k + j) (by omega) hj'
  rw [getD_eq hj'] at this
  simpa using this
theorem mem_place {s : List Nat} {x k : Nat} (P : Place s x k) (A : Asc s) : (k < s.length ∧ s.getD k 0 = x) ↔ x ∈ s := by
  constructor
  · rintro ⟨h1, h2⟩
    rw [getD_eq h1] at h2
    rw [← h2]; exact List.getElem_mem h1
  · intro h
    obtain ⟨j, hj, e⟩ := List.mem_iff_getElem.1 h
    have hk : k ≤ j := by
      rcases Nat.lt_or_ge j k with c | c
      · have := P.lo j c
        rw [getD_eq hj] at this
        omega
      · exact c
    refine ⟨by omega, ?_⟩
    have h1 := P.hi k (Nat.le_refl _) (by omega)
    rw [getD_eq (show k < s.length by omega)] at h1 ⊢
    rcases Nat.eq_or_lt_of_le hk with c | c
    · subst c; exact e
    · have := List.pairwise_iff_getElem.1 A k j (by omega) hj c
      omega
theorem ins_addL {s : List Nat} {x k : Nat} (P : Place s x k) (h : x ∉ s) : ins s k x = addL s x := by
  unfold ins addL
  have e := (List.take_append_drop k s).symm
  have f1 : s.filter (fun y => decide (y < x)) = s.take k := by
    rw [e, List.filter_append, List.filter_eq_self.2 (fun y hy => decide_eq_true (place_take P y (by simpa using hy))), List.filter_eq_nil_iff.2 (fun y hy => by
      have := place_drop P y (by simpa using hy)
      simp; omega)]
    simp
  have f2 : s.filter (fun y => decide (x < y)) = s.drop k := by
    rw [e, List.filter_append, List.filter_eq_nil_iff.2 (fun y hy => by
      have := place_take P y (by simpa using hy)
      simp; omega), List.filter_eq_self.2 (fun y hy => by
        have hy' : y ∈ s.drop k := by simpa using hy
        have h1 := place_drop P y hy'
        have h2 : y ≠ x := fun c => h (by rw [← c]; exact List.mem_of_mem_drop hy')
        exact decide_eq_true (by omega))]
    simp
  rw [f1, f2]
theorem asc_del {s : List Nat} (A : Asc s) (k : Nat) : Asc (del s k) := by
  have e := (List.take_append_drop k s).symm
  have A' : Asc (s.take k ++ s.drop k) := by rw [← e]; exact A
  obtain ⟨a1, a2, a3⟩ := List.pairwise_append.1 A'
  refine List.pairwise_append.2 ⟨a1, ?_, fun x hx y hy => ?_⟩
  · rw [show s.drop (k + 1) = (s.drop k).drop 1 by rw [List.drop_drop]]
    exact a2.sublist (List.drop_sublist _ _)
  · refine a3 x hx y ?_
    rw [show s.drop (k + 1) = (s.drop k).drop 1 by rw [List.drop_drop]] at hy
    exact List.mem_of_mem_drop hy
theorem del_remL {s : List Nat} {k : Nat} (A : Asc s) (hk : k < s.length) : del s k = remL s (s.getD k 0) := by
  have e : s = s.take k ++ s[k] :: s.drop (k + 1) := by rw [List.getElem_cons_drop]; exact (List.take_append_drop k s).symm
  have A' : Asc (s.take k ++ s[k] :: s.drop (k + 1)) := by rw [← e]; exact A
  obtain ⟨a1, a2, a3⟩ := List.pairwise_append.1 A'
  obtain ⟨a4, a5⟩ := List.pairwise_cons.1 a2
  rw [getD_eq hk]
  refine asc_ext (asc_del A k) (asc_remL A _) fun y => ?_
  rw [mem_remL]
  constructor
  · intro hy
    rcases List.mem_append.1 hy with h | h
    · have := a3 y h s[k] List.mem_cons_self
      exact ⟨List.mem_of_mem_take h, by omega⟩
    · have := a4 y h
      exact ⟨List.mem_of_mem_drop h, by omega⟩
  · rintro ⟨h1, h2⟩
    rw [e] at h1
    rcases List.mem_append.1 h1 with h | h
    · exact List.mem_append.2 (.inl h)
    · rcases List.mem_cons.1 h with h | h
      · exact absurd h h2
      · exact List.mem_append.2 (.inr h)
theorem place_ex' {h : Nat} {s : List Nat} (H : SetOk h s) (x : Nat) : ∃ k, Place s x k := place_ex H.2 x
theorem addL_length {h : Nat} {s : List Nat} {x : Nat} (H : SetOk h s) (hx : x ∉ s) : (addL s x).length = s.length + 1 := by
  obtain ⟨k, P⟩ := place_ex' H x
  rw [← ins_addL P hx, ins_length x P.le]
theorem remL_length {h : Nat} {s : List Nat} {x : Nat} (H : SetOk h s) (hx : x ∈ s) : (remL s x).length + 1 = s.length := by
  obtain ⟨k, P⟩ := place_ex' H x
  have A := (setOk_iff.1 H).2.1
  obtain ⟨h1, h2⟩ := (mem_place P A).2 hx
  rw [← h2, ← del_remL A h1, del_length h1]
  omega
theorem setOk_addL {h : Nat} {s : List Nat} {x : Nat} (H : SetOk h s) (hx : x ∉ s) (hl : s.length < 1024) (hb : x < 2 ^ h) : SetOk h (addL s x) := by
  obtain ⟨_, A, B⟩ := setOk_iff.1 H
  refine setOk_iff.2 ⟨by rw [addL_length H hx]; omega, asc_addL A x, fun y hy => ?_⟩
  rcases mem_addL.1 hy with rfl | q
  · exact hb
  · exact B y q
theorem setOk_remL {h : Nat} {s : List Nat} {x : Nat} (H : SetOk h s) : SetOk h (remL s x) := by
  obtain ⟨l, A, B⟩ := setOk_iff.1 H
  refine setOk_iff.2 ⟨Nat.le_trans (List.length_filter_le _ _) l, asc_remL A x, fun y hy => B y (mem_remL.1 hy).1⟩
theorem rem_add {s : List Nat} {x : Nat} (A : Asc s) (hx : x ∉ s) : remL (addL s x) x = s := by
  refine asc_ext (asc_remL (asc_addL A x) x) A fun y => ?_
  rw [mem_remL, mem_addL]
  constructor
  · rintro ⟨a | a, b⟩
    · exact absurd a b
    · exact a
  · intro h
    exact ⟨.inr h, fun c => hx (by rw [← c]; exact h)⟩
theorem add_add {s : List Nat} (A : Asc s) (x y : Nat) : addL (addL s x) y = addL (addL s y) x := by
  refine asc_ext (asc_addL (asc_addL A x) y) (asc_addL (asc_addL A y) x) fun z => ?_
  simp only [mem_addL]
  constructor <;> (rintro (a | a | a) <;> simp [a])
end Go.Proofs.Ytmehbonjpmlmfaa

namespace Go.Proofs.Ytmehbonjpmlmfaa
open Go.RowKit

theorem setCells_block (g : Nat) (e : TypeId) : ∀ (vs : List Value) (o : Nat) (w : World) (cur : Array Value), w.heap[g]? = some (.cells cur e (0, 0)) → ∃ cur', (w.setCells g o vs).heap[g]? = some (.cells cur' e (0, 0)) ∧ cur'.size = cur.size
  | [], _, _, cur, h => ⟨cur, h, rfl⟩
  | v :: r, o, w, cur, h => by
    rw [World.setCells]
    obtain ⟨c, h1, h2⟩ := setCells_block g e r (o + 1) _ _ (heap_setCell_same w g o cur e v h)
    exact ⟨c, h1, by simpa using h2⟩
theorem setCells_below {base g : Nat} (hg : base ≤ g) : ∀ (vs : List Value) (o : Nat) (w w0 : World), Below base w0 w → Below base w0 (w.setCells g o vs)
  | [], _, _, _, h => h
  | v :: r, o, w, w0, h => by rw [World.setCells]; exact setCells_below hg r (o + 1) _ _ (h.setCell hg _)
theorem own_intro {w : World} {base g c n : Nat} {cur : Array Value} {L : List Nat} (hb : base ≤ g) (hg : w.heap[g]? = some (.cells cur 30 (0, 0))) (hs : cur.size = c) (hl : L.length = n) (hn : n ≤ c) (hm : c ≤ maxLen)
    (hc : ∀ j, j < n → w.cell? ⟨g, j, none⟩ = some (.int .u64 ((L.getD j 0 : Nat) : Int))) : w.ownsRow base 30 1 (.slice (some ⟨g, 0, none⟩) n c) n (natCells L) := by
  subst hl
  refine ⟨by rw [natCells_length, Nat.mul_one], .inr ⟨g, c, cur, rfl, hb, hg, hn, hm, by rw [hs, Nat.mul_one], ?_⟩⟩
  apply List.ext_getElem?
  intro j
  by_cases hj : j < L.length
  · rw [List.getElem?_take, if_pos (by omega), natCells_get L j hj]
    have := hc j hj
    rw [cell_of_row w g j cur _ (0, 0) hg] at this
    simpa using this
  · rw [List.getElem?_eq_none (by simp; omega), List.getElem?_eq_none (by rw [natCells_length]; omega)]
theorem natCells_drop (s : List Nat) (k : Nat) : (natCells s).drop k = natCells (s.drop k) := by simp [natCells]
theorem natCells_take (s : List Nat) (k : Nat) : (natCells s).take k = natCells (s.take k) := by simp [natCells]
theorem natCells_get' (s : List Nat) (j : Nat) (h : j < (natCells s).length) : (natCells s)[j] = .int .u64 ((s.getD j 0 : Nat) : Int) := by
  have h' : j < s.length := by rwa [natCells_length] at h
  have := natCells_get s j h'
  rw [List.getElem?_eq_getElem h] at this
  exact Option.some.inj this
/-- one more in the middle: what stood from there on is moved up, then the place is written -/
theorem own_ins {w w1 : World} {base g c i x : Nat} {s : List Nat} {cur : Array Value} (hb : base ≤ g) (hg : w.heap[g]? = some (.cells cur 30 (0, 0))) (hs : cur.size = c) (hn : s.length + 1 ≤ c) (hm : c ≤ maxLen) (hi : i ≤ s.length)
    (hc : ∀ j, j < i → w.cell? ⟨g, j, none⟩ = some (.int .u64 ((s.getD j 0 : Nat) : Int))) (h1 : w1 = (w.setCells g (i + 1) (natCells (s.drop i))).setCells g i (natCells [x])) :
    w1.ownsRow base 30 1 (.slice (some ⟨g, 0, none⟩) (s.length + 1) c) (s.length + 1) (natCells (ins s i x)) ∧ ∀ w0, Below base w0 w → Below base w0 w1 := by
  subst h1
  obtain ⟨c1, q1, z1⟩ := setCells_block g 30 (natCells (s.drop i)) (i + 1) w cur hg
  obtain ⟨c2, q2, z2⟩ := setCells_block g 30 (natCells [x]) i _ c1 q1
  have hl := ins_length x hi
  have hdl : (natCells (s.drop i)).length = s.length - i := by rw [natCells_length, List.length_drop]
  have hsome : ∀ j, j < c → (w.cell? ⟨g, j, none⟩).isSome = true := fun j hj => by
    rw [cell_of_row w g j cur _ (0, 0) hg, Array.getElem?_eq_getElem (by omega)]; rfl
  have hsome1 : ∀ j, j < c → ((w.setCells g (i + 1) (natCells (s.drop i))).cell? ⟨g, j, none⟩).isSome = true := fun j hj => by
    rw [cell_of_row _ g j c1 _ (0, 0) q1, Array.getElem?_eq_getElem (by omega)]; rfl
  refine ⟨?_, fun w0 h => setCells_below hb _ _ _ _ (setCells_below hb _ _ _ _ h)⟩
  refine own_intro hb q2 (by omega) hl (by omega) hm fun j hj => ?_
  rw [ins_getD x hi]
  by_cases a : j = i
  · subst a
    rw [if_neg (Nat.lt_irrefl _), if_pos rfl]
    have := World.cell?_setCells_in g (natCells [x]) j (w.setCells g (j + 1) (natCells (s.drop j))) (fun t ht => hsome1 _ (by rw [natCells_length] at ht; simp at ht; omega)) 0 (by rw [natCells_length]; simp)
    exact this
  · rw [World.cell?_setCells_out g _ i _ _ (fun _ _ => by rw [natCells_length]; simp; omega)]
    by_cases b : j < i
    · rw [if_pos b, World.cell?_setCells_out g _ (i + 1) _ _ (fun _ _ => .inl (by show j < i + 1; omega))]
      exact hc j b
    · rw [if_neg b, if_neg a]
      have := World.cell?_setCells_in g (natCells (s.drop i)) (i + 1) w (fun t ht => hsome _ (by rw [hdl] at ht; omega)) (j - (i + 1)) (by rw [hdl]; omega)
      rw [show i + 1 + (j - (i + 1)) = j by omega] at this
      rw [this, natCells_get']
      congr 3
      rw [List.getD_eq_getElem?_getD, List.getElem?_drop, show i + (j - (i + 1)) = j - 1 by omega, ← List.getD_eq_getElem?_getD]
/-- one more in the middle, the other way round: the place is written, then what stands behind it -/
theorem own_ins2 {w w1 : World} {base g c i x : Nat} {s : List Nat} {cur : Array Value} (hb : base ≤ g) (hg : w.heap[g]? = some (.cells cur 30 (0, 0))) (hs : cur.size = c) (hn : s.length + 1 ≤ c) (hm : c ≤ maxLen) (hi : i ≤ s.length)
    (hc : ∀ j, j < i → w.cell? ⟨g, j, none⟩ = some (.int .u64 ((s.getD j 0 : Nat) : Int))) (h1 : w1 = (w.setCells g i (natCells [x])).drew.setCells g (i + 1) (natCells (s.drop i))) :
    w1.ownsRow base 30 1 (.slice (some ⟨g, 0, none⟩) (s.length + 1) c) (s.length + 1) (natCells (ins s i x)) ∧ ∀ w0, Below base w0 w → Below base w0 w1 := by
  subst h1
  obtain ⟨c1, q1, z1⟩ := setCells_block g 30 (natCells [x]) i w cur hg
  obtain ⟨c2, q2, z2⟩ := setCells_block g 30 (natCells (s.drop i)) (i + 1) (w.setCells g i (natCells [x])).drew c1 q1
  have hl := ins_length x hi
  have hdl : (natCells (s.drop i)).length = s.length - i := by rw [natCells_length, List.length_drop]
  have hsome : ∀ j, j < c → (w.cell? ⟨g, j, none⟩).isSome = true := fun j hj => by
    rw [cell_of_row w g j cur _ (0, 0) hg, Array.getElem?_eq_getElem (by omega)]; rfl
  have hsome1 : ∀ j, j < c → ((w.setCells g i (natCells [x])).drew.cell? ⟨g, j, none⟩).isSome = true := fun j hj => by
    rw [cell_of_row (w.setCells g i (natCells [x])).drew g j c1 _ (0, 0) q1, Array.getElem?_eq_getElem (by omega)]; rfl
  refine ⟨?_, fun w0 h => setCells_below hb _ _ _ _ (setCells_below hb _ _ _ _ h).drew⟩
  refine own_intro hb q2 (by omega) hl (by omega) hm fun j hj => ?_
  rw [ins_getD x hi]
  by_cases a : j ≤ i
  · rw [World.cell?_setCells_out g _ (i + 1) _ _ (fun _ _ => .inl (by show j < i + 1; omega))]
    show (w.setCells g i (natCells [x])).cell? _ = _
    by_cases b : j = i
    · subst b
      rw [if_neg (Nat.lt_irrefl _), if_pos rfl]
      have := World.cell?_setCells_in g (natCells [x]) j w (fun t ht => hsome _ (by rw [natCells_length] at ht; simp at ht; omega)) 0 (by rw [natCells_length]; simp)
      exact this
    · rw [if_pos (by omega), World.cell?_setCells_out g _ i _ _ (fun _ _ => .inl (by show j < i; omega))]
      exact hc j (by omega)
  · rw [if_neg (by omega), if_neg (by omega)]
    have := World.cell?_setCells_in g (natCells (s.drop i)) (i + 1) (w.setCells g i (natCells [x])).drew (fun t ht => hsome1 _ (by rw [hdl] at ht; omega)) (j - (i + 1)) (by rw [hdl]; omega)
    rw [show i + 1 + (j - (i + 1)) = j by omega] at this
    rw [this, natCells_get']
    congr 3
    rw [List.getD_eq_getElem?_getD, List.getElem?_drop, show i + (j - (i + 1)) = j - 1 by omega, ← List.getD_eq_getElem?_getD]
/-- one less: what stood behind it is moved down, and the last place is cleared -/
theorem own_del {w w1 : World} {base g c i : Nat} {s : List Nat} {cur : Array Value} (hb : base ≤ g) (hg : w.heap[g]? = some (.cells cur 30 (0, 0))) (hs : cur.size = c) (hn : s.length ≤ c) (hm : c ≤ maxLen) (hi : i < s.length)
    (hc : ∀ j, j < i → w.cell? ⟨g, j, none⟩ = some (.int .u64 ((s.getD j 0 : Nat) : Int))) (z : List Value) (h1 : w1 = (w.setCells g i (natCells (s.drop (i + 1)))).setCells g (s.length - 1) z) :
    w1.ownsRow base 30 1 (.slice (some ⟨g, 0, none⟩) (s.length - 1) c) (s.length - 1) (natCells (del s i)) ∧ ∀ w0, Below base w0 w → Below base w0 w1 := by
  subst h1
  obtain ⟨c1, q1, z1⟩ := setCells_block g 30 (natCells (s.drop (i + 1))) i w cur hg
  obtain ⟨c2, q2, z2⟩ := setCells_block g 30 z (s.length - 1) _ c1 q1
  have hl := del_length hi
  have hdl : (natCells (s.drop (i + 1))).length = s.length - (i + 1) := by rw [natCells_length, List.length_drop]
  have hsome : ∀ j, j < c → (w.cell? ⟨g, j, none⟩).isSome = true := fun j hj => by
    rw [cell_of_row w g j cur _ (0, 0) hg, Array.getElem?_eq_getElem (by omega)]; rfl
  refine ⟨?_, fun w0 h => setCells_below hb _ _ _ _ (setCells_below hb _ _ _ _ h)⟩
  refine own_intro hb q2 (by omega) hl (by omega) hm fun j hj => ?_
  rw [del_getD hi, World.cell?_setCells_out g _ (s.length - 1) _ _ (fun _ _ => .inl hj)]
  by_cases b : j < i
  · rw [if_pos b, World.cell?_setCells_out g _ i _ _ (fun _ _ => .inl b)]
    exact hc j b
  · rw [if_neg b]
    have := World.cell?_setCells_in g (natCells (s.drop (i + 1))) i w (fun t ht => hsome _ (by rw [hdl] at ht; omega)) (j - i) (by rw [hdl]; omega)
    rw [show i + (j - i) = j by omega] at this
    rw [this, natCells_get']
    congr 3
    rw [List.getD_eq_getElem?_getD, List.getElem?_drop, show i + 1 + (j - i) = j + 1 by omega, ← List.getD_eq_getElem?_getD]
end Go.Proofs.Ytmehbonjpmlmfaa

namespace Go.Proofs.Ytmehbonjpmlmfaa
open Go.RowKit Go.Lib Go.Shelf

theorem size_u64 : (Try.prog.info? 30).map (·.size) = some 1 := by kernel_rfl
theorem sizeOf_u64 : ∀ w, (Go.sizeOf 30).run Try.prog w = .ok 1 w := by
  obtain ⟨i0, hi, hz0, hz1, hz2⟩ := info_parts info_u64
  intro w
  simp [Go.sizeOf, typeInfo, hi, hz1]
set_option maxHeartbeats 4000000 in
set_option maxRecDepth 100000 in
/-- in the middle, and there is room -/
theorem insert_shift (b off n c i vb voff m vc : Nat) (cs vs : List Value) (w : World) (hi : i < n) (hm : 0 < m) (hroom : n + m ≤ c) (hc63 : c ≤ 9223372036854775807) (hvb : vb ≠ b)
    (hcl : cs.length = n) (hvl : vs.length = m)
    (hcs : ∀ j v, cs[j]? = some v → w.cell? ⟨b, off + j, none⟩ = some v) (hsp : ∀ j, j < n + m → (w.cell? ⟨b, off + j, none⟩).isSome = true) (hfz : ∀ j, j < n + m → w.frozen? ⟨b, off + j, none⟩ = false)
    (hvs : ∀ j v, vs[j]? = some v → w.cell? ⟨vb, voff + j, none⟩ = some v) (h1c : ∀ v ∈ cs, v.oneCell' = true) (h1v : ∀ v ∈ vs, v.oneCell' = true)
    (tA tB : TypeId) (kA kB : Nat) (hsa : w.shape? vb = some (tA, kA)) (hsb : w.shape? b = some (tB, kB)) (hkB : kB ≠ 0) (hfa : w.frozen? ⟨vb, voff, none⟩ = false) (hfe : w.frozen? ⟨vb, kA, none⟩ = false) :
    Calls Try.prog 68 #[.slice (some ⟨b, off, none⟩) n c, .int .i64 i, .slice (some ⟨vb, voff, none⟩) m vc] w fun e w' =>
      e = .returned (.slice (some ⟨b, off, none⟩) (n + m) c) ∧ w' = (w.drew.setCells b (off + (i + m)) (cs.drop i)).setCells b (off + i) vs := by
  have hz1 : ¬ ((m : Int) = 0) := by omega
  have hz2 : ¬ ((i : Int) = (n : Int)) := by omega
  have hov : ∀ lb cb, (callFunc 75 #[.slice (some ⟨vb, voff, none⟩) m vc, .slice (some ⟨b, off + (i + m), none⟩) lb cb]).run Try.prog w = .ok (.value (.bool false)) w := fun lb cb => by
    rw [run_callFunc_extern Try.func75 (by kernel_rfl) (by kernel_rfl) (by kernel_rfl) (e := Extern.SlicesOverlaps.overlaps #[22, 22] #[4]) (by kernel_rfl),
      Lib.run_overlaps_apart w 22 4 30 Try.underlying22 1 sizeOf_u64 ⟨vb, voff, none⟩ ⟨b, off + (i + m), none⟩ m vc lb cb hvb tA tB kA kB hsa hsb hkB hfa hfe]
    rfl
  have hdl : (cs.drop i).length = n - i := by rw [List.length_drop, hcl]
  have mixed : Try.prog.follows .mixedOrders = true := by kernel_rfl
  have hw1 : IntKind.i64.wrap ((i : Int) + (m : Int)) = (i : Int) + (m : Int) := by rw [IntKind.wrap_i64]; omega
  have hb1 : (0 : Int) ≤ (i : Int) + (m : Int) := by omega
  have hin : i ≤ n := by omega
  have htn : ((i : Int) + (m : Int)).toNat = i + m := by omega
  have hb2 : ¬ (c = i + m) := by omega
  have hb3 : (i : Int) ≤ (n : Int) + (m : Int) := by omega
  have hb4 : ¬ (c = i) := by omega
  have hcp1 : ∀ ty dc sc, (Builtin.copy_ #[22, 22] ty #[.slice (some ⟨b, off + (i + m), none⟩) (n + m - (i + m)) dc, .slice (some ⟨b, off + i, none⟩) (n + m - i) sc]).run Try.prog w.drew = .ok (goInt (cs.drop i).length) (w.drew.setCells b (off + (i + m)) (cs.drop i)) := fun ty dc sc =>
    run_copy_cells w.drew _ _ ty 30 b (off + (i + m)) (n + m - (i + m)) dc ⟨b, off + i, none⟩ (n + m - i) sc (cs.drop i) Try.underlying22 size_u64 (by rw [hdl]; simp only [Nat.min_def]; split <;> omega)
      (fun j v hj => by rw [Addr.add_lit, Nat.add_assoc]; exact hcs (i + j) v (by rwa [List.getElem?_drop] at hj))
      (fun j hj => by rw [Nat.add_assoc]; exact hsp _ (by omega)) (fun j hj => by rw [Nat.add_assoc]; exact hfz _ (by omega)) (fun v hv => h1c v (List.mem_of_mem_drop hv))
  obtain ⟨W1, hW1⟩ : ∃ W1, W1 = w.drew.setCells b (off + (i + m)) (cs.drop i) := ⟨_, rfl⟩
  have hsp1 : ∀ k, k < n + m → (W1.cell? ⟨b, off + k, none⟩).isSome = true := fun k hk => by
    rw [hW1]
    exact isSome_setCells b _ _ _ (fun j hj => by rw [Nat.add_assoc]; exact hsp _ (by omega)) _ (hsp k hk)
  have hcp2 : ∀ (W : World), (∀ x, W.cell? x = W1.cell? x) → (∀ x, W.frozen? x = W1.frozen? x) → ∀ ty dc, (Builtin.copy_ #[22, 22] ty #[.slice (some ⟨b, off + i, none⟩) (n + m - i) dc, .slice (some ⟨vb, voff, none⟩) m vc]).run Try.prog W = .ok (goInt vs.length) (W.setCells b (off + i) vs) := fun W hWc hWf ty dc =>
    run_copy_cells W _ _ ty 30 b (off + i) (n + m - i) dc ⟨vb, voff, none⟩ m vc vs Try.underlying22 size_u64 (by rw [hvl]; simp only [Nat.min_def]; split <;> omega)
      (fun j v hj => by
        rw [Addr.add_lit, hWc, hW1, World.cell?_setCells_out b _ _ _ _ (fun h _ => absurd h hvb)]
        exact hvs j v hj)
      (fun j hj => by rw [hWc, Nat.add_assoc]; exact hsp1 _ (by omega)) (fun j hj => by rw [hWf, hW1, World.frozen?_setCells, Nat.add_assoc]; exact hfz _ (by omega)) h1v
  rw [← hW1] at hcp1
  go_enter Try.func68, Try.ntmps68
  go_wp2_with (simp only [hov])
  go_region_law_o (refine step_copy_runI rfl _ _ 22 22 rfl _ _ (by simp [Act.eval, Act.put]) (by simp [Act.eval, Act.put]) (hcp1 _ _ _) ?_)
  go_wp2_with (at_builtin; refine wpList_copy_runI _ rfl _ _ 22 22 rfl _ _ rfl rfl (hcp2 _ (fun _ => rfl) (fun _ => rfl) _ _) ?_)
  go_ret
  first | exact ⟨rfl, rfl⟩ | exact ⟨rfl, by rw [hW1]⟩
set_option maxHeartbeats 4000000 in
set_option maxRecDepth 100000 in
/-- in the middle, and there is no room: a new row -/
theorem insert_grow (b off n c i vb voff m vc : Nat) (cs vs : List Value) (w : World) (hi : i < n) (hm : 0 < m) (hnc : n ≤ c) (hroom : c < n + m) (hbig : (n + m) * 8 ≤ 140737488355328)
    (hcl : cs.length = n) (hvl : vs.length = m)
    (hcs : ∀ j v, cs[j]? = some v → w.cell? ⟨b, off + j, none⟩ = some v)
    (hvs : ∀ j v, vs[j]? = some v → w.cell? ⟨vb, voff + j, none⟩ = some v) (h1c : ∀ v ∈ cs, v.oneCell' = true) (h1v : ∀ v ∈ vs, v.oneCell' = true) :
    Calls Try.prog 68 #[.slice (some ⟨b, off, none⟩) n c, .int .i64 i, .slice (some ⟨vb, voff, none⟩) m vc] w fun e w' =>
      e = .returned (.slice (some ⟨w.heap.size, 0, none⟩) (n + m) (grownCap w (n + m) c 30)) ∧
      w' = (((w.alloc (.cells ((cs.take i).toArray ++ Builtin.zeroCells (Value.int .u64 0).cells (n + m - i) ++ Builtin.zeroCells (Value.int .u64 0).cells (grownCap w (n + m) c 30 - (n + m))) 30)).drew.setCells w.heap.size i vs).drew).setCells w.heap.size (i + m) (cs.drop i) := by
  have mixed : Try.prog.follows .mixedOrders = true := by kernel_rfl
  obtain ⟨i0, hi0, hz0, hzs, hzb⟩ := info_parts info_u64
  have hz1 : ¬ ((m : Int) = 0) := by omega
  have hz2 : ¬ ((i : Int) = (n : Int)) := by omega
  have hz3 : (c : Int) < (n : Int) + (m : Int) := by omega
  have hbw : b < w.heap.size := World.block_lt_of_cell? w _ (hcs 0 _ (List.getElem?_eq_getElem (by omega)))
  have hvw : vb < w.heap.size := World.block_lt_of_cell? w _ (hvs 0 _ (List.getElem?_eq_getElem (by omega)))
  have hkk : (n : Int) + (m : Int) - (i : Int) = ((n + m - i : Nat) : Int) := by omega
  have hik : i + (n + m - i) = n + m := by omega
  have hold : (Builtin.firstCells i0.size i (.slice (some ⟨b, off, none⟩) i c)).run Try.prog w.drew = .ok (cs.take i).toArray w.drew := by
    rw [hzs]
    exact run_firstCells_some w.drew 1 i ⟨b, off, none⟩ i c (cs.take i) (by rw [List.length_take]; omega) (fun j v hj => by
      rw [Addr.add_lit]
      rw [List.getElem?_take] at hj
      split at hj
      · exact hcs j v hj
      · cases hj)
  have hrz : ∀ ty, (Builtin.append_ #[22, 3] ty #[.slice (some ⟨b, off, none⟩) i c, .int .i64 ((n : Int) + (m : Int) - (i : Int))]).run Try.prog w =
      .ok (.slice (some ⟨w.heap.size, 0, none⟩) (n + m) (grownCap w (n + m) c 30)) (w.drew.alloc (.cells ((cs.take i).toArray ++ Builtin.zeroCells (Value.int .u64 0).cells (n + m - i) ++ Builtin.zeroCells (Value.int .u64 0).cells (grownCap w (n + m) c 30 - (n + m))) 30)) := fun ty => by
    have h := Lib.run_append_grow_zeros w 22 3 ty 30 i0 _ .i64 .i64 Try.underlying22 Try.underlying3 hi0 hz0 (some ⟨b, off, none⟩) i c (cs.take i) hold (n + m - i) (by omega) (by omega) (by omega) (by omega) (by rw [hzb]; omega) (by rw [hzb, hik]; exact growslice_fits hroom hbig)
    rw [hik] at h
    rw [hkk]
    exact h
  obtain ⟨G, hG⟩ : ∃ G, G = grownCap w (n + m) c 30 := ⟨_, rfl⟩
  obtain ⟨ROW, hROW⟩ : ∃ ROW : Array Value, ROW = (cs.take i).toArray ++ Builtin.zeroCells (Value.int .u64 0).cells (n + m - i) ++ Builtin.zeroCells (Value.int .u64 0).cells (G - (n + m)) := ⟨_, rfl⟩
  rw [← hG] at hrz ⊢
  rw [← hROW] at hrz ⊢
  have hRl : n + m ≤ ROW.size := by
    rw [hROW]
    simp [Builtin.zeroCells, Value.cells]
    omega
  obtain ⟨W1, hW1⟩ : ∃ W1, W1 = w.drew.alloc (.cells ROW 30) := ⟨_, rfl⟩
  rw [← hW1] at hrz
  have hN : ∀ j, j < n + m → (W1.cell? ⟨w.heap.size, j, none⟩).isSome = true := fun j hj => by
    rw [hW1, World.cell?_alloc_at (w := w.drew) ROW _ w.heap.size j rfl, Array.getElem?_eq_getElem (by omega)]; rfl
  have hNf : ∀ j, W1.frozen? ⟨w.heap.size, j, none⟩ = false := fun j => by rw [hW1]; exact World.frozen?_alloc_at (w := w.drew) ROW _ w.heap.size j rfl
  have hOb : ∀ j v, w.cell? ⟨b, j, none⟩ = some v → W1.cell? ⟨b, j, none⟩ = some v := fun j v h => by rw [hW1, World.cell?_alloc_past (w := w.drew) _ b j hbw]; exact h
  have hOv : ∀ j v, w.cell? ⟨vb, j, none⟩ = some v → W1.cell? ⟨vb, j, none⟩ = some v := fun j v h => by rw [hW1, World.cell?_alloc_past (w := w.drew) _ vb j hvw]; exact h
  have hcpA : ∀ (W : World), (∀ x, W.cell? x = W1.cell? x) → (∀ x, W.frozen? x = W1.frozen? x) → ∀ ty dc, (Builtin.copy_ #[22, 22] ty #[.slice (some ⟨w.heap.size, i, none⟩) (n + m - i) dc, .slice (some ⟨vb, voff, none⟩) m vc]).run Try.prog W = .ok (goInt vs.length) (W.setCells w.heap.size i vs) := fun W hWc hWf ty dc =>
    run_copy_cells W _ _ ty 30 w.heap.size i (n + m - i) dc ⟨vb, voff, none⟩ m vc vs Try.underlying22 size_u64 (by rw [hvl]; simp only [Nat.min_def]; split <;> omega)
      (fun j v hj => by rw [Addr.add_lit, hWc]; exact hOv _ v (hvs j v hj))
      (fun j hj => by rw [hWc]; exact hN _ (by omega)) (fun j hj => by rw [hWf]; exact hNf _) h1v
  have hGn : n + m ≤ G := by rw [hG]; exact grownCap_ge w _ _ _
  have hG63 : G ≤ 9223372036854775807 := by
    have := grownCap_le_maxLen w (n + m) c 30 (by unfold maxLen; omega)
    rw [← hG] at this
    unfold maxLen at this
    omega
  have hGi : ¬ (G = i) := by omega
  have hGim : ¬ (G = i + m) := by omega
  have hci : ¬ (c = i) := by omega
  have hbN : b ≠ w.heap.size := by omega
  have hdl : (cs.drop i).length = n - i := by rw [List.length_drop, hcl]
  have hcpB : ∀ (W : World), (∀ x, W.cell? x = (W1.setCells w.heap.size i vs).cell? x) → (∀ x, W.frozen? x = (W1.setCells w.heap.size i vs).frozen? x) → ∀ ty dc sc, (Builtin.copy_ #[22, 22] ty #[.slice (some ⟨w.heap.size, i + m, none⟩) (n + m - (i + m)) dc, .slice (some ⟨b, off + i, none⟩) (n - i) sc]).run Try.prog W = .ok (goInt (cs.drop i).length) (W.setCells w.heap.size (i + m) (cs.drop i)) := fun W hWc hWf ty dc sc =>
    run_copy_cells W _ _ ty 30 w.heap.size (i + m) (n + m - (i + m)) dc ⟨b, off + i, none⟩ (n - i) sc (cs.drop i) Try.underlying22 size_u64 (by rw [hdl]; simp only [Nat.min_def]; split <;> omega)
      (fun j v hj => by
        rw [Addr.add_lit, hWc, World.cell?_setCells_out _ _ _ _ _ (fun h _ => absurd h hbN), Nat.add_assoc]
        exact hOb _ v (hcs (i + j) v (by rwa [List.getElem?_drop] at hj)))
      (fun j hj => by rw [hWc]; exact isSome_setCells _ _ _ _ (fun t ht => hN _ (by omega)) _ (hN _ (by omega)))
      (fun j hj => by rw [hWf, World.frozen?_setCells]; exact hNf _) (fun v hv => h1c v (List.mem_of_mem_drop hv))
  subst hW1
  have hE1 : ∀ x, ((w.alloc (.cells ROW 30)).drew).cell? x = (w.drew.alloc (.cells ROW 30)).cell? x := fun x => rfl
  have hE2 : ∀ x, ((w.alloc (.cells ROW 30)).drew).frozen? x = (w.drew.alloc (.cells ROW 30)).frozen? x := fun x => rfl
  have hF1 : ∀ x, (((w.alloc (.cells ROW 30)).drew.setCells w.heap.size i vs).drew).cell? x = ((w.drew.alloc (.cells ROW 30)).setCells w.heap.size i vs).cell? x := fun x => rfl
  have hF2 : ∀ x, (((w.alloc (.cells ROW 30)).drew.setCells w.heap.size i vs).drew).frozen? x = ((w.drew.alloc (.cells ROW 30)).setCells w.heap.size i vs).frozen? x := fun x => rfl
  have hw1 : IntKind.i64.wrap ((i : Int) + (m : Int)) = (i : Int) + (m : Int) := by rw [IntKind.wrap_i64]; omega
  have hb1 : (0 : Int) ≤ (i : Int) + (m : Int) := by omega
  have hin : i ≤ n := by omega
  have htn : ((i : Int) + (m : Int)).toNat = i + m := by omega
  have hb3 : (i : Int) ≤ (n : Int) := by omega
  clear hkk hik hold hROW hG hRl
  go_enter Try.func68, Try.ntmps68
  go_wp2_with (first
    | (at_builtin; refine Lib.wpList_append_run _ rfl _ _ _ _ rfl _ _ rfl rfl _ _ (hrz _) ?_)
    | (at_builtin; refine wpList_copy_runI _ rfl _ _ 22 22 rfl _ _ rfl rfl (hcpA _ hE1 hE2 _ _) ?_)
    | (at_builtin; refine wpList_copy_runI _ rfl _ _ 22 22 rfl _ _ rfl rfl (hcpB _ (fun _ => rfl) (fun _ => rfl) _ _ _) ?_))
  go_region_law_o (refine step_copy_runI rfl _ _ 22 22 rfl (.slice (some ⟨w.heap.size, i + m, none⟩) (n + m - (i + m)) (G - (i + m))) (.slice (some ⟨b, off + i, none⟩) (n - i) (c - i)) (by simp [Act.eval, Act.put]) (by simp [Act.eval, Act.put]) (hcpB _ hF1 hF2 3 (G - (i + m)) (c - i)) ?_)
  go_wp2
  go_ret
  exact ⟨rfl, rfl⟩
set_option maxHeartbeats 4000000 in
set_option maxRecDepth 100000 in
/-- at the end, of a row of its own, nil or not -/
theorem insert_end_m (base : Nat) (v : Value) (s : List Nat) (n vb m : Nat) (xs : List Nat) (w : World) (hn : s.length = n) (hs : n ≤ 1048576) (hm0 : 0 < m) (hm : m ≤ 1048576) (hx : xs.length = m) (hbase : base ≤ w.heap.size) (hown : w.ownsRow base 30 1 v n (natCells s)) (hvs : ∀ j u, (natCells xs)[j]? = some u → w.cell? ⟨vb, 0 + j, none⟩ = some u) :
    Calls Try.prog 68 #[v, .int .i64 (n : Int), .slice (some ⟨vb, 0, none⟩) m m] w fun e w' =>
      ∃ v', e = .returned v' ∧ w'.ownsRow base 30 1 v' (n + m) (natCells (s ++ xs)) ∧ Below base w w' := by
  obtain ⟨i0, hi, hz0, hz1, hz2⟩ := info_parts info_u64
  have HN := mkHid (fun (wc : World) (hb : Below w.heap.size w wc) => fun (j : Nat) (u : Value) (hu : (natCells xs)[j]? = some u) => show wc.cell? ((⟨vb, 0, none⟩ : Addr).add j) = some u from by rw [Addr.add_lit]; exact keeps hb (hvs j u hu))
  have HO := mkHid hown
  have HG : Hid (∀ (W : World) (v' : Value), W.ownsRow base 30 1 v' (n + m) (natCells s ++ natCells xs) → W.ownsRow base 30 1 v' (n + m) (natCells (s ++ xs))) := mkHid fun W v' h => by rw [natCells_append]; exact h
  have HK := mkHid hown.lt
  have hxl : (natCells xs).length = m * 1 := by rw [natCells_length, hx, Nat.mul_one]
  have hz1' : ¬ ((m : Int) = 0) := by omega
  clear hvs
  rcases hown.2 with ⟨rfl, h0⟩ | ⟨g, cap, cur, rfl, hbg, hg, hnc, hcm, hcs, _⟩
  · subst h0
    clear hown
    go_enter Try.func68, Try.ntmps68
    go_wp2_with (at_builtin; refine wpList_append_own _ rfl _ _ 22 rfl base 30 i0 (.int .u64 0) 1 8 Try.underlying22 hi hz0 hz1 hz2 rfl (by decide) _ _ _ rfl HO.out ⟨vb, 0, none⟩ m m (natCells xs) rfl hxl (HN.out _ (Below.refl _ _)) (natCells_one _) (by unfold maxLen; omega) (by omega) hbase ?_)
    intro v' w1 hown' hgrow hnil
    go_wp2
    go_ret
    exact ⟨v', rfl, HG.out _ _ (by rw [Nat.zero_add]; exact hown'), (Below.refl base w).grown hgrow hbase fun k e => (HK.out k e).1⟩
  · have hcm' : cap ≤ 9223372036854775807 := by unfold maxLen at hcm; omega
    have hn63 : (n : Int) ≤ cap := by omega
    clear hown hg hcs
    go_enter Try.func68, Try.ntmps68
    go_wp2_with (at_builtin; refine wpList_append_own _ rfl _ _ 22 rfl base 30 i0 (.int .u64 0) 1 8 Try.underlying22 hi hz0 hz1 hz2 rfl (by decide) _ _ _ rfl HO.out ⟨vb, 0, none⟩ m m (natCells xs) rfl hxl (HN.out _ (Below.refl _ _)) (natCells_one _) (by unfold maxLen; omega) (by omega) hbase ?_)
    all_goals intro v' w1 hown' hgrow hnil
    all_goals go_wp2
    all_goals go_ret
    all_goals exact ⟨v', rfl, HG.out _ _ hown', (Below.refl base w).grown hgrow hbase fun k e => (HK.out k e).1⟩
/-- of a row of its own: one number put in -/
theorem insert_own (base : Nat) (v : Value) (s : List Nat) (i vb x : Nat) (w : World) (hs : s.length ≤ 1048576) (hi : i ≤ s.length) (hbase : base ≤ w.heap.size) (hown : w.ownsRow base 30 1 v s.length (natCells s)) (hne : ∀ g, v.ownBlock = some g → vb ≠ g) (hvb : w.heap[vb]? = some (.cells #[.int .u64 (x : Int)] 30 (0, 0))) :
    Calls Try.prog 68 #[v, .int .i64 (i : Int), .slice (some ⟨vb, 0, none⟩) 1 1] w fun e w' =>
      ∃ v', e = .returned v' ∧ w'.ownsRow base 30 1 v' (s.length + 1) (natCells (ins s i x)) ∧ Below base w w' := by
  have hvs : ∀ j u, (natCells [x])[j]? = some u → w.cell? ⟨vb, 0 + j, none⟩ = some u := by
    intro j u hu
    match j, hu with
    | 0, hu => cases hu; rw [cell_of_row w vb (0 + 0) _ _ (0, 0) hvb]; rfl
  by_cases he : i = s.length
  · subst he
    have e : ins s s.length x = s ++ [x] := by unfold ins; rw [List.take_length, List.drop_length]
    rw [e]
    exact insert_end_m base v s s.length vb 1 [x] w rfl hs (by decide) (by decide) rfl hbase hown hvs
  · rcases hown.2 with ⟨rfl, h0⟩ | ⟨g, cap, cur, rfl, hbg, hg, hnc, hcm, hcs, _⟩
    · omega
    · have ne := hne g rfl
      have hcm' : cap ≤ 9223372036854775807 := by unfold maxLen at hcm; omega
      rw [Nat.mul_one] at hcs
      have hcell : ∀ j u, (natCells s)[j]? = some u → w.cell? ⟨g, 0 + j, none⟩ = some u := fun j u hu => by
        have := hown.cells rfl j u hu
        rwa [Addr.add_lit] at this
      by_cases hroom : s.length + 1 ≤ cap
      · refine (insert_shift g 0 s.length cap i vb 0 1 1 (natCells s) (natCells [x]) w (by omega) (by decide) hroom hcm' ne (natCells_length s) rfl hcell
          (fun j hj => by rw [Nat.zero_add, cell_of_row w g j cur _ (0, 0) hg, Array.getElem?_eq_getElem (by omega)]; rfl) (fun j _ => by rw [Nat.zero_add]; exact frozen_of_row w g j cur _ hg) hvs (natCells_one s) (natCells_one _)
          30 30 1 cap (by unfold World.shape?; rw [hvb]; rfl) (by unfold World.shape?; rw [hg, ← hcs]) (by omega) (frozen_of_row w vb 0 _ _ hvb) (frozen_of_row w vb 1 _ _ hvb)).mono ?_
        rintro e w' ⟨rfl, hw'⟩
        rw [Nat.zero_add, Nat.zero_add, natCells_drop] at hw'
        obtain ⟨h1, h2⟩ := own_ins (w := w.drew) (s := s) (i := i) hbg hg hcs hroom hcm (by omega) (fun j hj => by
          have := hcell j _ (natCells_get s j (by omega))
          rwa [Nat.zero_add] at this) hw'
        exact ⟨_, rfl, h1, h2 w (Below.refl _ _).drew⟩
      · refine (insert_grow g 0 s.length cap i vb 0 1 1 (natCells s) (natCells [x]) w (by omega) (by decide) hnc (by omega) (by omega) (natCells_length s) rfl hcell hvs (natCells_one s) (natCells_one _)).mono ?_
        rintro e w' ⟨rfl, hw'⟩
        have hG1 := grownCap_ge w (s.length + 1) cap 30
        have hG2 := grownCap_le_maxLen w (s.length + 1) cap 30 (by unfold maxLen; omega)
        generalize grownCap w (s.length + 1) cap 30 = G at *
        rw [natCells_drop] at hw'
        obtain ⟨h1, h2⟩ := own_ins2 (w := (w.alloc (.cells (((natCells s).take i).toArray ++ Builtin.zeroCells (Value.int .u64 0).cells (s.length + 1 - i) ++ Builtin.zeroCells (Value.int .u64 0).cells (G - (s.length + 1))) 30)).drew) (s := s) (i := i) (base := base) (c := G) hbase (heap_alloc_new w _) (by
            simp only [Array.size_append, List.size_toArray, List.length_take, size_zeroCells, natCells_length]
            show min i s.length + (s.length + 1 - i) * 1 + (G - (s.length + 1)) * 1 = G
            omega) hG1 hG2 (by omega) (fun j hj => by
          show (w.alloc _).cell? _ = _
          rw [World.cell?_alloc_at _ _ w.heap.size j rfl, Array.append_assoc, Array.getElem?_append_left (by simp [natCells_length]; omega)]
          simp only [List.getElem?_toArray, List.getElem?_take, if_pos hj]
          exact natCells_get s j (by omega)) hw'
        exact ⟨_, rfl, h1, h2 w (((Below.refl _ _).alloc hbase _).drew)⟩

set_option maxHeartbeats 4000000 in
set_option maxRecDepth 1000000 in
/-- slices.Delete of one element -/
theorem delete_one (b n cap i : Nat) (cs : List Value) (w : World) (hi : i < n) (hcl : cs.length = n) (hcap : n ≤ cap) (_hm : cap ≤ 9223372036854775807) (hcs : ∀ j v, cs[j]? = some v → w.cell? ⟨b, j, none⟩ = some v)
    (hfz : ∀ j, j < n → w.frozen? ⟨b, j, none⟩ = false) (h1c : ∀ v ∈ cs, v.oneCell' = true) :
    Calls Try.prog 69 #[.slice (some ⟨b, 0, none⟩) n cap, .int .i64 (i : Int), .int .i64 ((i + 1 : Nat) : Int)] w fun e w' =>
      e = .returned (.slice (some ⟨b, 0, none⟩) (n - 1) cap) ∧ w' = (w.drew.setCells b i (cs.drop (i + 1))).setCells b (n - 1) [.int .u64 0] := by
  have mixed : Try.prog.follows .mixedOrders = true := by kernel_rfl
  obtain ⟨i0, hi0, hz0, hz1, hz2⟩ := info_parts info_u64
  have v0 : ∀ w, (zeroValue 30).run Try.prog w = .ok (.int .u64 0) w := fun w => by kernel_rfl
  obtain ⟨j, hj⟩ : ∃ j, j = i + 1 := ⟨_, rfl⟩
  rw [← hj]
  obtain ⟨news, hnews⟩ : ∃ news, news = cs.drop j := ⟨_, rfl⟩
  have hlen : news.length = n - j := by rw [hnews, List.length_drop, hcl]
  have hsome : ∀ k, k < n → (w.cell? ⟨b, k, none⟩).isSome = true := fun k hk => by rw [hcs k _ (List.getElem?_eq_getElem (by omega))]; rfl
  obtain ⟨A, hA, hsrc⟩ : ∃ A : Addr, (if cap = j then some (⟨b, 0, none⟩ : Addr) else some ⟨b, j, none⟩) = some A ∧ Hid (∀ t u, news[t]? = some u → w.drew.cell? (A.add t) = some u) := by
    by_cases h : cap = j
    · refine ⟨⟨b, 0, none⟩, by simp [h], mkHid fun t u hu => ?_⟩
      have h0 : news.length = 0 := by rw [hlen]; omega
      rw [List.length_eq_zero_iff.1 h0] at hu
      simp at hu
    · refine ⟨⟨b, j, none⟩, by simp [h], mkHid fun t u hu => ?_⟩
      rw [hnews, List.getElem?_drop] at hu
      rw [Addr.add_lit]
      exact hcs _ u hu
  have s1 : Hid (news.length = (n - j) * 1) := mkHid (by rw [Nat.mul_one]; exact hlen)
  have s2 : Hid (∀ u ∈ news, u.oneCell' = true) := mkHid (fun u hu => h1c u (List.mem_of_mem_drop (by rw [← hnews]; exact hu)))
  have s3 : Hid (∀ t, t < news.length → (w.drew.cell? ⟨b, 0 + i * 1 + t, none⟩).isSome = true ∧ w.drew.frozen? ⟨b, 0 + i * 1 + t, none⟩ = false) := mkHid (fun t ht => by
    rw [hlen] at ht
    rw [Nat.mul_one, Nat.zero_add]
    exact ⟨hsome _ (by omega), hfz _ (by omega)⟩)
  obtain ⟨W1, hW1⟩ : ∃ W1, W1 = w.drew.setCells b (0 + i * 1) news := ⟨_, rfl⟩
  have hS1 : ∀ k, k < n → (W1.cell? ⟨b, k, none⟩).isSome = true ∧ W1.frozen? ⟨b, k, none⟩ = false := fun k hk => by
    rw [hW1]
    exact ⟨isSome_setCells b _ _ _ (fun t ht => (s3.out t ht).1) k (hsome k hk), by rw [World.frozen?_setCells]; exact hfz k hk⟩
  have hcl' : ∀ ty, (Builtin.clear_ #[22] ty #[.slice (some ⟨b, i + (n - j), none⟩) (n - (i + (n - j))) (cap - (i + (n - j)))]).run Try.prog W1 = .ok (.tuple #[]) (W1.setCells b (i + (n - j)) (List.replicate (n - (i + (n - j))) (.int .u64 0))) :=
    fun ty => Lib.run_clear_slice W1 _ _ ty _ Try.underlying22 v0 rfl rfl b (i + (n - j)) _ _ (by omega) (fun t ht => (hS1 _ (by omega)).1) (fun t ht => (hS1 _ (by omega)).2)
  have hW : Hid (W1 = w.drew.setCells b (0 + i * 1) news) := mkHid hW1
  have hic : i ≤ cap := by omega
  have hjc : j ≤ cap := by omega
  have hijn : ¬ ((i : Int) = (j : Int)) := by omega
  have hjn : j ≤ n := by omega
  have hij : i ≤ j := by omega
  have HE : Hid (n - 1 = i + (n - j) ∧ n - (i + (n - j)) = 1 ∧ news = cs.drop j) := mkHid ⟨by omega, by omega, hnews⟩
  clear hW1 hnews hlen hj hS1 hsome hfz hcs hi
  go_enter Try.func69, Try.ntmps69
  go_wp2_with fail
  go_region_law_o (refine step_append_room rfl (.tmp 22) (.tmp 25) 22 rfl 30 i0 1 Try.underlying22 hi0 hz1 b 0 i cap (by simp [Act.eval, Act.put]) A (n - j) (cap - j) news (by simp [Act.eval, Act.put]) s1.out hsrc.out s2.out (by omega) s3.out ?_; rw [← hW.out])
  go_wp2
  go_ret
  obtain ⟨e1, e2, e3⟩ := HE.out
  exact ⟨by rw [e1]; rfl, by rw [hW.out, e1, e2, ← e3, Nat.zero_add, Nat.mul_one]; rfl⟩

/-- of a row of its own: one number taken out -/
theorem delete_own (base : Nat) (v : Value) (s : List Nat) (i : Nat) (w : World) (hi : i < s.length) (hown : w.ownsRow base 30 1 v s.length (natCells s)) :
    Calls Try.prog 69 #[v, .int .i64 (i : Int), .int .i64 ((i + 1 : Nat) : Int)] w fun e w' =>
      ∃ v', e = .returned v' ∧ w'.ownsRow base 30 1 v' (s.length - 1) (natCells (del s i)) ∧ Below base w w' := by
  rcases hown.2 with ⟨rfl, h0⟩ | ⟨g, cap, cur, rfl, hbg, hg, hnc, hcm, hcs, _⟩
  · omega
  · have hcm' : cap ≤ 9223372036854775807 := by unfold maxLen at hcm; omega
    rw [Nat.mul_one] at hcs
    have hcell : ∀ j u, (natCells s)[j]? = some u → w.cell? ⟨g, j, none⟩ = some u := fun j u hu => by
      have := hown.cells rfl j u hu
      rwa [Addr.add_lit, Nat.zero_add] at this
    refine (delete_one g s.length cap i (natCells s) w hi (natCells_length s) hnc hcm' hcell (fun j _ => frozen_of_row w g j cur _ hg) (natCells_one s)).mono ?_
    rintro e w' ⟨rfl, hw'⟩
    rw [natCells_drop] at hw'
    obtain ⟨h1, h2⟩ := own_del (w := w.drew) (s := s) (i := i) hbg hg hcs hnc hcm hi (fun j hj => hcell j _ (natCells_get s j (by omega))) _ hw'
    exact ⟨_, rfl, h1, h2 w (Below.refl _ _).drew⟩
end Go.Proofs.Ytmehbonjpmlmfaa

namespace Go.Proofs.Ytmehbonjpmlmfaa
open Go.RowKit

theorem mem_dec {s : List Nat} {t k : Nat} {z : Bool} (P : Place s t k) (A : Asc s) (hz : decide (t ∈ s) = z) : decide (k < s.length ∧ s.getD k 0 = t) = z := by
  rw [← hz]
  by_cases c : t ∈ s
  · rw [decide_eq_true c]; exact decide_eq_true ((mem_place P A).2 c)
  · rw [decide_eq_false c]; exact decide_eq_false fun q => c ((mem_place P A).1 q)
set_option maxRecDepth 100000 in
set_option maxHeartbeats 2000000 in
theorem with_yes {h : Nat} (h1 : 1 ≤ h) (h2 : h ≤ 32) {s : List Nat} (hs : Hid (SetOk h s)) {t : Nat} (ht : t < 2 ^ h) (hx : Hid (t ∉ s)) (hl : s.length < 1024) (A : Option Addr) (c : Nat) (w : World) (hA : Reads w A s) :
    Calls Try.prog 54 #[.int .i64 (h : Int), .slice A s.length c, .int .u64 (t : Int)] w fun e w' =>
      ∃ v, e = .returned (.tuple #[v, .int .i64 0]) ∧ w'.ownsRow w.heap.size 30 1 v (addL s t).length (natCells (addL s t)) ∧ Below w.heap.size w w' := by
  obtain ⟨k, P⟩ := place_ex' hs.out t
  have hp := mkHid P
  have hz := mkHid (mem_dec P (setOk_iff.1 hs.out).2.1 (decide_eq_false hx.out))
  have hk := P.le
  have HL : Hid ((addL s t).length = s.length + 1 ∧ ins s k t = addL s t) := mkHid ⟨addL_length hs.out hx.out, ins_addL P hx.out⟩
  have HA := mkHid hA
  have HT := mkHid ht
  have hl' : ¬ ((s.length : Int) = 1024) := by omega
  clear hA ht P
  go_enter Try.func54, Try.ntmps54
  go_wp2_with (go_at_call 61; ((with_reducible refine (find_yes h1 h2 hs HT.out hp hz _ _ _ HA.out).mono ?_); rintro e w' ⟨rfl, hw'⟩; obtain rfl := hw'.symm))
  refine (clone_any _ _ (by omega) _ HA.out).mono ?_
  rintro e w1 ⟨v, rfl, ho, hb1⟩
  have HB := mkHid hb1
  have HO := mkHid (ho.alloc (.cells #[.int .u64 (t : Int)] 30))
  have HN : Hid (∀ g, v.ownBlock = some g → w1.heap.size ≠ g) := mkHid fun g e => by have := (ho.lt g e).2; omega
  clear ho hb1
  go_wp2_with fail
  refine (insert_own w.heap.size v s k w1.heap.size t _ (by omega) hk (by have := HB.out.size; simp; omega) HO.out HN.out (heap_alloc_new w1 _)).mono ?_
  rintro e w2 ⟨v', rfl, ho, hb2⟩
  have HB2 := mkHid ((HB.out.alloc HB.out.size (.cells #[.int .u64 (t : Int)] 30)).trans hb2)
  obtain ⟨e1, e2⟩ := HL.out
  rw [e2] at ho
  have HO2 : Hid (w2.ownsRow w.heap.size 30 1 v' (addL s t).length (natCells (addL s t))) := mkHid (by rw [e1]; exact ho)
  clear ho hb2 e1 e2
  go_wp2_with fail
  go_ret2
  exact ⟨v', by simp, HO2.out, HB2.out⟩
set_option maxHeartbeats 400000 in
theorem with_there {h : Nat} (h1 : 1 ≤ h) (h2 : h ≤ 32) {s : List Nat} (hs : Hid (SetOk h s)) {t : Nat} (ht : t < 2 ^ h) (hx : Hid (t ∈ s)) (A : Option Addr) (c : Nat) (w : World) (hA : Reads w A s) :
    Calls Try.prog 54 #[.int .i64 (h : Int), .slice A s.length c, .int .u64 (t : Int)] w fun e w' => e = .returned (.tuple #[.slice none 0 0, .int .i64 5]) ∧ w' = w := by
  obtain ⟨k, P⟩ := place_ex' hs.out t
  have hp := mkHid P
  have hz := mkHid (mem_dec P (setOk_iff.1 hs.out).2.1 (decide_eq_true hx.out))
  have HA := mkHid hA
  have HT := mkHid ht
  clear hA ht P
  go_enter Try.func54, Try.ntmps54
  go_wp2_with (go_at_call 61; ((with_reducible refine (find_yes h1 h2 hs HT.out hp hz _ _ _ HA.out).mono ?_); rintro e w' ⟨rfl, hw'⟩; obtain rfl := hw'.symm))
  go_ret2
  exact ⟨by simp, rfl⟩
set_option maxHeartbeats 400000 in
theorem with_full {h : Nat} (h1 : 1 ≤ h) (h2 : h ≤ 32) {s : List Nat} (hs : Hid (SetOk h s)) {t : Nat} (ht : t < 2 ^ h) (hx : Hid (t ∉ s)) (hl : s.length = 1024) (A : Option Addr) (c : Nat) (w : World) (hA : Reads w A s) :
    Calls Try.prog 54 #[.int .i64 (h : Int), .slice A s.length c, .int .u64 (t : Int)] w fun e w' => e = .returned (.tuple #[.slice none 0 0, .int .i64 6]) ∧ w' = w := by
  obtain ⟨k, P⟩ := place_ex' hs.out t
  have hp := mkHid P
  have hz := mkHid (mem_dec P (setOk_iff.1 hs.out).2.1 (decide_eq_false hx.out))
  have HA := mkHid hA
  have HT := mkHid ht
  have hl' : ((s.length : Int) == 1024) = true := beq_iff_eq.2 (by omega)
  clear hA ht P hl
  go_enter Try.func54, Try.ntmps54
  go_wp2_with (go_at_call 61; ((with_reducible refine (find_yes h1 h2 hs HT.out hp hz _ _ _ HA.out).mono ?_); rintro e w' ⟨rfl, hw'⟩; obtain rfl := hw'.symm))
  go_ret2
  exact ⟨by simp, rfl⟩
set_option maxHeartbeats 400000 in
theorem with_no {h : Int} {s : List Nat} {t : Nat} (R : Refuses h s t) (A : Option Addr) (c : Nat) (w : World) (hA : Reads w A s) :
    Calls Try.prog 54 #[.int .i64 h, .slice A s.length c, .int .u64 (t : Int)] w fun e w' => e = .returned (.tuple #[.slice none 0 0, .int .i64 1]) ∧ w' = w := by
  have HA := mkHid hA
  have HR := mkHid R
  clear hA R
  go_enter Try.func54, Try.ntmps54
  go_wp2_with (go_at_call 61; ((with_reducible refine (find_no HR.out _ _ _ HA.out).mono ?_); rintro e w' ⟨rfl, hw'⟩; obtain rfl := hw'.symm))
  go_ret2
  exact ⟨by simp, rfl⟩
set_option maxRecDepth 100000 in
set_option maxHeartbeats 2000000 in
theorem without_yes {h : Nat} (h1 : 1 ≤ h) (h2 : h ≤ 32) {s : List Nat} (hs : Hid (SetOk h s)) {t : Nat} (ht : t < 2 ^ h) (hx : Hid (t ∈ s)) (A : Option Addr) (c : Nat) (w : World) (hA : Reads w A s) :
    Calls Try.prog 55 #[.int .i64 (h : Int), .slice A s.length c, .int .u64 (t : Int)] w fun e w' =>
      ∃ v, e = .returned (.tuple #[v, .int .i64 0]) ∧ w'.ownsRow w.heap.size 30 1 v (remL s t).length (natCells (remL s t)) ∧ Below w.heap.size w w' := by
  obtain ⟨k, P⟩ := place_ex' hs.out t
  have hp := mkHid P
  have hA' := (setOk_iff.1 hs.out).2.1
  have hz := mkHid (mem_dec P hA' (decide_eq_true hx.out))
  obtain ⟨hk, hv⟩ := (mem_place P hA').2 hx.out
  have HL : Hid ((remL s t).length = s.length - 1 ∧ del s k = remL s t) := mkHid ⟨by have := remL_length hs.out hx.out; omega, by rw [del_remL hA' hk, hv]⟩
  have hsl := hs.out.1
  have HA := mkHid hA
  have HT := mkHid ht
  clear hA ht P hv hA'
  go_enter Try.func55, Try.ntmps55
  go_wp2_with (go_at_call 61; ((with_reducible refine (find_yes h1 h2 hs HT.out hp hz _ _ _ HA.out).mono ?_); rintro e w' ⟨rfl, hw'⟩; obtain rfl := hw'.symm))
  refine (clone_any _ _ (by omega) _ HA.out).mono ?_
  rintro e w1 ⟨v, rfl, ho, hb1⟩
  have HB := mkHid hb1
  have HO := mkHid ho
  clear ho hb1
  go_wp2_with fail
  rw [show (k : Int) + 1 = ((k + 1 : Nat) : Int) by omega]
  refine (delete_own w.heap.size v s k _ hk HO.out).mono ?_
  rintro e w2 ⟨v', rfl, ho, hb2⟩
  have HB2 := mkHid (HB.out.trans hb2)
  obtain ⟨e1, e2⟩ := HL.out
  rw [e2] at ho
  have HO2 : Hid (w2.ownsRow w.heap.size 30 1 v' (remL s t).length (natCells (remL s t))) := mkHid (by rw [e1]; exact ho)
  clear ho hb2 e1 e2
  go_wp2_with fail
  go_ret2
  exact ⟨v', by simp, HO2.out, HB2.out⟩
set_option maxHeartbeats 400000 in
theorem without_none {h : Nat} (h1 : 1 ≤ h) (h2 : h ≤ 32) {s : List Nat} (hs : Hid (SetOk h s)) {t : Nat} (ht : t < 2 ^ h) (hx : Hid (t ∉ s)) (A : Option Addr) (c : Nat) (w : World) (hA : Reads w A s) :
    Calls Try.prog 55 #[.int .i64 (h : Int), .slice A s.length c, .int .u64 (t : Int)] w fun e w' => e = .returned (.tuple #[.slice none 0 0, .int .i64 4]) ∧ w' = w := by
  obtain ⟨k, P⟩ := place_ex' hs.out t
  have hp := mkHid P
  have hz := mkHid (mem_dec P (setOk_iff.1 hs.out).2.1 (decide_eq_false hx.out))
  have HA := mkHid hA
  have HT := mkHid ht
  clear hA ht P
  go_enter Try.func55, Try.ntmps55
  go_wp2_with (go_at_call 61; ((with_reducible refine (find_yes h1 h2 hs HT.out hp hz _ _ _ HA.out).mono ?_); rintro e w' ⟨rfl, hw'⟩; obtain rfl := hw'.symm))
  go_ret2
  exact ⟨by simp, rfl⟩
set_option maxHeartbeats 400000 in
theorem without_no {h : Int} {s : List Nat} {t : Nat} (R : Refuses h s t) (A : Option Addr) (c : Nat) (w : World) (hA : Reads w A s) :
    Calls Try.prog 55 #[.int .i64 h, .slice A s.length c, .int .u64 (t : Int)] w fun e w' => e = .returned (.tuple #[.slice none 0 0, .int .i64 1]) ∧ w' = w := by
  have HA := mkHid hA
  have HR := mkHid R
  clear hA R
  go_enter Try.func55, Try.ntmps55
  go_wp2_with (go_at_call 61; ((with_reducible refine (find_no HR.out _ _ _ HA.out).mono ?_); rintro e w' ⟨rfl, hw'⟩; obtain rfl := hw'.symm))
  go_ret2
  exact ⟨by simp, rfl⟩
end Go.Proofs.Ytmehbonjpmlmfaa

namespace Go.Proofs.Ytmehbonjpmlmfaa
open Go.RowKit

theorem ret2_u64 {a b : Int} {v : Value} (h : a = b) : Ending.returned (.tuple #[.int .u64 a, v]) = .returned (.tuple #[.int .u64 b, v]) := by rw [h]
theorem pow33' {k : Nat} (hk : k ≤ 33) : 2 ^ k ≤ 8589934592 := pow_le (b := 33) hk
set_option maxHeartbeats 400000 in
theorem power_eq {k p : Nat} (hp : Hid (2 ^ k = p)) (hk : k ≤ 33) (w : World) :
    Calls Try.prog 74 #[.int .i64 (k : Int)] w fun e w' => e = .returned (.int .u64 (p : Int)) ∧ w' = w := by
  go_enter Try.func74, Try.ntmps74
  go_wp2_with fail
  go_loop [3, 5] (fun n i => ∃ j q : Nat, j ≤ k ∧ Hid (2 ^ j = q) ∧ i = .int .i64 (j : Int) ∧ n = .int .u64 (q : Int)) (fun _ i => k - (intOf i).toNat)
  case atStart => exact ⟨0, 1, by omega, mkHid rfl, rfl, rfl⟩
  case round =>
    obtain ⟨j, q, hj, hq, rfl, rfl⟩ := hrel
    have hb : q ≤ 8589934592 := by rw [← hq.out]; exact pow33' (by omega)
    by_cases hlt : j < k
    · go_wp2_with fail
      go_round
      case rel => exact ⟨j + 1, 2 * q, by omega, mkHid (by rw [Nat.pow_succ, hq.out]; omega), by go_num, by go_num⟩
      case measure => simp [intOf]; omega
    · obtain rfl : j = k := by omega
      obtain rfl : q = p := hq.out.symm.trans hp.out
      go_wp2_with fail
      go_ret
      exact ⟨rfl, rfl⟩


/-- power at one more -/
theorem power_next {h p : Nat} (hp : Hid (2 ^ (h + 1) = p)) (hk : h ≤ 32) (w : World) :
    Calls Try.prog 74 #[.int .i64 ((h : Int) + 1)] w fun e w' => e = .returned (.int .u64 (p : Int)) ∧ w' = w := by
  have c := power_eq hp (by omega) w
  rwa [show ((h + 1 : Nat) : Int) = (h : Int) + 1 by omega] at c

set_option maxHeartbeats 400000 in
theorem may_yes {h n : Nat} (H : Node h n) (w : World) :
    Calls Try.prog 66 #[.int .i64 (h : Int), .int .u64 (n : Int)] w fun e w' => e = .returned (.bool true) ∧ w' = w := by
  obtain ⟨p, hp⟩ : ∃ p, Hid (2 ^ (h + 1) = p) := ⟨_, mkHid rfl⟩
  have hl : n < p := by rw [← hp.out]; exact H.lt
  obtain ⟨h1, h2, h3, h4, h5⟩ := H
  have a : decide ((1 : Int) ≤ (h : Int)) = true := decide_eq_true (by omega)
  have b : decide ((h : Int) ≤ 32) = true := decide_eq_true (by omega)
  have c : decide ((1 : Int) ≤ (n : Int)) = true := decide_eq_true (by omega)
  have d : decide ((n : Int) < (p : Int)) = true := decide_eq_true (by omega)
  have d' : decide (n < p) = true := decide_eq_true (by omega)
  go_enter Try.func66, Try.ntmps66
  go_wp2_with (first | (go_at_call 74; ((with_reducible refine (power_next hp h2 _).mono ?_); rintro e w' ⟨rfl, rfl⟩)))
  go_ret
  exact ⟨by simp [*], rfl⟩

set_option maxHeartbeats 400000 in
theorem may_lo {h : Int} {n : Nat} (H : h < 1) (w : World) :
    Calls Try.prog 66 #[.int .i64 h, .int .u64 (n : Int)] w fun e w' => e = .returned (.bool false) ∧ w' = w := by
  have a : decide ((1 : Int) ≤ h) = false := decide_eq_false (by omega)
  go_enter Try.func66, Try.ntmps66
  go_wp2_with fail
  go_ret
  exact ⟨rfl, rfl⟩

set_option maxHeartbeats 400000 in
theorem may_hi {h : Int} {n : Nat} (H : 32 < h) (w : World) :
    Calls Try.prog 66 #[.int .i64 h, .int .u64 (n : Int)] w fun e w' => e = .returned (.bool false) ∧ w' = w := by
  have a : decide ((1 : Int) ≤ h) = true := decide_eq_true (by omega)
  have b : decide (h ≤ 32) = false := decide_eq_false (by omega)
  go_enter Try.func66, Try.ntmps66
  go_wp2_with fail
  go_ret
  exact ⟨rfl, rfl⟩

set_option maxHeartbeats 400000 in
theorem may_zero {h n : Nat} (h1 : 1 ≤ h) (h2 : h ≤ 32) (h3 : n = 0) (w : World) :
    Calls Try.prog 66 #[.int .i64 (h : Int), .int .u64 (n : Int)] w fun e w' => e = .returned (.bool false) ∧ w' = w := by
  have a : decide ((1 : Int) ≤ (h : Int)) = true := decide_eq_true (by omega)
  have b : decide ((h : Int) ≤ 32) = true := decide_eq_true (by omega)
  have c : decide ((1 : Int) ≤ (n : Int)) = false := decide_eq_false (by omega)
  clear h3
  go_enter Try.func66, Try.ntmps66
  go_wp2_with fail
  go_ret
  exact ⟨rfl, rfl⟩

set_option maxHeartbeats 400000 in
theorem may_deep {h n : Nat} (h1 : 1 ≤ h) (h2 : h ≤ 32) (h3 : 1 ≤ n) (h4 : 2 ^ (h + 1) ≤ n) (w : World) :
    Calls Try.prog 66 #[.int .i64 (h : Int), .int .u64 (n : Int)] w fun e w' => e = .returned (.bool false) ∧ w' = w := by
  obtain ⟨p, hp⟩ : ∃ p, Hid (2 ^ (h + 1) = p) := ⟨_, mkHid rfl⟩
  have hl : p ≤ n := by rw [← hp.out]; exact h4
  have a : decide ((1 : Int) ≤ (h : Int)) = true := decide_eq_true (by omega)
  have b : decide ((h : Int) ≤ 32) = true := decide_eq_true (by omega)
  have c : decide ((1 : Int) ≤ (n : Int)) = true := decide_eq_true (by omega)
  have d : decide ((n : Int) < (p : Int)) = false := decide_eq_false (by omega)
  have d' : decide (n < p) = false := decide_eq_false (by omega)
  clear h4
  go_enter Try.func66, Try.ntmps66
  go_wp2_with (first | (go_at_call 74; ((with_reducible refine (power_next hp h2 _).mono ?_); rintro e w' ⟨rfl, rfl⟩)))
  go_ret
  exact ⟨by simp [*], rfl⟩

theorem NoNode.out {h : Int} {n : Nat} (H : NoNode h n) (hn : n < 18446744073709551616) : h < 1 ∨ 32 < h ∨ ∃ k : Nat, h = (k : Int) ∧ 1 ≤ k ∧ k ≤ 32 ∧ (n = 0 ∨ (1 ≤ n ∧ 2 ^ (k + 1) ≤ n)) := by
  by_cases a : h < 1
  · exact .inl a
  by_cases b : 32 < h
  · exact .inr (.inl b)
  obtain ⟨k, rfl⟩ : ∃ k : Nat, h = (k : Int) := ⟨h.toNat, by omega⟩
  refine .inr (.inr ⟨k, rfl, by omega, by omega, ?_⟩)
  rcases H with H | H | H | ⟨j, e, c, d, f, g⟩
  · omega
  · omega
  · exact .inl H
  · obtain rfl : k = j := by omega
    refine .inr ⟨f, Nat.le_trans (pow_le (by omega)) (dep_lo f hn)⟩
theorem may_no {h : Int} {n : Nat} (H : NoNode h n) (hn : n < 18446744073709551616) (w : World) :
    Calls Try.prog 66 #[.int .i64 h, .int .u64 (n : Int)] w fun e w' => e = .returned (.bool false) ∧ w' = w := by
  rcases H.out hn with a | a | ⟨k, rfl, a, b, c | ⟨c, d⟩⟩
  · exact may_lo a w
  · exact may_hi a w
  · exact may_zero a b c w
  · exact may_deep a b c d w

set_option maxHeartbeats 400000 in
theorem rcheck_yes {h n : Nat} (H : Node h n) (w : World) :
    Calls Try.prog 50 #[.int .i64 (h : Int), .int .u64 (n : Int)] w fun e w' => e = .returned (.int .i64 0) ∧ w' = w := by
  have H' := mkHid H
  clear H
  go_enter Try.func50, Try.ntmps50
  go_wp2_with (first | (go_at_call 66; ((with_reducible refine (may_yes H'.out _).mono ?_); rintro e w' ⟨rfl, rfl⟩)))
  go_ret
  exact ⟨rfl, rfl⟩

set_option maxHeartbeats 400000 in
theorem rcheck_no {h : Int} {n : Nat} (H : NoNode h n) (hn : n < 18446744073709551616) (w : World) :
    Calls Try.prog 50 #[.int .i64 h, .int .u64 (n : Int)] w fun e w' => e = .returned (.int .i64 1) ∧ w' = w := by
  have H' := mkHid H
  clear H
  go_enter Try.func50, Try.ntmps50
  go_wp2_with (first | (go_at_call 66; ((with_reducible refine (may_no H'.out hn _).mono ?_); rintro e w' ⟨rfl, rfl⟩)))
  go_ret
  exact ⟨rfl, rfl⟩

set_option maxHeartbeats 400000 in
theorem rleaf_lo {h : Int} {n : Nat} (H : h < 1) (w : World) :
    Calls Try.prog 65 #[.int .i64 h, .int .u64 (n : Int)] w fun e w' => e = .returned (.tuple #[.int .u64 (0), .int .i64 1]) ∧ w' = w := by
  go_enter Try.func65, Try.ntmps65
  go_wp2_with fail
  go_ret2
  exact ⟨rfl, rfl⟩

set_option maxHeartbeats 400000 in
theorem rleaf_hi {h : Int} {n : Nat} (H : 32 < h) (w : World) :
    Calls Try.prog 65 #[.int .i64 h, .int .u64 (n : Int)] w fun e w' => e = .returned (.tuple #[.int .u64 (0), .int .i64 1]) ∧ w' = w := by
  have a : decide (h < 1) = false := decide_eq_false (by omega)
  go_enter Try.func65, Try.ntmps65
  go_wp2_with fail
  go_ret2
  exact ⟨rfl, rfl⟩

set_option maxHeartbeats 400000 in
theorem rleaf_none {h i : Nat} (h1 : 1 ≤ h) (h2 : h ≤ 32) (hi : 2 ^ h ≤ i) (w : World) :
    Calls Try.prog 65 #[.int .i64 (h : Int), .int .u64 (i : Int)] w fun e w' => e = .returned (.tuple #[.int .u64 (0), .int .i64 4]) ∧ w' = w := by
  obtain ⟨p, hp⟩ : ∃ p, Hid (2 ^ h = p) := ⟨_, mkHid rfl⟩
  have hl : p ≤ i := by rw [← hp.out]; exact hi
  clear hi
  have a : decide ((h : Int) < 1) = false := decide_eq_false (by omega)
  have b : decide ((32 : Int) < (h : Int)) = false := decide_eq_false (by omega)
  have c : decide ((p : Int) ≤ (i : Int)) = true := decide_eq_true (by omega)
  have d : decide (p ≤ i) = true := decide_eq_true (by omega)
  go_enter Try.func65, Try.ntmps65
  go_wp2_with (first | (go_at_call 74; ((with_reducible refine (power_eq hp (by omega) _).mono ?_); rintro e w' ⟨rfl, rfl⟩)))
  go_ret2
  exact ⟨rfl, rfl⟩

set_option maxHeartbeats 400000 in
theorem rleaf_yes {h i r : Nat} (h1 : 1 ≤ h) (h2 : h ≤ 32) (hi : i < 2 ^ h) (hr : Hid (2 ^ h + i = r)) (w : World) :
    Calls Try.prog 65 #[.int .i64 (h : Int), .int .u64 (i : Int)] w fun e w' => e = .returned (.tuple #[.int .u64 ((r : Int)), .int .i64 0]) ∧ w' = w := by
  obtain ⟨p, hp⟩ : ∃ p, Hid (2 ^ h = p) := ⟨_, mkHid rfl⟩
  have hl : i < p := by rw [← hp.out]; exact hi
  have hb : p ≤ 8589934592 := by rw [← hp.out]; exact pow33' (by omega)
  have er : (p : Int) + (i : Int) = (r : Int) := by have := hr.out; rw [hp.out] at this; omega
  clear hi hr
  have a : decide ((h : Int) < 1) = false := decide_eq_false (by omega)
  have b : decide ((32 : Int) < (h : Int)) = false := decide_eq_false (by omega)
  have c : decide ((p : Int) ≤ (i : Int)) = false := decide_eq_false (by omega)
  have d : decide (p ≤ i) = false := decide_eq_false (by omega)
  go_enter Try.func65, Try.ntmps65
  go_wp2_with (first | (go_at_call 74; ((with_reducible refine (power_eq hp (by omega) _).mono ?_); rintro e w' ⟨rfl, rfl⟩)))
  go_ret2
  exact ⟨rfl, rfl⟩

end Go.Proofs.Ytmehbonjpmlmfaa

namespace Go.Proofs.Ytmehbonjpmlmfaa
open Go.RowKit

set_option maxHeartbeats 400000 in
theorem sis_yes {h i : Nat} (h1 : 1 ≤ h) (h2 : h ≤ 32) (hi : i < 2 ^ h) (w : World) :
    Calls Try.prog 48 #[.int .i64 (h : Int), .int .u64 (i : Int)] w fun e w' => e = .returned (.bool true) ∧ w' = w := by
  have hi' := mkHid hi
  clear hi
  go_enter Try.func48, Try.ntmps48
  go_wp2_with (go_at_call 65; ((with_reducible refine (rleaf_yes h1 h2 hi'.out (mkHid rfl) _).mono ?_); rintro e w' ⟨rfl, rfl⟩))
  go_ret
  exact ⟨rfl, rfl⟩
set_option maxHeartbeats 400000 in
theorem sis_not {h i : Nat} (h1 : 1 ≤ h) (h2 : h ≤ 32) (hi : 2 ^ h ≤ i) (w : World) :
    Calls Try.prog 48 #[.int .i64 (h : Int), .int .u64 (i : Int)] w fun e w' => e = .returned (.bool false) ∧ w' = w := by
  have hi' := mkHid hi
  clear hi
  go_enter Try.func48, Try.ntmps48
  go_wp2_with (go_at_call 65; ((with_reducible refine (rleaf_none h1 h2 hi'.out _).mono ?_); rintro e w' ⟨rfl, rfl⟩))
  go_ret
  exact ⟨rfl, rfl⟩
theorem rleaf_out {h : Int} {i : Nat} (H : h < 1 ∨ 32 < h) (w : World) :
    Calls Try.prog 65 #[.int .i64 h, .int .u64 (i : Int)] w fun e w' => e = .returned (.tuple #[.int .u64 0, .int .i64 1]) ∧ w' = w := by
  rcases H with H | H
  · exact rleaf_lo H w
  · exact rleaf_hi H w
set_option maxHeartbeats 400000 in
theorem sis_bad {h : Int} {i : Nat} (H : h < 1 ∨ 32 < h) (w : World) :
    Calls Try.prog 48 #[.int .i64 h, .int .u64 (i : Int)] w fun e w' => e = .returned (.bool false) ∧ w' = w := by
  have H' := mkHid H
  clear H
  go_enter Try.func48, Try.ntmps48
  go_wp2_with (go_at_call 65; ((with_reducible refine (rleaf_out H'.out _).mono ?_); rintro e w' ⟨rfl, rfl⟩))
  go_ret
  exact ⟨rfl, rfl⟩
theorem sis_any {h i : Nat} {z : Bool} (h1 : 1 ≤ h) (h2 : h ≤ 32) (hz : Hid (decide (i < 2 ^ h) = z)) (w : World) :
    Calls Try.prog 48 #[.int .i64 (h : Int), .int .u64 (i : Int)] w fun e w' => e = .returned (.bool z) ∧ w' = w := by
  rw [← hz.out]
  by_cases c : i < 2 ^ h
  · rw [decide_eq_true c]; exact sis_yes h1 h2 c w
  · rw [decide_eq_false c]; exact sis_not h1 h2 (by omega) w
theorem rcheck_root {h : Nat} (h1 : 1 ≤ h) (h2 : h ≤ 32) (w : World) :
    Calls Try.prog 50 #[.int .i64 (h : Int), .int .u64 1] w fun e w' => e = .returned (.int .i64 0) ∧ w' = w := rcheck_yes (root_node h1 h2) w
theorem rcheck_root_no {h : Int} (H : h < 1 ∨ 32 < h) (w : World) :
    Calls Try.prog 50 #[.int .i64 h, .int .u64 1] w fun e w' => e = .returned (.int .i64 1) ∧ w' = w :=
  rcheck_no (n := 1) (by rcases H with H | H; exact .inl H; exact .inr (.inl H)) (by decide) w

set_option maxHeartbeats 400000 in
theorem scheck_bad {h : Int} (H : h < 1 ∨ 32 < h) (A : Option Addr) (n c : Nat) (w : World) :
    Calls Try.prog 51 #[.int .i64 h, .slice A n c] w fun e w' => e = .returned (.int .i64 1) ∧ w' = w := by
  have H' := mkHid H
  clear H
  go_enter Try.func51, Try.ntmps51
  go_wp2_with (go_at_call 50; ((with_reducible refine (rcheck_root_no H'.out _).mono ?_); rintro e w' ⟨rfl, rfl⟩))
  go_ret
  exact ⟨rfl, rfl⟩
set_option maxHeartbeats 400000 in
theorem scheck_long {h : Nat} (h1 : 1 ≤ h) (h2 : h ≤ 32) {n : Nat} (hn : 1024 < n) (A : Option Addr) (c : Nat) (w : World) :
    Calls Try.prog 51 #[.int .i64 (h : Int), .slice A n c] w fun e w' => e = .returned (.int .i64 1) ∧ w' = w := by
  have e1 : decide ((1024 : Int) < (n : Int)) = true := decide_eq_true (by omega)
  go_enter Try.func51, Try.ntmps51
  go_wp2_with (go_at_call 50; ((with_reducible refine (rcheck_root h1 h2 _).mono ?_); rintro e w' ⟨rfl, rfl⟩))
  go_ret
  exact ⟨rfl, rfl⟩
/-- Check, of a set or of none: r is what it answers, in a list that is not too long -/
theorem scheck_walk {h : Nat} (h1 : 1 ≤ h) (h2 : h ≤ 32) {s : List Nat} (hn : s.length ≤ 1024) {r : Int} (hr : Hid ((OkTo h s s.length ∧ r = 0) ∨ (¬ OkTo h s s.length ∧ r = 1))) (A : Option Addr) (c : Nat) (w : World) (hA : Reads w A s) :
    Calls Try.prog 51 #[.int .i64 (h : Int), .slice A s.length c] w fun e w' => e = .returned (.int .i64 r) ∧ w' = w := by
  have e1 : decide ((1024 : Int) < (s.length : Int)) = false := decide_eq_false (by omega)
  have HA := mkHid hA
  clear hA
  generalize hm : s.length = m at *
  have Hm := mkHid hm
  clear hm
  go_enter Try.func51, Try.ntmps51
  go_wp2_with (go_at_call 50; ((with_reducible refine (rcheck_root h1 h2 _).mono ?_); rintro e w' ⟨rfl, hw'⟩; obtain rfl := hw'.symm))
  go_loop [17] (fun i => ∃ k : Nat, k ≤ m ∧ i = .int .i64 (k : Int) ∧ Hid (OkTo h s k)) (fun i => m - (intOf i).toNat)
  case atStart => exact ⟨0, by omega, rfl, OkTo.zero h s⟩
  case round =>
    obtain ⟨k, hk, rfl, hok⟩ := hrel
    by_cases hlt : k < m
    · obtain ⟨ad, rfl, hc⟩ := HA.out.cell k (by rw [Hm.out]; exact hlt)
      obtain ⟨x, hx⟩ : ∃ x, Hid (s.getD k 0 = x) := ⟨_, mkHid rfl⟩
      rw [hx.out] at hc
      obtain ⟨z, hz⟩ : ∃ z, Hid (decide (x < 2 ^ h) = z) := ⟨_, mkHid rfl⟩
      have bad : (z = false ∨ (0 < k ∧ x ≤ s.getD (k - 1) 0)) → r = 1 := by
        intro hb
        rcases hr.out with ⟨a, _⟩ | ⟨_, b⟩
        · exfalso
          have q := a k hlt
          rw [hx.out] at q
          rcases hb with hb | ⟨hb1, hb2⟩
          · rw [hb] at hz
            have := of_decide_eq_false hz.out
            omega
          · have := q.2 hb1; omega
        · exact b
      have BAD := mkHid bad
      clear bad
      cases z
      · obtain rfl : r = 1 := BAD.out (.inl rfl)
        go_wp2_with (go_at_call 48; ((with_reducible refine (sis_any h1 h2 hz _).mono ?_); rintro e w' ⟨rfl, hw'⟩; obtain rfl := hw'.symm))
        go_ret
        exact ⟨rfl, rfl⟩
      · by_cases hk0 : k = 0
        · subst hk0
          have hc0 : w.cell? ad = some (.int .u64 (x : Int)) := by rw [← addr_zero ad]; exact hc
          go_wp2_with (go_at_call 48; ((with_reducible refine (sis_any h1 h2 hz _).mono ?_); rintro e w' ⟨rfl, hw'⟩; obtain rfl := hw'.symm))
          go_round
          case rel => exact ⟨1, by omega, rfl, hok.out.succ (by rw [hx.out]; exact of_decide_eq_true hz.out) (fun h => by omega)⟩
          case measure => simp [intOf]; omega
        · obtain ⟨ad', e', hc'⟩ := HA.out.cell (k - 1) (by rw [Hm.out]; omega)
          cases e'
          obtain ⟨y, hy⟩ : ∃ y, Hid (s.getD (k - 1) 0 = y) := ⟨_, mkHid rfl⟩
          rw [hy.out] at hc'
          have ek : (k : Int) - 1 = ((k - 1 : Nat) : Int) := by omega
          have hk1 : k - 1 < m := by omega
          have e0 : decide ((0 : Int) < (k : Int)) = true := decide_eq_true (by omega)
          by_cases hxy : x ≤ y
          · obtain rfl : r = 1 := BAD.out (.inr ⟨by omega, by rw [hy.out]; exact hxy⟩)
            have e2 : decide (x ≤ y) = true := decide_eq_true hxy
            generalize k - 1 = k' at *
            go_wp2_with (go_at_call 48; ((with_reducible refine (sis_any h1 h2 hz _).mono ?_); rintro e w' ⟨rfl, hw'⟩; obtain rfl := hw'.symm))
            go_ret
            exact ⟨rfl, rfl⟩
          · have e2 : decide (x ≤ y) = false := decide_eq_false hxy
            have hok' := mkHid (hok.out.succ (by rw [hx.out]; exact of_decide_eq_true hz.out) (fun _ => by rw [hx.out, hy.out]; omega))
            generalize k - 1 = k' at *
            go_wp2_with (go_at_call 48; ((with_reducible refine (sis_any h1 h2 hz _).mono ?_); rintro e w' ⟨rfl, hw'⟩; obtain rfl := hw'.symm))
            go_round
            case rel => exact ⟨k + 1, by omega, by go_num, hok'⟩
            case measure => simp [intOf]; omega
    · obtain rfl : k = m := by omega
      obtain rfl : r = 0 := by
        rcases hr.out with ⟨_, b⟩ | ⟨a, _⟩
        · exact b
        · exact absurd hok.out a
      go_wp2_with fail
      go_ret
      exact ⟨rfl, rfl⟩
theorem scheck_yes {h : Nat} (h1 : 1 ≤ h) (h2 : h ≤ 32) {s : List Nat} (hs : SetOk h s) (A : Option Addr) (c : Nat) (w : World) (hA : Reads w A s) :
    Calls Try.prog 51 #[.int .i64 (h : Int), .slice A s.length c] w fun e w' => e = .returned (.int .i64 0) ∧ w' = w :=
  scheck_walk h1 h2 hs.1 (mkHid (.inl ⟨hs.2, rfl⟩)) A c w hA
theorem scheck_no {h : Nat} (h1 : 1 ≤ h) (h2 : h ≤ 32) {s : List Nat} (hs : ¬ SetOk h s) (A : Option Addr) (c : Nat) (w : World) (hA : Reads w A s) :
    Calls Try.prog 51 #[.int .i64 (h : Int), .slice A s.length c] w fun e w' => e = .returned (.int .i64 1) ∧ w' = w := by
  by_cases hn : s.length ≤ 1024
  · exact scheck_walk h1 h2 hn (mkHid (.inr ⟨fun q => hs ⟨hn, q⟩, rfl⟩)) A c w hA
  · exact scheck_long h1 h2 (by omega) A c w

set_option maxHeartbeats 1000000 in
theorem sin_walk {s : List Nat} {x : Nat} {z : Bool} (hn : s.length ≤ 4611686018427387904) (hz : Hid (decide (x ∈ s) = z)) (A : Option Addr) (c : Nat) (w : World) (hA : Reads w A s) :
    Calls Try.prog 49 #[.slice A s.length c, .int .u64 (x : Int)] w fun e w' => e = .returned (.bool z) ∧ w' = w := by
  have HA := mkHid hA
  clear hA
  generalize hm : s.length = m at *
  have Hm := mkHid hm
  clear hm
  go_enter Try.func49, Try.ntmps49
  go_wp2_with fail
  go_loop [9] (fun i => ∃ k : Nat, k ≤ m ∧ i = .int .i64 (k : Int) ∧ Hid (∀ j, j < k → s.getD j 0 ≠ x)) (fun i => m - (intOf i).toNat)
  case atStart => exact ⟨0, by omega, rfl, fun j hj => by omega⟩
  case round =>
    obtain ⟨k, hk, rfl, hno⟩ := hrel
    by_cases hlt : k < m
    · obtain ⟨ad, rfl, hc⟩ := HA.out.cell k (by rw [Hm.out]; exact hlt)
      obtain ⟨y, hy⟩ : ∃ y, Hid (s.getD k 0 = y) := ⟨_, mkHid rfl⟩
      rw [hy.out] at hc
      by_cases e : y = x
      · subst e
        obtain rfl : z = true := by
          rw [← hz.out]
          refine decide_eq_true ?_
          have hk' : k < s.length := by rw [Hm.out]; exact hlt
          rw [← hy.out, getD_eq hk']
          exact List.getElem_mem hk'
        go_wp2_with fail
        go_ret
        exact ⟨rfl, rfl⟩
      · have e1 : ((y : Int) == (x : Int)) = false := beq_eq_false_iff_ne.2 (by omega)
        have e2 : (y == x) = false := beq_eq_false_iff_ne.2 e
        have hno' : Hid (∀ j, j < k + 1 → s.getD j 0 ≠ x) := mkHid fun j hj => by
          rcases Nat.lt_or_ge j k with c | c
          · exact hno.out j c
          · obtain rfl : j = k := by omega
            rw [hy.out]; exact e
        clear hno
        go_wp2_with fail
        go_round
        case rel => exact ⟨k + 1, by omega, by go_num, hno'⟩
        case measure => simp [intOf]; omega
    · obtain rfl : k = m := by omega
      obtain rfl : z = false := by
        rw [← hz.out]
        refine decide_eq_false fun q => ?_
        obtain ⟨j, hj, e⟩ := List.mem_iff_getElem.1 q
        exact hno.out j (by rw [← Hm.out]; exact hj) (by rw [getD_eq hj]; exact e)
      go_wp2_with fail
      go_ret
      exact ⟨rfl, rfl⟩
set_option maxHeartbeats 400000 in
theorem shas_yes {h : Nat} (h1 : 1 ≤ h) (h2 : h ≤ 32) {s : List Nat} (hs : Hid (SetOk h s)) {t : Nat} (ht : t < 2 ^ h) {z : Bool} (hz : Hid (decide (t ∈ s) = z)) (A : Option Addr) (c : Nat) (w : World) (hA : Reads w A s) :
    Calls Try.prog 64 #[.int .i64 (h : Int), .slice A s.length c, .int .u64 (t : Int)] w fun e w' => e = .returned (.tuple #[.bool z, .int .i64 0]) ∧ w' = w := by
  have hlen : s.length ≤ 4611686018427387904 := by have := hs.out.1; omega
  have HA := mkHid hA
  have HT := mkHid ht
  clear hA ht
  go_enter Try.func64, Try.ntmps64
  go_wp2_with first
    | (go_at_call 51; ((with_reducible refine (scheck_yes h1 h2 hs.out _ _ _ HA.out).mono ?_); rintro e w' ⟨rfl, hw'⟩; obtain rfl := hw'.symm))
    | (go_at_call 48; ((with_reducible refine (sis_yes h1 h2 HT.out _).mono ?_); rintro e w' ⟨rfl, hw'⟩; obtain rfl := hw'.symm))
    | (go_at_call 49; ((with_reducible refine (sin_walk hlen hz _ _ _ HA.out).mono ?_); rintro e w' ⟨rfl, hw'⟩; obtain rfl := hw'.symm))
  go_ret2
  exact ⟨by simp, rfl⟩
set_option maxHeartbeats 400000 in
theorem shas_set {h : Nat} (h1 : 1 ≤ h) (h2 : h ≤ 32) {s : List Nat} (hs : Hid (¬ SetOk h s)) (t : Nat) (A : Option Addr) (c : Nat) (w : World) (hA : Reads w A s) :
    Calls Try.prog 64 #[.int .i64 (h : Int), .slice A s.length c, .int .u64 (t : Int)] w fun e w' => e = .returned (.tuple #[.bool false, .int .i64 1]) ∧ w' = w := by
  have HA := mkHid hA
  clear hA
  go_enter Try.func64, Try.ntmps64
  go_wp2_with (go_at_call 51; ((with_reducible refine (scheck_no h1 h2 hs.out _ _ _ HA.out).mono ?_); rintro e w' ⟨rfl, hw'⟩; obtain rfl := hw'.symm))
  go_ret2
  exact ⟨by simp, rfl⟩
set_option maxHeartbeats 400000 in
theorem shas_leaf {h : Nat} (h1 : 1 ≤ h) (h2 : h ≤ 32) {s : List Nat} (hs : Hid (SetOk h s)) {t : Nat} (ht : 2 ^ h ≤ t) (A : Option Addr) (c : Nat) (w : World) (hA : Reads w A s) :
    Calls Try.prog 64 #[.int .i64 (h : Int), .slice A s.length c, .int .u64 (t : Int)] w fun e w' => e = .returned (.tuple #[.bool false, .int .i64 1]) ∧ w' = w := by
  have HA := mkHid hA
  have HT := mkHid ht
  clear hA ht
  go_enter Try.func64, Try.ntmps64
  go_wp2_with first
    | (go_at_call 51; ((with_reducible refine (scheck_yes h1 h2 hs.out _ _ _ HA.out).mono ?_); rintro e w' ⟨rfl, hw'⟩; obtain rfl := hw'.symm))
    | (go_at_call 48; ((with_reducible refine (sis_not h1 h2 HT.out _).mono ?_); rintro e w' ⟨rfl, hw'⟩; obtain rfl := hw'.symm))
  go_ret2
  exact ⟨by simp, rfl⟩
set_option maxHeartbeats 400000 in
theorem shas_bad {h : Int} (H : h < 1 ∨ 32 < h) (n t : Nat) (A : Option Addr) (c : Nat) (w : World) :
    Calls Try.prog 64 #[.int .i64 h, .slice A n c, .int .u64 (t : Int)] w fun e w' => e = .returned (.tuple #[.bool false, .int .i64 1]) ∧ w' = w := by
  have H' := mkHid H
  clear H
  go_enter Try.func64, Try.ntmps64
  go_wp2_with (go_at_call 51; ((with_reducible refine (scheck_bad H'.out _ _ _ _).mono ?_); rintro e w' ⟨rfl, hw'⟩; obtain rfl := hw'.symm))
  go_ret2
  exact ⟨by simp, rfl⟩
theorem shas_no {h : Int} {s : List Nat} {t : Nat} (R : Refuses h s t) (A : Option Addr) (c : Nat) (w : World) (hA : Reads w A s) :
    Calls Try.prog 64 #[.int .i64 h, .slice A s.length c, .int .u64 (t : Int)] w fun e w' => e = .returned (.tuple #[.bool false, .int .i64 1]) ∧ w' = w := by
  by_cases H : 1 ≤ h ∧ h ≤ 32
  · obtain ⟨n, rfl⟩ : ∃ n : Nat, h = n := ⟨h.toNat, by omega⟩
    have e : (n : Int).toNat = n := by omega
    have r := R.no
    rw [e] at r
    by_cases hs : SetOk n s
    · exact shas_leaf (by omega) (by omega) (mkHid hs) (by
        rcases Nat.lt_or_ge t (2 ^ n) with l | l
        · exact absurd ⟨H, hs, l⟩ r
        · exact l) A c w hA
    · exact shas_set (by omega) (by omega) (mkHid hs) t A c w hA
  · exact shas_bad (by omega) _ _ _ _ _
end Go.Proofs.Ytmehbonjpmlmfaa

namespace Go.Proofs.Ytmehbonjpmlmfaa
open Go.RowKit Go.Proofs.YtmehbonjpmlmfaaW.PrintWords

set_option maxHeartbeats 2000000 in
theorem ssame_any {s t : List Nat} {z : Bool} (hz : Hid (decide (s = t) = z)) (hn : s.length < 4611686018427387904) (A B : Option Addr) (a b : Nat) (w : World) (hA : Reads w A s) (hB : Reads w B t) :
    Calls Try.prog 26 #[.slice A s.length a, .slice B t.length b] w fun e w' => e = .returned (.bool z) ∧ Below w.heap.size w w' := by
  have HA := mkHid hA
  have HB := mkHid hB
  clear hA hB
  generalize hm : s.length = m at *
  generalize hl : t.length = l at *
  have Hm := mkHid hm
  have Hl := mkHid hl
  clear hm hl
  by_cases c : m = l
  · subst c
    go_enter Try.func26, Try.ntmps26
    go_wp2_with fail
    go_loopw [13] (fun i wr => ∃ k : Nat, k ≤ m ∧ i = .int .i64 (k : Int) ∧ Hid (∀ j, j < k → s.getD j 0 = t.getD j 0) ∧ Hid (Below w.heap.size w wr)) (fun i _ => m - (intOf i).toNat)
    case atStart => exact ⟨0, by omega, rfl, fun j hj => by omega, Below.refl _ _⟩
    case round =>
      obtain ⟨k, hk, rfl, hsame, hBel⟩ := hrel
      by_cases hlt : k < m
      · obtain ⟨ad, rfl, hc⟩ := (HA.out.below hBel.out).cell k (by rw [Hm.out]; exact hlt)
        obtain ⟨bd, rfl, hd⟩ := (HB.out.below hBel.out).cell k (by rw [Hl.out]; exact hlt)
        obtain ⟨x, hx⟩ : ∃ x, Hid (s.getD k 0 = x) := ⟨_, mkHid rfl⟩
        obtain ⟨y, hy⟩ : ∃ y, Hid (t.getD k 0 = y) := ⟨_, mkHid rfl⟩
        rw [hx.out] at hc
        rw [hy.out] at hd
        by_cases e : x = y
        · subst e
          have hsame' : Hid (∀ j, j < k + 1 → s.getD j 0 = t.getD j 0) := mkHid fun j hj => by
            rcases Nat.lt_or_ge j k with c | c
            · exact hsame.out j c
            · obtain rfl : j = k := by omega
              rw [hx.out, hy.out]
          clear hsame
          go_wp2_with fail
          go_quiet (fail)
          go_wp2_with fail
          go_roundw
          case rel => exact ⟨k + 1, by omega, by go_num, hsame', mkHid (below_drewN hBel.out _)⟩
          case measure => simp [intOf]; omega
        · have e1 : ((x : Int) != (y : Int)) = true := bne_iff_ne.2 (by omega)
          have e2 : (x != y) = true := bne_iff_ne.2 e
          obtain rfl : z = false := by
            rw [← hz.out]
            refine decide_eq_false fun q => e ?_
            rw [← hx.out, ← hy.out, q]
          go_wp2_with fail
          go_quiet (fail)
          go_wp2_with fail
          go_ret
          exact ⟨rfl, below_drewN hBel.out _⟩
      · obtain rfl : k = m := by omega
        obtain rfl : z = true := by
          rw [← hz.out]
          refine decide_eq_true (List.ext_getElem (by rw [Hm.out, Hl.out]) fun j h1 h2 => ?_)
          have := hsame.out j (by rw [← Hm.out]; exact h1)
          rwa [getD_eq h1, getD_eq h2] at this
        go_wp2_with fail
        go_ret
        exact ⟨rfl, hBel.out⟩
  · obtain rfl : z = false := by
      rw [← hz.out]
      refine decide_eq_false fun q => c ?_
      rw [← Hm.out, ← Hl.out, q]
    have e1 : ((m : Int) != (l : Int)) = true := bne_iff_ne.2 (by omega)
    have e2 : (m != l) = true := bne_iff_ne.2 c
    have e3 : ((m : Int) == (l : Int)) = false := beq_eq_false_iff_ne.2 (by omega)
    go_enter Try.func26, Try.ntmps26
    go_wp2_with fail
    go_ret
    exact ⟨rfl, Below.refl _ _⟩

/-- the first k, as far as a test lets them by -/
def filTo (p : Nat → Bool) (s : List Nat) (k : Nat) : List Nat := (s.take k).filter p
theorem filTo_zero (p : Nat → Bool) (s : List Nat) : filTo p s 0 = [] := rfl
theorem filTo_yes {p : Nat → Bool} {s : List Nat} {k x : Nat} (hk : k < s.length) (hx : s.getD k 0 = x) (h : p x = true) : filTo p s (k + 1) = filTo p s k ++ [x] := by
  unfold filTo
  rw [List.take_succ_eq_append_getElem hk, List.filter_append]
  rw [getD_eq hk] at hx
  rw [hx, List.filter_cons_of_pos h, List.filter_nil]
theorem filTo_not {p : Nat → Bool} {s : List Nat} {k x : Nat} (hk : k < s.length) (hx : s.getD k 0 = x) (h : p x = false) : filTo p s (k + 1) = filTo p s k := by
  unfold filTo
  rw [List.take_succ_eq_append_getElem hk, List.filter_append]
  rw [getD_eq hk] at hx
  rw [hx, List.filter_cons_of_neg (by rw [h]; decide), List.filter_nil, List.append_nil]
theorem filTo_all (p : Nat → Bool) (s : List Nat) : filTo p s s.length = s.filter p := by unfold filTo; rw [List.take_length]
theorem filTo_le (p : Nat → Bool) (s : List Nat) (k : Nat) : (filTo p s k).length ≤ s.length := by
  unfold filTo
  exact Nat.le_trans (List.length_filter_le _ _) (by rw [List.length_take]; omega)
theorem Reads.one (w : World) (x : Nat) : Reads (w.alloc (.cells #[.int .u64 (x : Int)] 30)) (some ⟨w.heap.size, 0, none⟩) [x] := Reads.of_cells (by simp) fun j hj => by
  have : j = 0 := by simpa using hj
  subst this
  rw [addr_zero]
  simp
/-- a row of the call's own, as a law on appending one number asks for it -/
def RowOf (w : World) (base : Nat) (v : Value) (S : List Nat) : Prop := w.ownsRow base 30 1 v S.length (natCells S)

set_option maxRecDepth 100000 in
set_option maxHeartbeats 4000000 in
theorem swith_yes {h : Nat} (h1 : 1 ≤ h) (h2 : h ≤ 32) {s : List Nat} (hs : Hid (SetOk h s)) {t : Nat} (ht : t < 2 ^ h) (hx : Hid (t ∉ s)) (hl : s.length < 1024) (A : Option Addr) (c : Nat) (w : World) (hA : Reads w A s) :
    Calls Try.prog 46 #[.int .i64 (h : Int), .slice A s.length c, .int .u64 (t : Int)] w fun e w' =>
      ∃ v, e = .returned (.tuple #[v, .int .i64 0]) ∧ w'.ownsRow w.heap.size 30 1 v (addL s t).length (natCells (addL s t)) ∧ Below w.heap.size w w' := by
  have hz := mkHid (decide_eq_false hx.out)
  have HA := mkHid hA
  have HT := mkHid ht
  have hl' : ((s.length : Int) == 1024) = false := beq_eq_false_iff_ne.2 (by omega)
  have HF : Hid (∀ k, (filTo (fun y => decide (y < t)) s k).length ≤ s.length ∧ (filTo (fun y => decide (t < y)) s k).length ≤ s.length) := mkHid fun k => ⟨filTo_le _ _ _, filTo_le _ _ _⟩
  clear hA ht
  go_enter Try.func46, Try.ntmps46
  go_wp2_with (go_at_call 64; ((with_reducible refine (shas_yes h1 h2 hs HT.out hz _ _ _ HA.out).mono ?_); rintro e w' ⟨rfl, hw'⟩; obtain rfl := hw'.symm))
  go_loopw [10, 31] (fun v i wr => ∃ (k : Nat) (S : List Nat), k ≤ s.length ∧ i = .int .i64 (k : Int) ∧ Hid (S = filTo (fun y => decide (y < t)) s k) ∧ Hid (RowOf wr w.heap.size v S) ∧ Hid (Below w.heap.size w wr)) (fun _ i _ => s.length - (intOf i).toNat)
  case atStart => exact ⟨0, [], by omega, rfl, rfl, World.ownsRow_nil _ _ _ _, Below.refl _ _⟩
  case round =>
    obtain ⟨k, S, hk, rfl, hS, hR, hB⟩ := hrel
    have hSl : S.length ≤ s.length := by rw [hS.out]; exact (HF.out k).1
    by_cases hlt : k < s.length
    · obtain ⟨ad, rfl, hc⟩ := (HA.out.below hB.out).cell k hlt
      obtain ⟨x, hx⟩ : ∃ x, Hid (s.getD k 0 = x) := ⟨_, mkHid rfl⟩
      rw [hx.out] at hc
      by_cases e : x < t
      · have e1 : decide ((x : Int) < (t : Int)) = true := decide_eq_true (by omega)
        have e2 : decide (x < t) = true := decide_eq_true e
        have hS' : Hid (S ++ [x] = filTo (fun y => decide (y < t)) s (k + 1)) := mkHid (by rw [filTo_yes hlt hx.out e2, hS.out])
        clear hS
        go_wp2_with (at_builtin; refine wpList_append_u64 (by first | rfl | simp [Region.wanted, yielded]) _ _ rfl w.heap.size _ S rfl (hR.out.alloc _) _ _ [x] rfl (Reads.one _ _) (fun e => by cases e) (by simp; omega) (by have := hB.out.size; simp; omega) ?_; intro v2 w2 ho2 hb2)
        have HR2 : Hid (RowOf w2 w.heap.size v2 (S ++ [x])) := mkHid ho2
        have HB2 := mkHid ((hB.out.alloc hB.out.size (.cells #[.int .u64 (x : Int)] 30)).trans hb2)
        clear ho2 hb2 hR hB
        go_wp2_with fail
        go_roundw
        case rel => exact ⟨k + 1, _, by omega, by go_num, hS', HR2, HB2⟩
        case measure => simp [intOf]; omega
      · have e1 : decide ((x : Int) < (t : Int)) = false := decide_eq_false (by omega)
        have e2 : decide (x < t) = false := decide_eq_false e
        have hS' : Hid (S = filTo (fun y => decide (y < t)) s (k + 1)) := mkHid (by rw [filTo_not hlt hx.out e2, hS.out])
        clear hS
        go_wp2_with fail
        go_roundw
        case rel => exact ⟨k + 1, S, by omega, by go_num, hS', hR, hB⟩
        case measure => simp [intOf]; omega
    · obtain rfl : k = s.length := by omega
      have HS1 : Hid (S = s.filter (fun y => decide (y < t))) := mkHid (by rw [hS.out, filTo_all])
      clear hS
      go_wp2_with (at_builtin; refine wpList_append_u64 (by first | rfl | simp [Region.wanted, yielded]) _ _ rfl w.heap.size _ S rfl (hR.out.alloc _) _ _ [t] rfl (Reads.one _ _) (fun e => by cases e) (by simp; omega) (by have := hB.out.size; simp; omega) ?_; intro v2 w2 ho2 hb2)
      have HR2 : Hid (RowOf w2 w.heap.size v2 (S ++ [t])) := mkHid ho2
      have HB2 := mkHid ((hB.out.alloc hB.out.size (.cells #[.int .u64 (t : Int)] 30)).trans hb2)
      clear ho2 hb2 hR hB
      go_wp2_with fail
      go_loopw [10, 49] (fun v i wr => ∃ (k : Nat) (U : List Nat), k ≤ s.length ∧ i = .int .i64 (k : Int) ∧ Hid (U = filTo (fun y => decide (t < y)) s k) ∧ Hid (RowOf wr w.heap.size v (S ++ [t] ++ U)) ∧ Hid (Below w.heap.size w wr)) (fun _ i _ => s.length - (intOf i).toNat)
      case atStart => exact ⟨0, [], by omega, rfl, rfl, mkHid (by rw [List.append_nil]; exact HR2.out), HB2⟩
      case round =>
        clear HR2 HB2
        obtain ⟨k, U, hk, rfl, hU, hR, hB⟩ := hrel
        have hUl : U.length ≤ s.length := by rw [hU.out]; exact (HF.out k).2
        have hSUl : (S ++ [t] ++ U).length = S.length + 1 + U.length := by simp; omega
        by_cases hlt : k < s.length
        · obtain ⟨ad, rfl, hc⟩ := (HA.out.below hB.out).cell k hlt
          obtain ⟨x, hx⟩ : ∃ x, Hid (s.getD k 0 = x) := ⟨_, mkHid rfl⟩
          rw [hx.out] at hc
          by_cases e : t < x
          · have e1 : decide ((t : Int) < (x : Int)) = true := decide_eq_true (by omega)
            have e2 : decide (t < x) = true := decide_eq_true e
            have hU' : Hid (U ++ [x] = filTo (fun y => decide (t < y)) s (k + 1)) := mkHid (by rw [filTo_yes hlt hx.out e2, hU.out])
            clear hU
            generalize hSU : S ++ [t] ++ U = SU at *
            have HSU := mkHid hSU
            clear hSU
            go_wp2_with (at_builtin; refine wpList_append_u64 (by first | rfl | simp [Region.wanted, yielded]) _ _ rfl w.heap.size _ SU rfl (hR.out.alloc _) _ _ [x] rfl (Reads.one _ _) (fun e => by cases e) (by simp; omega) (by have := hB.out.size; simp; omega) ?_; intro v3 w3 ho2 hb2)
            have HR2 : Hid (RowOf w3 w.heap.size v3 (S ++ [t] ++ (U ++ [x]))) := mkHid (by rw [← List.append_assoc, HSU.out]; exact ho2)
            have HB2 := mkHid ((hB.out.alloc hB.out.size (.cells #[.int .u64 (x : Int)] 30)).trans hb2)
            clear ho2 hb2 hR hB
            go_wp2_with fail
            go_roundw
            case rel => exact ⟨k + 1, _, by omega, by go_num, hU', HR2, HB2⟩
            case measure => simp [intOf]; omega
          · have e1 : decide ((t : Int) < (x : Int)) = false := decide_eq_false (by omega)
            have e2 : decide (t < x) = false := decide_eq_false e
            have hU' : Hid (U = filTo (fun y => decide (t < y)) s (k + 1)) := mkHid (by rw [filTo_not hlt hx.out e2, hU.out])
            clear hU
            go_wp2_with fail
            go_roundw
            case rel => exact ⟨k + 1, U, by omega, by go_num, hU', hR, hB⟩
            case measure => simp [intOf]; omega
        · obtain rfl : k = s.length := by omega
          have HE : Hid (S ++ [t] ++ U = addL s t) := mkHid (by rw [hU.out, filTo_all, HS1.out]; unfold addL; rw [List.append_assoc]; rfl)
          clear hU HS1
          go_wp2_with fail
          go_ret2
          exact ⟨u10, by simp, by rw [← HE.out]; exact hR.out, hB.out⟩
set_option maxHeartbeats 400000 in
theorem swith_there {h : Nat} (h1 : 1 ≤ h) (h2 : h ≤ 32) {s : List Nat} (hs : Hid (SetOk h s)) {t : Nat} (ht : t < 2 ^ h) (hx : Hid (t ∈ s)) (A : Option Addr) (c : Nat) (w : World) (hA : Reads w A s) :
    Calls Try.prog 46 #[.int .i64 (h : Int), .slice A s.length c, .int .u64 (t : Int)] w fun e w' => e = .returned (.tuple #[.slice none 0 0, .int .i64 5]) ∧ w' = w := by
  have hz := mkHid (decide_eq_true hx.out)
  have HA := mkHid hA
  have HT := mkHid ht
  clear hA ht
  go_enter Try.func46, Try.ntmps46
  go_wp2_with (go_at_call 64; ((with_reducible refine (shas_yes h1 h2 hs HT.out hz _ _ _ HA.out).mono ?_); rintro e w' ⟨rfl, hw'⟩; obtain rfl := hw'.symm))
  go_ret2
  exact ⟨by simp, rfl⟩
set_option maxHeartbeats 400000 in
theorem swith_full {h : Nat} (h1 : 1 ≤ h) (h2 : h ≤ 32) {s : List Nat} (hs : Hid (SetOk h s)) {t : Nat} (ht : t < 2 ^ h) (hx : Hid (t ∉ s)) (hl : s.length = 1024) (A : Option Addr) (c : Nat) (w : World) (hA : Reads w A s) :
    Calls Try.prog 46 #[.int .i64 (h : Int), .slice A s.length c, .int .u64 (t : Int)] w fun e w' => e = .returned (.tuple #[.slice none 0 0, .int .i64 6]) ∧ w' = w := by
  have hz := mkHid (decide_eq_false hx.out)
  have HA := mkHid hA
  have HT := mkHid ht
  have hl' : ((s.length : Int) == 1024) = true := beq_iff_eq.2 (by omega)
  clear hA ht hl
  go_enter Try.func46, Try.ntmps46
  go_wp2_with (go_at_call 64; ((with_reducible refine (shas_yes h1 h2 hs HT.out hz _ _ _ HA.out).mono ?_); rintro e w' ⟨rfl, hw'⟩; obtain rfl := hw'.symm))
  go_ret2
  exact ⟨by simp, rfl⟩
set_option maxHeartbeats 400000 in
theorem swith_no {h : Int} {s : List Nat} {t : Nat} (R : Refuses h s t) (A : Option Addr) (c : Nat) (w : World) (hA : Reads w A s) :
    Calls Try.prog 46 #[.int .i64 h, .slice A s.length c, .int .u64 (t : Int)] w fun e w' => e = .returned (.tuple #[.slice none 0 0, .int .i64 1]) ∧ w' = w := by
  have HA := mkHid hA
  have HR := mkHid R
  clear hA R
  go_enter Try.func46, Try.ntmps46
  go_wp2_with (go_at_call 64; ((with_reducible refine (shas_no HR.out _ _ _ HA.out).mono ?_); rintro e w' ⟨rfl, hw'⟩; obtain rfl := hw'.symm))
  go_ret2
  exact ⟨by simp, rfl⟩
set_option maxRecDepth 100000 in
set_option maxHeartbeats 4000000 in
theorem swithout_yes {h : Nat} (h1 : 1 ≤ h) (h2 : h ≤ 32) {s : List Nat} (hs : Hid (SetOk h s)) {t : Nat} (ht : t < 2 ^ h) (hx : Hid (t ∈ s)) (A : Option Addr) (c : Nat) (w : World) (hA : Reads w A s) :
    Calls Try.prog 47 #[.int .i64 (h : Int), .slice A s.length c, .int .u64 (t : Int)] w fun e w' =>
      ∃ v, e = .returned (.tuple #[v, .int .i64 0]) ∧ w'.ownsRow w.heap.size 30 1 v (remL s t).length (natCells (remL s t)) ∧ Below w.heap.size w w' := by
  have hz := mkHid (decide_eq_true hx.out)
  have hl := hs.out.1
  have HA := mkHid hA
  have HT := mkHid ht
  have HF : Hid (∀ k, (filTo (fun y => decide (y ≠ t)) s k).length ≤ s.length) := mkHid fun k => filTo_le _ _ _
  clear hA ht
  go_enter Try.func47, Try.ntmps47
  go_wp2_with (go_at_call 64; ((with_reducible refine (shas_yes h1 h2 hs HT.out hz _ _ _ HA.out).mono ?_); rintro e w' ⟨rfl, hw'⟩; obtain rfl := hw'.symm))
  go_loopw [10, 27] (fun v i wr => ∃ (k : Nat) (S : List Nat), k ≤ s.length ∧ i = .int .i64 (k : Int) ∧ Hid (S = filTo (fun y => decide (y ≠ t)) s k) ∧ Hid (RowOf wr w.heap.size v S) ∧ Hid (Below w.heap.size w wr)) (fun _ i _ => s.length - (intOf i).toNat)
  case atStart => exact ⟨0, [], by omega, rfl, rfl, World.ownsRow_nil _ _ _ _, Below.refl _ _⟩
  case round =>
    obtain ⟨k, S, hk, rfl, hS, hR, hB⟩ := hrel
    have hSl : S.length ≤ s.length := by rw [hS.out]; exact HF.out k
    by_cases hlt : k < s.length
    · obtain ⟨ad, rfl, hc⟩ := (HA.out.below hB.out).cell k hlt
      obtain ⟨x, hx⟩ : ∃ x, Hid (s.getD k 0 = x) := ⟨_, mkHid rfl⟩
      rw [hx.out] at hc
      by_cases e : x = t
      · have e1 : ((x : Int) != (t : Int)) = false := by rw [e]; simp
        have e2 : decide (x ≠ t) = false := decide_eq_false (fun c => c e)
        have e3 : (x != t) = false := by rw [e]; simp
        have hS' : Hid (S = filTo (fun y => decide (y ≠ t)) s (k + 1)) := mkHid (by rw [filTo_not hlt hx.out e2, hS.out])
        clear hS e
        go_wp2_with fail
        go_roundw
        case rel => exact ⟨k + 1, S, by omega, by go_num, hS', hR, hB⟩
        case measure => simp [intOf]; omega
      · have e1 : ((x : Int) != (t : Int)) = true := bne_iff_ne.2 (by omega)
        have e2 : decide (x ≠ t) = true := decide_eq_true e
        have e3 : (x != t) = true := bne_iff_ne.2 e
        have hS' : Hid (S ++ [x] = filTo (fun y => decide (y ≠ t)) s (k + 1)) := mkHid (by rw [filTo_yes hlt hx.out e2, hS.out])
        clear hS
        go_wp2_with (at_builtin; refine wpList_append_u64 (by first | rfl | simp [Region.wanted, yielded]) _ _ rfl w.heap.size _ S rfl (hR.out.alloc _) _ _ [x] rfl (Reads.one _ _) (fun e => by cases e) (by simp; omega) (by have := hB.out.size; simp; omega) ?_; intro v2 w2 ho2 hb2)
        have HR2 : Hid (RowOf w2 w.heap.size v2 (S ++ [x])) := mkHid ho2
        have HB2 := mkHid ((hB.out.alloc hB.out.size (.cells #[.int .u64 (x : Int)] 30)).trans hb2)
        clear ho2 hb2 hR hB
        go_wp2_with fail
        go_roundw
        case rel => exact ⟨k + 1, _, by omega, by go_num, hS', HR2, HB2⟩
        case measure => simp [intOf]; omega
    · obtain rfl : k = s.length := by omega
      have HE : Hid (S = remL s t) := mkHid (by rw [hS.out, filTo_all]; rfl)
      clear hS
      go_wp2_with fail
      go_ret2
      exact ⟨u10, by simp, by rw [← HE.out]; exact hR.out, hB.out⟩
set_option maxHeartbeats 400000 in
theorem swithout_none {h : Nat} (h1 : 1 ≤ h) (h2 : h ≤ 32) {s : List Nat} (hs : Hid (SetOk h s)) {t : Nat} (ht : t < 2 ^ h) (hx : Hid (t ∉ s)) (A : Option Addr) (c : Nat) (w : World) (hA : Reads w A s) :
    Calls Try.prog 47 #[.int .i64 (h : Int), .slice A s.length c, .int .u64 (t : Int)] w fun e w' => e = .returned (.tuple #[.slice none 0 0, .int .i64 4]) ∧ w' = w := by
  have hz := mkHid (decide_eq_false hx.out)
  have HA := mkHid hA
  have HT := mkHid ht
  clear hA ht
  go_enter Try.func47, Try.ntmps47
  go_wp2_with (go_at_call 64; ((with_reducible refine (shas_yes h1 h2 hs HT.out hz _ _ _ HA.out).mono ?_); rintro e w' ⟨rfl, hw'⟩; obtain rfl := hw'.symm))
  go_ret2
  exact ⟨by simp, rfl⟩
set_option maxHeartbeats 400000 in
theorem swithout_no {h : Int} {s : List Nat} {t : Nat} (R : Refuses h s t) (A : Option Addr) (c : Nat) (w : World) (hA : Reads w A s) :
    Calls Try.prog 47 #[.int .i64 h, .slice A s.length c, .int .u64 (t : Int)] w fun e w' => e = .returned (.tuple #[.slice none 0 0, .int .i64 1]) ∧ w' = w := by
  have HA := mkHid hA
  have HR := mkHid R
  clear hA R
  go_enter Try.func47, Try.ntmps47
  go_wp2_with (go_at_call 64; ((with_reducible refine (shas_no HR.out _ _ _ HA.out).mono ?_); rintro e w' ⟨rfl, hw'⟩; obtain rfl := hw'.symm))
  go_ret2
  exact ⟨by simp, rfl⟩
end Go.Proofs.Ytmehbonjpmlmfaa

namespace Go.Proofs.Ytmehbonjpmlmfaa
open Go.RowKit

/-- a list of the call's own, and an error's number -/
def WPost (L : List Nat) (r : Int) (w : World) (e : Ending) (w' : World) : Prop := ∃ v, e = .returned (.tuple #[v, .int .i64 r]) ∧ RowOf w' w.heap.size v L ∧ Below w.heap.size w w'
theorem WPost.none {f : FuncId} {a : Array Value} {r : Int} {w : World} (k : Calls Try.prog f a w fun e w' => e = .returned (.tuple #[.slice none 0 0, .int .i64 r]) ∧ w' = w) : Calls Try.prog f a w (WPost [] r w) :=
  k.mono fun _ w' ⟨h1, h2⟩ => ⟨_, h1, by subst h2; exact World.ownsRow_nil _ _ _ _, by subst h2; exact Below.refl _ _⟩
theorem refuses_or (h : Int) (s : List Nat) (t : Nat) : Refuses h s t ∨ ∃ k : Nat, h = (k : Int) ∧ 1 ≤ k ∧ k ≤ 32 ∧ SetOk k s ∧ t < 2 ^ k := by
  by_cases c : (1 ≤ h ∧ h ≤ 32) ∧ SetOk h.toNat s ∧ t < 2 ^ h.toNat
  · exact .inr ⟨h.toNat, by omega, by omega, by omega, c.2.1, c.2.2⟩
  · exact .inl ⟨c⟩
instance (h : Nat) (s : List Nat) (k : Nat) : Decidable (OkTo h s k) := by unfold OkTo; infer_instance
instance (h : Nat) (s : List Nat) : Decidable (SetOk h s) := by unfold SetOk; infer_instance
/-- what With answers -/
def withAns (s : List Nat) (t : Nat) : List Nat × Int := if t ∈ s then ([], 5) else if s.length = 1024 then ([], 6) else (addL s t, 0)
def withoutAns (s : List Nat) (t : Nat) : List Nat × Int := if t ∈ s then (remL s t, 0) else ([], 4)
def withAll (h : Int) (s : List Nat) (t : Nat) : List Nat × Int := if (1 ≤ h ∧ h ≤ 32) ∧ SetOk h.toNat s ∧ t < 2 ^ h.toNat then withAns s t else ([], 1)
def withoutAll (h : Int) (s : List Nat) (t : Nat) : List Nat × Int := if (1 ≤ h ∧ h ≤ 32) ∧ SetOk h.toNat s ∧ t < 2 ^ h.toNat then withoutAns s t else ([], 1)
def hasAll (h : Int) (s : List Nat) (t : Nat) : Bool × Int := if (1 ≤ h ∧ h ≤ 32) ∧ SetOk h.toNat s ∧ t < 2 ^ h.toNat then (decide (t ∈ s), 0) else (false, 1)
def checkAll (h : Int) (s : List Nat) : Int := if (1 ≤ h ∧ h ≤ 32) ∧ SetOk h.toNat s then 0 else 1
theorem with_all (h : Int) (s : List Nat) (t : Nat) {L : List Nat} {r : Int} (e : Hid (withAll h s t = (L, r))) (A : Option Addr) (c : Nat) (w : World) (hA : Reads w A s) :
    Calls Try.prog 54 #[.int .i64 h, .slice A s.length c, .int .u64 (t : Int)] w (WPost L r w) := by
  have e' := e.out
  unfold withAll at e'
  split at e'
  · rename_i c0
    obtain ⟨n, rfl⟩ : ∃ n : Nat, h = n := ⟨h.toNat, by omega⟩
    rw [Int.toNat_natCast] at c0
    obtain ⟨⟨h1, h2⟩, hs, ht⟩ := c0
    unfold withAns at e'
    split at e'
    · rename_i hx; cases e'; exact WPost.none (with_there (by omega) (by omega) (mkHid hs) ht (mkHid hx) A c w hA)
    · rename_i hx
      split at e'
      · rename_i hl; cases e'; exact WPost.none (with_full (by omega) (by omega) (mkHid hs) ht (mkHid hx) hl A c w hA)
      · rename_i hl; cases e'; exact with_yes (by omega) (by omega) (mkHid hs) ht (mkHid hx) (by have := hs.1; omega) A c w hA
  · rename_i c0; cases e'; exact WPost.none (with_no ⟨c0⟩ A c w hA)
theorem swith_all (h : Int) (s : List Nat) (t : Nat) {L : List Nat} {r : Int} (e : Hid (withAll h s t = (L, r))) (A : Option Addr) (c : Nat) (w : World) (hA : Reads w A s) :
    Calls Try.prog 46 #[.int .i64 h, .slice A s.length c, .int .u64 (t : Int)] w (WPost L r w) := by
  have e' := e.out
  unfold withAll at e'
  split at e'
  · rename_i c0
    obtain ⟨n, rfl⟩ : ∃ n : Nat, h = n := ⟨h.toNat, by omega⟩
    rw [Int.toNat_natCast] at c0
    obtain ⟨⟨h1, h2⟩, hs, ht⟩ := c0
    unfold withAns at e'
    split at e'
    · rename_i hx; cases e'; exact WPost.none (swith_there (by omega) (by omega) (mkHid hs) ht (mkHid hx) A c w hA)
    · rename_i hx
      split at e'
      · rename_i hl; cases e'; exact WPost.none (swith_full (by omega) (by omega) (mkHid hs) ht (mkHid hx) hl A c w hA)
      · rename_i hl; cases e'; exact swith_yes (by omega) (by omega) (mkHid hs) ht (mkHid hx) (by have := hs.1; omega) A c w hA
  · rename_i c0; cases e'; exact WPost.none (swith_no ⟨c0⟩ A c w hA)
theorem without_all (h : Int) (s : List Nat) (t : Nat) {L : List Nat} {r : Int} (e : Hid (withoutAll h s t = (L, r))) (A : Option Addr) (c : Nat) (w : World) (hA : Reads w A s) :
    Calls Try.prog 55 #[.int .i64 h, .slice A s.length c, .int .u64 (t : Int)] w (WPost L r w) := by
  have e' := e.out
  unfold withoutAll at e'
  split at e'
  · rename_i c0
    obtain ⟨n, rfl⟩ : ∃ n : Nat, h = n := ⟨h.toNat, by omega⟩
    rw [Int.toNat_natCast] at c0
    obtain ⟨⟨h1, h2⟩, hs, ht⟩ := c0
    unfold withoutAns at e'
    split at e'
    · rename_i hx; cases e'; exact without_yes (by omega) (by omega) (mkHid hs) ht (mkHid hx) A c w hA
    · rename_i hx; cases e'; exact WPost.none (without_none (by omega) (by omega) (mkHid hs) ht (mkHid hx) A c w hA)
  · rename_i c0; cases e'; exact WPost.none (without_no ⟨c0⟩ A c w hA)
theorem swithout_all (h : Int) (s : List Nat) (t : Nat) {L : List Nat} {r : Int} (e : Hid (withoutAll h s t = (L, r))) (A : Option Addr) (c : Nat) (w : World) (hA : Reads w A s) :
    Calls Try.prog 47 #[.int .i64 h, .slice A s.length c, .int .u64 (t : Int)] w (WPost L r w) := by
  have e' := e.out
  unfold withoutAll at e'
  split at e'
  · rename_i c0
    obtain ⟨n, rfl⟩ : ∃ n : Nat, h = n := ⟨h.toNat, by omega⟩
    rw [Int.toNat_natCast] at c0
    obtain ⟨⟨h1, h2⟩, hs, ht⟩ := c0
    unfold withoutAns at e'
    split at e'
    · rename_i hx; cases e'; exact swithout_yes (by omega) (by omega) (mkHid hs) ht (mkHid hx) A c w hA
    · rename_i hx; cases e'; exact WPost.none (swithout_none (by omega) (by omega) (mkHid hs) ht (mkHid hx) A c w hA)
  · rename_i c0; cases e'; exact WPost.none (swithout_no ⟨c0⟩ A c w hA)
theorem has_all (h : Int) (s : List Nat) (t : Nat) {z : Bool} {r : Int} (e : Hid (hasAll h s t = (z, r))) (A : Option Addr) (c : Nat) (w : World) (hA : Reads w A s) :
    Calls Try.prog 43 #[.int .i64 h, .slice A s.length c, .int .u64 (t : Int)] w fun e w' => e = .returned (.tuple #[.bool z, .int .i64 r]) ∧ w' = w := by
  have e' := e.out
  unfold hasAll at e'
  split at e'
  · rename_i c0
    obtain ⟨n, rfl⟩ : ∃ n : Nat, h = n := ⟨h.toNat, by omega⟩
    rw [Int.toNat_natCast] at c0
    obtain ⟨⟨h1, h2⟩, hs, ht⟩ := c0
    cases e'
    exact has_yes (by omega) (by omega) (mkHid hs) ht (mkHid rfl) A c w hA
  · rename_i c0; cases e'; exact has_no ⟨c0⟩ A c w hA
theorem shas_all (h : Int) (s : List Nat) (t : Nat) {z : Bool} {r : Int} (e : Hid (hasAll h s t = (z, r))) (A : Option Addr) (c : Nat) (w : World) (hA : Reads w A s) :
    Calls Try.prog 64 #[.int .i64 h, .slice A s.length c, .int .u64 (t : Int)] w fun e w' => e = .returned (.tuple #[.bool z, .int .i64 r]) ∧ w' = w := by
  have e' := e.out
  unfold hasAll at e'
  split at e'
  · rename_i c0
    obtain ⟨n, rfl⟩ : ∃ n : Nat, h = n := ⟨h.toNat, by omega⟩
    rw [Int.toNat_natCast] at c0
    obtain ⟨⟨h1, h2⟩, hs, ht⟩ := c0
    cases e'
    exact shas_yes (by omega) (by omega) (mkHid hs) ht (mkHid rfl) A c w hA
  · rename_i c0; cases e'; exact shas_no ⟨c0⟩ A c w hA
theorem check_all (h : Int) (s : List Nat) {r : Int} (e : Hid (checkAll h s = r)) (A : Option Addr) (c : Nat) (w : World) (hA : Reads w A s) :
    Calls Try.prog 44 #[.int .i64 h, .slice A s.length c] w fun e w' => e = .returned (.int .i64 r) ∧ w' = w := by
  have e' := e.out
  unfold checkAll at e'
  by_cases H : 1 ≤ h ∧ h ≤ 32
  · obtain ⟨n, rfl⟩ : ∃ n : Nat, h = n := ⟨h.toNat, by omega⟩
    rw [Int.toNat_natCast] at e'
    split at e'
    · rename_i c0; cases e'; exact lcheck_yes (by omega) (by omega) c0.2 A c w hA
    · rename_i c0; cases e'; exact lcheck_no (by omega) (by omega) (fun q => c0 ⟨H, q⟩) A c w hA
  · rw [if_neg (fun q => H q.1)] at e'
    cases e'
    exact lcheck_bad (by omega) A _ c w
theorem scheck_all (h : Int) (s : List Nat) {r : Int} (e : Hid (checkAll h s = r)) (A : Option Addr) (c : Nat) (w : World) (hA : Reads w A s) :
    Calls Try.prog 51 #[.int .i64 h, .slice A s.length c] w fun e w' => e = .returned (.int .i64 r) ∧ w' = w := by
  have e' := e.out
  unfold checkAll at e'
  by_cases H : 1 ≤ h ∧ h ≤ 32
  · obtain ⟨n, rfl⟩ : ∃ n : Nat, h = n := ⟨h.toNat, by omega⟩
    rw [Int.toNat_natCast] at e'
    split at e'
    · rename_i c0; cases e'; exact scheck_yes (by omega) (by omega) c0.2 A c w hA
    · rename_i c0; cases e'; exact scheck_no (by omega) (by omega) (fun q => c0 ⟨H, q⟩) A c w hA
  · rw [if_neg (fun q => H q.1)] at e'
    cases e'
    exact scheck_bad (by omega) A _ c w
theorem withAll_len {h : Int} {s : List Nat} {t : Nat} {L : List Nat} {r : Int} (e : withAll h s t = (L, r)) : L.length ≤ 1024 := by
  unfold withAll withAns at e
  split at e
  · rename_i c0
    split at e
    · cases e; decide
    · rename_i hx
      split at e
      · cases e; decide
      · rename_i hl
        cases e
        rw [addL_length c0.2.1 hx]
        have := c0.2.1.1
        omega
  · cases e; decide
theorem withoutAll_len {h : Int} {s : List Nat} {t : Nat} {L : List Nat} {r : Int} (e : withoutAll h s t = (L, r)) : L.length ≤ 1024 := by
  unfold withoutAll withoutAns at e
  split at e
  · rename_i c0
    split at e
    · rename_i hx
      cases e
      have := remL_length c0.2.1 hx
      have := c0.2.1.1
      omega
    · cases e; decide
  · cases e; decide
end Go.Proofs.Ytmehbonjpmlmfaa

namespace Go.Proofs.Ytmehbonjpmlmfaa
open Go.RowKit


theorem withAll_ok {h : Int} {s : List Nat} {t : Nat} {L : List Nat} (e : withAll h s t = (L, 0)) : ∃ n : Nat, h = (n : Int) ∧ 1 ≤ n ∧ n ≤ 32 ∧ SetOk n s ∧ t < 2 ^ n ∧ t ∉ s ∧ s.length < 1024 ∧ L = addL s t := by
  unfold withAll withAns at e
  split at e
  · rename_i c0
    split at e
    · cases e
    · rename_i hx
      split at e
      · cases e
      · rename_i hl
        cases e
        have := c0.2.1.1
        exact ⟨h.toNat, by omega, by omega, by omega, c0.2.1, c0.2.2, hx, by omega, rfl⟩
  · cases e
theorem withAll_mk {n : Nat} {s : List Nat} {t : Nat} (h1 : 1 ≤ n) (h2 : n ≤ 32) (hs : SetOk n s) (ht : t < 2 ^ n) (hx : t ∉ s) (hl : s.length ≠ 1024) : withAll (n : Int) s t = (addL s t, 0) := by
  unfold withAll withAns
  rw [if_pos ⟨⟨by omega, by omega⟩, by rw [Int.toNat_natCast]; exact hs, by rw [Int.toNat_natCast]; exact ht⟩, if_neg hx, if_neg hl]
theorem withAll_err {h : Int} {s : List Nat} {t : Nat} {L : List Nat} {r : Int} (e : withAll h s t = (L, r)) (hr : r ≠ 0) : L = [] := by
  unfold withAll withAns at e
  split at e
  · split at e
    · cases e; rfl
    · split at e
      · cases e; rfl
      · cases e; exact absurd rfl hr
  · cases e; rfl
theorem withoutAll_mk {n : Nat} {s : List Nat} {t : Nat} (h1 : 1 ≤ n) (h2 : n ≤ 32) (hs : SetOk n s) (ht : t < 2 ^ n) (hx : t ∈ s) : withoutAll (n : Int) s t = (remL s t, 0) := by
  unfold withoutAll withoutAns
  rw [if_pos ⟨⟨by omega, by omega⟩, by rw [Int.toNat_natCast]; exact hs, by rw [Int.toNat_natCast]; exact ht⟩, if_pos hx]
theorem hasAll_mk {n : Nat} {s : List Nat} {t : Nat} (h1 : 1 ≤ n) (h2 : n ≤ 32) (hs : SetOk n s) (ht : t < 2 ^ n) : hasAll (n : Int) s t = (decide (t ∈ s), 0) := by
  unfold hasAll
  rw [if_pos ⟨⟨by omega, by omega⟩, by rw [Int.toNat_natCast]; exact hs, by rw [Int.toNat_natCast]; exact ht⟩]
theorem checkAll_mk {n : Nat} {s : List Nat} (h1 : 1 ≤ n) (h2 : n ≤ 32) (hs : SetOk n s) : checkAll (n : Int) s = 0 := by
  unfold checkAll
  rw [if_pos ⟨⟨by omega, by omega⟩, by rw [Int.toNat_natCast]; exact hs⟩]
/-- what follows of the first With that goes well -/
structure Back (h : Int) (s L : List Nat) (i : Nat) : Prop where
  out : Hid (withoutAll h L i = (s, 0))
  has : Hid (hasAll h L i = (true, 0))
  check : Hid (checkAll h L = 0)
theorem back_of {h : Int} {s L : List Nat} {i : Nat} (e : withAll h s i = (L, 0)) : Back h s L i := by
  obtain ⟨n, rfl, h1, h2, hs, ht, hx, hl, rfl⟩ := withAll_ok e
  have hL := setOk_addL hs hx hl ht
  have hm : i ∈ addL s i := mem_addL.2 (.inl rfl)
  refine ⟨mkHid ?_, mkHid ?_, mkHid (checkAll_mk h1 h2 hL)⟩
  · rw [withoutAll_mk h1 h2 hL ht hm, rem_add (setOk_iff.1 hs).2.1 hx]
  · rw [hasAll_mk h1 h2 hL ht, decide_eq_true hm]
theorem order_of {h : Int} {s L M : List Nat} {i k : Nat} (e : withAll h s i = (L, 0)) (f : withAll h s k = (M, 0)) (hl : s.length < 1023) (hik : i ≠ k) : ∃ Z, Z.length ≤ 1024 ∧ Hid (withAll h L k = (Z, 0)) ∧ Hid (withAll h M i = (Z, 0)) := by
  obtain ⟨n, rfl, h1, h2, hs, ht, hx, hl1, rfl⟩ := withAll_ok e
  obtain ⟨n', e', _, _, _, ht', hx', hl2, rfl⟩ := withAll_ok f
  obtain rfl : n = n' := by omega
  have hL := setOk_addL hs hx hl1 ht
  have hM := setOk_addL hs hx' hl1 ht'
  have kL : k ∉ addL s i := fun q => by
    rcases mem_addL.1 q with q | q
    · exact hik q.symm
    · exact hx' q
  have iM : i ∉ addL s k := fun q => by
    rcases mem_addL.1 q with q | q
    · exact hik q
    · exact hx q
  have l1 := addL_length hs hx
  have l2 := addL_length hs hx'
  refine ⟨addL (addL s i) k, by rw [addL_length hL kL]; omega, mkHid ?_, mkHid ?_⟩
  · rw [withAll_mk h1 h2 hL ht' kL (by omega)]
  · rw [withAll_mk h1 h2 hM ht iM (by omega), add_add (setOk_iff.1 hs).2.1]
end Go.Proofs.Ytmehbonjpmlmfaa

namespace Go.Proofs.Ytmehbonjpmlmfaa
open Go.RowKit Go.Proofs.YtmehbonjpmlmfaaW.PrintWords

set_option maxHeartbeats 2000000 in
theorem seq_any {s t : List Nat} {z : Bool} (hz : Hid (decide (s = t) = z)) (hn : s.length < 4611686018427387904) (A B : Option Addr) (a b : Nat) (w : World) (hA : Reads w A s) (hB : Reads w B t) :
    Calls Try.prog 45 #[.slice A s.length a, .slice B t.length b] w fun e w' => e = .returned (.bool z) ∧ Below w.heap.size w w' := by
  have HA := mkHid hA
  have HB := mkHid hB
  clear hA hB
  generalize hm : s.length = m at *
  generalize hl : t.length = l at *
  have Hm := mkHid hm
  have Hl := mkHid hl
  clear hm hl
  by_cases c : m = l
  · subst c
    go_enter Try.func45, Try.ntmps45
    go_wp2_with fail
    go_loopw [13] (fun i wr => ∃ k : Nat, k ≤ m ∧ i = .int .i64 (k : Int) ∧ Hid (∀ j, j < k → s.getD j 0 = t.getD j 0) ∧ Hid (Below w.heap.size w wr)) (fun i _ => m - (intOf i).toNat)
    case atStart => exact ⟨0, by omega, rfl, fun j hj => by omega, Below.refl _ _⟩
    case round =>
      obtain ⟨k, hk, rfl, hsame, hBel⟩ := hrel
      by_cases hlt : k < m
      · obtain ⟨ad, rfl, hc⟩ := (HA.out.below hBel.out).cell k (by rw [Hm.out]; exact hlt)
        obtain ⟨bd, rfl, hd⟩ := (HB.out.below hBel.out).cell k (by rw [Hl.out]; exact hlt)
        obtain ⟨x, hx⟩ : ∃ x, Hid (s.getD k 0 = x) := ⟨_, mkHid rfl⟩
        obtain ⟨y, hy⟩ : ∃ y, Hid (t.getD k 0 = y) := ⟨_, mkHid rfl⟩
        rw [hx.out] at hc
        rw [hy.out] at hd
        by_cases e : x = y
        · subst e
          have hsame' : Hid (∀ j, j < k + 1 → s.getD j 0 = t.getD j 0) := mkHid fun j hj => by
            rcases Nat.lt_or_ge j k with c | c
            · exact hsame.out j c
            · obtain rfl : j = k := by omega
              rw [hx.out, hy.out]
          clear hsame
          go_wp2_with fail
          go_quiet (fail)
          go_wp2_with fail
          go_roundw
          case rel => exact ⟨k + 1, by omega, by go_num, hsame', mkHid (below_drewN hBel.out _)⟩
          case measure => simp [intOf]; omega
        · have e1 : ((x : Int) != (y : Int)) = true := bne_iff_ne.2 (by omega)
          have e2 : (x != y) = true := bne_iff_ne.2 e
          obtain rfl : z = false := by
            rw [← hz.out]
            refine decide_eq_false fun q => e ?_
            rw [← hx.out, ← hy.out, q]
          go_wp2_with fail
          go_quiet (fail)
          go_wp2_with fail
          go_ret
          exact ⟨rfl, below_drewN hBel.out _⟩
      · obtain rfl : k = m := by omega
        obtain rfl : z = true := by
          rw [← hz.out]
          refine decide_eq_true (List.ext_getElem (by rw [Hm.out, Hl.out]) fun j h1 h2 => ?_)
          have := hsame.out j (by rw [← Hm.out]; exact h1)
          rwa [getD_eq h1, getD_eq h2] at this
        go_wp2_with fail
        go_ret
        exact ⟨rfl, hBel.out⟩
  · obtain rfl : z = false := by
      rw [← hz.out]
      refine decide_eq_false fun q => c ?_
      rw [← Hm.out, ← Hl.out, q]
    have e1 : ((m : Int) != (l : Int)) = true := bne_iff_ne.2 (by omega)
    have e2 : (m != l) = true := bne_iff_ne.2 c
    have e3 : ((m : Int) == (l : Int)) = false := beq_eq_false_iff_ne.2 (by omega)
    go_enter Try.func45, Try.ntmps45
    go_wp2_with fail
    go_ret
    exact ⟨rfl, Below.refl _ _⟩


/-- a roll, in plain -/
structure RollA where
  h : Int
  room : Int
  s : List Nat
  n : Int
def RollA.zero : RollA := ⟨0, 0, [], 0⟩
def rollBad (room : Int) (s : List Nat) (n : Int) : Prop := room < (s.length : Int) ∨ 1024 < room ∨ n < 0 ∨ 1099511627776 < n
instance (room : Int) (s : List Nat) (n : Int) : Decidable (rollBad room s n) := by unfold rollBad; infer_instance
def rollCheck (h room : Int) (s : List Nat) (n : Int) : Int := if rollBad room s n then 1 else checkAll h s
theorem checkAll_or (h : Int) (s : List Nat) : checkAll h s = 0 ∨ checkAll h s = 1 := by unfold checkAll; split <;> simp
theorem rollCheck_or (h room : Int) (s : List Nat) (n : Int) : rollCheck h room s n = 0 ∨ rollCheck h room s n = 1 := by
  unfold rollCheck
  split
  · exact .inr rfl
  · exact checkAll_or h s
def ROLL (h room : Int) (v : Value) (n : Int) : Value := .agg #[.int .i64 h, .int .i64 room, v, .int .i64 n]

set_option maxRecDepth 100000 in
set_option maxHeartbeats 1000000 in
theorem rchk_bad0 {h room n : Int} {s : List Nat} (h0 : room < (s.length : Int)) (A : Option Addr) (c : Nat) (w : World) (hA : Reads w A s) :
    Calls Try.prog 17 #[.agg #[.int .i64 h, .int .i64 room, .slice A s.length c, .int .i64 n]] w fun e w' => e = .returned (.int .i64 1) ∧ Below w.heap.size w w' := by
  have _HA := mkHid (hA.below ((Below.refl _ _).alloc (Nat.le_refl _) (.cells #[.int .i64 h, .int .i64 room, .slice A s.length c, .int .i64 n] 25)))
  clear hA
  have t0 : decide (room < (s.length : Int)) = true := decide_eq_true (by omega)
  go_enter Try.func17, Try.ntmps17
  go_wp2_with fail
  go_ret
  exact ⟨rfl, (Below.refl _ _).alloc (Nat.le_refl _) _⟩
set_option maxRecDepth 100000 in
set_option maxHeartbeats 1000000 in
theorem rchk_bad1 {h room n : Int} {s : List Nat} (h0 : ¬ (room < (s.length : Int))) (h1 : (1024 : Int) < room) (A : Option Addr) (c : Nat) (w : World) (hA : Reads w A s) :
    Calls Try.prog 17 #[.agg #[.int .i64 h, .int .i64 room, .slice A s.length c, .int .i64 n]] w fun e w' => e = .returned (.int .i64 1) ∧ Below w.heap.size w w' := by
  have _HA := mkHid (hA.below ((Below.refl _ _).alloc (Nat.le_refl _) (.cells #[.int .i64 h, .int .i64 room, .slice A s.length c, .int .i64 n] 25)))
  clear hA
  have t0 : decide (room < (s.length : Int)) = false := decide_eq_false (by omega)
  have t1 : decide ((1024 : Int) < room) = true := decide_eq_true (by omega)
  go_enter Try.func17, Try.ntmps17
  go_wp2_with fail
  go_ret
  exact ⟨rfl, (Below.refl _ _).alloc (Nat.le_refl _) _⟩
set_option maxRecDepth 100000 in
set_option maxHeartbeats 1000000 in
theorem rchk_bad2 {h room n : Int} {s : List Nat} (h0 : ¬ (room < (s.length : Int))) (h1 : ¬ ((1024 : Int) < room)) (h2 : n < 0) (A : Option Addr) (c : Nat) (w : World) (hA : Reads w A s) :
    Calls Try.prog 17 #[.agg #[.int .i64 h, .int .i64 room, .slice A s.length c, .int .i64 n]] w fun e w' => e = .returned (.int .i64 1) ∧ Below w.heap.size w w' := by
  have _HA := mkHid (hA.below ((Below.refl _ _).alloc (Nat.le_refl _) (.cells #[.int .i64 h, .int .i64 room, .slice A s.length c, .int .i64 n] 25)))
  clear hA
  have t0 : decide (room < (s.length : Int)) = false := decide_eq_false (by omega)
  have t1 : decide ((1024 : Int) < room) = false := decide_eq_false (by omega)
  have t2 : decide (n < 0) = true := decide_eq_true (by omega)
  go_enter Try.func17, Try.ntmps17
  go_wp2_with fail
  go_ret
  exact ⟨rfl, (Below.refl _ _).alloc (Nat.le_refl _) _⟩
set_option maxRecDepth 100000 in
set_option maxHeartbeats 1000000 in
theorem rchk_bad3 {h room n : Int} {s : List Nat} (h0 : ¬ (room < (s.length : Int))) (h1 : ¬ ((1024 : Int) < room)) (h2 : ¬ (n < 0)) (h3 : (1099511627776 : Int) < n) (A : Option Addr) (c : Nat) (w : World) (hA : Reads w A s) :
    Calls Try.prog 17 #[.agg #[.int .i64 h, .int .i64 room, .slice A s.length c, .int .i64 n]] w fun e w' => e = .returned (.int .i64 1) ∧ Below w.heap.size w w' := by
  have _HA := mkHid (hA.below ((Below.refl _ _).alloc (Nat.le_refl _) (.cells #[.int .i64 h, .int .i64 room, .slice A s.length c, .int .i64 n] 25)))
  clear hA
  have t0 : decide (room < (s.length : Int)) = false := decide_eq_false (by omega)
  have t1 : decide ((1024 : Int) < room) = false := decide_eq_false (by omega)
  have t2 : decide (n < 0) = false := decide_eq_false (by omega)
  have t3 : decide ((1099511627776 : Int) < n) = true := decide_eq_true (by omega)
  go_enter Try.func17, Try.ntmps17
  go_wp2_with fail
  go_ret
  exact ⟨rfl, (Below.refl _ _).alloc (Nat.le_refl _) _⟩
set_option maxRecDepth 100000 in
set_option maxHeartbeats 1000000 in
theorem rchk_ok {h room n : Int} {s : List Nat} {r : Int} (hb : ¬ (room < (s.length : Int) ∨ (1024 : Int) < room ∨ n < 0 ∨ (1099511627776 : Int) < n)) (e : Hid (checkAll h s = r)) (A : Option Addr) (c : Nat) (w : World) (hA : Reads w A s) :
    Calls Try.prog 17 #[.agg #[.int .i64 h, .int .i64 room, .slice A s.length c, .int .i64 n]] w fun e w' => e = .returned (.int .i64 r) ∧ Below w.heap.size w w' := by
  have HA := mkHid (hA.below ((Below.refl _ _).alloc (Nat.le_refl _) (.cells #[.int .i64 h, .int .i64 room, .slice A s.length c, .int .i64 n] 25)))
  clear hA
  have t0 : decide (room < (s.length : Int)) = false := decide_eq_false (by omega)
  have t1 : decide ((1024 : Int) < room) = false := decide_eq_false (by omega)
  have t2 : decide (n < 0) = false := decide_eq_false (by omega)
  have t3 : decide ((1099511627776 : Int) < n) = false := decide_eq_false (by omega)
  clear hb
  go_enter Try.func17, Try.ntmps17
  go_wp2_with (go_at_call 44; ((with_reducible refine (check_all h s e _ _ _ HA.out).mono ?_); rintro e w' ⟨rfl, hw'⟩; obtain rfl := hw'.symm))
  go_ret
  exact ⟨rfl, (Below.refl _ _).alloc (Nat.le_refl _) _⟩
theorem rchk {h room n : Int} {s : List Nat} {r : Int} (e : Hid (rollCheck h room s n = r)) (A : Option Addr) (c : Nat) (w : World) (hA : Reads w A s) :
    Calls Try.prog 17 #[.agg #[.int .i64 h, .int .i64 room, .slice A s.length c, .int .i64 n]] w fun e w' => e = .returned (.int .i64 r) ∧ Below w.heap.size w w' := by
  have e' := e.out
  unfold rollCheck at e'
  by_cases hb : rollBad room s n
  · rw [if_pos hb] at e'
    subst e'
    unfold rollBad at hb
    by_cases h0 : room < (s.length : Int)
    · exact rchk_bad0 h0 A c w hA
    · by_cases h1 : (1024 : Int) < room
      · exact rchk_bad1 h0 h1 A c w hA
      · by_cases h2 : n < 0
        · exact rchk_bad2 h0 h1 h2 A c w hA
        · exact rchk_bad3 h0 h1 h2 (by omega) A c w hA
  · rw [if_neg hb] at e'
    exact rchk_ok hb (mkHid e') A c w hA

set_option maxRecDepth 100000 in
set_option maxHeartbeats 1000000 in
theorem schk_h {h room n : Int} {s : List Nat} (H : h < 1 ∨ 32 < h) (A : Option Addr) (c : Nat) (w : World) (hA : Reads w A s) :
    Calls Try.prog 25 #[.agg #[.int .i64 h, .int .i64 room, .slice A s.length c, .int .i64 n]] w fun e w' => e = .returned (.int .i64 1) ∧ Below w.heap.size w w' := by
  have _HA := mkHid (hA.below ((Below.refl _ _).alloc (Nat.le_refl _) (.cells #[.int .i64 h, .int .i64 room, .slice A s.length c, .int .i64 n] 25)))
  clear hA
  skip
  go_enter Try.func25, Try.ntmps25
  go_wp2_with (first | (go_at_call 50; ((with_reducible refine (rcheck_root_no H _).mono ?_); rintro e w' ⟨rfl, hw'⟩; obtain rfl := hw'.symm)))
  go_ret
  exact ⟨rfl, (Below.refl _ _).alloc (Nat.le_refl _) _⟩
set_option maxRecDepth 100000 in
set_option maxHeartbeats 1000000 in
theorem schk_c0 {h room n : Int} {s : List Nat} {k : Nat} (hk : Hid (h = (k : Int))) (h1 : 1 ≤ k) (h2 : k ≤ 32) (g : room < 0) (A : Option Addr) (c : Nat) (w : World) (hA : Reads w A s) :
    Calls Try.prog 25 #[.agg #[.int .i64 h, .int .i64 room, .slice A s.length c, .int .i64 n]] w fun e w' => e = .returned (.int .i64 1) ∧ Below w.heap.size w w' := by
  have _HA := mkHid (hA.below ((Below.refl _ _).alloc (Nat.le_refl _) (.cells #[.int .i64 h, .int .i64 room, .slice A s.length c, .int .i64 n] 25)))
  clear hA
  obtain rfl := hk.out
  have t0 : decide (room < 0) = true := decide_eq_true (by omega)
  go_enter Try.func25, Try.ntmps25
  go_wp2_with (first | (go_at_call 50; ((with_reducible refine (rcheck_root h1 h2 _).mono ?_); rintro e w' ⟨rfl, hw'⟩; obtain rfl := hw'.symm)))
  go_ret
  exact ⟨rfl, (Below.refl _ _).alloc (Nat.le_refl _) _⟩
set_option maxRecDepth 100000 in
set_option maxHeartbeats 1000000 in
theorem schk_c1 {h room n : Int} {s : List Nat} {k : Nat} (hk : Hid (h = (k : Int))) (h1 : 1 ≤ k) (h2 : k ≤ 32) (g : 1024 < room) (A : Option Addr) (c : Nat) (w : World) (hA : Reads w A s) :
    Calls Try.prog 25 #[.agg #[.int .i64 h, .int .i64 room, .slice A s.length c, .int .i64 n]] w fun e w' => e = .returned (.int .i64 1) ∧ Below w.heap.size w w' := by
  have _HA := mkHid (hA.below ((Below.refl _ _).alloc (Nat.le_refl _) (.cells #[.int .i64 h, .int .i64 room, .slice A s.length c, .int .i64 n] 25)))
  clear hA
  obtain rfl := hk.out
  have t0 : decide (room < 0) = false := decide_eq_false (by omega)
  have t1 : decide ((1024 : Int) < room) = true := decide_eq_true (by omega)
  go_enter Try.func25, Try.ntmps25
  go_wp2_with (first | (go_at_call 50; ((with_reducible refine (rcheck_root h1 h2 _).mono ?_); rintro e w' ⟨rfl, hw'⟩; obtain rfl := hw'.symm)))
  go_ret
  exact ⟨rfl, (Below.refl _ _).alloc (Nat.le_refl _) _⟩
set_option maxRecDepth 100000 in
set_option maxHeartbeats 1000000 in
theorem schk_set {h room n : Int} {s : List Nat} {k : Nat} (hk : Hid (h = (k : Int))) (h1 : 1 ≤ k) (h2 : k ≤ 32) (g0 : ¬ room < 0) (g1 : ¬ 1024 < room) (e : Hid (checkAll h s = 1)) (A : Option Addr) (c : Nat) (w : World) (hA : Reads w A s) :
    Calls Try.prog 25 #[.agg #[.int .i64 h, .int .i64 room, .slice A s.length c, .int .i64 n]] w fun e w' => e = .returned (.int .i64 1) ∧ Below w.heap.size w w' := by
  have HA := mkHid (hA.below ((Below.refl _ _).alloc (Nat.le_refl _) (.cells #[.int .i64 h, .int .i64 room, .slice A s.length c, .int .i64 n] 25)))
  clear hA
  obtain rfl := hk.out
  have t0 : decide (room < 0) = false := decide_eq_false (by omega)
  have t1 : decide ((1024 : Int) < room) = false := decide_eq_false (by omega)
  go_enter Try.func25, Try.ntmps25
  go_wp2_with (first | (go_at_call 50; ((with_reducible refine (rcheck_root h1 h2 _).mono ?_); rintro e w' ⟨rfl, hw'⟩; obtain rfl := hw'.symm)) | (go_at_call 51; ((with_reducible refine (scheck_all _ s e _ _ _ HA.out).mono ?_); rintro e w' ⟨rfl, hw'⟩; obtain rfl := hw'.symm)))
  go_ret
  exact ⟨rfl, (Below.refl _ _).alloc (Nat.le_refl _) _⟩
set_option maxRecDepth 100000 in
set_option maxHeartbeats 1000000 in
theorem schk_len {h room n : Int} {s : List Nat} {k : Nat} (hk : Hid (h = (k : Int))) (h1 : 1 ≤ k) (h2 : k ≤ 32) (g0 : ¬ room < 0) (g1 : ¬ 1024 < room) (e : Hid (checkAll h s = 0)) (g2 : room < (s.length : Int)) (A : Option Addr) (c : Nat) (w : World) (hA : Reads w A s) :
    Calls Try.prog 25 #[.agg #[.int .i64 h, .int .i64 room, .slice A s.length c, .int .i64 n]] w fun e w' => e = .returned (.int .i64 1) ∧ Below w.heap.size w w' := by
  have HA := mkHid (hA.below ((Below.refl _ _).alloc (Nat.le_refl _) (.cells #[.int .i64 h, .int .i64 room, .slice A s.length c, .int .i64 n] 25)))
  clear hA
  obtain rfl := hk.out
  have t0 : decide (room < 0) = false := decide_eq_false (by omega)
  have t1 : decide ((1024 : Int) < room) = false := decide_eq_false (by omega)
  have t2 : decide (room < (s.length : Int)) = true := decide_eq_true (by omega)
  go_enter Try.func25, Try.ntmps25
  go_wp2_with (first | (go_at_call 50; ((with_reducible refine (rcheck_root h1 h2 _).mono ?_); rintro e w' ⟨rfl, hw'⟩; obtain rfl := hw'.symm)) | (go_at_call 51; ((with_reducible refine (scheck_all _ s e _ _ _ HA.out).mono ?_); rintro e w' ⟨rfl, hw'⟩; obtain rfl := hw'.symm)))
  go_ret
  exact ⟨rfl, (Below.refl _ _).alloc (Nat.le_refl _) _⟩
set_option maxRecDepth 100000 in
set_option maxHeartbeats 1000000 in
theorem schk_n0 {h room n : Int} {s : List Nat} {k : Nat} (hk : Hid (h = (k : Int))) (h1 : 1 ≤ k) (h2 : k ≤ 32) (g1 : ¬ 1024 < room) (e : Hid (checkAll h s = 0)) (g2 : ¬ room < (s.length : Int)) (g3 : n < 0) (A : Option Addr) (c : Nat) (w : World) (hA : Reads w A s) :
    Calls Try.prog 25 #[.agg #[.int .i64 h, .int .i64 room, .slice A s.length c, .int .i64 n]] w fun e w' => e = .returned (.int .i64 1) ∧ Below w.heap.size w w' := by
  have HA := mkHid (hA.below ((Below.refl _ _).alloc (Nat.le_refl _) (.cells #[.int .i64 h, .int .i64 room, .slice A s.length c, .int .i64 n] 25)))
  clear hA
  obtain rfl := hk.out
  have t0 : decide (room < 0) = false := decide_eq_false (by omega)
  have t1 : decide ((1024 : Int) < room) = false := decide_eq_false (by omega)
  have t2 : decide (room < (s.length : Int)) = false := decide_eq_false (by omega)
  have t3 : decide (n < 0) = true := decide_eq_true (by omega)
  go_enter Try.func25, Try.ntmps25
  go_wp2_with (first | (go_at_call 50; ((with_reducible refine (rcheck_root h1 h2 _).mono ?_); rintro e w' ⟨rfl, hw'⟩; obtain rfl := hw'.symm)) | (go_at_call 51; ((with_reducible refine (scheck_all _ s e _ _ _ HA.out).mono ?_); rintro e w' ⟨rfl, hw'⟩; obtain rfl := hw'.symm)))
  go_ret
  exact ⟨rfl, (Below.refl _ _).alloc (Nat.le_refl _) _⟩
set_option maxRecDepth 100000 in
set_option maxHeartbeats 1000000 in
theorem schk_n1 {h room n : Int} {s : List Nat} {k : Nat} (hk : Hid (h = (k : Int))) (h1 : 1 ≤ k) (h2 : k ≤ 32) (g1 : ¬ 1024 < room) (e : Hid (checkAll h s = 0)) (g2 : ¬ room < (s.length : Int)) (g4 : (1099511627776 : Int) < n) (A : Option Addr) (c : Nat) (w : World) (hA : Reads w A s) :
    Calls Try.prog 25 #[.agg #[.int .i64 h, .int .i64 room, .slice A s.length c, .int .i64 n]] w fun e w' => e = .returned (.int .i64 1) ∧ Below w.heap.size w w' := by
  have HA := mkHid (hA.below ((Below.refl _ _).alloc (Nat.le_refl _) (.cells #[.int .i64 h, .int .i64 room, .slice A s.length c, .int .i64 n] 25)))
  clear hA
  obtain rfl := hk.out
  have t0 : decide (room < 0) = false := decide_eq_false (by omega)
  have t1 : decide ((1024 : Int) < room) = false := decide_eq_false (by omega)
  have t2 : decide (room < (s.length : Int)) = false := decide_eq_false (by omega)
  have t3 : decide (n < 0) = false := decide_eq_false (by omega)
  have t4 : decide ((1099511627776 : Int) < n) = true := decide_eq_true (by omega)
  go_enter Try.func25, Try.ntmps25
  go_wp2_with (first | (go_at_call 50; ((with_reducible refine (rcheck_root h1 h2 _).mono ?_); rintro e w' ⟨rfl, hw'⟩; obtain rfl := hw'.symm)) | (go_at_call 51; ((with_reducible refine (scheck_all _ s e _ _ _ HA.out).mono ?_); rintro e w' ⟨rfl, hw'⟩; obtain rfl := hw'.symm)))
  go_ret
  exact ⟨rfl, (Below.refl _ _).alloc (Nat.le_refl _) _⟩
set_option maxRecDepth 100000 in
set_option maxHeartbeats 1000000 in
theorem schk_ok {h room n : Int} {s : List Nat} {k : Nat} (hk : Hid (h = (k : Int))) (h1 : 1 ≤ k) (h2 : k ≤ 32) (g1 : ¬ 1024 < room) (e : Hid (checkAll h s = 0)) (g2 : ¬ room < (s.length : Int)) (g3 : ¬ n < 0) (g4 : ¬ (1099511627776 : Int) < n) (A : Option Addr) (c : Nat) (w : World) (hA : Reads w A s) :
    Calls Try.prog 25 #[.agg #[.int .i64 h, .int .i64 room, .slice A s.length c, .int .i64 n]] w fun e w' => e = .returned (.int .i64 0) ∧ Below w.heap.size w w' := by
  have HA := mkHid (hA.below ((Below.refl _ _).alloc (Nat.le_refl _) (.cells #[.int .i64 h, .int .i64 room, .slice A s.length c, .int .i64 n] 25)))
  clear hA
  obtain rfl := hk.out
  have t0 : decide (room < 0) = false := decide_eq_false (by omega)
  have t1 : decide ((1024 : Int) < room) = false := decide_eq_false (by omega)
  have t2 : decide (room < (s.length : Int)) = false := decide_eq_false (by omega)
  have t3 : decide (n < 0) = false := decide_eq_false (by omega)
  have t4 : decide ((1099511627776 : Int) < n) = false := decide_eq_false (by omega)
  go_enter Try.func25, Try.ntmps25
  go_wp2_with (first | (go_at_call 50; ((with_reducible refine (rcheck_root h1 h2 _).mono ?_); rintro e w' ⟨rfl, hw'⟩; obtain rfl := hw'.symm)) | (go_at_call 51; ((with_reducible refine (scheck_all _ s e _ _ _ HA.out).mono ?_); rintro e w' ⟨rfl, hw'⟩; obtain rfl := hw'.symm)))
  go_ret
  exact ⟨rfl, (Below.refl _ _).alloc (Nat.le_refl _) _⟩
theorem schk {h room n : Int} {s : List Nat} {r : Int} (e : Hid (rollCheck h room s n = r)) (A : Option Addr) (c : Nat) (w : World) (hA : Reads w A s) :
    Calls Try.prog 25 #[.agg #[.int .i64 h, .int .i64 room, .slice A s.length c, .int .i64 n]] w fun e w' => e = .returned (.int .i64 r) ∧ Below w.heap.size w w' := by
  have e' := e.out
  unfold rollCheck at e'
  have bad : ∀ z : Int, rollBad room s n → (if rollBad room s n then 1 else z) = r → r = 1 := fun z b q => by rw [if_pos b] at q; exact q.symm
  by_cases H : h < 1 ∨ 32 < h
  · have hc : checkAll h s = 1 := by unfold checkAll; rw [if_neg (by omega)]
    rw [hc] at e'
    have : r = 1 := by simpa using e'.symm
    subst this
    exact schk_h H A c w hA
  · obtain ⟨k, hk⟩ : ∃ k : Nat, h = (k : Int) := ⟨h.toNat, by omega⟩
    have h1 : 1 ≤ k := by omega
    have h2 : k ≤ 32 := by omega
    have HK := mkHid hk
    by_cases g0 : room < 0
    · obtain rfl := bad _ (by unfold rollBad; omega) e'; exact schk_c0 HK h1 h2 g0 A c w hA
    · by_cases g1 : 1024 < room
      · obtain rfl := bad _ (by unfold rollBad; omega) e'; exact schk_c1 HK h1 h2 g1 A c w hA
      · rcases checkAll_or h s with hc | hc
        · by_cases g2 : room < (s.length : Int)
          · obtain rfl := bad _ (by unfold rollBad; omega) e'; exact schk_len HK h1 h2 g0 g1 (mkHid hc) g2 A c w hA
          · by_cases g3 : n < 0
            · obtain rfl := bad _ (by unfold rollBad; omega) e'; exact schk_n0 HK h1 h2 g1 (mkHid hc) g2 g3 A c w hA
            · by_cases g4 : 1099511627776 < n
              · obtain rfl := bad _ (by unfold rollBad; omega) e'; exact schk_n1 HK h1 h2 g1 (mkHid hc) g2 g4 A c w hA
              · rw [if_neg (by unfold rollBad; omega), hc] at e'; subst e'; exact schk_ok HK h1 h2 g1 (mkHid hc) g2 g3 g4 A c w hA
        · rw [hc] at e'
          have : r = 1 := by simpa using e'.symm
          subst this
          exact schk_set HK h1 h2 g0 g1 (mkHid hc) A c w hA
end Go.Proofs.Ytmehbonjpmlmfaa
