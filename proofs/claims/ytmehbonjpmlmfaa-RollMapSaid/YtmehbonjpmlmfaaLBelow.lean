/- The contract of leaf.Below. -/
import Derived.Test.YtmehbonjpmlmfaaClone
namespace Go.Proofs.Ytmehbonjpmlmfaa
open Go.RowKit

theorem getD_sub (s : List Nat) (f t j : Nat) (h : j < t - f) : ((s.drop f).take (t - f)).getD j 0 = s.getD (f + j) 0 := by
  rw [List.getD_eq_getElem?_getD, List.getD_eq_getElem?_getD, List.getElem?_take, if_pos h, List.getElem?_drop]
theorem Reads.subMap {w : World} {A : Option Addr} {s : List Nat} (h : Reads w A s) (f t : Nat) (ht : t ≤ s.length) : Reads w (A.map fun x => x.add f) ((s.drop f).take (t - f)) := by
  have hl : ((s.drop f).take (t - f)).length = t - f := by rw [List.length_take, List.length_drop]; omega
  by_cases hn : 0 < t - f
  · obtain ⟨⟨b, off, sp⟩, rfl, h0⟩ := h.cell 0 (by omega)
    rw [addr_zero] at h0
    have hsp : sp = none := World.cell?_spot h0
    subst hsp
    have hadd : ∀ o i, (⟨b, o, none⟩ : Addr).add i = ⟨b, o + i, none⟩ := fun o i => by unfold Addr.add; split <;> simp_all
    have hm : s.length ≤ 9223372036854775807 := h.2.1
    refine Reads.of_cells (ad := (⟨b, off, none⟩ : Addr).add f) (by omega) fun j hj => ?_
    rw [hl] at hj
    obtain ⟨ad, e, hc⟩ := h.cell (f + j) (by omega)
    cases e
    rw [getD_sub s f t j hj, hadd, hadd, Nat.add_assoc, ← hadd]
    exact hc
  · have e : (s.drop f).take (t - f) = [] := List.length_eq_zero_iff.1 (by omega)
    rw [e]
    exact ⟨rfl, by decide, fun h => absurd h (by decide)⟩
theorem Reads.subEnd {w : World} (A : Option Addr) {s : List Nat} {f t : Nat} (h : t - f = 0) : Reads w A ((s.drop f).take (t - f)) := by
  have e : (s.drop f).take (t - f) = [] := List.length_eq_zero_iff.1 (by rw [List.length_take]; omega)
  rw [e]
  exact ⟨rfl, by decide, fun h => absurd h (by decide)⟩
theorem _root_.Go.World.ownsRow.base {w : World} {b b' : Nat} {e : TypeId} {size : Nat} {v : Value} {n : Nat} {xs : List Value} (h : w.ownsRow b' e size v n xs) (hb : b ≤ b') : w.ownsRow b e size v n xs := by
  refine ⟨h.1, ?_⟩
  rcases h.2 with ⟨h1, h2⟩ | ⟨g, cap, cur, h1, h2, h3⟩
  · exact .inl ⟨h1, h2⟩
  · exact .inr ⟨g, cap, cur, h1, by omega, h3⟩
theorem Reads.of_row' {w : World} {base : Nat} {v : Value} {s : List Nat} (h : w.ownsRow base 30 1 v s.length (natCells s)) : ∃ A c, v = .slice A s.length c ∧ s.length ≤ c ∧ c ≤ maxLen ∧ Reads w A s ∧ (A = none → c = 0) := by
  rcases h.2 with ⟨rfl, h0⟩ | ⟨g, cap, cur, rfl, _, _, h1, h2, _⟩
  · obtain rfl : s = [] := List.length_eq_zero_iff.1 h0
    exact ⟨none, 0, rfl, Nat.le_refl _, Nat.zero_le _, Reads.nil w, fun _ => rfl⟩
  · exact ⟨_, cap, rfl, h1, h2, Reads.of_cells (by unfold maxLen at h2; omega) fun j hj => by
      have := h.cells (g := g) rfl j _ (natCells_get s j hj)
      exact this, fun e => by cases e⟩
theorem place_zero {h : Nat} {s : List Nat} (_ : SetOk h s) : Place s 0 0 := ⟨Nat.zero_le _, fun j hj => by omega, fun j _ _ => Nat.zero_le _⟩
theorem place_last {h last : Nat} {s : List Nat} (H : SetOk h s) (hl : last + 1 = 2 ^ h) : Place s (last + 1) s.length := ⟨Nat.le_refl _, fun j hj => by rw [hl]; exact (H.2 j hj).1, fun j h1 h2 => by omega⟩
theorem Place.mono {s : List Nat} {t t' k k' : Nat} (P : Place s t k) (Q : Place s t' k') (h : t ≤ t') : k ≤ k' := by
  rcases Nat.lt_or_ge k' k with l | l
  · have a := P.lo k' l
    have b := Q.hi k' (Nat.le_refl _) (by have := P.le; omega)
    omega
  · exact l
end Go.Proofs.Ytmehbonjpmlmfaa
