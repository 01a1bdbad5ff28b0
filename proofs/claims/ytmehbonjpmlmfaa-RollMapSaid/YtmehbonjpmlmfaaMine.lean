/- Lists of leaves of the call's own, that it may write: what is known of their cells. -/
import Derived.Test.YtmehbonjpmlmfaaAppU
namespace Go.Proofs.Ytmehbonjpmlmfaa
open Go.RowKit Go.Proofs.YtmehbonjpmlmfaaW.PrintWords

/-- cells that hold some number of u64 and may be written, in a block that is not older than the base -/
def Mine (w : World) (base : Nat) (A : Option Addr) (n : Nat) : Prop :=
  0 < n → ∃ g, A = some ⟨g, 0, none⟩ ∧ base ≤ g ∧ ∀ j, j < n → (∃ y : Int, w.cell? ⟨g, j, none⟩ = some (.int .u64 y)) ∧ w.frozen? ⟨g, j, none⟩ = false
theorem Mine.of_row {w : World} {base : Nat} {v : Value} {s : List Nat} (h : w.ownsRow base 30 1 v s.length (natCells s)) : ∃ A c, v = .slice A s.length c ∧ s.length ≤ c ∧ Reads w A s ∧ Mine w base A s.length ∧ (A = none → c = 0) := by
  obtain ⟨A, c, rfl, h1, _, h3, h4⟩ := Reads.of_row' h
  refine ⟨A, c, rfl, h1, h3, fun hn => ?_, h4⟩
  rcases h.2 with ⟨hv, h0⟩ | ⟨g, cap, cur, hv, hb, hr⟩
  · omega
  · obtain ⟨e1, _, e3⟩ := Value.slice.inj hv
    subst e1 e3
    refine ⟨g, rfl, hb, fun j hj => ⟨⟨((s.getD j 0 : Nat) : Int), ?_⟩, h.frozenAt j⟩⟩
    rw [h.cellAt j (by omega)]
    exact natCells_get s j hj
theorem Mine.below {w w1 : World} {base n : Nat} {A : Option Addr} (h : Mine w base A n) (hb : Below w.heap.size w w1) : Mine w1 base A n := by
  intro hn
  obtain ⟨g, e, hg, hc⟩ := h hn
  refine ⟨g, e, hg, fun j hj => ?_⟩
  obtain ⟨⟨y, c⟩, f⟩ := hc j hj
  exact ⟨⟨y, keeps hb c⟩, keepsF hb c f⟩
theorem Mine.lt {w : World} {base n : Nat} {A : Option Addr} (h : Mine w base A n) : ∀ g, 0 < n → A = some ⟨g, 0, none⟩ → g < w.heap.size := by
  intro g hn e
  obtain ⟨g', e', _, hc⟩ := h hn
  rw [e] at e'
  cases e'
  obtain ⟨⟨y, c⟩, _⟩ := hc 0 hn
  exact World.block_lt_of_cell? w _ c
/-- a list that lies behind a block stays Mine when that block is written -/
theorem Mine.past {w : World} {base n g : Nat} {A : Option Addr} (h : Mine w base A n) (hg : g < base) (k : Nat) (v : Value) : Mine (w.setCell ⟨g, k, none⟩ v) base A n := by
  intro hn
  obtain ⟨g', rfl, hb, hc⟩ := h hn
  refine ⟨g', rfl, hb, fun j hj => ?_⟩
  obtain ⟨⟨z, c⟩, f⟩ := hc j hj
  exact ⟨⟨z, by rw [World.cell?_setCell_other w _ _ _ (fun e => by have := congrArg Addr.block e; dsimp only at this; omega)]; exact c⟩, by rw [World.frozen?_setCell]; exact f⟩
theorem Mine.set {w : World} {base n g : Nat} (h : Mine w base (some ⟨g, 0, none⟩) n) (k : Nat) (y : Int) : Mine (w.setCell ⟨g, k, none⟩ (.int .u64 y)) base (some ⟨g, 0, none⟩) n := by
  intro hn
  obtain ⟨g', e, hg, hc⟩ := h hn
  cases e
  refine ⟨g, rfl, hg, fun j hj => ?_⟩
  obtain ⟨⟨z, c⟩, f⟩ := hc j hj
  refine ⟨?_, by rw [World.frozen?_setCell]; exact f⟩
  by_cases hk : j = k
  · subst hk
    exact ⟨y, World.cell?_setCell_same _ _ _ c⟩
  · exact ⟨z, by rw [World.cell?_setCell_other w _ _ _ (fun e => hk (congrArg Addr.off e).symm)]; exact c⟩
/-- another list stays Mine when a cell of one is written that lies in another block -/
theorem Mine.other {w : World} {base n : Nat} {A : Option Addr} (h : Mine w base A n) {g : Nat} (hg : ∀ a, A = some a → a.block ≠ g) (k : Nat) (v : Value) : Mine (w.setCell ⟨g, k, none⟩ v) base A n := by
  intro hn
  obtain ⟨g', rfl, hb, hc⟩ := h hn
  have ne := hg _ rfl
  dsimp only at ne
  refine ⟨g', rfl, hb, fun j hj => ?_⟩
  obtain ⟨⟨z, c⟩, f⟩ := hc j hj
  exact ⟨⟨z, by rw [World.cell?_setCell_other w _ _ _ (fun e => ne (congrArg Addr.block e).symm)]; exact c⟩, by rw [World.frozen?_setCell]; exact f⟩
theorem Reads.other {w : World} {A : Option Addr} {s : List Nat} (h : Reads w A s) {b : Nat} (hb : ∀ a, A = some a → a.block < b) {g : Nat} (hg : b ≤ g) (k : Nat) (v : Value) : Reads (w.setCell ⟨g, k, none⟩ v) A s := by
  rcases Nat.eq_zero_or_pos s.length with h0 | h0
  · obtain rfl : s = [] := List.length_eq_zero_iff.1 h0
    exact ⟨rfl, by decide, fun h => absurd h (by decide)⟩
  · obtain ⟨ad, rfl, _⟩ := h.cell 0 h0
    have hB := hb _ rfl
    refine Reads.of_cells h.2.1 fun j hj => ?_
    obtain ⟨ad', e, c⟩ := h.cell j hj
    cases e
    rw [World.cell?_setCell_other _ _ _ _ ?_]
    · exact c
    · intro e
      have := congrArg Addr.block e
      unfold Addr.add at this
      split at this <;> simp at this <;> omega
end Go.Proofs.Ytmehbonjpmlmfaa
