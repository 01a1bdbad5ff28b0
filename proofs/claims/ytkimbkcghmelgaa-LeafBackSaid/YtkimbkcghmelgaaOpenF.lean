/- Opening the arguments of a row: lists of leaves, lists of spans. -/
import Derived.Test.YtkimbkcghmelgaaOpenL
import Derived.Test.YtkimbkcghmelgaaLeafS
import Derived.Deep.SlicePairs
namespace Go.Proofs.Ytkimbkcghmelgaa
open Go.ChangeShapes Go.WideShapes Go.ChangeAt Go.RowKit Go.Deep

theorem cells_u64' : Try.prog.cellsOf 22 = 1 := by kernel_rfl
theorem cells_span : Try.prog.cellsOf 25 = 2 := by kernel_rfl
section
variable {H : Type} {enc : TypeId × Value → H} {w : World} {r : Reach} {b0 base : Nat} {spare : Nat → Bool} {held : Bool}

theorem open_leavesn {v : Value} {d : DataW H} {p : List MemPlace} (hv : Value.okWide Try.prog w r b0 49 v) (h : DataW.Trod enc Try.prog w base (fun _ => true) held 49 v d p) :
    ∃ (a : Option Addr) (s : List Nat) (cap : Nat), v = .slice a s.length cap ∧ s.length ≤ cap ∧ cap ≤ maxLen ∧ Reads w a s ∧ (∀ j, s.getD j 0 < 18446744073709551616) ∧ (a = none → cap = 0) := by
  obtain ⟨a, len, cap, rfl⟩ := okWide_slice Try.underlying49 hv
  obtain ⟨fuel, hf⟩ := h
  rcases open_ints Try.underlying49 Try.underlying22 cells_u64' hf with ⟨hcs, _⟩ | ⟨x, l, c, z, hcs, _, hl, hm, hz, _, hcell, hwz⟩
  · simp [Value.cells] at hcs
    obtain ⟨rfl, rfl, rfl⟩ := hcs
    exact ⟨none, [], 0, rfl, Nat.le_refl _, by unfold maxLen; omega, Reads.nil _, fun j => by simp, fun _ => rfl⟩
  · simp [Value.cells] at hcs
    obtain ⟨rfl, rfl, rfl⟩ := hcs
    simp only [if_true] at hz
    have hlen : ((z.take len).map Int.toNat).length = len := by simp; omega
    have hget : ∀ j, j < len → ∃ y : Nat, z.getD j 0 = (y : Int) ∧ ((z.take len).map Int.toNat).getD j 0 = y ∧ y < 18446744073709551616 := by
      intro j hj
      have hzi : z.getD j 0 = z[j]'(by omega) := by simp [List.getD, List.getElem?_eq_getElem (show j < z.length by omega)]
      have hw := hwz _ (List.getElem_mem (show j < z.length by omega))
      obtain ⟨y, hy, hy2⟩ := nat_u64 hw
      refine ⟨y, by rw [hzi, hy], ?_, hy2⟩
      rw [List.getD_eq_getElem?_getD, List.getElem?_map, List.getElem?_take, if_pos hj, List.getElem?_eq_getElem (show j < z.length by omega), hy]
      simp
    refine ⟨some x, (z.take len).map Int.toNat, cap, by rw [hlen], by omega, hm, ?_, fun j => ?_, fun e => by cases e⟩
    · refine Reads.of_cells (by rw [hlen]; unfold maxLen at hm; omega) fun j hj => ?_
      rw [hlen] at hj
      obtain ⟨y, e1, e2, _⟩ := hget j hj
      rw [e2, ← e1]
      exact hcell j (by omega)
    · by_cases hj : j < len
      · obtain ⟨y, _, e2, e3⟩ := hget j hj
        rw [e2]; exact e3
      · rw [List.getD_eq_getElem?_getD, List.getElem?_eq_none (by omega)]; decide
theorem open_leaves {v : Value} {d : DataW H} {p : List MemPlace} (hv : Value.okWide Try.prog w r b0 49 v) (h : DataW.Trod enc Try.prog w base (fun _ => true) held 49 v d p) :
    ∃ (a : Option Addr) (s : List Nat) (cap : Nat), v = .slice a s.length cap ∧ s.length ≤ cap ∧ cap ≤ maxLen ∧ Reads w a s ∧ (∀ j, s.getD j 0 < 18446744073709551616) := by
  obtain ⟨a, s, cap, h1, h2, h3, h4, h5, _⟩ := open_leavesn hv h
  exact ⟨a, s, cap, h1, h2, h3, h4, h5⟩
theorem open_spans {v : Value} {d : DataW H} {p : List MemPlace} (hv : Value.okWide Try.prog w r b0 46 v) (h : DataW.Trod enc Try.prog w base (fun _ => true) held 46 v d p) :
    ∃ (a : Option Addr) (l : List (Nat × Nat)) (cap : Nat), v = .slice a l.length cap ∧ l.length ≤ cap ∧ cap ≤ maxLen ∧ Spans w a l := by
  obtain ⟨a, len, cap, rfl⟩ := okWide_slice Try.underlying46 hv
  obtain ⟨fuel, hf⟩ := h
  rcases open_slice_pairs Try.underlying46 Try.underlying25 cells_span rfl rfl cells_u64' cells_u64' hf with ⟨hcs, _⟩ | ⟨x, l, c, m, n, V0, V1, D0, D1, P0, P1, hcs, _, hl, hm, hmm, _, hall⟩
  · simp [Value.cells] at hcs
    obtain ⟨rfl, rfl, rfl⟩ := hcs
    exact ⟨none, [], 0, rfl, Nat.le_refl _, by unfold maxLen; omega, by decide, fun h => by simp at h⟩
  · simp [Value.cells] at hcs
    obtain ⟨rfl, rfl, rfl⟩ := hcs
    simp only [if_true] at hmm
    have hint : ∀ (u : Value) (D : DataW H) (Q : List MemPlace), DataW.trod enc Try.prog w base (fun _ => true) held n 22 [u] = some (D, Q) → ∃ y : Nat, u = .int .u64 (y : Int) := by
      intro u D Q hu
      obtain ⟨k, q, _, wf⟩ := DataW.trod_int Try.underlying22 hu
      simp at q
      obtain ⟨y, rfl, _⟩ := nat_u64 wf
      exact ⟨y, q⟩
    have each : ∀ i : Nat, ∃ y : Nat × Nat, i < m → w.cell? (x.add (i * 2)) = some (.int .u64 (y.1 : Int)) ∧ w.cell? (x.add (i * 2 + 1)) = some (.int .u64 (y.2 : Int)) := by
      intro i
      by_cases hi : i < m
      · obtain ⟨h0, h1, t0, t1⟩ := hall i hi
        obtain ⟨y0, e0⟩ := hint _ _ _ t0
        obtain ⟨y1, e1⟩ := hint _ _ _ t1
        exact ⟨(y0, y1), fun _ => ⟨by rw [h0, e0], by rw [h1, e1]⟩⟩
      · exact ⟨(0, 0), fun h => absurd h hi⟩
    obtain ⟨f, hfun⟩ := Classical.axiomOfChoice each
    have hlen : ((List.range len).map f).length = len := by simp
    refine ⟨some x, (List.range len).map f, cap, by rw [hlen], by omega, hm, by rw [hlen]; unfold maxLen at hm; omega, fun _ => ⟨x, rfl, fun j hj => ?_⟩⟩
    rw [hlen] at hj
    have e : ((List.range len).map f).getD j (0, 0) = f j := by
      rw [List.getD_eq_getElem?_getD, List.getElem?_map, List.getElem?_range hj]; rfl
    rw [e]
    exact hfun j (by omega)
end
end Go.Proofs.Ytkimbkcghmelgaa
