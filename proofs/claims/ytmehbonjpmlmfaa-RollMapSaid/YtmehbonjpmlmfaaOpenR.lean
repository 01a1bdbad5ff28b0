/- Opening the arguments of a row: rolls. -/
import Derived.Test.YtmehbonjpmlmfaaOpenS
namespace Go.Proofs.Ytmehbonjpmlmfaa
open Go.ChangeShapes Go.WideShapes Go.ChangeAt Go.RowKit Go.Deep Go.Lib

section
variable {H : Type} {enc : TypeId × Value → H} {w : World} {r : Reach} {b0 base : Nat} {held : Bool}
theorem leaves_cells {fuel : Nat} {v : Value} {x : DataW H × List MemPlace} (hf : DataW.trod enc Try.prog w base (fun _ => true) held fuel 22 [v] = some x) :
    ∃ (a : Option Addr) (s : List Nat) (cap : Nat), v = .slice a s.length cap ∧ s.length ≤ cap ∧ cap ≤ maxLen ∧ Reads w a s ∧ (∀ j, s.getD j 0 < 18446744073709551616) ∧ (a = none → cap = 0) := by
  rcases open_ints Try.underlying22 Try.underlying30 cells_u64' hf with ⟨hcs, _⟩ | ⟨x, l, c, z, hcs, _, hl, hm, hz, _, hcell, hwz⟩
  · simp at hcs
    subst hcs
    exact ⟨none, [], 0, rfl, Nat.le_refl _, by unfold maxLen; omega, Reads.nil _, fun j => by simp, fun _ => rfl⟩
  · simp at hcs
    subst hcs
    simp only [if_true] at hz
    have hlen : ((z.take l).map Int.toNat).length = l := by simp; omega
    have hget : ∀ j, j < l → ∃ y : Nat, z.getD j 0 = (y : Int) ∧ ((z.take l).map Int.toNat).getD j 0 = y ∧ y < 18446744073709551616 := by
      intro j hj
      have hzi : z.getD j 0 = z[j]'(by omega) := by simp [List.getD, List.getElem?_eq_getElem (show j < z.length by omega)]
      have hw := hwz _ (List.getElem_mem (show j < z.length by omega))
      obtain ⟨y, hy, hy2⟩ := nat_u64 hw
      refine ⟨y, by rw [hzi, hy], ?_, hy2⟩
      rw [List.getD_eq_getElem?_getD, List.getElem?_map, List.getElem?_take, if_pos hj, List.getElem?_eq_getElem (show j < z.length by omega), hy]
      simp
    refine ⟨some x, (z.take l).map Int.toNat, c, by rw [hlen], by omega, hm, ?_, fun j => ?_, fun e => by cases e⟩
    · refine Reads.of_cells (by rw [hlen]; unfold maxLen at hm; omega) fun j hj => ?_
      rw [hlen] at hj
      obtain ⟨y, e1, e2, _⟩ := hget j hj
      rw [e2, ← e1]
      exact hcell j (by omega)
    · by_cases hj : j < l
      · obtain ⟨y, _, e2, e3⟩ := hget j hj
        rw [e2]; exact e3
      · rw [List.getD_eq_getElem?_getD, List.getElem?_eq_none (by omega)]; decide
set_option maxRecDepth 100000 in
theorem open_leavesc {v : Value} {d : DataW H} {p : List MemPlace} (hv : Value.okWide Try.prog w r b0 22 v) (h : DataW.Trod enc Try.prog w base (fun _ => true) held 22 v d p) :
    ∃ (a : Option Addr) (s : List Nat) (cap : Nat), v = .slice a s.length cap ∧ s.length ≤ cap ∧ cap ≤ maxLen ∧ Reads w a s ∧ (∀ j, s.getD j 0 < 18446744073709551616) := by
  obtain ⟨a, len, cap, rfl⟩ := okWide_slice Try.underlying22 hv
  obtain ⟨fuel, hf⟩ := h
  obtain ⟨a', s, cap', e, h1, h2, h3, h4, _⟩ := leaves_cells (v := .slice a len cap) (by simpa [Value.cells] using hf)
  exact ⟨a', s, cap', e, h1, h2, h3, h4⟩
set_option maxRecDepth 100000 in
theorem open_roll {v : Value} {d : DataW H} {p : List MemPlace} (hv : Value.okWide Try.prog w r b0 25 v) (h : DataW.Trod enc Try.prog w base (fun _ => true) held 25 v d p) :
    ∃ (x y n : Int) (a : Option Addr) (s : List Nat) (cap : Nat), v = .agg #[.int .i64 x, .int .i64 y, .slice a s.length cap, .int .i64 n] ∧ (Lit.int .i64 n).wf = true ∧ s.length ≤ cap ∧ cap ≤ maxLen ∧ Reads w a s ∧ (a = none → cap = 0) := by
  obtain ⟨v0, v1, v2, v3, y0, y1, y2, y3, m, rfl, _, _, h0, h1, h2, h3⟩ := Joins.open_agg4 Try.underlying25 (by kernel_rfl) (by kernel_rfl) hv h
  obtain ⟨n0, q0, _, w0⟩ := DataW.trod_int Try.underlying3 h0
  obtain ⟨n1, q1, _, w1⟩ := DataW.trod_int Try.underlying3 h1
  obtain ⟨n3, q3, _, w3⟩ := DataW.trod_int Try.underlying2 h3
  obtain ⟨a, s, cap, e, g1, g2, g3, _, g5⟩ := leaves_cells h2
  simp at q0 q1 q3
  subst q0 q1 q3 e
  exact ⟨n0, n1, n3, a, s, cap, rfl, w3, g1, g2, g3, g5⟩
end
end Go.Proofs.Ytmehbonjpmlmfaa
