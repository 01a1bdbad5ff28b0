/- Rows that an append has made: octets. -/
import Derived.Test.YtdaodopeodheeaaKit
import Derived.Laws.AppendOwnNone
import Derived.Deep.RegionLawGrows
namespace Go.Proofs.Ytdaodopeodheeaa
open Go.RowKit

theorem info_u8 : (Try.prog.info? 5).map (fun i => (i.zero, i.size, i.bytes)) = some (some (.int .u8 0), 1, 1) := by kernel_rfl
theorem ownsRow_base {w : World} {base : Nat} {e : TypeId} {g n cp : Nat} {xs : List Value} (h : w.ownsRow base e 1 (.slice (some ⟨g, 0, none⟩) n cp) n xs) : base ≤ g ∧ g < w.heap.size := by
  rcases h.2 with ⟨h', _⟩ | ⟨g', cp', cur, hv, hb, hh, _⟩
  · simp at h'
  · simp only [Value.slice.injEq, Option.some.injEq, Addr.mk.injEq, and_true, true_and] at hv
    obtain ⟨rfl, rfl⟩ := hv
    exact ⟨hb, (Array.getElem?_eq_some_iff.1 hh).1⟩
theorem ownsRow_pos {w : World} {base : Nat} {e : TypeId} {size : Nat} {v : Value} {n : Nat} {xs : List Value} (h : w.ownsRow base e size v n xs) (hn : 0 < n) :
    ∃ g cp, v = .slice (some ⟨g, 0, none⟩) n cp ∧ n ≤ cp ∧ cp ≤ maxLen := by
  rcases h.2 with ⟨_, h0⟩ | ⟨g, cp, cur, hv, _, _, h1, h2, _⟩
  · omega
  · exact ⟨g, cp, hv, h1, h2⟩
theorem ownsRow_first {w : World} {base : Nat} {e : TypeId} {g n cp : Nat} {xs : List Value} (h : w.ownsRow base e 1 (.slice (some ⟨g, 0, none⟩) n cp) n xs) (hn : 0 < n) :
    w.cell? ⟨g, 0, none⟩ = some (xs[0]'(by have := h.1; omega)) := by
  have hl := h.1
  rw [h.cellAt 0 (by omega), List.getElem?_eq_getElem (by omega)]
theorem Bytes.of_row {w : World} {base : Nat} {e : TypeId} {g n cp : Nat} {l : List (BitVec 8)} (h : w.ownsRow base e 1 (.slice (some ⟨g, 0, none⟩) n cp) n (l.map fun x => Value.int .u8 (B x))) : Bytes w (some ⟨g, 0, none⟩) l := by
  have hl := h.1
  rw [List.length_map] at hl
  refine .inr ⟨g, 0, rfl, fun i hi => ?_⟩
  rw [Nat.zero_add, h.cellAt i (by omega)]
  simp [List.getD, List.getElem?_eq_getElem hi]
theorem Bytes.news {w wc : World} {b off : Nat} {l : List (BitVec 8)} (h : Bytes w (some ⟨b, off, none⟩) l) (_h0 : 0 < l.length) (hb : Below w.heap.size w wc) :
    ∀ (j : Nat) (u : Value), (l.map fun x => Value.int .u8 (B x))[j]? = some u → wc.cell? ((⟨b, off, none⟩ : Addr).add j) = some u := by
  intro j u hu
  rcases h with rfl | ⟨b', off', he, hc⟩
  · simp at hu
  · simp only [Option.some.injEq, Addr.mk.injEq, and_true] at he
    obtain ⟨rfl, rfl⟩ := he
    have hj : j < l.length := by
      rcases Nat.lt_or_ge j l.length with h | h
      · exact h
      · rw [List.getElem?_eq_none (by simpa using h)] at hu; cases hu
    have hadd : (⟨b, off, none⟩ : Addr).add j = ⟨b, off + j, none⟩ := by unfold Addr.add; split <;> simp_all
    rw [hadd, keeps hb (hc j hj)]
    rw [List.getElem?_map, List.getElem?_eq_getElem hj] at hu
    simp only [Option.map_some, Option.some.injEq] at hu
    rw [← hu]
    simp [List.getD, List.getElem?_eq_getElem hj]

end Go.Proofs.Ytdaodopeodheeaa
