/- slices.Clone at uint64. -/
import Derived.Test.YtmehbonjpmlmfaaHas
import Derived.Lib.SliceRun
namespace Go.Proofs.Ytmehbonjpmlmfaa
open Go.RowKit

def natCells (s : List Nat) : List Value := s.map fun (x : Nat) => Value.int .u64 (x : Int)
theorem natCells_length (s : List Nat) : (natCells s).length = s.length := by simp [natCells]
theorem natCells_get (s : List Nat) (j : Nat) (h : j < s.length) : (natCells s)[j]? = some (.int .u64 ((s.getD j 0 : Nat) : Int)) := by
  unfold natCells
  rw [List.getElem?_map, List.getD_eq_getElem?_getD, List.getElem?_eq_getElem h]; rfl
theorem info_u64 : (Try.prog.info? 30).map (fun i => (i.zero, i.size, i.bytes)) = some (some (.int .u64 0), 1, 8) := by kernel_rfl
theorem Reads.of_row {w : World} {base : Nat} {v : Value} {s : List Nat} (h : w.ownsRow base 30 1 v s.length (natCells s)) : ∃ A c, v = .slice A s.length c ∧ s.length ≤ c ∧ c ≤ maxLen ∧ Reads w A s := by
  rcases h.2 with ⟨rfl, h0⟩ | ⟨g, cap, cur, rfl, _, _, h1, h2, _⟩
  · obtain rfl : s = [] := List.length_eq_zero_iff.1 h0
    exact ⟨none, 0, rfl, Nat.le_refl _, Nat.zero_le _, Reads.nil w⟩
  · exact ⟨_, cap, rfl, h1, h2, Reads.of_cells (by unfold maxLen at h2; omega) fun j hj => by
      have := h.cells (g := g) rfl j _ (natCells_get s j hj)
      exact this⟩
theorem Reads.news {w wc : World} {ad : Addr} {s : List Nat} (h : Reads w (some ad) s) (hb : Below w.heap.size w wc) : ∀ (j : Nat) (u : Value), (natCells s)[j]? = some u → wc.cell? (ad.add j) = some u := by
  intro j u hj
  have hl : j < s.length := by
    have := (List.getElem?_eq_some_iff.1 hj).1
    rwa [natCells_length] at this
  rw [natCells_get s j hl] at hj
  cases hj
  obtain ⟨ad', e, hc⟩ := h.cell j hl
  cases e
  exact keeps hb hc
theorem natCells_one (s : List Nat) : ∀ u ∈ natCells s, u.oneCell' = true := by
  intro u hu
  obtain ⟨x, _, rfl⟩ := List.mem_map.1 hu
  rfl
set_option maxRecDepth 100000 in
set_option maxHeartbeats 2000000 in
theorem clone_some (ad : Addr) {s : List Nat} (c : Nat) (hs : s.length ≤ 1048576) (w : World) (hA : Reads w (some ad) s) :
    Calls Try.prog 56 #[.slice (some ad) s.length c] w fun e w' => ∃ v, e = .returned v ∧ w'.ownsRow w.heap.size 30 1 v s.length (natCells s) ∧ Below w.heap.size w w' := by
  obtain ⟨i0, hi, hz0, hz1, hz2⟩ := info_parts info_u64
  have HN := mkHid (fun wc hb => Reads.news (wc := wc) hA hb)
  clear hA
  have q22 : ∀ (w : World) (a : Option Addr) (n c n' c' : Nat), (binOp .eql 22 (.slice a n c) (.slice none n' c')).run Try.prog w = .ok (.bool a.isNone) w := fun w a n c n' c' => Lib.run_eql_slice_nil w _ _ a n c n' c' Try.underlying22
  go_enter Try.func56, Try.ntmps56
  go_wp2_with (at_builtin; refine wpList_append_own _ rfl _ _ 22 rfl w.heap.size 30 i0 (.int .u64 0) 1 8 Try.underlying22 hi hz0 hz1 hz2 rfl (by decide) _ _ _ rfl (World.ownsRow_made w #[] 0 (Nat.le_refl _) (Nat.zero_le _) rfl) ad s.length c (natCells s) rfl ?qc1 ?qc2 ?qc3 ?qc4 ?qc5 ?qc6 ?_)
  case qc1 => rw [natCells_length]; omega
  case qc2 => exact HN.out _ ((Below.refl _ w).alloc (Nat.le_refl _) _)
  case qc3 => exact natCells_one s
  case qc4 => unfold maxLen; omega
  case qc5 => omega
  case qc6 => simp
  intro v' w1 hown hgrow hnil
  go_wp2
  go_ret
  refine ⟨v', rfl, by simpa using hown, ?_⟩
  exact ((Below.refl _ w).alloc (Nat.le_refl _) _).grown hgrow (by simp) (by intro k hk; simp [Value.ownBlock] at hk; omega)
set_option maxHeartbeats 1000000 in
theorem clone_nil (n c : Nat) (w : World) :
    Calls Try.prog 56 #[.slice none n c] w fun e w' => e = .returned (.slice none 0 0) ∧ w' = w := by
  have q22 : ∀ (w : World) (a : Option Addr) (n c n' c' : Nat), (binOp .eql 22 (.slice a n c) (.slice none n' c')).run Try.prog w = .ok (.bool a.isNone) w := fun w a n c n' c' => Lib.run_eql_slice_nil w _ _ a n c n' c' Try.underlying22
  go_enter Try.func56, Try.ntmps56
  go_wp2
  go_ret
  exact ⟨rfl, rfl⟩
theorem clone_any (A : Option Addr) {s : List Nat} (c : Nat) (hs : s.length ≤ 1048576) (w : World) (hA : Reads w A s) :
    Calls Try.prog 56 #[.slice A s.length c] w fun e w' => ∃ v, e = .returned v ∧ w'.ownsRow w.heap.size 30 1 v s.length (natCells s) ∧ Below w.heap.size w w' := by
  cases A with
  | some ad => exact clone_some ad c hs w hA
  | none =>
    obtain rfl : s = [] := by
      by_cases h : 0 < s.length
      · obtain ⟨ad, e, _⟩ := hA.cell 0 h
        cases e
      · exact List.length_eq_zero_iff.1 (by omega)
    exact (clone_nil 0 c w).mono fun e w' ⟨h1, h2⟩ => ⟨_, h1, by subst h2; exact World.ownsRow_nil _ _ _ _, by subst h2; exact Below.refl _ _⟩
end Go.Proofs.Ytmehbonjpmlmfaa
