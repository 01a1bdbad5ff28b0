/- Own rows of leaves that cells are written into: what the row is then. -/
import Derived.Test.YtmehbonjpmlmfaaSetP
import Derived.Laws.IdiomCopy
namespace Go.Proofs.Ytmehbonjpmlmfaa
open Go.RowKit

theorem setCells_block (g : Nat) (e : TypeId) : ∀ (vs : List Value) (o : Nat) (w : World) (cur : Array Value), w.heap[g]? = some (.cells cur e (0, 0)) → ∃ cur', (w.setCells g o vs).heap[g]? = some (.cells cur' e (0, 0)) ∧ cur'.size = cur.size
  | [], _, _, cur, h => ⟨cur, h, rfl⟩
  | v :: r, o, w, cur, h => by
    rw [World.setCells]
    obtain ⟨c, h1, h2⟩ := setCells_block g e r (o + 1) _ _ (heap_setCell_same w g o cur e v h)
    exact ⟨c, h1, by simpa using h2⟩
theorem setCells_below {base g : Nat} (hg : base ≤ g) : ∀ (vs : List Value) (o : Nat) (w w0 : World), Below base w0 w → Below base w0 (w.setCells g o vs)
  | [], _, _, _, h => h
  | v :: r, o, w, w0, h => by rw [World.setCells]; exact setCells_below hg r (o + 1) _ _ (h.setCell hg _)
theorem own_intro {w : World} {base g c n : Nat} {cur : Array Value} {L : List Nat} (hb : base ≤ g) (hg : w.heap[g]? = some (.cells cur 30 (0, 0))) (hs : cur.size = c) (hl : L.length = n) (hn : n ≤ c) (hm : c ≤ maxLen)
    (hc : ∀ j, j < n → w.cell? ⟨g, j, none⟩ = some (.int .u64 ((L.getD j 0 : Nat) : Int))) : w.ownsRow base 30 1 (.slice (some ⟨g, 0, none⟩) n c) n (natCells L) := by
  subst hl
  refine ⟨by rw [natCells_length, Nat.mul_one], .inr ⟨g, c, cur, rfl, hb, hg, hn, hm, by rw [hs, Nat.mul_one], ?_⟩⟩
  apply List.ext_getElem?
  intro j
  by_cases hj : j < L.length
  · rw [List.getElem?_take, if_pos (by omega), natCells_get L j hj]
    have := hc j hj
    rw [cell_of_row w g j cur _ (0, 0) hg] at this
    simpa using this
  · rw [List.getElem?_eq_none (by simp; omega), List.getElem?_eq_none (by rw [natCells_length]; omega)]
theorem natCells_drop (s : List Nat) (k : Nat) : (natCells s).drop k = natCells (s.drop k) := by simp [natCells]
theorem natCells_take (s : List Nat) (k : Nat) : (natCells s).take k = natCells (s.take k) := by simp [natCells]
theorem natCells_get' (s : List Nat) (j : Nat) (h : j < (natCells s).length) : (natCells s)[j] = .int .u64 ((s.getD j 0 : Nat) : Int) := by
  have h' : j < s.length := by rwa [natCells_length] at h
  have := natCells_get s j h'
  rw [List.getElem?_eq_getElem h] at this
  exact Option.some.inj this
/-- one more in the middle: what stood from there on is moved up, then the place is written -/
theorem own_ins {w w1 : World} {base g c i x : Nat} {s : List Nat} {cur : Array Value} (hb : base ≤ g) (hg : w.heap[g]? = some (.cells cur 30 (0, 0))) (hs : cur.size = c) (hn : s.length + 1 ≤ c) (hm : c ≤ maxLen) (hi : i ≤ s.length)
    (hc : ∀ j, j < i → w.cell? ⟨g, j, none⟩ = some (.int .u64 ((s.getD j 0 : Nat) : Int))) (h1 : w1 = (w.setCells g (i + 1) (natCells (s.drop i))).setCells g i (natCells [x])) :
    w1.ownsRow base 30 1 (.slice (some ⟨g, 0, none⟩) (s.length + 1) c) (s.length + 1) (natCells (ins s i x)) ∧ ∀ w0, Below base w0 w → Below base w0 w1 := by
  subst h1
  obtain ⟨c1, q1, z1⟩ := setCells_block g 30 (natCells (s.drop i)) (i + 1) w cur hg
  obtain ⟨c2, q2, z2⟩ := setCells_block g 30 (natCells [x]) i _ c1 q1
  have hl := ins_length x hi
  have hdl : (natCells (s.drop i)).length = s.length - i := by rw [natCells_length, List.length_drop]
  have hsome : ∀ j, j < c → (w.cell? ⟨g, j, none⟩).isSome = true := fun j hj => by
    rw [cell_of_row w g j cur _ (0, 0) hg, Array.getElem?_eq_getElem (by omega)]; rfl
  have hsome1 : ∀ j, j < c → ((w.setCells g (i + 1) (natCells (s.drop i))).cell? ⟨g, j, none⟩).isSome = true := fun j hj => by
    rw [cell_of_row _ g j c1 _ (0, 0) q1, Array.getElem?_eq_getElem (by omega)]; rfl
  refine ⟨?_, fun w0 h => setCells_below hb _ _ _ _ (setCells_below hb _ _ _ _ h)⟩
  refine own_intro hb q2 (by omega) hl (by omega) hm fun j hj => ?_
  rw [ins_getD x hi]
  by_cases a : j = i
  · subst a
    rw [if_neg (Nat.lt_irrefl _), if_pos rfl]
    have := World.cell?_setCells_in g (natCells [x]) j (w.setCells g (j + 1) (natCells (s.drop j))) (fun t ht => hsome1 _ (by rw [natCells_length] at ht; simp at ht; omega)) 0 (by rw [natCells_length]; simp)
    exact this
  · rw [World.cell?_setCells_out g _ i _ _ (fun _ _ => by rw [natCells_length]; simp; omega)]
    by_cases b : j < i
    · rw [if_pos b, World.cell?_setCells_out g _ (i + 1) _ _ (fun _ _ => .inl (by show j < i + 1; omega))]
      exact hc j b
    · rw [if_neg b, if_neg a]
      have := World.cell?_setCells_in g (natCells (s.drop i)) (i + 1) w (fun t ht => hsome _ (by rw [hdl] at ht; omega)) (j - (i + 1)) (by rw [hdl]; omega)
      rw [show i + 1 + (j - (i + 1)) = j by omega] at this
      rw [this, natCells_get']
      congr 3
      rw [List.getD_eq_getElem?_getD, List.getElem?_drop, show i + (j - (i + 1)) = j - 1 by omega, ← List.getD_eq_getElem?_getD]
/-- one more in the middle, the other way round: the place is written, then what stands behind it -/
theorem own_ins2 {w w1 : World} {base g c i x : Nat} {s : List Nat} {cur : Array Value} (hb : base ≤ g) (hg : w.heap[g]? = some (.cells cur 30 (0, 0))) (hs : cur.size = c) (hn : s.length + 1 ≤ c) (hm : c ≤ maxLen) (hi : i ≤ s.length)
    (hc : ∀ j, j < i → w.cell? ⟨g, j, none⟩ = some (.int .u64 ((s.getD j 0 : Nat) : Int))) (h1 : w1 = (w.setCells g i (natCells [x])).drew.setCells g (i + 1) (natCells (s.drop i))) :
    w1.ownsRow base 30 1 (.slice (some ⟨g, 0, none⟩) (s.length + 1) c) (s.length + 1) (natCells (ins s i x)) ∧ ∀ w0, Below base w0 w → Below base w0 w1 := by
  subst h1
  obtain ⟨c1, q1, z1⟩ := setCells_block g 30 (natCells [x]) i w cur hg
  obtain ⟨c2, q2, z2⟩ := setCells_block g 30 (natCells (s.drop i)) (i + 1) (w.setCells g i (natCells [x])).drew c1 q1
  have hl := ins_length x hi
  have hdl : (natCells (s.drop i)).length = s.length - i := by rw [natCells_length, List.length_drop]
  have hsome : ∀ j, j < c → (w.cell? ⟨g, j, none⟩).isSome = true := fun j hj => by
    rw [cell_of_row w g j cur _ (0, 0) hg, Array.getElem?_eq_getElem (by omega)]; rfl
  have hsome1 : ∀ j, j < c → ((w.setCells g i (natCells [x])).drew.cell? ⟨g, j, none⟩).isSome = true := fun j hj => by
    rw [cell_of_row (w.setCells g i (natCells [x])).drew g j c1 _ (0, 0) q1, Array.getElem?_eq_getElem (by omega)]; rfl
  refine ⟨?_, fun w0 h => setCells_below hb _ _ _ _ (setCells_below hb _ _ _ _ h).drew⟩
  refine own_intro hb q2 (by omega) hl (by omega) hm fun j hj => ?_
  rw [ins_getD x hi]
  by_cases a : j ≤ i
  · rw [World.cell?_setCells_out g _ (i + 1) _ _ (fun _ _ => .inl (by show j < i + 1; omega))]
    show (w.setCells g i (natCells [x])).cell? _ = _
    by_cases b : j = i
    · subst b
      rw [if_neg (Nat.lt_irrefl _), if_pos rfl]
      have := World.cell?_setCells_in g (natCells [x]) j w (fun t ht => hsome _ (by rw [natCells_length] at ht; simp at ht; omega)) 0 (by rw [natCells_length]; simp)
      exact this
    · rw [if_pos (by omega), World.cell?_setCells_out g _ i _ _ (fun _ _ => .inl (by show j < i; omega))]
      exact hc j (by omega)
  · rw [if_neg (by omega), if_neg (by omega)]
    have := World.cell?_setCells_in g (natCells (s.drop i)) (i + 1) (w.setCells g i (natCells [x])).drew (fun t ht => hsome1 _ (by rw [hdl] at ht; omega)) (j - (i + 1)) (by rw [hdl]; omega)
    rw [show i + 1 + (j - (i + 1)) = j by omega] at this
    rw [this, natCells_get']
    congr 3
    rw [List.getD_eq_getElem?_getD, List.getElem?_drop, show i + (j - (i + 1)) = j - 1 by omega, ← List.getD_eq_getElem?_getD]
/-- one less: what stood behind it is moved down, and the last place is cleared -/
theorem own_del {w w1 : World} {base g c i : Nat} {s : List Nat} {cur : Array Value} (hb : base ≤ g) (hg : w.heap[g]? = some (.cells cur 30 (0, 0))) (hs : cur.size = c) (hn : s.length ≤ c) (hm : c ≤ maxLen) (hi : i < s.length)
    (hc : ∀ j, j < i → w.cell? ⟨g, j, none⟩ = some (.int .u64 ((s.getD j 0 : Nat) : Int))) (z : List Value) (h1 : w1 = (w.setCells g i (natCells (s.drop (i + 1)))).setCells g (s.length - 1) z) :
    w1.ownsRow base 30 1 (.slice (some ⟨g, 0, none⟩) (s.length - 1) c) (s.length - 1) (natCells (del s i)) ∧ ∀ w0, Below base w0 w → Below base w0 w1 := by
  subst h1
  obtain ⟨c1, q1, z1⟩ := setCells_block g 30 (natCells (s.drop (i + 1))) i w cur hg
  obtain ⟨c2, q2, z2⟩ := setCells_block g 30 z (s.length - 1) _ c1 q1
  have hl := del_length hi
  have hdl : (natCells (s.drop (i + 1))).length = s.length - (i + 1) := by rw [natCells_length, List.length_drop]
  have hsome : ∀ j, j < c → (w.cell? ⟨g, j, none⟩).isSome = true := fun j hj => by
    rw [cell_of_row w g j cur _ (0, 0) hg, Array.getElem?_eq_getElem (by omega)]; rfl
  refine ⟨?_, fun w0 h => setCells_below hb _ _ _ _ (setCells_below hb _ _ _ _ h)⟩
  refine own_intro hb q2 (by omega) hl (by omega) hm fun j hj => ?_
  rw [del_getD hi, World.cell?_setCells_out g _ (s.length - 1) _ _ (fun _ _ => .inl hj)]
  by_cases b : j < i
  · rw [if_pos b, World.cell?_setCells_out g _ i _ _ (fun _ _ => .inl b)]
    exact hc j b
  · rw [if_neg b]
    have := World.cell?_setCells_in g (natCells (s.drop (i + 1))) i w (fun t ht => hsome _ (by rw [hdl] at ht; omega)) (j - i) (by rw [hdl]; omega)
    rw [show i + (j - i) = j by omega] at this
    rw [this, natCells_get']
    congr 3
    rw [List.getD_eq_getElem?_getD, List.getElem?_drop, show i + 1 + (j - i) = j + 1 by omega, ← List.getD_eq_getElem?_getD]
end Go.Proofs.Ytmehbonjpmlmfaa
