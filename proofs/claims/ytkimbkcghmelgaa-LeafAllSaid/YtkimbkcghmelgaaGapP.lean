/- Plain: of each set the gaps are all that is not in it, each once. -/
import Derived.Test.YtkimbkcghmelgaaLeafM
import Derived.Test.YtkimbkcghmelgaaSearch
namespace Go.Proofs.Ytkimbkcghmelgaa
open Go.RowKit

/-- how many of the first k spans have i -/
def cntTo (l : List (Nat × Nat)) (i : Nat) : Nat → Nat
  | 0 => 0
  | k + 1 => cntTo l i k + if (l.getD k (0, 0)).1 ≤ i ∧ i ≤ (l.getD k (0, 0)).2 then 1 else 0
theorem cntTo_succ (l : List (Nat × Nat)) (i k : Nat) : cntTo l i (k + 1) = cntTo l i k + if (l.getD k (0, 0)).1 ≤ i ∧ i ≤ (l.getD k (0, 0)).2 then 1 else 0 := rfl
theorem cnt_most (l : List (Nat × Nat)) (i : Nat) : ∀ k, cntTo l i k ≤ k := by
  intro k
  induction k with
  | zero => exact Nat.le_refl _
  | succ k ih => rw [cntTo_succ]; split <;> omega
theorem getD_left {l : List (Nat × Nat)} (m : List (Nat × Nat)) {j : Nat} (h : j < l.length) : (l ++ m).getD j (0, 0) = l.getD j (0, 0) := by
  simp only [List.getD_eq_getElem?_getD]
  rw [List.getElem?_append_left h]
theorem getD_last (l : List (Nat × Nat)) (x : Nat × Nat) : (l ++ [x]).getD l.length (0, 0) = x := by
  rw [List.getD_eq_getElem?_getD, List.getElem?_append_right (by omega)]; simp
theorem sum_left (l m : List (Nat × Nat)) : ∀ k, k ≤ l.length → sumTo (l ++ m) k = sumTo l k := by
  intro k
  induction k with
  | zero => intro _; rfl
  | succ k ih => intro hk; unfold sumTo; rw [ih (by omega), getD_left m (by omega)]
theorem cnt_left (l m : List (Nat × Nat)) (i : Nat) : ∀ k, k ≤ l.length → cntTo (l ++ m) i k = cntTo l i k := by
  intro k
  induction k with
  | zero => intro _; rfl
  | succ k ih => intro hk; rw [cntTo_succ, cntTo_succ, ih (by omega), getD_left m (by omega)]
def Sep (l : List (Nat × Nat)) : Prop := ∀ j, 0 < j → j < l.length → (l.getD (j - 1) (0, 0)).2 + 1 < (l.getD j (0, 0)).1
/-- one more behind all -/
theorem push {h a b : Nat} {l : List (Nat × Nat)} (H : MOk h l l.length) (S : Sep l) (hab : a ≤ b) (hb : b < 2 ^ h) (lo : ∀ j, j < l.length → (l.getD j (0, 0)).2 + 1 < a) :
    MOk h (l ++ [(a, b)]) (l ++ [(a, b)]).length ∧ Sep (l ++ [(a, b)]) ∧ sumTo (l ++ [(a, b)]) (l ++ [(a, b)]).length = sumTo l l.length + (b - a + 1) ∧
      (∀ i, cntTo (l ++ [(a, b)]) i (l ++ [(a, b)]).length = cntTo l i l.length + if a ≤ i ∧ i ≤ b then 1 else 0) := by
  have e : (l ++ [(a, b)]).length = l.length + 1 := by simp
  rw [e]
  refine ⟨?_, ?_, ?_, fun i => ?_⟩
  · refine MOk.succ (fun j hj => ?_) ?_ ?_ ?_
    · rw [getD_left _ hj, getD_left _ (show j - 1 < l.length by omega)]; exact H j hj
    · rw [getD_last]; exact hab
    · rw [getD_last]; exact hb
    · intro h0
      rw [getD_last, getD_left _ (by omega)]
      have := lo (l.length - 1) (by omega)
      dsimp only
      omega
  · intro j h0 hj
    rw [e] at hj
    rcases Nat.lt_or_ge j l.length with c | c
    · rw [getD_left _ c, getD_left _ (show j - 1 < l.length by omega)]; exact S j h0 c
    · obtain rfl : j = l.length := by omega
      rw [getD_last, getD_left _ (by omega)]
      exact lo _ (by omega)
  · show sumTo _ l.length + _ = _
    rw [sum_left _ _ _ (Nat.le_refl _), getD_last]
  · rw [cntTo_succ, cnt_left _ _ _ _ (Nat.le_refl _), getD_last]
/-- what holds of the gaps ahead of the k-th leaf -/
structure GInv (h : Nat) (s : List Nat) (G : List (Nat × Nat)) (k f : Nat) : Prop where
  ok : MOk h G G.length
  sum : sumTo G G.length + k = f
  sep : Sep G
  low : ∀ j, j < G.length → (G.getD j (0, 0)).2 + 1 < f
  cnt : ∀ i, cntTo G i G.length = if i < f ∧ ¬ (∃ j, j < k ∧ s.getD j 0 = i) then 1 else 0
theorem gaps_inv {h : Nat} {s : List Nat} (hs : OkTo h s s.length) : ∀ k, k ≤ s.length → GInv h s (gapsA s k) k (fromAt s k) ∧ (∀ j, j < k → s.getD j 0 < fromAt s k) := by
  intro k
  induction k with
  | zero => intro _; exact ⟨⟨fun j hj => by simp [gapsA] at hj, rfl, fun j _ hj => by simp [gapsA] at hj, fun j hj => by simp [gapsA] at hj, fun i => by simp [gapsA, cntTo, fromAt]⟩, fun j hj => by omega⟩
  | succ k ih =>
    intro hk
    obtain ⟨I, up⟩ := ih (by omega)
    have hx := hs k (by omega)
    have hf : fromAt s k ≤ s.getD k 0 := by
      unfold fromAt
      split
      · omega
      · exact hx.2 (by omega)
    have hsu : fromAt s (k + 1) = s.getD k 0 + 1 := rfl
    have hga : gapsA s (k + 1) = gapsA s k ++ if fromAt s k < s.getD k 0 then [(fromAt s k, s.getD k 0 - 1)] else [] := rfl
    have hup : ∀ j, j < k + 1 → s.getD j 0 < s.getD k 0 + 1 := by
      intro j hj
      rcases Nat.lt_or_ge j k with c | c
      · have := up j c; omega
      · obtain rfl : j = k := by omega
        omega
    rw [hsu, hga]
    refine ⟨?_, hup⟩
    have hex : ∀ i, (∃ j, j < k + 1 ∧ s.getD j 0 = i) ↔ ((∃ j, j < k ∧ s.getD j 0 = i) ∨ s.getD k 0 = i) := by
      intro i
      constructor
      · rintro ⟨j, a, b⟩
        rcases Nat.lt_or_ge j k with c | c
        · exact .inl ⟨j, c, b⟩
        · obtain rfl : j = k := by omega
          exact .inr b
      · rintro (⟨j, a, b⟩ | b)
        · exact ⟨j, by omega, b⟩
        · exact ⟨k, by omega, b⟩
    have hbe : ∀ i, (∃ j, j < k ∧ s.getD j 0 = i) → i < fromAt s k := by rintro i ⟨j, a, rfl⟩; exact up j a
    have hxh := hx.1
    generalize hX : s.getD k 0 = x at *
    generalize hF : fromAt s k = f at *
    clear hga hsu hx up hX hF hup
    by_cases c : f < x
    · rw [if_pos c]
      obtain ⟨p1, p2, p3, p4⟩ := push (a := f) (b := x - 1) I.ok I.sep (by omega) (by omega) I.low
      refine ⟨p1, ?_, p2, ?_, fun i => ?_⟩
      · rw [p3]; have := I.sum; omega
      · intro j hj
        rw [List.length_append, List.length_singleton] at hj
        rcases Nat.lt_or_ge j (gapsA s k).length with l | l
        · rw [getD_left _ l]; have := I.low j l; omega
        · obtain rfl : j = (gapsA s k).length := by omega
          rw [getD_last]; dsimp only; omega
      · rw [p4, I.cnt]
        by_cases e1 : ∃ j, j < k ∧ s.getD j 0 = i
        · have := hbe i e1
          rw [if_neg (fun q => q.2 e1), if_neg (by omega), if_neg (fun q => q.2 ((hex i).2 (.inl e1)))]
        · by_cases e2 : i < f
          · rw [if_pos ⟨e2, e1⟩, if_neg (by omega), if_pos ⟨by omega, fun q => by rcases (hex i).1 q with q | q; exact e1 q; omega⟩]
          · rw [if_neg (fun q => e2 q.1)]
            by_cases e3 : i < x
            · rw [if_pos (by omega), if_pos ⟨by omega, fun q => by rcases (hex i).1 q with q | q; exact e1 q; omega⟩]
            · rw [if_neg (by omega), if_neg]
              rintro ⟨q1, q2⟩
              exact q2 ((hex i).2 (.inr (by omega)))
    · obtain rfl : f = x := by omega
      rw [if_neg c, List.append_nil]
      refine ⟨I.ok, by have := I.sum; omega, I.sep, fun j hj => by have := I.low j hj; omega, fun i => ?_⟩
      rw [I.cnt]
      by_cases e1 : ∃ j, j < k ∧ s.getD j 0 = i
      · rw [if_neg (fun q => q.2 e1), if_neg (fun q => q.2 ((hex i).2 (.inl e1)))]
      · by_cases e2 : i < f
        · rw [if_pos ⟨e2, e1⟩, if_pos ⟨by omega, fun q => by rcases (hex i).1 q with q | q; exact e1 q; omega⟩]
        · rw [if_neg (fun q => e2 q.1), if_neg]
          rintro ⟨q1, q2⟩
          exact q2 ((hex i).2 (.inr (by omega)))
theorem mem_at {s : List Nat} {i : Nat} : (∃ j, j < s.length ∧ s.getD j 0 = i) ↔ i ∈ s := by
  constructor
  · rintro ⟨j, a, b⟩
    rw [List.getD_eq_getElem?_getD, List.getElem?_eq_getElem a] at b
    rw [← b]
    exact List.getElem_mem a
  · intro hm
    obtain ⟨j, hj, e⟩ := List.getElem_of_mem hm
    exact ⟨j, hj, by rw [List.getD_eq_getElem?_getD, List.getElem?_eq_getElem hj]; exact e⟩
/-- of a set: its gaps -/
theorem gaps_all {h last : Nat} {s : List Nat} (hs : OkTo h s s.length) (hl : last + 1 = 2 ^ h) : MOk h (gapsL s last) (gapsL s last).length ∧ Sep (gapsL s last) ∧ sumTo (gapsL s last) (gapsL s last).length + s.length = last + 1 ∧
    (∀ i, i ≤ last → cntTo (gapsL s last) i (gapsL s last).length = if i ∈ s then 0 else 1) := by
  obtain ⟨I, up⟩ := gaps_inv hs s.length (Nat.le_refl _)
  have hf : fromAt s s.length ≤ last + 1 := by
    unfold fromAt
    split
    · omega
    · have := (hs (s.length - 1) (by omega)).1; omega
  have hbe : ∀ i, i ∈ s → i < fromAt s s.length := by
    intro i hi
    obtain ⟨j, a, rfl⟩ := mem_at.2 hi
    exact up j a
  have hc : ∀ i, cntTo (gapsA s s.length) i (gapsA s s.length).length = if i < fromAt s s.length ∧ ¬ i ∈ s then 1 else 0 := by
    intro i
    rw [I.cnt i]
    simp only [mem_at]
  unfold gapsL
  generalize hF : fromAt s s.length = f at *
  by_cases c : f ≤ last
  · rw [if_pos c]
    obtain ⟨p1, p2, p3, p4⟩ := push (a := f) (b := last) I.ok I.sep (by omega) (by omega) I.low
    refine ⟨p1, p2, by rw [p3]; have := I.sum; omega, fun i hi => ?_⟩
    rw [p4, hc]
    by_cases m : i ∈ s
    · have := hbe i m
      rw [if_neg (fun q => q.2 m), if_neg (by omega), if_pos m]
    · rw [if_neg m]
      by_cases e : i < f
      · rw [if_pos ⟨e, m⟩, if_neg (by omega)]
      · rw [if_neg (fun q => e q.1), if_pos (by omega)]
  · rw [if_neg c, List.append_nil]
    refine ⟨I.ok, I.sep, by have := I.sum; omega, fun i hi => ?_⟩
    rw [hc]
    by_cases m : i ∈ s
    · rw [if_neg (fun q => q.2 m), if_pos m]
    · rw [if_neg m, if_pos ⟨by omega, m⟩]
end Go.Proofs.Ytkimbkcghmelgaa
