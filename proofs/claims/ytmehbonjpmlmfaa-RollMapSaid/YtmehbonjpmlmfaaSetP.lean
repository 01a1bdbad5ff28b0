/- Plain: sets as ascending lists: with one more, with one less. -/
import Derived.Test.YtmehbonjpmlmfaaMine
namespace Go.Proofs.Ytmehbonjpmlmfaa
open Go.RowKit

def Asc (s : List Nat) : Prop := s.Pairwise (· < ·)
theorem asc_lt {s : List Nat} (H : ∀ j, 0 < j → j < s.length → s.getD (j - 1) 0 < s.getD j 0) (i : Nat) : ∀ d, i + d + 1 < s.length → s.getD i 0 < s.getD (i + d + 1) 0 := by
  intro d
  induction d with
  | zero => intro h; exact H (i + 1) (by omega) h
  | succ d ih =>
    intro h
    have a := ih (by omega)
    have b := H (i + (d + 1) + 1) (by omega) h
    have e : i + (d + 1) + 1 - 1 = i + d + 1 := by omega
    rw [e] at b
    omega
theorem getD_eq {s : List Nat} {j : Nat} (h : j < s.length) : s.getD j 0 = s[j] := by rw [List.getD_eq_getElem?_getD, List.getElem?_eq_getElem h]; rfl
theorem setOk_iff {h : Nat} {s : List Nat} : SetOk h s ↔ s.length ≤ 1024 ∧ Asc s ∧ ∀ x ∈ s, x < 2 ^ h := by
  constructor
  · rintro ⟨h1, h2⟩
    refine ⟨h1, ?_, fun x hx => ?_⟩
    · refine List.pairwise_iff_getElem.2 fun i j hi hj hij => ?_
      have := asc_lt (s := s) (fun j h0 hj => (h2 j hj).2 h0) i (j - i - 1) (by omega)
      rw [show i + (j - i - 1) + 1 = j by omega, getD_eq hi, getD_eq hj] at this
      exact this
    · obtain ⟨j, hj, rfl⟩ := List.mem_iff_getElem.1 hx
      rw [← getD_eq hj]
      exact (h2 j hj).1
  · rintro ⟨h1, h2, h3⟩
    refine ⟨h1, fun j hj => ⟨?_, fun h0 => ?_⟩⟩
    · rw [getD_eq hj]; exact h3 _ (List.getElem_mem hj)
    · rw [getD_eq hj, getD_eq (show j - 1 < s.length by omega)]
      exact List.pairwise_iff_getElem.1 h2 (j - 1) j (by omega) hj (by omega)
theorem asc_ext : ∀ {s t : List Nat}, Asc s → Asc t → (∀ y, y ∈ s ↔ y ∈ t) → s = t
  | [], [], _, _, _ => rfl
  | [], b :: t, _, _, h => by have := (h b).2 (by simp); cases this
  | a :: s, [], _, _, h => by have := (h a).1 (by simp); cases this
  | a :: s, b :: t, hs, ht, h => by
    have hs' := List.pairwise_cons.1 hs
    have ht' := List.pairwise_cons.1 ht
    have e : a = b := by
      rcases List.mem_cons.1 ((h a).1 (by simp)) with q | q
      · exact q
      · rcases List.mem_cons.1 ((h b).2 (by simp)) with r | r
        · exact r.symm
        · have := hs'.1 b r
          have := ht'.1 a q
          omega
    subst e
    rw [asc_ext hs'.2 ht'.2 fun y => ?_]
    constructor
    · intro hy
      have := hs'.1 y hy
      rcases List.mem_cons.1 ((h y).1 (by simp [hy])) with q | q
      · omega
      · exact q
    · intro hy
      have := ht'.1 y hy
      rcases List.mem_cons.1 ((h y).2 (by simp [hy])) with q | q
      · omega
      · exact q

/-- with one more, with one less -/
def addL (s : List Nat) (x : Nat) : List Nat := s.filter (fun y => decide (y < x)) ++ x :: s.filter (fun y => decide (x < y))
def remL (s : List Nat) (x : Nat) : List Nat := s.filter (fun y => decide (y ≠ x))
theorem mem_addL {s : List Nat} {x y : Nat} : y ∈ addL s x ↔ y = x ∨ y ∈ s := by
  unfold addL
  simp only [List.mem_append, List.mem_filter, List.mem_cons, decide_eq_true_eq]
  constructor
  · rintro (⟨a, _⟩ | b | ⟨a, _⟩)
    · exact .inr a
    · exact .inl b
    · exact .inr a
  · rintro (h | h)
    · exact .inr (.inl h)
    · rcases Nat.lt_trichotomy y x with q | q | q
      · exact .inl ⟨h, q⟩
      · exact .inr (.inl q)
      · exact .inr (.inr ⟨h, q⟩)
theorem mem_remL {s : List Nat} {x y : Nat} : y ∈ remL s x ↔ y ∈ s ∧ y ≠ x := by
  unfold remL
  simp only [List.mem_filter, decide_eq_true_eq]
theorem asc_addL {s : List Nat} (h : Asc s) (x : Nat) : Asc (addL s x) := by
  unfold addL Asc
  refine List.pairwise_append.2 ⟨h.filter _, List.pairwise_cons.2 ⟨fun y hy => ?_, h.filter _⟩, fun a ha b hb => ?_⟩
  · exact of_decide_eq_true (List.mem_filter.1 hy).2
  · have h1 : a < x := of_decide_eq_true (List.mem_filter.1 ha).2
    rcases List.mem_cons.1 hb with rfl | hb
    · exact h1
    · have h2 : x < b := of_decide_eq_true (List.mem_filter.1 hb).2
      omega
theorem asc_remL {s : List Nat} (h : Asc s) (x : Nat) : Asc (remL s x) := h.filter _

def ins (s : List Nat) (k x : Nat) : List Nat := s.take k ++ x :: s.drop k
def del (s : List Nat) (k : Nat) : List Nat := s.take k ++ s.drop (k + 1)
theorem ins_length {s : List Nat} {k : Nat} (x : Nat) (h : k ≤ s.length) : (ins s k x).length = s.length + 1 := by unfold ins; simp; omega
theorem del_length {s : List Nat} {k : Nat} (h : k < s.length) : (del s k).length = s.length - 1 := by unfold del; simp; omega
theorem ins_getD {s : List Nat} {k : Nat} (x : Nat) (h : k ≤ s.length) (j : Nat) : (ins s k x).getD j 0 = if j < k then s.getD j 0 else if j = k then x else s.getD (j - 1) 0 := by
  unfold ins
  simp only [List.getD_eq_getElem?_getD]
  have hl : (s.take k).length = k := by rw [List.length_take]; omega
  by_cases a : j < k
  · rw [if_pos a, List.getElem?_append_left (by omega), List.getElem?_take, if_pos a]
  · rw [if_neg a, List.getElem?_append_right (by omega), hl]
    by_cases b : j = k
    · rw [if_pos b, b, Nat.sub_self]; rfl
    · rw [if_neg b, show j - k = (j - k - 1) + 1 by omega, List.getElem?_cons_succ, List.getElem?_drop, show k + (j - k - 1) = j - 1 by omega]
theorem del_getD {s : List Nat} {k : Nat} (h : k < s.length) (j : Nat) : (del s k).getD j 0 = if j < k then s.getD j 0 else s.getD (j + 1) 0 := by
  unfold del
  simp only [List.getD_eq_getElem?_getD]
  have hl : (s.take k).length = k := by rw [List.length_take]; omega
  by_cases a : j < k
  · rw [if_pos a, List.getElem?_append_left (by omega), List.getElem?_take, if_pos a]
  · rw [if_neg a, List.getElem?_append_right (by omega), hl, List.getElem?_drop, show k + 1 + (j - k) = j + 1 by omega]
theorem place_take {s : List Nat} {x k : Nat} (P : Place s x k) : ∀ y ∈ s.take k, y < x := by
  intro y hy
  obtain ⟨j, hj, rfl⟩ := List.mem_iff_getElem.1 hy
  have hj' : j < k ∧ j < s.length := by rw [List.length_take] at hj; omega
  have := P.lo j hj'.1
  rw [getD_eq hj'.2] at this
  simpa using this
theorem place_drop {s : List Nat} {x k : Nat} (P : Place s x k) : ∀ y ∈ s.drop k, x ≤ y := by
  intro y hy
  obtain ⟨j, hj, rfl⟩ := List.mem_iff_getElem.1 hy
  have hj' : k + j < s.length := by rw [List.length_drop] at hj; omega
  have := P.hi (k + j) (by omega) hj'
  rw [getD_eq hj'] at this
  simpa using this
theorem mem_place {s : List Nat} {x k : Nat} (P : Place s x k) (A : Asc s) : (k < s.length ∧ s.getD k 0 = x) ↔ x ∈ s := by
  constructor
  · rintro ⟨h1, h2⟩
    rw [getD_eq h1] at h2
    rw [← h2]; exact List.getElem_mem h1
  · intro h
    obtain ⟨j, hj, e⟩ := List.mem_iff_getElem.1 h
    have hk : k ≤ j := by
      rcases Nat.lt_or_ge j k with c | c
      · have := P.lo j c
        rw [getD_eq hj] at this
        omega
      · exact c
    refine ⟨by omega, ?_⟩
    have h1 := P.hi k (Nat.le_refl _) (by omega)
    rw [getD_eq (show k < s.length by omega)] at h1 ⊢
    rcases Nat.eq_or_lt_of_le hk with c | c
    · subst c; exact e
    · have := List.pairwise_iff_getElem.1 A k j (by omega) hj c
      omega
theorem ins_addL {s : List Nat} {x k : Nat} (P : Place s x k) (h : x ∉ s) : ins s k x = addL s x := by
  unfold ins addL
  have e := (List.take_append_drop k s).symm
  have f1 : s.filter (fun y => decide (y < x)) = s.take k := by
    rw [e, List.filter_append, List.filter_eq_self.2 (fun y hy => decide_eq_true (place_take P y (by simpa using hy))), List.filter_eq_nil_iff.2 (fun y hy => by
      have := place_drop P y (by simpa using hy)
      simp; omega)]
    simp
  have f2 : s.filter (fun y => decide (x < y)) = s.drop k := by
    rw [e, List.filter_append, List.filter_eq_nil_iff.2 (fun y hy => by
      have := place_take P y (by simpa using hy)
      simp; omega), List.filter_eq_self.2 (fun y hy => by
        have hy' : y ∈ s.drop k := by simpa using hy
        have h1 := place_drop P y hy'
        have h2 : y ≠ x := fun c => h (by rw [← c]; exact List.mem_of_mem_drop hy')
        exact decide_eq_true (by omega))]
    simp
  rw [f1, f2]
theorem asc_del {s : List Nat} (A : Asc s) (k : Nat) : Asc (del s k) := by
  have e := (List.take_append_drop k s).symm
  have A' : Asc (s.take k ++ s.drop k) := by rw [← e]; exact A
  obtain ⟨a1, a2, a3⟩ := List.pairwise_append.1 A'
  refine List.pairwise_append.2 ⟨a1, ?_, fun x hx y hy => ?_⟩
  · rw [show s.drop (k + 1) = (s.drop k).drop 1 by rw [List.drop_drop]]
    exact a2.sublist (List.drop_sublist _ _)
  · refine a3 x hx y ?_
    rw [show s.drop (k + 1) = (s.drop k).drop 1 by rw [List.drop_drop]] at hy
    exact List.mem_of_mem_drop hy
theorem del_remL {s : List Nat} {k : Nat} (A : Asc s) (hk : k < s.length) : del s k = remL s (s.getD k 0) := by
  have e : s = s.take k ++ s[k] :: s.drop (k + 1) := by rw [List.getElem_cons_drop]; exact (List.take_append_drop k s).symm
  have A' : Asc (s.take k ++ s[k] :: s.drop (k + 1)) := by rw [← e]; exact A
  obtain ⟨a1, a2, a3⟩ := List.pairwise_append.1 A'
  obtain ⟨a4, a5⟩ := List.pairwise_cons.1 a2
  rw [getD_eq hk]
  refine asc_ext (asc_del A k) (asc_remL A _) fun y => ?_
  rw [mem_remL]
  constructor
  · intro hy
    rcases List.mem_append.1 hy with h | h
    · have := a3 y h s[k] List.mem_cons_self
      exact ⟨List.mem_of_mem_take h, by omega⟩
    · have := a4 y h
      exact ⟨List.mem_of_mem_drop h, by omega⟩
  · rintro ⟨h1, h2⟩
    rw [e] at h1
    rcases List.mem_append.1 h1 with h | h
    · exact List.mem_append.2 (.inl h)
    · rcases List.mem_cons.1 h with h | h
      · exact absurd h h2
      · exact List.mem_append.2 (.inr h)
theorem place_ex' {h : Nat} {s : List Nat} (H : SetOk h s) (x : Nat) : ∃ k, Place s x k := place_ex H.2 x
theorem addL_length {h : Nat} {s : List Nat} {x : Nat} (H : SetOk h s) (hx : x ∉ s) : (addL s x).length = s.length + 1 := by
  obtain ⟨k, P⟩ := place_ex' H x
  rw [← ins_addL P hx, ins_length x P.le]
theorem remL_length {h : Nat} {s : List Nat} {x : Nat} (H : SetOk h s) (hx : x ∈ s) : (remL s x).length + 1 = s.length := by
  obtain ⟨k, P⟩ := place_ex' H x
  have A := (setOk_iff.1 H).2.1
  obtain ⟨h1, h2⟩ := (mem_place P A).2 hx
  rw [← h2, ← del_remL A h1, del_length h1]
  omega
theorem setOk_addL {h : Nat} {s : List Nat} {x : Nat} (H : SetOk h s) (hx : x ∉ s) (hl : s.length < 1024) (hb : x < 2 ^ h) : SetOk h (addL s x) := by
  obtain ⟨_, A, B⟩ := setOk_iff.1 H
  refine setOk_iff.2 ⟨by rw [addL_length H hx]; omega, asc_addL A x, fun y hy => ?_⟩
  rcases mem_addL.1 hy with rfl | q
  · exact hb
  · exact B y q
theorem setOk_remL {h : Nat} {s : List Nat} {x : Nat} (H : SetOk h s) : SetOk h (remL s x) := by
  obtain ⟨l, A, B⟩ := setOk_iff.1 H
  refine setOk_iff.2 ⟨Nat.le_trans (List.length_filter_le _ _) l, asc_remL A x, fun y hy => B y (mem_remL.1 hy).1⟩
theorem rem_add {s : List Nat} {x : Nat} (A : Asc s) (hx : x ∉ s) : remL (addL s x) x = s := by
  refine asc_ext (asc_remL (asc_addL A x) x) A fun y => ?_
  rw [mem_remL, mem_addL]
  constructor
  · rintro ⟨a | a, b⟩
    · exact absurd a b
    · exact a
  · intro h
    exact ⟨.inr h, fun c => hx (by rw [← c]; exact h)⟩
theorem add_add {s : List Nat} (A : Asc s) (x y : Nat) : addL (addL s x) y = addL (addL s y) x := by
  refine asc_ext (asc_addL (asc_addL A x) y) (asc_addL (asc_addL A y) x) fun z => ?_
  simp only [mem_addL]
  constructor <;> (rintro (a | a | a) <;> simp [a])
end Go.Proofs.Ytmehbonjpmlmfaa
