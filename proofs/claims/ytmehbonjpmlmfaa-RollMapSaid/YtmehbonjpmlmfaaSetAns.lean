/- What follows of the answers for sets. -/
import Derived.Test.YtmehbonjpmlmfaaTwoSets
namespace Go.Proofs.Ytmehbonjpmlmfaa
open Go.RowKit


theorem withAll_ok {h : Int} {s : List Nat} {t : Nat} {L : List Nat} (e : withAll h s t = (L, 0)) : ∃ n : Nat, h = (n : Int) ∧ 1 ≤ n ∧ n ≤ 32 ∧ SetOk n s ∧ t < 2 ^ n ∧ t ∉ s ∧ s.length < 1024 ∧ L = addL s t := by
  unfold withAll withAns at e
  split at e
  · rename_i c0
    split at e
    · cases e
    · rename_i hx
      split at e
      · cases e
      · rename_i hl
        cases e
        have := c0.2.1.1
        exact ⟨h.toNat, by omega, by omega, by omega, c0.2.1, c0.2.2, hx, by omega, rfl⟩
  · cases e
theorem withAll_mk {n : Nat} {s : List Nat} {t : Nat} (h1 : 1 ≤ n) (h2 : n ≤ 32) (hs : SetOk n s) (ht : t < 2 ^ n) (hx : t ∉ s) (hl : s.length ≠ 1024) : withAll (n : Int) s t = (addL s t, 0) := by
  unfold withAll withAns
  rw [if_pos ⟨⟨by omega, by omega⟩, by rw [Int.toNat_natCast]; exact hs, by rw [Int.toNat_natCast]; exact ht⟩, if_neg hx, if_neg hl]
theorem withAll_err {h : Int} {s : List Nat} {t : Nat} {L : List Nat} {r : Int} (e : withAll h s t = (L, r)) (hr : r ≠ 0) : L = [] := by
  unfold withAll withAns at e
  split at e
  · split at e
    · cases e; rfl
    · split at e
      · cases e; rfl
      · cases e; exact absurd rfl hr
  · cases e; rfl
theorem withoutAll_mk {n : Nat} {s : List Nat} {t : Nat} (h1 : 1 ≤ n) (h2 : n ≤ 32) (hs : SetOk n s) (ht : t < 2 ^ n) (hx : t ∈ s) : withoutAll (n : Int) s t = (remL s t, 0) := by
  unfold withoutAll withoutAns
  rw [if_pos ⟨⟨by omega, by omega⟩, by rw [Int.toNat_natCast]; exact hs, by rw [Int.toNat_natCast]; exact ht⟩, if_pos hx]
theorem hasAll_mk {n : Nat} {s : List Nat} {t : Nat} (h1 : 1 ≤ n) (h2 : n ≤ 32) (hs : SetOk n s) (ht : t < 2 ^ n) : hasAll (n : Int) s t = (decide (t ∈ s), 0) := by
  unfold hasAll
  rw [if_pos ⟨⟨by omega, by omega⟩, by rw [Int.toNat_natCast]; exact hs, by rw [Int.toNat_natCast]; exact ht⟩]
theorem checkAll_mk {n : Nat} {s : List Nat} (h1 : 1 ≤ n) (h2 : n ≤ 32) (hs : SetOk n s) : checkAll (n : Int) s = 0 := by
  unfold checkAll
  rw [if_pos ⟨⟨by omega, by omega⟩, by rw [Int.toNat_natCast]; exact hs⟩]
/-- what follows of the first With that goes well -/
structure Back (h : Int) (s L : List Nat) (i : Nat) : Prop where
  out : Hid (withoutAll h L i = (s, 0))
  has : Hid (hasAll h L i = (true, 0))
  check : Hid (checkAll h L = 0)
theorem back_of {h : Int} {s L : List Nat} {i : Nat} (e : withAll h s i = (L, 0)) : Back h s L i := by
  obtain ⟨n, rfl, h1, h2, hs, ht, hx, hl, rfl⟩ := withAll_ok e
  have hL := setOk_addL hs hx hl ht
  have hm : i ∈ addL s i := mem_addL.2 (.inl rfl)
  refine ⟨mkHid ?_, mkHid ?_, mkHid (checkAll_mk h1 h2 hL)⟩
  · rw [withoutAll_mk h1 h2 hL ht hm, rem_add (setOk_iff.1 hs).2.1 hx]
  · rw [hasAll_mk h1 h2 hL ht, decide_eq_true hm]
theorem order_of {h : Int} {s L M : List Nat} {i k : Nat} (e : withAll h s i = (L, 0)) (f : withAll h s k = (M, 0)) (hl : s.length < 1023) (hik : i ≠ k) : ∃ Z, Z.length ≤ 1024 ∧ Hid (withAll h L k = (Z, 0)) ∧ Hid (withAll h M i = (Z, 0)) := by
  obtain ⟨n, rfl, h1, h2, hs, ht, hx, hl1, rfl⟩ := withAll_ok e
  obtain ⟨n', e', _, _, _, ht', hx', hl2, rfl⟩ := withAll_ok f
  obtain rfl : n = n' := by omega
  have hL := setOk_addL hs hx hl1 ht
  have hM := setOk_addL hs hx' hl1 ht'
  have kL : k ∉ addL s i := fun q => by
    rcases mem_addL.1 q with q | q
    · exact hik q.symm
    · exact hx' q
  have iM : i ∉ addL s k := fun q => by
    rcases mem_addL.1 q with q | q
    · exact hik q
    · exact hx q
  have l1 := addL_length hs hx
  have l2 := addL_length hs hx'
  refine ⟨addL (addL s i) k, by rw [addL_length hL kL]; omega, mkHid ?_, mkHid ?_⟩
  · rw [withAll_mk h1 h2 hL ht' kL (by omega)]
  · rw [withAll_mk h1 h2 hM ht iM (by omega), add_add (setOk_iff.1 hs).2.1]
end Go.Proofs.Ytmehbonjpmlmfaa
