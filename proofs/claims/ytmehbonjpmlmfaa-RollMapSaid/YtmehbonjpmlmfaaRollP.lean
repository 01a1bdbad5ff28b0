/- Plain: rolls with one more, with one less. -/
import Derived.Test.YtmehbonjpmlmfaaLive18
namespace Go.Proofs.Ytmehbonjpmlmfaa
open Go.RowKit

/-- a roll that may be -/
structure Good (k : Nat) (h room : Int) (s : List Nat) (n : Int) : Prop where
  eq : h = (k : Int)
  h1 : 1 ≤ k
  h2 : k ≤ 32
  set : SetOk k s
  len : (s.length : Int) ≤ room
  room : room ≤ 1024
  n0 : 0 ≤ n
  n1 : n ≤ 1099511627776
theorem good_of {h room n : Int} {s : List Nat} (e : rollCheck h room s n = 0) : ∃ k, Good k h room s n := by
  obtain ⟨k, a, b, c, d, f, g, i, j⟩ := rollCheck_ok e
  exact ⟨k, a, b, c, d, f, g, i, j⟩
theorem Good.check {k : Nat} {h room n : Int} {s : List Nat} (G : Good k h room s n) : rollCheck h room s n = 0 := by
  unfold rollCheck
  have := G.len; have := G.room; have := G.n0; have := G.n1
  rw [if_neg (by unfold rollBad; omega), G.eq, checkAll_mk G.h1 G.h2 G.set]
theorem Good.has {k : Nat} {h room n : Int} {s : List Nat} (G : Good k h room s n) {t : Nat} (ht : t < 2 ^ k) : hasAll h s t = (decide (t ∈ s), 0) := by rw [G.eq, hasAll_mk G.h1 G.h2 G.set ht]
theorem Good.is {k : Nat} {h room n : Int} {s : List Nat} (G : Good k h room s n) {t : Nat} (ht : t < 2 ^ k) : rollIs h room s n t = (decide (t ∈ s), 0) := by unfold rollIs; rw [if_pos G.check, G.has ht]
theorem add_ok {h room n : Int} {s : List Nat} {t : Nat} {R : RollA} (e : rollAdd h room s n t = (R, 0)) : ∃ k, Good k h room s n ∧ t < 2 ^ k ∧ t ∉ s ∧ (s.length : Int) < room ∧ n < 1099511627776 ∧ R = ⟨h, room, addL s t, n + 1⟩ := by
  unfold rollAdd at e
  split at e
  · rename_i c
    obtain ⟨k, G⟩ := good_of c.1
    have ht : t < 2 ^ k := by
      rcases hasAll_or h s t with ha | ⟨k', hk', _, _, _, ht, _⟩
      · rw [ha] at c; exact absurd c.2 (by simp)
      · have : k' = k := by have := G.eq; omega
        rw [← this]; exact ht
    split at e
    · cases e
    · rename_i hx
      split at e
      · cases e
      · rename_i hl
        split at e
        · cases e
        · rename_i hn
          cases e
          have := G.len; have := G.n1
          exact ⟨k, G, ht, hx, by omega, by omega, rfl⟩
  · cases e
theorem add_err {h room n : Int} {s : List Nat} {t : Nat} {R : RollA} {r : Int} (e : rollAdd h room s n t = (R, r)) (hr : r ≠ 0) : R = ⟨0, 0, [], 0⟩ := by
  unfold rollAdd at e
  repeat' split at e
  all_goals first | (cases e; rfl) | (cases e; exact absurd rfl hr)
theorem Good.add {k : Nat} {h room n : Int} {s : List Nat} (G : Good k h room s n) {t : Nat} (ht : t < 2 ^ k) (hx : t ∉ s) :
    rollAdd h room s n t = if (s.length : Int) = room then (⟨0, 0, [], 0⟩, 6) else if n = 1099511627776 then (⟨0, 0, [], 0⟩, 9) else (⟨h, room, addL s t, n + 1⟩, 0) := by
  unfold rollAdd
  rw [if_pos ⟨G.check, by rw [G.has ht]⟩, if_neg hx]
theorem Good.del {k : Nat} {h room n : Int} {s : List Nat} (G : Good k h room s n) {t : Nat} (ht : t < 2 ^ k) (hx : t ∈ s) :
    rollDel h room s n t = if n = 1099511627776 then (⟨0, 0, [], 0⟩, 9) else (⟨h, room, remL s t, n + 1⟩, 0) := by
  unfold rollDel
  rw [if_pos ⟨G.check, by rw [G.has ht]⟩, if_neg (by simpa using hx)]
theorem Good.more {k : Nat} {h room n : Int} {s : List Nat} (G : Good k h room s n) {t : Nat} (ht : t < 2 ^ k) (hx : t ∉ s) (hl : (s.length : Int) < room) (hn : n < 1099511627776) : Good k h room (addL s t) (n + 1) := by
  have a := addL_length G.set hx
  have := G.room; have := G.n0
  exact ⟨G.eq, G.h1, G.h2, setOk_addL G.set hx (by omega) ht, by omega, G.room, by omega, by omega⟩
theorem Good.less {k : Nat} {h room n : Int} {s : List Nat} (G : Good k h room s n) {t : Nat} (hx : t ∈ s) (hn : n < 1099511627776) : Good k h room (remL s t) (n + 1) := by
  have a := remL_length G.set hx
  have := G.len; have := G.n0
  exact ⟨G.eq, G.h1, G.h2, setOk_remL G.set, by omega, G.room, by omega, by omega⟩
theorem Good.asc {k : Nat} {h room n : Int} {s : List Nat} (G : Good k h room s n) : Asc s := (setOk_iff.1 G.set).2.1
theorem Good.short {k : Nat} {h room n : Int} {s : List Nat} (G : Good k h room s n) : s.length ≤ 1024 := G.set.1
/-- in, and out again -/
theorem back_roll {h room n : Int} {s : List Nat} {t : Nat} {R : RollA} (e : rollAdd h room s n t = (R, 0)) :
    R.h = h ∧ R.room = room ∧ R.n = n + 1 ∧ 0 ≤ n ∧ n < 1099511627776 ∧ R.s.length ≤ 1024 ∧ s.length ≤ 1024 ∧ rollDel R.h R.room R.s R.n t = if n + 1 = 1099511627776 then (⟨0, 0, [], 0⟩, 9) else (⟨h, room, s, n + 1 + 1⟩, 0) := by
  obtain ⟨k, G, ht, hx, hl, hn, rfl⟩ := add_ok e
  have G2 := G.more ht hx hl hn
  refine ⟨rfl, rfl, rfl, G.n0, hn, G2.short, G.short, ?_⟩
  rw [G2.del ht (mem_addL.2 (.inl rfl)), rem_add G.asc hx]
end Go.Proofs.Ytmehbonjpmlmfaa
