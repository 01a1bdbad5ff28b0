/- leaf's sets and the document's answer for them come to the same. -/
import Derived.Test.YtmehbonjpmlmfaaRefW
namespace Go.Proofs.Ytmehbonjpmlmfaa
open Go.RowKit

/-- a list of the call's own, and an error's number -/
def WPost (L : List Nat) (r : Int) (w : World) (e : Ending) (w' : World) : Prop := ∃ v, e = .returned (.tuple #[v, .int .i64 r]) ∧ RowOf w' w.heap.size v L ∧ Below w.heap.size w w'
theorem WPost.none {f : FuncId} {a : Array Value} {r : Int} {w : World} (k : Calls Try.prog f a w fun e w' => e = .returned (.tuple #[.slice none 0 0, .int .i64 r]) ∧ w' = w) : Calls Try.prog f a w (WPost [] r w) :=
  k.mono fun _ w' ⟨h1, h2⟩ => ⟨_, h1, by subst h2; exact World.ownsRow_nil _ _ _ _, by subst h2; exact Below.refl _ _⟩
theorem refuses_or (h : Int) (s : List Nat) (t : Nat) : Refuses h s t ∨ ∃ k : Nat, h = (k : Int) ∧ 1 ≤ k ∧ k ≤ 32 ∧ SetOk k s ∧ t < 2 ^ k := by
  by_cases c : (1 ≤ h ∧ h ≤ 32) ∧ SetOk h.toNat s ∧ t < 2 ^ h.toNat
  · exact .inr ⟨h.toNat, by omega, by omega, by omega, c.2.1, c.2.2⟩
  · exact .inl ⟨c⟩
instance (h : Nat) (s : List Nat) (k : Nat) : Decidable (OkTo h s k) := by unfold OkTo; infer_instance
instance (h : Nat) (s : List Nat) : Decidable (SetOk h s) := by unfold SetOk; infer_instance
/-- what With answers -/
def withAns (s : List Nat) (t : Nat) : List Nat × Int := if t ∈ s then ([], 5) else if s.length = 1024 then ([], 6) else (addL s t, 0)
def withoutAns (s : List Nat) (t : Nat) : List Nat × Int := if t ∈ s then (remL s t, 0) else ([], 4)
def withAll (h : Int) (s : List Nat) (t : Nat) : List Nat × Int := if (1 ≤ h ∧ h ≤ 32) ∧ SetOk h.toNat s ∧ t < 2 ^ h.toNat then withAns s t else ([], 1)
def withoutAll (h : Int) (s : List Nat) (t : Nat) : List Nat × Int := if (1 ≤ h ∧ h ≤ 32) ∧ SetOk h.toNat s ∧ t < 2 ^ h.toNat then withoutAns s t else ([], 1)
def hasAll (h : Int) (s : List Nat) (t : Nat) : Bool × Int := if (1 ≤ h ∧ h ≤ 32) ∧ SetOk h.toNat s ∧ t < 2 ^ h.toNat then (decide (t ∈ s), 0) else (false, 1)
def checkAll (h : Int) (s : List Nat) : Int := if (1 ≤ h ∧ h ≤ 32) ∧ SetOk h.toNat s then 0 else 1
theorem with_all (h : Int) (s : List Nat) (t : Nat) {L : List Nat} {r : Int} (e : Hid (withAll h s t = (L, r))) (A : Option Addr) (c : Nat) (w : World) (hA : Reads w A s) :
    Calls Try.prog 54 #[.int .i64 h, .slice A s.length c, .int .u64 (t : Int)] w (WPost L r w) := by
  have e' := e.out
  unfold withAll at e'
  split at e'
  · rename_i c0
    obtain ⟨n, rfl⟩ : ∃ n : Nat, h = n := ⟨h.toNat, by omega⟩
    rw [Int.toNat_natCast] at c0
    obtain ⟨⟨h1, h2⟩, hs, ht⟩ := c0
    unfold withAns at e'
    split at e'
    · rename_i hx; cases e'; exact WPost.none (with_there (by omega) (by omega) (mkHid hs) ht (mkHid hx) A c w hA)
    · rename_i hx
      split at e'
      · rename_i hl; cases e'; exact WPost.none (with_full (by omega) (by omega) (mkHid hs) ht (mkHid hx) hl A c w hA)
      · rename_i hl; cases e'; exact with_yes (by omega) (by omega) (mkHid hs) ht (mkHid hx) (by have := hs.1; omega) A c w hA
  · rename_i c0; cases e'; exact WPost.none (with_no ⟨c0⟩ A c w hA)
theorem swith_all (h : Int) (s : List Nat) (t : Nat) {L : List Nat} {r : Int} (e : Hid (withAll h s t = (L, r))) (A : Option Addr) (c : Nat) (w : World) (hA : Reads w A s) :
    Calls Try.prog 46 #[.int .i64 h, .slice A s.length c, .int .u64 (t : Int)] w (WPost L r w) := by
  have e' := e.out
  unfold withAll at e'
  split at e'
  · rename_i c0
    obtain ⟨n, rfl⟩ : ∃ n : Nat, h = n := ⟨h.toNat, by omega⟩
    rw [Int.toNat_natCast] at c0
    obtain ⟨⟨h1, h2⟩, hs, ht⟩ := c0
    unfold withAns at e'
    split at e'
    · rename_i hx; cases e'; exact WPost.none (swith_there (by omega) (by omega) (mkHid hs) ht (mkHid hx) A c w hA)
    · rename_i hx
      split at e'
      · rename_i hl; cases e'; exact WPost.none (swith_full (by omega) (by omega) (mkHid hs) ht (mkHid hx) hl A c w hA)
      · rename_i hl; cases e'; exact swith_yes (by omega) (by omega) (mkHid hs) ht (mkHid hx) (by have := hs.1; omega) A c w hA
  · rename_i c0; cases e'; exact WPost.none (swith_no ⟨c0⟩ A c w hA)
theorem without_all (h : Int) (s : List Nat) (t : Nat) {L : List Nat} {r : Int} (e : Hid (withoutAll h s t = (L, r))) (A : Option Addr) (c : Nat) (w : World) (hA : Reads w A s) :
    Calls Try.prog 55 #[.int .i64 h, .slice A s.length c, .int .u64 (t : Int)] w (WPost L r w) := by
  have e' := e.out
  unfold withoutAll at e'
  split at e'
  · rename_i c0
    obtain ⟨n, rfl⟩ : ∃ n : Nat, h = n := ⟨h.toNat, by omega⟩
    rw [Int.toNat_natCast] at c0
    obtain ⟨⟨h1, h2⟩, hs, ht⟩ := c0
    unfold withoutAns at e'
    split at e'
    · rename_i hx; cases e'; exact without_yes (by omega) (by omega) (mkHid hs) ht (mkHid hx) A c w hA
    · rename_i hx; cases e'; exact WPost.none (without_none (by omega) (by omega) (mkHid hs) ht (mkHid hx) A c w hA)
  · rename_i c0; cases e'; exact WPost.none (without_no ⟨c0⟩ A c w hA)
theorem swithout_all (h : Int) (s : List Nat) (t : Nat) {L : List Nat} {r : Int} (e : Hid (withoutAll h s t = (L, r))) (A : Option Addr) (c : Nat) (w : World) (hA : Reads w A s) :
    Calls Try.prog 47 #[.int .i64 h, .slice A s.length c, .int .u64 (t : Int)] w (WPost L r w) := by
  have e' := e.out
  unfold withoutAll at e'
  split at e'
  · rename_i c0
    obtain ⟨n, rfl⟩ : ∃ n : Nat, h = n := ⟨h.toNat, by omega⟩
    rw [Int.toNat_natCast] at c0
    obtain ⟨⟨h1, h2⟩, hs, ht⟩ := c0
    unfold withoutAns at e'
    split at e'
    · rename_i hx; cases e'; exact swithout_yes (by omega) (by omega) (mkHid hs) ht (mkHid hx) A c w hA
    · rename_i hx; cases e'; exact WPost.none (swithout_none (by omega) (by omega) (mkHid hs) ht (mkHid hx) A c w hA)
  · rename_i c0; cases e'; exact WPost.none (swithout_no ⟨c0⟩ A c w hA)
theorem has_all (h : Int) (s : List Nat) (t : Nat) {z : Bool} {r : Int} (e : Hid (hasAll h s t = (z, r))) (A : Option Addr) (c : Nat) (w : World) (hA : Reads w A s) :
    Calls Try.prog 43 #[.int .i64 h, .slice A s.length c, .int .u64 (t : Int)] w fun e w' => e = .returned (.tuple #[.bool z, .int .i64 r]) ∧ w' = w := by
  have e' := e.out
  unfold hasAll at e'
  split at e'
  · rename_i c0
    obtain ⟨n, rfl⟩ : ∃ n : Nat, h = n := ⟨h.toNat, by omega⟩
    rw [Int.toNat_natCast] at c0
    obtain ⟨⟨h1, h2⟩, hs, ht⟩ := c0
    cases e'
    exact has_yes (by omega) (by omega) (mkHid hs) ht (mkHid rfl) A c w hA
  · rename_i c0; cases e'; exact has_no ⟨c0⟩ A c w hA
theorem shas_all (h : Int) (s : List Nat) (t : Nat) {z : Bool} {r : Int} (e : Hid (hasAll h s t = (z, r))) (A : Option Addr) (c : Nat) (w : World) (hA : Reads w A s) :
    Calls Try.prog 64 #[.int .i64 h, .slice A s.length c, .int .u64 (t : Int)] w fun e w' => e = .returned (.tuple #[.bool z, .int .i64 r]) ∧ w' = w := by
  have e' := e.out
  unfold hasAll at e'
  split at e'
  · rename_i c0
    obtain ⟨n, rfl⟩ : ∃ n : Nat, h = n := ⟨h.toNat, by omega⟩
    rw [Int.toNat_natCast] at c0
    obtain ⟨⟨h1, h2⟩, hs, ht⟩ := c0
    cases e'
    exact shas_yes (by omega) (by omega) (mkHid hs) ht (mkHid rfl) A c w hA
  · rename_i c0; cases e'; exact shas_no ⟨c0⟩ A c w hA
theorem check_all (h : Int) (s : List Nat) {r : Int} (e : Hid (checkAll h s = r)) (A : Option Addr) (c : Nat) (w : World) (hA : Reads w A s) :
    Calls Try.prog 44 #[.int .i64 h, .slice A s.length c] w fun e w' => e = .returned (.int .i64 r) ∧ w' = w := by
  have e' := e.out
  unfold checkAll at e'
  by_cases H : 1 ≤ h ∧ h ≤ 32
  · obtain ⟨n, rfl⟩ : ∃ n : Nat, h = n := ⟨h.toNat, by omega⟩
    rw [Int.toNat_natCast] at e'
    split at e'
    · rename_i c0; cases e'; exact lcheck_yes (by omega) (by omega) c0.2 A c w hA
    · rename_i c0; cases e'; exact lcheck_no (by omega) (by omega) (fun q => c0 ⟨H, q⟩) A c w hA
  · rw [if_neg (fun q => H q.1)] at e'
    cases e'
    exact lcheck_bad (by omega) A _ c w
theorem scheck_all (h : Int) (s : List Nat) {r : Int} (e : Hid (checkAll h s = r)) (A : Option Addr) (c : Nat) (w : World) (hA : Reads w A s) :
    Calls Try.prog 51 #[.int .i64 h, .slice A s.length c] w fun e w' => e = .returned (.int .i64 r) ∧ w' = w := by
  have e' := e.out
  unfold checkAll at e'
  by_cases H : 1 ≤ h ∧ h ≤ 32
  · obtain ⟨n, rfl⟩ : ∃ n : Nat, h = n := ⟨h.toNat, by omega⟩
    rw [Int.toNat_natCast] at e'
    split at e'
    · rename_i c0; cases e'; exact scheck_yes (by omega) (by omega) c0.2 A c w hA
    · rename_i c0; cases e'; exact scheck_no (by omega) (by omega) (fun q => c0 ⟨H, q⟩) A c w hA
  · rw [if_neg (fun q => H q.1)] at e'
    cases e'
    exact scheck_bad (by omega) A _ c w
theorem withAll_len {h : Int} {s : List Nat} {t : Nat} {L : List Nat} {r : Int} (e : withAll h s t = (L, r)) : L.length ≤ 1024 := by
  unfold withAll withAns at e
  split at e
  · rename_i c0
    split at e
    · cases e; decide
    · rename_i hx
      split at e
      · cases e; decide
      · rename_i hl
        cases e
        rw [addL_length c0.2.1 hx]
        have := c0.2.1.1
        omega
  · cases e; decide
theorem withoutAll_len {h : Int} {s : List Nat} {t : Nat} {L : List Nat} {r : Int} (e : withoutAll h s t = (L, r)) : L.length ≤ 1024 := by
  unfold withoutAll withoutAns at e
  split at e
  · rename_i c0
    split at e
    · rename_i hx
      cases e
      have := remL_length c0.2.1 hx
      have := c0.2.1.1
      omega
    · cases e; decide
  · cases e; decide
end Go.Proofs.Ytmehbonjpmlmfaa
