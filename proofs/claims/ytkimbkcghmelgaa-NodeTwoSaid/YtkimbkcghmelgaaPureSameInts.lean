/- What SameInts of the first chapter's answer comes to at two lists that are the same. -/
import Derived.Test.YtkimbkcghmelgaaPSameIntsx1
import Derived.Test.YtkimbkcghmelgaaList
namespace Go.Proofs.Ytkimbkcghmelgaa.PSameInts
open Go.RowKit Go.Proofs.Ytkimbkcghmelgaa Go.Proofs.YtkimbkcghmelgaaW.PrintWords
theorem Same_l (l : List Int) (hl : l.length < 4611686018427387904) (d : Nat) : ∀ (f j : Nat), j + d = l.length → d < f → medlarref01_SameInts.l0 f l l (l.length : Int) (j : Int) = some true := by
  induction d with
  | zero =>
    intro f j hj hf
    obtain ⟨f, rfl⟩ : ∃ m, f = m + 1 := ⟨f - 1, by omega⟩
    simp only [medlarref01_SameInts.l0]
    rw [if_neg (by omega)]
  | succ d ih =>
    intro f j hj hf
    obtain ⟨f, rfl⟩ : ∃ m, f = m + 1 := ⟨f - 1, by omega⟩
    simp only [medlarref01_SameInts.l0]
    have ew : wrap64 ((j : Int) + 1) = ((j + 1 : Nat) : Int) := by unfold wrap64; omega
    rw [if_pos (by omega), if_pos (by omega), if_pos (by omega), if_pos (by omega), ew, if_pos trivial]
    exact ih f (j + 1) (by omega) (by omega)
theorem same_ints {l : List Int} (hl : l.length < 4611686018427387904) {A B : Option Addr} {a b : Nat} {w : World} (hA : (Kd.int .i64).C w A l.length l) (ha : l.length ≤ a) (hB : (Kd.int .i64).C w B l.length l) (hb : l.length ≤ b) :
    Calls Try.prog 37 #[.slice A l.length a, .slice B l.length b] w fun e w' => e = .returned (.bool true) ∧ Below w.heap.size w w' := by
  refine (medlarref01_SameInts.calls (l.length + 1) A a l B b l true w hA ha hB hb ?_).mono fun e w' ⟨h1, h2⟩ => ⟨h1, h2.below⟩
  unfold medlarref01_SameInts.f
  rw [if_pos rfl]
  exact Same_l l hl l.length _ 0 (by omega) (by omega)
end Go.Proofs.Ytkimbkcghmelgaa.PSameInts
