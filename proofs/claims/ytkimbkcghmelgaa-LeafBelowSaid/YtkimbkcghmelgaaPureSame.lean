/- What Same of the second chapter's answer comes to at two lists that are the same. -/
import Derived.Test.YtkimbkcghmelgaaPSamex1
import Derived.Test.YtkimbkcghmelgaaLeafA
namespace Go.Proofs.Ytkimbkcghmelgaa.PSame
open Go.RowKit Go.Proofs.Ytkimbkcghmelgaa Go.Proofs.YtkimbkcghmelgaaW.PrintWords
theorem Same_l (l : List Int) (hl : l.length < 4611686018427387904) (d : Nat) : ∀ (f j : Nat), j + d = l.length → d < f → medlarref02_Same.l0 f l l (l.length : Int) (j : Int) = some true := by
  induction d with
  | zero =>
    intro f j hj hf
    obtain ⟨f, rfl⟩ : ∃ m, f = m + 1 := ⟨f - 1, by omega⟩
    simp only [medlarref02_Same.l0]
    rw [if_neg (by omega)]
  | succ d ih =>
    intro f j hj hf
    obtain ⟨f, rfl⟩ : ∃ m, f = m + 1 := ⟨f - 1, by omega⟩
    simp only [medlarref02_Same.l0]
    have ew : wrap64 ((j : Int) + 1) = ((j + 1 : Nat) : Int) := by unfold wrap64; omega
    rw [if_pos (by omega), if_pos (by omega), if_pos (by omega), if_pos (by omega), ew, if_pos trivial]
    exact ih f (j + 1) (by omega) (by omega)
theorem same_u64 {l : List Int} (hl : l.length < 4611686018427387904) {A B : Option Addr} {a b : Nat} {w : World} (hA : (Kd.int .u64).C w A l.length l) (ha : l.length ≤ a) (hB : (Kd.int .u64).C w B l.length l) (hb : l.length ≤ b) :
    Calls Try.prog 43 #[.slice A l.length a, .slice B l.length b] w fun e w' => e = .returned (.bool true) ∧ Below w.heap.size w w' := by
  refine (medlarref02_Same.calls (l.length + 1) A a l B b l true w hA ha hB hb ?_).mono fun e w' ⟨h1, h2⟩ => ⟨h1, h2.below⟩
  unfold medlarref02_Same.f
  rw [if_pos rfl]
  exact Same_l l hl l.length _ 0 (by omega) (by omega)
theorem same_reads {s : List Nat} (hl : s.length < 4611686018427387904) {A B : Option Addr} {a b : Nat} {w : World} (hA : Reads w A s) (ha : s.length ≤ a) (hB : Reads w B s) (hb : s.length ≤ b) :
    Calls Try.prog 43 #[.slice A s.length a, .slice B s.length b] w fun e w' => e = .returned (.bool true) ∧ Below w.heap.size w w' := by
  have e := zs_length s
  have hA' : (Kd.int .u64).C w A (zs s).length (zs s) := by rw [e]; exact hA
  have hB' : (Kd.int .u64).C w B (zs s).length (zs s) := by rw [e]; exact hB
  have k := same_u64 (l := zs s) (a := a) (b := b) (by omega) hA' (by omega) hB' (by omega)
  rwa [e] at k
end Go.Proofs.Ytkimbkcghmelgaa.PSame
