/- What Depth of the first chapter's answer comes to. -/
import Derived.Test.YtkimbkcghmelgaaPDepthx1
import Derived.Test.YtkimbkcghmelgaaRefL
import Derived.Test.YtkimbkcghmelgaaNodeC
namespace Go.Proofs.Ytkimbkcghmelgaa.PDepth
open Go.RowKit Go.Proofs.Ytkimbkcghmelgaa Go.Proofs.YtkimbkcghmelgaaW.PrintWords

theorem power_l (k : Nat) (hk : k ≤ 33) (d : Nat) : ∀ (f j : Nat), j + d = k → d < f → medlarref01_power.l0 f ((2 ^ j : Nat) : Int) (k : Int) (j : Int) = some ((2 ^ k : Nat) : Int) := by
  induction d with
  | zero =>
    intro f j hj hf
    obtain ⟨f, rfl⟩ : ∃ m, f = m + 1 := ⟨f - 1, by omega⟩
    obtain rfl : j = k := by omega
    simp only [medlarref01_power.l0]
    rw [if_neg (by omega)]
  | succ d ih =>
    intro f j hj hf
    obtain ⟨f, rfl⟩ : ∃ m, f = m + 1 := ⟨f - 1, by omega⟩
    simp only [medlarref01_power.l0]
    have hp := pow33' (k := j) (by omega)
    have e1 : IntKind.u64.wrap (2 * ((2 ^ j : Nat) : Int)) = ((2 ^ (j + 1) : Nat) : Int) := by
      rw [IntKind.wrap_u64, Nat.pow_succ]; omega
    have e2 : wrap64 ((j : Int) + 1) = ((j + 1 : Nat) : Int) := by unfold wrap64; omega
    rw [if_pos (by omega), e1, e2]
    exact ih f (j + 1) (by omega) (by omega)
theorem power_f {k f : Nat} (hk : k ≤ 33) (hf : 40 ≤ f) : medlarref01_power.f f (k : Int) = some ((2 ^ k : Nat) : Int) := by
  unfold medlarref01_power.f
  exact power_l k hk k f 0 (by omega) (by omega)

theorem May_yes {h n f : Nat} (H : Node h n) (hf : 40 ≤ f) : medlarref01_May.f f (h : Int) (n : Int) = some true := by
  have l := H.lt
  obtain ⟨h1, h2, h3, h4, h5⟩ := H
  unfold medlarref01_May.f
  have e : wrap64 ((h : Int) + 1) = ((h + 1 : Nat) : Int) := by unfold wrap64; omega
  rw [if_pos (by omega), if_pos (by omega), if_pos (by omega), e, power_f (by omega) hf]
  simp only [Option.bind_some]
  rw [decide_eq_true (by omega)]
theorem May_no {h : Int} {n f : Nat} (H : NoNode h n) (hn : n < 18446744073709551616) (hf : 40 ≤ f) : medlarref01_May.f f h (n : Int) = some false := by
  unfold medlarref01_May.f
  rcases H.out hn with a | a | ⟨k, rfl, a, b, c⟩
  · rw [if_neg (by omega)]
  · rw [if_pos (by omega), if_neg (by omega)]
  · rw [if_pos (by omega), if_pos (by omega)]
    rcases c with c | ⟨c, d⟩
    · rw [if_neg (by omega)]
    · have e : wrap64 ((k : Int) + 1) = ((k + 1 : Nat) : Int) := by unfold wrap64; omega
      rw [if_pos (by omega), e, power_f (by omega) hf]
      simp only [Option.bind_some]
      rw [decide_eq_false (by omega)]

theorem Chain_f (d : Nat) : ∀ (n f : Nat), dep n = d → 1 ≤ n → n < 18446744073709551616 → d < f → medlarref01_Chain.f f (n : Int) = some (chainL n d) := by
  induction d with
  | zero =>
    intro n f hd h1 h2 hf
    obtain ⟨f, rfl⟩ : ∃ m, f = m + 1 := ⟨f - 1, by omega⟩
    have := dep_hi h1 h2
    rw [hd] at this
    obtain rfl : n = 1 := by omega
    simp only [medlarref01_Chain.f]
    rw [if_pos (by rfl), chainL_zero]; rfl
  | succ d ih =>
    intro n f hd h1 h2 hf
    obtain ⟨f, rfl⟩ : ∃ m, f = m + 1 := ⟨f - 1, by omega⟩
    have lo := dep_lo h1 h2
    rw [hd, Nat.pow_succ] at lo
    have p := Nat.two_pow_pos d
    have hs := dep_shift (k := 1) h1 h2 (by omega)
    rw [Nat.pow_one, hd] at hs
    simp only [medlarref01_Chain.f]
    have e : IntKind.u64.wrap (Int.tdiv (n : Int) 2) = ((n / 2 : Nat) : Int) := by
      rw [Int.tdiv_eq_ediv_of_nonneg (by omega), IntKind.wrap_u64]; omega
    have h64 := dep_lt h1 h2
    rw [if_neg (by omega), e, ih (n / 2) f (by omega) (by omega) (by omega) (by omega)]
    simp only [Option.bind_some]
    rw [if_pos (by rw [chainL_length]; omega), chainL_succ]

theorem rdepth_yes {h n d : Nat} (H : Node h n) (hd : Hid (dep n = d)) (w : World) :
    Calls Try.prog 24 #[.int .i64 (h : Int), .int .u64 (n : Int)] w fun e w' => e = .returned (.tuple #[.int .i64 (d : Int), .int .i64 0]) ∧ Below w.heap.size w w' := by
  have hc := Chain_f d n 200 hd.out H.2.2.1 H.2.2.2.2 (by have := dep_lt H.2.2.1 H.2.2.2.2; have := hd.out; omega)
  refine medlarref01_Depth.calls 200 _ _ _ _ w ?_
  have hl := dep_lt H.2.2.1 H.2.2.2.2
  have e := hd.out
  unfold medlarref01_Depth.f
  rw [May_yes H (by omega), hc]
  simp only [Option.bind_some, if_true, chainL_length]
  congr 2
  unfold wrap64; omega

theorem rdepth_no {h : Int} {n : Nat} (H : NoNode h n) (hn : n < 18446744073709551616) (w : World) :
    Calls Try.prog 24 #[.int .i64 h, .int .u64 (n : Int)] w fun e w' => e = .returned (.tuple #[.int .i64 0, .int .i64 1]) ∧ Below w.heap.size w w' := by
  refine medlarref01_Depth.calls 200 _ _ _ _ w ?_
  unfold medlarref01_Depth.f
  rw [May_no H hn (by omega)]
  simp
end Go.Proofs.Ytkimbkcghmelgaa.PDepth
