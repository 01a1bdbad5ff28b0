/- What Above of the first chapter's answer comes to. -/
import Derived.Test.YtkimbkcghmelgaaPAbovex1
import Derived.Test.YtkimbkcghmelgaaRefL
import Derived.Test.YtkimbkcghmelgaaNodeC
namespace Go.Proofs.Ytkimbkcghmelgaa.PAbove
open Go.RowKit Go.Proofs.Ytkimbkcghmelgaa Go.Proofs.YtkimbkcghmelgaaW.PrintWords

theorem power_l (k : Nat) (hk : k ≤ 33) (d : Nat) : ∀ (f j : Nat), j + d = k → d < f → medlarref01_power.l0 f ((2 ^ j : Nat) : Int) (k : Int) (j : Int) = some ((2 ^ k : Nat) : Int) := by
  induction d with
  | zero =>
    intro f j hj hf
    obtain ⟨f, rfl⟩ : ∃ m, f = m + 1 := ⟨f - 1, by omega⟩
    obtain rfl : j = k := by omega
    simp only [medlarref01_power.l0]
    rw [if_neg (by omega)]
  | succ d ih =>
    intro f j hj hf
    obtain ⟨f, rfl⟩ : ∃ m, f = m + 1 := ⟨f - 1, by omega⟩
    simp only [medlarref01_power.l0]
    have hp := pow33' (k := j) (by omega)
    have e1 : IntKind.u64.wrap (2 * ((2 ^ j : Nat) : Int)) = ((2 ^ (j + 1) : Nat) : Int) := by
      rw [IntKind.wrap_u64, Nat.pow_succ]; omega
    have e2 : wrap64 ((j : Int) + 1) = ((j + 1 : Nat) : Int) := by unfold wrap64; omega
    rw [if_pos (by omega), e1, e2]
    exact ih f (j + 1) (by omega) (by omega)
theorem power_f {k f : Nat} (hk : k ≤ 33) (hf : 40 ≤ f) : medlarref01_power.f f (k : Int) = some ((2 ^ k : Nat) : Int) := by
  unfold medlarref01_power.f
  exact power_l k hk k f 0 (by omega) (by omega)

theorem May_yes {h n f : Nat} (H : Node h n) (hf : 40 ≤ f) : medlarref01_May.f f (h : Int) (n : Int) = some true := by
  have l := H.lt
  obtain ⟨h1, h2, h3, h4, h5⟩ := H
  unfold medlarref01_May.f
  have e : wrap64 ((h : Int) + 1) = ((h + 1 : Nat) : Int) := by unfold wrap64; omega
  rw [if_pos (by omega), if_pos (by omega), if_pos (by omega), e, power_f (by omega) hf]
  simp only [Option.bind_some]
  rw [decide_eq_true (by omega)]
theorem May_no {h : Int} {n f : Nat} (H : NoNode h n) (hn : n < 18446744073709551616) (hf : 40 ≤ f) : medlarref01_May.f f h (n : Int) = some false := by
  unfold medlarref01_May.f
  rcases H.out hn with a | a | ⟨k, rfl, a, b, c⟩
  · rw [if_neg (by omega)]
  · rw [if_pos (by omega), if_neg (by omega)]
  · rw [if_pos (by omega), if_pos (by omega)]
    rcases c with c | ⟨c, d⟩
    · rw [if_neg (by omega)]
    · have e : wrap64 ((k : Int) + 1) = ((k + 1 : Nat) : Int) := by unfold wrap64; omega
      rw [if_pos (by omega), e, power_f (by omega) hf]
      simp only [Option.bind_some]
      rw [decide_eq_false (by omega)]

theorem Chain_f (d : Nat) : ∀ (n f : Nat), dep n = d → 1 ≤ n → n < 18446744073709551616 → d < f → medlarref01_Chain.f f (n : Int) = some (chainL n d) := by
  induction d with
  | zero =>
    intro n f hd h1 h2 hf
    obtain ⟨f, rfl⟩ : ∃ m, f = m + 1 := ⟨f - 1, by omega⟩
    have := dep_hi h1 h2
    rw [hd] at this
    obtain rfl : n = 1 := by omega
    simp only [medlarref01_Chain.f]
    rw [if_pos (by rfl), chainL_zero]; rfl
  | succ d ih =>
    intro n f hd h1 h2 hf
    obtain ⟨f, rfl⟩ : ∃ m, f = m + 1 := ⟨f - 1, by omega⟩
    have lo := dep_lo h1 h2
    rw [hd, Nat.pow_succ] at lo
    have p := Nat.two_pow_pos d
    have hs := dep_shift (k := 1) h1 h2 (by omega)
    rw [Nat.pow_one, hd] at hs
    simp only [medlarref01_Chain.f]
    have e : IntKind.u64.wrap (Int.tdiv (n : Int) 2) = ((n / 2 : Nat) : Int) := by
      rw [Int.tdiv_eq_ediv_of_nonneg (by omega), IntKind.wrap_u64]; omega
    have h64 := dep_lt h1 h2
    rw [if_neg (by omega), e, ih (n / 2) f (by omega) (by omega) (by omega) (by omega)]
    simp only [Option.bind_some]
    rw [if_pos (by rw [chainL_length]; omega), chainL_succ]

theorem Is_l {a b d : Nat} (d' : Nat) : ∀ (f j : Nat) (z : Bool), (z = true ↔ ∃ i, j ≤ i ∧ i ≤ d ∧ b / 2 ^ (d - i) = a) → j + d' = d + 1 → d' < f → d < 64 → medlarref01_Is.l0 f (a : Int) (chainL b d) ((chainL b d).length : Int) (j : Int) = some z := by
  induction d' with
  | zero =>
    intro f j z hz hj hf hd
    obtain ⟨f, rfl⟩ : ∃ m, f = m + 1 := ⟨f - 1, by omega⟩
    simp only [medlarref01_Is.l0]
    rw [if_neg (by rw [chainL_length]; omega)]
    cases z with
    | false => rfl
    | true =>
      obtain ⟨i, h1, h2, _⟩ := hz.1 rfl
      omega
  | succ d' ih =>
    intro f j z hz hj hf hd
    obtain ⟨f, rfl⟩ : ∃ m, f = m + 1 := ⟨f - 1, by omega⟩
    simp only [medlarref01_Is.l0]
    have er : rd (chainL b d) (j : Int) = ((b / 2 ^ (d - j) : Nat) : Int) := by
      unfold rd; rw [Int.toNat_natCast]; exact chainL_getD b d j (by omega)
    have ew : wrap64 ((j : Int) + 1) = ((j + 1 : Nat) : Int) := by unfold wrap64; omega
    rw [if_pos (by rw [chainL_length]; omega), if_pos (by omega), if_pos (by rw [chainL_length]; omega), er, ew]
    by_cases c : b / 2 ^ (d - j) = a
    · rw [if_pos (by omega), hz.2 ⟨j, by omega, by omega, c⟩]
    · rw [if_neg (by omega)]
      refine ih f (j + 1) z (hz.trans ?_) (by omega) (by omega) hd
      constructor
      · rintro ⟨i, h1, h2, h3⟩
        refine ⟨i, ?_, h2, h3⟩
        rcases Nat.lt_or_ge j i with l | l
        · omega
        · obtain rfl : i = j := by omega
          exact absurd h3 c
      · rintro ⟨i, h1, h2, h3⟩; exact ⟨i, by omega, h2, h3⟩
theorem Is_f {a b f : Nat} (b1 : 1 ≤ b) (b2 : b < 18446744073709551616) (hf : 70 ≤ f) : medlarref01_Is.f f (a : Int) (b : Int) = some (decide (Anc a b)) := by
  have h64 := dep_lt b1 b2
  unfold medlarref01_Is.f
  rw [Chain_f _ b f rfl b1 b2 (by omega)]
  simp only [Option.bind_some]
  rw [show (0 : Int) = ((0 : Nat) : Int) from rfl]
  refine Is_l (dep b + 1) f 0 _ ?_ (by omega) (by omega) h64
  rw [decide_eq_true_eq, anc_mem rfl b1 b2]
  constructor
  · rintro ⟨i, h2, h3⟩; exact ⟨i, by omega, h2, h3⟩
  · rintro ⟨i, _, h2, h3⟩; exact ⟨i, h2, h3⟩

theorem rabove_any {h a b : Nat} {z : Bool} (H : Node h a) (K : Node h b) (hz : Hid (decide (Anc a b) = z)) (w : World) :
    Calls Try.prog 33 #[.int .i64 (h : Int), .int .u64 (a : Int), .int .u64 (b : Int)] w fun e w' => e = .returned (.tuple #[.bool z, .int .i64 0]) ∧ Below w.heap.size w w' := by
  refine medlarref01_Above.calls 200 _ _ _ _ _ w ?_
  unfold medlarref01_Above.f
  rw [May_yes H (by omega), May_yes K (by omega), Is_f K.2.2.1 K.2.2.2.2 (by omega), hz.out]
  simp

theorem rabove_no1 {h : Int} {a b : Nat} (H : NoNode h a) (ha : a < 18446744073709551616) (w : World) :
    Calls Try.prog 33 #[.int .i64 h, .int .u64 (a : Int), .int .u64 (b : Int)] w fun e w' => e = .returned (.tuple #[.bool false, .int .i64 1]) ∧ Below w.heap.size w w' := by
  refine medlarref01_Above.calls 200 _ _ _ _ _ w ?_
  unfold medlarref01_Above.f
  rw [May_no H ha (by omega)]
  simp

theorem rabove_no2 {h a b : Nat} (H : Node h a) (K : NoNode h b) (hb : b < 18446744073709551616) (w : World) :
    Calls Try.prog 33 #[.int .i64 (h : Int), .int .u64 (a : Int), .int .u64 (b : Int)] w fun e w' => e = .returned (.tuple #[.bool false, .int .i64 1]) ∧ Below w.heap.size w w' := by
  refine medlarref01_Above.calls 200 _ _ _ _ _ w ?_
  unfold medlarref01_Above.f
  rw [May_yes H (by omega), May_no K hb (by omega)]
  simp
end Go.Proofs.Ytkimbkcghmelgaa.PAbove
