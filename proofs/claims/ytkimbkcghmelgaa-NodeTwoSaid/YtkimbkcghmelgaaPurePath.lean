/- What Path of the first chapter's answer comes to. -/
import Derived.Test.YtkimbkcghmelgaaPPathx1
import Derived.Test.YtkimbkcghmelgaaRefL
import Derived.Test.YtkimbkcghmelgaaNodeC
import Derived.Test.YtkimbkcghmelgaaPathN
namespace Go.Proofs.Ytkimbkcghmelgaa.PPath
open Go.RowKit Go.Proofs.Ytkimbkcghmelgaa Go.Proofs.YtkimbkcghmelgaaW.PrintWords

theorem power_l (k : Nat) (hk : k ≤ 33) (d : Nat) : ∀ (f j : Nat), j + d = k → d < f → medlarref01_power.l0 f ((2 ^ j : Nat) : Int) (k : Int) (j : Int) = some ((2 ^ k : Nat) : Int) := by
  induction d with
  | zero =>
    intro f j hj hf
    obtain ⟨f, rfl⟩ : ∃ m, f = m + 1 := ⟨f - 1, by omega⟩
    obtain rfl : j = k := by omega
    simp only [medlarref01_power.l0]
    rw [if_neg (by omega)]
  | succ d ih =>
    intro f j hj hf
    obtain ⟨f, rfl⟩ : ∃ m, f = m + 1 := ⟨f - 1, by omega⟩
    simp only [medlarref01_power.l0]
    have hp := pow33' (k := j) (by omega)
    have e1 : IntKind.u64.wrap (2 * ((2 ^ j : Nat) : Int)) = ((2 ^ (j + 1) : Nat) : Int) := by
      rw [IntKind.wrap_u64, Nat.pow_succ]; omega
    have e2 : wrap64 ((j : Int) + 1) = ((j + 1 : Nat) : Int) := by unfold wrap64; omega
    rw [if_pos (by omega), e1, e2]
    exact ih f (j + 1) (by omega) (by omega)
theorem power_f {k f : Nat} (hk : k ≤ 33) (hf : 40 ≤ f) : medlarref01_power.f f (k : Int) = some ((2 ^ k : Nat) : Int) := by
  unfold medlarref01_power.f
  exact power_l k hk k f 0 (by omega) (by omega)

theorem May_yes {h n f : Nat} (H : Node h n) (hf : 40 ≤ f) : medlarref01_May.f f (h : Int) (n : Int) = some true := by
  have l := H.lt
  obtain ⟨h1, h2, h3, h4, h5⟩ := H
  unfold medlarref01_May.f
  have e : wrap64 ((h : Int) + 1) = ((h + 1 : Nat) : Int) := by unfold wrap64; omega
  rw [if_pos (by omega), if_pos (by omega), if_pos (by omega), e, power_f (by omega) hf]
  simp only [Option.bind_some]
  rw [decide_eq_true (by omega)]
theorem May_no {h : Int} {n f : Nat} (H : NoNode h n) (hn : n < 18446744073709551616) (hf : 40 ≤ f) : medlarref01_May.f f h (n : Int) = some false := by
  unfold medlarref01_May.f
  rcases H.out hn with a | a | ⟨k, rfl, a, b, c⟩
  · rw [if_neg (by omega)]
  · rw [if_pos (by omega), if_neg (by omega)]
  · rw [if_pos (by omega), if_pos (by omega)]
    rcases c with c | ⟨c, d⟩
    · rw [if_neg (by omega)]
    · have e : wrap64 ((k : Int) + 1) = ((k + 1 : Nat) : Int) := by unfold wrap64; omega
      rw [if_pos (by omega), e, power_f (by omega) hf]
      simp only [Option.bind_some]
      rw [decide_eq_false (by omega)]

theorem Chain_f (d : Nat) : ∀ (n f : Nat), dep n = d → 1 ≤ n → n < 18446744073709551616 → d < f → medlarref01_Chain.f f (n : Int) = some (chainL n d) := by
  induction d with
  | zero =>
    intro n f hd h1 h2 hf
    obtain ⟨f, rfl⟩ : ∃ m, f = m + 1 := ⟨f - 1, by omega⟩
    have := dep_hi h1 h2
    rw [hd] at this
    obtain rfl : n = 1 := by omega
    simp only [medlarref01_Chain.f]
    rw [if_pos (by rfl), chainL_zero]; rfl
  | succ d ih =>
    intro n f hd h1 h2 hf
    obtain ⟨f, rfl⟩ : ∃ m, f = m + 1 := ⟨f - 1, by omega⟩
    have lo := dep_lo h1 h2
    rw [hd, Nat.pow_succ] at lo
    have p := Nat.two_pow_pos d
    have hs := dep_shift (k := 1) h1 h2 (by omega)
    rw [Nat.pow_one, hd] at hs
    simp only [medlarref01_Chain.f]
    have e : IntKind.u64.wrap (Int.tdiv (n : Int) 2) = ((n / 2 : Nat) : Int) := by
      rw [Int.tdiv_eq_ediv_of_nonneg (by omega), IntKind.wrap_u64]; omega
    have h64 := dep_lt h1 h2
    rw [if_neg (by omega), e, ih (n / 2) f (by omega) (by omega) (by omega) (by omega)]
    simp only [Option.bind_some]
    rw [if_pos (by rw [chainL_length]; omega), chainL_succ]

theorem Is_l {a b d : Nat} (d' : Nat) : ∀ (f j : Nat) (z : Bool), (z = true ↔ ∃ i, j ≤ i ∧ i ≤ d ∧ b / 2 ^ (d - i) = a) → j + d' = d + 1 → d' < f → d < 64 → medlarref01_Is.l0 f (a : Int) (chainL b d) ((chainL b d).length : Int) (j : Int) = some z := by
  induction d' with
  | zero =>
    intro f j z hz hj hf hd
    obtain ⟨f, rfl⟩ : ∃ m, f = m + 1 := ⟨f - 1, by omega⟩
    simp only [medlarref01_Is.l0]
    rw [if_neg (by rw [chainL_length]; omega)]
    cases z with
    | false => rfl
    | true =>
      obtain ⟨i, h1, h2, _⟩ := hz.1 rfl
      omega
  | succ d' ih =>
    intro f j z hz hj hf hd
    obtain ⟨f, rfl⟩ : ∃ m, f = m + 1 := ⟨f - 1, by omega⟩
    simp only [medlarref01_Is.l0]
    have er : rd (chainL b d) (j : Int) = ((b / 2 ^ (d - j) : Nat) : Int) := by
      unfold rd; rw [Int.toNat_natCast]; exact chainL_getD b d j (by omega)
    have ew : wrap64 ((j : Int) + 1) = ((j + 1 : Nat) : Int) := by unfold wrap64; omega
    rw [if_pos (by rw [chainL_length]; omega), if_pos (by omega), if_pos (by rw [chainL_length]; omega), er, ew]
    by_cases c : b / 2 ^ (d - j) = a
    · rw [if_pos (by omega), hz.2 ⟨j, by omega, by omega, c⟩]
    · rw [if_neg (by omega)]
      refine ih f (j + 1) z (hz.trans ?_) (by omega) (by omega) hd
      constructor
      · rintro ⟨i, h1, h2, h3⟩
        refine ⟨i, ?_, h2, h3⟩
        rcases Nat.lt_or_ge j i with l | l
        · omega
        · obtain rfl : i = j := by omega
          exact absurd h3 c
      · rintro ⟨i, h1, h2, h3⟩; exact ⟨i, by omega, h2, h3⟩
theorem Is_f {a b f : Nat} (b1 : 1 ≤ b) (b2 : b < 18446744073709551616) (hf : 70 ≤ f) : medlarref01_Is.f f (a : Int) (b : Int) = some (decide (Anc a b)) := by
  have h64 := dep_lt b1 b2
  unfold medlarref01_Is.f
  rw [Chain_f _ b f rfl b1 b2 (by omega)]
  simp only [Option.bind_some]
  rw [show (0 : Int) = ((0 : Nat) : Int) from rfl]
  refine Is_l (dep b + 1) f 0 _ ?_ (by omega) (by omega) h64
  rw [decide_eq_true_eq, anc_mem rfl b1 b2]
  constructor
  · rintro ⟨i, h2, h3⟩; exact ⟨i, by omega, h2, h3⟩
  · rintro ⟨i, _, h2, h3⟩; exact ⟨i, h2, h3⟩

def acc (b d p i : Nat) : List Int := (List.range (i - (p + 1))).map fun t => ((b / 2 ^ (d - (p + 1 + t)) % 2 : Nat) : Int)
theorem acc_len (b d p i : Nat) : (acc b d p i).length = i - (p + 1) := by simp [acc]
theorem acc_low (b d p i : Nat) (h : i ≤ p) : acc b d p (i + 1) = acc b d p i := by
  unfold acc; rw [show i + 1 - (p + 1) = i - (p + 1) by omega]
theorem acc_next (b d p i : Nat) (h : p < i) : acc b d p (i + 1) = acc b d p i ++ [((b / 2 ^ (d - i) % 2 : Nat) : Int)] := by
  unfold acc
  rw [show i + 1 - (p + 1) = i - (p + 1) + 1 by omega, List.range_succ, List.map_append, List.map_singleton, show p + 1 + (i - (p + 1)) = i by omega]
theorem acc_end (b d p m : Nat) (h : d - p = m) : acc b d p (d + 1) = pathL b m := by
  unfold acc pathL
  rw [show d + 1 - (p + 1) = m by omega]
  apply List.map_congr_left
  intro t ht
  have := List.mem_range.1 ht
  rw [show d - (p + 1 + t) = m - 1 - t by omega]
theorem Path_l {a b d p : Nat} (h64 : d < 64) (HC : Hid (∀ j, j ≤ d → (j ≤ p → b / 2 ^ (d - j) ≤ a) ∧ (p < j → a < b / 2 ^ (d - j) ∧ Anc a (b / 2 ^ (d - j)) ∧ 1 ≤ b / 2 ^ (d - j) ∧ b / 2 ^ (d - j) < 18446744073709551616))) (d' : Nat) :
    ∀ (f j : Nat), j + d' = d + 1 → d' + 70 < f → medlarref01_Path.l0 f (a : Int) (acc b d p j) (chainL b d) ((chainL b d).length : Int) (j : Int) = some (acc b d p (d + 1), 0) := by
  induction d' with
  | zero =>
    intro f j hj hf
    obtain ⟨f, rfl⟩ : ∃ m, f = m + 1 := ⟨f - 1, by omega⟩
    simp only [medlarref01_Path.l0]
    rw [if_neg (by rw [chainL_length]; omega), show j = d + 1 by omega]
  | succ d' ih =>
    intro f j hj hf
    obtain ⟨f, rfl⟩ : ∃ m, f = m + 1 := ⟨f - 1, by omega⟩
    have hq : 70 ≤ f := by omega
    simp only [medlarref01_Path.l0]
    have er : rd (chainL b d) (j : Int) = ((b / 2 ^ (d - j) : Nat) : Int) := by
      unfold rd; rw [Int.toNat_natCast]; exact chainL_getD b d j (by omega)
    have ew : wrap64 ((j : Int) + 1) = ((j + 1 : Nat) : Int) := by unfold wrap64; omega
    rw [if_pos (by rw [chainL_length]; omega), if_pos (by omega), if_pos (by rw [chainL_length]; omega), er, ew]
    have hc := HC.out j (by omega)
    by_cases c : j ≤ p
    · have c1 := hc.1 c
      rw [if_neg (by omega), ← acc_low b d p j c]
      exact ih f (j + 1) (by omega) (by omega)
    · obtain ⟨c1, c2, c3, c4⟩ := hc.2 (by omega)
      rw [if_pos (by omega), Is_f c3 c4 hq, decide_eq_true c2]
      simp only [Option.bind_some, if_true]
      have et : wrap64 (Int.tmod ((b / 2 ^ (d - j) : Nat) : Int) 2) = ((b / 2 ^ (d - j) % 2 : Nat) : Int) := by
        rw [Int.tmod_eq_emod_of_nonneg (by omega)]; unfold wrap64; omega
      rw [if_pos (by rw [acc_len]; omega), et, ← acc_next b d p j (by omega)]
      exact ih f (j + 1) (by omega) (by omega)
theorem path_facts {a b p d : Nat} (hp : dep a = p) (hd : dep b = d) (a1 : 1 ≤ a) (a2 : a < 18446744073709551616) (b1 : 1 ≤ b) (b2 : b < 18446744073709551616) (hA : Anc a b) (j : Nat) (hj : j ≤ d) :
    (j ≤ p → b / 2 ^ (d - j) ≤ a) ∧ (p < j → a < b / 2 ^ (d - j) ∧ Anc a (b / 2 ^ (d - j)) ∧ 1 ≤ b / 2 ^ (d - j) ∧ b / 2 ^ (d - j) < 18446744073709551616) := by
  have x1 := shift_pos (k := d - j) b1 b2 (by omega)
  have x2 := dep_shift (k := d - j) b1 b2 (by omega)
  have x3 := anc_shift (k := d - j) b1 b2 (by omega)
  have x4 : b / 2 ^ (d - j) < 18446744073709551616 := Nat.lt_of_le_of_lt (Nat.div_le_self _ _) b2
  have e := hA.2
  have l := hA.1
  rw [hp, hd] at e l
  generalize hx : b / 2 ^ (d - j) = x at *
  have dx : dep x = j := by omega
  constructor
  · intro h
    have y : x = a / 2 ^ (p - j) := by rw [← e, ← hx, Nat.div_div_eq_div_mul, ← Nat.pow_add, show d - p + (p - j) = d - j by omega]
    rw [y]; exact Nat.div_le_self _ _
  · intro h
    have u := dep_hi a1 a2
    have v := dep_lo x1 x4
    rw [hp] at u; rw [dx] at v
    have := pow_le (a := p + 1) (b := j) (by omega)
    exact ⟨by omega, hA.both x3 (by omega), x1, x4⟩

theorem rpath_yes {h a b p q m : Nat} (H : Node h a) (K : Node h b) (hA : Hid (Anc a b)) (hp : Hid (dep a = p)) (hq : Hid (dep b = q)) (hm : Hid (q - p = m)) (w : World) :
    Calls Try.prog 36 #[.int .i64 (h : Int), .int .u64 (a : Int), .int .u64 (b : Int)] w fun e w' => ∃ v, e = .returned (.tuple #[v, .int .i64 0]) ∧ (Kd.int .i64).R 3 w' w.heap.size (fun _ => True) v (pathL b m) ∧ Below w.heap.size w w' := by
  refine medlarref01_Path.calls 200 _ _ _ _ _ w ?_
  have hf := path_facts hp.out hq.out H.2.2.1 H.2.2.2.2 K.2.2.1 K.2.2.2.2 hA.out
  have h64 := dep_lt K.2.2.1 K.2.2.2.2
  rw [hq.out] at h64
  have hc := Chain_f q b 199 hq.out K.2.2.1 K.2.2.2.2 (by omega)
  unfold medlarref01_Path.f
  rw [May_yes H (by omega), May_yes K (by omega)]
  simp only [Option.bind_some, if_true, Bool.not_true]
  simp only [medlarref01_Path.j0]
  rw [if_neg (by decide), Is_f K.2.2.1 K.2.2.2.2 (by omega), decide_eq_true hA.out]
  simp only [Option.bind_some, if_true]
  rw [hc]
  simp only [Option.bind_some]
  rw [← acc_end b q p m hm.out]
  have h0 : acc b q p 0 = [] := by unfold acc; rw [Nat.zero_sub]; rfl
  rw [← h0]
  exact Path_l h64 (mkHid hf) (q + 1) _ 0 (by omega) (by omega)

theorem rpath_none {h a b : Nat} (H : Node h a) (K : Node h b) (hA : Hid (¬ Anc a b)) (w : World) :
    Calls Try.prog 36 #[.int .i64 (h : Int), .int .u64 (a : Int), .int .u64 (b : Int)] w fun e w' => ∃ v, e = .returned (.tuple #[v, .int .i64 4]) ∧ (Kd.int .i64).R 3 w' w.heap.size (fun _ => True) v ([]) ∧ Below w.heap.size w w' := by
  refine medlarref01_Path.calls 200 _ _ _ _ _ w ?_
  unfold medlarref01_Path.f
  rw [May_yes H (by omega), May_yes K (by omega)]
  simp only [Option.bind_some, if_true, Bool.not_true]
  simp only [medlarref01_Path.j0]
  rw [if_neg (by decide), Is_f K.2.2.1 K.2.2.2.2 (by omega), decide_eq_false hA.out]
  simp

theorem rpath_no1 {h : Int} {a b : Nat} (H : NoNode h a) (ha : a < 18446744073709551616) (w : World) :
    Calls Try.prog 36 #[.int .i64 h, .int .u64 (a : Int), .int .u64 (b : Int)] w fun e w' => ∃ v, e = .returned (.tuple #[v, .int .i64 1]) ∧ (Kd.int .i64).R 3 w' w.heap.size (fun _ => True) v ([]) ∧ Below w.heap.size w w' := by
  refine medlarref01_Path.calls 200 _ _ _ _ _ w ?_
  unfold medlarref01_Path.f
  rw [May_no H ha (by omega)]
  simp [medlarref01_Path.j0]

theorem rpath_no2 {h a b : Nat} (H : Node h a) (K : NoNode h b) (hb : b < 18446744073709551616) (w : World) :
    Calls Try.prog 36 #[.int .i64 (h : Int), .int .u64 (a : Int), .int .u64 (b : Int)] w fun e w' => ∃ v, e = .returned (.tuple #[v, .int .i64 1]) ∧ (Kd.int .i64).R 3 w' w.heap.size (fun _ => True) v ([]) ∧ Below w.heap.size w w' := by
  refine medlarref01_Path.calls 200 _ _ _ _ _ w ?_
  unfold medlarref01_Path.f
  rw [May_yes H (by omega), May_no K hb (by omega)]
  simp [medlarref01_Path.j0]
end Go.Proofs.Ytkimbkcghmelgaa.PPath
