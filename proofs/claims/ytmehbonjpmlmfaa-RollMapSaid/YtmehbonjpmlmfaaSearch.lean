/- The contracts of slices.BinarySearch at uint64, of leaf.find and leaf.Has. -/
import Derived.Test.YtmehbonjpmlmfaaLeafA
namespace Go.Proofs.Ytmehbonjpmlmfaa
open Go.RowKit

set_option maxHeartbeats 400000 in
theorem nan1 (x : Nat) (w : World) : Calls Try.prog 81 #[.int .u64 (x : Int)] w fun e w' => e = .returned (.bool false) ∧ w' = w := by
  go_enter Try.func81, Try.ntmps81
  go_wp2_with fail
  go_ret
  exact ⟨by simp, rfl⟩
set_option maxHeartbeats 400000 in
theorem nan2 (x : Nat) (w : World) : Calls Try.prog 78 #[.int .u64 (x : Int)] w fun e w' => e = .returned (.bool false) ∧ w' = w := by
  go_enter Try.func78, Try.ntmps78
  go_wp2_with fail
  go_ret
  exact ⟨by simp, rfl⟩
set_option maxHeartbeats 400000 in
theorem less_u64 {x y : Nat} {z : Bool} (hz : decide (x < y) = z) (w : World) : Calls Try.prog 77 #[.int .u64 (x : Int), .int .u64 (y : Int)] w fun e w' => e = .returned (.bool z) ∧ w' = w := by
  go_enter Try.func77, Try.ntmps77
  go_wp2_with (go_at_call 81; ((with_reducible refine (nan1 _ _).mono ?_); rintro e w' ⟨rfl, rfl⟩))
  go_ret
  exact ⟨by simp, rfl⟩
/-- the place of a number in a list that grows: below it all are less, from it on none -/
structure Place (s : List Nat) (t k : Nat) : Prop where
  le : k ≤ s.length
  lo : ∀ j, j < k → s.getD j 0 < t
  hi : ∀ j, k ≤ j → j < s.length → t ≤ s.getD j 0

set_option maxRecDepth 100000 in
set_option maxHeartbeats 2000000 in
theorem search_eq {s : List Nat} {t k : Nat} {z : Bool} (hp : Hid (Place s t k)) (hz : Hid (decide (k < s.length ∧ s.getD k 0 = t) = z)) (hlen : s.length ≤ 4611686018427387904) (A : Option Addr) (c : Nat) (w : World) (hA : Reads w A s) :
    Calls Try.prog 70 #[.slice A s.length c, .int .u64 (t : Int)] w fun e w' => e = .returned (.tuple #[.int .i64 (k : Int), .bool z]) ∧ w' = w := by
  have hkl := hp.out.le
  have HA := mkHid hA
  clear hA
  generalize hm : s.length = m at *
  have Hm := mkHid hm
  clear hm
  go_enter Try.func70, Try.ntmps70
  go_wp2_with fail
  go_loop [7, 8] (fun i j => ∃ p q : Nat, p ≤ k ∧ k ≤ q ∧ q ≤ m ∧ i = .int .i64 (p : Int) ∧ j = .int .i64 (q : Int)) (fun i j => (intOf j).toNat - (intOf i).toNat)
  case atStart => exact ⟨0, m, by omega, hkl, by omega, rfl, rfl⟩
  case round =>
    obtain ⟨p, q, h1, h2, h3, rfl, rfl⟩ := hrel
    by_cases hlt : p < q
    · have hh : (p + q) / 2 < m := by omega
      obtain ⟨ad, rfl, hc⟩ := HA.out.cell ((p + q) / 2) (by rw [Hm.out]; exact hh)
      obtain ⟨x, hx⟩ : ∃ x, Hid (s.getD ((p + q) / 2) 0 = x) := ⟨_, mkHid rfl⟩
      rw [hx.out] at hc
      have e1 : IntKind.u64.wrap ((p : Int) + (q : Int)) = ((p + q : Nat) : Int) := by rw [IntKind.wrap_u64]; omega
      have e2 : ((p : Int) + (q : Int)) / 2 = (((p + q) / 2 : Nat) : Int) := by omega
      have hb : p ≤ (p + q) / 2 ∧ (p + q) / 2 < q := by omega
      have hlo : k ≤ (p + q) / 2 → t ≤ x := fun h => by rw [← hx.out]; exact hp.out.hi _ h (by rw [Hm.out]; exact hh)
      have hhi : (p + q) / 2 < k → x < t := fun h => by rw [← hx.out]; exact hp.out.lo _ h
      have Hlo := mkHid hlo
      have Hhi := mkHid hhi
      clear hlo hhi
      generalize hg : (p + q) / 2 = g at *
      clear hg
      by_cases c : x < t
      · have hgk : g < k := by
          rcases Nat.lt_or_ge g k with l | l
          · exact l
          · have := Hlo.out l; omega
        go_wp2_with (go_at_call 77; ((with_reducible refine (less_u64 (decide_eq_true c) _).mono ?_); rintro e w' ⟨rfl, hw'⟩; obtain rfl := hw'.symm))
        go_round
        case rel => exact ⟨g + 1, q, by omega, h2, h3, by go_num, rfl⟩
        case measure => simp [intOf]; omega
      · have hgk : k ≤ g := by
          rcases Nat.lt_or_ge g k with l | l
          · have := Hhi.out l; omega
          · exact l
        go_wp2_with (go_at_call 77; ((with_reducible refine (less_u64 (decide_eq_false c) _).mono ?_); rintro e w' ⟨rfl, hw'⟩; obtain rfl := hw'.symm))
        go_round
        case rel => exact ⟨p, g, h1, hgk, by omega, rfl, rfl⟩
        case measure => simp [intOf]; omega
    · obtain rfl : p = k := by omega
      obtain rfl : q = p := by omega
      by_cases hkm : q < m
      · obtain ⟨ad, rfl, hc⟩ := HA.out.cell q (by rw [Hm.out]; exact hkm)
        obtain ⟨x, hx⟩ : ∃ x, Hid (s.getD q 0 = x) := ⟨_, mkHid rfl⟩
        rw [hx.out] at hc
        have t1 : decide (q < m) = true := decide_eq_true hkm
        have ez : (x == t) = z := by
          have := hz.out
          rw [hx.out] at this
          rw [← this, Bool.eq_iff_iff, beq_iff_eq, decide_eq_true_eq]
          exact ⟨fun h => ⟨hkm, h⟩, fun h => h.2⟩
        have ez' : ((x : Int) == (t : Int)) = z := by rw [← ez, Bool.eq_iff_iff, beq_iff_eq, beq_iff_eq]; omega
        cases z
        all_goals
          go_wp2_with (go_at_call 78; ((with_reducible refine (nan2 _ _).mono ?_); rintro e w' ⟨rfl, hw'⟩; obtain rfl := hw'.symm))
          go_ret2
          exact ⟨by simp, rfl⟩
      · have t1 : decide (q < m) = false := decide_eq_false hkm
        have ez : z = false := by rw [← hz.out, decide_eq_false]; omega
        subst ez
        go_wp2_with fail
        go_ret2
        exact ⟨by simp, rfl⟩
/-- of each set each leaf has its place -/
theorem OkTo.mono {h : Nat} {s : List Nat} {n : Nat} (H : OkTo h s n) : ∀ d i, i + d < n → s.getD i 0 + d ≤ s.getD (i + d) 0 := by
  intro d
  induction d with
  | zero => intro i _; rw [Nat.add_zero, Nat.add_zero]; exact Nat.le_refl _
  | succ d ih =>
    intro i hi
    have a := ih i (by omega)
    have b := (H (i + (d + 1)) hi).2 (by omega)
    rw [show i + (d + 1) - 1 = i + d by omega] at b
    omega
theorem place_ex {h : Nat} {s : List Nat} (H : OkTo h s s.length) (t : Nat) : ∃ k, Place s t k := by
  have step : ∀ n, n ≤ s.length → (∃ k, k ≤ n ∧ (∀ j, j < k → s.getD j 0 < t) ∧ (∀ j, k ≤ j → j < n → t ≤ s.getD j 0)) := by
    intro n
    induction n with
    | zero => intro _; exact ⟨0, by omega, fun j h => by omega, fun j _ h => by omega⟩
    | succ n ih =>
      intro hn
      obtain ⟨k, h1, h2, h3⟩ := ih (by omega)
      by_cases c : s.getD n 0 < t
      · refine ⟨n + 1, by omega, fun j hj => ?_, fun j _ _ => by omega⟩
        have := H.mono (n - j) j (by omega)
        rw [show j + (n - j) = n by omega] at this
        omega
      · refine ⟨k, by omega, h2, fun j hk hj => ?_⟩
        rcases Nat.lt_or_ge j n with l | l
        · exact h3 j hk l
        · obtain rfl : j = n := by omega
          omega
  obtain ⟨k, h1, h2, h3⟩ := step s.length (Nat.le_refl _)
  exact ⟨k, ⟨h1, h2, h3⟩⟩
/-- whether it is in it -/
theorem place_mem {h : Nat} {s : List Nat} (H : OkTo h s s.length) {t k : Nat} (P : Place s t k) : (k < s.length ∧ s.getD k 0 = t) ↔ t ∈ s := by
  constructor
  · rintro ⟨a, b⟩
    rw [List.getD_eq_getElem?_getD, List.getElem?_eq_getElem a] at b
    rw [← b]
    exact List.getElem_mem a
  · intro hm
    obtain ⟨j, hj, e⟩ := List.getElem_of_mem hm
    have e' : s.getD j 0 = t := by rw [List.getD_eq_getElem?_getD, List.getElem?_eq_getElem hj]; exact e
    have a : k ≤ j := by
      rcases Nat.lt_or_ge j k with l | l
      · have := P.lo j l; omega
      · exact l
    have b := P.hi k (Nat.le_refl _) (by omega)
    refine ⟨by omega, ?_⟩
    have := H.mono (j - k) k (by omega)
    rw [show k + (j - k) = j by omega] at this
    omega
end Go.Proofs.Ytmehbonjpmlmfaa
