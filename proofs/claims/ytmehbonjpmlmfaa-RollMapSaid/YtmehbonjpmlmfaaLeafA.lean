/- The contracts of package leaf: is, Check. -/
import Derived.Test.YtmehbonjpmlmfaaList
namespace Go.Proofs.Ytmehbonjpmlmfaa
open Go.RowKit Go.Proofs.YtmehbonjpmlmfaaW.PrintWords

theorem addr_zero (a : Addr) : a.add 0 = a := by
  obtain ⟨b, o, sp⟩ := a
  unfold Addr.add
  split <;> simp_all
/-- a list of leaves as whole numbers -/
def zs (s : List Nat) : List Int := s.map fun (x : Nat) => (x : Int)
theorem zs_length (s : List Nat) : (zs s).length = s.length := by simp [zs]
theorem zs_getD (s : List Nat) (i : Nat) : (zs s).getD i 0 = ((s.getD i 0 : Nat) : Int) := by
  unfold zs
  rw [List.getD_eq_getElem?_getD, List.getD_eq_getElem?_getD, List.getElem?_map]
  cases s[i]? <;> rfl
/-- the first k are leaves, one greater than the other -/
def OkTo (h : Nat) (s : List Nat) (k : Nat) : Prop := ∀ j, j < k → s.getD j 0 < 2 ^ h ∧ (0 < j → s.getD (j - 1) 0 < s.getD j 0)
def SetOk (h : Nat) (s : List Nat) : Prop := s.length ≤ 1024 ∧ OkTo h s s.length
theorem OkTo.zero (h : Nat) (s : List Nat) : OkTo h s 0 := fun _ hj => by omega
theorem OkTo.succ {h : Nat} {s : List Nat} {k : Nat} (H : OkTo h s k) (a : s.getD k 0 < 2 ^ h) (b : 0 < k → s.getD (k - 1) 0 < s.getD k 0) : OkTo h s (k + 1) := by
  intro j hj
  rcases Nat.lt_or_ge j k with l | l
  · exact H j l
  · obtain rfl : j = k := by omega
    exact ⟨a, b⟩
/-- a slice in memory that reads as a list of leaves -/
def Reads (w : World) (A : Option Addr) (s : List Nat) : Prop := (Kd.int .u64).C w A s.length (zs s)
theorem Reads.below {w w1 : World} {A : Option Addr} {s : List Nat} (h : Reads w A s) (hb : Below w.heap.size w w1) : Reads w1 A s := Kd.C_below h hb
theorem Reads.cell {w : World} {A : Option Addr} {s : List Nat} (h : Reads w A s) (i : Nat) (hi : i < s.length) : ∃ ad, A = some ad ∧ w.cell? (ad.add i) = some (.int .u64 ((s.getD i 0 : Nat) : Int)) := by
  obtain ⟨ad, e, hc⟩ := C_cell h i hi
  exact ⟨ad, e, by rw [hc, zs_getD]⟩

theorem Reads.of_cells {w : World} {ad : Addr} {s : List Nat} (hl : s.length ≤ 9223372036854775807) (h : ∀ j, j < s.length → w.cell? (ad.add j) = some (.int .u64 ((s.getD j 0 : Nat) : Int))) : Reads w (some ad) s := by
  refine ⟨zs_length s, hl, fun hn => ⟨ad, rfl, fun j p hp => ⟨[.int .u64 p], rfl, rfl, fun i u hu => ?_⟩⟩⟩
  have hj : j < s.length := by
    rcases Nat.lt_or_ge j s.length with c | c
    · exact c
    · rw [List.getElem?_eq_none (by rw [zs_length]; exact c)] at hp; cases hp
  have e : p = ((s.getD j 0 : Nat) : Int) := by
    have := zs_getD s j
    rw [List.getD_eq_getElem?_getD, hp] at this
    exact this
  match i, hu with
  | 0, hu =>
    simp only [List.getElem?_cons_zero, Option.some.injEq] at hu
    rw [← hu, e]
    have hsz : (Kd.int IntKind.u64).sz = 1 := rfl
    rw [hsz, Nat.mul_one, Nat.add_zero]
    exact h j hj
theorem Reads.nil (w : World) : Reads w none [] := ⟨rfl, by decide, fun h => absurd h (by decide)⟩
set_option maxHeartbeats 400000 in
theorem is_yes {h i : Nat} (h1 : 1 ≤ h) (h2 : h ≤ 32) (hi : i < 2 ^ h) (w : World) :
    Calls Try.prog 63 #[.int .i64 (h : Int), .int .u64 (i : Int)] w fun e w' => e = .returned (.bool true) ∧ w' = w := by
  have hi' := mkHid hi
  clear hi
  go_enter Try.func63, Try.ntmps63
  go_wp2_with (go_at_call 73; ((with_reducible refine (leaf_yes h1 h2 hi'.out (mkHid rfl) _).mono ?_); rintro e w' ⟨rfl, rfl⟩))
  go_ret
  exact ⟨rfl, rfl⟩
set_option maxHeartbeats 400000 in
theorem is_not {h i : Nat} (h1 : 1 ≤ h) (h2 : h ≤ 32) (hi : 2 ^ h ≤ i) (w : World) :
    Calls Try.prog 63 #[.int .i64 (h : Int), .int .u64 (i : Int)] w fun e w' => e = .returned (.bool false) ∧ w' = w := by
  have hi' := mkHid hi
  clear hi
  go_enter Try.func63, Try.ntmps63
  go_wp2_with (go_at_call 73; ((with_reducible refine (leaf_none h1 h2 hi'.out _).mono ?_); rintro e w' ⟨rfl, rfl⟩))
  go_ret
  exact ⟨rfl, rfl⟩
theorem is_any {h i : Nat} {z : Bool} (h1 : 1 ≤ h) (h2 : h ≤ 32) (hz : Hid (decide (i < 2 ^ h) = z)) (w : World) :
    Calls Try.prog 63 #[.int .i64 (h : Int), .int .u64 (i : Int)] w fun e w' => e = .returned (.bool z) ∧ w' = w := by
  rw [← hz.out]
  by_cases c : i < 2 ^ h
  · rw [decide_eq_true c]; exact is_yes h1 h2 c w
  · rw [decide_eq_false c]; exact is_not h1 h2 (by omega) w

theorem root_node {h : Nat} (h1 : 1 ≤ h) (h2 : h ≤ 32) : Node h 1 := ⟨h1, h2, by decide, by rw [dep_one]; omega, by decide⟩
theorem check_root {h : Nat} (h1 : 1 ≤ h) (h2 : h ≤ 32) (w : World) :
    Calls Try.prog 62 #[.int .i64 (h : Int), .int .u64 1] w fun e w' => e = .returned (.int .i64 0) ∧ w' = w := check_yes (root_node h1 h2) w
theorem check_root_no {h : Int} (H : h < 1 ∨ 32 < h) (w : World) :
    Calls Try.prog 62 #[.int .i64 h, .int .u64 1] w fun e w' => e = .returned (.int .i64 1) ∧ w' = w := by
  rcases H with H | H
  · exact check_lo (n := 1) H w
  · exact check_hi (n := 1) H w

set_option maxHeartbeats 400000 in
theorem lcheck_bad {h : Int} (H : h < 1 ∨ 32 < h) (A : Option Addr) (n c : Nat) (w : World) :
    Calls Try.prog 44 #[.int .i64 h, .slice A n c] w fun e w' => e = .returned (.int .i64 1) ∧ w' = w := by
  have H' := mkHid H
  clear H
  go_enter Try.func44, Try.ntmps44
  go_wp2_with (go_at_call 62; ((with_reducible refine (check_root_no H'.out _).mono ?_); rintro e w' ⟨rfl, rfl⟩))
  go_ret
  exact ⟨rfl, rfl⟩
set_option maxHeartbeats 400000 in
theorem lcheck_long {h : Nat} (h1 : 1 ≤ h) (h2 : h ≤ 32) {n : Nat} (hn : 1024 < n) (A : Option Addr) (c : Nat) (w : World) :
    Calls Try.prog 44 #[.int .i64 (h : Int), .slice A n c] w fun e w' => e = .returned (.int .i64 1) ∧ w' = w := by
  have e1 : decide ((1024 : Int) < (n : Int)) = true := decide_eq_true (by omega)
  go_enter Try.func44, Try.ntmps44
  go_wp2_with (go_at_call 62; ((with_reducible refine (check_root h1 h2 _).mono ?_); rintro e w' ⟨rfl, rfl⟩))
  go_ret
  exact ⟨rfl, rfl⟩
/-- Check, of a set or of none: r is what it answers, in a list that is not too long -/
theorem lcheck_walk {h : Nat} (h1 : 1 ≤ h) (h2 : h ≤ 32) {s : List Nat} (hn : s.length ≤ 1024) {r : Int} (hr : Hid ((OkTo h s s.length ∧ r = 0) ∨ (¬ OkTo h s s.length ∧ r = 1))) (A : Option Addr) (c : Nat) (w : World) (hA : Reads w A s) :
    Calls Try.prog 44 #[.int .i64 (h : Int), .slice A s.length c] w fun e w' => e = .returned (.int .i64 r) ∧ w' = w := by
  have e1 : decide ((1024 : Int) < (s.length : Int)) = false := decide_eq_false (by omega)
  have HA := mkHid hA
  clear hA
  generalize hm : s.length = m at *
  have Hm := mkHid hm
  clear hm
  go_enter Try.func44, Try.ntmps44
  go_wp2_with (go_at_call 62; ((with_reducible refine (check_root h1 h2 _).mono ?_); rintro e w' ⟨rfl, hw'⟩; obtain rfl := hw'.symm))
  go_loop [17] (fun i => ∃ k : Nat, k ≤ m ∧ i = .int .i64 (k : Int) ∧ Hid (OkTo h s k)) (fun i => m - (intOf i).toNat)
  case atStart => exact ⟨0, by omega, rfl, OkTo.zero h s⟩
  case round =>
    obtain ⟨k, hk, rfl, hok⟩ := hrel
    by_cases hlt : k < m
    · obtain ⟨ad, rfl, hc⟩ := HA.out.cell k (by rw [Hm.out]; exact hlt)
      obtain ⟨x, hx⟩ : ∃ x, Hid (s.getD k 0 = x) := ⟨_, mkHid rfl⟩
      rw [hx.out] at hc
      obtain ⟨z, hz⟩ : ∃ z, Hid (decide (x < 2 ^ h) = z) := ⟨_, mkHid rfl⟩
      have bad : (z = false ∨ (0 < k ∧ x ≤ s.getD (k - 1) 0)) → r = 1 := by
        intro hb
        rcases hr.out with ⟨a, _⟩ | ⟨_, b⟩
        · exfalso
          have q := a k hlt
          rw [hx.out] at q
          rcases hb with hb | ⟨hb1, hb2⟩
          · rw [hb] at hz
            have := of_decide_eq_false hz.out
            omega
          · have := q.2 hb1; omega
        · exact b
      have BAD := mkHid bad
      clear bad
      cases z
      · obtain rfl : r = 1 := BAD.out (.inl rfl)
        go_wp2_with (go_at_call 63; ((with_reducible refine (is_any h1 h2 hz _).mono ?_); rintro e w' ⟨rfl, hw'⟩; obtain rfl := hw'.symm))
        go_ret
        exact ⟨rfl, rfl⟩
      · by_cases hk0 : k = 0
        · subst hk0
          have hc0 : w.cell? ad = some (.int .u64 (x : Int)) := by rw [← addr_zero ad]; exact hc
          go_wp2_with (go_at_call 63; ((with_reducible refine (is_any h1 h2 hz _).mono ?_); rintro e w' ⟨rfl, hw'⟩; obtain rfl := hw'.symm))
          go_round
          case rel => exact ⟨1, by omega, rfl, hok.out.succ (by rw [hx.out]; exact of_decide_eq_true hz.out) (fun h => by omega)⟩
          case measure => simp [intOf]; omega
        · obtain ⟨ad', e', hc'⟩ := HA.out.cell (k - 1) (by rw [Hm.out]; omega)
          cases e'
          obtain ⟨y, hy⟩ : ∃ y, Hid (s.getD (k - 1) 0 = y) := ⟨_, mkHid rfl⟩
          rw [hy.out] at hc'
          have ek : (k : Int) - 1 = ((k - 1 : Nat) : Int) := by omega
          have hk1 : k - 1 < m := by omega
          have e0 : decide ((0 : Int) < (k : Int)) = true := decide_eq_true (by omega)
          by_cases hxy : x ≤ y
          · obtain rfl : r = 1 := BAD.out (.inr ⟨by omega, by rw [hy.out]; exact hxy⟩)
            have e2 : decide (x ≤ y) = true := decide_eq_true hxy
            generalize k - 1 = k' at *
            go_wp2_with (go_at_call 63; ((with_reducible refine (is_any h1 h2 hz _).mono ?_); rintro e w' ⟨rfl, hw'⟩; obtain rfl := hw'.symm))
            go_ret
            exact ⟨rfl, rfl⟩
          · have e2 : decide (x ≤ y) = false := decide_eq_false hxy
            have hok' := mkHid (hok.out.succ (by rw [hx.out]; exact of_decide_eq_true hz.out) (fun _ => by rw [hx.out, hy.out]; omega))
            generalize k - 1 = k' at *
            go_wp2_with (go_at_call 63; ((with_reducible refine (is_any h1 h2 hz _).mono ?_); rintro e w' ⟨rfl, hw'⟩; obtain rfl := hw'.symm))
            go_round
            case rel => exact ⟨k + 1, by omega, by go_num, hok'⟩
            case measure => simp [intOf]; omega
    · obtain rfl : k = m := by omega
      obtain rfl : r = 0 := by
        rcases hr.out with ⟨_, b⟩ | ⟨a, _⟩
        · exact b
        · exact absurd hok.out a
      go_wp2_with fail
      go_ret
      exact ⟨rfl, rfl⟩
theorem lcheck_yes {h : Nat} (h1 : 1 ≤ h) (h2 : h ≤ 32) {s : List Nat} (hs : SetOk h s) (A : Option Addr) (c : Nat) (w : World) (hA : Reads w A s) :
    Calls Try.prog 44 #[.int .i64 (h : Int), .slice A s.length c] w fun e w' => e = .returned (.int .i64 0) ∧ w' = w :=
  lcheck_walk h1 h2 hs.1 (mkHid (.inl ⟨hs.2, rfl⟩)) A c w hA
theorem lcheck_no {h : Nat} (h1 : 1 ≤ h) (h2 : h ≤ 32) {s : List Nat} (hs : ¬ SetOk h s) (A : Option Addr) (c : Nat) (w : World) (hA : Reads w A s) :
    Calls Try.prog 44 #[.int .i64 (h : Int), .slice A s.length c] w fun e w' => e = .returned (.int .i64 1) ∧ w' = w := by
  by_cases hn : s.length ≤ 1024
  · exact lcheck_walk h1 h2 hn (mkHid (.inr ⟨fun q => hs ⟨hn, q⟩, rfl⟩)) A c w hA
  · exact lcheck_long h1 h2 (by omega) A c w
end Go.Proofs.Ytmehbonjpmlmfaa
