/- The contracts of roll: Check, Same, New, Is; and of the document's answer. -/
import Derived.Test.YtmehbonjpmlmfaaSetAns
namespace Go.Proofs.Ytmehbonjpmlmfaa
open Go.RowKit Go.Proofs.YtmehbonjpmlmfaaW.PrintWords

set_option maxHeartbeats 2000000 in
theorem seq_any {s t : List Nat} {z : Bool} (hz : Hid (decide (s = t) = z)) (hn : s.length < 4611686018427387904) (A B : Option Addr) (a b : Nat) (w : World) (hA : Reads w A s) (hB : Reads w B t) :
    Calls Try.prog 45 #[.slice A s.length a, .slice B t.length b] w fun e w' => e = .returned (.bool z) ∧ Below w.heap.size w w' := by
  have HA := mkHid hA
  have HB := mkHid hB
  clear hA hB
  generalize hm : s.length = m at *
  generalize hl : t.length = l at *
  have Hm := mkHid hm
  have Hl := mkHid hl
  clear hm hl
  by_cases c : m = l
  · subst c
    go_enter Try.func45, Try.ntmps45
    go_wp2_with fail
    go_loopw [13] (fun i wr => ∃ k : Nat, k ≤ m ∧ i = .int .i64 (k : Int) ∧ Hid (∀ j, j < k → s.getD j 0 = t.getD j 0) ∧ Hid (Below w.heap.size w wr)) (fun i _ => m - (intOf i).toNat)
    case atStart => exact ⟨0, by omega, rfl, fun j hj => by omega, Below.refl _ _⟩
    case round =>
      obtain ⟨k, hk, rfl, hsame, hBel⟩ := hrel
      by_cases hlt : k < m
      · obtain ⟨ad, rfl, hc⟩ := (HA.out.below hBel.out).cell k (by rw [Hm.out]; exact hlt)
        obtain ⟨bd, rfl, hd⟩ := (HB.out.below hBel.out).cell k (by rw [Hl.out]; exact hlt)
        obtain ⟨x, hx⟩ : ∃ x, Hid (s.getD k 0 = x) := ⟨_, mkHid rfl⟩
        obtain ⟨y, hy⟩ : ∃ y, Hid (t.getD k 0 = y) := ⟨_, mkHid rfl⟩
        rw [hx.out] at hc
        rw [hy.out] at hd
        by_cases e : x = y
        · subst e
          have hsame' : Hid (∀ j, j < k + 1 → s.getD j 0 = t.getD j 0) := mkHid fun j hj => by
            rcases Nat.lt_or_ge j k with c | c
            · exact hsame.out j c
            · obtain rfl : j = k := by omega
              rw [hx.out, hy.out]
          clear hsame
          go_wp2_with fail
          go_quiet (fail)
          go_wp2_with fail
          go_roundw
          case rel => exact ⟨k + 1, by omega, by go_num, hsame', mkHid (below_drewN hBel.out _)⟩
          case measure => simp [intOf]; omega
        · have e1 : ((x : Int) != (y : Int)) = true := bne_iff_ne.2 (by omega)
          have e2 : (x != y) = true := bne_iff_ne.2 e
          obtain rfl : z = false := by
            rw [← hz.out]
            refine decide_eq_false fun q => e ?_
            rw [← hx.out, ← hy.out, q]
          go_wp2_with fail
          go_quiet (fail)
          go_wp2_with fail
          go_ret
          exact ⟨rfl, below_drewN hBel.out _⟩
      · obtain rfl : k = m := by omega
        obtain rfl : z = true := by
          rw [← hz.out]
          refine decide_eq_true (List.ext_getElem (by rw [Hm.out, Hl.out]) fun j h1 h2 => ?_)
          have := hsame.out j (by rw [← Hm.out]; exact h1)
          rwa [getD_eq h1, getD_eq h2] at this
        go_wp2_with fail
        go_ret
        exact ⟨rfl, hBel.out⟩
  · obtain rfl : z = false := by
      rw [← hz.out]
      refine decide_eq_false fun q => c ?_
      rw [← Hm.out, ← Hl.out, q]
    have e1 : ((m : Int) != (l : Int)) = true := bne_iff_ne.2 (by omega)
    have e2 : (m != l) = true := bne_iff_ne.2 c
    have e3 : ((m : Int) == (l : Int)) = false := beq_eq_false_iff_ne.2 (by omega)
    go_enter Try.func45, Try.ntmps45
    go_wp2_with fail
    go_ret
    exact ⟨rfl, Below.refl _ _⟩


/-- a roll, in plain -/
structure RollA where
  h : Int
  room : Int
  s : List Nat
  n : Int
def RollA.zero : RollA := ⟨0, 0, [], 0⟩
def rollBad (room : Int) (s : List Nat) (n : Int) : Prop := room < (s.length : Int) ∨ 1024 < room ∨ n < 0 ∨ 1099511627776 < n
instance (room : Int) (s : List Nat) (n : Int) : Decidable (rollBad room s n) := by unfold rollBad; infer_instance
def rollCheck (h room : Int) (s : List Nat) (n : Int) : Int := if rollBad room s n then 1 else checkAll h s
theorem checkAll_or (h : Int) (s : List Nat) : checkAll h s = 0 ∨ checkAll h s = 1 := by unfold checkAll; split <;> simp
theorem rollCheck_or (h room : Int) (s : List Nat) (n : Int) : rollCheck h room s n = 0 ∨ rollCheck h room s n = 1 := by
  unfold rollCheck
  split
  · exact .inr rfl
  · exact checkAll_or h s
def ROLL (h room : Int) (v : Value) (n : Int) : Value := .agg #[.int .i64 h, .int .i64 room, v, .int .i64 n]

set_option maxRecDepth 100000 in
set_option maxHeartbeats 1000000 in
theorem rchk_bad0 {h room n : Int} {s : List Nat} (h0 : room < (s.length : Int)) (A : Option Addr) (c : Nat) (w : World) (hA : Reads w A s) :
    Calls Try.prog 17 #[.agg #[.int .i64 h, .int .i64 room, .slice A s.length c, .int .i64 n]] w fun e w' => e = .returned (.int .i64 1) ∧ Below w.heap.size w w' := by
  have _HA := mkHid (hA.below ((Below.refl _ _).alloc (Nat.le_refl _) (.cells #[.int .i64 h, .int .i64 room, .slice A s.length c, .int .i64 n] 25)))
  clear hA
  have t0 : decide (room < (s.length : Int)) = true := decide_eq_true (by omega)
  go_enter Try.func17, Try.ntmps17
  go_wp2_with fail
  go_ret
  exact ⟨rfl, (Below.refl _ _).alloc (Nat.le_refl _) _⟩
set_option maxRecDepth 100000 in
set_option maxHeartbeats 1000000 in
theorem rchk_bad1 {h room n : Int} {s : List Nat} (h0 : ¬ (room < (s.length : Int))) (h1 : (1024 : Int) < room) (A : Option Addr) (c : Nat) (w : World) (hA : Reads w A s) :
    Calls Try.prog 17 #[.agg #[.int .i64 h, .int .i64 room, .slice A s.length c, .int .i64 n]] w fun e w' => e = .returned (.int .i64 1) ∧ Below w.heap.size w w' := by
  have _HA := mkHid (hA.below ((Below.refl _ _).alloc (Nat.le_refl _) (.cells #[.int .i64 h, .int .i64 room, .slice A s.length c, .int .i64 n] 25)))
  clear hA
  have t0 : decide (room < (s.length : Int)) = false := decide_eq_false (by omega)
  have t1 : decide ((1024 : Int) < room) = true := decide_eq_true (by omega)
  go_enter Try.func17, Try.ntmps17
  go_wp2_with fail
  go_ret
  exact ⟨rfl, (Below.refl _ _).alloc (Nat.le_refl _) _⟩
set_option maxRecDepth 100000 in
set_option maxHeartbeats 1000000 in
theorem rchk_bad2 {h room n : Int} {s : List Nat} (h0 : ¬ (room < (s.length : Int))) (h1 : ¬ ((1024 : Int) < room)) (h2 : n < 0) (A : Option Addr) (c : Nat) (w : World) (hA : Reads w A s) :
    Calls Try.prog 17 #[.agg #[.int .i64 h, .int .i64 room, .slice A s.length c, .int .i64 n]] w fun e w' => e = .returned (.int .i64 1) ∧ Below w.heap.size w w' := by
  have _HA := mkHid (hA.below ((Below.refl _ _).alloc (Nat.le_refl _) (.cells #[.int .i64 h, .int .i64 room, .slice A s.length c, .int .i64 n] 25)))
  clear hA
  have t0 : decide (room < (s.length : Int)) = false := decide_eq_false (by omega)
  have t1 : decide ((1024 : Int) < room) = false := decide_eq_false (by omega)
  have t2 : decide (n < 0) = true := decide_eq_true (by omega)
  go_enter Try.func17, Try.ntmps17
  go_wp2_with fail
  go_ret
  exact ⟨rfl, (Below.refl _ _).alloc (Nat.le_refl _) _⟩
set_option maxRecDepth 100000 in
set_option maxHeartbeats 1000000 in
theorem rchk_bad3 {h room n : Int} {s : List Nat} (h0 : ¬ (room < (s.length : Int))) (h1 : ¬ ((1024 : Int) < room)) (h2 : ¬ (n < 0)) (h3 : (1099511627776 : Int) < n) (A : Option Addr) (c : Nat) (w : World) (hA : Reads w A s) :
    Calls Try.prog 17 #[.agg #[.int .i64 h, .int .i64 room, .slice A s.length c, .int .i64 n]] w fun e w' => e = .returned (.int .i64 1) ∧ Below w.heap.size w w' := by
  have _HA := mkHid (hA.below ((Below.refl _ _).alloc (Nat.le_refl _) (.cells #[.int .i64 h, .int .i64 room, .slice A s.length c, .int .i64 n] 25)))
  clear hA
  have t0 : decide (room < (s.length : Int)) = false := decide_eq_false (by omega)
  have t1 : decide ((1024 : Int) < room) = false := decide_eq_false (by omega)
  have t2 : decide (n < 0) = false := decide_eq_false (by omega)
  have t3 : decide ((1099511627776 : Int) < n) = true := decide_eq_true (by omega)
  go_enter Try.func17, Try.ntmps17
  go_wp2_with fail
  go_ret
  exact ⟨rfl, (Below.refl _ _).alloc (Nat.le_refl _) _⟩
set_option maxRecDepth 100000 in
set_option maxHeartbeats 1000000 in
theorem rchk_ok {h room n : Int} {s : List Nat} {r : Int} (hb : ¬ (room < (s.length : Int) ∨ (1024 : Int) < room ∨ n < 0 ∨ (1099511627776 : Int) < n)) (e : Hid (checkAll h s = r)) (A : Option Addr) (c : Nat) (w : World) (hA : Reads w A s) :
    Calls Try.prog 17 #[.agg #[.int .i64 h, .int .i64 room, .slice A s.length c, .int .i64 n]] w fun e w' => e = .returned (.int .i64 r) ∧ Below w.heap.size w w' := by
  have HA := mkHid (hA.below ((Below.refl _ _).alloc (Nat.le_refl _) (.cells #[.int .i64 h, .int .i64 room, .slice A s.length c, .int .i64 n] 25)))
  clear hA
  have t0 : decide (room < (s.length : Int)) = false := decide_eq_false (by omega)
  have t1 : decide ((1024 : Int) < room) = false := decide_eq_false (by omega)
  have t2 : decide (n < 0) = false := decide_eq_false (by omega)
  have t3 : decide ((1099511627776 : Int) < n) = false := decide_eq_false (by omega)
  clear hb
  go_enter Try.func17, Try.ntmps17
  go_wp2_with (go_at_call 44; ((with_reducible refine (check_all h s e _ _ _ HA.out).mono ?_); rintro e w' ⟨rfl, hw'⟩; obtain rfl := hw'.symm))
  go_ret
  exact ⟨rfl, (Below.refl _ _).alloc (Nat.le_refl _) _⟩
theorem rchk {h room n : Int} {s : List Nat} {r : Int} (e : Hid (rollCheck h room s n = r)) (A : Option Addr) (c : Nat) (w : World) (hA : Reads w A s) :
    Calls Try.prog 17 #[.agg #[.int .i64 h, .int .i64 room, .slice A s.length c, .int .i64 n]] w fun e w' => e = .returned (.int .i64 r) ∧ Below w.heap.size w w' := by
  have e' := e.out
  unfold rollCheck at e'
  by_cases hb : rollBad room s n
  · rw [if_pos hb] at e'
    subst e'
    unfold rollBad at hb
    by_cases h0 : room < (s.length : Int)
    · exact rchk_bad0 h0 A c w hA
    · by_cases h1 : (1024 : Int) < room
      · exact rchk_bad1 h0 h1 A c w hA
      · by_cases h2 : n < 0
        · exact rchk_bad2 h0 h1 h2 A c w hA
        · exact rchk_bad3 h0 h1 h2 (by omega) A c w hA
  · rw [if_neg hb] at e'
    exact rchk_ok hb (mkHid e') A c w hA

set_option maxRecDepth 100000 in
set_option maxHeartbeats 1000000 in
theorem schk_h {h room n : Int} {s : List Nat} (H : h < 1 ∨ 32 < h) (A : Option Addr) (c : Nat) (w : World) (hA : Reads w A s) :
    Calls Try.prog 25 #[.agg #[.int .i64 h, .int .i64 room, .slice A s.length c, .int .i64 n]] w fun e w' => e = .returned (.int .i64 1) ∧ Below w.heap.size w w' := by
  have _HA := mkHid (hA.below ((Below.refl _ _).alloc (Nat.le_refl _) (.cells #[.int .i64 h, .int .i64 room, .slice A s.length c, .int .i64 n] 25)))
  clear hA
  skip
  go_enter Try.func25, Try.ntmps25
  go_wp2_with (first | (go_at_call 50; ((with_reducible refine (rcheck_root_no H _).mono ?_); rintro e w' ⟨rfl, hw'⟩; obtain rfl := hw'.symm)))
  go_ret
  exact ⟨rfl, (Below.refl _ _).alloc (Nat.le_refl _) _⟩
set_option maxRecDepth 100000 in
set_option maxHeartbeats 1000000 in
theorem schk_c0 {h room n : Int} {s : List Nat} {k : Nat} (hk : Hid (h = (k : Int))) (h1 : 1 ≤ k) (h2 : k ≤ 32) (g : room < 0) (A : Option Addr) (c : Nat) (w : World) (hA : Reads w A s) :
    Calls Try.prog 25 #[.agg #[.int .i64 h, .int .i64 room, .slice A s.length c, .int .i64 n]] w fun e w' => e = .returned (.int .i64 1) ∧ Below w.heap.size w w' := by
  have _HA := mkHid (hA.below ((Below.refl _ _).alloc (Nat.le_refl _) (.cells #[.int .i64 h, .int .i64 room, .slice A s.length c, .int .i64 n] 25)))
  clear hA
  obtain rfl := hk.out
  have t0 : decide (room < 0) = true := decide_eq_true (by omega)
  go_enter Try.func25, Try.ntmps25
  go_wp2_with (first | (go_at_call 50; ((with_reducible refine (rcheck_root h1 h2 _).mono ?_); rintro e w' ⟨rfl, hw'⟩; obtain rfl := hw'.symm)))
  go_ret
  exact ⟨rfl, (Below.refl _ _).alloc (Nat.le_refl _) _⟩
set_option maxRecDepth 100000 in
set_option maxHeartbeats 1000000 in
theorem schk_c1 {h room n : Int} {s : List Nat} {k : Nat} (hk : Hid (h = (k : Int))) (h1 : 1 ≤ k) (h2 : k ≤ 32) (g : 1024 < room) (A : Option Addr) (c : Nat) (w : World) (hA : Reads w A s) :
    Calls Try.prog 25 #[.agg #[.int .i64 h, .int .i64 room, .slice A s.length c, .int .i64 n]] w fun e w' => e = .returned (.int .i64 1) ∧ Below w.heap.size w w' := by
  have _HA := mkHid (hA.below ((Below.refl _ _).alloc (Nat.le_refl _) (.cells #[.int .i64 h, .int .i64 room, .slice A s.length c, .int .i64 n] 25)))
  clear hA
  obtain rfl := hk.out
  have t0 : decide (room < 0) = false := decide_eq_false (by omega)
  have t1 : decide ((1024 : Int) < room) = true := decide_eq_true (by omega)
  go_enter Try.func25, Try.ntmps25
  go_wp2_with (first | (go_at_call 50; ((with_reducible refine (rcheck_root h1 h2 _).mono ?_); rintro e w' ⟨rfl, hw'⟩; obtain rfl := hw'.symm)))
  go_ret
  exact ⟨rfl, (Below.refl _ _).alloc (Nat.le_refl _) _⟩
set_option maxRecDepth 100000 in
set_option maxHeartbeats 1000000 in
theorem schk_set {h room n : Int} {s : List Nat} {k : Nat} (hk : Hid (h = (k : Int))) (h1 : 1 ≤ k) (h2 : k ≤ 32) (g0 : ¬ room < 0) (g1 : ¬ 1024 < room) (e : Hid (checkAll h s = 1)) (A : Option Addr) (c : Nat) (w : World) (hA : Reads w A s) :
    Calls Try.prog 25 #[.agg #[.int .i64 h, .int .i64 room, .slice A s.length c, .int .i64 n]] w fun e w' => e = .returned (.int .i64 1) ∧ Below w.heap.size w w' := by
  have HA := mkHid (hA.below ((Below.refl _ _).alloc (Nat.le_refl _) (.cells #[.int .i64 h, .int .i64 room, .slice A s.length c, .int .i64 n] 25)))
  clear hA
  obtain rfl := hk.out
  have t0 : decide (room < 0) = false := decide_eq_false (by omega)
  have t1 : decide ((1024 : Int) < room) = false := decide_eq_false (by omega)
  go_enter Try.func25, Try.ntmps25
  go_wp2_with (first | (go_at_call 50; ((with_reducible refine (rcheck_root h1 h2 _).mono ?_); rintro e w' ⟨rfl, hw'⟩; obtain rfl := hw'.symm)) | (go_at_call 51; ((with_reducible refine (scheck_all _ s e _ _ _ HA.out).mono ?_); rintro e w' ⟨rfl, hw'⟩; obtain rfl := hw'.symm)))
  go_ret
  exact ⟨rfl, (Below.refl _ _).alloc (Nat.le_refl _) _⟩
set_option maxRecDepth 100000 in
set_option maxHeartbeats 1000000 in
theorem schk_len {h room n : Int} {s : List Nat} {k : Nat} (hk : Hid (h = (k : Int))) (h1 : 1 ≤ k) (h2 : k ≤ 32) (g0 : ¬ room < 0) (g1 : ¬ 1024 < room) (e : Hid (checkAll h s = 0)) (g2 : room < (s.length : Int)) (A : Option Addr) (c : Nat) (w : World) (hA : Reads w A s) :
    Calls Try.prog 25 #[.agg #[.int .i64 h, .int .i64 room, .slice A s.length c, .int .i64 n]] w fun e w' => e = .returned (.int .i64 1) ∧ Below w.heap.size w w' := by
  have HA := mkHid (hA.below ((Below.refl _ _).alloc (Nat.le_refl _) (.cells #[.int .i64 h, .int .i64 room, .slice A s.length c, .int .i64 n] 25)))
  clear hA
  obtain rfl := hk.out
  have t0 : decide (room < 0) = false := decide_eq_false (by omega)
  have t1 : decide ((1024 : Int) < room) = false := decide_eq_false (by omega)
  have t2 : decide (room < (s.length : Int)) = true := decide_eq_true (by omega)
  go_enter Try.func25, Try.ntmps25
  go_wp2_with (first | (go_at_call 50; ((with_reducible refine (rcheck_root h1 h2 _).mono ?_); rintro e w' ⟨rfl, hw'⟩; obtain rfl := hw'.symm)) | (go_at_call 51; ((with_reducible refine (scheck_all _ s e _ _ _ HA.out).mono ?_); rintro e w' ⟨rfl, hw'⟩; obtain rfl := hw'.symm)))
  go_ret
  exact ⟨rfl, (Below.refl _ _).alloc (Nat.le_refl _) _⟩
set_option maxRecDepth 100000 in
set_option maxHeartbeats 1000000 in
theorem schk_n0 {h room n : Int} {s : List Nat} {k : Nat} (hk : Hid (h = (k : Int))) (h1 : 1 ≤ k) (h2 : k ≤ 32) (g1 : ¬ 1024 < room) (e : Hid (checkAll h s = 0)) (g2 : ¬ room < (s.length : Int)) (g3 : n < 0) (A : Option Addr) (c : Nat) (w : World) (hA : Reads w A s) :
    Calls Try.prog 25 #[.agg #[.int .i64 h, .int .i64 room, .slice A s.length c, .int .i64 n]] w fun e w' => e = .returned (.int .i64 1) ∧ Below w.heap.size w w' := by
  have HA := mkHid (hA.below ((Below.refl _ _).alloc (Nat.le_refl _) (.cells #[.int .i64 h, .int .i64 room, .slice A s.length c, .int .i64 n] 25)))
  clear hA
  obtain rfl := hk.out
  have t0 : decide (room < 0) = false := decide_eq_false (by omega)
  have t1 : decide ((1024 : Int) < room) = false := decide_eq_false (by omega)
  have t2 : decide (room < (s.length : Int)) = false := decide_eq_false (by omega)
  have t3 : decide (n < 0) = true := decide_eq_true (by omega)
  go_enter Try.func25, Try.ntmps25
  go_wp2_with (first | (go_at_call 50; ((with_reducible refine (rcheck_root h1 h2 _).mono ?_); rintro e w' ⟨rfl, hw'⟩; obtain rfl := hw'.symm)) | (go_at_call 51; ((with_reducible refine (scheck_all _ s e _ _ _ HA.out).mono ?_); rintro e w' ⟨rfl, hw'⟩; obtain rfl := hw'.symm)))
  go_ret
  exact ⟨rfl, (Below.refl _ _).alloc (Nat.le_refl _) _⟩
set_option maxRecDepth 100000 in
set_option maxHeartbeats 1000000 in
theorem schk_n1 {h room n : Int} {s : List Nat} {k : Nat} (hk : Hid (h = (k : Int))) (h1 : 1 ≤ k) (h2 : k ≤ 32) (g1 : ¬ 1024 < room) (e : Hid (checkAll h s = 0)) (g2 : ¬ room < (s.length : Int)) (g4 : (1099511627776 : Int) < n) (A : Option Addr) (c : Nat) (w : World) (hA : Reads w A s) :
    Calls Try.prog 25 #[.agg #[.int .i64 h, .int .i64 room, .slice A s.length c, .int .i64 n]] w fun e w' => e = .returned (.int .i64 1) ∧ Below w.heap.size w w' := by
  have HA := mkHid (hA.below ((Below.refl _ _).alloc (Nat.le_refl _) (.cells #[.int .i64 h, .int .i64 room, .slice A s.length c, .int .i64 n] 25)))
  clear hA
  obtain rfl := hk.out
  have t0 : decide (room < 0) = false := decide_eq_false (by omega)
  have t1 : decide ((1024 : Int) < room) = false := decide_eq_false (by omega)
  have t2 : decide (room < (s.length : Int)) = false := decide_eq_false (by omega)
  have t3 : decide (n < 0) = false := decide_eq_false (by omega)
  have t4 : decide ((1099511627776 : Int) < n) = true := decide_eq_true (by omega)
  go_enter Try.func25, Try.ntmps25
  go_wp2_with (first | (go_at_call 50; ((with_reducible refine (rcheck_root h1 h2 _).mono ?_); rintro e w' ⟨rfl, hw'⟩; obtain rfl := hw'.symm)) | (go_at_call 51; ((with_reducible refine (scheck_all _ s e _ _ _ HA.out).mono ?_); rintro e w' ⟨rfl, hw'⟩; obtain rfl := hw'.symm)))
  go_ret
  exact ⟨rfl, (Below.refl _ _).alloc (Nat.le_refl _) _⟩
set_option maxRecDepth 100000 in
set_option maxHeartbeats 1000000 in
theorem schk_ok {h room n : Int} {s : List Nat} {k : Nat} (hk : Hid (h = (k : Int))) (h1 : 1 ≤ k) (h2 : k ≤ 32) (g1 : ¬ 1024 < room) (e : Hid (checkAll h s = 0)) (g2 : ¬ room < (s.length : Int)) (g3 : ¬ n < 0) (g4 : ¬ (1099511627776 : Int) < n) (A : Option Addr) (c : Nat) (w : World) (hA : Reads w A s) :
    Calls Try.prog 25 #[.agg #[.int .i64 h, .int .i64 room, .slice A s.length c, .int .i64 n]] w fun e w' => e = .returned (.int .i64 0) ∧ Below w.heap.size w w' := by
  have HA := mkHid (hA.below ((Below.refl _ _).alloc (Nat.le_refl _) (.cells #[.int .i64 h, .int .i64 room, .slice A s.length c, .int .i64 n] 25)))
  clear hA
  obtain rfl := hk.out
  have t0 : decide (room < 0) = false := decide_eq_false (by omega)
  have t1 : decide ((1024 : Int) < room) = false := decide_eq_false (by omega)
  have t2 : decide (room < (s.length : Int)) = false := decide_eq_false (by omega)
  have t3 : decide (n < 0) = false := decide_eq_false (by omega)
  have t4 : decide ((1099511627776 : Int) < n) = false := decide_eq_false (by omega)
  go_enter Try.func25, Try.ntmps25
  go_wp2_with (first | (go_at_call 50; ((with_reducible refine (rcheck_root h1 h2 _).mono ?_); rintro e w' ⟨rfl, hw'⟩; obtain rfl := hw'.symm)) | (go_at_call 51; ((with_reducible refine (scheck_all _ s e _ _ _ HA.out).mono ?_); rintro e w' ⟨rfl, hw'⟩; obtain rfl := hw'.symm)))
  go_ret
  exact ⟨rfl, (Below.refl _ _).alloc (Nat.le_refl _) _⟩
theorem schk {h room n : Int} {s : List Nat} {r : Int} (e : Hid (rollCheck h room s n = r)) (A : Option Addr) (c : Nat) (w : World) (hA : Reads w A s) :
    Calls Try.prog 25 #[.agg #[.int .i64 h, .int .i64 room, .slice A s.length c, .int .i64 n]] w fun e w' => e = .returned (.int .i64 r) ∧ Below w.heap.size w w' := by
  have e' := e.out
  unfold rollCheck at e'
  have bad : ∀ z : Int, rollBad room s n → (if rollBad room s n then 1 else z) = r → r = 1 := fun z b q => by rw [if_pos b] at q; exact q.symm
  by_cases H : h < 1 ∨ 32 < h
  · have hc : checkAll h s = 1 := by unfold checkAll; rw [if_neg (by omega)]
    rw [hc] at e'
    have : r = 1 := by simpa using e'.symm
    subst this
    exact schk_h H A c w hA
  · obtain ⟨k, hk⟩ : ∃ k : Nat, h = (k : Int) := ⟨h.toNat, by omega⟩
    have h1 : 1 ≤ k := by omega
    have h2 : k ≤ 32 := by omega
    have HK := mkHid hk
    by_cases g0 : room < 0
    · obtain rfl := bad _ (by unfold rollBad; omega) e'; exact schk_c0 HK h1 h2 g0 A c w hA
    · by_cases g1 : 1024 < room
      · obtain rfl := bad _ (by unfold rollBad; omega) e'; exact schk_c1 HK h1 h2 g1 A c w hA
      · rcases checkAll_or h s with hc | hc
        · by_cases g2 : room < (s.length : Int)
          · obtain rfl := bad _ (by unfold rollBad; omega) e'; exact schk_len HK h1 h2 g0 g1 (mkHid hc) g2 A c w hA
          · by_cases g3 : n < 0
            · obtain rfl := bad _ (by unfold rollBad; omega) e'; exact schk_n0 HK h1 h2 g1 (mkHid hc) g2 g3 A c w hA
            · by_cases g4 : 1099511627776 < n
              · obtain rfl := bad _ (by unfold rollBad; omega) e'; exact schk_n1 HK h1 h2 g1 (mkHid hc) g2 g4 A c w hA
              · rw [if_neg (by unfold rollBad; omega), hc] at e'; subst e'; exact schk_ok HK h1 h2 g1 (mkHid hc) g2 g3 g4 A c w hA
        · rw [hc] at e'
          have : r = 1 := by simpa using e'.symm
          subst this
          exact schk_set HK h1 h2 g0 g1 (mkHid hc) A c w hA
end Go.Proofs.Ytmehbonjpmlmfaa
