/- The contract of leaf.Many. -/
import Derived.Test.YtkimbkcghmelgaaLeafS
namespace Go.Proofs.Ytkimbkcghmelgaa
open Go.RowKit

/-- the first k spans may be, one behind the other -/
def MOk (h : Nat) (l : List (Nat × Nat)) (k : Nat) : Prop := ∀ j, j < k → (l.getD j (0, 0)).1 ≤ (l.getD j (0, 0)).2 ∧ (l.getD j (0, 0)).2 < 2 ^ h ∧ (0 < j → (l.getD (j - 1) (0, 0)).2 < (l.getD j (0, 0)).1)
/-- how many the first k spans have -/
def sumTo (l : List (Nat × Nat)) : Nat → Nat
  | 0 => 0
  | k + 1 => sumTo l k + ((l.getD k (0, 0)).2 - (l.getD k (0, 0)).1 + 1)
theorem MOk.zero (h : Nat) (l : List (Nat × Nat)) : MOk h l 0 := fun _ hj => by omega
theorem MOk.succ {h : Nat} {l : List (Nat × Nat)} {k : Nat} (H : MOk h l k) (a : (l.getD k (0, 0)).1 ≤ (l.getD k (0, 0)).2) (b : (l.getD k (0, 0)).2 < 2 ^ h) (c : 0 < k → (l.getD (k - 1) (0, 0)).2 < (l.getD k (0, 0)).1) : MOk h l (k + 1) := by
  intro j hj
  rcases Nat.lt_or_ge j k with l' | l'
  · exact H j l'
  · obtain rfl : j = k := by omega
    exact ⟨a, b, c⟩
/-- those of the first k lie ahead of what lies behind the k-th: so they are not too many -/
theorem sum_le {h : Nat} {l : List (Nat × Nat)} {k : Nat} (H : MOk h l k) (hk : 0 < k) : sumTo l k ≤ (l.getD (k - 1) (0, 0)).2 + 1 := by
  induction k with
  | zero => omega
  | succ k ih =>
    have hk' := H k (by omega)
    unfold sumTo
    rw [Nat.add_sub_cancel]
    by_cases c : 0 < k
    · have := ih (fun j hj => H j (by omega)) c
      have := hk'.2.2 c
      omega
    · obtain rfl : k = 0 := by omega
      unfold sumTo; omega
theorem sum_small {h : Nat} {l : List (Nat × Nat)} {k : Nat} (h2 : h ≤ 32) (H : MOk h l k) : sumTo l k ≤ 4294967296 := by
  have hp := pow_le h2
  by_cases c : 0 < k
  · have := sum_le H c
    have := (H (k - 1) (by omega)).2.1
    omega
  · obtain rfl : k = 0 := by omega
    unfold sumTo; omega
/-- the address of a list's elements, without a spot -/
theorem Spans.addr {w : World} {A : Option Addr} {l : List (Nat × Nat)} (h : Spans w A l) (hn : 0 < l.length) : ∃ b off, A = some ⟨b, off, none⟩ ∧ ∀ j, j < l.length → w.cell? ⟨b, off + j * 2, none⟩ = some (.int .u64 (((l.getD j (0, 0)).1 : Nat) : Int)) ∧ w.cell? ⟨b, off + j * 2 + 1, none⟩ = some (.int .u64 (((l.getD j (0, 0)).2 : Nat) : Int)) := by
  obtain ⟨⟨b, off, sp⟩, rfl, hc⟩ := h.2 hn
  have h0 := (hc 0 hn).1
  rw [Nat.zero_mul, addr_zero] at h0
  have hsp : sp = none := World.cell?_spot h0
  subst hsp
  refine ⟨b, off, rfl, fun j hj => ?_⟩
  have hadd : ∀ i, (⟨b, off, none⟩ : Addr).add i = ⟨b, off + i, none⟩ := fun i => by unfold Addr.add; split <;> simp_all
  have := hc j hj
  rw [hadd, hadd] at this
  rw [Nat.add_assoc]
  exact this

set_option maxHeartbeats 400000 in
theorem many_bad {h : Int} (H : h < 1 ∨ 32 < h) (A : Option Addr) (n c : Nat) (w : World) :
    Calls Try.prog 39 #[.int .i64 h, .slice A n c] w fun e w' => e = .returned (.tuple #[.int .u64 0, .int .i64 1]) ∧ Below w.heap.size w w' := by
  have H' := mkHid H
  clear H
  go_enter Try.func39, Try.ntmps39
  go_wp2_with (go_at_call 28; ((with_reducible refine (check_root_no H'.out _).mono ?_); rintro e w' ⟨rfl, rfl⟩))
  go_ret2
  exact ⟨rfl, Below.refl _ _⟩

set_option maxRecDepth 100000 in
set_option maxHeartbeats 4000000 in
theorem many_walk {h : Nat} (h1 : 1 ≤ h) (h2 : h ≤ 32) {l : List (Nat × Nat)} {r z : Nat} (hr : Hid ((MOk h l l.length ∧ r = 0 ∧ sumTo l l.length = z) ∨ (¬ MOk h l l.length ∧ r = 1 ∧ z = 0))) (A : Option Addr) (c : Nat) (w : World) (hA : Spans w A l) :
    Calls Try.prog 39 #[.int .i64 (h : Int), .slice A l.length c] w fun e w' => e = .returned (.tuple #[.int .u64 (z : Int), .int .i64 (r : Int)]) ∧ Below w.heap.size w w' := by
  have hml := hA.1
  have HA := mkHid hA
  clear hA
  generalize hm : l.length = m at *
  have Hm := mkHid hm
  clear hm
  go_enter Try.func39, Try.ntmps39
  go_wp2_with (go_at_call 28; ((with_reducible refine (check_root h1 h2 _).mono ?_); rintro e w' ⟨rfl, hw'⟩; obtain rfl := hw'.symm))
  go_loopw [4, 16] (fun n i wr => ∃ k y : Nat, k ≤ m ∧ i = .int .i64 (k : Int) ∧ n = .int .u64 (y : Int) ∧ Hid (sumTo l k = y) ∧ Hid (MOk h l k) ∧ Hid (Below w.heap.size w wr)) (fun _ i _ => m - (intOf i).toNat)
  case atStart => exact ⟨0, 0, by omega, rfl, rfl, mkHid rfl, MOk.zero h l, mkHid (Below.refl _ _)⟩
  case round =>
    obtain ⟨k, y, hk, rfl, rfl, hy, hok, hB⟩ := hrel
    have hyb : y ≤ 4294967296 := by rw [← hy.out]; exact sum_small h2 hok.out
    by_cases hlt : k < m
    · obtain ⟨b, off, rfl, hcs⟩ := (HA.out.below (w1 := wr) (by exact ⟨hB.out.os, hB.out.tape, hB.out.output, hB.out.size, hB.out.block⟩)).addr (by rw [Hm.out]; omega)
      obtain ⟨c1, c2⟩ := hcs k (by rw [Hm.out]; exact hlt)
      obtain ⟨p, hp⟩ : ∃ p, Hid ((l.getD k (0, 0)).1 = p) := ⟨_, mkHid rfl⟩
      obtain ⟨q, hq⟩ : ∃ q, Hid ((l.getD k (0, 0)).2 = q) := ⟨_, mkHid rfl⟩
      rw [hp.out] at c1
      rw [hq.out] at c2
      have bad : (q < p ∨ 2 ^ h ≤ q ∨ (0 < k ∧ p ≤ (l.getD (k - 1) (0, 0)).2)) → r = 1 ∧ z = 0 := by
        intro hb
        rcases hr.out with ⟨e, _⟩ | ⟨_, e⟩
        · exfalso
          have u := e k hlt
          rw [hp.out, hq.out] at u
          rcases hb with hb | hb | ⟨hb, hb'⟩
          · omega
          · omega
          · have := u.2.2 hb; omega
        · exact e
      have BAD := mkHid bad
      clear bad
      have Hcs := mkHid hcs
      clear hcs
      have hp32 := pow_le h2
      by_cases t1 : q < p
      · have t1' : decide (q < p) = true := decide_eq_true t1
        have hz : True := trivial
        obtain ⟨rfl, rfl⟩ : r = 1 ∧ z = 0 := BAD.out (.inl t1)
        go_wp2_with fail
        go_quiet (fail)
        go_wp2_with fail
        go_ret2
        exact ⟨rfl, below_drewN (hB.out.alloc hB.out.size _) _⟩
      · have t1' : decide (q < p) = false := decide_eq_false t1
        by_cases t2 : q < 2 ^ h
        · have hz : Hid (decide (q < 2 ^ h) = true) := mkHid (decide_eq_true t2)
          obtain ⟨d, hd⟩ : ∃ d, q = p + d := ⟨q - p, by omega⟩
          have hdb : d ≤ 4294967296 := by omega
          have ed : (q : Int) - (p : Int) = (d : Int) := by omega
          have hsum : Hid (sumTo l (k + 1) = y + (d + 1)) := mkHid (by unfold sumTo; rw [hy.out, hp.out, hq.out]; omega)
          have Hd := mkHid hd
          have T2 := mkHid t2
          clear hd t2 hp32
          by_cases hk0 : k = 0
          · subst hk0
            have hnew := mkHid (hok.out.succ (by rw [hp.out, hq.out, Hd.out]; omega) (by rw [hq.out]; exact T2.out) (fun h => by omega))
            have c1' : wr.cell? ⟨b, off, none⟩ = some (.int .u64 (p : Int)) := by simpa using c1
            have c2' : wr.cell? ⟨b, off + 1, none⟩ = some (.int .u64 (q : Int)) := by simpa using c2
            go_wp2_with fail
            go_quiet ((go_at_call 64; exact Calls.quiet_of_same (is_any h1 h2 hz _)))
            go_wp2_with fail
            go_roundw
            case rel => exact ⟨1, y + (d + 1), by omega, rfl, by go_num, hsum, hnew, mkHid (below_drewN (hB.out.alloc hB.out.size _) _)⟩
            case measure => simp [intOf]; omega
          · obtain ⟨c3, c4⟩ := Hcs.out (k - 1) (by rw [Hm.out]; omega)
            obtain ⟨x, hx⟩ : ∃ x, Hid ((l.getD (k - 1) (0, 0)).2 = x) := ⟨_, mkHid rfl⟩
            rw [hx.out] at c4
            have c5 := keeps ((Below.refl wr.heap.size wr).alloc (Nat.le_refl _) (.cells #[.int .u64 (p : Int), .int .u64 (q : Int)] 25)) c4
            have ek : (k : Int) - 1 = ((k - 1 : Nat) : Int) := by omega
            have hk1 : k - 1 < m := by omega
            have e0 : decide (0 < k) = true := decide_eq_true (by omega)
            have ew : IntKind.i64.wrap ((k - 1 : Nat) : Int) = ((k - 1 : Nat) : Int) := IntWalk.i64_in _ (by omega)
            by_cases t3 : p ≤ x
            · have t3' : decide (p ≤ x) = true := decide_eq_true t3
              obtain ⟨rfl, rfl⟩ : r = 1 ∧ z = 0 := BAD.out (.inr (.inr ⟨by omega, by rw [hx.out]; exact t3⟩))
              generalize k - 1 = k' at *
              go_wp2_with fail
              go_quiet ((go_at_call 64; exact Calls.quiet_of_same (is_any h1 h2 hz _)))
              go_wp2_with fail
              go_ret2
              exact ⟨rfl, below_drewN (hB.out.alloc hB.out.size _) _⟩
            · have t3' : decide (p ≤ x) = false := decide_eq_false t3
              have hnew := mkHid (hok.out.succ (by rw [hp.out, hq.out, Hd.out]; omega) (by rw [hq.out]; exact T2.out) (fun _ => by rw [hx.out, hp.out]; omega))
              generalize k - 1 = k' at *
              go_wp2_with fail
              go_quiet ((go_at_call 64; exact Calls.quiet_of_same (is_any h1 h2 hz _)))
              go_wp2_with fail
              go_roundw
              case rel => exact ⟨k + 1, y + (d + 1), by omega, by go_num, by go_num, hsum, hnew, mkHid (below_drewN (hB.out.alloc hB.out.size _) _)⟩
              case measure => simp [intOf]; omega
        · have hz : Hid (decide (q < 2 ^ h) = false) := mkHid (decide_eq_false t2)
          have T2 := mkHid t2
          clear t2 hp32
          obtain ⟨rfl, rfl⟩ : r = 1 ∧ z = 0 := BAD.out (.inr (.inl (by have := T2.out; omega)))
          go_wp2_with fail
          go_quiet ((go_at_call 64; exact Calls.quiet_of_same (is_any h1 h2 hz _)))
          go_wp2_with fail
          go_ret2
          exact ⟨rfl, below_drewN (hB.out.alloc hB.out.size _) _⟩
    · obtain rfl : k = m := by omega
      obtain ⟨rfl, rfl⟩ : r = 0 ∧ y = z := by
        rcases hr.out with ⟨_, e, f⟩ | ⟨e, _⟩
        · exact ⟨e, hy.out.symm.trans f⟩
        · exact absurd hok.out e
      go_wp2_with fail
      go_ret2
      exact ⟨rfl, hB.out⟩
theorem many_yes {h : Nat} (h1 : 1 ≤ h) (h2 : h ≤ 32) {l : List (Nat × Nat)} {z : Nat} (hl : MOk h l l.length) (hz : Hid (sumTo l l.length = z)) (A : Option Addr) (c : Nat) (w : World) (hA : Spans w A l) :
    Calls Try.prog 39 #[.int .i64 (h : Int), .slice A l.length c] w fun e w' => e = .returned (.tuple #[.int .u64 (z : Int), .int .i64 0]) ∧ Below w.heap.size w w' :=
  many_walk (r := 0) h1 h2 (mkHid (.inl ⟨hl, rfl, hz.out⟩)) A c w hA
theorem many_no {h : Nat} (h1 : 1 ≤ h) (h2 : h ≤ 32) {l : List (Nat × Nat)} (hl : ¬ MOk h l l.length) (A : Option Addr) (c : Nat) (w : World) (hA : Spans w A l) :
    Calls Try.prog 39 #[.int .i64 (h : Int), .slice A l.length c] w fun e w' => e = .returned (.tuple #[.int .u64 0, .int .i64 1]) ∧ Below w.heap.size w w' :=
  many_walk (r := 1) (z := 0) h1 h2 (mkHid (.inr ⟨hl, rfl, rfl⟩)) A c w hA
end Go.Proofs.Ytkimbkcghmelgaa
