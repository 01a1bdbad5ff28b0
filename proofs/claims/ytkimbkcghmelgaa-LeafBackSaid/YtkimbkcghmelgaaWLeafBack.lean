/- The walk of LeafBack: the Go text answers true and writes nothing that was there. -/
import Derived.Test.YtkimbkcghmelgaaTwoSets
import Derived.Test.YtkimbkcghmelgaaLeafS
import Derived.Test.YtkimbkcghmelgaaOpenF
namespace Go.Proofs.Ytkimbkcghmelgaa
open Go.RowKit Go.Proofs.YtkimbkcghmelgaaW.PrintWords

theorem withAll_ok {h : Int} {s : List Nat} {t : Nat} {L : List Nat} (e : withAll h s t = (L, 0)) : ∃ n : Nat, h = (n : Int) ∧ 1 ≤ n ∧ n ≤ 32 ∧ SetOk n s ∧ t < 2 ^ n ∧ t ∉ s ∧ s.length < 1024 ∧ L = addL s t := by
  unfold withAll withAns at e
  split at e
  · rename_i c0
    split at e
    · cases e
    · rename_i hx
      split at e
      · cases e
      · rename_i hl
        cases e
        have := c0.2.1.1
        exact ⟨h.toNat, by omega, by omega, by omega, c0.2.1, c0.2.2, hx, by omega, rfl⟩
  · cases e
theorem withAll_mk {n : Nat} {s : List Nat} {t : Nat} (h1 : 1 ≤ n) (h2 : n ≤ 32) (hs : SetOk n s) (ht : t < 2 ^ n) (hx : t ∉ s) (hl : s.length ≠ 1024) : withAll (n : Int) s t = (addL s t, 0) := by
  unfold withAll withAns
  rw [if_pos ⟨⟨by omega, by omega⟩, by rw [Int.toNat_natCast]; exact hs, by rw [Int.toNat_natCast]; exact ht⟩, if_neg hx, if_neg hl]
theorem withAll_err {h : Int} {s : List Nat} {t : Nat} {L : List Nat} {r : Int} (e : withAll h s t = (L, r)) (hr : r ≠ 0) : L = [] := by
  unfold withAll withAns at e
  split at e
  · split at e
    · cases e; rfl
    · split at e
      · cases e; rfl
      · cases e; exact absurd rfl hr
  · cases e; rfl
theorem withoutAll_mk {n : Nat} {s : List Nat} {t : Nat} (h1 : 1 ≤ n) (h2 : n ≤ 32) (hs : SetOk n s) (ht : t < 2 ^ n) (hx : t ∈ s) : withoutAll (n : Int) s t = (remL s t, 0) := by
  unfold withoutAll withoutAns
  rw [if_pos ⟨⟨by omega, by omega⟩, by rw [Int.toNat_natCast]; exact hs, by rw [Int.toNat_natCast]; exact ht⟩, if_pos hx]
theorem hasAll_mk {n : Nat} {s : List Nat} {t : Nat} (h1 : 1 ≤ n) (h2 : n ≤ 32) (hs : SetOk n s) (ht : t < 2 ^ n) : hasAll (n : Int) s t = (decide (t ∈ s), 0) := by
  unfold hasAll
  rw [if_pos ⟨⟨by omega, by omega⟩, by rw [Int.toNat_natCast]; exact hs, by rw [Int.toNat_natCast]; exact ht⟩]
theorem checkAll_mk {n : Nat} {s : List Nat} (h1 : 1 ≤ n) (h2 : n ≤ 32) (hs : SetOk n s) : checkAll (n : Int) s = 0 := by
  unfold checkAll
  rw [if_pos ⟨⟨by omega, by omega⟩, by rw [Int.toNat_natCast]; exact hs⟩]
/-- what follows of the first With that goes well -/
structure Back (h : Int) (s L : List Nat) (i : Nat) : Prop where
  out : Hid (withoutAll h L i = (s, 0))
  has : Hid (hasAll h L i = (true, 0))
  check : Hid (checkAll h L = 0)
theorem back_of {h : Int} {s L : List Nat} {i : Nat} (e : withAll h s i = (L, 0)) : Back h s L i := by
  obtain ⟨n, rfl, h1, h2, hs, ht, hx, hl, rfl⟩ := withAll_ok e
  have hL := setOk_addL hs hx hl ht
  have hm : i ∈ addL s i := mem_addL.2 (.inl rfl)
  refine ⟨mkHid ?_, mkHid ?_, mkHid (checkAll_mk h1 h2 hL)⟩
  · rw [withoutAll_mk h1 h2 hL ht hm, rem_add (setOk_iff.1 hs).2.1 hx]
  · rw [hasAll_mk h1 h2 hL ht, decide_eq_true hm]
theorem order_of {h : Int} {s L M : List Nat} {i k : Nat} (e : withAll h s i = (L, 0)) (f : withAll h s k = (M, 0)) (hl : s.length < 1023) (hik : i ≠ k) : ∃ Z, Z.length ≤ 1024 ∧ Hid (withAll h L k = (Z, 0)) ∧ Hid (withAll h M i = (Z, 0)) := by
  obtain ⟨n, rfl, h1, h2, hs, ht, hx, hl1, rfl⟩ := withAll_ok e
  obtain ⟨n', e', _, _, _, ht', hx', hl2, rfl⟩ := withAll_ok f
  obtain rfl : n = n' := by omega
  have hL := setOk_addL hs hx hl1 ht
  have hM := setOk_addL hs hx' hl1 ht'
  have kL : k ∉ addL s i := fun q => by
    rcases mem_addL.1 q with q | q
    · exact hik q.symm
    · exact hx' q
  have iM : i ∉ addL s k := fun q => by
    rcases mem_addL.1 q with q | q
    · exact hik q
    · exact hx q
  have l1 := addL_length hs hx
  have l2 := addL_length hs hx'
  refine ⟨addL (addL s i) k, by rw [addL_length hL kL]; omega, mkHid ?_, mkHid ?_⟩
  · rw [withAll_mk h1 h2 hL ht' kL (by omega)]
  · rw [withAll_mk h1 h2 hM ht iM (by omega), add_add (setOk_iff.1 hs).2.1]

set_option maxRecDepth 100000 in
set_option maxHeartbeats 4000000 in
theorem lback_long {h : Int} {i k : Nat} {s : List Nat} (A : Option Addr) (cap : Nat) (hl : 60 < s.length) (w : World) :
    Calls Try.prog 15 #[.int .i64 h, .slice A s.length cap, .int .u64 (i : Int), .int .u64 (k : Int)] w fun e w' => e = .returned (.bool true) ∧ Below w.heap.size w w' := by
  have t1 : decide ((60 : Int) < (s.length : Int)) = true := decide_eq_true (by omega)
  go_enter Try.func15, Try.ntmps15
  go_wp2_with fail
  refine (live02 _).mono ?_
  rintro e w1 ⟨rfl, hb1⟩
  have KB := mkHid hb1
  clear hb1
  go_wp2_with fail
  go_ret
  exact ⟨rfl, KB.out⟩

set_option maxRecDepth 100000 in
set_option maxHeartbeats 4000000 in
theorem lback_err {h : Int} {i k : Nat} {s : List Nat} (A : Option Addr) (cap : Nat) (hs : s.length ≤ 60) {r : Int} (e1 : Hid (withAll h s i = ([], r))) (hr : r ≠ 0) (w : World) (hA : Reads w A s) :
    Calls Try.prog 15 #[.int .i64 h, .slice A s.length cap, .int .u64 (i : Int), .int .u64 (k : Int)] w fun e w' => e = .returned (.bool true) ∧ Below w.heap.size w w' := by
  have t1 : decide ((60 : Int) < (s.length : Int)) = false := decide_eq_false (by omega)
  have t2 : (r != (0 : Int)) = true := bne_iff_ne.2 hr
  have HA := mkHid hA
  clear hA
  go_enter Try.func15, Try.ntmps15
  go_wp2_with fail
  refine (live02 _).mono ?_
  rintro e w1 ⟨rfl, hb1⟩
  replace HA := mkHid (HA.out.below hb1)
  have KB := mkHid hb1
  clear hb1
  go_wp2_with fail
  refine (with_all h s i e1 _ _ _ HA.out).mono ?_
  rintro e w2 ⟨v, rfl, ho, hb2⟩
  replace HA := mkHid (HA.out.below hb2)
  replace KB := mkHid (KB.out.step hb2)
  obtain ⟨X, kX, rfl, lX, _, RX0, nX⟩ := Reads.of_row' ho
  clear ho RX0
  clear hb2
  go_wp2_with fail
  go_ret
  exact ⟨rfl, KB.out⟩

set_option maxRecDepth 100000 in
set_option maxHeartbeats 4000000 in
theorem lback_no {h : Int} {i k : Nat} {s : List Nat} (A : Option Addr) (cap : Nat) (hs : s.length ≤ 60) (_hcap : s.length ≤ cap) {L : List Nat} (e1 : Hid (withAll h s i = (L, 0))) {M : List Nat} {r2 : Int} (e2 : Hid (withAll h s k = (M, r2))) (hr : r2 ≠ 0) (w : World) (hA : Reads w A s) :
    Calls Try.prog 15 #[.int .i64 h, .slice A s.length cap, .int .u64 (i : Int), .int .u64 (k : Int)] w fun e w' => e = .returned (.bool true) ∧ Below w.heap.size w w' := by
  have t1 : decide ((60 : Int) < (s.length : Int)) = false := decide_eq_false (by omega)
  have B := back_of e1.out
  have m1 := withAll_len e1.out
  have t2 : (r2 != (0 : Int)) = true := bne_iff_ne.2 hr
  have HA := mkHid hA
  clear hA
  go_enter Try.func15, Try.ntmps15
  go_wp2_with fail
  refine (live02 _).mono ?_
  rintro e w1 ⟨rfl, hb1⟩
  replace HA := mkHid (HA.out.below hb1)
  have KB := mkHid hb1
  clear hb1
  go_wp2_with fail
  refine (with_all h s i e1 _ _ _ HA.out).mono ?_
  rintro e w2 ⟨v, rfl, ho, hb2⟩
  replace HA := mkHid (HA.out.below hb2)
  replace KB := mkHid (KB.out.step hb2)
  obtain ⟨X, kX, rfl, lX, _, RX0, nX⟩ := Reads.of_row' ho
  have RX := mkHid RX0
  clear ho RX0
  clear hb2
  go_wp2_with fail
  refine (without_all h L i B.out _ _ _ RX.out).mono ?_
  rintro e w3 ⟨v, rfl, ho, hb3⟩
  replace HA := mkHid (HA.out.below hb3)
  replace KB := mkHid (KB.out.step hb3)
  replace RX := mkHid (RX.out.below hb3)
  obtain ⟨Y, kY, rfl, lY, _, RY0, nY⟩ := Reads.of_row' ho
  have RY := mkHid RY0
  clear ho RY0
  clear hb3
  go_wp2_with fail
  (with_reducible refine (has_all h L i B.has _ _ _ RX.out).mono ?_)
  rintro e w' ⟨rfl, hw'⟩
  obtain rfl := hw'.symm
  clear hw'
  go_wp2_with fail
  refine (ssame_any (mkHid (decide_eq_true rfl)) (by omega) _ _ _ _ _ RY.out HA.out).mono ?_
  rintro e w4 ⟨rfl, hb4⟩
  replace HA := mkHid (HA.out.below hb4)
  replace KB := mkHid (KB.out.step hb4)
  replace RX := mkHid (RX.out.below hb4)
  replace RY := mkHid (RY.out.below hb4)
  clear hb4
  go_wp2_with fail
  (with_reducible refine (check_all h L B.check _ _ _ RX.out).mono ?_)
  rintro e w' ⟨rfl, hw'⟩
  obtain rfl := hw'.symm
  clear hw'
  go_wp2_with fail
  refine (with_all h s k e2 _ _ _ HA.out).mono ?_
  rintro e w5 ⟨v, rfl, ho, hb5⟩
  replace HA := mkHid (HA.out.below hb5)
  replace KB := mkHid (KB.out.step hb5)
  replace RX := mkHid (RX.out.below hb5)
  replace RY := mkHid (RY.out.below hb5)
  obtain ⟨Z, kZ, rfl, lZ, _, RZ0, nZ⟩ := Reads.of_row' ho
  clear ho RZ0
  clear hb5
  go_wp2_with fail
  go_ret
  exact ⟨rfl, KB.out⟩

set_option maxRecDepth 100000 in
set_option maxHeartbeats 4000000 in
theorem lback_same {h : Int} {i k : Nat} {s : List Nat} (A : Option Addr) (cap : Nat) (hs : s.length ≤ 60) (_hcap : s.length ≤ cap) {L : List Nat} (e1 : Hid (withAll h s i = (L, 0))) {M : List Nat} (e2 : Hid (withAll h s k = (M, 0))) (hik : i = k) (w : World) (hA : Reads w A s) :
    Calls Try.prog 15 #[.int .i64 h, .slice A s.length cap, .int .u64 (i : Int), .int .u64 (k : Int)] w fun e w' => e = .returned (.bool true) ∧ Below w.heap.size w w' := by
  have t1 : decide ((60 : Int) < (s.length : Int)) = false := decide_eq_false (by omega)
  have B := back_of e1.out
  have m1 := withAll_len e1.out
  have t2 : ((i : Int) == (k : Int)) = true := by rw [hik]; simp
  have t2n : (i == k) = true := by rw [hik]; simp
  clear hik
  have HA := mkHid hA
  clear hA
  go_enter Try.func15, Try.ntmps15
  go_wp2_with fail
  refine (live02 _).mono ?_
  rintro e w1 ⟨rfl, hb1⟩
  replace HA := mkHid (HA.out.below hb1)
  have KB := mkHid hb1
  clear hb1
  go_wp2_with fail
  refine (with_all h s i e1 _ _ _ HA.out).mono ?_
  rintro e w2 ⟨v, rfl, ho, hb2⟩
  replace HA := mkHid (HA.out.below hb2)
  replace KB := mkHid (KB.out.step hb2)
  obtain ⟨X, kX, rfl, lX, _, RX0, nX⟩ := Reads.of_row' ho
  have RX := mkHid RX0
  clear ho RX0
  clear hb2
  go_wp2_with fail
  refine (without_all h L i B.out _ _ _ RX.out).mono ?_
  rintro e w3 ⟨v, rfl, ho, hb3⟩
  replace HA := mkHid (HA.out.below hb3)
  replace KB := mkHid (KB.out.step hb3)
  replace RX := mkHid (RX.out.below hb3)
  obtain ⟨Y, kY, rfl, lY, _, RY0, nY⟩ := Reads.of_row' ho
  have RY := mkHid RY0
  clear ho RY0
  clear hb3
  go_wp2_with fail
  (with_reducible refine (has_all h L i B.has _ _ _ RX.out).mono ?_)
  rintro e w' ⟨rfl, hw'⟩
  obtain rfl := hw'.symm
  clear hw'
  go_wp2_with fail
  refine (ssame_any (mkHid (decide_eq_true rfl)) (by omega) _ _ _ _ _ RY.out HA.out).mono ?_
  rintro e w4 ⟨rfl, hb4⟩
  replace HA := mkHid (HA.out.below hb4)
  replace KB := mkHid (KB.out.step hb4)
  replace RX := mkHid (RX.out.below hb4)
  replace RY := mkHid (RY.out.below hb4)
  clear hb4
  go_wp2_with fail
  (with_reducible refine (check_all h L B.check _ _ _ RX.out).mono ?_)
  rintro e w' ⟨rfl, hw'⟩
  obtain rfl := hw'.symm
  clear hw'
  go_wp2_with fail
  refine (with_all h s k e2 _ _ _ HA.out).mono ?_
  rintro e w5 ⟨v, rfl, ho, hb5⟩
  replace HA := mkHid (HA.out.below hb5)
  replace KB := mkHid (KB.out.step hb5)
  replace RX := mkHid (RX.out.below hb5)
  replace RY := mkHid (RY.out.below hb5)
  obtain ⟨Z, kZ, rfl, lZ, _, RZ0, nZ⟩ := Reads.of_row' ho
  clear ho RZ0
  clear hb5
  go_wp2_with fail
  go_ret
  exact ⟨rfl, KB.out⟩

set_option maxRecDepth 100000 in
set_option maxHeartbeats 4000000 in
theorem lback_two {h : Int} {i k : Nat} {s : List Nat} (A : Option Addr) (cap : Nat) (hs : s.length ≤ 60) (_hcap : s.length ≤ cap) {L : List Nat} (e1 : Hid (withAll h s i = (L, 0))) {M : List Nat} (e2 : Hid (withAll h s k = (M, 0))) (hik : i ≠ k) (w : World) (hA : Reads w A s) :
    Calls Try.prog 15 #[.int .i64 h, .slice A s.length cap, .int .u64 (i : Int), .int .u64 (k : Int)] w fun e w' => e = .returned (.bool true) ∧ Below w.heap.size w w' := by
  have t1 : decide ((60 : Int) < (s.length : Int)) = false := decide_eq_false (by omega)
  have B := back_of e1.out
  have m1 := withAll_len e1.out
  have t2 : ((i : Int) == (k : Int)) = false := beq_eq_false_iff_ne.2 (by omega)
  have t2n : (i == k) = false := beq_eq_false_iff_ne.2 hik
  obtain ⟨V, m3, e3, e4⟩ := order_of e1.out e2.out (by omega) hik
  have HA := mkHid hA
  clear hA
  go_enter Try.func15, Try.ntmps15
  go_wp2_with fail
  refine (live02 _).mono ?_
  rintro e w1 ⟨rfl, hb1⟩
  replace HA := mkHid (HA.out.below hb1)
  have KB := mkHid hb1
  clear hb1
  go_wp2_with fail
  refine (with_all h s i e1 _ _ _ HA.out).mono ?_
  rintro e w2 ⟨v, rfl, ho, hb2⟩
  replace HA := mkHid (HA.out.below hb2)
  replace KB := mkHid (KB.out.step hb2)
  obtain ⟨X, kX, rfl, lX, _, RX0, nX⟩ := Reads.of_row' ho
  have RX := mkHid RX0
  clear ho RX0
  clear hb2
  go_wp2_with fail
  refine (without_all h L i B.out _ _ _ RX.out).mono ?_
  rintro e w3 ⟨v, rfl, ho, hb3⟩
  replace HA := mkHid (HA.out.below hb3)
  replace KB := mkHid (KB.out.step hb3)
  replace RX := mkHid (RX.out.below hb3)
  obtain ⟨Y, kY, rfl, lY, _, RY0, nY⟩ := Reads.of_row' ho
  have RY := mkHid RY0
  clear ho RY0
  clear hb3
  go_wp2_with fail
  (with_reducible refine (has_all h L i B.has _ _ _ RX.out).mono ?_)
  rintro e w' ⟨rfl, hw'⟩
  obtain rfl := hw'.symm
  clear hw'
  go_wp2_with fail
  refine (ssame_any (mkHid (decide_eq_true rfl)) (by omega) _ _ _ _ _ RY.out HA.out).mono ?_
  rintro e w4 ⟨rfl, hb4⟩
  replace HA := mkHid (HA.out.below hb4)
  replace KB := mkHid (KB.out.step hb4)
  replace RX := mkHid (RX.out.below hb4)
  replace RY := mkHid (RY.out.below hb4)
  clear hb4
  go_wp2_with fail
  (with_reducible refine (check_all h L B.check _ _ _ RX.out).mono ?_)
  rintro e w' ⟨rfl, hw'⟩
  obtain rfl := hw'.symm
  clear hw'
  go_wp2_with fail
  refine (with_all h s k e2 _ _ _ HA.out).mono ?_
  rintro e w5 ⟨v, rfl, ho, hb5⟩
  replace HA := mkHid (HA.out.below hb5)
  replace KB := mkHid (KB.out.step hb5)
  replace RX := mkHid (RX.out.below hb5)
  replace RY := mkHid (RY.out.below hb5)
  obtain ⟨C, kC, rfl, lC, _, RC0, nC⟩ := Reads.of_row' ho
  have RC := mkHid RC0
  clear ho RC0
  clear hb5
  go_wp2_with fail
  refine (with_all h L k e3 _ _ _ RX.out).mono ?_
  rintro e w6 ⟨v, rfl, ho, hb6⟩
  replace HA := mkHid (HA.out.below hb6)
  replace KB := mkHid (KB.out.step hb6)
  replace RX := mkHid (RX.out.below hb6)
  replace RY := mkHid (RY.out.below hb6)
  replace RC := mkHid (RC.out.below hb6)
  obtain ⟨P, kP, rfl, lP, _, RP0, nP⟩ := Reads.of_row' ho
  have RP := mkHid RP0
  clear ho RP0
  clear hb6
  go_wp2_with fail
  refine (with_all h M i e4 _ _ _ RC.out).mono ?_
  rintro e w7 ⟨v, rfl, ho, hb7⟩
  replace HA := mkHid (HA.out.below hb7)
  replace KB := mkHid (KB.out.step hb7)
  replace RX := mkHid (RX.out.below hb7)
  replace RY := mkHid (RY.out.below hb7)
  replace RC := mkHid (RC.out.below hb7)
  replace RP := mkHid (RP.out.below hb7)
  obtain ⟨Q, kQ, rfl, lQ, _, RQ0, nQ⟩ := Reads.of_row' ho
  have RQ := mkHid RQ0
  clear ho RQ0
  clear hb7
  go_wp2_with fail
  refine (ssame_any (mkHid (decide_eq_true rfl)) (by omega) _ _ _ _ _ RP.out RQ.out).mono ?_
  rintro e w8 ⟨rfl, hb8⟩
  replace HA := mkHid (HA.out.below hb8)
  replace KB := mkHid (KB.out.step hb8)
  replace RX := mkHid (RX.out.below hb8)
  replace RY := mkHid (RY.out.below hb8)
  replace RC := mkHid (RC.out.below hb8)
  replace RP := mkHid (RP.out.below hb8)
  replace RQ := mkHid (RQ.out.below hb8)
  clear hb8
  go_wp2_with fail
  go_ret
  exact ⟨rfl, KB.out⟩
theorem walk_LeafBack {w : World} (h : Int) (_hx : (Lit.int .i64 h).wf = true) (A : Option Addr) (s : List Nat) (cap : Nat) (hcap : s.length ≤ cap) (_hcm : cap ≤ maxLen) (hA : Reads w A s) (_hsb : ∀ j, s.getD j 0 < 18446744073709551616) (i : Int) (hi : (Lit.int .u64 i).wf = true) (k : Int) (hk : (Lit.int .u64 k).wf = true) :
    Calls Try.prog 15 #[.int .i64 h, .slice A s.length cap, .int .u64 i, .int .u64 k] w fun e w' => e = .returned (.bool true) ∧ Below w.heap.size w w' := by
  obtain ⟨i, rfl, hn⟩ := nat_u64 hi
  obtain ⟨k, rfl, hm⟩ := nat_u64 hk
  by_cases h1 : s.length ≤ 60
  · obtain ⟨L, r, e1⟩ : ∃ L r, withAll h s i = (L, r) := ⟨_, _, rfl⟩
    by_cases hr : r = 0
    · subst hr
      obtain ⟨M, r2, e2⟩ : ∃ L r, withAll h s k = (L, r) := ⟨_, _, rfl⟩
      by_cases hr2 : r2 = 0
      · subst hr2
        by_cases hik : i = k
        · exact lback_same A cap h1 hcap (mkHid e1) (mkHid e2) hik w hA
        · exact lback_two A cap h1 hcap (mkHid e1) (mkHid e2) hik w hA
      · exact lback_no A cap h1 hcap (mkHid e1) (mkHid e2) hr2 w hA
    · obtain rfl := withAll_err e1 hr
      exact lback_err A cap h1 (mkHid e1) hr w hA
  · exact lback_long A cap (by omega) w
end Go.Proofs.Ytkimbkcghmelgaa
