/- The walk of LeafBelow: the Go text answers true and writes nothing that was there. -/
import Derived.Test.YtkimbkcghmelgaaAppU
import Derived.Test.YtkimbkcghmelgaaPureSame
import Derived.Test.YtkimbkcghmelgaaOpenF
namespace Go.Proofs.Ytkimbkcghmelgaa
open Go.RowKit Go.Proofs.YtkimbkcghmelgaaW.PrintWords

theorem child_none0 {h n d : Nat} (H : Node h n) (hd : Hid (dep n = d)) (hlt : d = h) (w : World) :
    Calls Try.prog 20 #[.int .i64 (h : Int), .int .u64 (n : Int), .int .i64 0] w fun e w' => e = .returned (.tuple #[.int .u64 (0), .int .i64 4]) ∧ w' = w := child_none (s := 0) H hd hlt (by decide) w
theorem child_yes0 {h n d r : Nat} (H : Node h n) (hd : Hid (dep n = d)) (hlt : d < h) (hr : Hid (2 * n + 0 = r)) (w : World) :
    Calls Try.prog 20 #[.int .i64 (h : Int), .int .u64 (n : Int), .int .i64 0] w fun e w' => e = .returned (.tuple #[.int .u64 ((r : Int)), .int .i64 0]) ∧ w' = w := child_yes (s := 0) H hd hlt (by decide) hr w

theorem child_none1 {h n d : Nat} (H : Node h n) (hd : Hid (dep n = d)) (hlt : d = h) (w : World) :
    Calls Try.prog 20 #[.int .i64 (h : Int), .int .u64 (n : Int), .int .i64 1] w fun e w' => e = .returned (.tuple #[.int .u64 (0), .int .i64 4]) ∧ w' = w := child_none (s := 1) H hd hlt (by decide) w
theorem child_yes1 {h n d r : Nat} (H : Node h n) (hd : Hid (dep n = d)) (hlt : d < h) (hr : Hid (2 * n + 1 = r)) (w : World) :
    Calls Try.prog 20 #[.int .i64 (h : Int), .int .u64 (n : Int), .int .i64 1] w fun e w' => e = .returned (.tuple #[.int .u64 ((r : Int)), .int .i64 0]) ∧ w' = w := child_yes (s := 1) H hd hlt (by decide) hr w

set_option maxRecDepth 100000 in
set_option maxHeartbeats 2000000 in
theorem lbelow_long {h : Int} {n : Nat} {s : List Nat} (A : Option Addr) (cap : Nat) (hl : 60 < s.length) (w : World) :
    Calls Try.prog 12 #[.int .i64 h, .slice A s.length cap, .int .u64 (n : Int)] w fun e w' => e = .returned (.bool true) ∧ Below w.heap.size w w' := by
  have t1 : decide ((60 : Int) < (s.length : Int)) = true := decide_eq_true (by omega)
  go_enter Try.func12, Try.ntmps12
  go_wp2_with fail
  refine (live02 _).mono ?_
  rintro e w1 ⟨rfl, hb1⟩
  have hBN := Below.step (w := w) (by repeat' first | with_reducible exact Below.refl _ _ | with_reducible refine Below.drew ?_ | with_reducible refine below_drewN ?_ _ | with_reducible refine Below.setCell ?_ ?_ _ | with_reducible refine Below.alloc ?_ ?_ _ | (dsimp only; omega) | (simp <;> fail) | (simp; omega)) hb1
  clear hb1
  have HBel := mkHid hBN
  clear hBN
  go_wp2_with fail
  go_ret
  exact ⟨rfl, (by repeat' first | with_reducible exact HBel.out | with_reducible exact Below.refl _ _ | with_reducible refine Below.drew ?_ | with_reducible refine below_drewN ?_ _ | with_reducible refine Below.setCell ?_ ?_ _ | with_reducible refine Below.alloc ?_ ?_ _ | (dsimp only; omega) | (simp <;> fail) | (have := HBel.out.size; simp; omega))⟩

set_option maxRecDepth 100000 in
set_option maxHeartbeats 2000000 in
theorem lbelow_bad {h : Int} {n : Nat} {s : List Nat} (A : Option Addr) (cap : Nat) (hl : s.length ≤ 60) (H : h < 1 ∨ 32 < h) (hn : n < 18446744073709551616) (w : World) :
    Calls Try.prog 12 #[.int .i64 h, .slice A s.length cap, .int .u64 (n : Int)] w fun e w' => e = .returned (.bool true) ∧ Below w.heap.size w w' := by
  have t1 : decide ((60 : Int) < (s.length : Int)) = false := decide_eq_false (by omega)
  have R : Hid (NoNode h 1) := mkHid (by rcases H with H | H; exact .inl H; exact .inr (.inl H))
  have N : Hid (NoNode h n) := mkHid (by rcases H with H | H; exact .inl H; exact .inr (.inl H))
  clear H
  go_enter Try.func12, Try.ntmps12
  go_wp2_with fail
  refine (live02 _).mono ?_
  rintro e w1 ⟨rfl, hb1⟩
  have hBN := Below.step (w := w) (by repeat' first | with_reducible exact Below.refl _ _ | with_reducible refine Below.drew ?_ | with_reducible refine below_drewN ?_ _ | with_reducible refine Below.setCell ?_ ?_ _ | with_reducible refine Below.alloc ?_ ?_ _ | (dsimp only; omega) | (simp <;> fail) | (simp; omega)) hb1
  clear hb1
  have HBel := mkHid hBN
  clear hBN
  go_wp2_with fail
  refine (below_no (n := 1) R.out (by decide) _ _ _ _).mono ?_
  rintro e w2 ⟨rfl, hb2⟩
  have hBN := Below.step (w := w) (by repeat' first | with_reducible exact HBel.out | with_reducible exact Below.refl _ _ | with_reducible refine Below.drew ?_ | with_reducible refine below_drewN ?_ _ | with_reducible refine Below.setCell ?_ ?_ _ | with_reducible refine Below.alloc ?_ ?_ _ | (dsimp only; omega) | (simp <;> fail) | (have := HBel.out.size; simp; omega)) hb2
  clear HBel hb2
  have HBel := mkHid hBN
  clear hBN
  go_wp2_with fail
  refine (below_no N.out hn _ _ _ _).mono ?_
  rintro e w3 ⟨rfl, hb3⟩
  have hBN := Below.step (w := w) (by repeat' first | with_reducible exact HBel.out | with_reducible exact Below.refl _ _ | with_reducible refine Below.drew ?_ | with_reducible refine below_drewN ?_ _ | with_reducible refine Below.setCell ?_ ?_ _ | with_reducible refine Below.alloc ?_ ?_ _ | (dsimp only; omega) | (simp <;> fail) | (have := HBel.out.size; simp; omega)) hb3
  clear HBel hb3
  have HBel := mkHid hBN
  clear hBN
  go_wp2_with fail
  go_ret
  exact ⟨rfl, (by repeat' first | with_reducible exact HBel.out | with_reducible exact Below.refl _ _ | with_reducible refine Below.drew ?_ | with_reducible refine below_drewN ?_ _ | with_reducible refine Below.setCell ?_ ?_ _ | with_reducible refine Below.alloc ?_ ?_ _ | (dsimp only; omega) | (simp <;> fail) | (have := HBel.out.size; simp; omega))⟩

set_option maxRecDepth 100000 in
set_option maxHeartbeats 2000000 in
theorem lbelow_noset {h last n : Nat} {s : List Nat} (A : Option Addr) (cap : Nat) (hl : s.length ≤ 60) (h1 : 1 ≤ h) (h2 : h ≤ 32) (hla : Hid (last + 1 = 2 ^ h)) (hs : Hid (¬ SetOk h s)) {d lo hi : Nat} (H : Node h n) (hd : Hid (dep n = d)) (hlo : Hid (n * 2 ^ (h - d) = 2 ^ h + lo)) (hhi : Hid (lo + 2 ^ (h - d) = hi + 1)) (w : World) (hA : Reads w A s) :
    Calls Try.prog 12 #[.int .i64 (h : Int), .slice A s.length cap, .int .u64 (n : Int)] w fun e w' => e = .returned (.bool true) ∧ Below w.heap.size w w' := by
  have t1 : decide ((60 : Int) < (s.length : Int)) = false := decide_eq_false (by omega)
  have HA := mkHid hA
  clear hA
  have H' := mkHid H
  clear H
  go_enter Try.func12, Try.ntmps12
  go_wp2_with fail
  refine (live02 _).mono ?_
  rintro e w1 ⟨rfl, hb1⟩
  have hBN := Below.step (w := w) (by repeat' first | with_reducible exact Below.refl _ _ | with_reducible refine Below.drew ?_ | with_reducible refine below_drewN ?_ _ | with_reducible refine Below.setCell ?_ ?_ _ | with_reducible refine Below.alloc ?_ ?_ _ | (dsimp only; omega) | (simp <;> fail) | (simp; omega)) hb1
  clear hb1
  have HBel := mkHid hBN
  clear hBN
  go_wp2_with fail
  have HA1 := HA.out.below HBel.out
  refine (below_noset (n := 1) (lo := 0) (hi := last) (root_node h1 h2) hs (mkHid dep_one) (mkHid (by rw [Nat.sub_zero]; omega)) (mkHid (by rw [Nat.sub_zero, hla.out]; omega)) _ _ _ HA1).mono ?_
  rintro e w2 ⟨rfl, hb2⟩
  have hBN := Below.step (w := w) (by repeat' first | with_reducible exact HBel.out | with_reducible exact Below.refl _ _ | with_reducible refine Below.drew ?_ | with_reducible refine below_drewN ?_ _ | with_reducible refine Below.setCell ?_ ?_ _ | with_reducible refine Below.alloc ?_ ?_ _ | (dsimp only; omega) | (simp <;> fail) | (have := HBel.out.size; simp; omega)) hb2
  have HA2 := HA1.below hb2
  clear HBel hb2
  have HBel := mkHid hBN
  clear hBN
  go_wp2_with fail
  refine (below_noset H'.out hs hd hlo hhi _ _ _ HA2).mono ?_
  rintro e w3 ⟨rfl, hb3⟩
  have hBN := Below.step (w := w) (by repeat' first | with_reducible exact HBel.out | with_reducible exact Below.refl _ _ | with_reducible refine Below.drew ?_ | with_reducible refine below_drewN ?_ _ | with_reducible refine Below.setCell ?_ ?_ _ | with_reducible refine Below.alloc ?_ ?_ _ | (dsimp only; omega) | (simp <;> fail) | (have := HBel.out.size; simp; omega)) hb3
  clear HBel hb3
  have HBel := mkHid hBN
  clear hBN
  go_wp2_with fail
  go_ret
  exact ⟨rfl, (by repeat' first | with_reducible exact HBel.out | with_reducible exact Below.refl _ _ | with_reducible refine Below.drew ?_ | with_reducible refine below_drewN ?_ _ | with_reducible refine Below.setCell ?_ ?_ _ | with_reducible refine Below.alloc ?_ ?_ _ | (dsimp only; omega) | (simp <;> fail) | (have := HBel.out.size; simp; omega))⟩

set_option maxRecDepth 100000 in
set_option maxHeartbeats 2000000 in
theorem lbelow_nosetno {h last n : Nat} {s : List Nat} (A : Option Addr) (cap : Nat) (hl : s.length ≤ 60) (h1 : 1 ≤ h) (h2 : h ≤ 32) (hla : Hid (last + 1 = 2 ^ h)) (hs : Hid (¬ SetOk h s)) (H : NoNode (h : Int) n) (hn : n < 18446744073709551616) (w : World) (hA : Reads w A s) :
    Calls Try.prog 12 #[.int .i64 (h : Int), .slice A s.length cap, .int .u64 (n : Int)] w fun e w' => e = .returned (.bool true) ∧ Below w.heap.size w w' := by
  have t1 : decide ((60 : Int) < (s.length : Int)) = false := decide_eq_false (by omega)
  have HA := mkHid hA
  clear hA
  have H' := mkHid H
  clear H
  go_enter Try.func12, Try.ntmps12
  go_wp2_with fail
  refine (live02 _).mono ?_
  rintro e w1 ⟨rfl, hb1⟩
  have hBN := Below.step (w := w) (by repeat' first | with_reducible exact Below.refl _ _ | with_reducible refine Below.drew ?_ | with_reducible refine below_drewN ?_ _ | with_reducible refine Below.setCell ?_ ?_ _ | with_reducible refine Below.alloc ?_ ?_ _ | (dsimp only; omega) | (simp <;> fail) | (simp; omega)) hb1
  clear hb1
  have HBel := mkHid hBN
  clear hBN
  go_wp2_with fail
  have HA1 := HA.out.below HBel.out
  refine (below_noset (n := 1) (lo := 0) (hi := last) (root_node h1 h2) hs (mkHid dep_one) (mkHid (by rw [Nat.sub_zero]; omega)) (mkHid (by rw [Nat.sub_zero, hla.out]; omega)) _ _ _ HA1).mono ?_
  rintro e w2 ⟨rfl, hb2⟩
  have hBN := Below.step (w := w) (by repeat' first | with_reducible exact HBel.out | with_reducible exact Below.refl _ _ | with_reducible refine Below.drew ?_ | with_reducible refine below_drewN ?_ _ | with_reducible refine Below.setCell ?_ ?_ _ | with_reducible refine Below.alloc ?_ ?_ _ | (dsimp only; omega) | (simp <;> fail) | (have := HBel.out.size; simp; omega)) hb2
  clear HBel hb2
  have HBel := mkHid hBN
  clear hBN
  go_wp2_with fail
  refine (below_no H'.out hn _ _ _ _).mono ?_
  rintro e w3 ⟨rfl, hb3⟩
  have hBN := Below.step (w := w) (by repeat' first | with_reducible exact HBel.out | with_reducible exact Below.refl _ _ | with_reducible refine Below.drew ?_ | with_reducible refine below_drewN ?_ _ | with_reducible refine Below.setCell ?_ ?_ _ | with_reducible refine Below.alloc ?_ ?_ _ | (dsimp only; omega) | (simp <;> fail) | (have := HBel.out.size; simp; omega)) hb3
  clear HBel hb3
  have HBel := mkHid hBN
  clear hBN
  go_wp2_with fail
  go_ret
  exact ⟨rfl, (by repeat' first | with_reducible exact HBel.out | with_reducible exact Below.refl _ _ | with_reducible refine Below.drew ?_ | with_reducible refine below_drewN ?_ _ | with_reducible refine Below.setCell ?_ ?_ _ | with_reducible refine Below.alloc ?_ ?_ _ | (dsimp only; omega) | (simp <;> fail) | (have := HBel.out.size; simp; omega))⟩

set_option maxRecDepth 100000 in
set_option maxHeartbeats 2000000 in
theorem lbelow_nonode {h last n : Nat} {s : List Nat} (A : Option Addr) (cap : Nat) (hl : s.length ≤ 60) (hcap : s.length ≤ cap) (h1 : 1 ≤ h) (h2 : h ≤ 32) (hla : Hid (last + 1 = 2 ^ h)) (hs : Hid (SetOk h s)) (H : NoNode (h : Int) n) (hn : n < 18446744073709551616) (w : World) (hA : Reads w A s) :
    Calls Try.prog 12 #[.int .i64 (h : Int), .slice A s.length cap, .int .u64 (n : Int)] w fun e w' => e = .returned (.bool true) ∧ Below w.heap.size w w' := by
  have t1 : decide ((60 : Int) < (s.length : Int)) = false := decide_eq_false (by omega)
  have HA := mkHid hA
  clear hA
  have H' := mkHid H
  clear H
  go_enter Try.func12, Try.ntmps12
  go_wp2_with fail
  refine (live02 _).mono ?_
  rintro e w1 ⟨rfl, hb1⟩
  have hBN := Below.step (w := w) (by repeat' first | with_reducible exact Below.refl _ _ | with_reducible refine Below.drew ?_ | with_reducible refine below_drewN ?_ _ | with_reducible refine Below.setCell ?_ ?_ _ | with_reducible refine Below.alloc ?_ ?_ _ | (dsimp only; omega) | (simp <;> fail) | (simp; omega)) hb1
  clear hb1
  have HBel := mkHid hBN
  clear hBN
  go_wp2_with fail
  have HA1 := HA.out.below HBel.out
  refine (below_root h1 h2 hla.out hs A cap hcap _ HA1).mono ?_
  rintro e w2 ⟨B, kB, rfl, lB, mB, RB, zB, hb2⟩
  have hBN := Below.step (w := w) (by repeat' first | with_reducible exact HBel.out | with_reducible exact Below.refl _ _ | with_reducible refine Below.drew ?_ | with_reducible refine below_drewN ?_ _ | with_reducible refine Below.setCell ?_ ?_ _ | with_reducible refine Below.alloc ?_ ?_ _ | (dsimp only; omega) | (simp <;> fail) | (have := HBel.out.size; simp; omega)) hb2
  clear HBel hb2
  have HBel := mkHid hBN
  clear hBN
  go_wp2_with fail
  refine (below_no H'.out hn _ _ _ _).mono ?_
  rintro e w3 ⟨rfl, hb3⟩
  have hBN := Below.step (w := w) (by repeat' first | with_reducible exact HBel.out | with_reducible exact Below.refl _ _ | with_reducible refine Below.drew ?_ | with_reducible refine below_drewN ?_ _ | with_reducible refine Below.setCell ?_ ?_ _ | with_reducible refine Below.alloc ?_ ?_ _ | (dsimp only; omega) | (simp <;> fail) | (have := HBel.out.size; simp; omega)) hb3
  clear HBel hb3
  have HBel := mkHid hBN
  clear hBN
  go_wp2_with fail
  go_ret
  exact ⟨rfl, (by repeat' first | with_reducible exact HBel.out | with_reducible exact Below.refl _ _ | with_reducible refine Below.drew ?_ | with_reducible refine below_drewN ?_ _ | with_reducible refine Below.setCell ?_ ?_ _ | with_reducible refine Below.alloc ?_ ?_ _ | (dsimp only; omega) | (simp <;> fail) | (have := HBel.out.size; simp; omega))⟩

set_option maxRecDepth 100000 in
set_option maxHeartbeats 2000000 in
theorem lbelow_leaf {h last n : Nat} {s : List Nat} (A : Option Addr) (cap : Nat) (hl : s.length ≤ 60) (hcap : s.length ≤ cap) (h1 : 1 ≤ h) (h2 : h ≤ 32) (hla : Hid (last + 1 = 2 ^ h)) (hs : Hid (SetOk h s)) {d lo hi f t : Nat} {L : List Nat} (H : Node h n) (hd : Hid (dep n = d)) (hlo : Hid (n * 2 ^ (h - d) = 2 ^ h + lo)) (hhi : Hid (lo + 2 ^ (h - d) = hi + 1)) (hf : Hid (Place s lo f)) (ht : Hid (Place s (hi + 1) t)) (hL : Hid ((s.drop f).take (t - f) = L)) (hft : f ≤ t) (hb : hi < 4294967296) (hdh : d = h) (h1L : L.length ≤ 1) (w : World) (hA : Reads w A s) :
    Calls Try.prog 12 #[.int .i64 (h : Int), .slice A s.length cap, .int .u64 (n : Int)] w fun e w' => e = .returned (.bool true) ∧ Below w.heap.size w w' := by
  have t1 : decide ((60 : Int) < (s.length : Int)) = false := decide_eq_false (by omega)
  have HA := mkHid hA
  clear hA
  have H' := mkHid H
  clear H
  go_enter Try.func12, Try.ntmps12
  go_wp2_with fail
  refine (live02 _).mono ?_
  rintro e w1 ⟨rfl, hb1⟩
  have hBN := Below.step (w := w) (by repeat' first | with_reducible exact Below.refl _ _ | with_reducible refine Below.drew ?_ | with_reducible refine below_drewN ?_ _ | with_reducible refine Below.setCell ?_ ?_ _ | with_reducible refine Below.alloc ?_ ?_ _ | (dsimp only; omega) | (simp <;> fail) | (simp; omega)) hb1
  clear hb1
  have HBel := mkHid hBN
  clear hBN
  go_wp2_with fail
  have HA1 := HA.out.below HBel.out
  refine (below_root h1 h2 hla.out hs A cap hcap _ HA1).mono ?_
  rintro e w2 ⟨B, kB, rfl, lB, mB, RB, zB, hb2⟩
  have hBN := Below.step (w := w) (by repeat' first | with_reducible exact HBel.out | with_reducible exact Below.refl _ _ | with_reducible refine Below.drew ?_ | with_reducible refine below_drewN ?_ _ | with_reducible refine Below.setCell ?_ ?_ _ | with_reducible refine Below.alloc ?_ ?_ _ | (dsimp only; omega) | (simp <;> fail) | (have := HBel.out.size; simp; omega)) hb2
  have HA2 := HA1.below hb2
  clear HBel hb2
  have HBel := mkHid hBN
  clear hBN
  go_wp2_with fail
  refine (below_list H'.out hs hd hlo hhi hf ht hL hft hb A cap hcap _ HA2).mono ?_
  rintro e w3 ⟨C, kC, rfl, lC, mC, RC, zC, hb3⟩
  have hBN := Below.step (w := w) (by repeat' first | with_reducible exact HBel.out | with_reducible exact Below.refl _ _ | with_reducible refine Below.drew ?_ | with_reducible refine below_drewN ?_ _ | with_reducible refine Below.setCell ?_ ?_ _ | with_reducible refine Below.alloc ?_ ?_ _ | (dsimp only; omega) | (simp <;> fail) | (have := HBel.out.size; simp; omega)) hb3
  have HA3 := HA2.below hb3
  have RB3 := RB.below hb3
  clear HBel hb3
  have HBel := mkHid hBN
  clear hBN
  go_wp2_with fail
  refine (PSame.same_reads (by omega) RB3 lB HA3 hcap).mono ?_
  rintro e w4 ⟨rfl, hb4⟩
  have hBN := Below.step (w := w) (by repeat' first | with_reducible exact HBel.out | with_reducible exact Below.refl _ _ | with_reducible refine Below.drew ?_ | with_reducible refine below_drewN ?_ _ | with_reducible refine Below.setCell ?_ ?_ _ | with_reducible refine Below.alloc ?_ ?_ _ | (dsimp only; omega) | (simp <;> fail) | (have := HBel.out.size; simp; omega)) hb4
  clear HBel hb4
  have HBel := mkHid hBN
  clear hBN
  go_wp2_with fail
  have tL : decide ((L.length : Int) ≤ 1) = true := decide_eq_true (by omega)
  (with_reducible refine (child_none0 H'.out hd hdh _).mono ?_)
  rintro e w' ⟨rfl, rfl⟩
  go_wp2_with fail
  (with_reducible refine (child_none1 H'.out hd hdh _).mono ?_)
  rintro e w' ⟨rfl, rfl⟩
  go_wp2_with fail
  go_ret
  exact ⟨rfl, (by repeat' first | with_reducible exact HBel.out | with_reducible exact Below.refl _ _ | with_reducible refine Below.drew ?_ | with_reducible refine below_drewN ?_ _ | with_reducible refine Below.setCell ?_ ?_ _ | with_reducible refine Below.alloc ?_ ?_ _ | (dsimp only; omega) | (simp <;> fail) | (have := HBel.out.size; simp; omega))⟩

set_option maxRecDepth 100000 in
set_option maxHeartbeats 2000000 in
theorem lbelow_inner {h last n : Nat} {s : List Nat} (A : Option Addr) (cap : Nat) (hl : s.length ≤ 60) (hcap : s.length ≤ cap) (h1 : 1 ≤ h) (h2 : h ≤ 32) (hla : Hid (last + 1 = 2 ^ h)) (hs : Hid (SetOk h s)) {d lo hi f t : Nat} {L : List Nat} (H : Node h n) (hd : Hid (dep n = d)) (hlo : Hid (n * 2 ^ (h - d) = 2 ^ h + lo)) (hhi : Hid (lo + 2 ^ (h - d) = hi + 1)) (hf : Hid (Place s lo f)) (ht : Hid (Place s (hi + 1) t)) (hL : Hid ((s.drop f).take (t - f) = L)) (hft : f ≤ t) (hb : hi < 4294967296) {lo1 hi1 lo2 hi2 f1 t1 f2 t2 : Nat} {X Y : List Nat} (hdh : d < h) {c0 c1 : Nat} (hc0 : Hid (2 * n + 0 = c0)) (hc1 : Hid (2 * n + 1 = c1)) (H0 : Hid (Node h c0)) (H1 : Hid (Node h c1)) (d0 : Hid (dep c0 = d + 1)) (d1 : Hid (dep c1 = d + 1)) (lo1e : Hid (c0 * 2 ^ (h - (d + 1)) = 2 ^ h + lo1)) (hi1e : Hid (lo1 + 2 ^ (h - (d + 1)) = hi1 + 1)) (lo2e : Hid (c1 * 2 ^ (h - (d + 1)) = 2 ^ h + lo2)) (hi2e : Hid (lo2 + 2 ^ (h - (d + 1)) = hi2 + 1)) (pf1 : Hid (Place s lo1 f1)) (pt1 : Hid (Place s (hi1 + 1) t1)) (eX : Hid ((s.drop f1).take (t1 - f1) = X)) (ft1 : f1 ≤ t1) (b1 : hi1 < 4294967296) (pf2 : Hid (Place s lo2 f2)) (pt2 : Hid (Place s (hi2 + 1) t2)) (eY : Hid ((s.drop f2).take (t2 - f2) = Y)) (ft2 : f2 ≤ t2) (b2 : hi2 < 4294967296) (eL : L = X ++ Y) (bX : X.length ≤ 1024) (bY : Y.length ≤ 1024) (w : World) (hA : Reads w A s) :
    Calls Try.prog 12 #[.int .i64 (h : Int), .slice A s.length cap, .int .u64 (n : Int)] w fun e w' => e = .returned (.bool true) ∧ Below w.heap.size w w' := by
  have t1 : decide ((60 : Int) < (s.length : Int)) = false := decide_eq_false (by omega)
  have HA := mkHid hA
  clear hA
  have H' := mkHid H
  clear H
  go_enter Try.func12, Try.ntmps12
  go_wp2_with fail
  refine (live02 _).mono ?_
  rintro e w1 ⟨rfl, hb1⟩
  have hBN := Below.step (w := w) (by repeat' first | with_reducible exact Below.refl _ _ | with_reducible refine Below.drew ?_ | with_reducible refine below_drewN ?_ _ | with_reducible refine Below.setCell ?_ ?_ _ | with_reducible refine Below.alloc ?_ ?_ _ | (dsimp only; omega) | (simp <;> fail) | (simp; omega)) hb1
  clear hb1
  have HBel := mkHid hBN
  clear hBN
  go_wp2_with fail
  have HA1 := HA.out.below HBel.out
  refine (below_root h1 h2 hla.out hs A cap hcap _ HA1).mono ?_
  rintro e w2 ⟨B, kB, rfl, lB, mB, RB, zB, hb2⟩
  have hBN := Below.step (w := w) (by repeat' first | with_reducible exact HBel.out | with_reducible exact Below.refl _ _ | with_reducible refine Below.drew ?_ | with_reducible refine below_drewN ?_ _ | with_reducible refine Below.setCell ?_ ?_ _ | with_reducible refine Below.alloc ?_ ?_ _ | (dsimp only; omega) | (simp <;> fail) | (have := HBel.out.size; simp; omega)) hb2
  have HA2 := HA1.below hb2
  clear HBel hb2
  have HBel := mkHid hBN
  clear hBN
  go_wp2_with fail
  refine (below_list H'.out hs hd hlo hhi hf ht hL hft hb A cap hcap _ HA2).mono ?_
  rintro e w3 ⟨C, kC, rfl, lC, mC, RC, zC, hb3⟩
  have hBN := Below.step (w := w) (by repeat' first | with_reducible exact HBel.out | with_reducible exact Below.refl _ _ | with_reducible refine Below.drew ?_ | with_reducible refine below_drewN ?_ _ | with_reducible refine Below.setCell ?_ ?_ _ | with_reducible refine Below.alloc ?_ ?_ _ | (dsimp only; omega) | (simp <;> fail) | (have := HBel.out.size; simp; omega)) hb3
  have HA3 := HA2.below hb3
  have RB3 := RB.below hb3
  clear HA1 HA2
  clear HBel hb3
  have HBel := mkHid hBN
  clear hBN
  go_wp2_with fail
  refine (PSame.same_reads (by omega) RB3 lB HA3 hcap).mono ?_
  rintro e w4 ⟨rfl, hb4⟩
  have hBN := Below.step (w := w) (by repeat' first | with_reducible exact HBel.out | with_reducible exact Below.refl _ _ | with_reducible refine Below.drew ?_ | with_reducible refine below_drewN ?_ _ | with_reducible refine Below.setCell ?_ ?_ _ | with_reducible refine Below.alloc ?_ ?_ _ | (dsimp only; omega) | (simp <;> fail) | (have := HBel.out.size; simp; omega)) hb4
  have HA4 := HA3.below hb4
  have RC4 := RC.below hb4
  clear HA3 RB3
  clear HBel hb4
  have HBel := mkHid hBN
  clear hBN
  go_wp2_with fail
  (with_reducible refine (child_yes0 H'.out hd hdh hc0 _).mono ?_)
  rintro e w' ⟨rfl, rfl⟩
  go_wp2_with fail
  (with_reducible refine (child_yes1 H'.out hd hdh hc1 _).mono ?_)
  rintro e w' ⟨rfl, rfl⟩
  go_wp2_with fail
  refine (below_list H0.out hs d0 lo1e hi1e pf1 pt1 eX ft1 b1 A cap hcap _ HA4).mono ?_
  rintro e w5 ⟨D, kD, rfl, lD, mD, RD, zD, hb5⟩
  have hBN := Below.step (w := w) (by repeat' first | with_reducible exact HBel.out | with_reducible exact Below.refl _ _ | with_reducible refine Below.drew ?_ | with_reducible refine below_drewN ?_ _ | with_reducible refine Below.setCell ?_ ?_ _ | with_reducible refine Below.alloc ?_ ?_ _ | (dsimp only; omega) | (simp <;> fail) | (have := HBel.out.size; simp; omega)) hb5
  have HA5 := HA4.below hb5
  have RC5 := RC4.below hb5
  clear HA4 RC4
  clear HBel hb5
  have HBel := mkHid hBN
  clear hBN
  go_wp2_with fail
  refine (below_list H1.out hs d1 lo2e hi2e pf2 pt2 eY ft2 b2 A cap hcap _ HA5).mono ?_
  rintro e w6 ⟨E, kE, rfl, lE, mE, RE, zE, hb6⟩
  have hBN := Below.step (w := w) (by repeat' first | with_reducible exact HBel.out | with_reducible exact Below.refl _ _ | with_reducible refine Below.drew ?_ | with_reducible refine below_drewN ?_ _ | with_reducible refine Below.setCell ?_ ?_ _ | with_reducible refine Below.alloc ?_ ?_ _ | (dsimp only; omega) | (simp <;> fail) | (have := HBel.out.size; simp; omega)) hb6
  have RC6 := RC5.below hb6
  have RD6 := RD.below hb6
  clear HA5 RC5
  clear HBel hb6
  have HBel := mkHid hBN
  clear hBN
  go_wp2_with first
    | (at_builtin; refine wpList_append_u64 (by first | rfl | simp [Region.wanted, yielded]) _ _ rfl w6.heap.size _ [] rfl (World.ownsRow_nil _ _ _ _) D kD X rfl RD6 zD (by simp; omega) (Nat.le_refl _) ?_; intro v7 w7 ho7 hb7; rw [List.nil_append] at ho7; have RE7 := RE.below hb7; have RC7 := RC6.below hb7; have hs7 := hb7.size)
    | (at_builtin; refine wpList_append_u64 (by first | rfl | simp [Region.wanted, yielded]) _ _ rfl w6.heap.size _ X rfl ho7 E kE Y rfl RE7 zE (by omega) hs7 ?_; intro v8 w8 ho8 hb8; obtain ⟨A8, k8, rfl, l8, m8, R8⟩ := Reads.of_row ho8; have hs8 := hb7.trans hb8; have RC8 := RC6.below hs8)
  have k9 := PSame.same_reads (s := X ++ Y) (a := kC) (by rw [List.length_append]; omega) (by rw [← eL]; exact RC8) (by rw [← eL]; exact lC) R8 l8
  rw [List.length_append] at k9
  refine k9.mono ?_
  rintro e w9 ⟨rfl, hb9⟩
  have HB9 := mkHid ((HBel.out.step hs8).step hb9)
  clear hb9 k9
  go_wp2_with fail
  go_ret
  exact ⟨rfl, HB9.out⟩

theorem place_one {h : Nat} {s : List Nat} (H : SetOk h s) {lo f t : Nat} (P : Place s lo f) (Q : Place s (lo + 1) t) : t ≤ f + 1 := by
  rcases Nat.lt_or_ge (f + 1) t with l | l
  · have a := P.hi f (Nat.le_refl _) (by have := Q.le; omega)
    have b := (H.2 (f + 1) (by have := Q.le; omega)).2 (by omega)
    have c := Q.lo (f + 1) l
    rw [Nat.add_sub_cancel] at b
    omega
  · exact l
theorem take_cut (s : List Nat) {f m t : Nat} (h1 : f ≤ m) (h2 : m ≤ t) : (s.drop f).take (t - f) = (s.drop f).take (m - f) ++ (s.drop m).take (t - m) := by
  rw [show t - f = (m - f) + (t - m) by omega, List.take_add, List.drop_drop, show f + (m - f) = m by omega]
theorem span_hi {h n d lo hi : Nat} (H : Node h n) (hd : dep n = d) (e1 : n * 2 ^ (h - d) = 2 ^ h + lo) (e2 : lo + 2 ^ (h - d) = hi + 1) : hi < 4294967296 := by
  have hb := dep_hi (n := n) H.2.2.1 H.2.2.2.2
  have hle := H.2.2.2.1
  rw [hd] at hb hle
  have hm : (n + 1) * 2 ^ (h - d) ≤ 2 ^ (d + 1) * 2 ^ (h - d) := Nat.mul_le_mul_right _ hb
  rw [← Nat.pow_add, show d + 1 + (h - d) = h + 1 by omega, Nat.pow_succ, Nat.add_mul, Nat.one_mul] at hm
  have hp := pow_le H.2.1
  omega
theorem walk_LeafBelow {w : World} (x : Int) (_hx : (Lit.int .i64 x).wf = true) (A : Option Addr) (s : List Nat) (cap : Nat) (hcap : s.length ≤ cap) (_hcm : cap ≤ maxLen) (hA : Reads w A s) (_hsb : ∀ j, s.getD j 0 < 18446744073709551616) (i : Int) (hi : (Lit.int .u64 i).wf = true) :
    Calls Try.prog 12 #[.int .i64 x, .slice A s.length cap, .int .u64 i] w fun e w' => e = .returned (.bool true) ∧ Below w.heap.size w w' := by
  obtain ⟨n, rfl, hn⟩ := nat_u64 hi
  by_cases hl : s.length ≤ 60
  · by_cases hh : x < 1 ∨ 32 < x
    · exact lbelow_bad A cap hl hh hn w
    · have hpos : 0 < 2 ^ x.toNat := Nat.pow_pos (by decide)
      rcases node_or (h := x) hn with N | ⟨h, rfl, N⟩
      · obtain ⟨h, rfl⟩ : ∃ k : Nat, x = (k : Int) := ⟨x.toNat, by omega⟩
        obtain ⟨last, hla⟩ : ∃ last, last + 1 = 2 ^ h := ⟨2 ^ h - 1, by have : 0 < 2 ^ h := Nat.pow_pos (by decide); omega⟩
        by_cases hs : SetOk h s
        · exact lbelow_nonode A cap hl hcap (by omega) (by omega) (mkHid hla) (mkHid hs) N hn w hA
        · exact lbelow_nosetno A cap hl (by omega) (by omega) (mkHid hla) (mkHid hs) N hn w hA
      · have h1 : 1 ≤ h := N.1
        have h2 : h ≤ 32 := N.2.1
        obtain ⟨last, hla⟩ : ∃ last, last + 1 = 2 ^ h := ⟨2 ^ h - 1, by have : 0 < 2 ^ h := Nat.pow_pos (by decide); omega⟩
        obtain ⟨d, hd⟩ : ∃ d, dep n = d := ⟨_, rfl⟩
        obtain ⟨lo, hi, e1, e2⟩ := span_ex N hd
        by_cases hs : SetOk h s
        · obtain ⟨f, pf⟩ := place_ex hs.2 lo
          obtain ⟨t, pt⟩ := place_ex hs.2 (hi + 1)
          have hpow : 0 < 2 ^ (h - d) := Nat.pow_pos (by decide)
          have hft : f ≤ t := pf.mono pt (by omega)
          have hhi := span_hi N hd e1 e2
          have hdle := N.2.2.2.1
          rw [hd] at hdle
          by_cases hdh : d = h
          · have e3 : hi = lo := by rw [hdh, Nat.sub_self] at e2; omega
            have h1L : ((s.drop f).take (t - f)).length ≤ 1 := by
              rw [List.length_take]
              have := place_one hs pf (by rw [e3] at pt; exact pt)
              omega
            exact lbelow_leaf A cap hl hcap h1 h2 (mkHid hla) (mkHid hs) N (mkHid hd) (mkHid e1) (mkHid e2) (mkHid pf) (mkHid pt) (mkHid rfl) hft hhi hdh h1L w hA
          · have hlt : d < h := by omega
            obtain ⟨N0, D0⟩ := child_node (s := 0) N (by decide) (by omega)
            obtain ⟨N1, D1⟩ := child_node (s := 1) N (by decide) (by omega)
            rw [hd] at D0 D1
            obtain ⟨lo1, hi1, a1, a2⟩ := span_ex N0 D0
            obtain ⟨lo2, hi2, b1, b2⟩ := span_ex N1 D1
            have q1 := span_hi N0 D0 a1 a2
            have q2 := span_hi N1 D1 b1 b2
            have hP : 2 ^ (h - d) = 2 * 2 ^ (h - (d + 1)) := by rw [show h - d = (h - (d + 1)) + 1 by omega, Nat.pow_succ]; omega
            have g1 : lo1 = lo := by
              have : (2 * n + 0) * 2 ^ (h - (d + 1)) = n * 2 ^ (h - d) := by rw [hP, Nat.add_zero, Nat.mul_comm 2 n, Nat.mul_assoc]
              omega
            have g2 : lo2 = hi1 + 1 := by
              have : (2 * n + 1) * 2 ^ (h - (d + 1)) = n * 2 ^ (h - d) + 2 ^ (h - (d + 1)) := by rw [hP, Nat.add_mul, Nat.one_mul, Nat.mul_comm 2 n, Nat.mul_assoc]
              omega
            have g3 : hi2 = hi := by omega
            subst g1 g2 g3
            obtain ⟨m, pm⟩ := place_ex hs.2 (hi1 + 1)
            have hfm : f ≤ m := pf.mono pm (by omega)
            have hmt : m ≤ t := pm.mono pt (by omega)
            exact lbelow_inner A cap hl hcap h1 h2 (mkHid hla) (mkHid hs) N (mkHid hd) (mkHid e1) (mkHid e2) (mkHid pf) (mkHid pt) (mkHid rfl) hft hhi hlt (mkHid rfl) (mkHid rfl) (mkHid N0) (mkHid N1) (mkHid D0) (mkHid D1) (mkHid a1) (mkHid a2) (mkHid b1) (mkHid b2) (mkHid pf) (mkHid pm) (mkHid rfl) hfm q1 (mkHid pm) (mkHid pt) (mkHid rfl) hmt q2 (take_cut s hfm hmt) (by have := hs.1; rw [List.length_take, List.length_drop]; omega) (by have := hs.1; rw [List.length_take, List.length_drop]; omega) w hA
        · exact lbelow_noset A cap hl h1 h2 (mkHid hla) (mkHid hs) N (mkHid hd) (mkHid e1) (mkHid e2) w hA
  · exact lbelow_long A cap (by omega) w
end Go.Proofs.Ytkimbkcghmelgaa
