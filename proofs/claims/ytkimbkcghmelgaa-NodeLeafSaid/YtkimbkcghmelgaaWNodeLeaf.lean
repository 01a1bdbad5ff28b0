/- The walk of NodeLeaf: the Go text answers true and writes nothing that was there. -/
import Derived.Test.YtkimbkcghmelgaaLive01
namespace Go.Proofs.Ytkimbkcghmelgaa
open Go.RowKit

set_option maxRecDepth 100000 in
set_option maxHeartbeats 2000000 in
theorem nleaf_lo {h t : Int} {i : Nat} (H : h < 1) (w : World) :
    Calls Try.prog 6 #[.int .i64 h, .int .u64 (i : Int), .int .i64 t] w fun e w' => e = .returned (.bool true) ∧ Below w.heap.size w w' := by
  skip
  go_enter Try.func6, Try.ntmps6
  go_wp2_with fail
  refine (live01_below _).mono ?_
  rintro e w1 ⟨rfl, hb1⟩
  have hBN := Below.step (w := w) (by repeat' first | with_reducible exact Below.refl _ _ | with_reducible refine Below.drew ?_ | with_reducible refine below_drewN ?_ _ | with_reducible refine Below.setCell ?_ ?_ _ | with_reducible refine Below.alloc ?_ ?_ _ | (dsimp only; omega) | (simp <;> fail) | (simp; omega)) hb1
  clear hb1
  have HBel := mkHid hBN
  clear hBN
  go_wp2_with fail
  refine (leaf_lo H _).mono ?_
  rintro e w' ⟨rfl, rfl⟩
  go_wp2_with fail
  go_ret
  exact ⟨rfl, (by repeat' first | with_reducible exact HBel.out | with_reducible exact Below.refl _ _ | with_reducible refine Below.drew ?_ | with_reducible refine below_drewN ?_ _ | with_reducible refine Below.setCell ?_ ?_ _ | with_reducible refine Below.alloc ?_ ?_ _ | (dsimp only; omega) | (simp <;> fail) | (have := HBel.out.size; simp; omega))⟩

set_option maxRecDepth 100000 in
set_option maxHeartbeats 2000000 in
theorem nleaf_hi {h t : Int} {i : Nat} (H : 32 < h) (w : World) :
    Calls Try.prog 6 #[.int .i64 h, .int .u64 (i : Int), .int .i64 t] w fun e w' => e = .returned (.bool true) ∧ Below w.heap.size w w' := by
  skip
  go_enter Try.func6, Try.ntmps6
  go_wp2_with fail
  refine (live01_below _).mono ?_
  rintro e w1 ⟨rfl, hb1⟩
  have hBN := Below.step (w := w) (by repeat' first | with_reducible exact Below.refl _ _ | with_reducible refine Below.drew ?_ | with_reducible refine below_drewN ?_ _ | with_reducible refine Below.setCell ?_ ?_ _ | with_reducible refine Below.alloc ?_ ?_ _ | (dsimp only; omega) | (simp <;> fail) | (simp; omega)) hb1
  clear hb1
  have HBel := mkHid hBN
  clear hBN
  go_wp2_with fail
  refine (leaf_hi H _).mono ?_
  rintro e w' ⟨rfl, rfl⟩
  go_wp2_with fail
  go_ret
  exact ⟨rfl, (by repeat' first | with_reducible exact HBel.out | with_reducible exact Below.refl _ _ | with_reducible refine Below.drew ?_ | with_reducible refine below_drewN ?_ _ | with_reducible refine Below.setCell ?_ ?_ _ | with_reducible refine Below.alloc ?_ ?_ _ | (dsimp only; omega) | (simp <;> fail) | (have := HBel.out.size; simp; omega))⟩

set_option maxRecDepth 100000 in
set_option maxHeartbeats 2000000 in
theorem nleaf_none {h i : Nat} {t : Int} (h1 : 1 ≤ h) (h2 : h ≤ 32) (hi : 2 ^ h ≤ i) (w : World) :
    Calls Try.prog 6 #[.int .i64 (h : Int), .int .u64 (i : Int), .int .i64 t] w fun e w' => e = .returned (.bool true) ∧ Below w.heap.size w w' := by
  have hi' := mkHid hi
  clear hi
  go_enter Try.func6, Try.ntmps6
  go_wp2_with fail
  refine (live01_below _).mono ?_
  rintro e w1 ⟨rfl, hb1⟩
  have hBN := Below.step (w := w) (by repeat' first | with_reducible exact Below.refl _ _ | with_reducible refine Below.drew ?_ | with_reducible refine below_drewN ?_ _ | with_reducible refine Below.setCell ?_ ?_ _ | with_reducible refine Below.alloc ?_ ?_ _ | (dsimp only; omega) | (simp <;> fail) | (simp; omega)) hb1
  clear hb1
  have HBel := mkHid hBN
  clear hBN
  go_wp2_with fail
  refine (leaf_none h1 h2 hi'.out _).mono ?_
  rintro e w' ⟨rfl, rfl⟩
  go_wp2_with fail
  go_ret
  exact ⟨rfl, (by repeat' first | with_reducible exact HBel.out | with_reducible exact Below.refl _ _ | with_reducible refine Below.drew ?_ | with_reducible refine below_drewN ?_ _ | with_reducible refine Below.setCell ?_ ?_ _ | with_reducible refine Below.alloc ?_ ?_ _ | (dsimp only; omega) | (simp <;> fail) | (have := HBel.out.size; simp; omega))⟩

set_option maxRecDepth 100000 in
set_option maxHeartbeats 2000000 in
theorem nleaf_low {h i n : Nat} (h1 : 1 ≤ h) (h2 : h ≤ 32) (hi : Hid (i < 2 ^ h)) (hn : Hid (2 ^ h + i = n)) (K : Hid (Node h n)) (hd : Hid (dep n = h)) (l1 : Hid (n * 2 ^ (h - h) = 2 ^ h + i)) (l2 : Hid (i + 2 ^ (h - h) = i + 1)) {t : Int} (ht : t < 0) (w : World) :
    Calls Try.prog 6 #[.int .i64 (h : Int), .int .u64 (i : Int), .int .i64 t] w fun e w' => e = .returned (.bool true) ∧ Below w.heap.size w w' := by
  have ht0 : decide (t < 0) = true := decide_eq_true ht
  go_enter Try.func6, Try.ntmps6
  go_wp2_with fail
  refine (live01_below _).mono ?_
  rintro e w1 ⟨rfl, hb1⟩
  have hBN := Below.step (w := w) (by repeat' first | with_reducible exact Below.refl _ _ | with_reducible refine Below.drew ?_ | with_reducible refine below_drewN ?_ _ | with_reducible refine Below.setCell ?_ ?_ _ | with_reducible refine Below.alloc ?_ ?_ _ | (dsimp only; omega) | (simp <;> fail) | (simp; omega)) hb1
  clear hb1
  have HBel := mkHid hBN
  clear hBN
  go_wp2_with fail
  refine (leaf_yes h1 h2 hi.out hn _).mono ?_
  rintro e w' ⟨rfl, rfl⟩
  go_wp2_with fail
  refine (leaves_yes K.out hd l1 l2 _).mono ?_
  rintro e w2 ⟨rfl, hb2⟩
  have hBN := Below.step (w := w) (by repeat' first | with_reducible exact HBel.out | with_reducible exact Below.refl _ _ | with_reducible refine Below.drew ?_ | with_reducible refine below_drewN ?_ _ | with_reducible refine Below.setCell ?_ ?_ _ | with_reducible refine Below.alloc ?_ ?_ _ | (dsimp only; omega) | (simp <;> fail) | (have := HBel.out.size; simp; omega)) hb2
  clear HBel hb2
  have HBel := mkHid hBN
  clear hBN
  go_wp2_with fail
  refine (depth_yes K.out hd _).mono ?_
  rintro e w' ⟨rfl, rfl⟩
  go_wp2_with fail
  refine (up_low K.out ht _).mono ?_
  rintro e w' ⟨rfl, rfl⟩
  go_wp2_with fail
  go_ret
  exact ⟨rfl, (by repeat' first | with_reducible exact HBel.out | with_reducible exact Below.refl _ _ | with_reducible refine Below.drew ?_ | with_reducible refine below_drewN ?_ _ | with_reducible refine Below.setCell ?_ ?_ _ | with_reducible refine Below.alloc ?_ ?_ _ | (dsimp only; omega) | (simp <;> fail) | (have := HBel.out.size; simp; omega))⟩

set_option maxRecDepth 100000 in
set_option maxHeartbeats 2000000 in
theorem nleaf_deep {h i n : Nat} (h1 : 1 ≤ h) (h2 : h ≤ 32) (hi : Hid (i < 2 ^ h)) (hn : Hid (2 ^ h + i = n)) (K : Hid (Node h n)) (hd : Hid (dep n = h)) (l1 : Hid (n * 2 ^ (h - h) = 2 ^ h + i)) (l2 : Hid (i + 2 ^ (h - h) = i + 1)) {t : Int} (ht : (h : Int) < t) (w : World) :
    Calls Try.prog 6 #[.int .i64 (h : Int), .int .u64 (i : Int), .int .i64 t] w fun e w' => e = .returned (.bool true) ∧ Below w.heap.size w w' := by
  have ht0 : decide (t < 0) = false := decide_eq_false (by omega)
  have ht1 : decide ((h : Int) < t) = true := decide_eq_true ht
  go_enter Try.func6, Try.ntmps6
  go_wp2_with fail
  refine (live01_below _).mono ?_
  rintro e w1 ⟨rfl, hb1⟩
  have hBN := Below.step (w := w) (by repeat' first | with_reducible exact Below.refl _ _ | with_reducible refine Below.drew ?_ | with_reducible refine below_drewN ?_ _ | with_reducible refine Below.setCell ?_ ?_ _ | with_reducible refine Below.alloc ?_ ?_ _ | (dsimp only; omega) | (simp <;> fail) | (simp; omega)) hb1
  clear hb1
  have HBel := mkHid hBN
  clear hBN
  go_wp2_with fail
  refine (leaf_yes h1 h2 hi.out hn _).mono ?_
  rintro e w' ⟨rfl, rfl⟩
  go_wp2_with fail
  refine (leaves_yes K.out hd l1 l2 _).mono ?_
  rintro e w2 ⟨rfl, hb2⟩
  have hBN := Below.step (w := w) (by repeat' first | with_reducible exact HBel.out | with_reducible exact Below.refl _ _ | with_reducible refine Below.drew ?_ | with_reducible refine below_drewN ?_ _ | with_reducible refine Below.setCell ?_ ?_ _ | with_reducible refine Below.alloc ?_ ?_ _ | (dsimp only; omega) | (simp <;> fail) | (have := HBel.out.size; simp; omega)) hb2
  clear HBel hb2
  have HBel := mkHid hBN
  clear hBN
  go_wp2_with fail
  refine (depth_yes K.out hd _).mono ?_
  rintro e w' ⟨rfl, rfl⟩
  go_wp2_with fail
  refine (up_deep K.out hd ht _).mono ?_
  rintro e w' ⟨rfl, rfl⟩
  go_wp2_with fail
  go_ret
  exact ⟨rfl, (by repeat' first | with_reducible exact HBel.out | with_reducible exact Below.refl _ _ | with_reducible refine Below.drew ?_ | with_reducible refine below_drewN ?_ _ | with_reducible refine Below.setCell ?_ ?_ _ | with_reducible refine Below.alloc ?_ ?_ _ | (dsimp only; omega) | (simp <;> fail) | (have := HBel.out.size; simp; omega))⟩

set_option maxRecDepth 100000 in
set_option maxHeartbeats 2000000 in
theorem nleaf_yes {h i n : Nat} (h1 : 1 ≤ h) (h2 : h ≤ 32) (hi : Hid (i < 2 ^ h)) (hn : Hid (2 ^ h + i = n)) (K : Hid (Node h n)) (hd : Hid (dep n = h)) (l1 : Hid (n * 2 ^ (h - h) = 2 ^ h + i)) (l2 : Hid (i + 2 ^ (h - h) = i + 1)) {t a lo hi2 : Nat} (ht : t ≤ h) (ha : Hid (n / 2 ^ (h - t) = a)) (L : Hid (Node h a)) (hda : Hid (dep a = t)) (m1 : Hid (a * 2 ^ (h - t) = 2 ^ h + lo)) (m2 : Hid (lo + 2 ^ (h - t) = hi2 + 1)) (hA : Hid (decide (Anc a n) = true)) (o1 : decide (lo ≤ i) = true) (o2 : decide (i ≤ hi2) = true) (w : World) :
    Calls Try.prog 6 #[.int .i64 (h : Int), .int .u64 (i : Int), .int .i64 (t : Int)] w fun e w' => e = .returned (.bool true) ∧ Below w.heap.size w w' := by
  skip
  go_enter Try.func6, Try.ntmps6
  go_wp2_with fail
  refine (live01_below _).mono ?_
  rintro e w1 ⟨rfl, hb1⟩
  have hBN := Below.step (w := w) (by repeat' first | with_reducible exact Below.refl _ _ | with_reducible refine Below.drew ?_ | with_reducible refine below_drewN ?_ _ | with_reducible refine Below.setCell ?_ ?_ _ | with_reducible refine Below.alloc ?_ ?_ _ | (dsimp only; omega) | (simp <;> fail) | (simp; omega)) hb1
  clear hb1
  have HBel := mkHid hBN
  clear hBN
  go_wp2_with fail
  refine (leaf_yes h1 h2 hi.out hn _).mono ?_
  rintro e w' ⟨rfl, rfl⟩
  go_wp2_with fail
  refine (leaves_yes K.out hd l1 l2 _).mono ?_
  rintro e w2 ⟨rfl, hb2⟩
  have hBN := Below.step (w := w) (by repeat' first | with_reducible exact HBel.out | with_reducible exact Below.refl _ _ | with_reducible refine Below.drew ?_ | with_reducible refine below_drewN ?_ _ | with_reducible refine Below.setCell ?_ ?_ _ | with_reducible refine Below.alloc ?_ ?_ _ | (dsimp only; omega) | (simp <;> fail) | (have := HBel.out.size; simp; omega)) hb2
  clear HBel hb2
  have HBel := mkHid hBN
  clear hBN
  go_wp2_with fail
  refine (depth_yes K.out hd _).mono ?_
  rintro e w' ⟨rfl, rfl⟩
  go_wp2_with fail
  refine (up_yes K.out hd ht ha _).mono ?_
  rintro e w' ⟨rfl, rfl⟩
  go_wp2_with fail
  refine (leaves_yes L.out hda m1 m2 _).mono ?_
  rintro e w3 ⟨rfl, hb3⟩
  have bS := Blk.keep (n := w2.heap.size) (t := 25) (cs := #[.int .u64 ((i : Int)), .int .u64 ((i : Int))]) (by repeat' first | with_reducible refine Blk.drew ?_ | (with_reducible refine Blk.at _ _ _ ?_; (simp <;> fail)) | with_reducible refine Blk.alloc ?_ _) hb3
  have hBN := Below.step (w := w) (by repeat' first | with_reducible exact HBel.out | with_reducible exact Below.refl _ _ | with_reducible refine Below.drew ?_ | with_reducible refine below_drewN ?_ _ | with_reducible refine Below.setCell ?_ ?_ _ | with_reducible refine Below.alloc ?_ ?_ _ | (dsimp only; omega) | (simp <;> fail) | (have := HBel.out.size; simp; omega)) hb3
  clear HBel hb3
  have cS := bS.two
  have HS := mkHid bS
  have lS := bS.lt
  clear bS
  have HBel := mkHid hBN
  clear hBN
  go_wp2_with fail
  have dTS : w2.heap.size < w3.heap.size := lS
  refine (Above_any L.out K.out hA _).mono ?_
  rintro e w' ⟨rfl, rfl⟩
  go_wp2_with fail
  go_ret
  exact ⟨rfl, (by repeat' first | with_reducible exact HBel.out | with_reducible exact Below.refl _ _ | with_reducible refine Below.drew ?_ | with_reducible refine below_drewN ?_ _ | with_reducible refine Below.setCell ?_ ?_ _ | with_reducible refine Below.alloc ?_ ?_ _ | (dsimp only; omega) | (simp <;> fail) | (have := HBel.out.size; simp; omega))⟩

theorem walk_NodeLeaf (x : Int) (_hx : (Lit.int .i64 x).wf = true) (i : Int) (hi : (Lit.int .u64 i).wf = true) (t : Int) (_ht : (Lit.int .i64 t).wf = true) (w : World) :
    Calls Try.prog 6 #[.int .i64 x, .int .u64 i, .int .i64 t] w fun e w' => e = .returned (.bool true) ∧ Below w.heap.size w w' := by
  obtain ⟨i, rfl, li⟩ := nat_u64 hi
  clear hi
  by_cases c1 : x < 1
  · exact nleaf_lo c1 w
  by_cases c2 : 32 < x
  · exact nleaf_hi c2 w
  obtain ⟨h, rfl⟩ : ∃ k : Nat, x = (k : Int) := ⟨x.toNat, by omega⟩
  have h1 : 1 ≤ h := by omega
  have h2 : h ≤ 32 := by omega
  by_cases c3 : 2 ^ h ≤ i
  · exact nleaf_none h1 h2 c3 w
  have hp := pow_le h2
  have hi : i < 2 ^ h := by omega
  have hn : 2 ^ h + i < 18446744073709551616 := by omega
  have hd : dep (2 ^ h + i) = h := dep_unique (by omega) (by rw [Nat.pow_succ]; omega) hn
  have K : Node h (2 ^ h + i) := ⟨h1, h2, by omega, by omega, hn⟩
  have l1 : (2 ^ h + i) * 2 ^ (h - h) = 2 ^ h + i := by rw [Nat.sub_self, Nat.pow_zero, Nat.mul_one]
  have l2 : i + 2 ^ (h - h) = i + 1 := by rw [Nat.sub_self, Nat.pow_zero]
  by_cases c4 : t < 0
  · exact nleaf_low h1 h2 (mkHid hi) (mkHid rfl) (mkHid K) (mkHid hd) (mkHid l1) (mkHid l2) c4 w
  by_cases c5 : (h : Int) < t
  · exact nleaf_deep h1 h2 (mkHid hi) (mkHid rfl) (mkHid K) (mkHid hd) (mkHid l1) (mkHid l2) c5 w
  obtain ⟨t, rfl⟩ : ∃ k : Nat, t = (k : Int) := ⟨t.toNat, by omega⟩
  have ht : t ≤ h := by omega
  have hda := dep_shift (n := 2 ^ h + i) (k := h - t) (by omega) hn (by omega)
  have hp1 := shift_pos (n := 2 ^ h + i) (k := h - t) (by omega) hn (by omega)
  have hA := anc_shift (n := 2 ^ h + i) (k := h - t) (by omega) hn (by omega)
  rw [hd, show h - (h - t) = t by omega] at hda
  have L : Node h ((2 ^ h + i) / 2 ^ (h - t)) := ⟨h1, h2, hp1, by omega, Nat.lt_of_le_of_lt (Nat.div_le_self _ _) hn⟩
  obtain ⟨lo, hi2, m1, m2⟩ := span_ex L hda
  have q := (anc_span L K hda hd m1 m2 l1 l2).1 hA
  exact nleaf_yes h1 h2 (mkHid hi) (mkHid rfl) (mkHid K) (mkHid hd) (mkHid l1) (mkHid l2) ht (mkHid rfl) (mkHid L) (mkHid hda) (mkHid m1) (mkHid m2) (mkHid (decide_eq_true hA)) (decide_eq_true q.1) (decide_eq_true q.2) w
end Go.Proofs.Ytkimbkcghmelgaa
