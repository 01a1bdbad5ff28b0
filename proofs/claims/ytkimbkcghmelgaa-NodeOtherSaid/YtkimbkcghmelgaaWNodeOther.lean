/- The walk of NodeOther: the Go text answers true and writes nothing that was there. -/
import Derived.Test.YtkimbkcghmelgaaLive01
namespace Go.Proofs.Ytkimbkcghmelgaa
open Go.RowKit

set_option maxRecDepth 100000 in
set_option maxHeartbeats 2000000 in
theorem nother_no {h : Int} {n : Nat} (H : NoNode h n) (hn : n < 18446744073709551616) (w : World) :
    Calls Try.prog 7 #[.int .i64 h, .int .u64 (n : Int)] w fun e w' => e = .returned (.bool true) ∧ Below w.heap.size w w' := by
  have H' := mkHid H
  clear H
  go_enter Try.func7, Try.ntmps7
  go_wp2_with fail
  refine (live01_below _).mono ?_
  rintro e w1 ⟨rfl, hb1⟩
  have hBN := Below.step (w := w) (by repeat' first | with_reducible exact Below.refl _ _ | with_reducible refine Below.drew ?_ | with_reducible refine below_drewN ?_ _ | with_reducible refine Below.setCell ?_ ?_ _ | with_reducible refine Below.alloc ?_ ?_ _ | (dsimp only; omega) | (simp <;> fail) | (simp; omega)) hb1
  clear hb1
  have HBel := mkHid hBN
  clear hBN
  go_wp2_with fail
  (with_reducible refine (other_no H'.out hn _).mono ?_)
  rintro e w' ⟨rfl, rfl⟩
  go_wp2_with fail
  go_ret
  exact ⟨rfl, (by repeat' first | with_reducible exact HBel.out | with_reducible exact Below.refl _ _ | with_reducible refine Below.drew ?_ | with_reducible refine below_drewN ?_ _ | with_reducible refine Below.setCell ?_ ?_ _ | with_reducible refine Below.alloc ?_ ?_ _ | (dsimp only; omega) | (simp <;> fail) | (have := HBel.out.size; simp; omega))⟩

set_option maxRecDepth 100000 in
set_option maxHeartbeats 2000000 in
theorem nother_root {h n : Nat} (H : Node h n) (h1 : n = 1) (w : World) :
    Calls Try.prog 7 #[.int .i64 (h : Int), .int .u64 (n : Int)] w fun e w' => e = .returned (.bool true) ∧ Below w.heap.size w w' := by
  have H' := mkHid H
  clear H
  have h1' := mkHid h1
  clear h1
  go_enter Try.func7, Try.ntmps7
  go_wp2_with fail
  refine (live01_below _).mono ?_
  rintro e w1 ⟨rfl, hb1⟩
  have hBN := Below.step (w := w) (by repeat' first | with_reducible exact Below.refl _ _ | with_reducible refine Below.drew ?_ | with_reducible refine below_drewN ?_ _ | with_reducible refine Below.setCell ?_ ?_ _ | with_reducible refine Below.alloc ?_ ?_ _ | (dsimp only; omega) | (simp <;> fail) | (simp; omega)) hb1
  clear hb1
  have HBel := mkHid hBN
  clear hBN
  go_wp2_with fail
  (with_reducible refine (other_root H'.out h1'.out _).mono ?_)
  rintro e w' ⟨rfl, rfl⟩
  go_wp2_with fail
  go_ret
  exact ⟨rfl, (by repeat' first | with_reducible exact HBel.out | with_reducible exact Below.refl _ _ | with_reducible refine Below.drew ?_ | with_reducible refine below_drewN ?_ _ | with_reducible refine Below.setCell ?_ ?_ _ | with_reducible refine Below.alloc ?_ ?_ _ | (dsimp only; omega) | (simp <;> fail) | (have := HBel.out.size; simp; omega))⟩

set_option maxRecDepth 100000 in
set_option maxHeartbeats 6000000 in
theorem nother_yes {h n r d m la ha lb hb c : Nat} (H : Node h n) (h1 : n ≠ 1) (hr : Hid (n ^^^ 1 = r)) (hr' : Hid (r ^^^ 1 = n)) (K : Hid (Node h r)) (r1 : r ≠ 1) (hne : r ≠ n) (hd : Hid (dep n = d)) (hdr : Hid (dep r = d)) (hd1 : 1 ≤ d) (hm : Hid (n / 2 ^ 1 = m)) (hx : Hid (Lib.bitLen (n ^^^ r) = 1)) (hz : Hid (n / 2 ^ (d - d) = n)) (hz' : Hid (r / 2 ^ (d - d) = r)) (mn : Hid (min d d = d)) (um : Hid (n / 2 ^ (d - (d - 1)) = m)) (a1 : Hid (n * 2 ^ (h - d) = 2 ^ h + la)) (a2 : Hid (la + 2 ^ (h - d) = ha + 1)) (b1 : Hid (r * 2 ^ (h - d) = 2 ^ h + lb)) (b2 : Hid (lb + 2 ^ (h - d) = hb + 1)) (c1 : ha = la + c) (c2 : hb = lb + c) {z : Bool} (t3 : decide (ha < lb) = z) (t4 : decide (hb < la) = !z) (bnd : ha < 8589934592) (w : World) :
    Calls Try.prog 7 #[.int .i64 (h : Int), .int .u64 (n : Int)] w fun e w' => e = .returned (.bool true) ∧ Below w.heap.size w w' := by
  have H' := mkHid H
  clear H
  have K' := K
  have e1 : ((ha : Int) - (la : Int)) = (c : Int) := by omega
  have e2 : ((hb : Int) - (lb : Int)) = (c : Int) := by omega
  have ew : IntKind.u64.wrap (c : Int) = (c : Int) := wrapN (by omega)
  have ed : IntKind.i64.wrap ((d : Int) - 1) = ((d - 1 : Nat) : Int) := by rw [show (d : Int) - 1 = ((d - 1 : Nat) : Int) by omega]; exact IntWalk.i64_in _ (by have := H'.out.2.2.2.1; have := H'.out.2.1; rw [hd.out] at *; omega)
  have ed' : (d : Int) - 1 = ((d - 1 : Nat) : Int) := by omega
  have hle : d - 1 ≤ d := by omega
  have hdb : d ≤ 32 := by have a := H'.out.2.2.2.1; have b := H'.out.2.1; rw [hd.out] at a; omega
  have hub : d - 1 ≤ 32 := by omega
  generalize d - 1 = u at *
  have f2 : ((r : Int) == (n : Int)) = false := by rw [beq_eq_false_iff_ne]; omega
  have f2' : ((r : Int) != (n : Int)) = true := by rw [bne_iff_ne]; omega
  have f2n : ((r : Nat) == (n : Nat)) = false := by rw [beq_eq_false_iff_ne]; omega
  have f2n' : ((r : Nat) != (n : Nat)) = true := by rw [bne_iff_ne]; omega
  have n1 := mkHid h1
  have n2 := mkHid r1
  clear h1 hne r1 c1 c2 bnd hd1
  cases z
  all_goals simp only [Bool.not_false, Bool.not_true] at t4
  all_goals
    go_enter Try.func7, Try.ntmps7
    go_wp2_with fail
    refine (live01_below _).mono ?_
    rintro e w1 ⟨rfl, hb1⟩
    have hBN := Below.step (w := w) (by repeat' first | with_reducible exact Below.refl _ _ | with_reducible refine Below.drew ?_ | with_reducible refine below_drewN ?_ _ | with_reducible refine Below.setCell ?_ ?_ _ | with_reducible refine Below.alloc ?_ ?_ _ | (dsimp only; omega) | (simp <;> fail) | (simp; omega)) hb1
    clear hb1
    have HBel := mkHid hBN
    clear hBN
    go_wp2_with fail
    (with_reducible refine (other_yes H'.out n1.out hr _).mono ?_)
    rintro e w' ⟨rfl, rfl⟩
    go_wp2_with fail
    (with_reducible refine (other_yes K'.out n2.out hr' _).mono ?_)
    rintro e w' ⟨rfl, rfl⟩
    go_wp2_with fail
    (with_reducible refine (depth_yes H'.out hd _).mono ?_)
    rintro e w' ⟨rfl, rfl⟩
    go_wp2_with fail
    (with_reducible refine (depth_yes K'.out hdr _).mono ?_)
    rintro e w' ⟨rfl, rfl⟩
    go_wp2_with fail
    (with_reducible refine (Meet_eq H'.out K'.out hd hdr mn hz hz' hx hm _).mono ?_)
    rintro e w' ⟨rfl, nd, rfl⟩
    go_wp2_with fail
    (with_reducible refine (up_yes H'.out hd hle um _).mono ?_)
    rintro e w' ⟨rfl, rfl⟩
    go_wp2_with fail
    refine (leaves_yes H'.out hd a1 a2 _).mono ?_
    rintro e w2 ⟨rfl, hb2⟩
    have hBN := Below.step (w := w) (by repeat' first | with_reducible exact HBel.out | with_reducible exact Below.refl _ _ | with_reducible refine Below.drew ?_ | with_reducible refine below_drewN ?_ _ | with_reducible refine Below.setCell ?_ ?_ _ | with_reducible refine Below.alloc ?_ ?_ _ | (dsimp only; omega) | (simp <;> fail) | (have := HBel.out.size; simp; omega)) hb2
    clear HBel hb2
    have HBel := mkHid hBN
    clear hBN
    go_wp2_with fail
    refine (leaves_yes K'.out hdr b1 b2 _).mono ?_
    rintro e w3 ⟨rfl, hb3⟩
    have bX := Blk.keep (n := w2.heap.size) (t := 25) (cs := #[.int .u64 ((la : Int)), .int .u64 ((ha : Int))]) (by repeat' first | with_reducible refine Blk.drew ?_ | (with_reducible refine Blk.at _ _ _ ?_; (simp <;> fail)) | with_reducible refine Blk.alloc ?_ _) hb3
    have hBN := Below.step (w := w) (by repeat' first | with_reducible exact HBel.out | with_reducible exact Below.refl _ _ | with_reducible refine Below.drew ?_ | with_reducible refine below_drewN ?_ _ | with_reducible refine Below.setCell ?_ ?_ _ | with_reducible refine Below.alloc ?_ ?_ _ | (dsimp only; omega) | (simp <;> fail) | (have := HBel.out.size; simp; omega)) hb3
    clear HBel hb3
    have cX := bX.two
    have HX := mkHid bX
    have lX := bX.lt
    clear bX
    have HBel := mkHid hBN
    clear hBN
    go_wp2_with fail
    have dYX : w2.heap.size < w3.heap.size := lX
    go_ret
    exact ⟨rfl, (by repeat' first | with_reducible exact HBel.out | with_reducible exact Below.refl _ _ | with_reducible refine Below.drew ?_ | with_reducible refine below_drewN ?_ _ | with_reducible refine Below.setCell ?_ ?_ _ | with_reducible refine Below.alloc ?_ ?_ _ | (dsimp only; omega) | (simp <;> fail) | (have := HBel.out.size; simp; omega))⟩

theorem walk_NodeOther (x : Int) (_hx : (Lit.int .i64 x).wf = true) (n : Int) (hn : (Lit.int .u64 n).wf = true) (w : World) :
    Calls Try.prog 7 #[.int .i64 x, .int .u64 n] w fun e w' => e = .returned (.bool true) ∧ Below w.heap.size w w' := by
  obtain ⟨n, rfl, ln⟩ := nat_u64 hn
  clear hn
  rcases node_or (h := x) ln with H | ⟨h, rfl, H⟩
  · exact nother_no H ln w
  by_cases h1 : n = 1
  · exact nother_root H h1 w
  obtain ⟨K, dd, d1, o1, o2⟩ := other_law H h1
  have hx := xor_one n
  have hw := xor_with n
  obtain ⟨la, ha, e1, e2⟩ := span_ex H rfl
  obtain ⟨lb, hb, e3, e4⟩ := span_ex K dd
  have hz := Nat.two_pow_pos (h - dep n)
  have bnd : ha < 8589934592 := by
    have a := dep_hi H.2.2.1 H.2.2.2.2
    have b := pow33 H.2.1
    have c : (n + 1) * 2 ^ (h - dep n) ≤ 2 ^ (dep n + 1) * 2 ^ (h - dep n) := Nat.mul_le_mul_right _ a
    have d := H.2.2.2.1
    rw [← Nat.pow_add, show dep n + 1 + (h - dep n) = h + 1 by omega, Nat.succ_mul] at c
    omega
  have hc : hb = lb + (ha - la) := by omega
  have hc' : ha = la + (ha - la) := by omega
  have hm : dep n - (dep n - 1) = 1 := by omega
  have hbit : Lib.bitLen 1 = 1 := by decide
  refine nother_yes (z := decide (ha < lb)) H h1 (mkHid rfl) (mkHid (xor_back n)) (mkHid K) o2 o1 (mkHid rfl) (mkHid dd) d1 (mkHid rfl) (mkHid (by rw [hw]; exact hbit)) (mkHid (by rw [Nat.sub_self, Nat.pow_zero, Nat.div_one])) (mkHid (by rw [Nat.sub_self, Nat.pow_zero, Nat.div_one])) (mkHid (Nat.min_self _)) (mkHid (by rw [hm])) (mkHid e1) (mkHid e2) (mkHid e3) (mkHid e4) hc' hc rfl ?_ bnd w
  have m1 := Nat.mul_le_mul_right (2 ^ (h - dep n)) (show n ^^^ 1 ≤ n ^^^ 1 by omega)
  rcases (show n ^^^ 1 = n + 1 ∨ n = (n ^^^ 1) + 1 by omega) with e | e
  · rw [e, Nat.succ_mul] at e3
    have p1 : ha < lb := by omega
    have p2 : ¬ hb < la := by omega
    simp [p1, p2]
  · have e1' : ((n ^^^ 1) + 1) * 2 ^ (h - dep n) = 2 ^ h + la := by rw [← e]; exact e1
    rw [Nat.succ_mul] at e1'
    have p1 : ¬ ha < lb := by omega
    have p2 : hb < la := by omega
    simp [p1, p2]
end Go.Proofs.Ytkimbkcghmelgaa
