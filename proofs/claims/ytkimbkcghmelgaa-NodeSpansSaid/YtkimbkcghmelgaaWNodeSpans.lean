/- The walk of NodeSpans: the Go text answers true and writes nothing that was there. -/
import Derived.Test.YtkimbkcghmelgaaLive01
namespace Go.Proofs.Ytkimbkcghmelgaa
open Go.RowKit

set_option maxRecDepth 100000 in
set_option maxHeartbeats 4000000 in
theorem walk_spans_yes {h a b p q la ha lb hb : Nat} {z y : Bool} (H : Node h a) (K : Node h b) (hp : Hid (dep a = p)) (hq : Hid (dep b = q)) (a1 : Hid (a * 2 ^ (h - p) = 2 ^ h + la)) (a2 : Hid (la + 2 ^ (h - p) = ha + 1)) (b1 : Hid (b * 2 ^ (h - q) = 2 ^ h + lb)) (b2 : Hid (lb + 2 ^ (h - q) = hb + 1)) (hz : Hid (decide (Anc a b) = z)) (hy : Hid (decide (Anc b a) = y)) {t1 t2 t3 t4 t5 : Bool} (e1 : decide (la ≤ lb) = t1) (e2 : decide (hb ≤ ha) = t2) (e3 : decide (ha < lb) = t3) (e4 : decide (hb < la) = t4) (e5 : ((a : Int) == (b : Int)) = t5) (e6 : decide (la ≤ ha) = true) (hv : Hid ((z == (t1 && t2)) = true ∧ ((t3 || t4) == (!z && !y)) = true ∧ ((z && y) == t5) = true)) (w : World) :
    Calls Try.prog 3 #[.int .i64 (h : Int), .int .u64 (a : Int), .int .u64 (b : Int)] w fun e w' => e = .returned (.bool true) ∧ Below w.heap.size w w' := by
  have H' := mkHid H
  have K' := mkHid K
  clear H K
  obtain ⟨v1, v2, v3⟩ := hv.out
  clear hv
  cases t1 <;> cases t2 <;> cases t3 <;> cases t4 <;> cases t5 <;> cases z <;> cases y <;> (first | (exfalso; revert v1 v2 v3; decide) | skip)
  all_goals clear v1 v2 v3
  all_goals (first | (exfalso; simp only [decide_eq_true_eq, decide_eq_false_iff_not] at e1 e2 e3 e4; omega) | skip)
  all_goals
    go_enter Try.func3, Try.ntmps3
    go_wp2_with fail
    refine (live01_below _).mono ?_
    rintro e w1 ⟨rfl, hb1⟩
    have hBN := Below.step (w := w) (by repeat' first | with_reducible exact Below.refl _ _ | with_reducible refine Below.drew ?_ | with_reducible refine below_drewN ?_ _ | with_reducible refine Below.setCell ?_ ?_ _ | with_reducible refine Below.alloc ?_ ?_ _ | (dsimp only; omega) | (simp <;> fail) | (simp; omega)) hb1
    clear hb1
    have HBel := mkHid hBN
    clear hBN
    go_wp2_with fail
    refine (leaves_yes H'.out hp a1 a2 _).mono ?_
    rintro e w2 ⟨rfl, hb2⟩
    have hBN := Below.step (w := w) (by repeat' first | with_reducible exact HBel.out | with_reducible exact Below.refl _ _ | with_reducible refine Below.drew ?_ | with_reducible refine below_drewN ?_ _ | with_reducible refine Below.setCell ?_ ?_ _ | with_reducible refine Below.alloc ?_ ?_ _ | (dsimp only; omega) | (simp <;> fail) | (have := HBel.out.size; simp; omega)) hb2
    clear HBel hb2
    have HBel := mkHid hBN
    clear hBN
    go_wp2_with fail
    refine (leaves_yes K'.out hq b1 b2 _).mono ?_
    rintro e w3 ⟨rfl, hb3⟩
    have bX := Blk.keep (n := w2.heap.size) (t := 25) (cs := #[.int .u64 ((la : Int)), .int .u64 ((ha : Int))]) (by repeat' first | with_reducible refine Blk.drew ?_ | (with_reducible refine Blk.at _ _ _ ?_; (simp <;> fail)) | with_reducible refine Blk.alloc ?_ _) hb3
    have hBN := Below.step (w := w) (by repeat' first | with_reducible exact HBel.out | with_reducible exact Below.refl _ _ | with_reducible refine Below.drew ?_ | with_reducible refine below_drewN ?_ _ | with_reducible refine Below.setCell ?_ ?_ _ | with_reducible refine Below.alloc ?_ ?_ _ | (dsimp only; omega) | (simp <;> fail) | (have := HBel.out.size; simp; omega)) hb3
    clear HBel hb3
    have cX := bX.two
    have HX := mkHid bX
    have lX := bX.lt
    clear bX
    have HBel := mkHid hBN
    clear hBN
    go_wp2_with fail
    have dYX : w2.heap.size < w3.heap.size := lX
    refine (Above_any H'.out K'.out hz _).mono ?_
    rintro e w' ⟨rfl, rfl⟩
    go_wp2_with fail
    refine (Above_any K'.out H'.out hy _).mono ?_
    rintro e w' ⟨rfl, rfl⟩
    go_wp2_with fail
    go_ret
    exact ⟨rfl, (by repeat' first | with_reducible exact HBel.out | with_reducible exact Below.refl _ _ | with_reducible refine Below.drew ?_ | with_reducible refine below_drewN ?_ _ | with_reducible refine Below.setCell ?_ ?_ _ | with_reducible refine Below.alloc ?_ ?_ _ | (dsimp only; omega) | (simp <;> fail) | (have := HBel.out.size; simp; omega))⟩

set_option maxRecDepth 100000 in
set_option maxHeartbeats 2000000 in
theorem spans_nn {h : Int} {a b : Nat} (H : NoNode h a) (ha : a < 18446744073709551616) (K : NoNode h b) (hb : b < 18446744073709551616) (w : World) :
    Calls Try.prog 3 #[.int .i64 h, .int .u64 (a : Int), .int .u64 (b : Int)] w fun e w' => e = .returned (.bool true) ∧ Below w.heap.size w w' := by
  have H' := mkHid H
  have K' := mkHid K
  clear H K
  go_enter Try.func3, Try.ntmps3
  go_wp2_with fail
  refine (live01_below _).mono ?_
  rintro e w1 ⟨rfl, hb1⟩
  have hBN := Below.step (w := w) (by repeat' first | with_reducible exact Below.refl _ _ | with_reducible refine Below.drew ?_ | with_reducible refine below_drewN ?_ _ | with_reducible refine Below.setCell ?_ ?_ _ | with_reducible refine Below.alloc ?_ ?_ _ | (dsimp only; omega) | (simp <;> fail) | (simp; omega)) hb1
  clear hb1
  have HBel := mkHid hBN
  clear hBN
  go_wp2_with fail
  refine (leaves_no H'.out ha _).mono ?_
  rintro e w2 ⟨rfl, hb2⟩
  have hBN := Below.step (w := w) (by repeat' first | with_reducible exact HBel.out | with_reducible exact Below.refl _ _ | with_reducible refine Below.drew ?_ | with_reducible refine below_drewN ?_ _ | with_reducible refine Below.setCell ?_ ?_ _ | with_reducible refine Below.alloc ?_ ?_ _ | (dsimp only; omega) | (simp <;> fail) | (have := HBel.out.size; simp; omega)) hb2
  clear HBel hb2
  have HBel := mkHid hBN
  clear hBN
  go_wp2_with fail
  refine (leaves_no K'.out hb _).mono ?_
  rintro e w3 ⟨rfl, hb3⟩
  have bX := Blk.keep (n := w2.heap.size) (t := 25) (cs := #[.int .u64 (0), .int .u64 (0)]) (by repeat' first | with_reducible refine Blk.drew ?_ | (with_reducible refine Blk.at _ _ _ ?_; (simp <;> fail)) | with_reducible refine Blk.alloc ?_ _) hb3
  have hBN := Below.step (w := w) (by repeat' first | with_reducible exact HBel.out | with_reducible exact Below.refl _ _ | with_reducible refine Below.drew ?_ | with_reducible refine below_drewN ?_ _ | with_reducible refine Below.setCell ?_ ?_ _ | with_reducible refine Below.alloc ?_ ?_ _ | (dsimp only; omega) | (simp <;> fail) | (have := HBel.out.size; simp; omega)) hb3
  clear HBel hb3
  have cX := bX.two
  have HX := mkHid bX
  have lX := bX.lt
  clear bX
  have HBel := mkHid hBN
  clear hBN
  go_wp2_with fail
  have dYX : w2.heap.size < w3.heap.size := lX
  refine (Above_no1 H'.out ha _).mono ?_
  rintro e w' ⟨rfl, rfl⟩
  go_wp2_with fail
  refine (Above_no1 K'.out hb _).mono ?_
  rintro e w' ⟨rfl, rfl⟩
  go_wp2_with fail
  go_ret
  exact ⟨rfl, (by repeat' first | with_reducible exact HBel.out | with_reducible exact Below.refl _ _ | with_reducible refine Below.drew ?_ | with_reducible refine below_drewN ?_ _ | with_reducible refine Below.setCell ?_ ?_ _ | with_reducible refine Below.alloc ?_ ?_ _ | (dsimp only; omega) | (simp <;> fail) | (have := HBel.out.size; simp; omega))⟩

set_option maxRecDepth 100000 in
set_option maxHeartbeats 2000000 in
theorem spans_ny {h a b d lo hi : Nat} (H : NoNode h a) (ha : a < 18446744073709551616) (K : Node h b) (hd : Hid (dep b = d)) (hlo : Hid (b * 2 ^ (h - d) = 2 ^ h + lo)) (hhi : Hid (lo + 2 ^ (h - d) = hi + 1)) (w : World) :
    Calls Try.prog 3 #[.int .i64 (h : Int), .int .u64 (a : Int), .int .u64 (b : Int)] w fun e w' => e = .returned (.bool true) ∧ Below w.heap.size w w' := by
  have H' := mkHid H
  have K' := mkHid K
  clear H K
  go_enter Try.func3, Try.ntmps3
  go_wp2_with fail
  refine (live01_below _).mono ?_
  rintro e w1 ⟨rfl, hb1⟩
  have hBN := Below.step (w := w) (by repeat' first | with_reducible exact Below.refl _ _ | with_reducible refine Below.drew ?_ | with_reducible refine below_drewN ?_ _ | with_reducible refine Below.setCell ?_ ?_ _ | with_reducible refine Below.alloc ?_ ?_ _ | (dsimp only; omega) | (simp <;> fail) | (simp; omega)) hb1
  clear hb1
  have HBel := mkHid hBN
  clear hBN
  go_wp2_with fail
  refine (leaves_no H'.out ha _).mono ?_
  rintro e w2 ⟨rfl, hb2⟩
  have hBN := Below.step (w := w) (by repeat' first | with_reducible exact HBel.out | with_reducible exact Below.refl _ _ | with_reducible refine Below.drew ?_ | with_reducible refine below_drewN ?_ _ | with_reducible refine Below.setCell ?_ ?_ _ | with_reducible refine Below.alloc ?_ ?_ _ | (dsimp only; omega) | (simp <;> fail) | (have := HBel.out.size; simp; omega)) hb2
  clear HBel hb2
  have HBel := mkHid hBN
  clear hBN
  go_wp2_with fail
  refine (leaves_yes K'.out hd hlo hhi _).mono ?_
  rintro e w3 ⟨rfl, hb3⟩
  have bX := Blk.keep (n := w2.heap.size) (t := 25) (cs := #[.int .u64 (0), .int .u64 (0)]) (by repeat' first | with_reducible refine Blk.drew ?_ | (with_reducible refine Blk.at _ _ _ ?_; (simp <;> fail)) | with_reducible refine Blk.alloc ?_ _) hb3
  have hBN := Below.step (w := w) (by repeat' first | with_reducible exact HBel.out | with_reducible exact Below.refl _ _ | with_reducible refine Below.drew ?_ | with_reducible refine below_drewN ?_ _ | with_reducible refine Below.setCell ?_ ?_ _ | with_reducible refine Below.alloc ?_ ?_ _ | (dsimp only; omega) | (simp <;> fail) | (have := HBel.out.size; simp; omega)) hb3
  clear HBel hb3
  have cX := bX.two
  have HX := mkHid bX
  have lX := bX.lt
  clear bX
  have HBel := mkHid hBN
  clear hBN
  go_wp2_with fail
  have dYX : w2.heap.size < w3.heap.size := lX
  refine (Above_no1 H'.out ha _).mono ?_
  rintro e w' ⟨rfl, rfl⟩
  go_wp2_with fail
  refine (Above_no2 K'.out H'.out ha _).mono ?_
  rintro e w' ⟨rfl, rfl⟩
  go_wp2_with fail
  go_ret
  exact ⟨rfl, (by repeat' first | with_reducible exact HBel.out | with_reducible exact Below.refl _ _ | with_reducible refine Below.drew ?_ | with_reducible refine below_drewN ?_ _ | with_reducible refine Below.setCell ?_ ?_ _ | with_reducible refine Below.alloc ?_ ?_ _ | (dsimp only; omega) | (simp <;> fail) | (have := HBel.out.size; simp; omega))⟩

set_option maxRecDepth 100000 in
set_option maxHeartbeats 2000000 in
theorem spans_yn {h a b d lo hi : Nat} (H : Node h a) (K : NoNode h b) (hb : b < 18446744073709551616) (hd : Hid (dep a = d)) (hlo : Hid (a * 2 ^ (h - d) = 2 ^ h + lo)) (hhi : Hid (lo + 2 ^ (h - d) = hi + 1)) (w : World) :
    Calls Try.prog 3 #[.int .i64 (h : Int), .int .u64 (a : Int), .int .u64 (b : Int)] w fun e w' => e = .returned (.bool true) ∧ Below w.heap.size w w' := by
  have H' := mkHid H
  have K' := mkHid K
  clear H K
  go_enter Try.func3, Try.ntmps3
  go_wp2_with fail
  refine (live01_below _).mono ?_
  rintro e w1 ⟨rfl, hb1⟩
  have hBN := Below.step (w := w) (by repeat' first | with_reducible exact Below.refl _ _ | with_reducible refine Below.drew ?_ | with_reducible refine below_drewN ?_ _ | with_reducible refine Below.setCell ?_ ?_ _ | with_reducible refine Below.alloc ?_ ?_ _ | (dsimp only; omega) | (simp <;> fail) | (simp; omega)) hb1
  clear hb1
  have HBel := mkHid hBN
  clear hBN
  go_wp2_with fail
  refine (leaves_yes H'.out hd hlo hhi _).mono ?_
  rintro e w2 ⟨rfl, hb2⟩
  have hBN := Below.step (w := w) (by repeat' first | with_reducible exact HBel.out | with_reducible exact Below.refl _ _ | with_reducible refine Below.drew ?_ | with_reducible refine below_drewN ?_ _ | with_reducible refine Below.setCell ?_ ?_ _ | with_reducible refine Below.alloc ?_ ?_ _ | (dsimp only; omega) | (simp <;> fail) | (have := HBel.out.size; simp; omega)) hb2
  clear HBel hb2
  have HBel := mkHid hBN
  clear hBN
  go_wp2_with fail
  refine (leaves_no K'.out hb _).mono ?_
  rintro e w3 ⟨rfl, hb3⟩
  have bX := Blk.keep (n := w2.heap.size) (t := 25) (cs := #[.int .u64 ((lo : Int)), .int .u64 ((hi : Int))]) (by repeat' first | with_reducible refine Blk.drew ?_ | (with_reducible refine Blk.at _ _ _ ?_; (simp <;> fail)) | with_reducible refine Blk.alloc ?_ _) hb3
  have hBN := Below.step (w := w) (by repeat' first | with_reducible exact HBel.out | with_reducible exact Below.refl _ _ | with_reducible refine Below.drew ?_ | with_reducible refine below_drewN ?_ _ | with_reducible refine Below.setCell ?_ ?_ _ | with_reducible refine Below.alloc ?_ ?_ _ | (dsimp only; omega) | (simp <;> fail) | (have := HBel.out.size; simp; omega)) hb3
  clear HBel hb3
  have cX := bX.two
  have HX := mkHid bX
  have lX := bX.lt
  clear bX
  have HBel := mkHid hBN
  clear hBN
  go_wp2_with fail
  have dYX : w2.heap.size < w3.heap.size := lX
  refine (Above_no2 H'.out K'.out hb _).mono ?_
  rintro e w' ⟨rfl, rfl⟩
  go_wp2_with fail
  refine (Above_no1 K'.out hb _).mono ?_
  rintro e w' ⟨rfl, rfl⟩
  go_wp2_with fail
  go_ret
  exact ⟨rfl, (by repeat' first | with_reducible exact HBel.out | with_reducible exact Below.refl _ _ | with_reducible refine Below.drew ?_ | with_reducible refine below_drewN ?_ _ | with_reducible refine Below.setCell ?_ ?_ _ | with_reducible refine Below.alloc ?_ ?_ _ | (dsimp only; omega) | (simp <;> fail) | (have := HBel.out.size; simp; omega))⟩

theorem bool_of (p : Prop) [Decidable p] : ∃ b, decide p = b := ⟨_, rfl⟩
theorem walk_NodeSpans (x : Int) (hx : (Lit.int .i64 x).wf = true) (a : Int) (ha : (Lit.int .u64 a).wf = true) (b : Int) (hb : (Lit.int .u64 b).wf = true) (w : World) :
    Calls Try.prog 3 #[.int .i64 x, .int .u64 a, .int .u64 b] w fun e w' => e = .returned (.bool true) ∧ Below w.heap.size w w' := by
  obtain ⟨a, rfl, la⟩ := nat_u64 ha
  obtain ⟨b, rfl, lb⟩ := nat_u64 hb
  rcases node_or (h := x) la with H | ⟨h, rfl, H⟩
  · rcases node_or (h := x) lb with K | ⟨h, rfl, K⟩
    · exact spans_nn H la K lb w
    · obtain ⟨lo, hi, e1, e2⟩ := span_ex K rfl
      exact spans_ny H la K (mkHid rfl) (mkHid e1) (mkHid e2) w
  · obtain ⟨l1, h1, e1, e2⟩ := span_ex H rfl
    rcases node_or (h := (h : Int)) lb with K | ⟨h', he, K⟩
    · exact spans_yn H K lb (mkHid rfl) (mkHid e1) (mkHid e2) w
    · obtain rfl : h = h' := by omega
      obtain ⟨l2, h2, e3, e4⟩ := span_ex K rfl
      obtain ⟨s1, s2, s3, s4⟩ := spans_law H K rfl rfl e1 e2 e3 e4
      have s5 := anc_span H K rfl rfl e1 e2 e3 e4
      have s6 := anc_span K H rfl rfl e3 e4 e1 e2
      refine walk_spans_yes H K (mkHid rfl) (mkHid rfl) (mkHid e1) (mkHid e2) (mkHid e3) (mkHid e4) (mkHid rfl) (mkHid rfl) rfl rfl rfl rfl rfl (decide_eq_true s3) (mkHid ?_) w
      have q5 : ((a : Int) == (b : Int)) = decide (Anc a b ∧ Anc b a) := by
        rw [Bool.eq_iff_iff, beq_iff_eq, decide_eq_true_eq, s2]; omega
      rw [q5]
      by_cases A : Anc a b <;> by_cases B : Anc b a <;> by_cases p1 : l1 ≤ l2 <;> by_cases p2 : h2 ≤ h1 <;> by_cases p3 : h1 < l2 <;> by_cases p4 : h2 < l1 <;> simp [A, B, p1, p2, p3, p4] at * <;> omega
end Go.Proofs.Ytkimbkcghmelgaa
