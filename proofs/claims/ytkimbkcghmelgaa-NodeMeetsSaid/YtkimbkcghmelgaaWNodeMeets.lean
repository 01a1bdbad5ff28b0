/- The walk of NodeMeets: the Go text answers true and writes nothing that was there. -/
import Derived.Test.YtkimbkcghmelgaaNodeM
namespace Go.Proofs.Ytkimbkcghmelgaa
open Go.RowKit

set_option maxRecDepth 100000 in
set_option maxHeartbeats 2000000 in
theorem nmeets_no1 {h : Int} {a b : Nat} (H : NoNode h a) (hn : a < 18446744073709551616) (w : World) :
    Calls Try.prog 4 #[.int .i64 h, .int .u64 (a : Int), .int .u64 (b : Int)] w fun e w' => e = .returned (.bool true) ∧ Below w.heap.size w w' := by
  have H' := mkHid H
  clear H
  go_enter Try.func4, Try.ntmps4
  go_wp2_with fail
  refine (live01_below _).mono ?_
  rintro e w1 ⟨rfl, hb1⟩
  have hBN := Below.step (w := w) (by repeat' first | with_reducible exact Below.refl _ _ | with_reducible refine Below.drew ?_ | with_reducible refine below_drewN ?_ _ | with_reducible refine Below.setCell ?_ ?_ _ | with_reducible refine Below.alloc ?_ ?_ _ | (dsimp only; omega) | (simp <;> fail) | (simp; omega)) hb1
  clear hb1
  have HBel := mkHid hBN
  clear hBN
  go_wp2_with fail
  (with_reducible refine (Meet_no1 H'.out hn _).mono ?_)
  rintro e w' ⟨rfl, rfl⟩
  go_wp2_with fail
  go_ret
  exact ⟨rfl, (by repeat' first | with_reducible exact HBel.out | with_reducible exact Below.refl _ _ | with_reducible refine Below.drew ?_ | with_reducible refine below_drewN ?_ _ | with_reducible refine Below.setCell ?_ ?_ _ | with_reducible refine Below.alloc ?_ ?_ _ | (dsimp only; omega) | (simp <;> fail) | (have := HBel.out.size; simp; omega))⟩

set_option maxRecDepth 100000 in
set_option maxHeartbeats 2000000 in
theorem nmeets_no2 {h a b : Nat} (H : Node h a) (K : NoNode h b) (hn : b < 18446744073709551616) (w : World) :
    Calls Try.prog 4 #[.int .i64 (h : Int), .int .u64 (a : Int), .int .u64 (b : Int)] w fun e w' => e = .returned (.bool true) ∧ Below w.heap.size w w' := by
  have H' := mkHid H
  clear H
  have K' := mkHid K
  clear K
  go_enter Try.func4, Try.ntmps4
  go_wp2_with fail
  refine (live01_below _).mono ?_
  rintro e w1 ⟨rfl, hb1⟩
  have hBN := Below.step (w := w) (by repeat' first | with_reducible exact Below.refl _ _ | with_reducible refine Below.drew ?_ | with_reducible refine below_drewN ?_ _ | with_reducible refine Below.setCell ?_ ?_ _ | with_reducible refine Below.alloc ?_ ?_ _ | (dsimp only; omega) | (simp <;> fail) | (simp; omega)) hb1
  clear hb1
  have HBel := mkHid hBN
  clear hBN
  go_wp2_with fail
  (with_reducible refine (Meet_no2 H'.out K'.out hn _).mono ?_)
  rintro e w' ⟨rfl, rfl⟩
  go_wp2_with fail
  go_ret
  exact ⟨rfl, (by repeat' first | with_reducible exact HBel.out | with_reducible exact Below.refl _ _ | with_reducible refine Below.drew ?_ | with_reducible refine below_drewN ?_ _ | with_reducible refine Below.setCell ?_ ?_ _ | with_reducible refine Below.alloc ?_ ?_ _ | (dsimp only; omega) | (simp <;> fail) | (have := HBel.out.size; simp; omega))⟩

set_option maxRecDepth 100000 in
set_option maxHeartbeats 6000000 in
theorem nmeets_yes {h a b m dm : Nat} {z : Bool} (H : Hid (Node h a)) (K : Hid (Node h b)) (M : Hid (Node h m)) (hm : Hid (meet a b = m)) (hm' : Hid (meet b a = m)) (hd : Hid (dep m = dm)) (hle : dm ≤ h) (m1 : Hid (decide (Anc m a) = true)) (m2 : Hid (decide (Anc m b) = true)) (hz : Hid (decide (Anc a b) = z)) (hza : ((m : Int) == (a : Int)) = z) (hc : Hid (∀ s, s ≤ 1 → dm < h → Node h (2 * m + s) ∧ ¬ (Anc (2 * m + s) a ∧ Anc (2 * m + s) b))) (w : World) :
    Calls Try.prog 4 #[.int .i64 (h : Int), .int .u64 (a : Int), .int .u64 (b : Int)] w fun e w' => e = .returned (.bool true) ∧ Below w.heap.size w w' := by
  skip
  go_enter Try.func4, Try.ntmps4
  go_wp2_with fail
  refine (live01_below _).mono ?_
  rintro e w1 ⟨rfl, hb1⟩
  have hBN := Below.step (w := w) (by repeat' first | with_reducible exact Below.refl _ _ | with_reducible refine Below.drew ?_ | with_reducible refine below_drewN ?_ _ | with_reducible refine Below.setCell ?_ ?_ _ | with_reducible refine Below.alloc ?_ ?_ _ | (dsimp only; omega) | (simp <;> fail) | (simp; omega)) hb1
  clear hb1
  have HBel := mkHid hBN
  clear hBN
  go_wp2_with fail
  (with_reducible refine (Meet_any H.out K.out hm _).mono ?_)
  rintro e w' ⟨rfl, nd, rfl⟩
  go_wp2_with fail
  (with_reducible refine (Meet_any K.out H.out hm' _).mono ?_)
  rintro e w' ⟨rfl, nd, rfl⟩
  go_wp2_with fail
  (with_reducible refine (Above_any M.out H.out m1 _).mono ?_)
  rintro e w' ⟨rfl, rfl⟩
  go_wp2_with fail
  (with_reducible refine (Above_any M.out K.out m2 _).mono ?_)
  rintro e w' ⟨rfl, rfl⟩
  go_wp2_with fail
  go_loop [84] (fun i => ∃ k : Nat, k ≤ 2 ∧ i = .int .i64 (k : Int)) (fun i => 2 - (intOf i).toNat)
  case atStart => exact ⟨0, by omega, rfl⟩
  case round =>
    obtain ⟨k, hk, rfl⟩ := hrel
    by_cases hlt : k < 2
    · have hs : k ≤ 1 := by omega
      by_cases hdm : dm < h
      · obtain ⟨C, hn⟩ := hc.out k hs hdm
        have C' := mkHid C
        clear C
        obtain ⟨c, hcc⟩ : ∃ c, Hid (2 * m + k = c) := ⟨_, mkHid rfl⟩
        obtain ⟨y1, hy1⟩ : ∃ y, Hid (decide (Anc c a) = y) := ⟨_, mkHid rfl⟩
        obtain ⟨y2, hy2⟩ : ∃ y, Hid (decide (Anc c b) = y) := ⟨_, mkHid rfl⟩
        have hC : Hid (Node h c) := mkHid (by rw [← hcc.out]; exact C'.out)
        rw [hcc.out] at hn
        have hyy : (y1 && y2) = false := by
          rw [← hy1.out, ← hy2.out]
          rw [Bool.and_eq_false_iff, decide_eq_false_iff_not, decide_eq_false_iff_not]
          by_cases q : Anc c a
          · exact .inr fun r => hn ⟨q, r⟩
          · exact .inl q
        clear hn C'
        cases y1 <;> cases y2
        case true.true => cases hyy
        all_goals
          clear hyy
          go_wp2_with fail
          (with_reducible refine (child_yes M.out hd hdm hs hcc _).mono ?_)
          rintro e w' ⟨rfl, rfl⟩
          go_wp2_with fail
          (with_reducible refine (Above_any hC.out H.out hy1 _).mono ?_)
          rintro e w' ⟨rfl, rfl⟩
          go_wp2_with fail
          (with_reducible refine (Above_any hC.out K.out hy2 _).mono ?_)
          rintro e w' ⟨rfl, rfl⟩
          go_wp2_with fail
          go_round
          case rel => exact ⟨k + 1, by omega, by go_num⟩
          case measure => simp [intOf]; omega
      · have hdh : dm = h := by omega
        have hdh' := mkHid hdh
        clear hdh
        go_wp2_with fail
        (with_reducible refine (child_none M.out hd hdh'.out hs _).mono ?_)
        rintro e w' ⟨rfl, rfl⟩
        go_wp2_with fail
        go_round
        case rel => exact ⟨k + 1, by omega, by go_num⟩
        case measure => simp [intOf]; omega
    · obtain rfl : k = 2 := by omega
      go_wp2_with fail
      (with_reducible refine (Above_any H.out K.out hz _).mono ?_)
      rintro e w' ⟨rfl, rfl⟩
      go_wp2_with fail
      go_ret
      exact ⟨by simp, (by repeat' first | with_reducible exact HBel.out | with_reducible exact Below.refl _ _ | with_reducible refine Below.drew ?_ | with_reducible refine below_drewN ?_ _ | with_reducible refine Below.setCell ?_ ?_ _ | with_reducible refine Below.alloc ?_ ?_ _ | (dsimp only; omega) | (simp <;> fail) | (have := HBel.out.size; simp; omega))⟩

theorem walk_NodeMeets (x : Int) (_hx : (Lit.int .i64 x).wf = true) (a : Int) (ha : (Lit.int .u64 a).wf = true) (b : Int) (hb : (Lit.int .u64 b).wf = true) (w : World) :
    Calls Try.prog 4 #[.int .i64 x, .int .u64 a, .int .u64 b] w fun e w' => e = .returned (.bool true) ∧ Below w.heap.size w w' := by
  obtain ⟨a, rfl, la⟩ := nat_u64 ha
  obtain ⟨b, rfl, lb⟩ := nat_u64 hb
  clear ha hb
  rcases node_or (h := x) la with H | ⟨h, rfl, H⟩
  · exact nmeets_no1 H la w
  rcases node_or (h := (h : Int)) lb with K | ⟨h', he, K⟩
  · exact nmeets_no2 H K lb w
  obtain rfl : h = h' := by omega
  obtain ⟨p1, p2, p3, p4, p5⟩ := meet_all H.2.2.1 la K.2.2.1 lb
  have M := p3.node H p1
  have hma := meet_anc H.2.2.1 la K.2.2.1 lb
  have e1 : (meet a b == a) = decide (Anc a b) := by rw [Bool.eq_iff_iff, beq_iff_eq, decide_eq_true_eq, hma]
  have e2 : (((meet a b : Nat) : Int) == (a : Int)) = decide (Anc a b) := by rw [← e1, Bool.eq_iff_iff, beq_iff_eq, beq_iff_eq]; omega
  refine nmeets_yes H K M (mkHid rfl) (mkHid (meet_comm H.2.2.1 la K.2.2.1 lb)) (mkHid rfl) M.2.2.2.1 (mkHid (decide_eq_true p3)) (mkHid (decide_eq_true p4)) (mkHid rfl) e2 (mkHid fun s hs hd => ?_) w
  obtain ⟨q1, q2⟩ := child_node M hs hd
  refine ⟨q1, fun ⟨r1, r2⟩ => ?_⟩
  have := (p5 _ r1 r2).1
  omega
end Go.Proofs.Ytkimbkcghmelgaa
