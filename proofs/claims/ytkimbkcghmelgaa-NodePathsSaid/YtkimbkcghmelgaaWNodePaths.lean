/- The walk of NodePaths: the Go text answers true and writes nothing that was there. -/
import Derived.Test.YtkimbkcghmelgaaPathN
namespace Go.Proofs.Ytkimbkcghmelgaa
open Go.RowKit Go.Proofs.YtkimbkcghmelgaaW.PrintWords

theorem pathL_length (b m : Nat) : (pathL b m).length = m := by simp [pathL]
theorem pathL_getD (b m j : Nat) (h : j < m) : (pathL b m).getD j 0 = ((b / 2 ^ (m - 1 - j) % 2 : Nat) : Int) := by
  rw [List.getD_eq_getElem?_getD]
  simp [pathL, List.getElem?_map, List.getElem?_range h]
theorem path_step {h b p q m j y z s : Nat} (K : Node h b) (hq : dep b = q) (hlt : j < m) (hmq : m + p = q) (hy : b / 2 ^ (m - j) = y) (hz : b / 2 ^ (m - 1 - j) = z) (hs : z % 2 = s) :
    Node h y ∧ dep y = p + j ∧ 2 * y + s = z ∧ (Node h z ∧ z ≠ 1) ∧ b / 2 ^ (q - (p + j + 1)) = z ∧ 2 * y + (1 - s) = z ^^^ 1 := by
  have b1 := K.2.2.1
  have b2 := K.2.2.2.2
  have ay := anc_shift (k := m - j) b1 b2 (by omega)
  have az := anc_shift (k := m - 1 - j) b1 b2 (by omega)
  have py := shift_pos (k := m - j) b1 b2 (by omega)
  have pz := shift_pos (k := m - 1 - j) b1 b2 (by omega)
  have dy := dep_shift (k := m - j) b1 b2 (by omega)
  rw [hy] at ay py dy
  rw [hz] at az pz
  have e : z / 2 = y := by rw [← hz, ← hy, Nat.div_div_eq_div_mul, ← Nat.pow_succ, show (m - 1 - j).succ = m - j by omega]
  refine ⟨ay.node K py, by omega, by omega, ⟨az.node K pz, by omega⟩, by rw [show q - (p + j + 1) = m - 1 - j by omega]; exact hz, ?_⟩
  rw [xor_one]; omega

set_option maxRecDepth 100000 in
set_option maxHeartbeats 2000000 in
theorem npaths_no1 {h : Int} {a b : Nat} (H : NoNode h a) (hn : a < 18446744073709551616) (w : World) :
    Calls Try.prog 10 #[.int .i64 h, .int .u64 (a : Int), .int .u64 (b : Int)] w fun e w' => e = .returned (.bool true) ∧ Below w.heap.size w w' := by
  have H' := mkHid H
  clear H
  go_enter Try.func10, Try.ntmps10
  go_wp2_with fail
  refine (live01_below _).mono ?_
  rintro e w1 ⟨rfl, hb1⟩
  have hBN := Below.step (w := w) (by repeat' first | with_reducible exact Below.refl _ _ | with_reducible refine Below.drew ?_ | with_reducible refine below_drewN ?_ _ | with_reducible refine Below.setCell ?_ ?_ _ | with_reducible refine Below.alloc ?_ ?_ _ | (dsimp only; omega) | (simp <;> fail) | (simp; omega)) hb1
  clear hb1
  have HBel := mkHid hBN
  clear hBN
  go_wp2_with fail
  (with_reducible refine (path_no1 H'.out hn _).mono ?_)
  rintro e w' ⟨rfl, rfl⟩
  go_wp2_with fail
  go_ret
  exact ⟨rfl, (by repeat' first | with_reducible exact HBel.out | with_reducible exact Below.refl _ _ | with_reducible refine Below.drew ?_ | with_reducible refine below_drewN ?_ _ | with_reducible refine Below.setCell ?_ ?_ _ | with_reducible refine Below.alloc ?_ ?_ _ | (dsimp only; omega) | (simp <;> fail) | (have := HBel.out.size; simp; omega))⟩

set_option maxRecDepth 100000 in
set_option maxHeartbeats 2000000 in
theorem npaths_no2 {h a b : Nat} (H : Node h a) (K : NoNode h b) (hn : b < 18446744073709551616) (w : World) :
    Calls Try.prog 10 #[.int .i64 (h : Int), .int .u64 (a : Int), .int .u64 (b : Int)] w fun e w' => e = .returned (.bool true) ∧ Below w.heap.size w w' := by
  have H' := mkHid H
  clear H
  have K' := mkHid K
  clear K
  go_enter Try.func10, Try.ntmps10
  go_wp2_with fail
  refine (live01_below _).mono ?_
  rintro e w1 ⟨rfl, hb1⟩
  have hBN := Below.step (w := w) (by repeat' first | with_reducible exact Below.refl _ _ | with_reducible refine Below.drew ?_ | with_reducible refine below_drewN ?_ _ | with_reducible refine Below.setCell ?_ ?_ _ | with_reducible refine Below.alloc ?_ ?_ _ | (dsimp only; omega) | (simp <;> fail) | (simp; omega)) hb1
  clear hb1
  have HBel := mkHid hBN
  clear hBN
  go_wp2_with fail
  (with_reducible refine (path_no2 H'.out K'.out hn _).mono ?_)
  rintro e w' ⟨rfl, rfl⟩
  go_wp2_with fail
  go_ret
  exact ⟨rfl, (by repeat' first | with_reducible exact HBel.out | with_reducible exact Below.refl _ _ | with_reducible refine Below.drew ?_ | with_reducible refine below_drewN ?_ _ | with_reducible refine Below.setCell ?_ ?_ _ | with_reducible refine Below.alloc ?_ ?_ _ | (dsimp only; omega) | (simp <;> fail) | (have := HBel.out.size; simp; omega))⟩

set_option maxRecDepth 100000 in
set_option maxHeartbeats 2000000 in
theorem npaths_none {h a b : Nat} (H : Node h a) (K : Node h b) (hA : Hid (¬ Anc a b)) (w : World) :
    Calls Try.prog 10 #[.int .i64 (h : Int), .int .u64 (a : Int), .int .u64 (b : Int)] w fun e w' => e = .returned (.bool true) ∧ Below w.heap.size w w' := by
  have H' := mkHid H
  clear H
  have K' := mkHid K
  clear K
  go_enter Try.func10, Try.ntmps10
  go_wp2_with fail
  refine (live01_below _).mono ?_
  rintro e w1 ⟨rfl, hb1⟩
  have hBN := Below.step (w := w) (by repeat' first | with_reducible exact Below.refl _ _ | with_reducible refine Below.drew ?_ | with_reducible refine below_drewN ?_ _ | with_reducible refine Below.setCell ?_ ?_ _ | with_reducible refine Below.alloc ?_ ?_ _ | (dsimp only; omega) | (simp <;> fail) | (simp; omega)) hb1
  clear hb1
  have HBel := mkHid hBN
  clear hBN
  go_wp2_with fail
  (with_reducible refine (path_none H'.out K'.out hA _).mono ?_)
  rintro e w' ⟨rfl, rfl⟩
  go_wp2_with fail
  go_ret
  exact ⟨rfl, (by repeat' first | with_reducible exact HBel.out | with_reducible exact Below.refl _ _ | with_reducible refine Below.drew ?_ | with_reducible refine below_drewN ?_ _ | with_reducible refine Below.setCell ?_ ?_ _ | with_reducible refine Below.alloc ?_ ?_ _ | (dsimp only; omega) | (simp <;> fail) | (have := HBel.out.size; simp; omega))⟩

set_option maxRecDepth 100000 in
set_option maxHeartbeats 6000000 in
theorem npaths_yes {h a b p q m : Nat} (H : Hid (Node h a)) (K : Hid (Node h b)) (hA : Hid (Anc a b)) (hp : Hid (dep a = p)) (hq : Hid (dep b = q)) (hm : Hid (q - p = m)) (hmq : m + p = q) (hqh : q ≤ 32) (w : World) :
    Calls Try.prog 10 #[.int .i64 (h : Int), .int .u64 (a : Int), .int .u64 (b : Int)] w fun e w' => e = .returned (.bool true) ∧ Below w.heap.size w w' := by
  have hl := mkHid (pathL_length b m)
  go_enter Try.func10, Try.ntmps10
  go_wp2_with fail
  refine (live01_below _).mono ?_
  rintro e w1 ⟨rfl, hb1⟩
  have hBN := Below.step (w := w) (by repeat' first | with_reducible exact Below.refl _ _ | with_reducible refine Below.drew ?_ | with_reducible refine below_drewN ?_ _ | with_reducible refine Below.setCell ?_ ?_ _ | with_reducible refine Below.alloc ?_ ?_ _ | (dsimp only; omega) | (simp <;> fail) | (simp; omega)) hb1
  clear hb1
  have HBel := mkHid hBN
  clear hBN
  go_wp2_with fail
  refine (path_yes H.out K.out hA hp hq hm _).mono ?_
  rintro e w2 ⟨v, rfl, hR, hb2⟩
  obtain ⟨A, c, rfl, hcl, hC⟩ := Kd.R_reads hR
  rw [hl.out] at hC hcl ⊢
  have HC := mkHid hC
  have HB := mkHid (Below.step (by repeat' first | with_reducible exact HBel.out | with_reducible exact Below.refl _ _ | with_reducible refine Below.drew ?_ | with_reducible refine below_drewN ?_ _ | with_reducible refine Below.setCell ?_ ?_ _ | with_reducible refine Below.alloc ?_ ?_ _ | (dsimp only; omega) | (simp <;> fail) | (have := HBel.out.size; simp; omega)) hb2)
  clear hC hR hb2 HBel
  have em : (q : Int) - (p : Int) = (m : Int) := by omega
  go_wp2_with fail
  (with_reducible refine (depth_yes H.out hp _).mono ?_)
  rintro e w' ⟨rfl, hw'⟩
  obtain rfl := hw'.symm
  go_wp2_with fail
  (with_reducible refine (depth_yes K.out hq _).mono ?_)
  rintro e w' ⟨rfl, hw'⟩
  obtain rfl := hw'.symm
  go_wp2_with fail
  go_loop [14, 70] (fun x i => ∃ (j y : Nat), j ≤ m ∧ Hid (b / 2 ^ (m - j) = y) ∧ i = .int .i64 (j : Int) ∧ x = .int .u64 (y : Int)) (fun _ i => m - (intOf i).toNat)
  case atStart => exact ⟨0, a, by omega, mkHid (by have := hA.out.2; rw [hp.out, hq.out, hm.out] at this; rw [Nat.sub_zero]; exact this), rfl, rfl⟩
  case round =>
    obtain ⟨j, y, hj, hy, rfl, rfl⟩ := hrel
    by_cases hlt : j < m
    · obtain ⟨ad, rfl, hcell⟩ := C_cell HC.out j hlt
      obtain ⟨z, hz⟩ : ∃ z, Hid (b / 2 ^ (m - 1 - j) = z) := ⟨_, mkHid rfl⟩
      obtain ⟨s, hs⟩ : ∃ s, Hid (z % 2 = s) := ⟨_, mkHid rfl⟩
      have hs1 : s ≤ 1 := by have := hs.out; omega
      rw [pathL_getD b m j hlt, hz.out, hs.out] at hcell
      obtain ⟨f1, f2, f3, f4, f5, f6⟩ := path_step K.out hq.out hlt hmq hy.out hz.out hs.out
      have F1 := mkHid f1
      have F2 := mkHid f2
      have F3 := mkHid f3
      have F4 := mkHid f4
      have F5 := mkHid f5
      have F6 := mkHid f6
      clear f1 f2 f3 f4 f5 f6
      have hdlt : p + j < h := by have := K.out.2.2.2.1; have := hq.out; omega
      have hup : Hid (∀ w : World, Calls Try.prog 25 #[.int .i64 (h : Int), .int .u64 (b : Int), .int .i64 ((p : Int) + (j : Int) + 1)] w fun e w' => e = .returned (.tuple #[.int .u64 (z : Int), .int .i64 0]) ∧ w' = w) := mkHid fun w => by
        have c := up_yes (t := p + j + 1) K.out hq (by omega) (mkHid F5.out) w
        rwa [show ((p + j + 1 : Nat) : Int) = (p : Int) + (j : Int) + 1 by omega] at c
      obtain ⟨r, hr⟩ : ∃ r, Hid (z ^^^ 1 = r) := ⟨_, mkHid rfl⟩
      have hnot : Hid (∀ w : World, Calls Try.prog 20 #[.int .i64 (h : Int), .int .u64 (y : Int), .int .i64 (1 - (s : Int))] w fun e w' => e = .returned (.tuple #[.int .u64 (r : Int), .int .i64 0]) ∧ w' = w) := mkHid fun w => by
        have c := child_yes (s := 1 - s) F1.out F2 hdlt (by omega) (mkHid (F6.out.trans hr.out)) w
        rwa [show ((1 - s : Nat) : Int) = 1 - (s : Int) by omega] at c
      have hpj : p + j ≤ 32 := by omega
      go_wp2_with fail
      (with_reducible refine (child_yes F1.out F2 hdlt hs1 F3 _).mono ?_)
      rintro e w' ⟨rfl, hw'⟩
      obtain rfl := hw'.symm
      go_wp2_with fail
      (with_reducible refine (hup.out _).mono ?_)
      rintro e w' ⟨rfl, hw'⟩
      obtain rfl := hw'.symm
      go_wp2_with fail
      (with_reducible refine (other_yes F4.out.1 F4.out.2 hr _).mono ?_)
      rintro e w' ⟨rfl, hw'⟩
      obtain rfl := hw'.symm
      go_wp2_with fail
      (with_reducible refine (hnot.out _).mono ?_)
      rintro e w' ⟨rfl, hw'⟩
      obtain rfl := hw'.symm
      go_wp2_with fail
      go_round
      case rel => exact ⟨j + 1, z, by omega, mkHid (by rw [← hz.out]; congr 2; omega), by go_num, rfl⟩
      case measure => simp [intOf]; omega
    · obtain rfl : j = m := by omega
      obtain rfl : y = b := by have := hy.out; rw [Nat.sub_self, Nat.pow_zero, Nat.div_one] at this; exact this.symm
      go_wp2_with fail
      go_ret
      exact ⟨by simp, HB.out⟩

theorem walk_NodePaths (x : Int) (_hx : (Lit.int .i64 x).wf = true) (a : Int) (ha : (Lit.int .u64 a).wf = true) (b : Int) (hb : (Lit.int .u64 b).wf = true) (w : World) :
    Calls Try.prog 10 #[.int .i64 x, .int .u64 a, .int .u64 b] w fun e w' => e = .returned (.bool true) ∧ Below w.heap.size w w' := by
  obtain ⟨a, rfl, la⟩ := nat_u64 ha
  obtain ⟨b, rfl, lb⟩ := nat_u64 hb
  clear ha hb
  rcases node_or (h := x) la with H | ⟨h, rfl, H⟩
  · exact npaths_no1 H la w
  rcases node_or (h := (h : Int)) lb with K | ⟨h', he, K⟩
  · exact npaths_no2 H K lb w
  obtain rfl : h = h' := by omega
  by_cases A : Anc a b
  · have l := A.1
    have q := K.2.2.2.1
    have r := K.2.1
    exact npaths_yes (mkHid H) (mkHid K) (mkHid A) (mkHid rfl) (mkHid rfl) (mkHid rfl) (by omega) (by omega) w
  · exact npaths_none H K (mkHid A) w
end Go.Proofs.Ytkimbkcghmelgaa
