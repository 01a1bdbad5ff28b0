/- The contract of node.Path. -/
import Derived.Test.YtkimbkcghmelgaaList
import Derived.Test.YtkimbkcghmelgaaNodeC
import Derived.Test.YtkimbkcghmelgaaNodeM
namespace Go.Proofs.Ytkimbkcghmelgaa
open Go.RowKit Go.Proofs.YtkimbkcghmelgaaW.PrintWords

/-- the path, its last j sides told -/
def pathTo (b m j : Nat) : List Int := (List.range m).map fun t => if m - 1 - t < j then ((b / 2 ^ (m - 1 - t) % 2 : Nat) : Int) else 0
theorem pathTo_length (b m j : Nat) : (pathTo b m j).length = m := by simp [pathTo]
theorem pathTo_zero (b m : Nat) : pathTo b m 0 = List.replicate m 0 := by
  apply List.ext_getElem
  · simp [pathTo]
  · intro i h1 h2; simp [pathTo]
theorem pathTo_full (b m : Nat) : pathTo b m m = pathL b m := by
  unfold pathTo pathL
  apply List.map_congr_left
  intro t ht
  have := List.mem_range.1 ht
  rw [if_pos (by omega)]
theorem pathTo_set (b m j : Nat) (hj : j < m) : (pathTo b m j).set (m - 1 - j) ((b / 2 ^ j % 2 : Nat) : Int) = pathTo b m (j + 1) := by
  apply List.ext_getElem
  · simp [pathTo]
  · intro i h1 h2
    have hi : i < m := by simpa [pathTo] using h2
    rw [List.getElem_set]
    simp only [pathTo, List.getElem_map, List.getElem_range]
    by_cases c : m - 1 - j = i
    · rw [if_pos c, if_pos (by omega), show m - 1 - i = j by omega]
    · rw [if_neg c]
      by_cases d : m - 1 - i < j
      · rw [if_pos d, if_pos (by omega)]
      · rw [if_neg d, if_neg (by omega)]

set_option maxRecDepth 100000 in
set_option maxHeartbeats 4000000 in
theorem path_yes {h a b p q m : Nat} (H : Node h a) (K : Node h b) (hA : Hid (Anc a b)) (hp : Hid (dep a = p)) (hq : Hid (dep b = q)) (hm : Hid (q - p = m)) (w : World) :
    Calls Try.prog 35 #[.int .i64 (h : Int), .int .u64 (a : Int), .int .u64 (b : Int)] w fun e w' => ∃ v, e = .returned (.tuple #[v, .int .i64 0]) ∧ (Kd.int .i64).R 3 w' w.heap.size (fun _ => True) v (pathL b m) ∧ Below w.heap.size w w' := by
  obtain ⟨_, _, a1, _, a2⟩ := id H
  obtain ⟨_, h32, b1, b3, b2⟩ := id K
  have hle := hA.out.1
  rw [hp.out, hq.out] at hle
  rw [hq.out] at b3
  have em : (q : Int) - (p : Int) = (m : Int) := by have := hm.out; omega
  have hmb : m ≤ 32 := by have := hm.out; omega
  have hmn : (m : Int).toNat = m := by omega
  have H' := mkHid H
  have K' := mkHid K
  clear H K
  have h0 : decide (0 ≤ (m : Int)) = true := decide_eq_true (by omega)
  go_enter Try.func35, Try.ntmps35
  go_wp2_with (first | (go_at_call 56; ((with_reducible refine (both_yes H'.out K'.out _).mono ?_); rintro e w' ⟨rfl, hw'⟩; obtain rfl := hw'.symm)) | (go_at_call 57; ((with_reducible refine (above_yes hA.out a1 a2 b1 b2 _).mono ?_); rintro e w' ⟨rfl, hw'⟩; obtain rfl := hw'.symm)) | (go_at_call 55; ((with_reducible refine (depth_eq hq b1 b2 _).mono ?_); rintro e w' ⟨rfl, hw'⟩; obtain rfl := hw'.symm)) | (go_at_call 55; ((with_reducible refine (depth_eq hp a1 a2 _).mono ?_); rintro e w' ⟨rfl, hw'⟩; obtain rfl := hw'.symm)) | ((with_reducible refine gate_dst (N := 28) rfl ?_); refine Kd.R_make (Kd.int .i64) _ 3 rfl (N := 28) rfl 41 _ _ rfl (m : Int) rfl rfl Try.underlying41 (.int .i64 0) 8 info_i64 rfl (by decide) (by omega) 0 (ok := fun _ => True) (okp := fun _ => True) rfl (fun _ hk => hk) trivial (by omega) (by omega) (Below.refl _ _) (Nat.le_refl _) ?_; intro v1 w1 ho hb hg_ hnew_; clear hg_ hnew_; rw [hmn, ← pathTo_zero b m] at ho; have HO := mkHid ho; have HB := mkHid hb; clear ho hb))
  go_loopw [30] (fun i wr => ∃ j : Nat, j ≤ m ∧ i = .int .i64 (j : Int) ∧ Hid ((Kd.int .i64).R 3 wr w.heap.size (fun _ => True) v1 (pathTo b m j)) ∧ Hid (Below w.heap.size w wr)) (fun i _ => m - (intOf i).toNat)
  case atStart => exact ⟨0, by omega, rfl, HO, HB⟩
  case round =>
    obtain ⟨j, hj, rfl, HR, HBl⟩ := hrel
    clear HO HB
    by_cases hlt : j < m
    · obtain ⟨g, cap, rfl, hbg, hgl, -⟩ := Kd.R_form HR.out (by rw [pathTo_length]; omega)
      rw [pathTo_length] at HR
      have ei : ((m : Int) - 1 - (j : Int)) = ((m - 1 - j : Nat) : Int) := by omega
      obtain ⟨x, hx⟩ : ∃ x, Hid (b / 2 ^ j = x) := ⟨_, mkHid rfl⟩
      have hx64 : x < 18446744073709551616 := by rw [← hx.out]; exact Nat.lt_of_le_of_lt (Nat.div_le_self _ _) b2
      have ex : (b : Int) / 2 ^ j = (x : Int) := by rw [pow_int, ← Int.natCast_ediv, hx.out]
      have e2 : bits BinOp.and IntKind.u64 (x : Int) 1 = ((x % 2 : Nat) : Int) := by
        rw [show (1 : Int) = ((1 : Nat) : Int) from rfl, bits_and _ _ hx64 (by omega), Nat.and_one_is_mod]
      obtain ⟨hc, hf⟩ := Kd.R_celln 0 HR.out ((m - 1 - j : Nat) : Int) (by omega) (by omega)
      rw [Int.toNat_natCast] at hc hf
      have hj64 : j ≤ 64 := by omega
      have hcap : m - 1 - j < (pathTo b m j).length := by rw [pathTo_length]; omega
      have HN : Hid ((Kd.int .i64).R 3 (wr.setCell ⟨g, m - 1 - j, none⟩ (.int .i64 ((x : Int) % 2))) w.heap.size (fun _ => True) (.slice (some ⟨g, 0, none⟩) (pathTo b m j).length cap) (pathTo b m (j + 1))) := by
        have z := (Kd.R_putg HR.out ((m - 1 - j : Nat) : Int) ((x % 2 : Nat) : Int)).1
        rw [Int.toNat_natCast, ← hx.out, pathTo_set b m j hlt, hx.out, Int.natCast_emod] at z
        rw [pathTo_length]
        exact mkHid z
      have HB2 := mkHid (HBl.out.setCell (p := ⟨g, m - 1 - j, none⟩) hbg (.int .i64 ((x : Int) % 2)))
      generalize hidx : m - 1 - j = u at *
      go_wp2_with fail
      go_roundw
      case rel => exact ⟨j + 1, by omega, by go_num, HN, HB2⟩
      case measure => simp [intOf]; omega
    · obtain rfl : j = m := by omega
      rw [pathTo_full] at HR
      go_wp2_with fail
      go_ret2
      exact ⟨_, rfl, HR.out, HBl.out⟩

set_option maxHeartbeats 1000000 in
theorem path_none {h a b : Nat} (H : Node h a) (K : Node h b) (hA : Hid (¬ Anc a b)) (w : World) :
    Calls Try.prog 35 #[.int .i64 (h : Int), .int .u64 (a : Int), .int .u64 (b : Int)] w fun e w' => e = .returned (.tuple #[.slice none 0 0, .int .i64 4]) ∧ w' = w := by
  obtain ⟨_, _, a1, _, a2⟩ := id H
  obtain ⟨_, _, b1, _, b2⟩ := id K
  have H' := mkHid H
  have K' := mkHid K
  clear H K
  go_enter Try.func35, Try.ntmps35
  go_wp2_with (first | (go_at_call 56; ((with_reducible refine (both_yes H'.out K'.out _).mono ?_); rintro e w' ⟨rfl, rfl⟩)) | (go_at_call 57; ((with_reducible refine (above_not hA.out a1 a2 b1 b2 _).mono ?_); rintro e w' ⟨rfl, rfl⟩)))
  go_ret2
  exact ⟨rfl, rfl⟩
set_option maxHeartbeats 1000000 in
theorem path_no1 {h : Int} {a b : Nat} (H : NoNode h a) (ha : a < 18446744073709551616) (w : World) :
    Calls Try.prog 35 #[.int .i64 h, .int .u64 (a : Int), .int .u64 (b : Int)] w fun e w' => e = .returned (.tuple #[.slice none 0 0, .int .i64 1]) ∧ w' = w := by
  have H' := mkHid H
  clear H
  go_enter Try.func35, Try.ntmps35
  go_wp2_with (first | (go_at_call 56; ((with_reducible refine (both_no1 H'.out ha _).mono ?_); rintro e w' ⟨rfl, rfl⟩)))
  go_ret2
  exact ⟨rfl, rfl⟩
set_option maxHeartbeats 1000000 in
theorem path_no2 {h a b : Nat} (H : Node h a) (K : NoNode h b) (hb : b < 18446744073709551616) (w : World) :
    Calls Try.prog 35 #[.int .i64 (h : Int), .int .u64 (a : Int), .int .u64 (b : Int)] w fun e w' => e = .returned (.tuple #[.slice none 0 0, .int .i64 1]) ∧ w' = w := by
  have H' := mkHid H
  have K' := mkHid K
  clear H K
  go_enter Try.func35, Try.ntmps35
  go_wp2_with (first | (go_at_call 56; ((with_reducible refine (both_no2 H'.out K'.out hb _).mono ?_); rintro e w' ⟨rfl, rfl⟩)))
  go_ret2
  exact ⟨rfl, rfl⟩
end Go.Proofs.Ytkimbkcghmelgaa
