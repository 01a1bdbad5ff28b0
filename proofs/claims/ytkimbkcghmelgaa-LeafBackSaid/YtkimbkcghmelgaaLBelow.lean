/- The contract of leaf.Below. -/
import Derived.Test.YtkimbkcghmelgaaClone
import Derived.Test.YtkimbkcghmelgaaHas
namespace Go.Proofs.Ytkimbkcghmelgaa
open Go.RowKit

theorem getD_sub (s : List Nat) (f t j : Nat) (h : j < t - f) : ((s.drop f).take (t - f)).getD j 0 = s.getD (f + j) 0 := by
  rw [List.getD_eq_getElem?_getD, List.getD_eq_getElem?_getD, List.getElem?_take, if_pos h, List.getElem?_drop]
theorem Reads.subMap {w : World} {A : Option Addr} {s : List Nat} (h : Reads w A s) (f t : Nat) (ht : t ≤ s.length) : Reads w (A.map fun x => x.add f) ((s.drop f).take (t - f)) := by
  have hl : ((s.drop f).take (t - f)).length = t - f := by rw [List.length_take, List.length_drop]; omega
  by_cases hn : 0 < t - f
  · obtain ⟨⟨b, off, sp⟩, rfl, h0⟩ := h.cell 0 (by omega)
    rw [addr_zero] at h0
    have hsp : sp = none := World.cell?_spot h0
    subst hsp
    have hadd : ∀ o i, (⟨b, o, none⟩ : Addr).add i = ⟨b, o + i, none⟩ := fun o i => by unfold Addr.add; split <;> simp_all
    have hm : s.length ≤ 9223372036854775807 := h.2.1
    refine Reads.of_cells (ad := (⟨b, off, none⟩ : Addr).add f) (by omega) fun j hj => ?_
    rw [hl] at hj
    obtain ⟨ad, e, hc⟩ := h.cell (f + j) (by omega)
    cases e
    rw [getD_sub s f t j hj, hadd, hadd, Nat.add_assoc, ← hadd]
    exact hc
  · have e : (s.drop f).take (t - f) = [] := List.length_eq_zero_iff.1 (by omega)
    rw [e]
    exact ⟨rfl, by decide, fun h => absurd h (by decide)⟩
theorem Reads.subEnd {w : World} (A : Option Addr) {s : List Nat} {f t : Nat} (h : t - f = 0) : Reads w A ((s.drop f).take (t - f)) := by
  have e : (s.drop f).take (t - f) = [] := List.length_eq_zero_iff.1 (by rw [List.length_take]; omega)
  rw [e]
  exact ⟨rfl, by decide, fun h => absurd h (by decide)⟩
theorem _root_.Go.World.ownsRow.base {w : World} {b b' : Nat} {e : TypeId} {size : Nat} {v : Value} {n : Nat} {xs : List Value} (h : w.ownsRow b' e size v n xs) (hb : b ≤ b') : w.ownsRow b e size v n xs := by
  refine ⟨h.1, ?_⟩
  rcases h.2 with ⟨h1, h2⟩ | ⟨g, cap, cur, h1, h2, h3⟩
  · exact .inl ⟨h1, h2⟩
  · exact .inr ⟨g, cap, cur, h1, by omega, h3⟩
set_option maxRecDepth 100000 in
set_option maxHeartbeats 2000000 in
theorem below_yes {h n d lo hi f t : Nat} {s : List Nat} (H : Node h n) (hs : Hid (SetOk h s)) (hd : Hid (dep n = d)) (hlo : Hid (n * 2 ^ (h - d) = 2 ^ h + lo)) (hhi : Hid (lo + 2 ^ (h - d) = hi + 1)) (hf : Hid (Place s lo f)) (ht : Hid (Place s (hi + 1) t)) (hft : f ≤ t) (hb : hi < 4294967296) (A : Option Addr) (c : Nat) (hc : s.length ≤ c) (w : World) (hA : Reads w A s) :
    Calls Try.prog 42 #[.int .i64 (h : Int), .slice A s.length c, .int .u64 (n : Int)] w fun e w' => ∃ v, e = .returned (.tuple #[v, .int .i64 0]) ∧ w'.ownsRow w.heap.size 22 1 v (t - f) (natCells ((s.drop f).take (t - f))) ∧ Below w.heap.size w w' := by
  have H' := mkHid H
  have HA := mkHid hA
  have h1 := H.1
  have h2 := H.2.1
  have hlen : s.length ≤ 4611686018427387904 := by have := hs.out.1; omega
  have hfl := hf.out.le
  have htl := ht.out.le
  have ez1 : ∃ z, Hid (decide (f < s.length ∧ s.getD f 0 = lo) = z) := ⟨_, mkHid rfl⟩
  obtain ⟨z1, hz1⟩ := ez1
  have ez2 : ∃ z, Hid (decide (t < s.length ∧ s.getD t 0 = hi + 1) = z) := ⟨_, mkHid rfl⟩
  obtain ⟨z2, hz2⟩ := ez2
  have HC : Hid (∀ (w : World) (A : Option Addr) (c : Nat), Reads w A ((s.drop f).take (t - f)) → Calls Try.prog 68 #[.slice A (t - f) c] w fun e w' => ∃ v, e = .returned v ∧ w'.ownsRow w.heap.size 22 1 v (t - f) (natCells ((s.drop f).take (t - f))) ∧ Below w.heap.size w w') := mkHid fun w A c hR => by
    have hl : ((s.drop f).take (t - f)).length = t - f := by rw [List.length_take, List.length_drop]; omega
    have k := clone_any A c (by rw [hl]; have := hs.out.1; omega) w hR
    rwa [hl] at k
  clear H hA
  go_enter Try.func42, Try.ntmps42
  go_wp2_with fail
  (with_reducible refine (leaves_yes H'.out hd hlo hhi _).mono ?_)
  rintro e w1 ⟨rfl, hb1⟩
  have HA1 := mkHid (HA.out.below hb1)
  have hB1 := mkHid hb1
  clear HA hb1
  have HA2 := mkHid (HA1.out.below ((Below.refl _ _).alloc (Nat.le_refl _) (.cells #[.int .u64 (lo : Int), .int .u64 (hi : Int)] 25)))
  obtain ⟨q, hq⟩ : ∃ q, hi + 1 = q := ⟨_, rfl⟩
  rw [hq] at hz2 ht
  have eq : IntKind.u64.wrap ((hi : Int) + 1) = (q : Int) := by rw [IntKind.wrap_u64]; omega
  go_wp2_with first
    | (go_at_call 53; ((with_reducible refine (lcheck_yes h1 h2 hs.out _ _ _ HA2.out).mono ?_); rintro e w' ⟨rfl, hw'⟩; obtain rfl := hw'.symm))
    | (go_at_call 67; ((with_reducible refine (search_eq hf hz1 hlen _ _ _ HA2.out).mono ?_); rintro e w' ⟨rfl, hw'⟩; obtain rfl := hw'.symm))
    | (go_at_call 67; ((with_reducible refine (search_eq ht hz2 hlen _ _ _ HA2.out).mono ?_); rintro e w' ⟨rfl, hw'⟩; obtain rfl := hw'.symm))
  all_goals
    first
    | (with_reducible refine (HC.out _ _ _ (HA2.out.subMap f t htl)).mono ?_)
    | (with_reducible refine (HC.out _ _ _ (Reads.subEnd _ (by omega))).mono ?_)
    rintro e w2 ⟨v, rfl, hown, hb2⟩
    have hB2 := mkHid (hB1.out.alloc hB1.out.size (.cells #[.int .u64 (lo : Int), .int .u64 (hi : Int)] 25))
    have hB3 := mkHid (hB2.out.step hb2)
    have hO := mkHid (hown.base (hB2.out.size))
    clear hown hb2 hB2
    go_wp2_with fail
    go_ret2
    exact ⟨v, by simp, hO.out, hB3.out⟩
set_option maxHeartbeats 1000000 in
theorem below_no {h : Int} {n : Nat} (H : NoNode h n) (hn : n < 18446744073709551616) (A : Option Addr) (l c : Nat) (w : World) :
    Calls Try.prog 42 #[.int .i64 h, .slice A l c, .int .u64 (n : Int)] w fun e w' => e = .returned (.tuple #[.slice none 0 0, .int .i64 1]) ∧ Below w.heap.size w w' := by
  have H' := mkHid H
  clear H
  go_enter Try.func42, Try.ntmps42
  go_wp2_with fail
  (with_reducible refine (leaves_no H'.out hn _).mono ?_)
  rintro e w1 ⟨rfl, hb1⟩
  go_wp2_with fail
  go_ret2
  exact ⟨by simp, hb1.alloc hb1.size _⟩
set_option maxHeartbeats 1000000 in
theorem below_noset {h n d lo hi : Nat} {s : List Nat} (H : Node h n) (hs : Hid (¬ SetOk h s)) (hd : Hid (dep n = d)) (hlo : Hid (n * 2 ^ (h - d) = 2 ^ h + lo)) (hhi : Hid (lo + 2 ^ (h - d) = hi + 1)) (A : Option Addr) (c : Nat) (w : World) (hA : Reads w A s) :
    Calls Try.prog 42 #[.int .i64 (h : Int), .slice A s.length c, .int .u64 (n : Int)] w fun e w' => e = .returned (.tuple #[.slice none 0 0, .int .i64 1]) ∧ Below w.heap.size w w' := by
  have H' := mkHid H
  have HA := mkHid hA
  have h1 := H.1
  have h2 := H.2.1
  clear H hA
  go_enter Try.func42, Try.ntmps42
  go_wp2_with fail
  (with_reducible refine (leaves_yes H'.out hd hlo hhi _).mono ?_)
  rintro e w1 ⟨rfl, hb1⟩
  have HA2 := mkHid ((HA.out.below hb1).below ((Below.refl _ _).alloc (Nat.le_refl _) (.cells #[.int .u64 (lo : Int), .int .u64 (hi : Int)] 25)))
  have hB1 := mkHid hb1
  clear HA hb1
  go_wp2_with (go_at_call 53; ((with_reducible refine (lcheck_no h1 h2 hs.out _ _ _ HA2.out).mono ?_); rintro e w' ⟨rfl, hw'⟩; obtain rfl := hw'.symm))
  go_ret2
  exact ⟨by simp, hB1.out.alloc hB1.out.size _⟩
theorem Reads.of_row' {w : World} {base : Nat} {v : Value} {s : List Nat} (h : w.ownsRow base 22 1 v s.length (natCells s)) : ∃ A c, v = .slice A s.length c ∧ s.length ≤ c ∧ c ≤ maxLen ∧ Reads w A s ∧ (A = none → c = 0) := by
  rcases h.2 with ⟨rfl, h0⟩ | ⟨g, cap, cur, rfl, _, _, h1, h2, _⟩
  · obtain rfl : s = [] := List.length_eq_zero_iff.1 h0
    exact ⟨none, 0, rfl, Nat.le_refl _, Nat.zero_le _, Reads.nil w, fun _ => rfl⟩
  · exact ⟨_, cap, rfl, h1, h2, Reads.of_cells (by unfold maxLen at h2; omega) fun j hj => by
      have := h.cells (g := g) rfl j _ (natCells_get s j hj)
      exact this, fun e => by cases e⟩
/-- the same, as a list that is read -/
theorem below_list {h n d lo hi f t : Nat} {s L : List Nat} (H : Node h n) (hs : Hid (SetOk h s)) (hd : Hid (dep n = d)) (hlo : Hid (n * 2 ^ (h - d) = 2 ^ h + lo)) (hhi : Hid (lo + 2 ^ (h - d) = hi + 1)) (hf : Hid (Place s lo f)) (ht : Hid (Place s (hi + 1) t)) (hL : Hid ((s.drop f).take (t - f) = L)) (hft : f ≤ t) (hb : hi < 4294967296) (A : Option Addr) (c : Nat) (hc : s.length ≤ c) (w : World) (hA : Reads w A s) :
    Calls Try.prog 42 #[.int .i64 (h : Int), .slice A s.length c, .int .u64 (n : Int)] w fun e w' => ∃ B k, e = .returned (.tuple #[.slice B L.length k, .int .i64 0]) ∧ L.length ≤ k ∧ k ≤ maxLen ∧ Reads w' B L ∧ (B = none → k = 0) ∧ Below w.heap.size w w' := by
  have htl := ht.out.le
  have hl : ((s.drop f).take (t - f)).length = t - f := by rw [List.length_take, List.length_drop]; omega
  refine (below_yes H hs hd hlo hhi hf ht hft hb A c hc w hA).mono ?_
  rintro e w' ⟨v, rfl, ho, hb⟩
  have e : t - f = L.length := by rw [← hL.out]; exact hl.symm
  rw [hL.out, e] at ho
  obtain ⟨B, k, rfl, h1, h2, h3, h4⟩ := Reads.of_row' ho
  exact ⟨B, k, rfl, h1, h2, h3, h4, hb⟩
theorem place_zero {h : Nat} {s : List Nat} (_ : SetOk h s) : Place s 0 0 := ⟨Nat.zero_le _, fun j hj => by omega, fun j _ _ => Nat.zero_le _⟩
theorem place_last {h last : Nat} {s : List Nat} (H : SetOk h s) (hl : last + 1 = 2 ^ h) : Place s (last + 1) s.length := ⟨Nat.le_refl _, fun j hj => by rw [hl]; exact (H.2 j hj).1, fun j h1 h2 => by omega⟩
theorem Place.mono {s : List Nat} {t t' k k' : Nat} (P : Place s t k) (Q : Place s t' k') (h : t ≤ t') : k ≤ k' := by
  rcases Nat.lt_or_ge k' k with l | l
  · have a := P.lo k' l
    have b := Q.hi k' (Nat.le_refl _) (by have := P.le; omega)
    omega
  · exact l
theorem below_root {h last : Nat} {s : List Nat} (h1 : 1 ≤ h) (h2 : h ≤ 32) (hla : last + 1 = 2 ^ h) (hs : Hid (SetOk h s)) (A : Option Addr) (c : Nat) (hc : s.length ≤ c) (w : World) (hA : Reads w A s) :
    Calls Try.prog 42 #[.int .i64 (h : Int), .slice A s.length c, .int .u64 1] w fun e w' => ∃ B k, e = .returned (.tuple #[.slice B s.length k, .int .i64 0]) ∧ s.length ≤ k ∧ k ≤ maxLen ∧ Reads w' B s ∧ (B = none → k = 0) ∧ Below w.heap.size w w' :=
  below_list (n := 1) (lo := 0) (root_node h1 h2) hs (mkHid dep_one) (mkHid (by rw [Nat.sub_zero]; omega)) (mkHid (by rw [Nat.sub_zero]; omega)) (mkHid (place_zero hs.out)) (mkHid (place_last hs.out hla)) (mkHid (by rw [List.drop_zero, Nat.sub_zero, List.take_length])) (Nat.zero_le _) (by have := pow_le h2; omega) A c hc w hA
end Go.Proofs.Ytkimbkcghmelgaa
