/- The walk of NodeTwo: the Go text answers true and writes nothing that was there. -/
import Derived.Test.YtkimbkcghmelgaaNodeS
import Derived.Test.YtkimbkcghmelgaaPureAbove
import Derived.Test.YtkimbkcghmelgaaPureMeet
import Derived.Test.YtkimbkcghmelgaaPurePath
import Derived.Test.YtkimbkcghmelgaaPureSameInts
namespace Go.Proofs.Ytkimbkcghmelgaa
open Go.RowKit Go.Proofs.YtkimbkcghmelgaaW.PrintWords

theorem two_child (h : Int) (n : Nat) (s : Int) (hn : n < 18446744073709551616) (hs : (Lit.int .i64 s).wf = true) : ∃ a q : Int, (∀ w : World, Calls Try.prog 20 #[.int .i64 h, .int .u64 (n : Int), .int .i64 s] w fun e w' => e = .returned (.tuple #[.int .u64 a, .int .i64 q]) ∧ w' = w) ∧ (∀ w : World, Calls Try.prog 31 #[.int .i64 h, .int .u64 (n : Int), .int .i64 s] w fun e w' => e = .returned (.tuple #[.int .u64 a, .int .i64 q]) ∧ w' = w) := by
  rcases node_or (h := h) hn with H | ⟨h, rfl, H⟩
  · exact ⟨_, _, fun w => child_no H hn w, fun w => rchild_no H hn w⟩
  by_cases c : bits BinOp.andNot IntKind.i64 s 1 = 0
  · obtain ⟨k, rfl, hk⟩ : ∃ k : Nat, s = (k : Int) ∧ k ≤ 1 := by
      rcases side_bits hs c with rfl | rfl
      · exact ⟨0, rfl, by omega⟩
      · exact ⟨1, rfl, by omega⟩
    have hle := H.2.2.2.1
    by_cases d : dep n < h
    · exact ⟨_, _, fun w => child_yes H (mkHid rfl) d hk (mkHid rfl) w, fun w => rchild_yes H (mkHid rfl) hk d (mkHid rfl) w⟩
    · have d' : dep n = h := by omega
      exact ⟨_, _, fun w => child_none H (mkHid rfl) d' hk w, fun w => rchild_none H (mkHid rfl) hk d' w⟩
  · exact ⟨_, _, fun w => child_side H c w, fun w => rchild_side H (fun e => c (by rw [e]; decide)) (fun e => c (by rw [e]; decide)) w⟩
theorem two_other (h : Int) (n : Nat) (hn : n < 18446744073709551616) : ∃ a q : Int, (∀ w : World, Calls Try.prog 30 #[.int .i64 h, .int .u64 (n : Int)] w fun e w' => e = .returned (.tuple #[.int .u64 a, .int .i64 q]) ∧ w' = w) ∧ (∀ w : World, Calls Try.prog 32 #[.int .i64 h, .int .u64 (n : Int)] w fun e w' => e = .returned (.tuple #[.int .u64 a, .int .i64 q]) ∧ w' = w) := by
  rcases node_or (h := h) hn with H | ⟨h, rfl, H⟩
  · exact ⟨_, _, fun w => other_no H hn w, fun w => rother_no H hn w⟩
  by_cases c : n = 1
  · exact ⟨_, _, fun w => other_root H c w, fun w => rother_root H c w⟩
  rcases Nat.mod_two_eq_zero_or_one n with e | e
  · exact ⟨_, _, fun w => other_yes H c (mkHid rfl) w, fun w => rother_even H e (mkHid rfl) w⟩
  · exact ⟨_, _, fun w => other_yes H c (mkHid rfl) w, fun w => rother_odd H e c (mkHid rfl) w⟩
theorem two_above (h : Int) (a b : Nat) (ha : a < 18446744073709551616) (hb : b < 18446744073709551616) : ∃ (z : Bool) (q : Int), (∀ w : World, Calls Try.prog 18 #[.int .i64 h, .int .u64 (a : Int), .int .u64 (b : Int)] w fun e w' => e = .returned (.tuple #[.bool z, .int .i64 q]) ∧ w' = w) ∧ (∀ w : World, Calls Try.prog 33 #[.int .i64 h, .int .u64 (a : Int), .int .u64 (b : Int)] w fun e w' => e = .returned (.tuple #[.bool z, .int .i64 q]) ∧ Below w.heap.size w w') := by
  rcases node_or (h := h) ha with H | ⟨h, rfl, H⟩
  · exact ⟨_, _, fun w => Above_no1 H ha w, fun w => PAbove.rabove_no1 H ha w⟩
  rcases node_or (h := (h : Int)) hb with K | ⟨h', he, K⟩
  · exact ⟨_, _, fun w => Above_no2 H K hb w, fun w => PAbove.rabove_no2 H K hb w⟩
  obtain rfl : h = h' := by omega
  exact ⟨_, _, fun w => Above_any H K (mkHid rfl) w, fun w => PAbove.rabove_any H K (mkHid rfl) w⟩
theorem drew_same {P : Ending → Prop} {f : Nat} {args : Array Value} {w : World} (h : Calls Try.prog f args w fun e w' => P e ∧ w' = w) : Calls Try.prog f args w fun e w' => P e ∧ ∃ n, w' = w.drewN n := h.mono fun _ _ ⟨a, b⟩ => ⟨a, 0, b⟩
theorem two_meet (h : Int) (a b : Nat) (ha : a < 18446744073709551616) (hb : b < 18446744073709551616) : ∃ a' q : Int, (∀ w : World, Calls Try.prog 19 #[.int .i64 h, .int .u64 (a : Int), .int .u64 (b : Int)] w fun e w' => e = .returned (.tuple #[.int .u64 a', .int .i64 q]) ∧ ∃ n, w' = w.drewN n) ∧ (∀ w : World, Calls Try.prog 34 #[.int .i64 h, .int .u64 (a : Int), .int .u64 (b : Int)] w fun e w' => e = .returned (.tuple #[.int .u64 a', .int .i64 q]) ∧ Below w.heap.size w w') := by
  rcases node_or (h := h) ha with H | ⟨h, rfl, H⟩
  · exact ⟨_, _, fun w => drew_same (Meet_no1 H ha w), fun w => PMeet.rmeet_no1 H ha w⟩
  rcases node_or (h := (h : Int)) hb with K | ⟨h', he, K⟩
  · exact ⟨_, _, fun w => drew_same (Meet_no2 H K hb w), fun w => PMeet.rmeet_no2 H K hb w⟩
  obtain rfl : h = h' := by omega
  exact ⟨_, _, fun w => Meet_any H K (mkHid rfl) w, fun w => PMeet.rmeet_any H K (mkHid rfl) w⟩
theorem two_path (h : Int) (a b : Nat) (ha : a < 18446744073709551616) (hb : b < 18446744073709551616) : ∃ (L : List Int) (q : Int), L.length < 100 ∧ (∀ w : World, Calls Try.prog 35 #[.int .i64 h, .int .u64 (a : Int), .int .u64 (b : Int)] w fun e w' => ∃ v, e = .returned (.tuple #[v, .int .i64 q]) ∧ ListAt .i64 w' v L ∧ Below w.heap.size w w') ∧ (∀ w : World, Calls Try.prog 36 #[.int .i64 h, .int .u64 (a : Int), .int .u64 (b : Int)] w fun e w' => ∃ v, e = .returned (.tuple #[v, .int .i64 q]) ∧ ListAt .i64 w' v L ∧ Below w.heap.size w w') := by
  have none_ : ∀ {f : Nat} {args : Array Value} {w : World} {q : Int}, Calls Try.prog f args w (fun e w' => e = .returned (.tuple #[.slice none 0 0, .int .i64 q]) ∧ w' = w) → Calls Try.prog f args w fun e w' => ∃ v, e = .returned (.tuple #[v, .int .i64 q]) ∧ ListAt .i64 w' v [] ∧ Below w.heap.size w w' :=
    fun h => h.mono fun _ _ ⟨a, b⟩ => ⟨_, a, ListAt.nil _ _, by rw [b]; exact Below.refl _ _⟩
  have some_ : ∀ {f : Nat} {args : Array Value} {w : World} {q : Int} {l : List Int}, Calls Try.prog f args w (fun e w' => ∃ v, e = .returned (.tuple #[v, .int .i64 q]) ∧ (Kd.int .i64).R 3 w' w.heap.size (fun _ => True) v l ∧ Below w.heap.size w w') → Calls Try.prog f args w fun e w' => ∃ v, e = .returned (.tuple #[v, .int .i64 q]) ∧ ListAt .i64 w' v l ∧ Below w.heap.size w w' :=
    fun h => h.mono fun _ _ ⟨v, a, b, c⟩ => ⟨v, a, ListAt.of_R b, c⟩
  rcases node_or (h := h) ha with H | ⟨h, rfl, H⟩
  · exact ⟨_, _, by simp, fun w => none_ (path_no1 H ha w), fun w => some_ (PPath.rpath_no1 H ha w)⟩
  rcases node_or (h := (h : Int)) hb with K | ⟨h', he, K⟩
  · exact ⟨_, _, by simp, fun w => none_ (path_no2 H K hb w), fun w => some_ (PPath.rpath_no2 H K hb w)⟩
  obtain rfl : h = h' := by omega
  by_cases A : Anc a b
  · have hl : (pathL b (dep b - dep a)).length < 100 := by
      have := dep_lt K.2.2.1 hb
      simp [pathL]; omega
    exact ⟨_, _, hl, fun w => some_ (path_yes H K (mkHid A) (mkHid rfl) (mkHid rfl) (mkHid rfl) w), fun w => some_ (PPath.rpath_yes H K (mkHid A) (mkHid rfl) (mkHid rfl) (mkHid rfl) w)⟩
  · exact ⟨_, _, by simp, fun w => none_ (path_none H K (mkHid A) w), fun w => some_ (PPath.rpath_none H K (mkHid A) w)⟩

set_option maxRecDepth 100000 in
set_option maxHeartbeats 4000000 in
theorem walk_NodeTwo (h : Int) (_hh : (Lit.int .i64 h).wf = true) (a : Int) (ha : (Lit.int .u64 a).wf = true) (b : Int) (hb : (Lit.int .u64 b).wf = true) (s : Int) (hs : (Lit.int .i64 s).wf = true) (w : World) :
    Calls Try.prog 8 #[.int .i64 h, .int .u64 a, .int .u64 b, .int .i64 s] w fun e w' => e = .returned (.bool true) ∧ Below w.heap.size w w' := by
  obtain ⟨a, rfl, la⟩ := nat_u64 ha
  obtain ⟨b, rfl, lb⟩ := nat_u64 hb
  clear ha hb
  obtain ⟨ca, ce, c1, c2⟩ := two_child h a s la hs
  obtain ⟨oa, oe, o1, o2⟩ := two_other h a la
  obtain ⟨az, ae, a1, a2⟩ := two_above h a b la lb
  obtain ⟨ma, me, m1, m2⟩ := two_meet h a b la lb
  obtain ⟨pl, pe, pn, p1, p2⟩ := two_path h a b la lb
  have C1 := mkHid c1
  have C2 := mkHid c2
  have O1 := mkHid o1
  have O2 := mkHid o2
  have A1 := mkHid a1
  have A2 := mkHid a2
  have M1 := mkHid m1
  have M2 := mkHid m2
  have P1 := mkHid p1
  have P2 := mkHid p2
  have PN := mkHid pn
  clear pn hs c1 c2 o1 o2 a1 a2 m1 m2 p1 p2
  go_enter Try.func8, Try.ntmps8
  go_wp2_with fail
  refine (live01_below _).mono ?_
  rintro e w1 ⟨rfl, hb1⟩
  have hBN := Below.step (w := w) (by repeat' first | with_reducible exact Below.refl _ _ | with_reducible refine Below.drew ?_ | with_reducible refine below_drewN ?_ _ | with_reducible refine Below.setCell ?_ ?_ _ | with_reducible refine Below.alloc ?_ ?_ _ | (dsimp only; omega) | (simp <;> fail) | (simp; omega)) hb1
  clear hb1
  have HBel := mkHid hBN
  clear hBN
  go_wp2_with fail
  (with_reducible refine (C1.out _).mono ?_)
  rintro e w' ⟨rfl, rfl⟩
  go_wp2_with fail
  (with_reducible refine (C2.out _).mono ?_)
  rintro e w' ⟨rfl, rfl⟩
  go_wp2_with fail
  (with_reducible refine (O1.out _).mono ?_)
  rintro e w' ⟨rfl, rfl⟩
  go_wp2_with fail
  (with_reducible refine (O2.out _).mono ?_)
  rintro e w' ⟨rfl, rfl⟩
  go_wp2_with fail
  (with_reducible refine (A1.out _).mono ?_)
  rintro e w' ⟨rfl, rfl⟩
  go_wp2_with fail
  refine (A2.out _).mono ?_
  rintro e w2 ⟨rfl, hb2⟩
  have hBN := Below.step (w := w) (by repeat' first | with_reducible exact HBel.out | with_reducible exact Below.refl _ _ | with_reducible refine Below.drew ?_ | with_reducible refine below_drewN ?_ _ | with_reducible refine Below.setCell ?_ ?_ _ | with_reducible refine Below.alloc ?_ ?_ _ | (dsimp only; omega) | (simp <;> fail) | (have := HBel.out.size; simp; omega)) hb2
  clear HBel hb2
  have HBel := mkHid hBN
  clear hBN
  go_wp2_with fail
  (with_reducible refine (M1.out _).mono ?_)
  rintro e w' ⟨rfl, nd, rfl⟩
  go_wp2_with fail
  refine (M2.out _).mono ?_
  rintro e w3 ⟨rfl, hb3⟩
  have hBN := Below.step (w := w) (by repeat' first | with_reducible exact HBel.out | with_reducible exact Below.refl _ _ | with_reducible refine Below.drew ?_ | with_reducible refine below_drewN ?_ _ | with_reducible refine Below.setCell ?_ ?_ _ | with_reducible refine Below.alloc ?_ ?_ _ | (dsimp only; omega) | (simp <;> fail) | (have := HBel.out.size; simp; omega)) hb3
  clear HBel hb3
  have HBel := mkHid hBN
  clear hBN
  go_wp2_with fail
  refine (P1.out _).mono ?_
  rintro e w4 ⟨vS, rfl, hS, hb4⟩
  obtain ⟨AS, cS, rfl, kS, rS⟩ := hS
  have RS := mkHid rS
  clear rS
  have hBN := Below.step (w := w) (by repeat' first | with_reducible exact HBel.out | with_reducible exact Below.refl _ _ | with_reducible refine Below.drew ?_ | with_reducible refine below_drewN ?_ _ | with_reducible refine Below.setCell ?_ ?_ _ | with_reducible refine Below.alloc ?_ ?_ _ | (dsimp only; omega) | (simp <;> fail) | (have := HBel.out.size; simp; omega)) hb4
  clear HBel hb4
  have HBel := mkHid hBN
  clear hBN
  go_wp2_with fail
  refine (P2.out _).mono ?_
  rintro e w5 ⟨vT, rfl, hT, hb5⟩
  obtain ⟨AT, cT, rfl, kT, rT⟩ := hT
  have RT := mkHid rT
  clear rT
  have hBN := Below.step (w := w) (by repeat' first | with_reducible exact HBel.out | with_reducible exact Below.refl _ _ | with_reducible refine Below.drew ?_ | with_reducible refine below_drewN ?_ _ | with_reducible refine Below.setCell ?_ ?_ _ | with_reducible refine Below.alloc ?_ ?_ _ | (dsimp only; omega) | (simp <;> fail) | (have := HBel.out.size; simp; omega)) hb5
  have RS2 := mkHid (Kd.C_below RS.out hb5)
  clear RS
  clear HBel hb5
  have HBel := mkHid hBN
  clear hBN
  go_wp2_with fail
  refine (PSameInts.same_ints (by have := PN.out; omega) RS2.out kS RT.out kT).mono ?_
  rintro e w6 ⟨rfl, hb6⟩
  have hBN := Below.step (w := w) (by repeat' first | with_reducible exact HBel.out | with_reducible exact Below.refl _ _ | with_reducible refine Below.drew ?_ | with_reducible refine below_drewN ?_ _ | with_reducible refine Below.setCell ?_ ?_ _ | with_reducible refine Below.alloc ?_ ?_ _ | (dsimp only; omega) | (simp <;> fail) | (have := HBel.out.size; simp; omega)) hb6
  clear HBel hb6
  have HBel := mkHid hBN
  clear hBN
  go_wp2_with fail
  go_ret
  exact ⟨by simp, (by repeat' first | with_reducible exact HBel.out | with_reducible exact Below.refl _ _ | with_reducible refine Below.drew ?_ | with_reducible refine below_drewN ?_ _ | with_reducible refine Below.setCell ?_ ?_ _ | with_reducible refine Below.alloc ?_ ?_ _ | (dsimp only; omega) | (simp <;> fail) | (have := HBel.out.size; simp; omega))⟩
end Go.Proofs.Ytkimbkcghmelgaa
