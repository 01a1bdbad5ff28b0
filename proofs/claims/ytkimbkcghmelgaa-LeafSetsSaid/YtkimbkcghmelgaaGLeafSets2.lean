/- 'medlarlaw02.LeafSets' returns true for every input, and each argument reads behind the call as it did before it: no condition. -/
import Derived.Test.YtkimbkcghmelgaaGLeafSets1
import Derived.ProofKit
import Derived.OpenShut
import Derived.ShutString
import Derived.ChangeOld
import Derived.ChangeSame
import Derived.Below
import Derived.SizedLaws
import Derived.Lib.SmallJoins
import Derived.Deep.SlicePairs
namespace Go.Proofs.Ytkimbkcghmelgaa
open Go.RowKit Go.Proofs.YtkimbkcghmelgaaW.PrintWords

set_option maxHeartbeats 2000000 in
theorem ssame_any {s t : List Nat} {z : Bool} (hz : Hid (decide (s = t) = z)) (hn : s.length < 4611686018427387904) (A B : Option Addr) (a b : Nat) (w : World) (hA : Reads w A s) (hB : Reads w B t) :
    Calls Try.prog 43 #[.slice A s.length a, .slice B t.length b] w fun e w' => e = .returned (.bool z) ∧ Below w.heap.size w w' := by
  have HA := mkHid hA
  have HB := mkHid hB
  clear hA hB
  generalize hm : s.length = m at *
  generalize hl : t.length = l at *
  have Hm := mkHid hm
  have Hl := mkHid hl
  clear hm hl
  by_cases c : m = l
  · subst c
    go_enter Try.func43, Try.ntmps43
    go_wp2_with fail
    go_loopw [13] (fun i wr => ∃ k : Nat, k ≤ m ∧ i = .int .i64 (k : Int) ∧ Hid (∀ j, j < k → s.getD j 0 = t.getD j 0) ∧ Hid (Below w.heap.size w wr)) (fun i _ => m - (intOf i).toNat)
    case atStart => exact ⟨0, by omega, rfl, fun j hj => by omega, Below.refl _ _⟩
    case round =>
      obtain ⟨k, hk, rfl, hsame, hBel⟩ := hrel
      by_cases hlt : k < m
      · obtain ⟨ad, rfl, hc⟩ := (HA.out.below hBel.out).cell k (by rw [Hm.out]; exact hlt)
        obtain ⟨bd, rfl, hd⟩ := (HB.out.below hBel.out).cell k (by rw [Hl.out]; exact hlt)
        obtain ⟨x, hx⟩ : ∃ x, Hid (s.getD k 0 = x) := ⟨_, mkHid rfl⟩
        obtain ⟨y, hy⟩ : ∃ y, Hid (t.getD k 0 = y) := ⟨_, mkHid rfl⟩
        rw [hx.out] at hc
        rw [hy.out] at hd
        by_cases e : x = y
        · subst e
          have hsame' : Hid (∀ j, j < k + 1 → s.getD j 0 = t.getD j 0) := mkHid fun j hj => by
            rcases Nat.lt_or_ge j k with c | c
            · exact hsame.out j c
            · obtain rfl : j = k := by omega
              rw [hx.out, hy.out]
          clear hsame
          go_wp2_with fail
          go_quiet (fail)
          go_wp2_with fail
          go_roundw
          case rel => exact ⟨k + 1, by omega, by go_num, hsame', mkHid (below_drewN hBel.out _)⟩
          case measure => simp [intOf]; omega
        · have e1 : ((x : Int) != (y : Int)) = true := bne_iff_ne.2 (by omega)
          have e2 : (x != y) = true := bne_iff_ne.2 e
          obtain rfl : z = false := by
            rw [← hz.out]
            refine decide_eq_false fun q => e ?_
            rw [← hx.out, ← hy.out, q]
          go_wp2_with fail
          go_quiet (fail)
          go_wp2_with fail
          go_ret
          exact ⟨rfl, below_drewN hBel.out _⟩
      · obtain rfl : k = m := by omega
        obtain rfl : z = true := by
          rw [← hz.out]
          refine decide_eq_true (List.ext_getElem (by rw [Hm.out, Hl.out]) fun j h1 h2 => ?_)
          have := hsame.out j (by rw [← Hm.out]; exact h1)
          rwa [getD_eq h1, getD_eq h2] at this
        go_wp2_with fail
        go_ret
        exact ⟨rfl, hBel.out⟩
  · obtain rfl : z = false := by
      rw [← hz.out]
      refine decide_eq_false fun q => c ?_
      rw [← Hm.out, ← Hl.out, q]
    have e1 : ((m : Int) != (l : Int)) = true := bne_iff_ne.2 (by omega)
    have e2 : (m != l) = true := bne_iff_ne.2 c
    have e3 : ((m : Int) == (l : Int)) = false := beq_eq_false_iff_ne.2 (by omega)
    go_enter Try.func43, Try.ntmps43
    go_wp2_with fail
    go_ret
    exact ⟨rfl, Below.refl _ _⟩

/-- the first k, as far as a test lets them by -/
def filTo (p : Nat → Bool) (s : List Nat) (k : Nat) : List Nat := (s.take k).filter p
theorem filTo_zero (p : Nat → Bool) (s : List Nat) : filTo p s 0 = [] := rfl
theorem filTo_yes {p : Nat → Bool} {s : List Nat} {k x : Nat} (hk : k < s.length) (hx : s.getD k 0 = x) (h : p x = true) : filTo p s (k + 1) = filTo p s k ++ [x] := by
  unfold filTo
  rw [List.take_succ_eq_append_getElem hk, List.filter_append]
  rw [getD_eq hk] at hx
  rw [hx, List.filter_cons_of_pos h, List.filter_nil]
theorem filTo_not {p : Nat → Bool} {s : List Nat} {k x : Nat} (hk : k < s.length) (hx : s.getD k 0 = x) (h : p x = false) : filTo p s (k + 1) = filTo p s k := by
  unfold filTo
  rw [List.take_succ_eq_append_getElem hk, List.filter_append]
  rw [getD_eq hk] at hx
  rw [hx, List.filter_cons_of_neg (by rw [h]; decide), List.filter_nil, List.append_nil]
theorem filTo_all (p : Nat → Bool) (s : List Nat) : filTo p s s.length = s.filter p := by unfold filTo; rw [List.take_length]
theorem filTo_le (p : Nat → Bool) (s : List Nat) (k : Nat) : (filTo p s k).length ≤ s.length := by
  unfold filTo
  exact Nat.le_trans (List.length_filter_le _ _) (by rw [List.length_take]; omega)
theorem Reads.one (w : World) (x : Nat) : Reads (w.alloc (.cells #[.int .u64 (x : Int)] 22)) (some ⟨w.heap.size, 0, none⟩) [x] := Reads.of_cells (by simp) fun j hj => by
  have : j = 0 := by simpa using hj
  subst this
  rw [addr_zero]
  simp
/-- a row of the call's own, as a law on appending one number asks for it -/
def RowOf (w : World) (base : Nat) (v : Value) (S : List Nat) : Prop := w.ownsRow base 22 1 v S.length (natCells S)

set_option maxRecDepth 100000 in
set_option maxHeartbeats 4000000 in
theorem swith_yes {h : Nat} (h1 : 1 ≤ h) (h2 : h ≤ 32) {s : List Nat} (hs : Hid (SetOk h s)) {t : Nat} (ht : t < 2 ^ h) (hx : Hid (t ∉ s)) (hl : s.length < 1024) (A : Option Addr) (c : Nat) (w : World) (hA : Reads w A s) :
    Calls Try.prog 50 #[.int .i64 (h : Int), .slice A s.length c, .int .u64 (t : Int)] w fun e w' =>
      ∃ v, e = .returned (.tuple #[v, .int .i64 0]) ∧ w'.ownsRow w.heap.size 22 1 v (addL s t).length (natCells (addL s t)) ∧ Below w.heap.size w w' := by
  have hz := mkHid (decide_eq_false hx.out)
  have HA := mkHid hA
  have HT := mkHid ht
  have hl' : ((s.length : Int) == 1024) = false := beq_eq_false_iff_ne.2 (by omega)
  have HF : Hid (∀ k, (filTo (fun y => decide (y < t)) s k).length ≤ s.length ∧ (filTo (fun y => decide (t < y)) s k).length ≤ s.length) := mkHid fun k => ⟨filTo_le _ _ _, filTo_le _ _ _⟩
  clear hA ht
  go_enter Try.func50, Try.ntmps50
  go_wp2_with (go_at_call 48; ((with_reducible refine (shas_yes h1 h2 hs HT.out hz _ _ _ HA.out).mono ?_); rintro e w' ⟨rfl, hw'⟩; obtain rfl := hw'.symm))
  go_loopw [10, 31] (fun v i wr => ∃ (k : Nat) (S : List Nat), k ≤ s.length ∧ i = .int .i64 (k : Int) ∧ Hid (S = filTo (fun y => decide (y < t)) s k) ∧ Hid (RowOf wr w.heap.size v S) ∧ Hid (Below w.heap.size w wr)) (fun _ i _ => s.length - (intOf i).toNat)
  case atStart => exact ⟨0, [], by omega, rfl, rfl, World.ownsRow_nil _ _ _ _, Below.refl _ _⟩
  case round =>
    obtain ⟨k, S, hk, rfl, hS, hR, hB⟩ := hrel
    have hSl : S.length ≤ s.length := by rw [hS.out]; exact (HF.out k).1
    by_cases hlt : k < s.length
    · obtain ⟨ad, rfl, hc⟩ := (HA.out.below hB.out).cell k hlt
      obtain ⟨x, hx⟩ : ∃ x, Hid (s.getD k 0 = x) := ⟨_, mkHid rfl⟩
      rw [hx.out] at hc
      by_cases e : x < t
      · have e1 : decide ((x : Int) < (t : Int)) = true := decide_eq_true (by omega)
        have e2 : decide (x < t) = true := decide_eq_true e
        have hS' : Hid (S ++ [x] = filTo (fun y => decide (y < t)) s (k + 1)) := mkHid (by rw [filTo_yes hlt hx.out e2, hS.out])
        clear hS
        go_wp2_with (at_builtin; refine wpList_append_u64 (by first | rfl | simp [Region.wanted, yielded]) _ _ rfl w.heap.size _ S rfl (hR.out.alloc _) _ _ [x] rfl (Reads.one _ _) (fun e => by cases e) (by simp; omega) (by have := hB.out.size; simp; omega) ?_; intro v2 w2 ho2 hb2)
        have HR2 : Hid (RowOf w2 w.heap.size v2 (S ++ [x])) := mkHid ho2
        have HB2 := mkHid ((hB.out.alloc hB.out.size (.cells #[.int .u64 (x : Int)] 22)).trans hb2)
        clear ho2 hb2 hR hB
        go_wp2_with fail
        go_roundw
        case rel => exact ⟨k + 1, _, by omega, by go_num, hS', HR2, HB2⟩
        case measure => simp [intOf]; omega
      · have e1 : decide ((x : Int) < (t : Int)) = false := decide_eq_false (by omega)
        have e2 : decide (x < t) = false := decide_eq_false e
        have hS' : Hid (S = filTo (fun y => decide (y < t)) s (k + 1)) := mkHid (by rw [filTo_not hlt hx.out e2, hS.out])
        clear hS
        go_wp2_with fail
        go_roundw
        case rel => exact ⟨k + 1, S, by omega, by go_num, hS', hR, hB⟩
        case measure => simp [intOf]; omega
    · obtain rfl : k = s.length := by omega
      have HS1 : Hid (S = s.filter (fun y => decide (y < t))) := mkHid (by rw [hS.out, filTo_all])
      clear hS
      go_wp2_with (at_builtin; refine wpList_append_u64 (by first | rfl | simp [Region.wanted, yielded]) _ _ rfl w.heap.size _ S rfl (hR.out.alloc _) _ _ [t] rfl (Reads.one _ _) (fun e => by cases e) (by simp; omega) (by have := hB.out.size; simp; omega) ?_; intro v2 w2 ho2 hb2)
      have HR2 : Hid (RowOf w2 w.heap.size v2 (S ++ [t])) := mkHid ho2
      have HB2 := mkHid ((hB.out.alloc hB.out.size (.cells #[.int .u64 (t : Int)] 22)).trans hb2)
      clear ho2 hb2 hR hB
      go_wp2_with fail
      go_loopw [10, 49] (fun v i wr => ∃ (k : Nat) (U : List Nat), k ≤ s.length ∧ i = .int .i64 (k : Int) ∧ Hid (U = filTo (fun y => decide (t < y)) s k) ∧ Hid (RowOf wr w.heap.size v (S ++ [t] ++ U)) ∧ Hid (Below w.heap.size w wr)) (fun _ i _ => s.length - (intOf i).toNat)
      case atStart => exact ⟨0, [], by omega, rfl, rfl, mkHid (by rw [List.append_nil]; exact HR2.out), HB2⟩
      case round =>
        clear HR2 HB2
        obtain ⟨k, U, hk, rfl, hU, hR, hB⟩ := hrel
        have hUl : U.length ≤ s.length := by rw [hU.out]; exact (HF.out k).2
        have hSUl : (S ++ [t] ++ U).length = S.length + 1 + U.length := by simp; omega
        by_cases hlt : k < s.length
        · obtain ⟨ad, rfl, hc⟩ := (HA.out.below hB.out).cell k hlt
          obtain ⟨x, hx⟩ : ∃ x, Hid (s.getD k 0 = x) := ⟨_, mkHid rfl⟩
          rw [hx.out] at hc
          by_cases e : t < x
          · have e1 : decide ((t : Int) < (x : Int)) = true := decide_eq_true (by omega)
            have e2 : decide (t < x) = true := decide_eq_true e
            have hU' : Hid (U ++ [x] = filTo (fun y => decide (t < y)) s (k + 1)) := mkHid (by rw [filTo_yes hlt hx.out e2, hU.out])
            clear hU
            generalize hSU : S ++ [t] ++ U = SU at *
            have HSU := mkHid hSU
            clear hSU
            go_wp2_with (at_builtin; refine wpList_append_u64 (by first | rfl | simp [Region.wanted, yielded]) _ _ rfl w.heap.size _ SU rfl (hR.out.alloc _) _ _ [x] rfl (Reads.one _ _) (fun e => by cases e) (by simp; omega) (by have := hB.out.size; simp; omega) ?_; intro v3 w3 ho2 hb2)
            have HR2 : Hid (RowOf w3 w.heap.size v3 (S ++ [t] ++ (U ++ [x]))) := mkHid (by rw [← List.append_assoc, HSU.out]; exact ho2)
            have HB2 := mkHid ((hB.out.alloc hB.out.size (.cells #[.int .u64 (x : Int)] 22)).trans hb2)
            clear ho2 hb2 hR hB
            go_wp2_with fail
            go_roundw
            case rel => exact ⟨k + 1, _, by omega, by go_num, hU', HR2, HB2⟩
            case measure => simp [intOf]; omega
          · have e1 : decide ((t : Int) < (x : Int)) = false := decide_eq_false (by omega)
            have e2 : decide (t < x) = false := decide_eq_false e
            have hU' : Hid (U = filTo (fun y => decide (t < y)) s (k + 1)) := mkHid (by rw [filTo_not hlt hx.out e2, hU.out])
            clear hU
            go_wp2_with fail
            go_roundw
            case rel => exact ⟨k + 1, U, by omega, by go_num, hU', hR, hB⟩
            case measure => simp [intOf]; omega
        · obtain rfl : k = s.length := by omega
          have HE : Hid (S ++ [t] ++ U = addL s t) := mkHid (by rw [hU.out, filTo_all, HS1.out]; unfold addL; rw [List.append_assoc]; rfl)
          clear hU HS1
          go_wp2_with fail
          go_ret2
          exact ⟨u10, by simp, by rw [← HE.out]; exact hR.out, hB.out⟩
set_option maxHeartbeats 400000 in
theorem swith_there {h : Nat} (h1 : 1 ≤ h) (h2 : h ≤ 32) {s : List Nat} (hs : Hid (SetOk h s)) {t : Nat} (ht : t < 2 ^ h) (hx : Hid (t ∈ s)) (A : Option Addr) (c : Nat) (w : World) (hA : Reads w A s) :
    Calls Try.prog 50 #[.int .i64 (h : Int), .slice A s.length c, .int .u64 (t : Int)] w fun e w' => e = .returned (.tuple #[.slice none 0 0, .int .i64 5]) ∧ w' = w := by
  have hz := mkHid (decide_eq_true hx.out)
  have HA := mkHid hA
  have HT := mkHid ht
  clear hA ht
  go_enter Try.func50, Try.ntmps50
  go_wp2_with (go_at_call 48; ((with_reducible refine (shas_yes h1 h2 hs HT.out hz _ _ _ HA.out).mono ?_); rintro e w' ⟨rfl, hw'⟩; obtain rfl := hw'.symm))
  go_ret2
  exact ⟨by simp, rfl⟩
set_option maxHeartbeats 400000 in
theorem swith_full {h : Nat} (h1 : 1 ≤ h) (h2 : h ≤ 32) {s : List Nat} (hs : Hid (SetOk h s)) {t : Nat} (ht : t < 2 ^ h) (hx : Hid (t ∉ s)) (hl : s.length = 1024) (A : Option Addr) (c : Nat) (w : World) (hA : Reads w A s) :
    Calls Try.prog 50 #[.int .i64 (h : Int), .slice A s.length c, .int .u64 (t : Int)] w fun e w' => e = .returned (.tuple #[.slice none 0 0, .int .i64 6]) ∧ w' = w := by
  have hz := mkHid (decide_eq_false hx.out)
  have HA := mkHid hA
  have HT := mkHid ht
  have hl' : ((s.length : Int) == 1024) = true := beq_iff_eq.2 (by omega)
  clear hA ht hl
  go_enter Try.func50, Try.ntmps50
  go_wp2_with (go_at_call 48; ((with_reducible refine (shas_yes h1 h2 hs HT.out hz _ _ _ HA.out).mono ?_); rintro e w' ⟨rfl, hw'⟩; obtain rfl := hw'.symm))
  go_ret2
  exact ⟨by simp, rfl⟩
set_option maxHeartbeats 400000 in
theorem swith_no {h : Int} {s : List Nat} {t : Nat} (R : Refuses h s t) (A : Option Addr) (c : Nat) (w : World) (hA : Reads w A s) :
    Calls Try.prog 50 #[.int .i64 h, .slice A s.length c, .int .u64 (t : Int)] w fun e w' => e = .returned (.tuple #[.slice none 0 0, .int .i64 1]) ∧ w' = w := by
  have HA := mkHid hA
  have HR := mkHid R
  clear hA R
  go_enter Try.func50, Try.ntmps50
  go_wp2_with (go_at_call 48; ((with_reducible refine (shas_no HR.out _ _ _ HA.out).mono ?_); rintro e w' ⟨rfl, hw'⟩; obtain rfl := hw'.symm))
  go_ret2
  exact ⟨by simp, rfl⟩
set_option maxRecDepth 100000 in
set_option maxHeartbeats 4000000 in
theorem swithout_yes {h : Nat} (h1 : 1 ≤ h) (h2 : h ≤ 32) {s : List Nat} (hs : Hid (SetOk h s)) {t : Nat} (ht : t < 2 ^ h) (hx : Hid (t ∈ s)) (A : Option Addr) (c : Nat) (w : World) (hA : Reads w A s) :
    Calls Try.prog 52 #[.int .i64 (h : Int), .slice A s.length c, .int .u64 (t : Int)] w fun e w' =>
      ∃ v, e = .returned (.tuple #[v, .int .i64 0]) ∧ w'.ownsRow w.heap.size 22 1 v (remL s t).length (natCells (remL s t)) ∧ Below w.heap.size w w' := by
  have hz := mkHid (decide_eq_true hx.out)
  have hl := hs.out.1
  have HA := mkHid hA
  have HT := mkHid ht
  have HF : Hid (∀ k, (filTo (fun y => decide (y ≠ t)) s k).length ≤ s.length) := mkHid fun k => filTo_le _ _ _
  clear hA ht
  go_enter Try.func52, Try.ntmps52
  go_wp2_with (go_at_call 48; ((with_reducible refine (shas_yes h1 h2 hs HT.out hz _ _ _ HA.out).mono ?_); rintro e w' ⟨rfl, hw'⟩; obtain rfl := hw'.symm))
  go_loopw [10, 27] (fun v i wr => ∃ (k : Nat) (S : List Nat), k ≤ s.length ∧ i = .int .i64 (k : Int) ∧ Hid (S = filTo (fun y => decide (y ≠ t)) s k) ∧ Hid (RowOf wr w.heap.size v S) ∧ Hid (Below w.heap.size w wr)) (fun _ i _ => s.length - (intOf i).toNat)
  case atStart => exact ⟨0, [], by omega, rfl, rfl, World.ownsRow_nil _ _ _ _, Below.refl _ _⟩
  case round =>
    obtain ⟨k, S, hk, rfl, hS, hR, hB⟩ := hrel
    have hSl : S.length ≤ s.length := by rw [hS.out]; exact HF.out k
    by_cases hlt : k < s.length
    · obtain ⟨ad, rfl, hc⟩ := (HA.out.below hB.out).cell k hlt
      obtain ⟨x, hx⟩ : ∃ x, Hid (s.getD k 0 = x) := ⟨_, mkHid rfl⟩
      rw [hx.out] at hc
      by_cases e : x = t
      · have e1 : ((x : Int) != (t : Int)) = false := by rw [e]; simp
        have e2 : decide (x ≠ t) = false := decide_eq_false (fun c => c e)
        have e3 : (x != t) = false := by rw [e]; simp
        have hS' : Hid (S = filTo (fun y => decide (y ≠ t)) s (k + 1)) := mkHid (by rw [filTo_not hlt hx.out e2, hS.out])
        clear hS e
        go_wp2_with fail
        go_roundw
        case rel => exact ⟨k + 1, S, by omega, by go_num, hS', hR, hB⟩
        case measure => simp [intOf]; omega
      · have e1 : ((x : Int) != (t : Int)) = true := bne_iff_ne.2 (by omega)
        have e2 : decide (x ≠ t) = true := decide_eq_true e
        have e3 : (x != t) = true := bne_iff_ne.2 e
        have hS' : Hid (S ++ [x] = filTo (fun y => decide (y ≠ t)) s (k + 1)) := mkHid (by rw [filTo_yes hlt hx.out e2, hS.out])
        clear hS
        go_wp2_with (at_builtin; refine wpList_append_u64 (by first | rfl | simp [Region.wanted, yielded]) _ _ rfl w.heap.size _ S rfl (hR.out.alloc _) _ _ [x] rfl (Reads.one _ _) (fun e => by cases e) (by simp; omega) (by have := hB.out.size; simp; omega) ?_; intro v2 w2 ho2 hb2)
        have HR2 : Hid (RowOf w2 w.heap.size v2 (S ++ [x])) := mkHid ho2
        have HB2 := mkHid ((hB.out.alloc hB.out.size (.cells #[.int .u64 (x : Int)] 22)).trans hb2)
        clear ho2 hb2 hR hB
        go_wp2_with fail
        go_roundw
        case rel => exact ⟨k + 1, _, by omega, by go_num, hS', HR2, HB2⟩
        case measure => simp [intOf]; omega
    · obtain rfl : k = s.length := by omega
      have HE : Hid (S = remL s t) := mkHid (by rw [hS.out, filTo_all]; rfl)
      clear hS
      go_wp2_with fail
      go_ret2
      exact ⟨u10, by simp, by rw [← HE.out]; exact hR.out, hB.out⟩
set_option maxHeartbeats 400000 in
theorem swithout_none {h : Nat} (h1 : 1 ≤ h) (h2 : h ≤ 32) {s : List Nat} (hs : Hid (SetOk h s)) {t : Nat} (ht : t < 2 ^ h) (hx : Hid (t ∉ s)) (A : Option Addr) (c : Nat) (w : World) (hA : Reads w A s) :
    Calls Try.prog 52 #[.int .i64 (h : Int), .slice A s.length c, .int .u64 (t : Int)] w fun e w' => e = .returned (.tuple #[.slice none 0 0, .int .i64 4]) ∧ w' = w := by
  have hz := mkHid (decide_eq_false hx.out)
  have HA := mkHid hA
  have HT := mkHid ht
  clear hA ht
  go_enter Try.func52, Try.ntmps52
  go_wp2_with (go_at_call 48; ((with_reducible refine (shas_yes h1 h2 hs HT.out hz _ _ _ HA.out).mono ?_); rintro e w' ⟨rfl, hw'⟩; obtain rfl := hw'.symm))
  go_ret2
  exact ⟨by simp, rfl⟩
set_option maxHeartbeats 400000 in
theorem swithout_no {h : Int} {s : List Nat} {t : Nat} (R : Refuses h s t) (A : Option Addr) (c : Nat) (w : World) (hA : Reads w A s) :
    Calls Try.prog 52 #[.int .i64 h, .slice A s.length c, .int .u64 (t : Int)] w fun e w' => e = .returned (.tuple #[.slice none 0 0, .int .i64 1]) ∧ w' = w := by
  have HA := mkHid hA
  have HR := mkHid R
  clear hA R
  go_enter Try.func52, Try.ntmps52
  go_wp2_with (go_at_call 48; ((with_reducible refine (shas_no HR.out _ _ _ HA.out).mono ?_); rintro e w' ⟨rfl, hw'⟩; obtain rfl := hw'.symm))
  go_ret2
  exact ⟨by simp, rfl⟩
end Go.Proofs.Ytkimbkcghmelgaa

namespace Go.Proofs.Ytkimbkcghmelgaa
open Go.RowKit

/-- a list of the call's own, and an error's number -/
def WPost (L : List Nat) (r : Int) (w : World) (e : Ending) (w' : World) : Prop := ∃ v, e = .returned (.tuple #[v, .int .i64 r]) ∧ RowOf w' w.heap.size v L ∧ Below w.heap.size w w'
theorem WPost.none {f : FuncId} {a : Array Value} {r : Int} {w : World} (k : Calls Try.prog f a w fun e w' => e = .returned (.tuple #[.slice none 0 0, .int .i64 r]) ∧ w' = w) : Calls Try.prog f a w (WPost [] r w) :=
  k.mono fun _ w' ⟨h1, h2⟩ => ⟨_, h1, by subst h2; exact World.ownsRow_nil _ _ _ _, by subst h2; exact Below.refl _ _⟩
theorem refuses_or (h : Int) (s : List Nat) (t : Nat) : Refuses h s t ∨ ∃ k : Nat, h = (k : Int) ∧ 1 ≤ k ∧ k ≤ 32 ∧ SetOk k s ∧ t < 2 ^ k := by
  by_cases c : (1 ≤ h ∧ h ≤ 32) ∧ SetOk h.toNat s ∧ t < 2 ^ h.toNat
  · exact .inr ⟨h.toNat, by omega, by omega, by omega, c.2.1, c.2.2⟩
  · exact .inl ⟨c⟩
instance (h : Nat) (s : List Nat) (k : Nat) : Decidable (OkTo h s k) := by unfold OkTo; infer_instance
instance (h : Nat) (s : List Nat) : Decidable (SetOk h s) := by unfold SetOk; infer_instance
/-- what With answers -/
def withAns (s : List Nat) (t : Nat) : List Nat × Int := if t ∈ s then ([], 5) else if s.length = 1024 then ([], 6) else (addL s t, 0)
def withoutAns (s : List Nat) (t : Nat) : List Nat × Int := if t ∈ s then (remL s t, 0) else ([], 4)
def withAll (h : Int) (s : List Nat) (t : Nat) : List Nat × Int := if (1 ≤ h ∧ h ≤ 32) ∧ SetOk h.toNat s ∧ t < 2 ^ h.toNat then withAns s t else ([], 1)
def withoutAll (h : Int) (s : List Nat) (t : Nat) : List Nat × Int := if (1 ≤ h ∧ h ≤ 32) ∧ SetOk h.toNat s ∧ t < 2 ^ h.toNat then withoutAns s t else ([], 1)
def hasAll (h : Int) (s : List Nat) (t : Nat) : Bool × Int := if (1 ≤ h ∧ h ≤ 32) ∧ SetOk h.toNat s ∧ t < 2 ^ h.toNat then (decide (t ∈ s), 0) else (false, 1)
def checkAll (h : Int) (s : List Nat) : Int := if (1 ≤ h ∧ h ≤ 32) ∧ SetOk h.toNat s then 0 else 1
theorem with_all (h : Int) (s : List Nat) (t : Nat) {L : List Nat} {r : Int} (e : Hid (withAll h s t = (L, r))) (A : Option Addr) (c : Nat) (w : World) (hA : Reads w A s) :
    Calls Try.prog 49 #[.int .i64 h, .slice A s.length c, .int .u64 (t : Int)] w (WPost L r w) := by
  have e' := e.out
  unfold withAll at e'
  split at e'
  · rename_i c0
    obtain ⟨n, rfl⟩ : ∃ n : Nat, h = n := ⟨h.toNat, by omega⟩
    rw [Int.toNat_natCast] at c0
    obtain ⟨⟨h1, h2⟩, hs, ht⟩ := c0
    unfold withAns at e'
    split at e'
    · rename_i hx; cases e'; exact WPost.none (with_there (by omega) (by omega) (mkHid hs) ht (mkHid hx) A c w hA)
    · rename_i hx
      split at e'
      · rename_i hl; cases e'; exact WPost.none (with_full (by omega) (by omega) (mkHid hs) ht (mkHid hx) hl A c w hA)
      · rename_i hl; cases e'; exact with_yes (by omega) (by omega) (mkHid hs) ht (mkHid hx) (by have := hs.1; omega) A c w hA
  · rename_i c0; cases e'; exact WPost.none (with_no ⟨c0⟩ A c w hA)
theorem swith_all (h : Int) (s : List Nat) (t : Nat) {L : List Nat} {r : Int} (e : Hid (withAll h s t = (L, r))) (A : Option Addr) (c : Nat) (w : World) (hA : Reads w A s) :
    Calls Try.prog 50 #[.int .i64 h, .slice A s.length c, .int .u64 (t : Int)] w (WPost L r w) := by
  have e' := e.out
  unfold withAll at e'
  split at e'
  · rename_i c0
    obtain ⟨n, rfl⟩ : ∃ n : Nat, h = n := ⟨h.toNat, by omega⟩
    rw [Int.toNat_natCast] at c0
    obtain ⟨⟨h1, h2⟩, hs, ht⟩ := c0
    unfold withAns at e'
    split at e'
    · rename_i hx; cases e'; exact WPost.none (swith_there (by omega) (by omega) (mkHid hs) ht (mkHid hx) A c w hA)
    · rename_i hx
      split at e'
      · rename_i hl; cases e'; exact WPost.none (swith_full (by omega) (by omega) (mkHid hs) ht (mkHid hx) hl A c w hA)
      · rename_i hl; cases e'; exact swith_yes (by omega) (by omega) (mkHid hs) ht (mkHid hx) (by have := hs.1; omega) A c w hA
  · rename_i c0; cases e'; exact WPost.none (swith_no ⟨c0⟩ A c w hA)
theorem without_all (h : Int) (s : List Nat) (t : Nat) {L : List Nat} {r : Int} (e : Hid (withoutAll h s t = (L, r))) (A : Option Addr) (c : Nat) (w : World) (hA : Reads w A s) :
    Calls Try.prog 51 #[.int .i64 h, .slice A s.length c, .int .u64 (t : Int)] w (WPost L r w) := by
  have e' := e.out
  unfold withoutAll at e'
  split at e'
  · rename_i c0
    obtain ⟨n, rfl⟩ : ∃ n : Nat, h = n := ⟨h.toNat, by omega⟩
    rw [Int.toNat_natCast] at c0
    obtain ⟨⟨h1, h2⟩, hs, ht⟩ := c0
    unfold withoutAns at e'
    split at e'
    · rename_i hx; cases e'; exact without_yes (by omega) (by omega) (mkHid hs) ht (mkHid hx) A c w hA
    · rename_i hx; cases e'; exact WPost.none (without_none (by omega) (by omega) (mkHid hs) ht (mkHid hx) A c w hA)
  · rename_i c0; cases e'; exact WPost.none (without_no ⟨c0⟩ A c w hA)
theorem swithout_all (h : Int) (s : List Nat) (t : Nat) {L : List Nat} {r : Int} (e : Hid (withoutAll h s t = (L, r))) (A : Option Addr) (c : Nat) (w : World) (hA : Reads w A s) :
    Calls Try.prog 52 #[.int .i64 h, .slice A s.length c, .int .u64 (t : Int)] w (WPost L r w) := by
  have e' := e.out
  unfold withoutAll at e'
  split at e'
  · rename_i c0
    obtain ⟨n, rfl⟩ : ∃ n : Nat, h = n := ⟨h.toNat, by omega⟩
    rw [Int.toNat_natCast] at c0
    obtain ⟨⟨h1, h2⟩, hs, ht⟩ := c0
    unfold withoutAns at e'
    split at e'
    · rename_i hx; cases e'; exact swithout_yes (by omega) (by omega) (mkHid hs) ht (mkHid hx) A c w hA
    · rename_i hx; cases e'; exact WPost.none (swithout_none (by omega) (by omega) (mkHid hs) ht (mkHid hx) A c w hA)
  · rename_i c0; cases e'; exact WPost.none (swithout_no ⟨c0⟩ A c w hA)
theorem has_all (h : Int) (s : List Nat) (t : Nat) {z : Bool} {r : Int} (e : Hid (hasAll h s t = (z, r))) (A : Option Addr) (c : Nat) (w : World) (hA : Reads w A s) :
    Calls Try.prog 41 #[.int .i64 h, .slice A s.length c, .int .u64 (t : Int)] w fun e w' => e = .returned (.tuple #[.bool z, .int .i64 r]) ∧ w' = w := by
  have e' := e.out
  unfold hasAll at e'
  split at e'
  · rename_i c0
    obtain ⟨n, rfl⟩ : ∃ n : Nat, h = n := ⟨h.toNat, by omega⟩
    rw [Int.toNat_natCast] at c0
    obtain ⟨⟨h1, h2⟩, hs, ht⟩ := c0
    cases e'
    exact has_yes (by omega) (by omega) (mkHid hs) ht (mkHid rfl) A c w hA
  · rename_i c0; cases e'; exact has_no ⟨c0⟩ A c w hA
theorem shas_all (h : Int) (s : List Nat) (t : Nat) {z : Bool} {r : Int} (e : Hid (hasAll h s t = (z, r))) (A : Option Addr) (c : Nat) (w : World) (hA : Reads w A s) :
    Calls Try.prog 48 #[.int .i64 h, .slice A s.length c, .int .u64 (t : Int)] w fun e w' => e = .returned (.tuple #[.bool z, .int .i64 r]) ∧ w' = w := by
  have e' := e.out
  unfold hasAll at e'
  split at e'
  · rename_i c0
    obtain ⟨n, rfl⟩ : ∃ n : Nat, h = n := ⟨h.toNat, by omega⟩
    rw [Int.toNat_natCast] at c0
    obtain ⟨⟨h1, h2⟩, hs, ht⟩ := c0
    cases e'
    exact shas_yes (by omega) (by omega) (mkHid hs) ht (mkHid rfl) A c w hA
  · rename_i c0; cases e'; exact shas_no ⟨c0⟩ A c w hA
theorem check_all (h : Int) (s : List Nat) {r : Int} (e : Hid (checkAll h s = r)) (A : Option Addr) (c : Nat) (w : World) (hA : Reads w A s) :
    Calls Try.prog 53 #[.int .i64 h, .slice A s.length c] w fun e w' => e = .returned (.int .i64 r) ∧ w' = w := by
  have e' := e.out
  unfold checkAll at e'
  by_cases H : 1 ≤ h ∧ h ≤ 32
  · obtain ⟨n, rfl⟩ : ∃ n : Nat, h = n := ⟨h.toNat, by omega⟩
    rw [Int.toNat_natCast] at e'
    split at e'
    · rename_i c0; cases e'; exact lcheck_yes (by omega) (by omega) c0.2 A c w hA
    · rename_i c0; cases e'; exact lcheck_no (by omega) (by omega) (fun q => c0 ⟨H, q⟩) A c w hA
  · rw [if_neg (fun q => H q.1)] at e'
    cases e'
    exact lcheck_bad (by omega) A _ c w
theorem scheck_all (h : Int) (s : List Nat) {r : Int} (e : Hid (checkAll h s = r)) (A : Option Addr) (c : Nat) (w : World) (hA : Reads w A s) :
    Calls Try.prog 54 #[.int .i64 h, .slice A s.length c] w fun e w' => e = .returned (.int .i64 r) ∧ w' = w := by
  have e' := e.out
  unfold checkAll at e'
  by_cases H : 1 ≤ h ∧ h ≤ 32
  · obtain ⟨n, rfl⟩ : ∃ n : Nat, h = n := ⟨h.toNat, by omega⟩
    rw [Int.toNat_natCast] at e'
    split at e'
    · rename_i c0; cases e'; exact scheck_yes (by omega) (by omega) c0.2 A c w hA
    · rename_i c0; cases e'; exact scheck_no (by omega) (by omega) (fun q => c0 ⟨H, q⟩) A c w hA
  · rw [if_neg (fun q => H q.1)] at e'
    cases e'
    exact scheck_bad (by omega) A _ c w
theorem withAll_len {h : Int} {s : List Nat} {t : Nat} {L : List Nat} {r : Int} (e : withAll h s t = (L, r)) : L.length ≤ 1024 := by
  unfold withAll withAns at e
  split at e
  · rename_i c0
    split at e
    · cases e; decide
    · rename_i hx
      split at e
      · cases e; decide
      · rename_i hl
        cases e
        rw [addL_length c0.2.1 hx]
        have := c0.2.1.1
        omega
  · cases e; decide
theorem withoutAll_len {h : Int} {s : List Nat} {t : Nat} {L : List Nat} {r : Int} (e : withoutAll h s t = (L, r)) : L.length ≤ 1024 := by
  unfold withoutAll withoutAns at e
  split at e
  · rename_i c0
    split at e
    · rename_i hx
      cases e
      have := remL_length c0.2.1 hx
      have := c0.2.1.1
      omega
    · cases e; decide
  · cases e; decide
end Go.Proofs.Ytkimbkcghmelgaa

namespace Go.Proofs.Ytkimbkcghmelgaa
open Go.ChangeShapes Go.WideShapes Go.ChangeAt Go.RowKit

theorem own : ownKnob Try.prog.godebug = none := by kernel_rfl
theorem laidOut : laidOutB Try.prog = true := by kernel_rfl
end Go.Proofs.Ytkimbkcghmelgaa

namespace Go.Proofs.Ytkimbkcghmelgaa
open Go.ChangeShapes Go.WideShapes Go.ChangeAt Go.RowKit Go.Deep

theorem cells_u64' : Try.prog.cellsOf 22 = 1 := by kernel_rfl
theorem cells_span : Try.prog.cellsOf 25 = 2 := by kernel_rfl
section
variable {H : Type} {enc : TypeId × Value → H} {w : World} {r : Reach} {b0 base : Nat} {spare : Nat → Bool} {held : Bool}

theorem open_leavesn {v : Value} {d : DataW H} {p : List MemPlace} (hv : Value.okWide Try.prog w r b0 49 v) (h : DataW.Trod enc Try.prog w base (fun _ => true) held 49 v d p) :
    ∃ (a : Option Addr) (s : List Nat) (cap : Nat), v = .slice a s.length cap ∧ s.length ≤ cap ∧ cap ≤ maxLen ∧ Reads w a s ∧ (∀ j, s.getD j 0 < 18446744073709551616) ∧ (a = none → cap = 0) := by
  obtain ⟨a, len, cap, rfl⟩ := okWide_slice Try.underlying49 hv
  obtain ⟨fuel, hf⟩ := h
  rcases open_ints Try.underlying49 Try.underlying22 cells_u64' hf with ⟨hcs, _⟩ | ⟨x, l, c, z, hcs, _, hl, hm, hz, _, hcell, hwz⟩
  · simp [Value.cells] at hcs
    obtain ⟨rfl, rfl, rfl⟩ := hcs
    exact ⟨none, [], 0, rfl, Nat.le_refl _, by unfold maxLen; omega, Reads.nil _, fun j => by simp, fun _ => rfl⟩
  · simp [Value.cells] at hcs
    obtain ⟨rfl, rfl, rfl⟩ := hcs
    simp only [if_true] at hz
    have hlen : ((z.take len).map Int.toNat).length = len := by simp; omega
    have hget : ∀ j, j < len → ∃ y : Nat, z.getD j 0 = (y : Int) ∧ ((z.take len).map Int.toNat).getD j 0 = y ∧ y < 18446744073709551616 := by
      intro j hj
      have hzi : z.getD j 0 = z[j]'(by omega) := by simp [List.getD, List.getElem?_eq_getElem (show j < z.length by omega)]
      have hw := hwz _ (List.getElem_mem (show j < z.length by omega))
      obtain ⟨y, hy, hy2⟩ := nat_u64 hw
      refine ⟨y, by rw [hzi, hy], ?_, hy2⟩
      rw [List.getD_eq_getElem?_getD, List.getElem?_map, List.getElem?_take, if_pos hj, List.getElem?_eq_getElem (show j < z.length by omega), hy]
      simp
    refine ⟨some x, (z.take len).map Int.toNat, cap, by rw [hlen], by omega, hm, ?_, fun j => ?_, fun e => by cases e⟩
    · refine Reads.of_cells (by rw [hlen]; unfold maxLen at hm; omega) fun j hj => ?_
      rw [hlen] at hj
      obtain ⟨y, e1, e2, _⟩ := hget j hj
      rw [e2, ← e1]
      exact hcell j (by omega)
    · by_cases hj : j < len
      · obtain ⟨y, _, e2, e3⟩ := hget j hj
        rw [e2]; exact e3
      · rw [List.getD_eq_getElem?_getD, List.getElem?_eq_none (by omega)]; decide
theorem open_leaves {v : Value} {d : DataW H} {p : List MemPlace} (hv : Value.okWide Try.prog w r b0 49 v) (h : DataW.Trod enc Try.prog w base (fun _ => true) held 49 v d p) :
    ∃ (a : Option Addr) (s : List Nat) (cap : Nat), v = .slice a s.length cap ∧ s.length ≤ cap ∧ cap ≤ maxLen ∧ Reads w a s ∧ (∀ j, s.getD j 0 < 18446744073709551616) := by
  obtain ⟨a, s, cap, h1, h2, h3, h4, h5, _⟩ := open_leavesn hv h
  exact ⟨a, s, cap, h1, h2, h3, h4, h5⟩
theorem open_spans {v : Value} {d : DataW H} {p : List MemPlace} (hv : Value.okWide Try.prog w r b0 46 v) (h : DataW.Trod enc Try.prog w base (fun _ => true) held 46 v d p) :
    ∃ (a : Option Addr) (l : List (Nat × Nat)) (cap : Nat), v = .slice a l.length cap ∧ l.length ≤ cap ∧ cap ≤ maxLen ∧ Spans w a l := by
  obtain ⟨a, len, cap, rfl⟩ := okWide_slice Try.underlying46 hv
  obtain ⟨fuel, hf⟩ := h
  rcases open_slice_pairs Try.underlying46 Try.underlying25 cells_span rfl rfl cells_u64' cells_u64' hf with ⟨hcs, _⟩ | ⟨x, l, c, m, n, V0, V1, D0, D1, P0, P1, hcs, _, hl, hm, hmm, _, hall⟩
  · simp [Value.cells] at hcs
    obtain ⟨rfl, rfl, rfl⟩ := hcs
    exact ⟨none, [], 0, rfl, Nat.le_refl _, by unfold maxLen; omega, by decide, fun h => by simp at h⟩
  · simp [Value.cells] at hcs
    obtain ⟨rfl, rfl, rfl⟩ := hcs
    simp only [if_true] at hmm
    have hint : ∀ (u : Value) (D : DataW H) (Q : List MemPlace), DataW.trod enc Try.prog w base (fun _ => true) held n 22 [u] = some (D, Q) → ∃ y : Nat, u = .int .u64 (y : Int) := by
      intro u D Q hu
      obtain ⟨k, q, _, wf⟩ := DataW.trod_int Try.underlying22 hu
      simp at q
      obtain ⟨y, rfl, _⟩ := nat_u64 wf
      exact ⟨y, q⟩
    have each : ∀ i : Nat, ∃ y : Nat × Nat, i < m → w.cell? (x.add (i * 2)) = some (.int .u64 (y.1 : Int)) ∧ w.cell? (x.add (i * 2 + 1)) = some (.int .u64 (y.2 : Int)) := by
      intro i
      by_cases hi : i < m
      · obtain ⟨h0, h1, t0, t1⟩ := hall i hi
        obtain ⟨y0, e0⟩ := hint _ _ _ t0
        obtain ⟨y1, e1⟩ := hint _ _ _ t1
        exact ⟨(y0, y1), fun _ => ⟨by rw [h0, e0], by rw [h1, e1]⟩⟩
      · exact ⟨(0, 0), fun h => absurd h hi⟩
    obtain ⟨f, hfun⟩ := Classical.axiomOfChoice each
    have hlen : ((List.range len).map f).length = len := by simp
    refine ⟨some x, (List.range len).map f, cap, by rw [hlen], by omega, hm, by rw [hlen]; unfold maxLen at hm; omega, fun _ => ⟨x, rfl, fun j hj => ?_⟩⟩
    rw [hlen] at hj
    have e : ((List.range len).map f).getD j (0, 0) = f j := by
      rw [List.getD_eq_getElem?_getD, List.getElem?_map, List.getElem?_range hj]; rfl
    rw [e]
    exact hfun j (by omega)
end
end Go.Proofs.Ytkimbkcghmelgaa

namespace Go.Proofs.Ytkimbkcghmelgaa
open Go.RowKit Go.Proofs.YtkimbkcghmelgaaW.PrintWords

set_option maxRecDepth 100000 in
set_option maxHeartbeats 4000000 in
theorem lsets_long1 {h : Int} {t : Nat} {s : List Nat} (A : Option Addr) (cap : Nat) (hl : 60 < s.length ∧ s.length < 1024) (w : World) :
    Calls Try.prog 14 #[.int .i64 h, .slice A s.length cap, .int .u64 (t : Int)] w fun e w' => e = .returned (.bool true) ∧ Below w.heap.size w w' := by
  have t1 : decide ((60 : Int) < (s.length : Int)) = true := decide_eq_true (by omega)
  have t2 : decide ((s.length : Int) < (1024 : Int)) = true := decide_eq_true (by omega)
  have t2n : decide (s.length < 1024) = true := decide_eq_true (by omega)
  go_enter Try.func14, Try.ntmps14
  go_wp2_with fail
  refine (live02 _).mono ?_
  rintro e w1 ⟨rfl, hb1⟩
  have KB := mkHid hb1
  clear hb1
  go_wp2_with fail
  go_ret
  exact ⟨rfl, KB.out⟩

set_option maxRecDepth 100000 in
set_option maxHeartbeats 4000000 in
theorem lsets_long2 {h : Int} {t : Nat} {s : List Nat} (A : Option Addr) (cap : Nat) (hl : 1030 < s.length) (w : World) :
    Calls Try.prog 14 #[.int .i64 h, .slice A s.length cap, .int .u64 (t : Int)] w fun e w' => e = .returned (.bool true) ∧ Below w.heap.size w w' := by
  have t1 : decide ((60 : Int) < (s.length : Int)) = true := decide_eq_true (by omega)
  have t2 : decide ((s.length : Int) < (1024 : Int)) = false := decide_eq_false (by omega)
  have t2n : decide (s.length < 1024) = false := decide_eq_false (by omega)
  have t3 : decide ((1030 : Int) < (s.length : Int)) = true := decide_eq_true (by omega)
  go_enter Try.func14, Try.ntmps14
  go_wp2_with fail
  refine (live02 _).mono ?_
  rintro e w1 ⟨rfl, hb1⟩
  have KB := mkHid hb1
  clear hb1
  go_wp2_with fail
  go_ret
  exact ⟨rfl, KB.out⟩

set_option maxRecDepth 100000 in
set_option maxHeartbeats 4000000 in
theorem lsets_short {h : Int} {t : Nat} {s : List Nat} (A : Option Addr) (cap : Nat) (hs : s.length ≤ 60) (_hcap : s.length ≤ cap) (hz : A = none → cap = 0) (w : World) (hA : Reads w A s) :
    Calls Try.prog 14 #[.int .i64 h, .slice A s.length cap, .int .u64 (t : Int)] w fun e w' => e = .returned (.bool true) ∧ Below w.heap.size w w' := by
  have t1 : decide ((60 : Int) < (s.length : Int)) = false := decide_eq_false (by omega)
  have t3 : decide ((1030 : Int) < (s.length : Int)) = false := decide_eq_false (by omega)
  obtain ⟨L1, r1, e1⟩ : ∃ L r, Hid (withAll h s t = (L, r)) := ⟨_, _, mkHid rfl⟩
  obtain ⟨L2, r2, e2⟩ : ∃ L r, Hid (withoutAll h s t = (L, r)) := ⟨_, _, mkHid rfl⟩
  obtain ⟨z, r3, e3⟩ : ∃ z r, Hid (hasAll h s t = (z, r)) := ⟨_, _, mkHid rfl⟩
  obtain ⟨r4, e4⟩ : ∃ r, Hid (checkAll h s = r) := ⟨_, mkHid rfl⟩
  have m1 := withAll_len e1.out
  have m2 := withoutAll_len e2.out
  have HA := mkHid hA
  have hs' : s.length ≤ 1030 := by omega
  clear hA hs
  go_enter Try.func14, Try.ntmps14
  go_wp2_with fail
  refine (live02 _).mono ?_
  rintro e w1 ⟨rfl, hb1⟩
  replace HA := mkHid (HA.out.below hb1)
  have KB := mkHid hb1
  clear hb1
  go_wp2_with (at_builtin; refine wpList_append_u64 (by first | rfl | simp [Region.wanted, yielded]) _ _ rfl w1.heap.size _ [] rfl (World.ownsRow_nil _ _ _ _) A cap s rfl HA.out hz (by simp; omega) (Nat.le_refl _) ?_; intro v2 w2 ho2 hb2; rw [List.nil_append] at ho2)
  obtain ⟨WA, wk, rfl, lW, mW, RW⟩ := Reads.of_row ho2
  clear ho2
  replace HA := mkHid (HA.out.below hb2)
  replace KB := mkHid (KB.out.step hb2)
  have HW := mkHid RW
  have HA2 := HA
  have HW2 := HW
  have KB2 := KB
  have K2 : Hid (Below w2.heap.size w2 w2) := mkHid (Below.refl _ _)
  clear hb2 RW
  go_wp2_with fail
  (with_reducible refine (has_all h s t e3 _ _ _ HA.out).mono ?_)
  rintro e w' ⟨rfl, hw'⟩
  obtain rfl := hw'.symm
  clear hw'
  go_wp2_with fail
  (with_reducible refine (shas_all h s t e3 _ _ _ HA.out).mono ?_)
  rintro e w' ⟨rfl, hw'⟩
  obtain rfl := hw'.symm
  clear hw'
  go_wp2_with fail
  have sz2 : w2.heap.size ≤ w2.heap.size := Nat.le_refl _
  refine (with_all h s t e1 _ _ _ HA.out).mono ?_
  rintro e w3 ⟨v, rfl, ho, hb3⟩
  replace HA := mkHid (HA.out.below hb3)
  replace KB := mkHid (KB.out.step hb3)
  replace HW := mkHid (HW.out.below hb3)
  replace K2 := mkHid (K2.out.step hb3)
  obtain ⟨X, kX, rfl, lX, RX0, MX0, _⟩ := Mine.of_row ho
  have RX := mkHid RX0
  have MX := mkHid MX0
  have qX := MX0.lt
  have zX := hb3.size
  clear ho RX0 MX0
  clear hb3
  have sX := K2.out.size
  go_wp2_with fail
  refine (swith_all h s t e1 _ _ _ HA.out).mono ?_
  rintro e w4 ⟨v, rfl, ho, hb4⟩
  replace HA := mkHid (HA.out.below hb4)
  replace KB := mkHid (KB.out.step hb4)
  replace HW := mkHid (HW.out.below hb4)
  replace K2 := mkHid (K2.out.step hb4)
  replace RX := mkHid (RX.out.below hb4)
  replace MX := mkHid (MX.out.below hb4)
  obtain ⟨Y, kY, rfl, lY, RY0, MY0, _⟩ := Mine.of_row ho
  have RY := mkHid RY0
  have MY := mkHid MY0
  have qY := MY0.lt
  have zY := hb4.size
  clear ho RY0 MY0
  clear hb4
  have sY := K2.out.size
  go_wp2_with fail
  refine (without_all h s t e2 _ _ _ HA.out).mono ?_
  rintro e w5 ⟨v, rfl, ho, hb5⟩
  replace HA := mkHid (HA.out.below hb5)
  replace KB := mkHid (KB.out.step hb5)
  replace HW := mkHid (HW.out.below hb5)
  replace K2 := mkHid (K2.out.step hb5)
  replace RX := mkHid (RX.out.below hb5)
  replace MX := mkHid (MX.out.below hb5)
  replace RY := mkHid (RY.out.below hb5)
  replace MY := mkHid (MY.out.below hb5)
  obtain ⟨P, kP, rfl, lP, RP0, MP0, _⟩ := Mine.of_row ho
  have RP := mkHid RP0
  have MP := mkHid MP0
  have qP := MP0.lt
  have zP := hb5.size
  clear ho RP0 MP0
  clear hb5
  have sP := K2.out.size
  go_wp2_with fail
  refine (swithout_all h s t e2 _ _ _ HA.out).mono ?_
  rintro e w6 ⟨v, rfl, ho, hb6⟩
  replace HA := mkHid (HA.out.below hb6)
  replace KB := mkHid (KB.out.step hb6)
  replace HW := mkHid (HW.out.below hb6)
  replace K2 := mkHid (K2.out.step hb6)
  replace RX := mkHid (RX.out.below hb6)
  replace MX := mkHid (MX.out.below hb6)
  replace RY := mkHid (RY.out.below hb6)
  replace MY := mkHid (MY.out.below hb6)
  replace RP := mkHid (RP.out.below hb6)
  replace MP := mkHid (MP.out.below hb6)
  obtain ⟨Q, kQ, rfl, lQ, RQ0, MQ0, _⟩ := Mine.of_row ho
  have RQ := mkHid RQ0
  have MQ := mkHid MQ0
  have qQ := MQ0.lt
  have zQ := hb6.size
  clear ho RQ0 MQ0
  clear hb6
  have sQ := K2.out.size
  go_wp2_with fail
  refine (ssame_any (mkHid (decide_eq_true rfl)) (by omega) _ _ _ _ _ RX.out RY.out).mono ?_
  rintro e w7 ⟨rfl, hb7⟩
  replace HA := mkHid (HA.out.below hb7)
  replace KB := mkHid (KB.out.step hb7)
  replace HW := mkHid (HW.out.below hb7)
  replace K2 := mkHid (K2.out.step hb7)
  replace RX := mkHid (RX.out.below hb7)
  replace MX := mkHid (MX.out.below hb7)
  replace RY := mkHid (RY.out.below hb7)
  replace MY := mkHid (MY.out.below hb7)
  replace RP := mkHid (RP.out.below hb7)
  replace MP := mkHid (MP.out.below hb7)
  replace RQ := mkHid (RQ.out.below hb7)
  replace MQ := mkHid (MQ.out.below hb7)
  clear hb7
  go_wp2_with fail
  refine (ssame_any (mkHid (decide_eq_true rfl)) (by omega) _ _ _ _ _ RP.out RQ.out).mono ?_
  rintro e w8 ⟨rfl, hb8⟩
  replace HA := mkHid (HA.out.below hb8)
  replace KB := mkHid (KB.out.step hb8)
  replace HW := mkHid (HW.out.below hb8)
  replace K2 := mkHid (K2.out.step hb8)
  replace RX := mkHid (RX.out.below hb8)
  replace MX := mkHid (MX.out.below hb8)
  replace RY := mkHid (RY.out.below hb8)
  replace MY := mkHid (MY.out.below hb8)
  replace RP := mkHid (RP.out.below hb8)
  replace MP := mkHid (MP.out.below hb8)
  replace RQ := mkHid (RQ.out.below hb8)
  replace MQ := mkHid (MQ.out.below hb8)
  clear hb8
  go_wp2_with fail
  (with_reducible refine (check_all h s e4 _ _ _ HA.out).mono ?_)
  rintro e w' ⟨rfl, hw'⟩
  obtain rfl := hw'.symm
  clear hw'
  go_wp2_with fail
  (with_reducible refine (scheck_all h s e4 _ _ _ HA.out).mono ?_)
  rintro e w' ⟨rfl, hw'⟩
  obtain rfl := hw'.symm
  clear hw'
  go_wp2_with fail
  have HMX := MX
  have HMP := MP
  clear RX RY RP RQ MY MQ MX MP HA HW KB
  go_loopw [122] (fun i wr => ∃ k : Nat, k ≤ L1.length ∧ i = .int .i64 (k : Int) ∧ Hid (Below w2.heap.size w2 wr) ∧ Hid (Mine wr w2.heap.size X L1.length) ∧ Hid (Mine wr w4.heap.size P L2.length)) (fun i _ => L1.length - (intOf i).toNat)
  case atStart => exact ⟨0, by omega, rfl, K2, HMX, HMP⟩
  case round =>
    clear K2 HMX HMP
    obtain ⟨k, hk, rfl, hB, hM, hP⟩ := hrel
    by_cases hlt : k < L1.length
    · obtain ⟨gb, rfl, hgb, hc⟩ := hM.out (by omega)
      obtain ⟨⟨y, cy⟩, fy⟩ := hc k hlt
      have hgl : gb < w4.heap.size := Nat.lt_of_lt_of_le (qX gb (by omega) rfl) zY
      go_wp2
      go_roundw
      case rel => exact ⟨k + 1, by omega, by go_num, mkHid (hB.out.setCell hgb _), mkHid (hM.out.set k _), mkHid (hP.out.past hgl k _)⟩
      case measure => simp [intOf]; omega
    · obtain rfl : k = L1.length := by omega
      go_wp2_with fail
      go_loopw [134] (fun i wq => ∃ k : Nat, k ≤ L2.length ∧ i = .int .i64 (k : Int) ∧ Hid (Below w2.heap.size w2 wq) ∧ Hid (Mine wq w4.heap.size P L2.length)) (fun i _ => L2.length - (intOf i).toNat)
      case atStart => exact ⟨0, by omega, rfl, hB, hP⟩
      case round =>
        clear hB hP
        obtain ⟨k, hk, rfl, hB, hP⟩ := hrel
        by_cases hlt : k < L2.length
        · obtain ⟨gb, rfl, hgb, hc⟩ := hP.out (by omega)
          obtain ⟨⟨y, cy⟩, fy⟩ := hc k hlt
          go_wp2
          go_roundw
          case rel => exact ⟨k + 1, by omega, by go_num, mkHid (hB.out.setCell (Nat.le_trans sY hgb) _), mkHid (hP.out.set k _)⟩
          case measure => simp [intOf]; omega
        · obtain rfl : k = L2.length := by omega
          have hAe := HA2.out.below hB.out
          have hWe := HW2.out.below hB.out
          go_wp2_with fail
          refine (ssame_any (mkHid (decide_eq_true rfl)) (by omega) _ _ _ _ _ hAe hWe).mono ?_
          rintro e we ⟨rfl, hbe⟩
          have hF := mkHid (KB2.out.step (hB.out.step hbe))
          clear hbe hAe hWe hB hP
          go_wp2_with fail
          go_ret
          exact ⟨rfl, hF.out⟩

set_option maxRecDepth 100000 in
set_option maxHeartbeats 4000000 in
theorem lsets_great {h : Int} {t : Nat} {s : List Nat} (A : Option Addr) (cap : Nat) (hs : 1024 ≤ s.length ∧ s.length ≤ 1030) (_hcap : s.length ≤ cap) (hz : A = none → cap = 0) (w : World) (hA : Reads w A s) :
    Calls Try.prog 14 #[.int .i64 h, .slice A s.length cap, .int .u64 (t : Int)] w fun e w' => e = .returned (.bool true) ∧ Below w.heap.size w w' := by
  have t1 : decide ((60 : Int) < (s.length : Int)) = true := decide_eq_true (by omega)
  have t2 : decide ((s.length : Int) < (1024 : Int)) = false := decide_eq_false (by omega)
  have t2n : decide (s.length < 1024) = false := decide_eq_false (by omega)
  have t3 : decide ((1030 : Int) < (s.length : Int)) = false := decide_eq_false (by omega)
  obtain ⟨L1, r1, e1⟩ : ∃ L r, Hid (withAll h s t = (L, r)) := ⟨_, _, mkHid rfl⟩
  obtain ⟨L2, r2, e2⟩ : ∃ L r, Hid (withoutAll h s t = (L, r)) := ⟨_, _, mkHid rfl⟩
  obtain ⟨z, r3, e3⟩ : ∃ z r, Hid (hasAll h s t = (z, r)) := ⟨_, _, mkHid rfl⟩
  obtain ⟨r4, e4⟩ : ∃ r, Hid (checkAll h s = r) := ⟨_, mkHid rfl⟩
  have m1 := withAll_len e1.out
  have m2 := withoutAll_len e2.out
  have HA := mkHid hA
  have hs' : s.length ≤ 1030 := by omega
  clear hA hs
  go_enter Try.func14, Try.ntmps14
  go_wp2_with fail
  refine (live02 _).mono ?_
  rintro e w1 ⟨rfl, hb1⟩
  replace HA := mkHid (HA.out.below hb1)
  have KB := mkHid hb1
  clear hb1
  go_wp2_with (at_builtin; refine wpList_append_u64 (by first | rfl | simp [Region.wanted, yielded]) _ _ rfl w1.heap.size _ [] rfl (World.ownsRow_nil _ _ _ _) A cap s rfl HA.out hz (by simp; omega) (Nat.le_refl _) ?_; intro v2 w2 ho2 hb2; rw [List.nil_append] at ho2)
  obtain ⟨WA, wk, rfl, lW, mW, RW⟩ := Reads.of_row ho2
  clear ho2
  replace HA := mkHid (HA.out.below hb2)
  replace KB := mkHid (KB.out.step hb2)
  have HW := mkHid RW
  have HA2 := HA
  have HW2 := HW
  have KB2 := KB
  have K2 : Hid (Below w2.heap.size w2 w2) := mkHid (Below.refl _ _)
  clear hb2 RW
  go_wp2_with fail
  (with_reducible refine (has_all h s t e3 _ _ _ HA.out).mono ?_)
  rintro e w' ⟨rfl, hw'⟩
  obtain rfl := hw'.symm
  clear hw'
  go_wp2_with fail
  (with_reducible refine (shas_all h s t e3 _ _ _ HA.out).mono ?_)
  rintro e w' ⟨rfl, hw'⟩
  obtain rfl := hw'.symm
  clear hw'
  go_wp2_with fail
  have sz2 : w2.heap.size ≤ w2.heap.size := Nat.le_refl _
  refine (with_all h s t e1 _ _ _ HA.out).mono ?_
  rintro e w3 ⟨v, rfl, ho, hb3⟩
  replace HA := mkHid (HA.out.below hb3)
  replace KB := mkHid (KB.out.step hb3)
  replace HW := mkHid (HW.out.below hb3)
  replace K2 := mkHid (K2.out.step hb3)
  obtain ⟨X, kX, rfl, lX, RX0, MX0, _⟩ := Mine.of_row ho
  have RX := mkHid RX0
  have MX := mkHid MX0
  have qX := MX0.lt
  have zX := hb3.size
  clear ho RX0 MX0
  clear hb3
  have sX := K2.out.size
  go_wp2_with fail
  refine (swith_all h s t e1 _ _ _ HA.out).mono ?_
  rintro e w4 ⟨v, rfl, ho, hb4⟩
  replace HA := mkHid (HA.out.below hb4)
  replace KB := mkHid (KB.out.step hb4)
  replace HW := mkHid (HW.out.below hb4)
  replace K2 := mkHid (K2.out.step hb4)
  replace RX := mkHid (RX.out.below hb4)
  replace MX := mkHid (MX.out.below hb4)
  obtain ⟨Y, kY, rfl, lY, RY0, MY0, _⟩ := Mine.of_row ho
  have RY := mkHid RY0
  have MY := mkHid MY0
  have qY := MY0.lt
  have zY := hb4.size
  clear ho RY0 MY0
  clear hb4
  have sY := K2.out.size
  go_wp2_with fail
  refine (without_all h s t e2 _ _ _ HA.out).mono ?_
  rintro e w5 ⟨v, rfl, ho, hb5⟩
  replace HA := mkHid (HA.out.below hb5)
  replace KB := mkHid (KB.out.step hb5)
  replace HW := mkHid (HW.out.below hb5)
  replace K2 := mkHid (K2.out.step hb5)
  replace RX := mkHid (RX.out.below hb5)
  replace MX := mkHid (MX.out.below hb5)
  replace RY := mkHid (RY.out.below hb5)
  replace MY := mkHid (MY.out.below hb5)
  obtain ⟨P, kP, rfl, lP, RP0, MP0, _⟩ := Mine.of_row ho
  have RP := mkHid RP0
  have MP := mkHid MP0
  have qP := MP0.lt
  have zP := hb5.size
  clear ho RP0 MP0
  clear hb5
  have sP := K2.out.size
  go_wp2_with fail
  refine (swithout_all h s t e2 _ _ _ HA.out).mono ?_
  rintro e w6 ⟨v, rfl, ho, hb6⟩
  replace HA := mkHid (HA.out.below hb6)
  replace KB := mkHid (KB.out.step hb6)
  replace HW := mkHid (HW.out.below hb6)
  replace K2 := mkHid (K2.out.step hb6)
  replace RX := mkHid (RX.out.below hb6)
  replace MX := mkHid (MX.out.below hb6)
  replace RY := mkHid (RY.out.below hb6)
  replace MY := mkHid (MY.out.below hb6)
  replace RP := mkHid (RP.out.below hb6)
  replace MP := mkHid (MP.out.below hb6)
  obtain ⟨Q, kQ, rfl, lQ, RQ0, MQ0, _⟩ := Mine.of_row ho
  have RQ := mkHid RQ0
  have MQ := mkHid MQ0
  have qQ := MQ0.lt
  have zQ := hb6.size
  clear ho RQ0 MQ0
  clear hb6
  have sQ := K2.out.size
  go_wp2_with fail
  refine (ssame_any (mkHid (decide_eq_true rfl)) (by omega) _ _ _ _ _ RX.out RY.out).mono ?_
  rintro e w7 ⟨rfl, hb7⟩
  replace HA := mkHid (HA.out.below hb7)
  replace KB := mkHid (KB.out.step hb7)
  replace HW := mkHid (HW.out.below hb7)
  replace K2 := mkHid (K2.out.step hb7)
  replace RX := mkHid (RX.out.below hb7)
  replace MX := mkHid (MX.out.below hb7)
  replace RY := mkHid (RY.out.below hb7)
  replace MY := mkHid (MY.out.below hb7)
  replace RP := mkHid (RP.out.below hb7)
  replace MP := mkHid (MP.out.below hb7)
  replace RQ := mkHid (RQ.out.below hb7)
  replace MQ := mkHid (MQ.out.below hb7)
  clear hb7
  go_wp2_with fail
  refine (ssame_any (mkHid (decide_eq_true rfl)) (by omega) _ _ _ _ _ RP.out RQ.out).mono ?_
  rintro e w8 ⟨rfl, hb8⟩
  replace HA := mkHid (HA.out.below hb8)
  replace KB := mkHid (KB.out.step hb8)
  replace HW := mkHid (HW.out.below hb8)
  replace K2 := mkHid (K2.out.step hb8)
  replace RX := mkHid (RX.out.below hb8)
  replace MX := mkHid (MX.out.below hb8)
  replace RY := mkHid (RY.out.below hb8)
  replace MY := mkHid (MY.out.below hb8)
  replace RP := mkHid (RP.out.below hb8)
  replace MP := mkHid (MP.out.below hb8)
  replace RQ := mkHid (RQ.out.below hb8)
  replace MQ := mkHid (MQ.out.below hb8)
  clear hb8
  go_wp2_with fail
  (with_reducible refine (check_all h s e4 _ _ _ HA.out).mono ?_)
  rintro e w' ⟨rfl, hw'⟩
  obtain rfl := hw'.symm
  clear hw'
  go_wp2_with fail
  (with_reducible refine (scheck_all h s e4 _ _ _ HA.out).mono ?_)
  rintro e w' ⟨rfl, hw'⟩
  obtain rfl := hw'.symm
  clear hw'
  go_wp2_with fail
  have HMX := MX
  have HMP := MP
  clear RX RY RP RQ MY MQ MX MP HA HW KB
  go_loopw [122] (fun i wr => ∃ k : Nat, k ≤ L1.length ∧ i = .int .i64 (k : Int) ∧ Hid (Below w2.heap.size w2 wr) ∧ Hid (Mine wr w2.heap.size X L1.length) ∧ Hid (Mine wr w4.heap.size P L2.length)) (fun i _ => L1.length - (intOf i).toNat)
  case atStart => exact ⟨0, by omega, rfl, K2, HMX, HMP⟩
  case round =>
    clear K2 HMX HMP
    obtain ⟨k, hk, rfl, hB, hM, hP⟩ := hrel
    by_cases hlt : k < L1.length
    · obtain ⟨gb, rfl, hgb, hc⟩ := hM.out (by omega)
      obtain ⟨⟨y, cy⟩, fy⟩ := hc k hlt
      have hgl : gb < w4.heap.size := Nat.lt_of_lt_of_le (qX gb (by omega) rfl) zY
      go_wp2
      go_roundw
      case rel => exact ⟨k + 1, by omega, by go_num, mkHid (hB.out.setCell hgb _), mkHid (hM.out.set k _), mkHid (hP.out.past hgl k _)⟩
      case measure => simp [intOf]; omega
    · obtain rfl : k = L1.length := by omega
      go_wp2_with fail
      go_loopw [134] (fun i wq => ∃ k : Nat, k ≤ L2.length ∧ i = .int .i64 (k : Int) ∧ Hid (Below w2.heap.size w2 wq) ∧ Hid (Mine wq w4.heap.size P L2.length)) (fun i _ => L2.length - (intOf i).toNat)
      case atStart => exact ⟨0, by omega, rfl, hB, hP⟩
      case round =>
        clear hB hP
        obtain ⟨k, hk, rfl, hB, hP⟩ := hrel
        by_cases hlt : k < L2.length
        · obtain ⟨gb, rfl, hgb, hc⟩ := hP.out (by omega)
          obtain ⟨⟨y, cy⟩, fy⟩ := hc k hlt
          go_wp2
          go_roundw
          case rel => exact ⟨k + 1, by omega, by go_num, mkHid (hB.out.setCell (Nat.le_trans sY hgb) _), mkHid (hP.out.set k _)⟩
          case measure => simp [intOf]; omega
        · obtain rfl : k = L2.length := by omega
          have hAe := HA2.out.below hB.out
          have hWe := HW2.out.below hB.out
          go_wp2_with fail
          refine (ssame_any (mkHid (decide_eq_true rfl)) (by omega) _ _ _ _ _ hAe hWe).mono ?_
          rintro e we ⟨rfl, hbe⟩
          have hF := mkHid (KB2.out.step (hB.out.step hbe))
          clear hbe hAe hWe hB hP
          go_wp2_with fail
          go_ret
          exact ⟨rfl, hF.out⟩
theorem walk_LeafSets {w : World} (h : Int) (_hx : (Lit.int .i64 h).wf = true) (A : Option Addr) (s : List Nat) (cap : Nat) (hcap : s.length ≤ cap) (_hcm : cap ≤ maxLen) (hA : Reads w A s) (_hsb : ∀ j, s.getD j 0 < 18446744073709551616) (hz : A = none → cap = 0) (i : Int) (hi : (Lit.int .u64 i).wf = true) :
    Calls Try.prog 14 #[.int .i64 h, .slice A s.length cap, .int .u64 i] w fun e w' => e = .returned (.bool true) ∧ Below w.heap.size w w' := by
  obtain ⟨n, rfl, hn⟩ := nat_u64 hi
  by_cases h1 : s.length ≤ 60
  · exact lsets_short A cap h1 hcap hz w hA
  · by_cases h2 : s.length < 1024
    · exact lsets_long1 A cap ⟨by omega, h2⟩ w
    · by_cases h3 : s.length ≤ 1030
      · exact lsets_great A cap ⟨by omega, h3⟩ hcap hz w hA
      · exact lsets_long2 A cap (by omega) w
end Go.Proofs.Ytkimbkcghmelgaa

namespace Go.Proofs.Ytkimbkcghmelgaa
open Go.ChangeShapes Go.WideShapes Go.ChangeAt Go.RowKit

set_option maxRecDepth 100000 in
theorem LeafSets_lifted (os : Os) (started : os.Started) (H : Type) (enc : TypeId × Value → H) :
    ReturnsInHanded {} Try.checked os 14 .any (Rows.leafSetsSpec.pre6 enc Try.prog Try.f14 Rows.leafSetsRow.domain false) (Rows.leafSetsSpec.post enc Try.prog Try.f14 false true false false) := by
  refine returnsInHanded_of_change (C := Try.checked) own started (by kernel_rfl) Try.func14
    (ChangeSpec.witness6 (enc := enc) (C := Try.checked) false ⟨#[], #[.int .i64 0, .slice none 0 0, .int .u64 0], []⟩ 8 (by kernel_rfl) (by kernel_rfl) (by kernel_rfl) (by kernel_rfl)) ?_
  intro W base args ds gs before hval0 hW hcnd _
  have hval : ∀ (j : Nat) t v, Try.f14.params[j]? = some t → args[j]? = some v → Value.okWide Try.prog W .any base t v := hval0
  have hW' := hW
  obtain ⟨p, q, hA0, hV, rfl, hfz, hnd⟩ := hW
  have hA : DataW.TrodAll enc Try.prog W 0 (fun _ => true) true Try.f14.params.toList args.toList ds p := hA0
  rw [Try.params14] at hA hval
  obtain ⟨v0, vs0, d0, ds0, p0, q0, hargs, rfl, rfl, h0, r0⟩ := trodAll_cons hA
  obtain ⟨v1, vs1, d1, ds1, p1, q1, rfl, rfl, rfl, h1, r1⟩ := trodAll_cons r0
  obtain ⟨v2, vs2, d2, ds2, p2, q2, rfl, rfl, rfl, h2, r2⟩ := trodAll_cons r1
  obtain ⟨rfl, rfl, rfl⟩ := trodAll_nil r2
  obtain rfl : args = #[v0, v1, v2] := by cases args; simp_all
  obtain ⟨rfl, rfl⟩ := trodVars_none hV
  have k0 := h0
  have lt0 : ∀ x ∈ p0, x.block < W.heap.size := by obtain ⟨m, hm⟩ := k0; exact DataW.trod_lt m _ _ _ hm
  have k1 := h1
  have lt1 : ∀ x ∈ p1, x.block < W.heap.size := by obtain ⟨m, hm⟩ := k1; exact DataW.trod_lt m _ _ _ hm
  have k2 := h2
  have lt2 : ∀ x ∈ p2, x.block < W.heap.size := by obtain ⟨m, hm⟩ := k2; exact DataW.trod_lt m _ _ _ hm
  obtain ⟨x0, rfl, _, _, wx0⟩ := open_int Try.underlying3 (hval 0 3 v0 rfl rfl) h0
  obtain ⟨a1, l1, c1, rfl, lc1, mc1, S1, B1, N1⟩ := open_leavesn (hval 1 49 v1 rfl rfl) h1
  obtain ⟨x2, rfl, _, _, wx2⟩ := open_int Try.underlying22 (hval 2 22 v2 rfl rfl) h2
  clear hA0 hval0
  refine (walk_LeafSets (w := W) x0 wx0 a1 l1 c1 lc1 mc1 S1 B1 N1 x2 wx2).mono fun e W' ⟨he, bel⟩ => ?_
  subst he
  exact ⟨_, rfl, _, _, _, [], _, [], hW', trodAll_mk1 (shut_bool Try.underlying4 _), (trodAll_cons_mk (Below.trod laidOut (by kernel_rfl) (of_decide_eq_true (by kernel_rfl)) k0 bel lt0) (trodAll_cons_mk (Below.trod laidOut (by kernel_rfl) (of_decide_eq_true (by kernel_rfl)) k1 bel lt1) (trodAll_cons_mk (Below.trod laidOut (by kernel_rfl) (of_decide_eq_true (by kernel_rfl)) k2 bel lt2) trodAll_mk0))), rfl, bel.frame _, fun h => by cases h⟩

theorem LeafSets_over : Rows.leafSetsRow.holds Try.pinned (OpenSpec.ofChange Rows.leafSetsSpec) :=
  OpenClaim.holds_of_wide 14 Try.f14 rfl rfl rfl rfl rfl rfl rfl ⟨rfl, rfl, rfl, rfl, rfl⟩ rfl rfl rfl rfl rfl (by kernel_rfl) Try.func14 (by kernel_rfl)
    (of_decide_eq_true (by kernel_rfl)) (by unfold Func.isWrapper; first | (rw [if_pos (by decide +kernel)]; kernel_rfl) | (rw [if_neg (by decide +kernel)]; exact ⟨rfl, rfl⟩))
    (fun os started H enc _ => LeafSets_lifted os started H enc)

/-- the statement -/
theorem LeafSets_holds : Rows.LeafSetsSaid := LeafSets_over
#print axioms LeafSets_holds
end Go.Proofs.Ytkimbkcghmelgaa
