/- The contracts of leaf.find and leaf.Has. -/
import Derived.Test.YtmehbonjpmlmfaaSearch
namespace Go.Proofs.Ytmehbonjpmlmfaa
open Go.RowKit

set_option maxHeartbeats 400000 in
theorem find_yes {h : Nat} (h1 : 1 ≤ h) (h2 : h ≤ 32) {s : List Nat} (hs : Hid (SetOk h s)) {t k : Nat} (ht : t < 2 ^ h) {z : Bool} (hp : Hid (Place s t k)) (hz : Hid (decide (k < s.length ∧ s.getD k 0 = t) = z)) (A : Option Addr) (c : Nat) (w : World) (hA : Reads w A s) :
    Calls Try.prog 61 #[.int .i64 (h : Int), .slice A s.length c, .int .u64 (t : Int)] w fun e w' => e = .returned (.tuple #[.int .i64 (k : Int), .bool z, .int .i64 0]) ∧ w' = w := by
  have hlen : s.length ≤ 4611686018427387904 := by have := hs.out.1; omega
  have HA := mkHid hA
  have HT := mkHid ht
  clear hA ht
  go_enter Try.func61, Try.ntmps61
  go_wp2_with first
    | (go_at_call 44; ((with_reducible refine (lcheck_yes h1 h2 hs.out _ _ _ HA.out).mono ?_); rintro e w' ⟨rfl, hw'⟩; obtain rfl := hw'.symm))
    | (go_at_call 63; ((with_reducible refine (is_yes h1 h2 HT.out _).mono ?_); rintro e w' ⟨rfl, hw'⟩; obtain rfl := hw'.symm))
    | (go_at_call 70; ((with_reducible refine (search_eq hp hz hlen _ _ _ HA.out).mono ?_); rintro e w' ⟨rfl, hw'⟩; obtain rfl := hw'.symm))
  go_ret3
  exact ⟨by simp, rfl⟩
set_option maxHeartbeats 400000 in
theorem find_set {h : Nat} (h1 : 1 ≤ h) (h2 : h ≤ 32) {s : List Nat} (hs : Hid (¬ SetOk h s)) (t : Nat) (A : Option Addr) (c : Nat) (w : World) (hA : Reads w A s) :
    Calls Try.prog 61 #[.int .i64 (h : Int), .slice A s.length c, .int .u64 (t : Int)] w fun e w' => e = .returned (.tuple #[.int .i64 0, .bool false, .int .i64 1]) ∧ w' = w := by
  have HA := mkHid hA
  clear hA
  go_enter Try.func61, Try.ntmps61
  go_wp2_with (go_at_call 44; ((with_reducible refine (lcheck_no h1 h2 hs.out _ _ _ HA.out).mono ?_); rintro e w' ⟨rfl, hw'⟩; obtain rfl := hw'.symm))
  go_ret3
  exact ⟨by simp, rfl⟩
set_option maxHeartbeats 400000 in
theorem find_leaf {h : Nat} (h1 : 1 ≤ h) (h2 : h ≤ 32) {s : List Nat} (hs : Hid (SetOk h s)) {t : Nat} (ht : 2 ^ h ≤ t) (A : Option Addr) (c : Nat) (w : World) (hA : Reads w A s) :
    Calls Try.prog 61 #[.int .i64 (h : Int), .slice A s.length c, .int .u64 (t : Int)] w fun e w' => e = .returned (.tuple #[.int .i64 0, .bool false, .int .i64 1]) ∧ w' = w := by
  have HA := mkHid hA
  have HT := mkHid ht
  clear hA ht
  go_enter Try.func61, Try.ntmps61
  go_wp2_with first
    | (go_at_call 44; ((with_reducible refine (lcheck_yes h1 h2 hs.out _ _ _ HA.out).mono ?_); rintro e w' ⟨rfl, hw'⟩; obtain rfl := hw'.symm))
    | (go_at_call 63; ((with_reducible refine (is_not h1 h2 HT.out _).mono ?_); rintro e w' ⟨rfl, hw'⟩; obtain rfl := hw'.symm))
  go_ret3
  exact ⟨by simp, rfl⟩
set_option maxHeartbeats 400000 in
theorem find_bad {h : Int} (H : h < 1 ∨ 32 < h) (n t : Nat) (A : Option Addr) (c : Nat) (w : World) :
    Calls Try.prog 61 #[.int .i64 h, .slice A n c, .int .u64 (t : Int)] w fun e w' => e = .returned (.tuple #[.int .i64 0, .bool false, .int .i64 1]) ∧ w' = w := by
  have H' := mkHid H
  clear H
  go_enter Try.func61, Try.ntmps61
  go_wp2_with (go_at_call 44; ((with_reducible refine (lcheck_bad H'.out _ _ _ _).mono ?_); rintro e w' ⟨rfl, hw'⟩; obtain rfl := hw'.symm))
  go_ret3
  exact ⟨by simp, rfl⟩
/-- what find refuses -/
structure Refuses (h : Int) (s : List Nat) (t : Nat) : Prop where
  no : ¬ ((1 ≤ h ∧ h ≤ 32) ∧ SetOk h.toNat s ∧ t < 2 ^ h.toNat)
theorem find_no {h : Int} {s : List Nat} {t : Nat} (R : Refuses h s t) (A : Option Addr) (c : Nat) (w : World) (hA : Reads w A s) :
    Calls Try.prog 61 #[.int .i64 h, .slice A s.length c, .int .u64 (t : Int)] w fun e w' => e = .returned (.tuple #[.int .i64 0, .bool false, .int .i64 1]) ∧ w' = w := by
  by_cases H : 1 ≤ h ∧ h ≤ 32
  · obtain ⟨n, rfl⟩ : ∃ n : Nat, h = n := ⟨h.toNat, by omega⟩
    have e : (n : Int).toNat = n := by omega
    have r := R.no
    rw [e] at r
    by_cases hs : SetOk n s
    · exact find_leaf (by omega) (by omega) (mkHid hs) (by
        rcases Nat.lt_or_ge t (2 ^ n) with l | l
        · exact absurd ⟨H, hs, l⟩ r
        · exact l) A c w hA
    · exact find_set (by omega) (by omega) (mkHid hs) t A c w hA
  · exact find_bad (by omega) _ t A c w
set_option maxHeartbeats 400000 in
theorem has_no {h : Int} {s : List Nat} {t : Nat} (R : Refuses h s t) (A : Option Addr) (c : Nat) (w : World) (hA : Reads w A s) :
    Calls Try.prog 43 #[.int .i64 h, .slice A s.length c, .int .u64 (t : Int)] w fun e w' => e = .returned (.tuple #[.bool false, .int .i64 1]) ∧ w' = w := by
  have HA := mkHid hA
  clear hA
  go_enter Try.func43, Try.ntmps43
  go_wp2_with (go_at_call 61; ((with_reducible refine (find_no R _ _ _ HA.out).mono ?_); rintro e w' ⟨rfl, hw'⟩; obtain rfl := hw'.symm))
  go_ret2
  exact ⟨by simp, rfl⟩
set_option maxHeartbeats 400000 in
theorem has_yes {h : Nat} (h1 : 1 ≤ h) (h2 : h ≤ 32) {s : List Nat} (hs : Hid (SetOk h s)) {t : Nat} (ht : t < 2 ^ h) {z : Bool} (hz : Hid (decide (t ∈ s) = z)) (A : Option Addr) (c : Nat) (w : World) (hA : Reads w A s) :
    Calls Try.prog 43 #[.int .i64 (h : Int), .slice A s.length c, .int .u64 (t : Int)] w fun e w' => e = .returned (.tuple #[.bool z, .int .i64 0]) ∧ w' = w := by
  obtain ⟨k, hk⟩ := place_ex hs.out.2 t
  have hz' : Hid (decide (k < s.length ∧ s.getD k 0 = t) = z) := by
    unfold Hid
    rw [← hz.out, Bool.eq_iff_iff, decide_eq_true_eq, decide_eq_true_eq]
    exact place_mem hs.out.2 hk
  have HK := mkHid hk
  have HA := mkHid hA
  clear hA hk
  go_enter Try.func43, Try.ntmps43
  go_wp2_with (go_at_call 61; ((with_reducible refine (find_yes h1 h2 hs ht HK hz' _ _ _ HA.out).mono ?_); rintro e w' ⟨rfl, hw'⟩; obtain rfl := hw'.symm))
  go_ret2
  exact ⟨by simp, rfl⟩
end Go.Proofs.Ytmehbonjpmlmfaa
