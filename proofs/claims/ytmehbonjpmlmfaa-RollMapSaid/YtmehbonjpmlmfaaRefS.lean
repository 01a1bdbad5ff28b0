/- The document's answer for sets: Is, Check, In, Has, Same. -/
import Derived.Test.YtmehbonjpmlmfaaRefN
namespace Go.Proofs.Ytmehbonjpmlmfaa
open Go.RowKit

set_option maxHeartbeats 400000 in
theorem sis_yes {h i : Nat} (h1 : 1 ≤ h) (h2 : h ≤ 32) (hi : i < 2 ^ h) (w : World) :
    Calls Try.prog 48 #[.int .i64 (h : Int), .int .u64 (i : Int)] w fun e w' => e = .returned (.bool true) ∧ w' = w := by
  have hi' := mkHid hi
  clear hi
  go_enter Try.func48, Try.ntmps48
  go_wp2_with (go_at_call 65; ((with_reducible refine (rleaf_yes h1 h2 hi'.out (mkHid rfl) _).mono ?_); rintro e w' ⟨rfl, rfl⟩))
  go_ret
  exact ⟨rfl, rfl⟩
set_option maxHeartbeats 400000 in
theorem sis_not {h i : Nat} (h1 : 1 ≤ h) (h2 : h ≤ 32) (hi : 2 ^ h ≤ i) (w : World) :
    Calls Try.prog 48 #[.int .i64 (h : Int), .int .u64 (i : Int)] w fun e w' => e = .returned (.bool false) ∧ w' = w := by
  have hi' := mkHid hi
  clear hi
  go_enter Try.func48, Try.ntmps48
  go_wp2_with (go_at_call 65; ((with_reducible refine (rleaf_none h1 h2 hi'.out _).mono ?_); rintro e w' ⟨rfl, rfl⟩))
  go_ret
  exact ⟨rfl, rfl⟩
theorem rleaf_out {h : Int} {i : Nat} (H : h < 1 ∨ 32 < h) (w : World) :
    Calls Try.prog 65 #[.int .i64 h, .int .u64 (i : Int)] w fun e w' => e = .returned (.tuple #[.int .u64 0, .int .i64 1]) ∧ w' = w := by
  rcases H with H | H
  · exact rleaf_lo H w
  · exact rleaf_hi H w
set_option maxHeartbeats 400000 in
theorem sis_bad {h : Int} {i : Nat} (H : h < 1 ∨ 32 < h) (w : World) :
    Calls Try.prog 48 #[.int .i64 h, .int .u64 (i : Int)] w fun e w' => e = .returned (.bool false) ∧ w' = w := by
  have H' := mkHid H
  clear H
  go_enter Try.func48, Try.ntmps48
  go_wp2_with (go_at_call 65; ((with_reducible refine (rleaf_out H'.out _).mono ?_); rintro e w' ⟨rfl, rfl⟩))
  go_ret
  exact ⟨rfl, rfl⟩
theorem sis_any {h i : Nat} {z : Bool} (h1 : 1 ≤ h) (h2 : h ≤ 32) (hz : Hid (decide (i < 2 ^ h) = z)) (w : World) :
    Calls Try.prog 48 #[.int .i64 (h : Int), .int .u64 (i : Int)] w fun e w' => e = .returned (.bool z) ∧ w' = w := by
  rw [← hz.out]
  by_cases c : i < 2 ^ h
  · rw [decide_eq_true c]; exact sis_yes h1 h2 c w
  · rw [decide_eq_false c]; exact sis_not h1 h2 (by omega) w
theorem rcheck_root {h : Nat} (h1 : 1 ≤ h) (h2 : h ≤ 32) (w : World) :
    Calls Try.prog 50 #[.int .i64 (h : Int), .int .u64 1] w fun e w' => e = .returned (.int .i64 0) ∧ w' = w := rcheck_yes (root_node h1 h2) w
theorem rcheck_root_no {h : Int} (H : h < 1 ∨ 32 < h) (w : World) :
    Calls Try.prog 50 #[.int .i64 h, .int .u64 1] w fun e w' => e = .returned (.int .i64 1) ∧ w' = w :=
  rcheck_no (n := 1) (by rcases H with H | H; exact .inl H; exact .inr (.inl H)) (by decide) w

set_option maxHeartbeats 400000 in
theorem scheck_bad {h : Int} (H : h < 1 ∨ 32 < h) (A : Option Addr) (n c : Nat) (w : World) :
    Calls Try.prog 51 #[.int .i64 h, .slice A n c] w fun e w' => e = .returned (.int .i64 1) ∧ w' = w := by
  have H' := mkHid H
  clear H
  go_enter Try.func51, Try.ntmps51
  go_wp2_with (go_at_call 50; ((with_reducible refine (rcheck_root_no H'.out _).mono ?_); rintro e w' ⟨rfl, rfl⟩))
  go_ret
  exact ⟨rfl, rfl⟩
set_option maxHeartbeats 400000 in
theorem scheck_long {h : Nat} (h1 : 1 ≤ h) (h2 : h ≤ 32) {n : Nat} (hn : 1024 < n) (A : Option Addr) (c : Nat) (w : World) :
    Calls Try.prog 51 #[.int .i64 (h : Int), .slice A n c] w fun e w' => e = .returned (.int .i64 1) ∧ w' = w := by
  have e1 : decide ((1024 : Int) < (n : Int)) = true := decide_eq_true (by omega)
  go_enter Try.func51, Try.ntmps51
  go_wp2_with (go_at_call 50; ((with_reducible refine (rcheck_root h1 h2 _).mono ?_); rintro e w' ⟨rfl, rfl⟩))
  go_ret
  exact ⟨rfl, rfl⟩
/-- Check, of a set or of none: r is what it answers, in a list that is not too long -/
theorem scheck_walk {h : Nat} (h1 : 1 ≤ h) (h2 : h ≤ 32) {s : List Nat} (hn : s.length ≤ 1024) {r : Int} (hr : Hid ((OkTo h s s.length ∧ r = 0) ∨ (¬ OkTo h s s.length ∧ r = 1))) (A : Option Addr) (c : Nat) (w : World) (hA : Reads w A s) :
    Calls Try.prog 51 #[.int .i64 (h : Int), .slice A s.length c] w fun e w' => e = .returned (.int .i64 r) ∧ w' = w := by
  have e1 : decide ((1024 : Int) < (s.length : Int)) = false := decide_eq_false (by omega)
  have HA := mkHid hA
  clear hA
  generalize hm : s.length = m at *
  have Hm := mkHid hm
  clear hm
  go_enter Try.func51, Try.ntmps51
  go_wp2_with (go_at_call 50; ((with_reducible refine (rcheck_root h1 h2 _).mono ?_); rintro e w' ⟨rfl, hw'⟩; obtain rfl := hw'.symm))
  go_loop [17] (fun i => ∃ k : Nat, k ≤ m ∧ i = .int .i64 (k : Int) ∧ Hid (OkTo h s k)) (fun i => m - (intOf i).toNat)
  case atStart => exact ⟨0, by omega, rfl, OkTo.zero h s⟩
  case round =>
    obtain ⟨k, hk, rfl, hok⟩ := hrel
    by_cases hlt : k < m
    · obtain ⟨ad, rfl, hc⟩ := HA.out.cell k (by rw [Hm.out]; exact hlt)
      obtain ⟨x, hx⟩ : ∃ x, Hid (s.getD k 0 = x) := ⟨_, mkHid rfl⟩
      rw [hx.out] at hc
      obtain ⟨z, hz⟩ : ∃ z, Hid (decide (x < 2 ^ h) = z) := ⟨_, mkHid rfl⟩
      have bad : (z = false ∨ (0 < k ∧ x ≤ s.getD (k - 1) 0)) → r = 1 := by
        intro hb
        rcases hr.out with ⟨a, _⟩ | ⟨_, b⟩
        · exfalso
          have q := a k hlt
          rw [hx.out] at q
          rcases hb with hb | ⟨hb1, hb2⟩
          · rw [hb] at hz
            have := of_decide_eq_false hz.out
            omega
          · have := q.2 hb1; omega
        · exact b
      have BAD := mkHid bad
      clear bad
      cases z
      · obtain rfl : r = 1 := BAD.out (.inl rfl)
        go_wp2_with (go_at_call 48; ((with_reducible refine (sis_any h1 h2 hz _).mono ?_); rintro e w' ⟨rfl, hw'⟩; obtain rfl := hw'.symm))
        go_ret
        exact ⟨rfl, rfl⟩
      · by_cases hk0 : k = 0
        · subst hk0
          have hc0 : w.cell? ad = some (.int .u64 (x : Int)) := by rw [← addr_zero ad]; exact hc
          go_wp2_with (go_at_call 48; ((with_reducible refine (sis_any h1 h2 hz _).mono ?_); rintro e w' ⟨rfl, hw'⟩; obtain rfl := hw'.symm))
          go_round
          case rel => exact ⟨1, by omega, rfl, hok.out.succ (by rw [hx.out]; exact of_decide_eq_true hz.out) (fun h => by omega)⟩
          case measure => simp [intOf]; omega
        · obtain ⟨ad', e', hc'⟩ := HA.out.cell (k - 1) (by rw [Hm.out]; omega)
          cases e'
          obtain ⟨y, hy⟩ : ∃ y, Hid (s.getD (k - 1) 0 = y) := ⟨_, mkHid rfl⟩
          rw [hy.out] at hc'
          have ek : (k : Int) - 1 = ((k - 1 : Nat) : Int) := by omega
          have hk1 : k - 1 < m := by omega
          have e0 : decide ((0 : Int) < (k : Int)) = true := decide_eq_true (by omega)
          by_cases hxy : x ≤ y
          · obtain rfl : r = 1 := BAD.out (.inr ⟨by omega, by rw [hy.out]; exact hxy⟩)
            have e2 : decide (x ≤ y) = true := decide_eq_true hxy
            generalize k - 1 = k' at *
            go_wp2_with (go_at_call 48; ((with_reducible refine (sis_any h1 h2 hz _).mono ?_); rintro e w' ⟨rfl, hw'⟩; obtain rfl := hw'.symm))
            go_ret
            exact ⟨rfl, rfl⟩
          · have e2 : decide (x ≤ y) = false := decide_eq_false hxy
            have hok' := mkHid (hok.out.succ (by rw [hx.out]; exact of_decide_eq_true hz.out) (fun _ => by rw [hx.out, hy.out]; omega))
            generalize k - 1 = k' at *
            go_wp2_with (go_at_call 48; ((with_reducible refine (sis_any h1 h2 hz _).mono ?_); rintro e w' ⟨rfl, hw'⟩; obtain rfl := hw'.symm))
            go_round
            case rel => exact ⟨k + 1, by omega, by go_num, hok'⟩
            case measure => simp [intOf]; omega
    · obtain rfl : k = m := by omega
      obtain rfl : r = 0 := by
        rcases hr.out with ⟨_, b⟩ | ⟨a, _⟩
        · exact b
        · exact absurd hok.out a
      go_wp2_with fail
      go_ret
      exact ⟨rfl, rfl⟩
theorem scheck_yes {h : Nat} (h1 : 1 ≤ h) (h2 : h ≤ 32) {s : List Nat} (hs : SetOk h s) (A : Option Addr) (c : Nat) (w : World) (hA : Reads w A s) :
    Calls Try.prog 51 #[.int .i64 (h : Int), .slice A s.length c] w fun e w' => e = .returned (.int .i64 0) ∧ w' = w :=
  scheck_walk h1 h2 hs.1 (mkHid (.inl ⟨hs.2, rfl⟩)) A c w hA
theorem scheck_no {h : Nat} (h1 : 1 ≤ h) (h2 : h ≤ 32) {s : List Nat} (hs : ¬ SetOk h s) (A : Option Addr) (c : Nat) (w : World) (hA : Reads w A s) :
    Calls Try.prog 51 #[.int .i64 (h : Int), .slice A s.length c] w fun e w' => e = .returned (.int .i64 1) ∧ w' = w := by
  by_cases hn : s.length ≤ 1024
  · exact scheck_walk h1 h2 hn (mkHid (.inr ⟨fun q => hs ⟨hn, q⟩, rfl⟩)) A c w hA
  · exact scheck_long h1 h2 (by omega) A c w

set_option maxHeartbeats 1000000 in
theorem sin_walk {s : List Nat} {x : Nat} {z : Bool} (hn : s.length ≤ 4611686018427387904) (hz : Hid (decide (x ∈ s) = z)) (A : Option Addr) (c : Nat) (w : World) (hA : Reads w A s) :
    Calls Try.prog 49 #[.slice A s.length c, .int .u64 (x : Int)] w fun e w' => e = .returned (.bool z) ∧ w' = w := by
  have HA := mkHid hA
  clear hA
  generalize hm : s.length = m at *
  have Hm := mkHid hm
  clear hm
  go_enter Try.func49, Try.ntmps49
  go_wp2_with fail
  go_loop [9] (fun i => ∃ k : Nat, k ≤ m ∧ i = .int .i64 (k : Int) ∧ Hid (∀ j, j < k → s.getD j 0 ≠ x)) (fun i => m - (intOf i).toNat)
  case atStart => exact ⟨0, by omega, rfl, fun j hj => by omega⟩
  case round =>
    obtain ⟨k, hk, rfl, hno⟩ := hrel
    by_cases hlt : k < m
    · obtain ⟨ad, rfl, hc⟩ := HA.out.cell k (by rw [Hm.out]; exact hlt)
      obtain ⟨y, hy⟩ : ∃ y, Hid (s.getD k 0 = y) := ⟨_, mkHid rfl⟩
      rw [hy.out] at hc
      by_cases e : y = x
      · subst e
        obtain rfl : z = true := by
          rw [← hz.out]
          refine decide_eq_true ?_
          have hk' : k < s.length := by rw [Hm.out]; exact hlt
          rw [← hy.out, getD_eq hk']
          exact List.getElem_mem hk'
        go_wp2_with fail
        go_ret
        exact ⟨rfl, rfl⟩
      · have e1 : ((y : Int) == (x : Int)) = false := beq_eq_false_iff_ne.2 (by omega)
        have e2 : (y == x) = false := beq_eq_false_iff_ne.2 e
        have hno' : Hid (∀ j, j < k + 1 → s.getD j 0 ≠ x) := mkHid fun j hj => by
          rcases Nat.lt_or_ge j k with c | c
          · exact hno.out j c
          · obtain rfl : j = k := by omega
            rw [hy.out]; exact e
        clear hno
        go_wp2_with fail
        go_round
        case rel => exact ⟨k + 1, by omega, by go_num, hno'⟩
        case measure => simp [intOf]; omega
    · obtain rfl : k = m := by omega
      obtain rfl : z = false := by
        rw [← hz.out]
        refine decide_eq_false fun q => ?_
        obtain ⟨j, hj, e⟩ := List.mem_iff_getElem.1 q
        exact hno.out j (by rw [← Hm.out]; exact hj) (by rw [getD_eq hj]; exact e)
      go_wp2_with fail
      go_ret
      exact ⟨rfl, rfl⟩
set_option maxHeartbeats 400000 in
theorem shas_yes {h : Nat} (h1 : 1 ≤ h) (h2 : h ≤ 32) {s : List Nat} (hs : Hid (SetOk h s)) {t : Nat} (ht : t < 2 ^ h) {z : Bool} (hz : Hid (decide (t ∈ s) = z)) (A : Option Addr) (c : Nat) (w : World) (hA : Reads w A s) :
    Calls Try.prog 64 #[.int .i64 (h : Int), .slice A s.length c, .int .u64 (t : Int)] w fun e w' => e = .returned (.tuple #[.bool z, .int .i64 0]) ∧ w' = w := by
  have hlen : s.length ≤ 4611686018427387904 := by have := hs.out.1; omega
  have HA := mkHid hA
  have HT := mkHid ht
  clear hA ht
  go_enter Try.func64, Try.ntmps64
  go_wp2_with first
    | (go_at_call 51; ((with_reducible refine (scheck_yes h1 h2 hs.out _ _ _ HA.out).mono ?_); rintro e w' ⟨rfl, hw'⟩; obtain rfl := hw'.symm))
    | (go_at_call 48; ((with_reducible refine (sis_yes h1 h2 HT.out _).mono ?_); rintro e w' ⟨rfl, hw'⟩; obtain rfl := hw'.symm))
    | (go_at_call 49; ((with_reducible refine (sin_walk hlen hz _ _ _ HA.out).mono ?_); rintro e w' ⟨rfl, hw'⟩; obtain rfl := hw'.symm))
  go_ret2
  exact ⟨by simp, rfl⟩
set_option maxHeartbeats 400000 in
theorem shas_set {h : Nat} (h1 : 1 ≤ h) (h2 : h ≤ 32) {s : List Nat} (hs : Hid (¬ SetOk h s)) (t : Nat) (A : Option Addr) (c : Nat) (w : World) (hA : Reads w A s) :
    Calls Try.prog 64 #[.int .i64 (h : Int), .slice A s.length c, .int .u64 (t : Int)] w fun e w' => e = .returned (.tuple #[.bool false, .int .i64 1]) ∧ w' = w := by
  have HA := mkHid hA
  clear hA
  go_enter Try.func64, Try.ntmps64
  go_wp2_with (go_at_call 51; ((with_reducible refine (scheck_no h1 h2 hs.out _ _ _ HA.out).mono ?_); rintro e w' ⟨rfl, hw'⟩; obtain rfl := hw'.symm))
  go_ret2
  exact ⟨by simp, rfl⟩
set_option maxHeartbeats 400000 in
theorem shas_leaf {h : Nat} (h1 : 1 ≤ h) (h2 : h ≤ 32) {s : List Nat} (hs : Hid (SetOk h s)) {t : Nat} (ht : 2 ^ h ≤ t) (A : Option Addr) (c : Nat) (w : World) (hA : Reads w A s) :
    Calls Try.prog 64 #[.int .i64 (h : Int), .slice A s.length c, .int .u64 (t : Int)] w fun e w' => e = .returned (.tuple #[.bool false, .int .i64 1]) ∧ w' = w := by
  have HA := mkHid hA
  have HT := mkHid ht
  clear hA ht
  go_enter Try.func64, Try.ntmps64
  go_wp2_with first
    | (go_at_call 51; ((with_reducible refine (scheck_yes h1 h2 hs.out _ _ _ HA.out).mono ?_); rintro e w' ⟨rfl, hw'⟩; obtain rfl := hw'.symm))
    | (go_at_call 48; ((with_reducible refine (sis_not h1 h2 HT.out _).mono ?_); rintro e w' ⟨rfl, hw'⟩; obtain rfl := hw'.symm))
  go_ret2
  exact ⟨by simp, rfl⟩
set_option maxHeartbeats 400000 in
theorem shas_bad {h : Int} (H : h < 1 ∨ 32 < h) (n t : Nat) (A : Option Addr) (c : Nat) (w : World) :
    Calls Try.prog 64 #[.int .i64 h, .slice A n c, .int .u64 (t : Int)] w fun e w' => e = .returned (.tuple #[.bool false, .int .i64 1]) ∧ w' = w := by
  have H' := mkHid H
  clear H
  go_enter Try.func64, Try.ntmps64
  go_wp2_with (go_at_call 51; ((with_reducible refine (scheck_bad H'.out _ _ _ _).mono ?_); rintro e w' ⟨rfl, hw'⟩; obtain rfl := hw'.symm))
  go_ret2
  exact ⟨by simp, rfl⟩
theorem shas_no {h : Int} {s : List Nat} {t : Nat} (R : Refuses h s t) (A : Option Addr) (c : Nat) (w : World) (hA : Reads w A s) :
    Calls Try.prog 64 #[.int .i64 h, .slice A s.length c, .int .u64 (t : Int)] w fun e w' => e = .returned (.tuple #[.bool false, .int .i64 1]) ∧ w' = w := by
  by_cases H : 1 ≤ h ∧ h ≤ 32
  · obtain ⟨n, rfl⟩ : ∃ n : Nat, h = n := ⟨h.toNat, by omega⟩
    have e : (n : Int).toNat = n := by omega
    have r := R.no
    rw [e] at r
    by_cases hs : SetOk n s
    · exact shas_leaf (by omega) (by omega) (mkHid hs) (by
        rcases Nat.lt_or_ge t (2 ^ n) with l | l
        · exact absurd ⟨H, hs, l⟩ r
        · exact l) A c w hA
    · exact shas_set (by omega) (by omega) (mkHid hs) t A c w hA
  · exact shas_bad (by omega) _ _ _ _ _
end Go.Proofs.Ytmehbonjpmlmfaa
