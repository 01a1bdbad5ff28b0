/- The document's answer for sets: Same, With, Without. -/
import Derived.Test.YtmehbonjpmlmfaaRefS
namespace Go.Proofs.Ytmehbonjpmlmfaa
open Go.RowKit Go.Proofs.YtmehbonjpmlmfaaW.PrintWords

set_option maxHeartbeats 2000000 in
theorem ssame_any {s t : List Nat} {z : Bool} (hz : Hid (decide (s = t) = z)) (hn : s.length < 4611686018427387904) (A B : Option Addr) (a b : Nat) (w : World) (hA : Reads w A s) (hB : Reads w B t) :
    Calls Try.prog 26 #[.slice A s.length a, .slice B t.length b] w fun e w' => e = .returned (.bool z) ∧ Below w.heap.size w w' := by
  have HA := mkHid hA
  have HB := mkHid hB
  clear hA hB
  generalize hm : s.length = m at *
  generalize hl : t.length = l at *
  have Hm := mkHid hm
  have Hl := mkHid hl
  clear hm hl
  by_cases c : m = l
  · subst c
    go_enter Try.func26, Try.ntmps26
    go_wp2_with fail
    go_loopw [13] (fun i wr => ∃ k : Nat, k ≤ m ∧ i = .int .i64 (k : Int) ∧ Hid (∀ j, j < k → s.getD j 0 = t.getD j 0) ∧ Hid (Below w.heap.size w wr)) (fun i _ => m - (intOf i).toNat)
    case atStart => exact ⟨0, by omega, rfl, fun j hj => by omega, Below.refl _ _⟩
    case round =>
      obtain ⟨k, hk, rfl, hsame, hBel⟩ := hrel
      by_cases hlt : k < m
      · obtain ⟨ad, rfl, hc⟩ := (HA.out.below hBel.out).cell k (by rw [Hm.out]; exact hlt)
        obtain ⟨bd, rfl, hd⟩ := (HB.out.below hBel.out).cell k (by rw [Hl.out]; exact hlt)
        obtain ⟨x, hx⟩ : ∃ x, Hid (s.getD k 0 = x) := ⟨_, mkHid rfl⟩
        obtain ⟨y, hy⟩ : ∃ y, Hid (t.getD k 0 = y) := ⟨_, mkHid rfl⟩
        rw [hx.out] at hc
        rw [hy.out] at hd
        by_cases e : x = y
        · subst e
          have hsame' : Hid (∀ j, j < k + 1 → s.getD j 0 = t.getD j 0) := mkHid fun j hj => by
            rcases Nat.lt_or_ge j k with c | c
            · exact hsame.out j c
            · obtain rfl : j = k := by omega
              rw [hx.out, hy.out]
          clear hsame
          go_wp2_with fail
          go_quiet (fail)
          go_wp2_with fail
          go_roundw
          case rel => exact ⟨k + 1, by omega, by go_num, hsame', mkHid (below_drewN hBel.out _)⟩
          case measure => simp [intOf]; omega
        · have e1 : ((x : Int) != (y : Int)) = true := bne_iff_ne.2 (by omega)
          have e2 : (x != y) = true := bne_iff_ne.2 e
          obtain rfl : z = false := by
            rw [← hz.out]
            refine decide_eq_false fun q => e ?_
            rw [← hx.out, ← hy.out, q]
          go_wp2_with fail
          go_quiet (fail)
          go_wp2_with fail
          go_ret
          exact ⟨rfl, below_drewN hBel.out _⟩
      · obtain rfl : k = m := by omega
        obtain rfl : z = true := by
          rw [← hz.out]
          refine decide_eq_true (List.ext_getElem (by rw [Hm.out, Hl.out]) fun j h1 h2 => ?_)
          have := hsame.out j (by rw [← Hm.out]; exact h1)
          rwa [getD_eq h1, getD_eq h2] at this
        go_wp2_with fail
        go_ret
        exact ⟨rfl, hBel.out⟩
  · obtain rfl : z = false := by
      rw [← hz.out]
      refine decide_eq_false fun q => c ?_
      rw [← Hm.out, ← Hl.out, q]
    have e1 : ((m : Int) != (l : Int)) = true := bne_iff_ne.2 (by omega)
    have e2 : (m != l) = true := bne_iff_ne.2 c
    have e3 : ((m : Int) == (l : Int)) = false := beq_eq_false_iff_ne.2 (by omega)
    go_enter Try.func26, Try.ntmps26
    go_wp2_with fail
    go_ret
    exact ⟨rfl, Below.refl _ _⟩

/-- the first k, as far as a test lets them by -/
def filTo (p : Nat → Bool) (s : List Nat) (k : Nat) : List Nat := (s.take k).filter p
theorem filTo_zero (p : Nat → Bool) (s : List Nat) : filTo p s 0 = [] := rfl
theorem filTo_yes {p : Nat → Bool} {s : List Nat} {k x : Nat} (hk : k < s.length) (hx : s.getD k 0 = x) (h : p x = true) : filTo p s (k + 1) = filTo p s k ++ [x] := by
  unfold filTo
  rw [List.take_succ_eq_append_getElem hk, List.filter_append]
  rw [getD_eq hk] at hx
  rw [hx, List.filter_cons_of_pos h, List.filter_nil]
theorem filTo_not {p : Nat → Bool} {s : List Nat} {k x : Nat} (hk : k < s.length) (hx : s.getD k 0 = x) (h : p x = false) : filTo p s (k + 1) = filTo p s k := by
  unfold filTo
  rw [List.take_succ_eq_append_getElem hk, List.filter_append]
  rw [getD_eq hk] at hx
  rw [hx, List.filter_cons_of_neg (by rw [h]; decide), List.filter_nil, List.append_nil]
theorem filTo_all (p : Nat → Bool) (s : List Nat) : filTo p s s.length = s.filter p := by unfold filTo; rw [List.take_length]
theorem filTo_le (p : Nat → Bool) (s : List Nat) (k : Nat) : (filTo p s k).length ≤ s.length := by
  unfold filTo
  exact Nat.le_trans (List.length_filter_le _ _) (by rw [List.length_take]; omega)
theorem Reads.one (w : World) (x : Nat) : Reads (w.alloc (.cells #[.int .u64 (x : Int)] 30)) (some ⟨w.heap.size, 0, none⟩) [x] := Reads.of_cells (by simp) fun j hj => by
  have : j = 0 := by simpa using hj
  subst this
  rw [addr_zero]
  simp
/-- a row of the call's own, as a law on appending one number asks for it -/
def RowOf (w : World) (base : Nat) (v : Value) (S : List Nat) : Prop := w.ownsRow base 30 1 v S.length (natCells S)

set_option maxRecDepth 100000 in
set_option maxHeartbeats 4000000 in
theorem swith_yes {h : Nat} (h1 : 1 ≤ h) (h2 : h ≤ 32) {s : List Nat} (hs : Hid (SetOk h s)) {t : Nat} (ht : t < 2 ^ h) (hx : Hid (t ∉ s)) (hl : s.length < 1024) (A : Option Addr) (c : Nat) (w : World) (hA : Reads w A s) :
    Calls Try.prog 46 #[.int .i64 (h : Int), .slice A s.length c, .int .u64 (t : Int)] w fun e w' =>
      ∃ v, e = .returned (.tuple #[v, .int .i64 0]) ∧ w'.ownsRow w.heap.size 30 1 v (addL s t).length (natCells (addL s t)) ∧ Below w.heap.size w w' := by
  have hz := mkHid (decide_eq_false hx.out)
  have HA := mkHid hA
  have HT := mkHid ht
  have hl' : ((s.length : Int) == 1024) = false := beq_eq_false_iff_ne.2 (by omega)
  have HF : Hid (∀ k, (filTo (fun y => decide (y < t)) s k).length ≤ s.length ∧ (filTo (fun y => decide (t < y)) s k).length ≤ s.length) := mkHid fun k => ⟨filTo_le _ _ _, filTo_le _ _ _⟩
  clear hA ht
  go_enter Try.func46, Try.ntmps46
  go_wp2_with (go_at_call 64; ((with_reducible refine (shas_yes h1 h2 hs HT.out hz _ _ _ HA.out).mono ?_); rintro e w' ⟨rfl, hw'⟩; obtain rfl := hw'.symm))
  go_loopw [10, 31] (fun v i wr => ∃ (k : Nat) (S : List Nat), k ≤ s.length ∧ i = .int .i64 (k : Int) ∧ Hid (S = filTo (fun y => decide (y < t)) s k) ∧ Hid (RowOf wr w.heap.size v S) ∧ Hid (Below w.heap.size w wr)) (fun _ i _ => s.length - (intOf i).toNat)
  case atStart => exact ⟨0, [], by omega, rfl, rfl, World.ownsRow_nil _ _ _ _, Below.refl _ _⟩
  case round =>
    obtain ⟨k, S, hk, rfl, hS, hR, hB⟩ := hrel
    have hSl : S.length ≤ s.length := by rw [hS.out]; exact (HF.out k).1
    by_cases hlt : k < s.length
    · obtain ⟨ad, rfl, hc⟩ := (HA.out.below hB.out).cell k hlt
      obtain ⟨x, hx⟩ : ∃ x, Hid (s.getD k 0 = x) := ⟨_, mkHid rfl⟩
      rw [hx.out] at hc
      by_cases e : x < t
      · have e1 : decide ((x : Int) < (t : Int)) = true := decide_eq_true (by omega)
        have e2 : decide (x < t) = true := decide_eq_true e
        have hS' : Hid (S ++ [x] = filTo (fun y => decide (y < t)) s (k + 1)) := mkHid (by rw [filTo_yes hlt hx.out e2, hS.out])
        clear hS
        go_wp2_with (at_builtin; refine wpList_append_u64 (by first | rfl | simp [Region.wanted, yielded]) _ _ rfl w.heap.size _ S rfl (hR.out.alloc _) _ _ [x] rfl (Reads.one _ _) (fun e => by cases e) (by simp; omega) (by have := hB.out.size; simp; omega) ?_; intro v2 w2 ho2 hb2)
        have HR2 : Hid (RowOf w2 w.heap.size v2 (S ++ [x])) := mkHid ho2
        have HB2 := mkHid ((hB.out.alloc hB.out.size (.cells #[.int .u64 (x : Int)] 30)).trans hb2)
        clear ho2 hb2 hR hB
        go_wp2_with fail
        go_roundw
        case rel => exact ⟨k + 1, _, by omega, by go_num, hS', HR2, HB2⟩
        case measure => simp [intOf]; omega
      · have e1 : decide ((x : Int) < (t : Int)) = false := decide_eq_false (by omega)
        have e2 : decide (x < t) = false := decide_eq_false e
        have hS' : Hid (S = filTo (fun y => decide (y < t)) s (k + 1)) := mkHid (by rw [filTo_not hlt hx.out e2, hS.out])
        clear hS
        go_wp2_with fail
        go_roundw
        case rel => exact ⟨k + 1, S, by omega, by go_num, hS', hR, hB⟩
        case measure => simp [intOf]; omega
    · obtain rfl : k = s.length := by omega
      have HS1 : Hid (S = s.filter (fun y => decide (y < t))) := mkHid (by rw [hS.out, filTo_all])
      clear hS
      go_wp2_with (at_builtin; refine wpList_append_u64 (by first | rfl | simp [Region.wanted, yielded]) _ _ rfl w.heap.size _ S rfl (hR.out.alloc _) _ _ [t] rfl (Reads.one _ _) (fun e => by cases e) (by simp; omega) (by have := hB.out.size; simp; omega) ?_; intro v2 w2 ho2 hb2)
      have HR2 : Hid (RowOf w2 w.heap.size v2 (S ++ [t])) := mkHid ho2
      have HB2 := mkHid ((hB.out.alloc hB.out.size (.cells #[.int .u64 (t : Int)] 30)).trans hb2)
      clear ho2 hb2 hR hB
      go_wp2_with fail
      go_loopw [10, 49] (fun v i wr => ∃ (k : Nat) (U : List Nat), k ≤ s.length ∧ i = .int .i64 (k : Int) ∧ Hid (U = filTo (fun y => decide (t < y)) s k) ∧ Hid (RowOf wr w.heap.size v (S ++ [t] ++ U)) ∧ Hid (Below w.heap.size w wr)) (fun _ i _ => s.length - (intOf i).toNat)
      case atStart => exact ⟨0, [], by omega, rfl, rfl, mkHid (by rw [List.append_nil]; exact HR2.out), HB2⟩
      case round =>
        clear HR2 HB2
        obtain ⟨k, U, hk, rfl, hU, hR, hB⟩ := hrel
        have hUl : U.length ≤ s.length := by rw [hU.out]; exact (HF.out k).2
        have hSUl : (S ++ [t] ++ U).length = S.length + 1 + U.length := by simp; omega
        by_cases hlt : k < s.length
        · obtain ⟨ad, rfl, hc⟩ := (HA.out.below hB.out).cell k hlt
          obtain ⟨x, hx⟩ : ∃ x, Hid (s.getD k 0 = x) := ⟨_, mkHid rfl⟩
          rw [hx.out] at hc
          by_cases e : t < x
          · have e1 : decide ((t : Int) < (x : Int)) = true := decide_eq_true (by omega)
            have e2 : decide (t < x) = true := decide_eq_true e
            have hU' : Hid (U ++ [x] = filTo (fun y => decide (t < y)) s (k + 1)) := mkHid (by rw [filTo_yes hlt hx.out e2, hU.out])
            clear hU
            generalize hSU : S ++ [t] ++ U = SU at *
            have HSU := mkHid hSU
            clear hSU
            go_wp2_with (at_builtin; refine wpList_append_u64 (by first | rfl | simp [Region.wanted, yielded]) _ _ rfl w.heap.size _ SU rfl (hR.out.alloc _) _ _ [x] rfl (Reads.one _ _) (fun e => by cases e) (by simp; omega) (by have := hB.out.size; simp; omega) ?_; intro v3 w3 ho2 hb2)
            have HR2 : Hid (RowOf w3 w.heap.size v3 (S ++ [t] ++ (U ++ [x]))) := mkHid (by rw [← List.append_assoc, HSU.out]; exact ho2)
            have HB2 := mkHid ((hB.out.alloc hB.out.size (.cells #[.int .u64 (x : Int)] 30)).trans hb2)
            clear ho2 hb2 hR hB
            go_wp2_with fail
            go_roundw
            case rel => exact ⟨k + 1, _, by omega, by go_num, hU', HR2, HB2⟩
            case measure => simp [intOf]; omega
          · have e1 : decide ((t : Int) < (x : Int)) = false := decide_eq_false (by omega)
            have e2 : decide (t < x) = false := decide_eq_false e
            have hU' : Hid (U = filTo (fun y => decide (t < y)) s (k + 1)) := mkHid (by rw [filTo_not hlt hx.out e2, hU.out])
            clear hU
            go_wp2_with fail
            go_roundw
            case rel => exact ⟨k + 1, U, by omega, by go_num, hU', hR, hB⟩
            case measure => simp [intOf]; omega
        · obtain rfl : k = s.length := by omega
          have HE : Hid (S ++ [t] ++ U = addL s t) := mkHid (by rw [hU.out, filTo_all, HS1.out]; unfold addL; rw [List.append_assoc]; rfl)
          clear hU HS1
          go_wp2_with fail
          go_ret2
          exact ⟨u10, by simp, by rw [← HE.out]; exact hR.out, hB.out⟩
set_option maxHeartbeats 400000 in
theorem swith_there {h : Nat} (h1 : 1 ≤ h) (h2 : h ≤ 32) {s : List Nat} (hs : Hid (SetOk h s)) {t : Nat} (ht : t < 2 ^ h) (hx : Hid (t ∈ s)) (A : Option Addr) (c : Nat) (w : World) (hA : Reads w A s) :
    Calls Try.prog 46 #[.int .i64 (h : Int), .slice A s.length c, .int .u64 (t : Int)] w fun e w' => e = .returned (.tuple #[.slice none 0 0, .int .i64 5]) ∧ w' = w := by
  have hz := mkHid (decide_eq_true hx.out)
  have HA := mkHid hA
  have HT := mkHid ht
  clear hA ht
  go_enter Try.func46, Try.ntmps46
  go_wp2_with (go_at_call 64; ((with_reducible refine (shas_yes h1 h2 hs HT.out hz _ _ _ HA.out).mono ?_); rintro e w' ⟨rfl, hw'⟩; obtain rfl := hw'.symm))
  go_ret2
  exact ⟨by simp, rfl⟩
set_option maxHeartbeats 400000 in
theorem swith_full {h : Nat} (h1 : 1 ≤ h) (h2 : h ≤ 32) {s : List Nat} (hs : Hid (SetOk h s)) {t : Nat} (ht : t < 2 ^ h) (hx : Hid (t ∉ s)) (hl : s.length = 1024) (A : Option Addr) (c : Nat) (w : World) (hA : Reads w A s) :
    Calls Try.prog 46 #[.int .i64 (h : Int), .slice A s.length c, .int .u64 (t : Int)] w fun e w' => e = .returned (.tuple #[.slice none 0 0, .int .i64 6]) ∧ w' = w := by
  have hz := mkHid (decide_eq_false hx.out)
  have HA := mkHid hA
  have HT := mkHid ht
  have hl' : ((s.length : Int) == 1024) = true := beq_iff_eq.2 (by omega)
  clear hA ht hl
  go_enter Try.func46, Try.ntmps46
  go_wp2_with (go_at_call 64; ((with_reducible refine (shas_yes h1 h2 hs HT.out hz _ _ _ HA.out).mono ?_); rintro e w' ⟨rfl, hw'⟩; obtain rfl := hw'.symm))
  go_ret2
  exact ⟨by simp, rfl⟩
set_option maxHeartbeats 400000 in
theorem swith_no {h : Int} {s : List Nat} {t : Nat} (R : Refuses h s t) (A : Option Addr) (c : Nat) (w : World) (hA : Reads w A s) :
    Calls Try.prog 46 #[.int .i64 h, .slice A s.length c, .int .u64 (t : Int)] w fun e w' => e = .returned (.tuple #[.slice none 0 0, .int .i64 1]) ∧ w' = w := by
  have HA := mkHid hA
  have HR := mkHid R
  clear hA R
  go_enter Try.func46, Try.ntmps46
  go_wp2_with (go_at_call 64; ((with_reducible refine (shas_no HR.out _ _ _ HA.out).mono ?_); rintro e w' ⟨rfl, hw'⟩; obtain rfl := hw'.symm))
  go_ret2
  exact ⟨by simp, rfl⟩
set_option maxRecDepth 100000 in
set_option maxHeartbeats 4000000 in
theorem swithout_yes {h : Nat} (h1 : 1 ≤ h) (h2 : h ≤ 32) {s : List Nat} (hs : Hid (SetOk h s)) {t : Nat} (ht : t < 2 ^ h) (hx : Hid (t ∈ s)) (A : Option Addr) (c : Nat) (w : World) (hA : Reads w A s) :
    Calls Try.prog 47 #[.int .i64 (h : Int), .slice A s.length c, .int .u64 (t : Int)] w fun e w' =>
      ∃ v, e = .returned (.tuple #[v, .int .i64 0]) ∧ w'.ownsRow w.heap.size 30 1 v (remL s t).length (natCells (remL s t)) ∧ Below w.heap.size w w' := by
  have hz := mkHid (decide_eq_true hx.out)
  have hl := hs.out.1
  have HA := mkHid hA
  have HT := mkHid ht
  have HF : Hid (∀ k, (filTo (fun y => decide (y ≠ t)) s k).length ≤ s.length) := mkHid fun k => filTo_le _ _ _
  clear hA ht
  go_enter Try.func47, Try.ntmps47
  go_wp2_with (go_at_call 64; ((with_reducible refine (shas_yes h1 h2 hs HT.out hz _ _ _ HA.out).mono ?_); rintro e w' ⟨rfl, hw'⟩; obtain rfl := hw'.symm))
  go_loopw [10, 27] (fun v i wr => ∃ (k : Nat) (S : List Nat), k ≤ s.length ∧ i = .int .i64 (k : Int) ∧ Hid (S = filTo (fun y => decide (y ≠ t)) s k) ∧ Hid (RowOf wr w.heap.size v S) ∧ Hid (Below w.heap.size w wr)) (fun _ i _ => s.length - (intOf i).toNat)
  case atStart => exact ⟨0, [], by omega, rfl, rfl, World.ownsRow_nil _ _ _ _, Below.refl _ _⟩
  case round =>
    obtain ⟨k, S, hk, rfl, hS, hR, hB⟩ := hrel
    have hSl : S.length ≤ s.length := by rw [hS.out]; exact HF.out k
    by_cases hlt : k < s.length
    · obtain ⟨ad, rfl, hc⟩ := (HA.out.below hB.out).cell k hlt
      obtain ⟨x, hx⟩ : ∃ x, Hid (s.getD k 0 = x) := ⟨_, mkHid rfl⟩
      rw [hx.out] at hc
      by_cases e : x = t
      · have e1 : ((x : Int) != (t : Int)) = false := by rw [e]; simp
        have e2 : decide (x ≠ t) = false := decide_eq_false (fun c => c e)
        have e3 : (x != t) = false := by rw [e]; simp
        have hS' : Hid (S = filTo (fun y => decide (y ≠ t)) s (k + 1)) := mkHid (by rw [filTo_not hlt hx.out e2, hS.out])
        clear hS e
        go_wp2_with fail
        go_roundw
        case rel => exact ⟨k + 1, S, by omega, by go_num, hS', hR, hB⟩
        case measure => simp [intOf]; omega
      · have e1 : ((x : Int) != (t : Int)) = true := bne_iff_ne.2 (by omega)
        have e2 : decide (x ≠ t) = true := decide_eq_true e
        have e3 : (x != t) = true := bne_iff_ne.2 e
        have hS' : Hid (S ++ [x] = filTo (fun y => decide (y ≠ t)) s (k + 1)) := mkHid (by rw [filTo_yes hlt hx.out e2, hS.out])
        clear hS
        go_wp2_with (at_builtin; refine wpList_append_u64 (by first | rfl | simp [Region.wanted, yielded]) _ _ rfl w.heap.size _ S rfl (hR.out.alloc _) _ _ [x] rfl (Reads.one _ _) (fun e => by cases e) (by simp; omega) (by have := hB.out.size; simp; omega) ?_; intro v2 w2 ho2 hb2)
        have HR2 : Hid (RowOf w2 w.heap.size v2 (S ++ [x])) := mkHid ho2
        have HB2 := mkHid ((hB.out.alloc hB.out.size (.cells #[.int .u64 (x : Int)] 30)).trans hb2)
        clear ho2 hb2 hR hB
        go_wp2_with fail
        go_roundw
        case rel => exact ⟨k + 1, _, by omega, by go_num, hS', HR2, HB2⟩
        case measure => simp [intOf]; omega
    · obtain rfl : k = s.length := by omega
      have HE : Hid (S = remL s t) := mkHid (by rw [hS.out, filTo_all]; rfl)
      clear hS
      go_wp2_with fail
      go_ret2
      exact ⟨u10, by simp, by rw [← HE.out]; exact hR.out, hB.out⟩
set_option maxHeartbeats 400000 in
theorem swithout_none {h : Nat} (h1 : 1 ≤ h) (h2 : h ≤ 32) {s : List Nat} (hs : Hid (SetOk h s)) {t : Nat} (ht : t < 2 ^ h) (hx : Hid (t ∉ s)) (A : Option Addr) (c : Nat) (w : World) (hA : Reads w A s) :
    Calls Try.prog 47 #[.int .i64 (h : Int), .slice A s.length c, .int .u64 (t : Int)] w fun e w' => e = .returned (.tuple #[.slice none 0 0, .int .i64 4]) ∧ w' = w := by
  have hz := mkHid (decide_eq_false hx.out)
  have HA := mkHid hA
  have HT := mkHid ht
  clear hA ht
  go_enter Try.func47, Try.ntmps47
  go_wp2_with (go_at_call 64; ((with_reducible refine (shas_yes h1 h2 hs HT.out hz _ _ _ HA.out).mono ?_); rintro e w' ⟨rfl, hw'⟩; obtain rfl := hw'.symm))
  go_ret2
  exact ⟨by simp, rfl⟩
set_option maxHeartbeats 400000 in
theorem swithout_no {h : Int} {s : List Nat} {t : Nat} (R : Refuses h s t) (A : Option Addr) (c : Nat) (w : World) (hA : Reads w A s) :
    Calls Try.prog 47 #[.int .i64 h, .slice A s.length c, .int .u64 (t : Int)] w fun e w' => e = .returned (.tuple #[.slice none 0 0, .int .i64 1]) ∧ w' = w := by
  have HA := mkHid hA
  have HR := mkHid R
  clear hA R
  go_enter Try.func47, Try.ntmps47
  go_wp2_with (go_at_call 64; ((with_reducible refine (shas_no HR.out _ _ _ HA.out).mono ?_); rintro e w' ⟨rfl, hw'⟩; obtain rfl := hw'.symm))
  go_ret2
  exact ⟨by simp, rfl⟩
end Go.Proofs.Ytmehbonjpmlmfaa
