/- The contracts of leaf.With and leaf.Without. -/
import Derived.Test.YtmehbonjpmlmfaaInsDel
namespace Go.Proofs.Ytmehbonjpmlmfaa
open Go.RowKit

theorem mem_dec {s : List Nat} {t k : Nat} {z : Bool} (P : Place s t k) (A : Asc s) (hz : decide (t ∈ s) = z) : decide (k < s.length ∧ s.getD k 0 = t) = z := by
  rw [← hz]
  by_cases c : t ∈ s
  · rw [decide_eq_true c]; exact decide_eq_true ((mem_place P A).2 c)
  · rw [decide_eq_false c]; exact decide_eq_false fun q => c ((mem_place P A).1 q)
set_option maxRecDepth 100000 in
set_option maxHeartbeats 2000000 in
theorem with_yes {h : Nat} (h1 : 1 ≤ h) (h2 : h ≤ 32) {s : List Nat} (hs : Hid (SetOk h s)) {t : Nat} (ht : t < 2 ^ h) (hx : Hid (t ∉ s)) (hl : s.length < 1024) (A : Option Addr) (c : Nat) (w : World) (hA : Reads w A s) :
    Calls Try.prog 54 #[.int .i64 (h : Int), .slice A s.length c, .int .u64 (t : Int)] w fun e w' =>
      ∃ v, e = .returned (.tuple #[v, .int .i64 0]) ∧ w'.ownsRow w.heap.size 30 1 v (addL s t).length (natCells (addL s t)) ∧ Below w.heap.size w w' := by
  obtain ⟨k, P⟩ := place_ex' hs.out t
  have hp := mkHid P
  have hz := mkHid (mem_dec P (setOk_iff.1 hs.out).2.1 (decide_eq_false hx.out))
  have hk := P.le
  have HL : Hid ((addL s t).length = s.length + 1 ∧ ins s k t = addL s t) := mkHid ⟨addL_length hs.out hx.out, ins_addL P hx.out⟩
  have HA := mkHid hA
  have HT := mkHid ht
  have hl' : ¬ ((s.length : Int) = 1024) := by omega
  clear hA ht P
  go_enter Try.func54, Try.ntmps54
  go_wp2_with (go_at_call 61; ((with_reducible refine (find_yes h1 h2 hs HT.out hp hz _ _ _ HA.out).mono ?_); rintro e w' ⟨rfl, hw'⟩; obtain rfl := hw'.symm))
  refine (clone_any _ _ (by omega) _ HA.out).mono ?_
  rintro e w1 ⟨v, rfl, ho, hb1⟩
  have HB := mkHid hb1
  have HO := mkHid (ho.alloc (.cells #[.int .u64 (t : Int)] 30))
  have HN : Hid (∀ g, v.ownBlock = some g → w1.heap.size ≠ g) := mkHid fun g e => by have := (ho.lt g e).2; omega
  clear ho hb1
  go_wp2_with fail
  refine (insert_own w.heap.size v s k w1.heap.size t _ (by omega) hk (by have := HB.out.size; simp; omega) HO.out HN.out (heap_alloc_new w1 _)).mono ?_
  rintro e w2 ⟨v', rfl, ho, hb2⟩
  have HB2 := mkHid ((HB.out.alloc HB.out.size (.cells #[.int .u64 (t : Int)] 30)).trans hb2)
  obtain ⟨e1, e2⟩ := HL.out
  rw [e2] at ho
  have HO2 : Hid (w2.ownsRow w.heap.size 30 1 v' (addL s t).length (natCells (addL s t))) := mkHid (by rw [e1]; exact ho)
  clear ho hb2 e1 e2
  go_wp2_with fail
  go_ret2
  exact ⟨v', by simp, HO2.out, HB2.out⟩
set_option maxHeartbeats 400000 in
theorem with_there {h : Nat} (h1 : 1 ≤ h) (h2 : h ≤ 32) {s : List Nat} (hs : Hid (SetOk h s)) {t : Nat} (ht : t < 2 ^ h) (hx : Hid (t ∈ s)) (A : Option Addr) (c : Nat) (w : World) (hA : Reads w A s) :
    Calls Try.prog 54 #[.int .i64 (h : Int), .slice A s.length c, .int .u64 (t : Int)] w fun e w' => e = .returned (.tuple #[.slice none 0 0, .int .i64 5]) ∧ w' = w := by
  obtain ⟨k, P⟩ := place_ex' hs.out t
  have hp := mkHid P
  have hz := mkHid (mem_dec P (setOk_iff.1 hs.out).2.1 (decide_eq_true hx.out))
  have HA := mkHid hA
  have HT := mkHid ht
  clear hA ht P
  go_enter Try.func54, Try.ntmps54
  go_wp2_with (go_at_call 61; ((with_reducible refine (find_yes h1 h2 hs HT.out hp hz _ _ _ HA.out).mono ?_); rintro e w' ⟨rfl, hw'⟩; obtain rfl := hw'.symm))
  go_ret2
  exact ⟨by simp, rfl⟩
set_option maxHeartbeats 400000 in
theorem with_full {h : Nat} (h1 : 1 ≤ h) (h2 : h ≤ 32) {s : List Nat} (hs : Hid (SetOk h s)) {t : Nat} (ht : t < 2 ^ h) (hx : Hid (t ∉ s)) (hl : s.length = 1024) (A : Option Addr) (c : Nat) (w : World) (hA : Reads w A s) :
    Calls Try.prog 54 #[.int .i64 (h : Int), .slice A s.length c, .int .u64 (t : Int)] w fun e w' => e = .returned (.tuple #[.slice none 0 0, .int .i64 6]) ∧ w' = w := by
  obtain ⟨k, P⟩ := place_ex' hs.out t
  have hp := mkHid P
  have hz := mkHid (mem_dec P (setOk_iff.1 hs.out).2.1 (decide_eq_false hx.out))
  have HA := mkHid hA
  have HT := mkHid ht
  have hl' : ((s.length : Int) == 1024) = true := beq_iff_eq.2 (by omega)
  clear hA ht P hl
  go_enter Try.func54, Try.ntmps54
  go_wp2_with (go_at_call 61; ((with_reducible refine (find_yes h1 h2 hs HT.out hp hz _ _ _ HA.out).mono ?_); rintro e w' ⟨rfl, hw'⟩; obtain rfl := hw'.symm))
  go_ret2
  exact ⟨by simp, rfl⟩
set_option maxHeartbeats 400000 in
theorem with_no {h : Int} {s : List Nat} {t : Nat} (R : Refuses h s t) (A : Option Addr) (c : Nat) (w : World) (hA : Reads w A s) :
    Calls Try.prog 54 #[.int .i64 h, .slice A s.length c, .int .u64 (t : Int)] w fun e w' => e = .returned (.tuple #[.slice none 0 0, .int .i64 1]) ∧ w' = w := by
  have HA := mkHid hA
  have HR := mkHid R
  clear hA R
  go_enter Try.func54, Try.ntmps54
  go_wp2_with (go_at_call 61; ((with_reducible refine (find_no HR.out _ _ _ HA.out).mono ?_); rintro e w' ⟨rfl, hw'⟩; obtain rfl := hw'.symm))
  go_ret2
  exact ⟨by simp, rfl⟩
set_option maxRecDepth 100000 in
set_option maxHeartbeats 2000000 in
theorem without_yes {h : Nat} (h1 : 1 ≤ h) (h2 : h ≤ 32) {s : List Nat} (hs : Hid (SetOk h s)) {t : Nat} (ht : t < 2 ^ h) (hx : Hid (t ∈ s)) (A : Option Addr) (c : Nat) (w : World) (hA : Reads w A s) :
    Calls Try.prog 55 #[.int .i64 (h : Int), .slice A s.length c, .int .u64 (t : Int)] w fun e w' =>
      ∃ v, e = .returned (.tuple #[v, .int .i64 0]) ∧ w'.ownsRow w.heap.size 30 1 v (remL s t).length (natCells (remL s t)) ∧ Below w.heap.size w w' := by
  obtain ⟨k, P⟩ := place_ex' hs.out t
  have hp := mkHid P
  have hA' := (setOk_iff.1 hs.out).2.1
  have hz := mkHid (mem_dec P hA' (decide_eq_true hx.out))
  obtain ⟨hk, hv⟩ := (mem_place P hA').2 hx.out
  have HL : Hid ((remL s t).length = s.length - 1 ∧ del s k = remL s t) := mkHid ⟨by have := remL_length hs.out hx.out; omega, by rw [del_remL hA' hk, hv]⟩
  have hsl := hs.out.1
  have HA := mkHid hA
  have HT := mkHid ht
  clear hA ht P hv hA'
  go_enter Try.func55, Try.ntmps55
  go_wp2_with (go_at_call 61; ((with_reducible refine (find_yes h1 h2 hs HT.out hp hz _ _ _ HA.out).mono ?_); rintro e w' ⟨rfl, hw'⟩; obtain rfl := hw'.symm))
  refine (clone_any _ _ (by omega) _ HA.out).mono ?_
  rintro e w1 ⟨v, rfl, ho, hb1⟩
  have HB := mkHid hb1
  have HO := mkHid ho
  clear ho hb1
  go_wp2_with fail
  rw [show (k : Int) + 1 = ((k + 1 : Nat) : Int) by omega]
  refine (delete_own w.heap.size v s k _ hk HO.out).mono ?_
  rintro e w2 ⟨v', rfl, ho, hb2⟩
  have HB2 := mkHid (HB.out.trans hb2)
  obtain ⟨e1, e2⟩ := HL.out
  rw [e2] at ho
  have HO2 : Hid (w2.ownsRow w.heap.size 30 1 v' (remL s t).length (natCells (remL s t))) := mkHid (by rw [e1]; exact ho)
  clear ho hb2 e1 e2
  go_wp2_with fail
  go_ret2
  exact ⟨v', by simp, HO2.out, HB2.out⟩
set_option maxHeartbeats 400000 in
theorem without_none {h : Nat} (h1 : 1 ≤ h) (h2 : h ≤ 32) {s : List Nat} (hs : Hid (SetOk h s)) {t : Nat} (ht : t < 2 ^ h) (hx : Hid (t ∉ s)) (A : Option Addr) (c : Nat) (w : World) (hA : Reads w A s) :
    Calls Try.prog 55 #[.int .i64 (h : Int), .slice A s.length c, .int .u64 (t : Int)] w fun e w' => e = .returned (.tuple #[.slice none 0 0, .int .i64 4]) ∧ w' = w := by
  obtain ⟨k, P⟩ := place_ex' hs.out t
  have hp := mkHid P
  have hz := mkHid (mem_dec P (setOk_iff.1 hs.out).2.1 (decide_eq_false hx.out))
  have HA := mkHid hA
  have HT := mkHid ht
  clear hA ht P
  go_enter Try.func55, Try.ntmps55
  go_wp2_with (go_at_call 61; ((with_reducible refine (find_yes h1 h2 hs HT.out hp hz _ _ _ HA.out).mono ?_); rintro e w' ⟨rfl, hw'⟩; obtain rfl := hw'.symm))
  go_ret2
  exact ⟨by simp, rfl⟩
set_option maxHeartbeats 400000 in
theorem without_no {h : Int} {s : List Nat} {t : Nat} (R : Refuses h s t) (A : Option Addr) (c : Nat) (w : World) (hA : Reads w A s) :
    Calls Try.prog 55 #[.int .i64 h, .slice A s.length c, .int .u64 (t : Int)] w fun e w' => e = .returned (.tuple #[.slice none 0 0, .int .i64 1]) ∧ w' = w := by
  have HA := mkHid hA
  have HR := mkHid R
  clear hA R
  go_enter Try.func55, Try.ntmps55
  go_wp2_with (go_at_call 61; ((with_reducible refine (find_no HR.out _ _ _ HA.out).mono ?_); rintro e w' ⟨rfl, hw'⟩; obtain rfl := hw'.symm))
  go_ret2
  exact ⟨by simp, rfl⟩
end Go.Proofs.Ytmehbonjpmlmfaa
