/- The contracts of roll: Same, New, Is; and of the document's answer. -/
import Derived.Test.YtmehbonjpmlmfaaRollA
namespace Go.Proofs.Ytmehbonjpmlmfaa
open Go.RowKit Go.Proofs.YtmehbonjpmlmfaaW.PrintWords

def rollSame (h room : Int) (s : List Nat) (n h' room' : Int) (t : List Nat) (n' : Int) : Bool := decide (h = h' ∧ room = room' ∧ s = t ∧ n = n')

set_option maxRecDepth 100000 in
set_option maxHeartbeats 2000000 in
theorem rsame0 {h room n h' room' n' : Int} {s t : List Nat} (g : h ≠ h') (_hl : s.length < 4611686018427387904) (A B : Option Addr) (c d : Nat) (w : World) (_hA : Reads w A s) (_hB : Reads w B t) :
    Calls Try.prog 19 #[.agg #[.int .i64 h, .int .i64 room, .slice A s.length c, .int .i64 n], .agg #[.int .i64 h', .int .i64 room', .slice B t.length d, .int .i64 n']] w fun e w' => e = .returned (.bool false) ∧ Below w.heap.size w w' := by
  have t0 : ((h) == (h')) = false := beq_eq_false_iff_ne.2 g
  go_enter Try.func19, Try.ntmps19
  go_wp2_with fail
  go_ret
  exact ⟨rfl, ((Below.refl _ _).alloc (Nat.le_refl _) _).alloc (by simp) _⟩
set_option maxRecDepth 100000 in
set_option maxHeartbeats 2000000 in
theorem rsame1 {h room n h' room' n' : Int} {s t : List Nat} (e0 : h' = h) (g : room ≠ room') (_hl : s.length < 4611686018427387904) (A B : Option Addr) (c d : Nat) (w : World) (_hA : Reads w A s) (_hB : Reads w B t) :
    Calls Try.prog 19 #[.agg #[.int .i64 h, .int .i64 room, .slice A s.length c, .int .i64 n], .agg #[.int .i64 h', .int .i64 room', .slice B t.length d, .int .i64 n']] w fun e w' => e = .returned (.bool false) ∧ Below w.heap.size w w' := by
  subst e0
  have t0 : ((room) == (room')) = false := beq_eq_false_iff_ne.2 g
  go_enter Try.func19, Try.ntmps19
  go_wp2_with fail
  go_ret
  exact ⟨rfl, ((Below.refl _ _).alloc (Nat.le_refl _) _).alloc (by simp) _⟩
set_option maxRecDepth 100000 in
set_option maxHeartbeats 2000000 in
theorem rsame2 {h room n h' room' n' : Int} {s t : List Nat} (e0 : h' = h) (e1 : room' = room) (hz : Hid (decide (s = t) = false)) (hl : s.length < 4611686018427387904) (A B : Option Addr) (c d : Nat) (w : World) (hA : Reads w A s) (hB : Reads w B t) :
    Calls Try.prog 19 #[.agg #[.int .i64 h, .int .i64 room, .slice A s.length c, .int .i64 n], .agg #[.int .i64 h', .int .i64 room', .slice B t.length d, .int .i64 n']] w fun e w' => e = .returned (.bool false) ∧ Below w.heap.size w w' := by
  have HX : Hid (Blk ((w.alloc (.cells #[.int .i64 h, .int .i64 room, .slice A s.length c, .int .i64 n] 25)).alloc (.cells #[.int .i64 h', .int .i64 room', .slice B t.length d, .int .i64 n'] 25)) w.heap.size 25 #[.int .i64 h, .int .i64 room, .slice A s.length c, .int .i64 n]) := mkHid ((Blk.new _ _ _).alloc _)
  have HY : Hid (Blk ((w.alloc (.cells #[.int .i64 h, .int .i64 room, .slice A s.length c, .int .i64 n] 25)).alloc (.cells #[.int .i64 h', .int .i64 room', .slice B t.length d, .int .i64 n'] 25)) (w.heap.size + 1) 25 #[.int .i64 h', .int .i64 room', .slice B t.length d, .int .i64 n']) := mkHid (Blk.at _ _ _ (by simp))
  have Hbel : Hid (Below w.heap.size w ((w.alloc (.cells #[.int .i64 h, .int .i64 room, .slice A s.length c, .int .i64 n] 25)).alloc (.cells #[.int .i64 h', .int .i64 room', .slice B t.length d, .int .i64 n'] 25))) := mkHid (((Below.refl _ _).alloc (Nat.le_refl _) _).alloc (by simp) _)
  have HA := mkHid (hA.below (((Below.refl _ _).alloc (Nat.le_refl _) (.cells #[.int .i64 h, .int .i64 room, .slice A s.length c, .int .i64 n] 25)).alloc (by simp) (.cells #[.int .i64 h', .int .i64 room', .slice B t.length d, .int .i64 n'] 25)))
  have HB := mkHid (hB.below (((Below.refl _ _).alloc (Nat.le_refl _) (.cells #[.int .i64 h, .int .i64 room, .slice A s.length c, .int .i64 n] 25)).alloc (by simp) (.cells #[.int .i64 h', .int .i64 room', .slice B t.length d, .int .i64 n'] 25)))
  clear hA hB
  subst e0 e1
  go_enter Try.func19, Try.ntmps19
  go_wp2_with (go_at_call 45; ((with_reducible refine (seq_any hz hl _ _ _ _ _ HA.out HB.out).mono ?_); rintro e w1 ⟨rfl, hb1⟩; have _c0 := (HX.out.keep hb1).four; have _c1 := (HY.out.keep hb1).four; have hbl := mkHid (Hbel.out.step hb1); clear hb1))
  go_ret
  exact ⟨rfl, hbl.out⟩
set_option maxRecDepth 100000 in
set_option maxHeartbeats 2000000 in
theorem rsame3 {h room n h' room' n' : Int} {s t : List Nat} (e0 : h' = h) (e1 : room' = room) (hz : Hid (decide (s = t) = true)) (g : n ≠ n') (hl : s.length < 4611686018427387904) (A B : Option Addr) (c d : Nat) (w : World) (hA : Reads w A s) (hB : Reads w B t) :
    Calls Try.prog 19 #[.agg #[.int .i64 h, .int .i64 room, .slice A s.length c, .int .i64 n], .agg #[.int .i64 h', .int .i64 room', .slice B t.length d, .int .i64 n']] w fun e w' => e = .returned (.bool false) ∧ Below w.heap.size w w' := by
  have HX : Hid (Blk ((w.alloc (.cells #[.int .i64 h, .int .i64 room, .slice A s.length c, .int .i64 n] 25)).alloc (.cells #[.int .i64 h', .int .i64 room', .slice B t.length d, .int .i64 n'] 25)) w.heap.size 25 #[.int .i64 h, .int .i64 room, .slice A s.length c, .int .i64 n]) := mkHid ((Blk.new _ _ _).alloc _)
  have HY : Hid (Blk ((w.alloc (.cells #[.int .i64 h, .int .i64 room, .slice A s.length c, .int .i64 n] 25)).alloc (.cells #[.int .i64 h', .int .i64 room', .slice B t.length d, .int .i64 n'] 25)) (w.heap.size + 1) 25 #[.int .i64 h', .int .i64 room', .slice B t.length d, .int .i64 n']) := mkHid (Blk.at _ _ _ (by simp))
  have Hbel : Hid (Below w.heap.size w ((w.alloc (.cells #[.int .i64 h, .int .i64 room, .slice A s.length c, .int .i64 n] 25)).alloc (.cells #[.int .i64 h', .int .i64 room', .slice B t.length d, .int .i64 n'] 25))) := mkHid (((Below.refl _ _).alloc (Nat.le_refl _) _).alloc (by simp) _)
  have HA := mkHid (hA.below (((Below.refl _ _).alloc (Nat.le_refl _) (.cells #[.int .i64 h, .int .i64 room, .slice A s.length c, .int .i64 n] 25)).alloc (by simp) (.cells #[.int .i64 h', .int .i64 room', .slice B t.length d, .int .i64 n'] 25)))
  have HB := mkHid (hB.below (((Below.refl _ _).alloc (Nat.le_refl _) (.cells #[.int .i64 h, .int .i64 room, .slice A s.length c, .int .i64 n] 25)).alloc (by simp) (.cells #[.int .i64 h', .int .i64 room', .slice B t.length d, .int .i64 n'] 25)))
  clear hA hB
  subst e0 e1
  have t0 : ((n) == (n')) = false := beq_eq_false_iff_ne.2 g
  go_enter Try.func19, Try.ntmps19
  go_wp2_with (go_at_call 45; ((with_reducible refine (seq_any hz hl _ _ _ _ _ HA.out HB.out).mono ?_); rintro e w1 ⟨rfl, hb1⟩; have _c0 := (HX.out.keep hb1).four; have _c1 := (HY.out.keep hb1).four; have hbl := mkHid (Hbel.out.step hb1); clear hb1))
  go_ret
  exact ⟨rfl, hbl.out⟩
set_option maxRecDepth 100000 in
set_option maxHeartbeats 2000000 in
theorem rsame4 {h room n h' room' n' : Int} {s t : List Nat} (e0 : h' = h) (e1 : room' = room) (hz : Hid (decide (s = t) = true)) (e2 : n' = n) (hl : s.length < 4611686018427387904) (A B : Option Addr) (c d : Nat) (w : World) (hA : Reads w A s) (hB : Reads w B t) :
    Calls Try.prog 19 #[.agg #[.int .i64 h, .int .i64 room, .slice A s.length c, .int .i64 n], .agg #[.int .i64 h', .int .i64 room', .slice B t.length d, .int .i64 n']] w fun e w' => e = .returned (.bool true) ∧ Below w.heap.size w w' := by
  have HX : Hid (Blk ((w.alloc (.cells #[.int .i64 h, .int .i64 room, .slice A s.length c, .int .i64 n] 25)).alloc (.cells #[.int .i64 h', .int .i64 room', .slice B t.length d, .int .i64 n'] 25)) w.heap.size 25 #[.int .i64 h, .int .i64 room, .slice A s.length c, .int .i64 n]) := mkHid ((Blk.new _ _ _).alloc _)
  have HY : Hid (Blk ((w.alloc (.cells #[.int .i64 h, .int .i64 room, .slice A s.length c, .int .i64 n] 25)).alloc (.cells #[.int .i64 h', .int .i64 room', .slice B t.length d, .int .i64 n'] 25)) (w.heap.size + 1) 25 #[.int .i64 h', .int .i64 room', .slice B t.length d, .int .i64 n']) := mkHid (Blk.at _ _ _ (by simp))
  have Hbel : Hid (Below w.heap.size w ((w.alloc (.cells #[.int .i64 h, .int .i64 room, .slice A s.length c, .int .i64 n] 25)).alloc (.cells #[.int .i64 h', .int .i64 room', .slice B t.length d, .int .i64 n'] 25))) := mkHid (((Below.refl _ _).alloc (Nat.le_refl _) _).alloc (by simp) _)
  have HA := mkHid (hA.below (((Below.refl _ _).alloc (Nat.le_refl _) (.cells #[.int .i64 h, .int .i64 room, .slice A s.length c, .int .i64 n] 25)).alloc (by simp) (.cells #[.int .i64 h', .int .i64 room', .slice B t.length d, .int .i64 n'] 25)))
  have HB := mkHid (hB.below (((Below.refl _ _).alloc (Nat.le_refl _) (.cells #[.int .i64 h, .int .i64 room, .slice A s.length c, .int .i64 n] 25)).alloc (by simp) (.cells #[.int .i64 h', .int .i64 room', .slice B t.length d, .int .i64 n'] 25)))
  clear hA hB
  subst e0 e1 e2
  go_enter Try.func19, Try.ntmps19
  go_wp2_with (go_at_call 45; ((with_reducible refine (seq_any hz hl _ _ _ _ _ HA.out HB.out).mono ?_); rintro e w1 ⟨rfl, hb1⟩; have _c0 := (HX.out.keep hb1).four; have _c1 := (HY.out.keep hb1).four; have hbl := mkHid (Hbel.out.step hb1); clear hb1))
  go_ret
  exact ⟨rfl, hbl.out⟩

theorem rsame {h room n h' room' n' : Int} {s t : List Nat} {z : Bool} (e : Hid (rollSame h room s n h' room' t n' = z)) (hl : s.length < 4611686018427387904) (A B : Option Addr) (c d : Nat) (w : World) (hA : Reads w A s) (hB : Reads w B t) :
    Calls Try.prog 19 #[.agg #[.int .i64 h, .int .i64 room, .slice A s.length c, .int .i64 n], .agg #[.int .i64 h', .int .i64 room', .slice B t.length d, .int .i64 n']] w fun e w' => e = .returned (.bool z) ∧ Below w.heap.size w w' := by
  have e' := e.out
  unfold rollSame at e'
  by_cases g0 : h = h'
  · by_cases g1 : room = room'
    · by_cases g2 : s = t
      · by_cases g3 : n = n'
        · rw [decide_eq_true ⟨g0, g1, g2, g3⟩] at e'; subst e'; exact rsame4 g0.symm g1.symm (mkHid (decide_eq_true g2)) g3.symm hl A B c d w hA hB
        · rw [decide_eq_false (fun q => g3 q.2.2.2)] at e'; subst e'; exact rsame3 g0.symm g1.symm (mkHid (decide_eq_true g2)) g3 hl A B c d w hA hB
      · rw [decide_eq_false (fun q => g2 q.2.2.1)] at e'; subst e'; exact rsame2 g0.symm g1.symm (mkHid (decide_eq_false g2)) hl A B c d w hA hB
    · rw [decide_eq_false (fun q => g1 q.2.1)] at e'; subst e'; exact rsame1 g0.symm g1 hl A B c d w hA hB
  · rw [decide_eq_false (fun q => g0 q.1)] at e'; subst e'; exact rsame0 g0 hl A B c d w hA hB

set_option maxRecDepth 100000 in
set_option maxHeartbeats 2000000 in
theorem srsame0 {h room n h' room' n' : Int} {s t : List Nat} (g : h ≠ h') (_hl : s.length < 4611686018427387904) (A B : Option Addr) (c d : Nat) (w : World) (_hA : Reads w A s) (_hB : Reads w B t) :
    Calls Try.prog 24 #[.agg #[.int .i64 h, .int .i64 room, .slice A s.length c, .int .i64 n], .agg #[.int .i64 h', .int .i64 room', .slice B t.length d, .int .i64 n']] w fun e w' => e = .returned (.bool false) ∧ Below w.heap.size w w' := by
  have t0 : ((h) == (h')) = false := beq_eq_false_iff_ne.2 g
  go_enter Try.func24, Try.ntmps24
  go_wp2_with fail
  go_ret
  exact ⟨rfl, ((Below.refl _ _).alloc (Nat.le_refl _) _).alloc (by simp) _⟩
set_option maxRecDepth 100000 in
set_option maxHeartbeats 2000000 in
theorem srsame1 {h room n h' room' n' : Int} {s t : List Nat} (e0 : h' = h) (g : room ≠ room') (_hl : s.length < 4611686018427387904) (A B : Option Addr) (c d : Nat) (w : World) (_hA : Reads w A s) (_hB : Reads w B t) :
    Calls Try.prog 24 #[.agg #[.int .i64 h, .int .i64 room, .slice A s.length c, .int .i64 n], .agg #[.int .i64 h', .int .i64 room', .slice B t.length d, .int .i64 n']] w fun e w' => e = .returned (.bool false) ∧ Below w.heap.size w w' := by
  subst e0
  have t0 : ((room) == (room')) = false := beq_eq_false_iff_ne.2 g
  go_enter Try.func24, Try.ntmps24
  go_wp2_with fail
  go_ret
  exact ⟨rfl, ((Below.refl _ _).alloc (Nat.le_refl _) _).alloc (by simp) _⟩
set_option maxRecDepth 100000 in
set_option maxHeartbeats 2000000 in
theorem srsame2 {h room n h' room' n' : Int} {s t : List Nat} (e0 : h' = h) (e1 : room' = room) (hz : Hid (decide (s = t) = false)) (hl : s.length < 4611686018427387904) (A B : Option Addr) (c d : Nat) (w : World) (hA : Reads w A s) (hB : Reads w B t) :
    Calls Try.prog 24 #[.agg #[.int .i64 h, .int .i64 room, .slice A s.length c, .int .i64 n], .agg #[.int .i64 h', .int .i64 room', .slice B t.length d, .int .i64 n']] w fun e w' => e = .returned (.bool false) ∧ Below w.heap.size w w' := by
  have HX : Hid (Blk ((w.alloc (.cells #[.int .i64 h, .int .i64 room, .slice A s.length c, .int .i64 n] 25)).alloc (.cells #[.int .i64 h', .int .i64 room', .slice B t.length d, .int .i64 n'] 25)) w.heap.size 25 #[.int .i64 h, .int .i64 room, .slice A s.length c, .int .i64 n]) := mkHid ((Blk.new _ _ _).alloc _)
  have HY : Hid (Blk ((w.alloc (.cells #[.int .i64 h, .int .i64 room, .slice A s.length c, .int .i64 n] 25)).alloc (.cells #[.int .i64 h', .int .i64 room', .slice B t.length d, .int .i64 n'] 25)) (w.heap.size + 1) 25 #[.int .i64 h', .int .i64 room', .slice B t.length d, .int .i64 n']) := mkHid (Blk.at _ _ _ (by simp))
  have Hbel : Hid (Below w.heap.size w ((w.alloc (.cells #[.int .i64 h, .int .i64 room, .slice A s.length c, .int .i64 n] 25)).alloc (.cells #[.int .i64 h', .int .i64 room', .slice B t.length d, .int .i64 n'] 25))) := mkHid (((Below.refl _ _).alloc (Nat.le_refl _) _).alloc (by simp) _)
  have HA := mkHid (hA.below (((Below.refl _ _).alloc (Nat.le_refl _) (.cells #[.int .i64 h, .int .i64 room, .slice A s.length c, .int .i64 n] 25)).alloc (by simp) (.cells #[.int .i64 h', .int .i64 room', .slice B t.length d, .int .i64 n'] 25)))
  have HB := mkHid (hB.below (((Below.refl _ _).alloc (Nat.le_refl _) (.cells #[.int .i64 h, .int .i64 room, .slice A s.length c, .int .i64 n] 25)).alloc (by simp) (.cells #[.int .i64 h', .int .i64 room', .slice B t.length d, .int .i64 n'] 25)))
  clear hA hB
  subst e0 e1
  go_enter Try.func24, Try.ntmps24
  go_wp2_with (go_at_call 26; ((with_reducible refine (ssame_any hz hl _ _ _ _ _ HA.out HB.out).mono ?_); rintro e w1 ⟨rfl, hb1⟩; have _c0 := (HX.out.keep hb1).four; have _c1 := (HY.out.keep hb1).four; have hbl := mkHid (Hbel.out.step hb1); clear hb1))
  go_ret
  exact ⟨rfl, hbl.out⟩
set_option maxRecDepth 100000 in
set_option maxHeartbeats 2000000 in
theorem srsame3 {h room n h' room' n' : Int} {s t : List Nat} (e0 : h' = h) (e1 : room' = room) (hz : Hid (decide (s = t) = true)) (g : n ≠ n') (hl : s.length < 4611686018427387904) (A B : Option Addr) (c d : Nat) (w : World) (hA : Reads w A s) (hB : Reads w B t) :
    Calls Try.prog 24 #[.agg #[.int .i64 h, .int .i64 room, .slice A s.length c, .int .i64 n], .agg #[.int .i64 h', .int .i64 room', .slice B t.length d, .int .i64 n']] w fun e w' => e = .returned (.bool false) ∧ Below w.heap.size w w' := by
  have HX : Hid (Blk ((w.alloc (.cells #[.int .i64 h, .int .i64 room, .slice A s.length c, .int .i64 n] 25)).alloc (.cells #[.int .i64 h', .int .i64 room', .slice B t.length d, .int .i64 n'] 25)) w.heap.size 25 #[.int .i64 h, .int .i64 room, .slice A s.length c, .int .i64 n]) := mkHid ((Blk.new _ _ _).alloc _)
  have HY : Hid (Blk ((w.alloc (.cells #[.int .i64 h, .int .i64 room, .slice A s.length c, .int .i64 n] 25)).alloc (.cells #[.int .i64 h', .int .i64 room', .slice B t.length d, .int .i64 n'] 25)) (w.heap.size + 1) 25 #[.int .i64 h', .int .i64 room', .slice B t.length d, .int .i64 n']) := mkHid (Blk.at _ _ _ (by simp))
  have Hbel : Hid (Below w.heap.size w ((w.alloc (.cells #[.int .i64 h, .int .i64 room, .slice A s.length c, .int .i64 n] 25)).alloc (.cells #[.int .i64 h', .int .i64 room', .slice B t.length d, .int .i64 n'] 25))) := mkHid (((Below.refl _ _).alloc (Nat.le_refl _) _).alloc (by simp) _)
  have HA := mkHid (hA.below (((Below.refl _ _).alloc (Nat.le_refl _) (.cells #[.int .i64 h, .int .i64 room, .slice A s.length c, .int .i64 n] 25)).alloc (by simp) (.cells #[.int .i64 h', .int .i64 room', .slice B t.length d, .int .i64 n'] 25)))
  have HB := mkHid (hB.below (((Below.refl _ _).alloc (Nat.le_refl _) (.cells #[.int .i64 h, .int .i64 room, .slice A s.length c, .int .i64 n] 25)).alloc (by simp) (.cells #[.int .i64 h', .int .i64 room', .slice B t.length d, .int .i64 n'] 25)))
  clear hA hB
  subst e0 e1
  have t0 : ((n) == (n')) = false := beq_eq_false_iff_ne.2 g
  go_enter Try.func24, Try.ntmps24
  go_wp2_with (go_at_call 26; ((with_reducible refine (ssame_any hz hl _ _ _ _ _ HA.out HB.out).mono ?_); rintro e w1 ⟨rfl, hb1⟩; have _c0 := (HX.out.keep hb1).four; have _c1 := (HY.out.keep hb1).four; have hbl := mkHid (Hbel.out.step hb1); clear hb1))
  go_ret
  exact ⟨rfl, hbl.out⟩
set_option maxRecDepth 100000 in
set_option maxHeartbeats 2000000 in
theorem srsame4 {h room n h' room' n' : Int} {s t : List Nat} (e0 : h' = h) (e1 : room' = room) (hz : Hid (decide (s = t) = true)) (e2 : n' = n) (hl : s.length < 4611686018427387904) (A B : Option Addr) (c d : Nat) (w : World) (hA : Reads w A s) (hB : Reads w B t) :
    Calls Try.prog 24 #[.agg #[.int .i64 h, .int .i64 room, .slice A s.length c, .int .i64 n], .agg #[.int .i64 h', .int .i64 room', .slice B t.length d, .int .i64 n']] w fun e w' => e = .returned (.bool true) ∧ Below w.heap.size w w' := by
  have HX : Hid (Blk ((w.alloc (.cells #[.int .i64 h, .int .i64 room, .slice A s.length c, .int .i64 n] 25)).alloc (.cells #[.int .i64 h', .int .i64 room', .slice B t.length d, .int .i64 n'] 25)) w.heap.size 25 #[.int .i64 h, .int .i64 room, .slice A s.length c, .int .i64 n]) := mkHid ((Blk.new _ _ _).alloc _)
  have HY : Hid (Blk ((w.alloc (.cells #[.int .i64 h, .int .i64 room, .slice A s.length c, .int .i64 n] 25)).alloc (.cells #[.int .i64 h', .int .i64 room', .slice B t.length d, .int .i64 n'] 25)) (w.heap.size + 1) 25 #[.int .i64 h', .int .i64 room', .slice B t.length d, .int .i64 n']) := mkHid (Blk.at _ _ _ (by simp))
  have Hbel : Hid (Below w.heap.size w ((w.alloc (.cells #[.int .i64 h, .int .i64 room, .slice A s.length c, .int .i64 n] 25)).alloc (.cells #[.int .i64 h', .int .i64 room', .slice B t.length d, .int .i64 n'] 25))) := mkHid (((Below.refl _ _).alloc (Nat.le_refl _) _).alloc (by simp) _)
  have HA := mkHid (hA.below (((Below.refl _ _).alloc (Nat.le_refl _) (.cells #[.int .i64 h, .int .i64 room, .slice A s.length c, .int .i64 n] 25)).alloc (by simp) (.cells #[.int .i64 h', .int .i64 room', .slice B t.length d, .int .i64 n'] 25)))
  have HB := mkHid (hB.below (((Below.refl _ _).alloc (Nat.le_refl _) (.cells #[.int .i64 h, .int .i64 room, .slice A s.length c, .int .i64 n] 25)).alloc (by simp) (.cells #[.int .i64 h', .int .i64 room', .slice B t.length d, .int .i64 n'] 25)))
  clear hA hB
  subst e0 e1 e2
  go_enter Try.func24, Try.ntmps24
  go_wp2_with (go_at_call 26; ((with_reducible refine (ssame_any hz hl _ _ _ _ _ HA.out HB.out).mono ?_); rintro e w1 ⟨rfl, hb1⟩; have _c0 := (HX.out.keep hb1).four; have _c1 := (HY.out.keep hb1).four; have hbl := mkHid (Hbel.out.step hb1); clear hb1))
  go_ret
  exact ⟨rfl, hbl.out⟩

theorem srsame {h room n h' room' n' : Int} {s t : List Nat} {z : Bool} (e : Hid (rollSame h room s n h' room' t n' = z)) (hl : s.length < 4611686018427387904) (A B : Option Addr) (c d : Nat) (w : World) (hA : Reads w A s) (hB : Reads w B t) :
    Calls Try.prog 24 #[.agg #[.int .i64 h, .int .i64 room, .slice A s.length c, .int .i64 n], .agg #[.int .i64 h', .int .i64 room', .slice B t.length d, .int .i64 n']] w fun e w' => e = .returned (.bool z) ∧ Below w.heap.size w w' := by
  have e' := e.out
  unfold rollSame at e'
  by_cases g0 : h = h'
  · by_cases g1 : room = room'
    · by_cases g2 : s = t
      · by_cases g3 : n = n'
        · rw [decide_eq_true ⟨g0, g1, g2, g3⟩] at e'; subst e'; exact srsame4 g0.symm g1.symm (mkHid (decide_eq_true g2)) g3.symm hl A B c d w hA hB
        · rw [decide_eq_false (fun q => g3 q.2.2.2)] at e'; subst e'; exact srsame3 g0.symm g1.symm (mkHid (decide_eq_true g2)) g3 hl A B c d w hA hB
      · rw [decide_eq_false (fun q => g2 q.2.2.1)] at e'; subst e'; exact srsame2 g0.symm g1.symm (mkHid (decide_eq_false g2)) hl A B c d w hA hB
    · rw [decide_eq_false (fun q => g1 q.2.1)] at e'; subst e'; exact srsame1 g0.symm g1 hl A B c d w hA hB
  · rw [decide_eq_false (fun q => g0 q.1)] at e'; subst e'; exact srsame0 g0 hl A B c d w hA hB
end Go.Proofs.Ytmehbonjpmlmfaa
