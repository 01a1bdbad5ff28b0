/- Words, contracts and plain laws, part 2: what the proofs of this seat's statements about models lean on. -/
import Derived.Test.YtmehbonjpmlmfaaLib1
import Derived.Deep.DeepCutAuto
import Derived.Deep.RegionHeld3
import Derived.OwnWalk
import Derived.Laws.OwnMore
import Derived.Lib.SliceRun
namespace Go.Proofs.Ytmehbonjpmlmfaa
open Go.RowKit Go.Proofs.YtmehbonjpmlmfaaW.PrintWords

def rollSame (h room : Int) (s : List Nat) (n h' room' : Int) (t : List Nat) (n' : Int) : Bool := decide (h = h' ∧ room = room' ∧ s = t ∧ n = n')

set_option maxRecDepth 100000 in
set_option maxHeartbeats 2000000 in
theorem rsame0 {h room n h' room' n' : Int} {s t : List Nat} (g : h ≠ h') (_hl : s.length < 4611686018427387904) (A B : Option Addr) (c d : Nat) (w : World) (_hA : Reads w A s) (_hB : Reads w B t) :
    Calls Try.prog 19 #[.agg #[.int .i64 h, .int .i64 room, .slice A s.length c, .int .i64 n], .agg #[.int .i64 h', .int .i64 room', .slice B t.length d, .int .i64 n']] w fun e w' => e = .returned (.bool false) ∧ Below w.heap.size w w' := by
  have t0 : ((h) == (h')) = false := beq_eq_false_iff_ne.2 g
  go_enter Try.func19, Try.ntmps19
  go_wp2_with fail
  go_ret
  exact ⟨rfl, ((Below.refl _ _).alloc (Nat.le_refl _) _).alloc (by simp) _⟩
set_option maxRecDepth 100000 in
set_option maxHeartbeats 2000000 in
theorem rsame1 {h room n h' room' n' : Int} {s t : List Nat} (e0 : h' = h) (g : room ≠ room') (_hl : s.length < 4611686018427387904) (A B : Option Addr) (c d : Nat) (w : World) (_hA : Reads w A s) (_hB : Reads w B t) :
    Calls Try.prog 19 #[.agg #[.int .i64 h, .int .i64 room, .slice A s.length c, .int .i64 n], .agg #[.int .i64 h', .int .i64 room', .slice B t.length d, .int .i64 n']] w fun e w' => e = .returned (.bool false) ∧ Below w.heap.size w w' := by
  subst e0
  have t0 : ((room) == (room')) = false := beq_eq_false_iff_ne.2 g
  go_enter Try.func19, Try.ntmps19
  go_wp2_with fail
  go_ret
  exact ⟨rfl, ((Below.refl _ _).alloc (Nat.le_refl _) _).alloc (by simp) _⟩
set_option maxRecDepth 100000 in
set_option maxHeartbeats 2000000 in
theorem rsame2 {h room n h' room' n' : Int} {s t : List Nat} (e0 : h' = h) (e1 : room' = room) (hz : Hid (decide (s = t) = false)) (hl : s.length < 4611686018427387904) (A B : Option Addr) (c d : Nat) (w : World) (hA : Reads w A s) (hB : Reads w B t) :
    Calls Try.prog 19 #[.agg #[.int .i64 h, .int .i64 room, .slice A s.length c, .int .i64 n], .agg #[.int .i64 h', .int .i64 room', .slice B t.length d, .int .i64 n']] w fun e w' => e = .returned (.bool false) ∧ Below w.heap.size w w' := by
  have HX : Hid (Blk ((w.alloc (.cells #[.int .i64 h, .int .i64 room, .slice A s.length c, .int .i64 n] 25)).alloc (.cells #[.int .i64 h', .int .i64 room', .slice B t.length d, .int .i64 n'] 25)) w.heap.size 25 #[.int .i64 h, .int .i64 room, .slice A s.length c, .int .i64 n]) := mkHid ((Blk.new _ _ _).alloc _)
  have HY : Hid (Blk ((w.alloc (.cells #[.int .i64 h, .int .i64 room, .slice A s.length c, .int .i64 n] 25)).alloc (.cells #[.int .i64 h', .int .i64 room', .slice B t.length d, .int .i64 n'] 25)) (w.heap.size + 1) 25 #[.int .i64 h', .int .i64 room', .slice B t.length d, .int .i64 n']) := mkHid (Blk.at _ _ _ (by simp))
  have Hbel : Hid (Below w.heap.size w ((w.alloc (.cells #[.int .i64 h, .int .i64 room, .slice A s.length c, .int .i64 n] 25)).alloc (.cells #[.int .i64 h', .int .i64 room', .slice B t.length d, .int .i64 n'] 25))) := mkHid (((Below.refl _ _).alloc (Nat.le_refl _) _).alloc (by simp) _)
  have HA := mkHid (hA.below (((Below.refl _ _).alloc (Nat.le_refl _) (.cells #[.int .i64 h, .int .i64 room, .slice A s.length c, .int .i64 n] 25)).alloc (by simp) (.cells #[.int .i64 h', .int .i64 room', .slice B t.length d, .int .i64 n'] 25)))
  have HB := mkHid (hB.below (((Below.refl _ _).alloc (Nat.le_refl _) (.cells #[.int .i64 h, .int .i64 room, .slice A s.length c, .int .i64 n] 25)).alloc (by simp) (.cells #[.int .i64 h', .int .i64 room', .slice B t.length d, .int .i64 n'] 25)))
  clear hA hB
  subst e0 e1
  go_enter Try.func19, Try.ntmps19
  go_wp2_with (go_at_call 45; ((with_reducible refine (seq_any hz hl _ _ _ _ _ HA.out HB.out).mono ?_); rintro e w1 ⟨rfl, hb1⟩; have _c0 := (HX.out.keep hb1).four; have _c1 := (HY.out.keep hb1).four; have hbl := mkHid (Hbel.out.step hb1); clear hb1))
  go_ret
  exact ⟨rfl, hbl.out⟩
set_option maxRecDepth 100000 in
set_option maxHeartbeats 2000000 in
theorem rsame3 {h room n h' room' n' : Int} {s t : List Nat} (e0 : h' = h) (e1 : room' = room) (hz : Hid (decide (s = t) = true)) (g : n ≠ n') (hl : s.length < 4611686018427387904) (A B : Option Addr) (c d : Nat) (w : World) (hA : Reads w A s) (hB : Reads w B t) :
    Calls Try.prog 19 #[.agg #[.int .i64 h, .int .i64 room, .slice A s.length c, .int .i64 n], .agg #[.int .i64 h', .int .i64 room', .slice B t.length d, .int .i64 n']] w fun e w' => e = .returned (.bool false) ∧ Below w.heap.size w w' := by
  have HX : Hid (Blk ((w.alloc (.cells #[.int .i64 h, .int .i64 room, .slice A s.length c, .int .i64 n] 25)).alloc (.cells #[.int .i64 h', .int .i64 room', .slice B t.length d, .int .i64 n'] 25)) w.heap.size 25 #[.int .i64 h, .int .i64 room, .slice A s.length c, .int .i64 n]) := mkHid ((Blk.new _ _ _).alloc _)
  have HY : Hid (Blk ((w.alloc (.cells #[.int .i64 h, .int .i64 room, .slice A s.length c, .int .i64 n] 25)).alloc (.cells #[.int .i64 h', .int .i64 room', .slice B t.length d, .int .i64 n'] 25)) (w.heap.size + 1) 25 #[.int .i64 h', .int .i64 room', .slice B t.length d, .int .i64 n']) := mkHid (Blk.at _ _ _ (by simp))
  have Hbel : Hid (Below w.heap.size w ((w.alloc (.cells #[.int .i64 h, .int .i64 room, .slice A s.length c, .int .i64 n] 25)).alloc (.cells #[.int .i64 h', .int .i64 room', .slice B t.length d, .int .i64 n'] 25))) := mkHid (((Below.refl _ _).alloc (Nat.le_refl _) _).alloc (by simp) _)
  have HA := mkHid (hA.below (((Below.refl _ _).alloc (Nat.le_refl _) (.cells #[.int .i64 h, .int .i64 room, .slice A s.length c, .int .i64 n] 25)).alloc (by simp) (.cells #[.int .i64 h', .int .i64 room', .slice B t.length d, .int .i64 n'] 25)))
  have HB := mkHid (hB.below (((Below.refl _ _).alloc (Nat.le_refl _) (.cells #[.int .i64 h, .int .i64 room, .slice A s.length c, .int .i64 n] 25)).alloc (by simp) (.cells #[.int .i64 h', .int .i64 room', .slice B t.length d, .int .i64 n'] 25)))
  clear hA hB
  subst e0 e1
  have t0 : ((n) == (n')) = false := beq_eq_false_iff_ne.2 g
  go_enter Try.func19, Try.ntmps19
  go_wp2_with (go_at_call 45; ((with_reducible refine (seq_any hz hl _ _ _ _ _ HA.out HB.out).mono ?_); rintro e w1 ⟨rfl, hb1⟩; have _c0 := (HX.out.keep hb1).four; have _c1 := (HY.out.keep hb1).four; have hbl := mkHid (Hbel.out.step hb1); clear hb1))
  go_ret
  exact ⟨rfl, hbl.out⟩
set_option maxRecDepth 100000 in
set_option maxHeartbeats 2000000 in
theorem rsame4 {h room n h' room' n' : Int} {s t : List Nat} (e0 : h' = h) (e1 : room' = room) (hz : Hid (decide (s = t) = true)) (e2 : n' = n) (hl : s.length < 4611686018427387904) (A B : Option Addr) (c d : Nat) (w : World) (hA : Reads w A s) (hB : Reads w B t) :
    Calls Try.prog 19 #[.agg #[.int .i64 h, .int .i64 room, .slice A s.length c, .int .i64 n], .agg #[.int .i64 h', .int .i64 room', .slice B t.length d, .int .i64 n']] w fun e w' => e = .returned (.bool true) ∧ Below w.heap.size w w' := by
  have HX : Hid (Blk ((w.alloc (.cells #[.int .i64 h, .int .i64 room, .slice A s.length c, .int .i64 n] 25)).alloc (.cells #[.int .i64 h', .int .i64 room', .slice B t.length d, .int .i64 n'] 25)) w.heap.size 25 #[.int .i64 h, .int .i64 room, .slice A s.length c, .int .i64 n]) := mkHid ((Blk.new _ _ _).alloc _)
  have HY : Hid (Blk ((w.alloc (.cells #[.int .i64 h, .int .i64 room, .slice A s.length c, .int .i64 n] 25)).alloc (.cells #[.int .i64 h', .int .i64 room', .slice B t.length d, .int .i64 n'] 25)) (w.heap.size + 1) 25 #[.int .i64 h', .int .i64 room', .slice B t.length d, .int .i64 n']) := mkHid (Blk.at _ _ _ (by simp))
  have Hbel : Hid (Below w.heap.size w ((w.alloc (.cells #[.int .i64 h, .int .i64 room, .slice A s.length c, .int .i64 n] 25)).alloc (.cells #[.int .i64 h', .int .i64 room', .slice B t.length d, .int .i64 n'] 25))) := mkHid (((Below.refl _ _).alloc (Nat.le_refl _) _).alloc (by simp) _)
  have HA := mkHid (hA.below (((Below.refl _ _).alloc (Nat.le_refl _) (.cells #[.int .i64 h, .int .i64 room, .slice A s.length c, .int .i64 n] 25)).alloc (by simp) (.cells #[.int .i64 h', .int .i64 room', .slice B t.length d, .int .i64 n'] 25)))
  have HB := mkHid (hB.below (((Below.refl _ _).alloc (Nat.le_refl _) (.cells #[.int .i64 h, .int .i64 room, .slice A s.length c, .int .i64 n] 25)).alloc (by simp) (.cells #[.int .i64 h', .int .i64 room', .slice B t.length d, .int .i64 n'] 25)))
  clear hA hB
  subst e0 e1 e2
  go_enter Try.func19, Try.ntmps19
  go_wp2_with (go_at_call 45; ((with_reducible refine (seq_any hz hl _ _ _ _ _ HA.out HB.out).mono ?_); rintro e w1 ⟨rfl, hb1⟩; have _c0 := (HX.out.keep hb1).four; have _c1 := (HY.out.keep hb1).four; have hbl := mkHid (Hbel.out.step hb1); clear hb1))
  go_ret
  exact ⟨rfl, hbl.out⟩

theorem rsame {h room n h' room' n' : Int} {s t : List Nat} {z : Bool} (e : Hid (rollSame h room s n h' room' t n' = z)) (hl : s.length < 4611686018427387904) (A B : Option Addr) (c d : Nat) (w : World) (hA : Reads w A s) (hB : Reads w B t) :
    Calls Try.prog 19 #[.agg #[.int .i64 h, .int .i64 room, .slice A s.length c, .int .i64 n], .agg #[.int .i64 h', .int .i64 room', .slice B t.length d, .int .i64 n']] w fun e w' => e = .returned (.bool z) ∧ Below w.heap.size w w' := by
  have e' := e.out
  unfold rollSame at e'
  by_cases g0 : h = h'
  · by_cases g1 : room = room'
    · by_cases g2 : s = t
      · by_cases g3 : n = n'
        · rw [decide_eq_true ⟨g0, g1, g2, g3⟩] at e'; subst e'; exact rsame4 g0.symm g1.symm (mkHid (decide_eq_true g2)) g3.symm hl A B c d w hA hB
        · rw [decide_eq_false (fun q => g3 q.2.2.2)] at e'; subst e'; exact rsame3 g0.symm g1.symm (mkHid (decide_eq_true g2)) g3 hl A B c d w hA hB
      · rw [decide_eq_false (fun q => g2 q.2.2.1)] at e'; subst e'; exact rsame2 g0.symm g1.symm (mkHid (decide_eq_false g2)) hl A B c d w hA hB
    · rw [decide_eq_false (fun q => g1 q.2.1)] at e'; subst e'; exact rsame1 g0.symm g1 hl A B c d w hA hB
  · rw [decide_eq_false (fun q => g0 q.1)] at e'; subst e'; exact rsame0 g0 hl A B c d w hA hB

set_option maxRecDepth 100000 in
set_option maxHeartbeats 2000000 in
theorem srsame0 {h room n h' room' n' : Int} {s t : List Nat} (g : h ≠ h') (_hl : s.length < 4611686018427387904) (A B : Option Addr) (c d : Nat) (w : World) (_hA : Reads w A s) (_hB : Reads w B t) :
    Calls Try.prog 24 #[.agg #[.int .i64 h, .int .i64 room, .slice A s.length c, .int .i64 n], .agg #[.int .i64 h', .int .i64 room', .slice B t.length d, .int .i64 n']] w fun e w' => e = .returned (.bool false) ∧ Below w.heap.size w w' := by
  have t0 : ((h) == (h')) = false := beq_eq_false_iff_ne.2 g
  go_enter Try.func24, Try.ntmps24
  go_wp2_with fail
  go_ret
  exact ⟨rfl, ((Below.refl _ _).alloc (Nat.le_refl _) _).alloc (by simp) _⟩
set_option maxRecDepth 100000 in
set_option maxHeartbeats 2000000 in
theorem srsame1 {h room n h' room' n' : Int} {s t : List Nat} (e0 : h' = h) (g : room ≠ room') (_hl : s.length < 4611686018427387904) (A B : Option Addr) (c d : Nat) (w : World) (_hA : Reads w A s) (_hB : Reads w B t) :
    Calls Try.prog 24 #[.agg #[.int .i64 h, .int .i64 room, .slice A s.length c, .int .i64 n], .agg #[.int .i64 h', .int .i64 room', .slice B t.length d, .int .i64 n']] w fun e w' => e = .returned (.bool false) ∧ Below w.heap.size w w' := by
  subst e0
  have t0 : ((room) == (room')) = false := beq_eq_false_iff_ne.2 g
  go_enter Try.func24, Try.ntmps24
  go_wp2_with fail
  go_ret
  exact ⟨rfl, ((Below.refl _ _).alloc (Nat.le_refl _) _).alloc (by simp) _⟩
set_option maxRecDepth 100000 in
set_option maxHeartbeats 2000000 in
theorem srsame2 {h room n h' room' n' : Int} {s t : List Nat} (e0 : h' = h) (e1 : room' = room) (hz : Hid (decide (s = t) = false)) (hl : s.length < 4611686018427387904) (A B : Option Addr) (c d : Nat) (w : World) (hA : Reads w A s) (hB : Reads w B t) :
    Calls Try.prog 24 #[.agg #[.int .i64 h, .int .i64 room, .slice A s.length c, .int .i64 n], .agg #[.int .i64 h', .int .i64 room', .slice B t.length d, .int .i64 n']] w fun e w' => e = .returned (.bool false) ∧ Below w.heap.size w w' := by
  have HX : Hid (Blk ((w.alloc (.cells #[.int .i64 h, .int .i64 room, .slice A s.length c, .int .i64 n] 25)).alloc (.cells #[.int .i64 h', .int .i64 room', .slice B t.length d, .int .i64 n'] 25)) w.heap.size 25 #[.int .i64 h, .int .i64 room, .slice A s.length c, .int .i64 n]) := mkHid ((Blk.new _ _ _).alloc _)
  have HY : Hid (Blk ((w.alloc (.cells #[.int .i64 h, .int .i64 room, .slice A s.length c, .int .i64 n] 25)).alloc (.cells #[.int .i64 h', .int .i64 room', .slice B t.length d, .int .i64 n'] 25)) (w.heap.size + 1) 25 #[.int .i64 h', .int .i64 room', .slice B t.length d, .int .i64 n']) := mkHid (Blk.at _ _ _ (by simp))
  have Hbel : Hid (Below w.heap.size w ((w.alloc (.cells #[.int .i64 h, .int .i64 room, .slice A s.length c, .int .i64 n] 25)).alloc (.cells #[.int .i64 h', .int .i64 room', .slice B t.length d, .int .i64 n'] 25))) := mkHid (((Below.refl _ _).alloc (Nat.le_refl _) _).alloc (by simp) _)
  have HA := mkHid (hA.below (((Below.refl _ _).alloc (Nat.le_refl _) (.cells #[.int .i64 h, .int .i64 room, .slice A s.length c, .int .i64 n] 25)).alloc (by simp) (.cells #[.int .i64 h', .int .i64 room', .slice B t.length d, .int .i64 n'] 25)))
  have HB := mkHid (hB.below (((Below.refl _ _).alloc (Nat.le_refl _) (.cells #[.int .i64 h, .int .i64 room, .slice A s.length c, .int .i64 n] 25)).alloc (by simp) (.cells #[.int .i64 h', .int .i64 room', .slice B t.length d, .int .i64 n'] 25)))
  clear hA hB
  subst e0 e1
  go_enter Try.func24, Try.ntmps24
  go_wp2_with (go_at_call 26; ((with_reducible refine (ssame_any hz hl _ _ _ _ _ HA.out HB.out).mono ?_); rintro e w1 ⟨rfl, hb1⟩; have _c0 := (HX.out.keep hb1).four; have _c1 := (HY.out.keep hb1).four; have hbl := mkHid (Hbel.out.step hb1); clear hb1))
  go_ret
  exact ⟨rfl, hbl.out⟩
set_option maxRecDepth 100000 in
set_option maxHeartbeats 2000000 in
theorem srsame3 {h room n h' room' n' : Int} {s t : List Nat} (e0 : h' = h) (e1 : room' = room) (hz : Hid (decide (s = t) = true)) (g : n ≠ n') (hl : s.length < 4611686018427387904) (A B : Option Addr) (c d : Nat) (w : World) (hA : Reads w A s) (hB : Reads w B t) :
    Calls Try.prog 24 #[.agg #[.int .i64 h, .int .i64 room, .slice A s.length c, .int .i64 n], .agg #[.int .i64 h', .int .i64 room', .slice B t.length d, .int .i64 n']] w fun e w' => e = .returned (.bool false) ∧ Below w.heap.size w w' := by
  have HX : Hid (Blk ((w.alloc (.cells #[.int .i64 h, .int .i64 room, .slice A s.length c, .int .i64 n] 25)).alloc (.cells #[.int .i64 h', .int .i64 room', .slice B t.length d, .int .i64 n'] 25)) w.heap.size 25 #[.int .i64 h, .int .i64 room, .slice A s.length c, .int .i64 n]) := mkHid ((Blk.new _ _ _).alloc _)
  have HY : Hid (Blk ((w.alloc (.cells #[.int .i64 h, .int .i64 room, .slice A s.length c, .int .i64 n] 25)).alloc (.cells #[.int .i64 h', .int .i64 room', .slice B t.length d, .int .i64 n'] 25)) (w.heap.size + 1) 25 #[.int .i64 h', .int .i64 room', .slice B t.length d, .int .i64 n']) := mkHid (Blk.at _ _ _ (by simp))
  have Hbel : Hid (Below w.heap.size w ((w.alloc (.cells #[.int .i64 h, .int .i64 room, .slice A s.length c, .int .i64 n] 25)).alloc (.cells #[.int .i64 h', .int .i64 room', .slice B t.length d, .int .i64 n'] 25))) := mkHid (((Below.refl _ _).alloc (Nat.le_refl _) _).alloc (by simp) _)
  have HA := mkHid (hA.below (((Below.refl _ _).alloc (Nat.le_refl _) (.cells #[.int .i64 h, .int .i64 room, .slice A s.length c, .int .i64 n] 25)).alloc (by simp) (.cells #[.int .i64 h', .int .i64 room', .slice B t.length d, .int .i64 n'] 25)))
  have HB := mkHid (hB.below (((Below.refl _ _).alloc (Nat.le_refl _) (.cells #[.int .i64 h, .int .i64 room, .slice A s.length c, .int .i64 n] 25)).alloc (by simp) (.cells #[.int .i64 h', .int .i64 room', .slice B t.length d, .int .i64 n'] 25)))
  clear hA hB
  subst e0 e1
  have t0 : ((n) == (n')) = false := beq_eq_false_iff_ne.2 g
  go_enter Try.func24, Try.ntmps24
  go_wp2_with (go_at_call 26; ((with_reducible refine (ssame_any hz hl _ _ _ _ _ HA.out HB.out).mono ?_); rintro e w1 ⟨rfl, hb1⟩; have _c0 := (HX.out.keep hb1).four; have _c1 := (HY.out.keep hb1).four; have hbl := mkHid (Hbel.out.step hb1); clear hb1))
  go_ret
  exact ⟨rfl, hbl.out⟩
set_option maxRecDepth 100000 in
set_option maxHeartbeats 2000000 in
theorem srsame4 {h room n h' room' n' : Int} {s t : List Nat} (e0 : h' = h) (e1 : room' = room) (hz : Hid (decide (s = t) = true)) (e2 : n' = n) (hl : s.length < 4611686018427387904) (A B : Option Addr) (c d : Nat) (w : World) (hA : Reads w A s) (hB : Reads w B t) :
    Calls Try.prog 24 #[.agg #[.int .i64 h, .int .i64 room, .slice A s.length c, .int .i64 n], .agg #[.int .i64 h', .int .i64 room', .slice B t.length d, .int .i64 n']] w fun e w' => e = .returned (.bool true) ∧ Below w.heap.size w w' := by
  have HX : Hid (Blk ((w.alloc (.cells #[.int .i64 h, .int .i64 room, .slice A s.length c, .int .i64 n] 25)).alloc (.cells #[.int .i64 h', .int .i64 room', .slice B t.length d, .int .i64 n'] 25)) w.heap.size 25 #[.int .i64 h, .int .i64 room, .slice A s.length c, .int .i64 n]) := mkHid ((Blk.new _ _ _).alloc _)
  have HY : Hid (Blk ((w.alloc (.cells #[.int .i64 h, .int .i64 room, .slice A s.length c, .int .i64 n] 25)).alloc (.cells #[.int .i64 h', .int .i64 room', .slice B t.length d, .int .i64 n'] 25)) (w.heap.size + 1) 25 #[.int .i64 h', .int .i64 room', .slice B t.length d, .int .i64 n']) := mkHid (Blk.at _ _ _ (by simp))
  have Hbel : Hid (Below w.heap.size w ((w.alloc (.cells #[.int .i64 h, .int .i64 room, .slice A s.length c, .int .i64 n] 25)).alloc (.cells #[.int .i64 h', .int .i64 room', .slice B t.length d, .int .i64 n'] 25))) := mkHid (((Below.refl _ _).alloc (Nat.le_refl _) _).alloc (by simp) _)
  have HA := mkHid (hA.below (((Below.refl _ _).alloc (Nat.le_refl _) (.cells #[.int .i64 h, .int .i64 room, .slice A s.length c, .int .i64 n] 25)).alloc (by simp) (.cells #[.int .i64 h', .int .i64 room', .slice B t.length d, .int .i64 n'] 25)))
  have HB := mkHid (hB.below (((Below.refl _ _).alloc (Nat.le_refl _) (.cells #[.int .i64 h, .int .i64 room, .slice A s.length c, .int .i64 n] 25)).alloc (by simp) (.cells #[.int .i64 h', .int .i64 room', .slice B t.length d, .int .i64 n'] 25)))
  clear hA hB
  subst e0 e1 e2
  go_enter Try.func24, Try.ntmps24
  go_wp2_with (go_at_call 26; ((with_reducible refine (ssame_any hz hl _ _ _ _ _ HA.out HB.out).mono ?_); rintro e w1 ⟨rfl, hb1⟩; have _c0 := (HX.out.keep hb1).four; have _c1 := (HY.out.keep hb1).four; have hbl := mkHid (Hbel.out.step hb1); clear hb1))
  go_ret
  exact ⟨rfl, hbl.out⟩

theorem srsame {h room n h' room' n' : Int} {s t : List Nat} {z : Bool} (e : Hid (rollSame h room s n h' room' t n' = z)) (hl : s.length < 4611686018427387904) (A B : Option Addr) (c d : Nat) (w : World) (hA : Reads w A s) (hB : Reads w B t) :
    Calls Try.prog 24 #[.agg #[.int .i64 h, .int .i64 room, .slice A s.length c, .int .i64 n], .agg #[.int .i64 h', .int .i64 room', .slice B t.length d, .int .i64 n']] w fun e w' => e = .returned (.bool z) ∧ Below w.heap.size w w' := by
  have e' := e.out
  unfold rollSame at e'
  by_cases g0 : h = h'
  · by_cases g1 : room = room'
    · by_cases g2 : s = t
      · by_cases g3 : n = n'
        · rw [decide_eq_true ⟨g0, g1, g2, g3⟩] at e'; subst e'; exact srsame4 g0.symm g1.symm (mkHid (decide_eq_true g2)) g3.symm hl A B c d w hA hB
        · rw [decide_eq_false (fun q => g3 q.2.2.2)] at e'; subst e'; exact srsame3 g0.symm g1.symm (mkHid (decide_eq_true g2)) g3 hl A B c d w hA hB
      · rw [decide_eq_false (fun q => g2 q.2.2.1)] at e'; subst e'; exact srsame2 g0.symm g1.symm (mkHid (decide_eq_false g2)) hl A B c d w hA hB
    · rw [decide_eq_false (fun q => g1 q.2.1)] at e'; subst e'; exact srsame1 g0.symm g1 hl A B c d w hA hB
  · rw [decide_eq_false (fun q => g0 q.1)] at e'; subst e'; exact srsame0 g0 hl A B c d w hA hB
end Go.Proofs.Ytmehbonjpmlmfaa

namespace Go.Proofs.Ytmehbonjpmlmfaa
open Go.RowKit Go.Proofs.YtmehbonjpmlmfaaW.PrintWords

theorem below_four {w w1 : World} {b g : Nat} (h : Below b w w1) (hg : b ≤ g) (x y z u : Value) : Below b w ((((w1.setCell ⟨g, 0, none⟩ x).setCell ⟨g, 1, none⟩ y).setCell ⟨g, 2, none⟩ z).setCell ⟨g, 3, none⟩ u) :=
  (((h.setCell (p := ⟨g, 0, none⟩) hg _).setCell (p := ⟨g, 1, none⟩) hg _).setCell (p := ⟨g, 2, none⟩) hg _).setCell (p := ⟨g, 3, none⟩) hg _

set_option maxRecDepth 100000 in
set_option maxHeartbeats 4000000 in
theorem rnew_yes {h room : Int} (e : Hid (rollCheck h room [] 0 = 0)) (w : World) :
    Calls Try.prog 13 #[.int .i64 h, .int .i64 room] w fun e w' => e = .returned (.tuple #[.agg #[.int .i64 h, .int .i64 room, .slice none 0 0, .int .i64 0], .int .i64 0]) ∧ Below w.heap.size w w' := by
  skip
  have ZZ : Hid (Blk ((w.alloc (.cells #[.int .i64 0, .int .i64 0, .slice none 0 0, .int .i64 0] 25)).alloc (.cells #[.int .i64 h, .int .i64 room, .slice none 0 0, .int .i64 0] 25)) w.heap.size 25 #[.int .i64 0, .int .i64 0, .slice none 0 0, .int .i64 0]) := mkHid ((Blk.new _ _ _).alloc _)
  have ZX : Hid (Blk ((w.alloc (.cells #[.int .i64 0, .int .i64 0, .slice none 0 0, .int .i64 0] 25)).alloc (.cells #[.int .i64 h, .int .i64 room, .slice none 0 0, .int .i64 0] 25)) (w.heap.size + 1) 25 #[.int .i64 h, .int .i64 room, .slice none 0 0, .int .i64 0]) := mkHid (Blk.at _ _ _ (by simp))
  have KB : Hid (Below w.heap.size w ((w.alloc (.cells #[.int .i64 0, .int .i64 0, .slice none 0 0, .int .i64 0] 25)).alloc (.cells #[.int .i64 h, .int .i64 room, .slice none 0 0, .int .i64 0] 25))) := mkHid (((Below.refl _ _).alloc (Nat.le_refl _) _).alloc (by simp) _)
  have cZZ := ZZ.out.four
  have fZZ0 := ZZ.out.frozen 0
  have fZZ1 := ZZ.out.frozen 1
  have fZZ2 := ZZ.out.frozen 2
  have fZZ3 := ZZ.out.frozen 3
  have cZX := ZX.out.four
  go_enter Try.func13, Try.ntmps13
  go_wp2_with fail
  refine (rchk e none 0 _ (Reads.nil _)).mono ?_
  rintro e w1 ⟨rfl, hb1⟩
  replace ZZ := mkHid (ZZ.out.keep hb1)
  replace ZX := mkHid (ZX.out.keep hb1)
  replace KB := mkHid (KB.out.step hb1)
  clear cZZ fZZ0 fZZ1 fZZ2 fZZ3
  have cZZ := ZZ.out.four
  have fZZ0 := ZZ.out.frozen 0
  have fZZ1 := ZZ.out.frozen 1
  have fZZ2 := ZZ.out.frozen 2
  have fZZ3 := ZZ.out.frozen 3
  clear cZX
  have cZX := ZX.out.four
  clear hb1
  go_wp2_with fail
  have qR := (ZZ.out.fill4 (x := .int .i64 h) (y := .int .i64 room) (u := .slice none 0 0) (v := .int .i64 0)).four
  refine bodyPost_ret (v := .tuple #[.agg #[.int .i64 h, .int .i64 room, .slice none 0 0, .int .i64 0], .int .i64 0]) (by simp [results, Try.results13, go_sem, qR]) rfl ⟨rfl, ?_⟩
  exact below_four KB.out (Nat.le_refl _) _ _ _ _

set_option maxRecDepth 100000 in
set_option maxHeartbeats 4000000 in
theorem rnew_no {h room : Int} (e : Hid (rollCheck h room [] 0 = 1)) (w : World) :
    Calls Try.prog 13 #[.int .i64 h, .int .i64 room] w fun e w' => e = .returned (.tuple #[.agg #[.int .i64 0, .int .i64 0, .slice none 0 0, .int .i64 0], .int .i64 1]) ∧ Below w.heap.size w w' := by
  skip
  have ZZ : Hid (Blk ((w.alloc (.cells #[.int .i64 0, .int .i64 0, .slice none 0 0, .int .i64 0] 25)).alloc (.cells #[.int .i64 h, .int .i64 room, .slice none 0 0, .int .i64 0] 25)) w.heap.size 25 #[.int .i64 0, .int .i64 0, .slice none 0 0, .int .i64 0]) := mkHid ((Blk.new _ _ _).alloc _)
  have ZX : Hid (Blk ((w.alloc (.cells #[.int .i64 0, .int .i64 0, .slice none 0 0, .int .i64 0] 25)).alloc (.cells #[.int .i64 h, .int .i64 room, .slice none 0 0, .int .i64 0] 25)) (w.heap.size + 1) 25 #[.int .i64 h, .int .i64 room, .slice none 0 0, .int .i64 0]) := mkHid (Blk.at _ _ _ (by simp))
  have KB : Hid (Below w.heap.size w ((w.alloc (.cells #[.int .i64 0, .int .i64 0, .slice none 0 0, .int .i64 0] 25)).alloc (.cells #[.int .i64 h, .int .i64 room, .slice none 0 0, .int .i64 0] 25))) := mkHid (((Below.refl _ _).alloc (Nat.le_refl _) _).alloc (by simp) _)
  have cZZ := ZZ.out.four
  have fZZ0 := ZZ.out.frozen 0
  have fZZ1 := ZZ.out.frozen 1
  have fZZ2 := ZZ.out.frozen 2
  have fZZ3 := ZZ.out.frozen 3
  have cZX := ZX.out.four
  go_enter Try.func13, Try.ntmps13
  go_wp2_with fail
  refine (rchk e none 0 _ (Reads.nil _)).mono ?_
  rintro e w1 ⟨rfl, hb1⟩
  replace ZZ := mkHid (ZZ.out.keep hb1)
  replace ZX := mkHid (ZX.out.keep hb1)
  replace KB := mkHid (KB.out.step hb1)
  clear cZZ fZZ0 fZZ1 fZZ2 fZZ3
  have cZZ := ZZ.out.four
  have fZZ0 := ZZ.out.frozen 0
  have fZZ1 := ZZ.out.frozen 1
  have fZZ2 := ZZ.out.frozen 2
  have fZZ3 := ZZ.out.frozen 3
  clear cZX
  have cZX := ZX.out.four
  clear hb1
  go_wp2_with fail
  have qR := (ZZ.out.fill4 (x := .int .i64 0) (y := .int .i64 0) (u := .slice none 0 0) (v := .int .i64 0)).four
  refine bodyPost_ret (v := .tuple #[.agg #[.int .i64 0, .int .i64 0, .slice none 0 0, .int .i64 0], .int .i64 1]) (by simp [results, Try.results13, go_sem, qR]) rfl ⟨rfl, ?_⟩
  exact below_four KB.out (Nat.le_refl _) _ _ _ _

set_option maxRecDepth 100000 in
set_option maxHeartbeats 4000000 in
theorem srnew_yes {h room : Int} (e : Hid (rollCheck h room [] 0 = 0)) (w : World) :
    Calls Try.prog 23 #[.int .i64 h, .int .i64 room] w fun e w' => e = .returned (.tuple #[.agg #[.int .i64 h, .int .i64 room, .slice none 0 0, .int .i64 0], .int .i64 0]) ∧ Below w.heap.size w w' := by
  skip
  have ZZ : Hid (Blk ((w.alloc (.cells #[.int .i64 0, .int .i64 0, .slice none 0 0, .int .i64 0] 25)).alloc (.cells #[.int .i64 h, .int .i64 room, .slice none 0 0, .int .i64 0] 25)) w.heap.size 25 #[.int .i64 0, .int .i64 0, .slice none 0 0, .int .i64 0]) := mkHid ((Blk.new _ _ _).alloc _)
  have ZX : Hid (Blk ((w.alloc (.cells #[.int .i64 0, .int .i64 0, .slice none 0 0, .int .i64 0] 25)).alloc (.cells #[.int .i64 h, .int .i64 room, .slice none 0 0, .int .i64 0] 25)) (w.heap.size + 1) 25 #[.int .i64 h, .int .i64 room, .slice none 0 0, .int .i64 0]) := mkHid (Blk.at _ _ _ (by simp))
  have KB : Hid (Below w.heap.size w ((w.alloc (.cells #[.int .i64 0, .int .i64 0, .slice none 0 0, .int .i64 0] 25)).alloc (.cells #[.int .i64 h, .int .i64 room, .slice none 0 0, .int .i64 0] 25))) := mkHid (((Below.refl _ _).alloc (Nat.le_refl _) _).alloc (by simp) _)
  have cZZ := ZZ.out.four
  have fZZ0 := ZZ.out.frozen 0
  have fZZ1 := ZZ.out.frozen 1
  have fZZ2 := ZZ.out.frozen 2
  have fZZ3 := ZZ.out.frozen 3
  have cZX := ZX.out.four
  go_enter Try.func23, Try.ntmps23
  go_wp2_with fail
  refine (schk e none 0 _ (Reads.nil _)).mono ?_
  rintro e w1 ⟨rfl, hb1⟩
  replace ZZ := mkHid (ZZ.out.keep hb1)
  replace ZX := mkHid (ZX.out.keep hb1)
  replace KB := mkHid (KB.out.step hb1)
  clear cZZ fZZ0 fZZ1 fZZ2 fZZ3
  have cZZ := ZZ.out.four
  have fZZ0 := ZZ.out.frozen 0
  have fZZ1 := ZZ.out.frozen 1
  have fZZ2 := ZZ.out.frozen 2
  have fZZ3 := ZZ.out.frozen 3
  clear cZX
  have cZX := ZX.out.four
  clear hb1
  go_wp2_with fail
  have qR := (ZZ.out.fill4 (x := .int .i64 h) (y := .int .i64 room) (u := .slice none 0 0) (v := .int .i64 0)).four
  refine bodyPost_ret (v := .tuple #[.agg #[.int .i64 h, .int .i64 room, .slice none 0 0, .int .i64 0], .int .i64 0]) (by simp [results, Try.results23, go_sem, qR]) rfl ⟨rfl, ?_⟩
  exact below_four KB.out (Nat.le_refl _) _ _ _ _

set_option maxRecDepth 100000 in
set_option maxHeartbeats 4000000 in
theorem srnew_no {h room : Int} (e : Hid (rollCheck h room [] 0 = 1)) (w : World) :
    Calls Try.prog 23 #[.int .i64 h, .int .i64 room] w fun e w' => e = .returned (.tuple #[.agg #[.int .i64 0, .int .i64 0, .slice none 0 0, .int .i64 0], .int .i64 1]) ∧ Below w.heap.size w w' := by
  skip
  have ZZ : Hid (Blk ((w.alloc (.cells #[.int .i64 0, .int .i64 0, .slice none 0 0, .int .i64 0] 25)).alloc (.cells #[.int .i64 h, .int .i64 room, .slice none 0 0, .int .i64 0] 25)) w.heap.size 25 #[.int .i64 0, .int .i64 0, .slice none 0 0, .int .i64 0]) := mkHid ((Blk.new _ _ _).alloc _)
  have ZX : Hid (Blk ((w.alloc (.cells #[.int .i64 0, .int .i64 0, .slice none 0 0, .int .i64 0] 25)).alloc (.cells #[.int .i64 h, .int .i64 room, .slice none 0 0, .int .i64 0] 25)) (w.heap.size + 1) 25 #[.int .i64 h, .int .i64 room, .slice none 0 0, .int .i64 0]) := mkHid (Blk.at _ _ _ (by simp))
  have KB : Hid (Below w.heap.size w ((w.alloc (.cells #[.int .i64 0, .int .i64 0, .slice none 0 0, .int .i64 0] 25)).alloc (.cells #[.int .i64 h, .int .i64 room, .slice none 0 0, .int .i64 0] 25))) := mkHid (((Below.refl _ _).alloc (Nat.le_refl _) _).alloc (by simp) _)
  have cZZ := ZZ.out.four
  have fZZ0 := ZZ.out.frozen 0
  have fZZ1 := ZZ.out.frozen 1
  have fZZ2 := ZZ.out.frozen 2
  have fZZ3 := ZZ.out.frozen 3
  have cZX := ZX.out.four
  go_enter Try.func23, Try.ntmps23
  go_wp2_with fail
  refine (schk e none 0 _ (Reads.nil _)).mono ?_
  rintro e w1 ⟨rfl, hb1⟩
  replace ZZ := mkHid (ZZ.out.keep hb1)
  replace ZX := mkHid (ZX.out.keep hb1)
  replace KB := mkHid (KB.out.step hb1)
  clear cZZ fZZ0 fZZ1 fZZ2 fZZ3
  have cZZ := ZZ.out.four
  have fZZ0 := ZZ.out.frozen 0
  have fZZ1 := ZZ.out.frozen 1
  have fZZ2 := ZZ.out.frozen 2
  have fZZ3 := ZZ.out.frozen 3
  clear cZX
  have cZX := ZX.out.four
  clear hb1
  go_wp2_with fail
  have qR := (ZZ.out.fill4 (x := .int .i64 0) (y := .int .i64 0) (u := .slice none 0 0) (v := .int .i64 0)).four
  refine bodyPost_ret (v := .tuple #[.agg #[.int .i64 0, .int .i64 0, .slice none 0 0, .int .i64 0], .int .i64 1]) (by simp [results, Try.results23, go_sem, qR]) rfl ⟨rfl, ?_⟩
  exact below_four KB.out (Nat.le_refl _) _ _ _ _

set_option maxRecDepth 100000 in
set_option maxHeartbeats 4000000 in
theorem ris_bad {h room n : Int} {s : List Nat} {t : Nat} (e : Hid (rollCheck h room s n = 1)) (A : Option Addr) (c : Nat) (w : World) (hA : Reads w A s) :
    Calls Try.prog 16 #[.agg #[.int .i64 h, .int .i64 room, .slice A s.length c, .int .i64 n], .int .u64 (t : Int)] w fun e w' => e = .returned (.tuple #[.bool false, .int .i64 1]) ∧ Below w.heap.size w w' := by
  skip
  have ZX : Hid (Blk (w.alloc (.cells #[.int .i64 h, .int .i64 room, .slice A s.length c, .int .i64 n] 25)) w.heap.size 25 #[.int .i64 h, .int .i64 room, .slice A s.length c, .int .i64 n]) := mkHid (Blk.new _ _ _)
  have KB : Hid (Below w.heap.size w (w.alloc (.cells #[.int .i64 h, .int .i64 room, .slice A s.length c, .int .i64 n] 25))) := mkHid ((Below.refl _ _).alloc (Nat.le_refl _) _)
  have HA := mkHid (hA.below ((Below.refl _ _).alloc (Nat.le_refl _) (.cells #[.int .i64 h, .int .i64 room, .slice A s.length c, .int .i64 n] 25)))
  clear hA
  have cZX := ZX.out.four
  go_enter Try.func16, Try.ntmps16
  go_wp2_with fail
  refine (rchk e _ _ _ HA.out).mono ?_
  rintro e w1 ⟨rfl, hb1⟩
  replace ZX := mkHid (ZX.out.keep hb1)
  replace KB := mkHid (KB.out.step hb1)
  replace HA := mkHid (HA.out.below hb1)
  clear cZX
  have cZX := ZX.out.four
  clear hb1
  go_wp2_with fail
  go_ret2
  exact ⟨by simp, KB.out⟩

set_option maxRecDepth 100000 in
set_option maxHeartbeats 4000000 in
theorem ris_ok {h room n : Int} {s : List Nat} {t : Nat} {z : Bool} {r : Int} (e : Hid (rollCheck h room s n = 0)) (f : Hid (hasAll h s t = (z, r))) (A : Option Addr) (c : Nat) (w : World) (hA : Reads w A s) :
    Calls Try.prog 16 #[.agg #[.int .i64 h, .int .i64 room, .slice A s.length c, .int .i64 n], .int .u64 (t : Int)] w fun e w' => e = .returned (.tuple #[.bool z, .int .i64 r]) ∧ Below w.heap.size w w' := by
  skip
  have ZX : Hid (Blk (w.alloc (.cells #[.int .i64 h, .int .i64 room, .slice A s.length c, .int .i64 n] 25)) w.heap.size 25 #[.int .i64 h, .int .i64 room, .slice A s.length c, .int .i64 n]) := mkHid (Blk.new _ _ _)
  have KB : Hid (Below w.heap.size w (w.alloc (.cells #[.int .i64 h, .int .i64 room, .slice A s.length c, .int .i64 n] 25))) := mkHid ((Below.refl _ _).alloc (Nat.le_refl _) _)
  have HA := mkHid (hA.below ((Below.refl _ _).alloc (Nat.le_refl _) (.cells #[.int .i64 h, .int .i64 room, .slice A s.length c, .int .i64 n] 25)))
  clear hA
  have cZX := ZX.out.four
  go_enter Try.func16, Try.ntmps16
  go_wp2_with fail
  refine (rchk e _ _ _ HA.out).mono ?_
  rintro e w1 ⟨rfl, hb1⟩
  replace ZX := mkHid (ZX.out.keep hb1)
  replace KB := mkHid (KB.out.step hb1)
  replace HA := mkHid (HA.out.below hb1)
  clear cZX
  have cZX := ZX.out.four
  clear hb1
  go_wp2_with fail
  (with_reducible refine (has_all h s t f _ _ _ HA.out).mono ?_)
  rintro e w' ⟨rfl, hw'⟩
  obtain rfl := hw'.symm
  clear hw'
  go_wp2_with fail
  go_ret2
  exact ⟨by simp, KB.out⟩

set_option maxRecDepth 100000 in
set_option maxHeartbeats 4000000 in
theorem sris_bad {h room n : Int} {s : List Nat} {t : Nat} (e : Hid (rollCheck h room s n = 1)) (A : Option Addr) (c : Nat) (w : World) (hA : Reads w A s) :
    Calls Try.prog 22 #[.agg #[.int .i64 h, .int .i64 room, .slice A s.length c, .int .i64 n], .int .u64 (t : Int)] w fun e w' => e = .returned (.tuple #[.bool false, .int .i64 1]) ∧ Below w.heap.size w w' := by
  skip
  have ZX : Hid (Blk (w.alloc (.cells #[.int .i64 h, .int .i64 room, .slice A s.length c, .int .i64 n] 25)) w.heap.size 25 #[.int .i64 h, .int .i64 room, .slice A s.length c, .int .i64 n]) := mkHid (Blk.new _ _ _)
  have KB : Hid (Below w.heap.size w (w.alloc (.cells #[.int .i64 h, .int .i64 room, .slice A s.length c, .int .i64 n] 25))) := mkHid ((Below.refl _ _).alloc (Nat.le_refl _) _)
  have HA := mkHid (hA.below ((Below.refl _ _).alloc (Nat.le_refl _) (.cells #[.int .i64 h, .int .i64 room, .slice A s.length c, .int .i64 n] 25)))
  clear hA
  have cZX := ZX.out.four
  go_enter Try.func22, Try.ntmps22
  go_wp2_with fail
  refine (schk e _ _ _ HA.out).mono ?_
  rintro e w1 ⟨rfl, hb1⟩
  replace ZX := mkHid (ZX.out.keep hb1)
  replace KB := mkHid (KB.out.step hb1)
  replace HA := mkHid (HA.out.below hb1)
  clear cZX
  have cZX := ZX.out.four
  clear hb1
  go_wp2_with fail
  go_ret2
  exact ⟨by simp, KB.out⟩

set_option maxRecDepth 100000 in
set_option maxHeartbeats 4000000 in
theorem sris_leaf {h room n : Int} {s : List Nat} {t : Nat} {k : Nat} (hk : Hid (h = (k : Int))) (h1 : 1 ≤ k) (h2 : k ≤ 32) (e : Hid (rollCheck h room s n = 0)) (ht : 2 ^ k ≤ t) (A : Option Addr) (c : Nat) (w : World) (hA : Reads w A s) :
    Calls Try.prog 22 #[.agg #[.int .i64 h, .int .i64 room, .slice A s.length c, .int .i64 n], .int .u64 (t : Int)] w fun e w' => e = .returned (.tuple #[.bool false, .int .i64 1]) ∧ Below w.heap.size w w' := by
  skip
  have ZX : Hid (Blk (w.alloc (.cells #[.int .i64 h, .int .i64 room, .slice A s.length c, .int .i64 n] 25)) w.heap.size 25 #[.int .i64 h, .int .i64 room, .slice A s.length c, .int .i64 n]) := mkHid (Blk.new _ _ _)
  have KB : Hid (Below w.heap.size w (w.alloc (.cells #[.int .i64 h, .int .i64 room, .slice A s.length c, .int .i64 n] 25))) := mkHid ((Below.refl _ _).alloc (Nat.le_refl _) _)
  have HA := mkHid (hA.below ((Below.refl _ _).alloc (Nat.le_refl _) (.cells #[.int .i64 h, .int .i64 room, .slice A s.length c, .int .i64 n] 25)))
  clear hA
  have HT := mkHid ht
  clear ht
  obtain rfl := hk.out
  have cZX := ZX.out.four
  go_enter Try.func22, Try.ntmps22
  go_wp2_with fail
  refine (schk e _ _ _ HA.out).mono ?_
  rintro e w1 ⟨rfl, hb1⟩
  replace ZX := mkHid (ZX.out.keep hb1)
  replace KB := mkHid (KB.out.step hb1)
  replace HA := mkHid (HA.out.below hb1)
  clear cZX
  have cZX := ZX.out.four
  clear hb1
  go_wp2_with fail
  (with_reducible refine (sis_not h1 h2 HT.out _).mono ?_)
  rintro e w' ⟨rfl, hw'⟩
  obtain rfl := hw'.symm
  clear hw'
  go_wp2_with fail
  go_ret2
  exact ⟨by simp, KB.out⟩

set_option maxRecDepth 100000 in
set_option maxHeartbeats 4000000 in
theorem sris_yes {h room n : Int} {s : List Nat} {t : Nat} {k : Nat} (hk : Hid (h = (k : Int))) (h1 : 1 ≤ k) (h2 : k ≤ 32) (e : Hid (rollCheck h room s n = 0)) (ht : t < 2 ^ k) {z : Bool} (hz : Hid (decide (t ∈ s) = z)) (hl : s.length ≤ 4611686018427387904) (A : Option Addr) (c : Nat) (w : World) (hA : Reads w A s) :
    Calls Try.prog 22 #[.agg #[.int .i64 h, .int .i64 room, .slice A s.length c, .int .i64 n], .int .u64 (t : Int)] w fun e w' => e = .returned (.tuple #[.bool z, .int .i64 0]) ∧ Below w.heap.size w w' := by
  skip
  have ZX : Hid (Blk (w.alloc (.cells #[.int .i64 h, .int .i64 room, .slice A s.length c, .int .i64 n] 25)) w.heap.size 25 #[.int .i64 h, .int .i64 room, .slice A s.length c, .int .i64 n]) := mkHid (Blk.new _ _ _)
  have KB : Hid (Below w.heap.size w (w.alloc (.cells #[.int .i64 h, .int .i64 room, .slice A s.length c, .int .i64 n] 25))) := mkHid ((Below.refl _ _).alloc (Nat.le_refl _) _)
  have HA := mkHid (hA.below ((Below.refl _ _).alloc (Nat.le_refl _) (.cells #[.int .i64 h, .int .i64 room, .slice A s.length c, .int .i64 n] 25)))
  clear hA
  have HT := mkHid ht
  clear ht
  obtain rfl := hk.out
  have cZX := ZX.out.four
  go_enter Try.func22, Try.ntmps22
  go_wp2_with fail
  refine (schk e _ _ _ HA.out).mono ?_
  rintro e w1 ⟨rfl, hb1⟩
  replace ZX := mkHid (ZX.out.keep hb1)
  replace KB := mkHid (KB.out.step hb1)
  replace HA := mkHid (HA.out.below hb1)
  clear cZX
  have cZX := ZX.out.four
  clear hb1
  go_wp2_with fail
  (with_reducible refine (sis_yes h1 h2 HT.out _).mono ?_)
  rintro e w' ⟨rfl, hw'⟩
  obtain rfl := hw'.symm
  clear hw'
  go_wp2_with fail
  (with_reducible refine (sin_walk hl hz _ _ _ HA.out).mono ?_)
  rintro e w' ⟨rfl, hw'⟩
  obtain rfl := hw'.symm
  clear hw'
  go_wp2_with fail
  go_ret2
  exact ⟨by simp, KB.out⟩

/-- what Is answers -/
def rollIs (h room : Int) (s : List Nat) (n : Int) (t : Nat) : Bool × Int := if rollCheck h room s n = 0 then hasAll h s t else (false, 1)
theorem ris {h room n : Int} {s : List Nat} {t : Nat} {z : Bool} {r : Int} (e : Hid (rollIs h room s n t = (z, r))) (A : Option Addr) (c : Nat) (w : World) (hA : Reads w A s) :
    Calls Try.prog 16 #[.agg #[.int .i64 h, .int .i64 room, .slice A s.length c, .int .i64 n], .int .u64 (t : Int)] w fun e w' => e = .returned (.tuple #[.bool z, .int .i64 r]) ∧ Below w.heap.size w w' := by
  have e' := e.out
  unfold rollIs at e'
  rcases rollCheck_or h room s n with hc | hc
  · rw [if_pos hc] at e'; exact ris_ok (mkHid hc) (mkHid e') A c w hA
  · rw [if_neg (by rw [hc]; decide)] at e'; cases e'; exact ris_bad (mkHid hc) A c w hA
theorem rollCheck_ok {h room n : Int} {s : List Nat} (e : rollCheck h room s n = 0) : ∃ k : Nat, h = (k : Int) ∧ 1 ≤ k ∧ k ≤ 32 ∧ SetOk k s ∧ (s.length : Int) ≤ room ∧ room ≤ 1024 ∧ 0 ≤ n ∧ n ≤ 1099511627776 := by
  unfold rollCheck at e
  by_cases hb : rollBad room s n
  · rw [if_pos hb] at e; cases e
  · rw [if_neg hb] at e
    unfold rollBad at hb
    unfold checkAll at e
    split at e
    · rename_i c0
      exact ⟨h.toNat, by omega, by omega, by omega, c0.2, by omega, by omega, by omega, by omega⟩
    · cases e
theorem sris {h room n : Int} {s : List Nat} {t : Nat} {z : Bool} {r : Int} (e : Hid (rollIs h room s n t = (z, r))) (A : Option Addr) (c : Nat) (w : World) (hA : Reads w A s) :
    Calls Try.prog 22 #[.agg #[.int .i64 h, .int .i64 room, .slice A s.length c, .int .i64 n], .int .u64 (t : Int)] w fun e w' => e = .returned (.tuple #[.bool z, .int .i64 r]) ∧ Below w.heap.size w w' := by
  have e' := e.out
  unfold rollIs at e'
  rcases rollCheck_or h room s n with hc | hc
  · rw [if_pos hc] at e'
    obtain ⟨k, hk, h1, h2, hs, _⟩ := rollCheck_ok hc
    by_cases ht : t < 2 ^ k
    · rw [hk, hasAll_mk h1 h2 hs ht] at e'; cases e'
      exact sris_yes (mkHid hk) h1 h2 (mkHid hc) ht (mkHid rfl) (by have := hs.1; omega) A c w hA
    · have : hasAll h s t = (false, 1) := by
        unfold hasAll
        rw [if_neg (fun q => ht (by rw [hk, Int.toNat_natCast] at q; exact q.2.2))]
      rw [this] at e'; cases e'
      exact sris_leaf (mkHid hk) h1 h2 (mkHid hc) (by omega) A c w hA
  · rw [if_neg (by rw [hc]; decide)] at e'; cases e'; exact sris_bad (mkHid hc) A c w hA

theorem RowOf.rebase {w : World} {a b : Nat} {v : Value} {S : List Nat} (h : RowOf w b v S) (hb : a ≤ b) : RowOf w a v S := World.ownsRow.base h hb
theorem RowOf.len {w : World} {b : Nat} {v : Value} {S : List Nat} (h : RowOf w b v S) : ∃ A c, v = .slice A S.length c := by
  obtain ⟨A, c, e, _⟩ := Reads.of_row h
  exact ⟨A, c, e⟩
/-- what a list's with answers -/
def listWith (h room : Int) (s : List Nat) (t : Nat) : List Nat × Int := if (withAll h s t).2 = 0 ∧ room < ((withAll h s t).1.length : Int) then ((withAll h s t).1, 6) else withAll h s t

set_option maxRecDepth 100000 in
set_option maxHeartbeats 4000000 in
theorem lwith_err {h room : Int} {s : List Nat} {t : Nat} {L : List Nat} {r : Int} (e : Hid (withAll h s t = (L, r))) (hr : r ≠ 0) (A : Option Addr) (c : Nat) (w : World) (hA : Reads w A s) :
    Calls Try.prog 41 #[.agg #[.int .i64 h, .int .i64 room, .slice A s.length c], .int .u64 (t : Int)] w (WPost L r w) := by
  have t0 : (r == (0 : Int)) = false := beq_eq_false_iff_ne.2 hr
  have ZX : Hid (Blk (w.alloc (.cells #[.int .i64 h, .int .i64 room, .slice A s.length c] 73)) w.heap.size 73 #[.int .i64 h, .int .i64 room, .slice A s.length c]) := mkHid (Blk.new _ _ _)
  have KB : Hid (Below w.heap.size w (w.alloc (.cells #[.int .i64 h, .int .i64 room, .slice A s.length c] 73))) := mkHid ((Below.refl _ _).alloc (Nat.le_refl _) _)
  have HA := mkHid (hA.below ((Below.refl _ _).alloc (Nat.le_refl _) (.cells #[.int .i64 h, .int .i64 room, .slice A s.length c] 73)))
  clear hA
  have cZX0 := ZX.out.cell 0
  have cZX1 := ZX.out.cell 1
  have cZX2 := ZX.out.cell 2
  go_enter Try.func41, Try.ntmps41
  go_wp2_with fail
  refine (with_all h s t e _ _ _ HA.out).mono ?_
  rintro e w1 ⟨v, rfl, ho, hb1⟩
  have RV := mkHid (RowOf.rebase ho KB.out.size)
  clear ho
  replace ZX := mkHid (ZX.out.keep hb1)
  replace KB := mkHid (KB.out.step hb1)
  replace HA := mkHid (HA.out.below hb1)
  clear cZX0 cZX1 cZX2
  have cZX0 := ZX.out.cell 0
  have cZX1 := ZX.out.cell 1
  have cZX2 := ZX.out.cell 2
  obtain ⟨va, vc, rfl⟩ := RV.out.len
  clear hb1
  go_wp2_with fail
  go_ret2
  exact ⟨_, by simp, RV.out, KB.out⟩

set_option maxRecDepth 100000 in
set_option maxHeartbeats 4000000 in
theorem lwith_full {h room : Int} {s : List Nat} {t : Nat} {L : List Nat} (e : Hid (withAll h s t = (L, 0))) (hr : room < (L.length : Int)) (A : Option Addr) (c : Nat) (w : World) (hA : Reads w A s) :
    Calls Try.prog 41 #[.agg #[.int .i64 h, .int .i64 room, .slice A s.length c], .int .u64 (t : Int)] w (WPost L 6 w) := by
  have t0 : decide (room < (L.length : Int)) = true := decide_eq_true hr
  have ZX : Hid (Blk (w.alloc (.cells #[.int .i64 h, .int .i64 room, .slice A s.length c] 73)) w.heap.size 73 #[.int .i64 h, .int .i64 room, .slice A s.length c]) := mkHid (Blk.new _ _ _)
  have KB : Hid (Below w.heap.size w (w.alloc (.cells #[.int .i64 h, .int .i64 room, .slice A s.length c] 73))) := mkHid ((Below.refl _ _).alloc (Nat.le_refl _) _)
  have HA := mkHid (hA.below ((Below.refl _ _).alloc (Nat.le_refl _) (.cells #[.int .i64 h, .int .i64 room, .slice A s.length c] 73)))
  clear hA
  have cZX0 := ZX.out.cell 0
  have cZX1 := ZX.out.cell 1
  have cZX2 := ZX.out.cell 2
  go_enter Try.func41, Try.ntmps41
  go_wp2_with fail
  refine (with_all h s t e _ _ _ HA.out).mono ?_
  rintro e w1 ⟨v, rfl, ho, hb1⟩
  have RV := mkHid (RowOf.rebase ho KB.out.size)
  clear ho
  replace ZX := mkHid (ZX.out.keep hb1)
  replace KB := mkHid (KB.out.step hb1)
  replace HA := mkHid (HA.out.below hb1)
  clear cZX0 cZX1 cZX2
  have cZX0 := ZX.out.cell 0
  have cZX1 := ZX.out.cell 1
  have cZX2 := ZX.out.cell 2
  obtain ⟨va, vc, rfl⟩ := RV.out.len
  clear hb1
  go_wp2_with fail
  go_ret2
  exact ⟨_, by simp, RV.out, KB.out⟩

set_option maxRecDepth 100000 in
set_option maxHeartbeats 4000000 in
theorem lwith_ok {h room : Int} {s : List Nat} {t : Nat} {L : List Nat} (e : Hid (withAll h s t = (L, 0))) (hr : ¬ room < (L.length : Int)) (A : Option Addr) (c : Nat) (w : World) (hA : Reads w A s) :
    Calls Try.prog 41 #[.agg #[.int .i64 h, .int .i64 room, .slice A s.length c], .int .u64 (t : Int)] w (WPost L 0 w) := by
  have t0 : decide (room < (L.length : Int)) = false := decide_eq_false hr
  have ZX : Hid (Blk (w.alloc (.cells #[.int .i64 h, .int .i64 room, .slice A s.length c] 73)) w.heap.size 73 #[.int .i64 h, .int .i64 room, .slice A s.length c]) := mkHid (Blk.new _ _ _)
  have KB : Hid (Below w.heap.size w (w.alloc (.cells #[.int .i64 h, .int .i64 room, .slice A s.length c] 73))) := mkHid ((Below.refl _ _).alloc (Nat.le_refl _) _)
  have HA := mkHid (hA.below ((Below.refl _ _).alloc (Nat.le_refl _) (.cells #[.int .i64 h, .int .i64 room, .slice A s.length c] 73)))
  clear hA
  have cZX0 := ZX.out.cell 0
  have cZX1 := ZX.out.cell 1
  have cZX2 := ZX.out.cell 2
  go_enter Try.func41, Try.ntmps41
  go_wp2_with fail
  refine (with_all h s t e _ _ _ HA.out).mono ?_
  rintro e w1 ⟨v, rfl, ho, hb1⟩
  have RV := mkHid (RowOf.rebase ho KB.out.size)
  clear ho
  replace ZX := mkHid (ZX.out.keep hb1)
  replace KB := mkHid (KB.out.step hb1)
  replace HA := mkHid (HA.out.below hb1)
  clear cZX0 cZX1 cZX2
  have cZX0 := ZX.out.cell 0
  have cZX1 := ZX.out.cell 1
  have cZX2 := ZX.out.cell 2
  obtain ⟨va, vc, rfl⟩ := RV.out.len
  clear hb1
  go_wp2_with fail
  go_ret2
  exact ⟨_, by simp, RV.out, KB.out⟩

set_option maxRecDepth 100000 in
set_option maxHeartbeats 4000000 in
theorem lwithout_all {h room : Int} {s : List Nat} {t : Nat} {L : List Nat} {r : Int} (e : Hid (withoutAll h s t = (L, r))) (A : Option Addr) (c : Nat) (w : World) (hA : Reads w A s) :
    Calls Try.prog 42 #[.agg #[.int .i64 h, .int .i64 room, .slice A s.length c], .int .u64 (t : Int)] w (WPost L r w) := by
  skip
  have ZX : Hid (Blk (w.alloc (.cells #[.int .i64 h, .int .i64 room, .slice A s.length c] 73)) w.heap.size 73 #[.int .i64 h, .int .i64 room, .slice A s.length c]) := mkHid (Blk.new _ _ _)
  have KB : Hid (Below w.heap.size w (w.alloc (.cells #[.int .i64 h, .int .i64 room, .slice A s.length c] 73))) := mkHid ((Below.refl _ _).alloc (Nat.le_refl _) _)
  have HA := mkHid (hA.below ((Below.refl _ _).alloc (Nat.le_refl _) (.cells #[.int .i64 h, .int .i64 room, .slice A s.length c] 73)))
  clear hA
  have cZX0 := ZX.out.cell 0
  have cZX1 := ZX.out.cell 1
  have cZX2 := ZX.out.cell 2
  go_enter Try.func42, Try.ntmps42
  go_wp2_with fail
  refine (without_all h s t e _ _ _ HA.out).mono ?_
  rintro e w1 ⟨v, rfl, ho, hb1⟩
  have RV := mkHid (RowOf.rebase ho KB.out.size)
  clear ho
  replace ZX := mkHid (ZX.out.keep hb1)
  replace KB := mkHid (KB.out.step hb1)
  replace HA := mkHid (HA.out.below hb1)
  clear cZX0 cZX1 cZX2
  have cZX0 := ZX.out.cell 0
  have cZX1 := ZX.out.cell 1
  have cZX2 := ZX.out.cell 2
  obtain ⟨va, vc, rfl⟩ := RV.out.len
  clear hb1
  go_wp2_with fail
  go_ret2
  exact ⟨_, by simp, RV.out, KB.out⟩

theorem lwith_all {h room : Int} {s : List Nat} {t : Nat} {L : List Nat} {r : Int} (e : Hid (listWith h room s t = (L, r))) (A : Option Addr) (c : Nat) (w : World) (hA : Reads w A s) :
    Calls Try.prog 41 #[.agg #[.int .i64 h, .int .i64 room, .slice A s.length c], .int .u64 (t : Int)] w (WPost L r w) := by
  have e' := e.out
  unfold listWith at e'
  obtain ⟨M, q, f⟩ : ∃ M q, withAll h s t = (M, q) := ⟨_, _, rfl⟩
  rw [f] at e'
  dsimp only at e'
  by_cases hq : q = 0
  · subst hq
    by_cases hr : room < (M.length : Int)
    · rw [if_pos ⟨rfl, hr⟩] at e'; cases e'; exact lwith_full (mkHid f) hr A c w hA
    · rw [if_neg (fun x => hr x.2)] at e'; cases e'; exact lwith_ok (mkHid f) hr A c w hA
  · rw [if_neg (fun x => hq x.1)] at e'; cases e'; exact lwith_err (mkHid f) hq A c w hA
end Go.Proofs.Ytmehbonjpmlmfaa

namespace Go.Proofs.Ytmehbonjpmlmfaa
open Go.RowKit Go.Proofs.YtmehbonjpmlmfaaW.PrintWords

theorem rollCheck_n {h room n : Int} {s : List Nat} (e : rollCheck h room s n = 0) : 0 ≤ n ∧ n ≤ 1099511627776 := by
  obtain ⟨_, _, _, _, _, _, _, n0, n1⟩ := rollCheck_ok e
  exact ⟨n0, n1⟩
theorem RowOf.past {w : World} {base g : Nat} {v : Value} {S : List Nat} (h : RowOf w base v S) (hg : g < base) (j : Nat) (u : Value) : RowOf (w.setCell ⟨g, j, none⟩ u) base v S :=
  World.ownsRow.kept (row := some g) h ⟨rfl, rfl, rfl, by simp, fun k _ hk => heap_setCell_other w ⟨g, j, none⟩ k u (fun e => hk (by simp [e]))⟩ (.inr fun e => by have := (World.ownsRow.lt h g e).1; omega)
theorem RowOf.below {w w1 : World} {base : Nat} {v : Value} {S : List Nat} (h : RowOf w base v S) (hb : Below w.heap.size w w1) : RowOf w1 base v S :=
  World.ownsRow.kept (row := none) h ⟨hb.os, hb.tape, hb.output, hb.size, fun k hk _ => hb.block k hk⟩ (by cases v.ownBlock <;> simp)
theorem RowOf.past4 {w : World} {base g : Nat} {v : Value} {S : List Nat} (h : RowOf w base v S) (hg : g < base) (a b c d : Value) : RowOf ((((w.setCell ⟨g, 0, none⟩ a).setCell ⟨g, 1, none⟩ b).setCell ⟨g, 2, none⟩ c).setCell ⟨g, 3, none⟩ d) base v S := (((h.past hg 0 a).past hg 1 b).past hg 2 c).past hg 3 d
theorem RowOf.nil (w : World) (base : Nat) : RowOf w base (.slice none 0 0) [] := World.ownsRow_nil _ _ _ _
/-- a roll of the call's own, and an error's number -/
def RPost (R : RollA) (r : Int) (w : World) (e : Ending) (w' : World) : Prop :=
  ∃ v, e = .returned (.tuple #[.agg #[.int .i64 R.h, .int .i64 R.room, v, .int .i64 R.n], .int .i64 r]) ∧ RowOf w' w.heap.size v R.s ∧ Below w.heap.size w w'

set_option maxRecDepth 100000 in
set_option maxHeartbeats 4000000 in
theorem chw_bad {h room n : Int} {s : List Nat} {t : Nat} (e : Hid (rollCheck h room s n = 1))  (A : Option Addr) (c : Nat) (w : World) (hA : Reads w A s) :
    Calls Try.prog 40 #[.agg #[.int .i64 h, .int .i64 room, .slice A s.length c, .int .i64 n], .int .u64 (t : Int), .func (.func 41) #[] #[]] w (RPost ⟨0, 0, [], 0⟩ 1 w) := by
  skip
  have ZX : Hid (Blk ((w.alloc (.cells #[.int .i64 h, .int .i64 room, .slice A s.length c, .int .i64 n] 25)).alloc (.cells #[.int .i64 0, .int .i64 0, .slice none 0 0, .int .i64 0] 25)) w.heap.size 25 #[.int .i64 h, .int .i64 room, .slice A s.length c, .int .i64 n]) := mkHid ((Blk.new _ _ _).alloc _)
  have ZZ : Hid (Blk ((w.alloc (.cells #[.int .i64 h, .int .i64 room, .slice A s.length c, .int .i64 n] 25)).alloc (.cells #[.int .i64 0, .int .i64 0, .slice none 0 0, .int .i64 0] 25)) (w.heap.size + 1) 25 #[.int .i64 0, .int .i64 0, .slice none 0 0, .int .i64 0]) := mkHid (Blk.at _ _ _ (by simp))
  have KB : Hid (Below w.heap.size w ((w.alloc (.cells #[.int .i64 h, .int .i64 room, .slice A s.length c, .int .i64 n] 25)).alloc (.cells #[.int .i64 0, .int .i64 0, .slice none 0 0, .int .i64 0] 25))) := mkHid (((Below.refl _ _).alloc (Nat.le_refl _) _).alloc (by simp) _)
  have HA := mkHid (hA.below (((Below.refl _ _).alloc (Nat.le_refl _) (.cells #[.int .i64 h, .int .i64 room, .slice A s.length c, .int .i64 n] 25)).alloc (by simp) (.cells #[.int .i64 0, .int .i64 0, .slice none 0 0, .int .i64 0] 25)))
  clear hA
  have cZX := ZX.out.four
  have cZZ := ZZ.out.four
  have fZZ0 := ZZ.out.frozen 0
  have fZZ1 := ZZ.out.frozen 1
  have fZZ2 := ZZ.out.frozen 2
  have fZZ3 := ZZ.out.frozen 3
  go_enter Try.func40, Try.ntmps40
  go_wp2_with fail
  refine (rchk e _ _ _ HA.out).mono ?_
  rintro e w1 ⟨rfl, hb1⟩
  replace ZX := mkHid (ZX.out.keep hb1)
  replace ZZ := mkHid (ZZ.out.keep hb1)
  replace KB := mkHid (KB.out.step hb1)
  replace HA := mkHid (HA.out.below hb1)
  clear cZX
  have cZX := ZX.out.four
  clear cZZ fZZ0 fZZ1 fZZ2 fZZ3
  have cZZ := ZZ.out.four
  have fZZ0 := ZZ.out.frozen 0
  have fZZ1 := ZZ.out.frozen 1
  have fZZ2 := ZZ.out.frozen 2
  have fZZ3 := ZZ.out.frozen 3
  clear hb1
  go_wp2_with fail
  have qR := (ZZ.out.fill4 (x := .int .i64 0) (y := .int .i64 0) (u := .slice none 0 0) (v := .int .i64 0)).four
  refine bodyPost_ret (v := .tuple #[.agg #[.int .i64 0, .int .i64 0, .slice none 0 0, .int .i64 0], .int .i64 1]) (by simp [results, Try.results40, go_sem, qR]) rfl ⟨_, rfl, RowOf.nil _ _, below_four KB.out (by omega) _ _ _ _⟩

set_option maxRecDepth 100000 in
set_option maxHeartbeats 4000000 in
theorem chw_err {h room n : Int} {s : List Nat} {t : Nat} (e : Hid (rollCheck h room s n = 0)) {L : List Nat} {r : Int} (f : Hid (listWith h room s t = (L, r))) (hr : r ≠ 0)  (A : Option Addr) (c : Nat) (w : World) (hA : Reads w A s) :
    Calls Try.prog 40 #[.agg #[.int .i64 h, .int .i64 room, .slice A s.length c, .int .i64 n], .int .u64 (t : Int), .func (.func 41) #[] #[]] w (RPost ⟨0, 0, [], 0⟩ r w) := by
  skip
  have ZX : Hid (Blk ((w.alloc (.cells #[.int .i64 h, .int .i64 room, .slice A s.length c, .int .i64 n] 25)).alloc (.cells #[.int .i64 0, .int .i64 0, .slice none 0 0, .int .i64 0] 25)) w.heap.size 25 #[.int .i64 h, .int .i64 room, .slice A s.length c, .int .i64 n]) := mkHid ((Blk.new _ _ _).alloc _)
  have ZZ : Hid (Blk ((w.alloc (.cells #[.int .i64 h, .int .i64 room, .slice A s.length c, .int .i64 n] 25)).alloc (.cells #[.int .i64 0, .int .i64 0, .slice none 0 0, .int .i64 0] 25)) (w.heap.size + 1) 25 #[.int .i64 0, .int .i64 0, .slice none 0 0, .int .i64 0]) := mkHid (Blk.at _ _ _ (by simp))
  have KB : Hid (Below w.heap.size w ((w.alloc (.cells #[.int .i64 h, .int .i64 room, .slice A s.length c, .int .i64 n] 25)).alloc (.cells #[.int .i64 0, .int .i64 0, .slice none 0 0, .int .i64 0] 25))) := mkHid (((Below.refl _ _).alloc (Nat.le_refl _) _).alloc (by simp) _)
  have HA := mkHid (hA.below (((Below.refl _ _).alloc (Nat.le_refl _) (.cells #[.int .i64 h, .int .i64 room, .slice A s.length c, .int .i64 n] 25)).alloc (by simp) (.cells #[.int .i64 0, .int .i64 0, .slice none 0 0, .int .i64 0] 25)))
  clear hA
  have cZX := ZX.out.four
  have cZZ := ZZ.out.four
  have fZZ0 := ZZ.out.frozen 0
  have fZZ1 := ZZ.out.frozen 1
  have fZZ2 := ZZ.out.frozen 2
  have fZZ3 := ZZ.out.frozen 3
  have t0 : (r != (0 : Int)) = true := bne_iff_ne.2 hr
  go_enter Try.func40, Try.ntmps40
  go_wp2_with fail
  refine (rchk e _ _ _ HA.out).mono ?_
  rintro e w1 ⟨rfl, hb1⟩
  replace ZX := mkHid (ZX.out.keep hb1)
  replace ZZ := mkHid (ZZ.out.keep hb1)
  replace KB := mkHid (KB.out.step hb1)
  replace HA := mkHid (HA.out.below hb1)
  clear cZX
  have cZX := ZX.out.four
  clear cZZ fZZ0 fZZ1 fZZ2 fZZ3
  have cZZ := ZZ.out.four
  have fZZ0 := ZZ.out.frozen 0
  have fZZ1 := ZZ.out.frozen 1
  have fZZ2 := ZZ.out.frozen 2
  have fZZ3 := ZZ.out.frozen 3
  clear hb1
  go_wp2_with fail
  refine (lwith_all f _ _ _ HA.out).mono ?_
  rintro e w2 ⟨v, rfl, ho, hb2⟩
  have SZ : w.heap.size + 1 < w1.heap.size := ZZ.out.lt
  have RV := mkHid ho
  clear ho
  obtain ⟨va, vc, rfl⟩ := RV.out.len
  replace ZX := mkHid (ZX.out.keep hb2)
  replace ZZ := mkHid (ZZ.out.keep hb2)
  replace KB := mkHid (KB.out.step hb2)
  replace HA := mkHid (HA.out.below hb2)
  clear cZX
  have cZX := ZX.out.four
  clear cZZ fZZ0 fZZ1 fZZ2 fZZ3
  have cZZ := ZZ.out.four
  have fZZ0 := ZZ.out.frozen 0
  have fZZ1 := ZZ.out.frozen 1
  have fZZ2 := ZZ.out.frozen 2
  have fZZ3 := ZZ.out.frozen 3
  clear hb2
  go_wp2_with fail
  have qR := (ZZ.out.fill4 (x := .int .i64 0) (y := .int .i64 0) (u := .slice none 0 0) (v := .int .i64 0)).four
  refine bodyPost_ret (v := .tuple #[.agg #[.int .i64 0, .int .i64 0, .slice none 0 0, .int .i64 0], .int .i64 r]) (by simp [results, Try.results40, go_sem, qR]) rfl ⟨_, rfl, RowOf.nil _ _, below_four KB.out (by omega) _ _ _ _⟩

set_option maxRecDepth 100000 in
set_option maxHeartbeats 4000000 in
theorem chw_over {h room n : Int} {s : List Nat} {t : Nat} (e : Hid (rollCheck h room s n = 0)) {L : List Nat} (f : Hid (listWith h room s t = (L, 0))) (hn : n = 1099511627776)  (A : Option Addr) (c : Nat) (w : World) (hA : Reads w A s) :
    Calls Try.prog 40 #[.agg #[.int .i64 h, .int .i64 room, .slice A s.length c, .int .i64 n], .int .u64 (t : Int), .func (.func 41) #[] #[]] w (RPost ⟨0, 0, [], 0⟩ 9 w) := by
  skip
  have ZX : Hid (Blk ((w.alloc (.cells #[.int .i64 h, .int .i64 room, .slice A s.length c, .int .i64 n] 25)).alloc (.cells #[.int .i64 0, .int .i64 0, .slice none 0 0, .int .i64 0] 25)) w.heap.size 25 #[.int .i64 h, .int .i64 room, .slice A s.length c, .int .i64 n]) := mkHid ((Blk.new _ _ _).alloc _)
  have ZZ : Hid (Blk ((w.alloc (.cells #[.int .i64 h, .int .i64 room, .slice A s.length c, .int .i64 n] 25)).alloc (.cells #[.int .i64 0, .int .i64 0, .slice none 0 0, .int .i64 0] 25)) (w.heap.size + 1) 25 #[.int .i64 0, .int .i64 0, .slice none 0 0, .int .i64 0]) := mkHid (Blk.at _ _ _ (by simp))
  have KB : Hid (Below w.heap.size w ((w.alloc (.cells #[.int .i64 h, .int .i64 room, .slice A s.length c, .int .i64 n] 25)).alloc (.cells #[.int .i64 0, .int .i64 0, .slice none 0 0, .int .i64 0] 25))) := mkHid (((Below.refl _ _).alloc (Nat.le_refl _) _).alloc (by simp) _)
  have HA := mkHid (hA.below (((Below.refl _ _).alloc (Nat.le_refl _) (.cells #[.int .i64 h, .int .i64 room, .slice A s.length c, .int .i64 n] 25)).alloc (by simp) (.cells #[.int .i64 0, .int .i64 0, .slice none 0 0, .int .i64 0] 25)))
  clear hA
  have cZX := ZX.out.four
  have cZZ := ZZ.out.four
  have fZZ0 := ZZ.out.frozen 0
  have fZZ1 := ZZ.out.frozen 1
  have fZZ2 := ZZ.out.frozen 2
  have fZZ3 := ZZ.out.frozen 3
  have t0 : (n == (1099511627776 : Int)) = true := beq_iff_eq.2 hn
  clear hn
  go_enter Try.func40, Try.ntmps40
  go_wp2_with fail
  refine (rchk e _ _ _ HA.out).mono ?_
  rintro e w1 ⟨rfl, hb1⟩
  replace ZX := mkHid (ZX.out.keep hb1)
  replace ZZ := mkHid (ZZ.out.keep hb1)
  replace KB := mkHid (KB.out.step hb1)
  replace HA := mkHid (HA.out.below hb1)
  clear cZX
  have cZX := ZX.out.four
  clear cZZ fZZ0 fZZ1 fZZ2 fZZ3
  have cZZ := ZZ.out.four
  have fZZ0 := ZZ.out.frozen 0
  have fZZ1 := ZZ.out.frozen 1
  have fZZ2 := ZZ.out.frozen 2
  have fZZ3 := ZZ.out.frozen 3
  clear hb1
  go_wp2_with fail
  refine (lwith_all f _ _ _ HA.out).mono ?_
  rintro e w2 ⟨v, rfl, ho, hb2⟩
  have SZ : w.heap.size + 1 < w1.heap.size := ZZ.out.lt
  have RV := mkHid ho
  clear ho
  obtain ⟨va, vc, rfl⟩ := RV.out.len
  replace ZX := mkHid (ZX.out.keep hb2)
  replace ZZ := mkHid (ZZ.out.keep hb2)
  replace KB := mkHid (KB.out.step hb2)
  replace HA := mkHid (HA.out.below hb2)
  clear cZX
  have cZX := ZX.out.four
  clear cZZ fZZ0 fZZ1 fZZ2 fZZ3
  have cZZ := ZZ.out.four
  have fZZ0 := ZZ.out.frozen 0
  have fZZ1 := ZZ.out.frozen 1
  have fZZ2 := ZZ.out.frozen 2
  have fZZ3 := ZZ.out.frozen 3
  clear hb2
  go_wp2_with fail
  have qR := (ZZ.out.fill4 (x := .int .i64 0) (y := .int .i64 0) (u := .slice none 0 0) (v := .int .i64 0)).four
  refine bodyPost_ret (v := .tuple #[.agg #[.int .i64 0, .int .i64 0, .slice none 0 0, .int .i64 0], .int .i64 9]) (by simp [results, Try.results40, go_sem, qR]) rfl ⟨_, rfl, RowOf.nil _ _, below_four KB.out (by omega) _ _ _ _⟩

set_option maxRecDepth 100000 in
set_option maxHeartbeats 4000000 in
theorem chw_ok {h room n : Int} {s : List Nat} {t : Nat} (e : Hid (rollCheck h room s n = 0)) {L : List Nat} (f : Hid (listWith h room s t = (L, 0))) (hn : n ≠ 1099511627776)  (A : Option Addr) (c : Nat) (w : World) (hA : Reads w A s) :
    Calls Try.prog 40 #[.agg #[.int .i64 h, .int .i64 room, .slice A s.length c, .int .i64 n], .int .u64 (t : Int), .func (.func 41) #[] #[]] w (RPost ⟨h, room, L, n + 1⟩ 0 w) := by
  skip
  have ZX : Hid (Blk ((w.alloc (.cells #[.int .i64 h, .int .i64 room, .slice A s.length c, .int .i64 n] 25)).alloc (.cells #[.int .i64 0, .int .i64 0, .slice none 0 0, .int .i64 0] 25)) w.heap.size 25 #[.int .i64 h, .int .i64 room, .slice A s.length c, .int .i64 n]) := mkHid ((Blk.new _ _ _).alloc _)
  have ZZ : Hid (Blk ((w.alloc (.cells #[.int .i64 h, .int .i64 room, .slice A s.length c, .int .i64 n] 25)).alloc (.cells #[.int .i64 0, .int .i64 0, .slice none 0 0, .int .i64 0] 25)) (w.heap.size + 1) 25 #[.int .i64 0, .int .i64 0, .slice none 0 0, .int .i64 0]) := mkHid (Blk.at _ _ _ (by simp))
  have KB : Hid (Below w.heap.size w ((w.alloc (.cells #[.int .i64 h, .int .i64 room, .slice A s.length c, .int .i64 n] 25)).alloc (.cells #[.int .i64 0, .int .i64 0, .slice none 0 0, .int .i64 0] 25))) := mkHid (((Below.refl _ _).alloc (Nat.le_refl _) _).alloc (by simp) _)
  have HA := mkHid (hA.below (((Below.refl _ _).alloc (Nat.le_refl _) (.cells #[.int .i64 h, .int .i64 room, .slice A s.length c, .int .i64 n] 25)).alloc (by simp) (.cells #[.int .i64 0, .int .i64 0, .slice none 0 0, .int .i64 0] 25)))
  clear hA
  have cZX := ZX.out.four
  have cZZ := ZZ.out.four
  have fZZ0 := ZZ.out.frozen 0
  have fZZ1 := ZZ.out.frozen 1
  have fZZ2 := ZZ.out.frozen 2
  have fZZ3 := ZZ.out.frozen 3
  have t0 : (n == (1099511627776 : Int)) = false := beq_eq_false_iff_ne.2 hn
  obtain ⟨n0, n1⟩ := rollCheck_n e.out
  clear hn
  go_enter Try.func40, Try.ntmps40
  go_wp2_with fail
  refine (rchk e _ _ _ HA.out).mono ?_
  rintro e w1 ⟨rfl, hb1⟩
  replace ZX := mkHid (ZX.out.keep hb1)
  replace ZZ := mkHid (ZZ.out.keep hb1)
  replace KB := mkHid (KB.out.step hb1)
  replace HA := mkHid (HA.out.below hb1)
  clear cZX
  have cZX := ZX.out.four
  clear cZZ fZZ0 fZZ1 fZZ2 fZZ3
  have cZZ := ZZ.out.four
  have fZZ0 := ZZ.out.frozen 0
  have fZZ1 := ZZ.out.frozen 1
  have fZZ2 := ZZ.out.frozen 2
  have fZZ3 := ZZ.out.frozen 3
  clear hb1
  go_wp2_with fail
  refine (lwith_all f _ _ _ HA.out).mono ?_
  rintro e w2 ⟨v, rfl, ho, hb2⟩
  have SZ : w.heap.size + 1 < w1.heap.size := ZZ.out.lt
  have RV := mkHid ho
  clear ho
  obtain ⟨va, vc, rfl⟩ := RV.out.len
  replace ZX := mkHid (ZX.out.keep hb2)
  replace ZZ := mkHid (ZZ.out.keep hb2)
  replace KB := mkHid (KB.out.step hb2)
  replace HA := mkHid (HA.out.below hb2)
  clear cZX
  have cZX := ZX.out.four
  clear cZZ fZZ0 fZZ1 fZZ2 fZZ3
  have cZZ := ZZ.out.four
  have fZZ0 := ZZ.out.frozen 0
  have fZZ1 := ZZ.out.frozen 1
  have fZZ2 := ZZ.out.frozen 2
  have fZZ3 := ZZ.out.frozen 3
  clear hb2
  go_wp2_with fail
  have qR := (ZZ.out.fill4 (x := .int .i64 h) (y := .int .i64 room) (u := .slice va L.length vc) (v := .int .i64 (n + 1))).four
  refine bodyPost_ret (v := .tuple #[.agg #[.int .i64 h, .int .i64 room, .slice va L.length vc, .int .i64 (n + 1)], .int .i64 0]) (by simp [results, Try.results40, go_sem, qR]) rfl ⟨_, rfl, RowOf.rebase (RowOf.past4 RV.out SZ _ _ _ _) (by omega), below_four KB.out (by omega) _ _ _ _⟩

set_option maxRecDepth 100000 in
set_option maxHeartbeats 4000000 in
theorem cho_bad {h room n : Int} {s : List Nat} {t : Nat} (e : Hid (rollCheck h room s n = 1))  (A : Option Addr) (c : Nat) (w : World) (hA : Reads w A s) :
    Calls Try.prog 40 #[.agg #[.int .i64 h, .int .i64 room, .slice A s.length c, .int .i64 n], .int .u64 (t : Int), .func (.func 42) #[] #[]] w (RPost ⟨0, 0, [], 0⟩ 1 w) := by
  skip
  have ZX : Hid (Blk ((w.alloc (.cells #[.int .i64 h, .int .i64 room, .slice A s.length c, .int .i64 n] 25)).alloc (.cells #[.int .i64 0, .int .i64 0, .slice none 0 0, .int .i64 0] 25)) w.heap.size 25 #[.int .i64 h, .int .i64 room, .slice A s.length c, .int .i64 n]) := mkHid ((Blk.new _ _ _).alloc _)
  have ZZ : Hid (Blk ((w.alloc (.cells #[.int .i64 h, .int .i64 room, .slice A s.length c, .int .i64 n] 25)).alloc (.cells #[.int .i64 0, .int .i64 0, .slice none 0 0, .int .i64 0] 25)) (w.heap.size + 1) 25 #[.int .i64 0, .int .i64 0, .slice none 0 0, .int .i64 0]) := mkHid (Blk.at _ _ _ (by simp))
  have KB : Hid (Below w.heap.size w ((w.alloc (.cells #[.int .i64 h, .int .i64 room, .slice A s.length c, .int .i64 n] 25)).alloc (.cells #[.int .i64 0, .int .i64 0, .slice none 0 0, .int .i64 0] 25))) := mkHid (((Below.refl _ _).alloc (Nat.le_refl _) _).alloc (by simp) _)
  have HA := mkHid (hA.below (((Below.refl _ _).alloc (Nat.le_refl _) (.cells #[.int .i64 h, .int .i64 room, .slice A s.length c, .int .i64 n] 25)).alloc (by simp) (.cells #[.int .i64 0, .int .i64 0, .slice none 0 0, .int .i64 0] 25)))
  clear hA
  have cZX := ZX.out.four
  have cZZ := ZZ.out.four
  have fZZ0 := ZZ.out.frozen 0
  have fZZ1 := ZZ.out.frozen 1
  have fZZ2 := ZZ.out.frozen 2
  have fZZ3 := ZZ.out.frozen 3
  go_enter Try.func40, Try.ntmps40
  go_wp2_with fail
  refine (rchk e _ _ _ HA.out).mono ?_
  rintro e w1 ⟨rfl, hb1⟩
  replace ZX := mkHid (ZX.out.keep hb1)
  replace ZZ := mkHid (ZZ.out.keep hb1)
  replace KB := mkHid (KB.out.step hb1)
  replace HA := mkHid (HA.out.below hb1)
  clear cZX
  have cZX := ZX.out.four
  clear cZZ fZZ0 fZZ1 fZZ2 fZZ3
  have cZZ := ZZ.out.four
  have fZZ0 := ZZ.out.frozen 0
  have fZZ1 := ZZ.out.frozen 1
  have fZZ2 := ZZ.out.frozen 2
  have fZZ3 := ZZ.out.frozen 3
  clear hb1
  go_wp2_with fail
  have qR := (ZZ.out.fill4 (x := .int .i64 0) (y := .int .i64 0) (u := .slice none 0 0) (v := .int .i64 0)).four
  refine bodyPost_ret (v := .tuple #[.agg #[.int .i64 0, .int .i64 0, .slice none 0 0, .int .i64 0], .int .i64 1]) (by simp [results, Try.results40, go_sem, qR]) rfl ⟨_, rfl, RowOf.nil _ _, below_four KB.out (by omega) _ _ _ _⟩

set_option maxRecDepth 100000 in
set_option maxHeartbeats 4000000 in
theorem cho_err {h room n : Int} {s : List Nat} {t : Nat} (e : Hid (rollCheck h room s n = 0)) {L : List Nat} {r : Int} (f : Hid (withoutAll h s t = (L, r))) (hr : r ≠ 0)  (A : Option Addr) (c : Nat) (w : World) (hA : Reads w A s) :
    Calls Try.prog 40 #[.agg #[.int .i64 h, .int .i64 room, .slice A s.length c, .int .i64 n], .int .u64 (t : Int), .func (.func 42) #[] #[]] w (RPost ⟨0, 0, [], 0⟩ r w) := by
  skip
  have ZX : Hid (Blk ((w.alloc (.cells #[.int .i64 h, .int .i64 room, .slice A s.length c, .int .i64 n] 25)).alloc (.cells #[.int .i64 0, .int .i64 0, .slice none 0 0, .int .i64 0] 25)) w.heap.size 25 #[.int .i64 h, .int .i64 room, .slice A s.length c, .int .i64 n]) := mkHid ((Blk.new _ _ _).alloc _)
  have ZZ : Hid (Blk ((w.alloc (.cells #[.int .i64 h, .int .i64 room, .slice A s.length c, .int .i64 n] 25)).alloc (.cells #[.int .i64 0, .int .i64 0, .slice none 0 0, .int .i64 0] 25)) (w.heap.size + 1) 25 #[.int .i64 0, .int .i64 0, .slice none 0 0, .int .i64 0]) := mkHid (Blk.at _ _ _ (by simp))
  have KB : Hid (Below w.heap.size w ((w.alloc (.cells #[.int .i64 h, .int .i64 room, .slice A s.length c, .int .i64 n] 25)).alloc (.cells #[.int .i64 0, .int .i64 0, .slice none 0 0, .int .i64 0] 25))) := mkHid (((Below.refl _ _).alloc (Nat.le_refl _) _).alloc (by simp) _)
  have HA := mkHid (hA.below (((Below.refl _ _).alloc (Nat.le_refl _) (.cells #[.int .i64 h, .int .i64 room, .slice A s.length c, .int .i64 n] 25)).alloc (by simp) (.cells #[.int .i64 0, .int .i64 0, .slice none 0 0, .int .i64 0] 25)))
  clear hA
  have cZX := ZX.out.four
  have cZZ := ZZ.out.four
  have fZZ0 := ZZ.out.frozen 0
  have fZZ1 := ZZ.out.frozen 1
  have fZZ2 := ZZ.out.frozen 2
  have fZZ3 := ZZ.out.frozen 3
  have t0 : (r != (0 : Int)) = true := bne_iff_ne.2 hr
  go_enter Try.func40, Try.ntmps40
  go_wp2_with fail
  refine (rchk e _ _ _ HA.out).mono ?_
  rintro e w1 ⟨rfl, hb1⟩
  replace ZX := mkHid (ZX.out.keep hb1)
  replace ZZ := mkHid (ZZ.out.keep hb1)
  replace KB := mkHid (KB.out.step hb1)
  replace HA := mkHid (HA.out.below hb1)
  clear cZX
  have cZX := ZX.out.four
  clear cZZ fZZ0 fZZ1 fZZ2 fZZ3
  have cZZ := ZZ.out.four
  have fZZ0 := ZZ.out.frozen 0
  have fZZ1 := ZZ.out.frozen 1
  have fZZ2 := ZZ.out.frozen 2
  have fZZ3 := ZZ.out.frozen 3
  clear hb1
  go_wp2_with fail
  refine (lwithout_all f _ _ _ HA.out).mono ?_
  rintro e w2 ⟨v, rfl, ho, hb2⟩
  have SZ : w.heap.size + 1 < w1.heap.size := ZZ.out.lt
  have RV := mkHid ho
  clear ho
  obtain ⟨va, vc, rfl⟩ := RV.out.len
  replace ZX := mkHid (ZX.out.keep hb2)
  replace ZZ := mkHid (ZZ.out.keep hb2)
  replace KB := mkHid (KB.out.step hb2)
  replace HA := mkHid (HA.out.below hb2)
  clear cZX
  have cZX := ZX.out.four
  clear cZZ fZZ0 fZZ1 fZZ2 fZZ3
  have cZZ := ZZ.out.four
  have fZZ0 := ZZ.out.frozen 0
  have fZZ1 := ZZ.out.frozen 1
  have fZZ2 := ZZ.out.frozen 2
  have fZZ3 := ZZ.out.frozen 3
  clear hb2
  go_wp2_with fail
  have qR := (ZZ.out.fill4 (x := .int .i64 0) (y := .int .i64 0) (u := .slice none 0 0) (v := .int .i64 0)).four
  refine bodyPost_ret (v := .tuple #[.agg #[.int .i64 0, .int .i64 0, .slice none 0 0, .int .i64 0], .int .i64 r]) (by simp [results, Try.results40, go_sem, qR]) rfl ⟨_, rfl, RowOf.nil _ _, below_four KB.out (by omega) _ _ _ _⟩

set_option maxRecDepth 100000 in
set_option maxHeartbeats 4000000 in
theorem cho_over {h room n : Int} {s : List Nat} {t : Nat} (e : Hid (rollCheck h room s n = 0)) {L : List Nat} (f : Hid (withoutAll h s t = (L, 0))) (hn : n = 1099511627776)  (A : Option Addr) (c : Nat) (w : World) (hA : Reads w A s) :
    Calls Try.prog 40 #[.agg #[.int .i64 h, .int .i64 room, .slice A s.length c, .int .i64 n], .int .u64 (t : Int), .func (.func 42) #[] #[]] w (RPost ⟨0, 0, [], 0⟩ 9 w) := by
  skip
  have ZX : Hid (Blk ((w.alloc (.cells #[.int .i64 h, .int .i64 room, .slice A s.length c, .int .i64 n] 25)).alloc (.cells #[.int .i64 0, .int .i64 0, .slice none 0 0, .int .i64 0] 25)) w.heap.size 25 #[.int .i64 h, .int .i64 room, .slice A s.length c, .int .i64 n]) := mkHid ((Blk.new _ _ _).alloc _)
  have ZZ : Hid (Blk ((w.alloc (.cells #[.int .i64 h, .int .i64 room, .slice A s.length c, .int .i64 n] 25)).alloc (.cells #[.int .i64 0, .int .i64 0, .slice none 0 0, .int .i64 0] 25)) (w.heap.size + 1) 25 #[.int .i64 0, .int .i64 0, .slice none 0 0, .int .i64 0]) := mkHid (Blk.at _ _ _ (by simp))
  have KB : Hid (Below w.heap.size w ((w.alloc (.cells #[.int .i64 h, .int .i64 room, .slice A s.length c, .int .i64 n] 25)).alloc (.cells #[.int .i64 0, .int .i64 0, .slice none 0 0, .int .i64 0] 25))) := mkHid (((Below.refl _ _).alloc (Nat.le_refl _) _).alloc (by simp) _)
  have HA := mkHid (hA.below (((Below.refl _ _).alloc (Nat.le_refl _) (.cells #[.int .i64 h, .int .i64 room, .slice A s.length c, .int .i64 n] 25)).alloc (by simp) (.cells #[.int .i64 0, .int .i64 0, .slice none 0 0, .int .i64 0] 25)))
  clear hA
  have cZX := ZX.out.four
  have cZZ := ZZ.out.four
  have fZZ0 := ZZ.out.frozen 0
  have fZZ1 := ZZ.out.frozen 1
  have fZZ2 := ZZ.out.frozen 2
  have fZZ3 := ZZ.out.frozen 3
  have t0 : (n == (1099511627776 : Int)) = true := beq_iff_eq.2 hn
  clear hn
  go_enter Try.func40, Try.ntmps40
  go_wp2_with fail
  refine (rchk e _ _ _ HA.out).mono ?_
  rintro e w1 ⟨rfl, hb1⟩
  replace ZX := mkHid (ZX.out.keep hb1)
  replace ZZ := mkHid (ZZ.out.keep hb1)
  replace KB := mkHid (KB.out.step hb1)
  replace HA := mkHid (HA.out.below hb1)
  clear cZX
  have cZX := ZX.out.four
  clear cZZ fZZ0 fZZ1 fZZ2 fZZ3
  have cZZ := ZZ.out.four
  have fZZ0 := ZZ.out.frozen 0
  have fZZ1 := ZZ.out.frozen 1
  have fZZ2 := ZZ.out.frozen 2
  have fZZ3 := ZZ.out.frozen 3
  clear hb1
  go_wp2_with fail
  refine (lwithout_all f _ _ _ HA.out).mono ?_
  rintro e w2 ⟨v, rfl, ho, hb2⟩
  have SZ : w.heap.size + 1 < w1.heap.size := ZZ.out.lt
  have RV := mkHid ho
  clear ho
  obtain ⟨va, vc, rfl⟩ := RV.out.len
  replace ZX := mkHid (ZX.out.keep hb2)
  replace ZZ := mkHid (ZZ.out.keep hb2)
  replace KB := mkHid (KB.out.step hb2)
  replace HA := mkHid (HA.out.below hb2)
  clear cZX
  have cZX := ZX.out.four
  clear cZZ fZZ0 fZZ1 fZZ2 fZZ3
  have cZZ := ZZ.out.four
  have fZZ0 := ZZ.out.frozen 0
  have fZZ1 := ZZ.out.frozen 1
  have fZZ2 := ZZ.out.frozen 2
  have fZZ3 := ZZ.out.frozen 3
  clear hb2
  go_wp2_with fail
  have qR := (ZZ.out.fill4 (x := .int .i64 0) (y := .int .i64 0) (u := .slice none 0 0) (v := .int .i64 0)).four
  refine bodyPost_ret (v := .tuple #[.agg #[.int .i64 0, .int .i64 0, .slice none 0 0, .int .i64 0], .int .i64 9]) (by simp [results, Try.results40, go_sem, qR]) rfl ⟨_, rfl, RowOf.nil _ _, below_four KB.out (by omega) _ _ _ _⟩

set_option maxRecDepth 100000 in
set_option maxHeartbeats 4000000 in
theorem cho_ok {h room n : Int} {s : List Nat} {t : Nat} (e : Hid (rollCheck h room s n = 0)) {L : List Nat} (f : Hid (withoutAll h s t = (L, 0))) (hn : n ≠ 1099511627776)  (A : Option Addr) (c : Nat) (w : World) (hA : Reads w A s) :
    Calls Try.prog 40 #[.agg #[.int .i64 h, .int .i64 room, .slice A s.length c, .int .i64 n], .int .u64 (t : Int), .func (.func 42) #[] #[]] w (RPost ⟨h, room, L, n + 1⟩ 0 w) := by
  skip
  have ZX : Hid (Blk ((w.alloc (.cells #[.int .i64 h, .int .i64 room, .slice A s.length c, .int .i64 n] 25)).alloc (.cells #[.int .i64 0, .int .i64 0, .slice none 0 0, .int .i64 0] 25)) w.heap.size 25 #[.int .i64 h, .int .i64 room, .slice A s.length c, .int .i64 n]) := mkHid ((Blk.new _ _ _).alloc _)
  have ZZ : Hid (Blk ((w.alloc (.cells #[.int .i64 h, .int .i64 room, .slice A s.length c, .int .i64 n] 25)).alloc (.cells #[.int .i64 0, .int .i64 0, .slice none 0 0, .int .i64 0] 25)) (w.heap.size + 1) 25 #[.int .i64 0, .int .i64 0, .slice none 0 0, .int .i64 0]) := mkHid (Blk.at _ _ _ (by simp))
  have KB : Hid (Below w.heap.size w ((w.alloc (.cells #[.int .i64 h, .int .i64 room, .slice A s.length c, .int .i64 n] 25)).alloc (.cells #[.int .i64 0, .int .i64 0, .slice none 0 0, .int .i64 0] 25))) := mkHid (((Below.refl _ _).alloc (Nat.le_refl _) _).alloc (by simp) _)
  have HA := mkHid (hA.below (((Below.refl _ _).alloc (Nat.le_refl _) (.cells #[.int .i64 h, .int .i64 room, .slice A s.length c, .int .i64 n] 25)).alloc (by simp) (.cells #[.int .i64 0, .int .i64 0, .slice none 0 0, .int .i64 0] 25)))
  clear hA
  have cZX := ZX.out.four
  have cZZ := ZZ.out.four
  have fZZ0 := ZZ.out.frozen 0
  have fZZ1 := ZZ.out.frozen 1
  have fZZ2 := ZZ.out.frozen 2
  have fZZ3 := ZZ.out.frozen 3
  have t0 : (n == (1099511627776 : Int)) = false := beq_eq_false_iff_ne.2 hn
  obtain ⟨n0, n1⟩ := rollCheck_n e.out
  clear hn
  go_enter Try.func40, Try.ntmps40
  go_wp2_with fail
  refine (rchk e _ _ _ HA.out).mono ?_
  rintro e w1 ⟨rfl, hb1⟩
  replace ZX := mkHid (ZX.out.keep hb1)
  replace ZZ := mkHid (ZZ.out.keep hb1)
  replace KB := mkHid (KB.out.step hb1)
  replace HA := mkHid (HA.out.below hb1)
  clear cZX
  have cZX := ZX.out.four
  clear cZZ fZZ0 fZZ1 fZZ2 fZZ3
  have cZZ := ZZ.out.four
  have fZZ0 := ZZ.out.frozen 0
  have fZZ1 := ZZ.out.frozen 1
  have fZZ2 := ZZ.out.frozen 2
  have fZZ3 := ZZ.out.frozen 3
  clear hb1
  go_wp2_with fail
  refine (lwithout_all f _ _ _ HA.out).mono ?_
  rintro e w2 ⟨v, rfl, ho, hb2⟩
  have SZ : w.heap.size + 1 < w1.heap.size := ZZ.out.lt
  have RV := mkHid ho
  clear ho
  obtain ⟨va, vc, rfl⟩ := RV.out.len
  replace ZX := mkHid (ZX.out.keep hb2)
  replace ZZ := mkHid (ZZ.out.keep hb2)
  replace KB := mkHid (KB.out.step hb2)
  replace HA := mkHid (HA.out.below hb2)
  clear cZX
  have cZX := ZX.out.four
  clear cZZ fZZ0 fZZ1 fZZ2 fZZ3
  have cZZ := ZZ.out.four
  have fZZ0 := ZZ.out.frozen 0
  have fZZ1 := ZZ.out.frozen 1
  have fZZ2 := ZZ.out.frozen 2
  have fZZ3 := ZZ.out.frozen 3
  clear hb2
  go_wp2_with fail
  have qR := (ZZ.out.fill4 (x := .int .i64 h) (y := .int .i64 room) (u := .slice va L.length vc) (v := .int .i64 (n + 1))).four
  refine bodyPost_ret (v := .tuple #[.agg #[.int .i64 h, .int .i64 room, .slice va L.length vc, .int .i64 (n + 1)], .int .i64 0]) (by simp [results, Try.results40, go_sem, qR]) rfl ⟨_, rfl, RowOf.rebase (RowOf.past4 RV.out SZ _ _ _ _) (by omega), below_four KB.out (by omega) _ _ _ _⟩

set_option maxRecDepth 100000 in
set_option maxHeartbeats 4000000 in
theorem revoke_of {h room n : Int} {s : List Nat} {t : Nat} {R : RollA} {r : Int} (HC : Hid (∀ (A : Option Addr) (c : Nat) (w : World), Reads w A s → Calls Try.prog 40 #[.agg #[.int .i64 h, .int .i64 room, .slice A s.length c, .int .i64 n], .int .u64 (t : Int), .func (.func 41) #[] #[]] w (RPost R r w)))  (A : Option Addr) (c : Nat) (w : World) (hA : Reads w A s) :
    Calls Try.prog 14 #[.agg #[.int .i64 h, .int .i64 room, .slice A s.length c, .int .i64 n], .int .u64 (t : Int)] w (RPost R r w) := by
  skip
  have ZX : Hid (Blk ((w.alloc (.cells #[.int .i64 h, .int .i64 room, .slice A s.length c, .int .i64 n] 25)).alloc (.cells #[.int .i64 0, .int .i64 0, .slice none 0 0, .int .i64 0] 25)) w.heap.size 25 #[.int .i64 h, .int .i64 room, .slice A s.length c, .int .i64 n]) := mkHid ((Blk.new _ _ _).alloc _)
  have ZZ : Hid (Blk ((w.alloc (.cells #[.int .i64 h, .int .i64 room, .slice A s.length c, .int .i64 n] 25)).alloc (.cells #[.int .i64 0, .int .i64 0, .slice none 0 0, .int .i64 0] 25)) (w.heap.size + 1) 25 #[.int .i64 0, .int .i64 0, .slice none 0 0, .int .i64 0]) := mkHid (Blk.at _ _ _ (by simp))
  have KB : Hid (Below w.heap.size w ((w.alloc (.cells #[.int .i64 h, .int .i64 room, .slice A s.length c, .int .i64 n] 25)).alloc (.cells #[.int .i64 0, .int .i64 0, .slice none 0 0, .int .i64 0] 25))) := mkHid (((Below.refl _ _).alloc (Nat.le_refl _) _).alloc (by simp) _)
  have HA := mkHid (hA.below (((Below.refl _ _).alloc (Nat.le_refl _) (.cells #[.int .i64 h, .int .i64 room, .slice A s.length c, .int .i64 n] 25)).alloc (by simp) (.cells #[.int .i64 0, .int .i64 0, .slice none 0 0, .int .i64 0] 25)))
  clear hA
  have cZX := ZX.out.four
  have cZZ := ZZ.out.four
  have fZZ0 := ZZ.out.frozen 0
  have fZZ1 := ZZ.out.frozen 1
  have fZZ2 := ZZ.out.frozen 2
  have fZZ3 := ZZ.out.frozen 3
  go_enter Try.func14, Try.ntmps14
  go_wp2_with fail
  refine (HC.out _ _ _ HA.out).mono ?_
  rintro e w1 ⟨v, rfl, ho, hb1⟩
  have RV := mkHid (RowOf.rebase (a := w.heap.size + 2) ho (by simp))
  clear ho
  obtain ⟨va, vc, rfl⟩ := RV.out.len
  replace ZX := mkHid (ZX.out.keep hb1)
  replace ZZ := mkHid (ZZ.out.keep hb1)
  replace KB := mkHid (KB.out.step hb1)
  replace HA := mkHid (HA.out.below hb1)
  clear cZX
  have cZX := ZX.out.four
  clear cZZ fZZ0 fZZ1 fZZ2 fZZ3
  have cZZ := ZZ.out.four
  have fZZ0 := ZZ.out.frozen 0
  have fZZ1 := ZZ.out.frozen 1
  have fZZ2 := ZZ.out.frozen 2
  have fZZ3 := ZZ.out.frozen 3
  clear hb1
  go_wp2_with fail
  have qR := (ZZ.out.fill4 (x := .int .i64 R.h) (y := .int .i64 R.room) (u := .slice va R.s.length vc) (v := .int .i64 R.n)).four
  refine bodyPost_ret (v := .tuple #[.agg #[.int .i64 R.h, .int .i64 R.room, .slice va R.s.length vc, .int .i64 R.n], .int .i64 r]) (by simp [results, Try.results14, go_sem, qR]) rfl ⟨_, rfl, RowOf.rebase (RowOf.past4 RV.out (by omega) _ _ _ _) (by omega), below_four KB.out (by omega) _ _ _ _⟩

set_option maxRecDepth 100000 in
set_option maxHeartbeats 4000000 in
theorem reinstate_of {h room n : Int} {s : List Nat} {t : Nat} {R : RollA} {r : Int} (HC : Hid (∀ (A : Option Addr) (c : Nat) (w : World), Reads w A s → Calls Try.prog 40 #[.agg #[.int .i64 h, .int .i64 room, .slice A s.length c, .int .i64 n], .int .u64 (t : Int), .func (.func 42) #[] #[]] w (RPost R r w)))  (A : Option Addr) (c : Nat) (w : World) (hA : Reads w A s) :
    Calls Try.prog 15 #[.agg #[.int .i64 h, .int .i64 room, .slice A s.length c, .int .i64 n], .int .u64 (t : Int)] w (RPost R r w) := by
  skip
  have ZX : Hid (Blk ((w.alloc (.cells #[.int .i64 h, .int .i64 room, .slice A s.length c, .int .i64 n] 25)).alloc (.cells #[.int .i64 0, .int .i64 0, .slice none 0 0, .int .i64 0] 25)) w.heap.size 25 #[.int .i64 h, .int .i64 room, .slice A s.length c, .int .i64 n]) := mkHid ((Blk.new _ _ _).alloc _)
  have ZZ : Hid (Blk ((w.alloc (.cells #[.int .i64 h, .int .i64 room, .slice A s.length c, .int .i64 n] 25)).alloc (.cells #[.int .i64 0, .int .i64 0, .slice none 0 0, .int .i64 0] 25)) (w.heap.size + 1) 25 #[.int .i64 0, .int .i64 0, .slice none 0 0, .int .i64 0]) := mkHid (Blk.at _ _ _ (by simp))
  have KB : Hid (Below w.heap.size w ((w.alloc (.cells #[.int .i64 h, .int .i64 room, .slice A s.length c, .int .i64 n] 25)).alloc (.cells #[.int .i64 0, .int .i64 0, .slice none 0 0, .int .i64 0] 25))) := mkHid (((Below.refl _ _).alloc (Nat.le_refl _) _).alloc (by simp) _)
  have HA := mkHid (hA.below (((Below.refl _ _).alloc (Nat.le_refl _) (.cells #[.int .i64 h, .int .i64 room, .slice A s.length c, .int .i64 n] 25)).alloc (by simp) (.cells #[.int .i64 0, .int .i64 0, .slice none 0 0, .int .i64 0] 25)))
  clear hA
  have cZX := ZX.out.four
  have cZZ := ZZ.out.four
  have fZZ0 := ZZ.out.frozen 0
  have fZZ1 := ZZ.out.frozen 1
  have fZZ2 := ZZ.out.frozen 2
  have fZZ3 := ZZ.out.frozen 3
  go_enter Try.func15, Try.ntmps15
  go_wp2_with fail
  refine (HC.out _ _ _ HA.out).mono ?_
  rintro e w1 ⟨v, rfl, ho, hb1⟩
  have RV := mkHid (RowOf.rebase (a := w.heap.size + 2) ho (by simp))
  clear ho
  obtain ⟨va, vc, rfl⟩ := RV.out.len
  replace ZX := mkHid (ZX.out.keep hb1)
  replace ZZ := mkHid (ZZ.out.keep hb1)
  replace KB := mkHid (KB.out.step hb1)
  replace HA := mkHid (HA.out.below hb1)
  clear cZX
  have cZX := ZX.out.four
  clear cZZ fZZ0 fZZ1 fZZ2 fZZ3
  have cZZ := ZZ.out.four
  have fZZ0 := ZZ.out.frozen 0
  have fZZ1 := ZZ.out.frozen 1
  have fZZ2 := ZZ.out.frozen 2
  have fZZ3 := ZZ.out.frozen 3
  clear hb1
  go_wp2_with fail
  have qR := (ZZ.out.fill4 (x := .int .i64 R.h) (y := .int .i64 R.room) (u := .slice va R.s.length vc) (v := .int .i64 R.n)).four
  refine bodyPost_ret (v := .tuple #[.agg #[.int .i64 R.h, .int .i64 R.room, .slice va R.s.length vc, .int .i64 R.n], .int .i64 r]) (by simp [results, Try.results15, go_sem, qR]) rfl ⟨_, rfl, RowOf.rebase (RowOf.past4 RV.out (by omega) _ _ _ _) (by omega), below_four KB.out (by omega) _ _ _ _⟩
end Go.Proofs.Ytmehbonjpmlmfaa

namespace Go.Proofs.Ytmehbonjpmlmfaa
open Go.RowKit Go.Proofs.YtmehbonjpmlmfaaW.PrintWords

set_option maxRecDepth 100000 in
set_option maxHeartbeats 4000000 in
theorem srev_no {h room n : Int} {s : List Nat} {t : Nat} {z : Bool} {r : Int} (e : Hid (rollIs h room s n t = (z, r))) (hr : r ≠ 0)  (A : Option Addr) (c : Nat) (w : World) (hA : Reads w A s) :
    Calls Try.prog 20 #[.agg #[.int .i64 h, .int .i64 room, .slice A s.length c, .int .i64 n], .int .u64 (t : Int)] w (RPost ⟨0, 0, [], 0⟩ r w) := by
  skip
  have ZX : Hid (Blk ((w.alloc (.cells #[.int .i64 h, .int .i64 room, .slice A s.length c, .int .i64 n] 25)).alloc (.cells #[.int .i64 0, .int .i64 0, .slice none 0 0, .int .i64 0] 25)) w.heap.size 25 #[.int .i64 h, .int .i64 room, .slice A s.length c, .int .i64 n]) := mkHid ((Blk.new _ _ _).alloc _)
  have ZZ : Hid (Blk ((w.alloc (.cells #[.int .i64 h, .int .i64 room, .slice A s.length c, .int .i64 n] 25)).alloc (.cells #[.int .i64 0, .int .i64 0, .slice none 0 0, .int .i64 0] 25)) (w.heap.size + 1) 25 #[.int .i64 0, .int .i64 0, .slice none 0 0, .int .i64 0]) := mkHid (Blk.at _ _ _ (by simp))
  have KB : Hid (Below w.heap.size w ((w.alloc (.cells #[.int .i64 h, .int .i64 room, .slice A s.length c, .int .i64 n] 25)).alloc (.cells #[.int .i64 0, .int .i64 0, .slice none 0 0, .int .i64 0] 25))) := mkHid (((Below.refl _ _).alloc (Nat.le_refl _) _).alloc (by simp) _)
  have HA := mkHid (hA.below (((Below.refl _ _).alloc (Nat.le_refl _) (.cells #[.int .i64 h, .int .i64 room, .slice A s.length c, .int .i64 n] 25)).alloc (by simp) (.cells #[.int .i64 0, .int .i64 0, .slice none 0 0, .int .i64 0] 25)))
  clear hA
  have cZX := ZX.out.four
  have cZZ := ZZ.out.four
  have fZZ0 := ZZ.out.frozen 0
  have fZZ1 := ZZ.out.frozen 1
  have fZZ2 := ZZ.out.frozen 2
  have fZZ3 := ZZ.out.frozen 3
  have t0 : (r != (0 : Int)) = true := bne_iff_ne.2 hr
  go_enter Try.func20, Try.ntmps20
  go_wp2_with fail
  refine (sris e _ _ _ HA.out).mono ?_
  rintro e w1 ⟨rfl, hb1⟩
  replace ZX := mkHid (ZX.out.keep hb1)
  replace ZZ := mkHid (ZZ.out.keep hb1)
  replace KB := mkHid (KB.out.step hb1)
  replace HA := mkHid (HA.out.below hb1)
  clear cZX
  have cZX := ZX.out.four
  clear cZZ fZZ0 fZZ1 fZZ2 fZZ3
  have cZZ := ZZ.out.four
  have fZZ0 := ZZ.out.frozen 0
  have fZZ1 := ZZ.out.frozen 1
  have fZZ2 := ZZ.out.frozen 2
  have fZZ3 := ZZ.out.frozen 3
  clear hb1
  go_wp2_with fail
  have qR := (ZZ.out.fill4 (x := .int .i64 0) (y := .int .i64 0) (u := .slice none 0 0) (v := .int .i64 0)).four
  refine bodyPost_ret (v := .tuple #[.agg #[.int .i64 0, .int .i64 0, .slice none 0 0, .int .i64 0], .int .i64 r]) (by simp [results, Try.results20, go_sem, qR]) rfl ⟨_, rfl, RowOf.nil _ _, below_four KB.out (by omega) _ _ _ _⟩

set_option maxRecDepth 100000 in
set_option maxHeartbeats 4000000 in
theorem srev_is {h room n : Int} {s : List Nat} {t : Nat} (e : Hid (rollIs h room s n t = (true, 0)))  (A : Option Addr) (c : Nat) (w : World) (hA : Reads w A s) :
    Calls Try.prog 20 #[.agg #[.int .i64 h, .int .i64 room, .slice A s.length c, .int .i64 n], .int .u64 (t : Int)] w (RPost ⟨0, 0, [], 0⟩ 5 w) := by
  skip
  have ZX : Hid (Blk ((w.alloc (.cells #[.int .i64 h, .int .i64 room, .slice A s.length c, .int .i64 n] 25)).alloc (.cells #[.int .i64 0, .int .i64 0, .slice none 0 0, .int .i64 0] 25)) w.heap.size 25 #[.int .i64 h, .int .i64 room, .slice A s.length c, .int .i64 n]) := mkHid ((Blk.new _ _ _).alloc _)
  have ZZ : Hid (Blk ((w.alloc (.cells #[.int .i64 h, .int .i64 room, .slice A s.length c, .int .i64 n] 25)).alloc (.cells #[.int .i64 0, .int .i64 0, .slice none 0 0, .int .i64 0] 25)) (w.heap.size + 1) 25 #[.int .i64 0, .int .i64 0, .slice none 0 0, .int .i64 0]) := mkHid (Blk.at _ _ _ (by simp))
  have KB : Hid (Below w.heap.size w ((w.alloc (.cells #[.int .i64 h, .int .i64 room, .slice A s.length c, .int .i64 n] 25)).alloc (.cells #[.int .i64 0, .int .i64 0, .slice none 0 0, .int .i64 0] 25))) := mkHid (((Below.refl _ _).alloc (Nat.le_refl _) _).alloc (by simp) _)
  have HA := mkHid (hA.below (((Below.refl _ _).alloc (Nat.le_refl _) (.cells #[.int .i64 h, .int .i64 room, .slice A s.length c, .int .i64 n] 25)).alloc (by simp) (.cells #[.int .i64 0, .int .i64 0, .slice none 0 0, .int .i64 0] 25)))
  clear hA
  have cZX := ZX.out.four
  have cZZ := ZZ.out.four
  have fZZ0 := ZZ.out.frozen 0
  have fZZ1 := ZZ.out.frozen 1
  have fZZ2 := ZZ.out.frozen 2
  have fZZ3 := ZZ.out.frozen 3
  go_enter Try.func20, Try.ntmps20
  go_wp2_with fail
  refine (sris e _ _ _ HA.out).mono ?_
  rintro e w1 ⟨rfl, hb1⟩
  replace ZX := mkHid (ZX.out.keep hb1)
  replace ZZ := mkHid (ZZ.out.keep hb1)
  replace KB := mkHid (KB.out.step hb1)
  replace HA := mkHid (HA.out.below hb1)
  clear cZX
  have cZX := ZX.out.four
  clear cZZ fZZ0 fZZ1 fZZ2 fZZ3
  have cZZ := ZZ.out.four
  have fZZ0 := ZZ.out.frozen 0
  have fZZ1 := ZZ.out.frozen 1
  have fZZ2 := ZZ.out.frozen 2
  have fZZ3 := ZZ.out.frozen 3
  clear hb1
  go_wp2_with fail
  have qR := (ZZ.out.fill4 (x := .int .i64 0) (y := .int .i64 0) (u := .slice none 0 0) (v := .int .i64 0)).four
  refine bodyPost_ret (v := .tuple #[.agg #[.int .i64 0, .int .i64 0, .slice none 0 0, .int .i64 0], .int .i64 5]) (by simp [results, Try.results20, go_sem, qR]) rfl ⟨_, rfl, RowOf.nil _ _, below_four KB.out (by omega) _ _ _ _⟩

set_option maxRecDepth 100000 in
set_option maxHeartbeats 4000000 in
theorem srev_full {h room n : Int} {s : List Nat} {t : Nat} (e : Hid (rollIs h room s n t = (false, 0))) (hl : (s.length : Int) = room)  (A : Option Addr) (c : Nat) (w : World) (hA : Reads w A s) :
    Calls Try.prog 20 #[.agg #[.int .i64 h, .int .i64 room, .slice A s.length c, .int .i64 n], .int .u64 (t : Int)] w (RPost ⟨0, 0, [], 0⟩ 6 w) := by
  skip
  have ZX : Hid (Blk ((w.alloc (.cells #[.int .i64 h, .int .i64 room, .slice A s.length c, .int .i64 n] 25)).alloc (.cells #[.int .i64 0, .int .i64 0, .slice none 0 0, .int .i64 0] 25)) w.heap.size 25 #[.int .i64 h, .int .i64 room, .slice A s.length c, .int .i64 n]) := mkHid ((Blk.new _ _ _).alloc _)
  have ZZ : Hid (Blk ((w.alloc (.cells #[.int .i64 h, .int .i64 room, .slice A s.length c, .int .i64 n] 25)).alloc (.cells #[.int .i64 0, .int .i64 0, .slice none 0 0, .int .i64 0] 25)) (w.heap.size + 1) 25 #[.int .i64 0, .int .i64 0, .slice none 0 0, .int .i64 0]) := mkHid (Blk.at _ _ _ (by simp))
  have KB : Hid (Below w.heap.size w ((w.alloc (.cells #[.int .i64 h, .int .i64 room, .slice A s.length c, .int .i64 n] 25)).alloc (.cells #[.int .i64 0, .int .i64 0, .slice none 0 0, .int .i64 0] 25))) := mkHid (((Below.refl _ _).alloc (Nat.le_refl _) _).alloc (by simp) _)
  have HA := mkHid (hA.below (((Below.refl _ _).alloc (Nat.le_refl _) (.cells #[.int .i64 h, .int .i64 room, .slice A s.length c, .int .i64 n] 25)).alloc (by simp) (.cells #[.int .i64 0, .int .i64 0, .slice none 0 0, .int .i64 0] 25)))
  clear hA
  have cZX := ZX.out.four
  have cZZ := ZZ.out.four
  have fZZ0 := ZZ.out.frozen 0
  have fZZ1 := ZZ.out.frozen 1
  have fZZ2 := ZZ.out.frozen 2
  have fZZ3 := ZZ.out.frozen 3
  have t1 : ((s.length : Int) == room) = true := beq_iff_eq.2 hl
  clear hl
  go_enter Try.func20, Try.ntmps20
  go_wp2_with fail
  refine (sris e _ _ _ HA.out).mono ?_
  rintro e w1 ⟨rfl, hb1⟩
  replace ZX := mkHid (ZX.out.keep hb1)
  replace ZZ := mkHid (ZZ.out.keep hb1)
  replace KB := mkHid (KB.out.step hb1)
  replace HA := mkHid (HA.out.below hb1)
  clear cZX
  have cZX := ZX.out.four
  clear cZZ fZZ0 fZZ1 fZZ2 fZZ3
  have cZZ := ZZ.out.four
  have fZZ0 := ZZ.out.frozen 0
  have fZZ1 := ZZ.out.frozen 1
  have fZZ2 := ZZ.out.frozen 2
  have fZZ3 := ZZ.out.frozen 3
  clear hb1
  go_wp2_with fail
  have qR := (ZZ.out.fill4 (x := .int .i64 0) (y := .int .i64 0) (u := .slice none 0 0) (v := .int .i64 0)).four
  refine bodyPost_ret (v := .tuple #[.agg #[.int .i64 0, .int .i64 0, .slice none 0 0, .int .i64 0], .int .i64 6]) (by simp [results, Try.results20, go_sem, qR]) rfl ⟨_, rfl, RowOf.nil _ _, below_four KB.out (by omega) _ _ _ _⟩

set_option maxRecDepth 100000 in
set_option maxHeartbeats 4000000 in
theorem srev_over {h room n : Int} {s : List Nat} {t : Nat} (e : Hid (rollIs h room s n t = (false, 0))) (hl : (s.length : Int) ≠ room) (hn : n = 1099511627776)  (A : Option Addr) (c : Nat) (w : World) (hA : Reads w A s) :
    Calls Try.prog 20 #[.agg #[.int .i64 h, .int .i64 room, .slice A s.length c, .int .i64 n], .int .u64 (t : Int)] w (RPost ⟨0, 0, [], 0⟩ 9 w) := by
  skip
  have ZX : Hid (Blk ((w.alloc (.cells #[.int .i64 h, .int .i64 room, .slice A s.length c, .int .i64 n] 25)).alloc (.cells #[.int .i64 0, .int .i64 0, .slice none 0 0, .int .i64 0] 25)) w.heap.size 25 #[.int .i64 h, .int .i64 room, .slice A s.length c, .int .i64 n]) := mkHid ((Blk.new _ _ _).alloc _)
  have ZZ : Hid (Blk ((w.alloc (.cells #[.int .i64 h, .int .i64 room, .slice A s.length c, .int .i64 n] 25)).alloc (.cells #[.int .i64 0, .int .i64 0, .slice none 0 0, .int .i64 0] 25)) (w.heap.size + 1) 25 #[.int .i64 0, .int .i64 0, .slice none 0 0, .int .i64 0]) := mkHid (Blk.at _ _ _ (by simp))
  have KB : Hid (Below w.heap.size w ((w.alloc (.cells #[.int .i64 h, .int .i64 room, .slice A s.length c, .int .i64 n] 25)).alloc (.cells #[.int .i64 0, .int .i64 0, .slice none 0 0, .int .i64 0] 25))) := mkHid (((Below.refl _ _).alloc (Nat.le_refl _) _).alloc (by simp) _)
  have HA := mkHid (hA.below (((Below.refl _ _).alloc (Nat.le_refl _) (.cells #[.int .i64 h, .int .i64 room, .slice A s.length c, .int .i64 n] 25)).alloc (by simp) (.cells #[.int .i64 0, .int .i64 0, .slice none 0 0, .int .i64 0] 25)))
  clear hA
  have cZX := ZX.out.four
  have cZZ := ZZ.out.four
  have fZZ0 := ZZ.out.frozen 0
  have fZZ1 := ZZ.out.frozen 1
  have fZZ2 := ZZ.out.frozen 2
  have fZZ3 := ZZ.out.frozen 3
  have t1 : ((s.length : Int) == room) = false := beq_eq_false_iff_ne.2 hl
  clear hl
  have t2 : (n == (1099511627776 : Int)) = true := beq_iff_eq.2 hn
  clear hn
  go_enter Try.func20, Try.ntmps20
  go_wp2_with fail
  refine (sris e _ _ _ HA.out).mono ?_
  rintro e w1 ⟨rfl, hb1⟩
  replace ZX := mkHid (ZX.out.keep hb1)
  replace ZZ := mkHid (ZZ.out.keep hb1)
  replace KB := mkHid (KB.out.step hb1)
  replace HA := mkHid (HA.out.below hb1)
  clear cZX
  have cZX := ZX.out.four
  clear cZZ fZZ0 fZZ1 fZZ2 fZZ3
  have cZZ := ZZ.out.four
  have fZZ0 := ZZ.out.frozen 0
  have fZZ1 := ZZ.out.frozen 1
  have fZZ2 := ZZ.out.frozen 2
  have fZZ3 := ZZ.out.frozen 3
  clear hb1
  go_wp2_with fail
  have qR := (ZZ.out.fill4 (x := .int .i64 0) (y := .int .i64 0) (u := .slice none 0 0) (v := .int .i64 0)).four
  refine bodyPost_ret (v := .tuple #[.agg #[.int .i64 0, .int .i64 0, .slice none 0 0, .int .i64 0], .int .i64 9]) (by simp [results, Try.results20, go_sem, qR]) rfl ⟨_, rfl, RowOf.nil _ _, below_four KB.out (by omega) _ _ _ _⟩

set_option maxRecDepth 100000 in
set_option maxHeartbeats 4000000 in
theorem srev_ok {h room n : Int} {s : List Nat} {t : Nat} (e : Hid (rollIs h room s n t = (false, 0))) (hl : (s.length : Int) ≠ room) (hn : n ≠ 1099511627776) (n0 : 0 ≤ n) (n1 : n ≤ 1099511627776) {L : List Nat} {q : Int} (f : Hid (withAll h s t = (L, q)))  (A : Option Addr) (c : Nat) (w : World) (hA : Reads w A s) :
    Calls Try.prog 20 #[.agg #[.int .i64 h, .int .i64 room, .slice A s.length c, .int .i64 n], .int .u64 (t : Int)] w (RPost ⟨h, room, L, n + 1⟩ 0 w) := by
  skip
  have ZX : Hid (Blk ((w.alloc (.cells #[.int .i64 h, .int .i64 room, .slice A s.length c, .int .i64 n] 25)).alloc (.cells #[.int .i64 0, .int .i64 0, .slice none 0 0, .int .i64 0] 25)) w.heap.size 25 #[.int .i64 h, .int .i64 room, .slice A s.length c, .int .i64 n]) := mkHid ((Blk.new _ _ _).alloc _)
  have ZZ : Hid (Blk ((w.alloc (.cells #[.int .i64 h, .int .i64 room, .slice A s.length c, .int .i64 n] 25)).alloc (.cells #[.int .i64 0, .int .i64 0, .slice none 0 0, .int .i64 0] 25)) (w.heap.size + 1) 25 #[.int .i64 0, .int .i64 0, .slice none 0 0, .int .i64 0]) := mkHid (Blk.at _ _ _ (by simp))
  have KB : Hid (Below w.heap.size w ((w.alloc (.cells #[.int .i64 h, .int .i64 room, .slice A s.length c, .int .i64 n] 25)).alloc (.cells #[.int .i64 0, .int .i64 0, .slice none 0 0, .int .i64 0] 25))) := mkHid (((Below.refl _ _).alloc (Nat.le_refl _) _).alloc (by simp) _)
  have HA := mkHid (hA.below (((Below.refl _ _).alloc (Nat.le_refl _) (.cells #[.int .i64 h, .int .i64 room, .slice A s.length c, .int .i64 n] 25)).alloc (by simp) (.cells #[.int .i64 0, .int .i64 0, .slice none 0 0, .int .i64 0] 25)))
  clear hA
  have cZX := ZX.out.four
  have cZZ := ZZ.out.four
  have fZZ0 := ZZ.out.frozen 0
  have fZZ1 := ZZ.out.frozen 1
  have fZZ2 := ZZ.out.frozen 2
  have fZZ3 := ZZ.out.frozen 3
  have t1 : ((s.length : Int) == room) = false := beq_eq_false_iff_ne.2 hl
  clear hl
  have t2 : (n == (1099511627776 : Int)) = false := beq_eq_false_iff_ne.2 hn
  clear hn
  go_enter Try.func20, Try.ntmps20
  go_wp2_with fail
  refine (sris e _ _ _ HA.out).mono ?_
  rintro e w1 ⟨rfl, hb1⟩
  replace ZX := mkHid (ZX.out.keep hb1)
  replace ZZ := mkHid (ZZ.out.keep hb1)
  replace KB := mkHid (KB.out.step hb1)
  replace HA := mkHid (HA.out.below hb1)
  clear cZX
  have cZX := ZX.out.four
  clear cZZ fZZ0 fZZ1 fZZ2 fZZ3
  have cZZ := ZZ.out.four
  have fZZ0 := ZZ.out.frozen 0
  have fZZ1 := ZZ.out.frozen 1
  have fZZ2 := ZZ.out.frozen 2
  have fZZ3 := ZZ.out.frozen 3
  clear hb1
  go_wp2_with fail
  refine (swith_all h s t f _ _ _ HA.out).mono ?_
  rintro e w2 ⟨v, rfl, ho, hb2⟩
  have SZ : w.heap.size + 1 < w1.heap.size := ZZ.out.lt
  have RV := mkHid ho
  clear ho
  obtain ⟨va, vc, rfl⟩ := RV.out.len
  replace ZX := mkHid (ZX.out.keep hb2)
  replace ZZ := mkHid (ZZ.out.keep hb2)
  replace KB := mkHid (KB.out.step hb2)
  replace HA := mkHid (HA.out.below hb2)
  clear cZX
  have cZX := ZX.out.four
  clear cZZ fZZ0 fZZ1 fZZ2 fZZ3
  have cZZ := ZZ.out.four
  have fZZ0 := ZZ.out.frozen 0
  have fZZ1 := ZZ.out.frozen 1
  have fZZ2 := ZZ.out.frozen 2
  have fZZ3 := ZZ.out.frozen 3
  clear hb2
  go_wp2_with fail
  have qR := (ZZ.out.fill4 (x := .int .i64 h) (y := .int .i64 room) (u := .slice va L.length vc) (v := .int .i64 (n + 1))).four
  refine bodyPost_ret (v := .tuple #[.agg #[.int .i64 h, .int .i64 room, .slice va L.length vc, .int .i64 (n + 1)], .int .i64 0]) (by simp [results, Try.results20, go_sem, qR]) rfl ⟨_, rfl, RowOf.rebase (RowOf.past4 RV.out SZ _ _ _ _) (by omega), below_four KB.out (by omega) _ _ _ _⟩

set_option maxRecDepth 100000 in
set_option maxHeartbeats 4000000 in
theorem srein_no {h room n : Int} {s : List Nat} {t : Nat} {z : Bool} {r : Int} (e : Hid (rollIs h room s n t = (z, r))) (hr : r ≠ 0)  (A : Option Addr) (c : Nat) (w : World) (hA : Reads w A s) :
    Calls Try.prog 21 #[.agg #[.int .i64 h, .int .i64 room, .slice A s.length c, .int .i64 n], .int .u64 (t : Int)] w (RPost ⟨0, 0, [], 0⟩ r w) := by
  skip
  have ZX : Hid (Blk ((w.alloc (.cells #[.int .i64 h, .int .i64 room, .slice A s.length c, .int .i64 n] 25)).alloc (.cells #[.int .i64 0, .int .i64 0, .slice none 0 0, .int .i64 0] 25)) w.heap.size 25 #[.int .i64 h, .int .i64 room, .slice A s.length c, .int .i64 n]) := mkHid ((Blk.new _ _ _).alloc _)
  have ZZ : Hid (Blk ((w.alloc (.cells #[.int .i64 h, .int .i64 room, .slice A s.length c, .int .i64 n] 25)).alloc (.cells #[.int .i64 0, .int .i64 0, .slice none 0 0, .int .i64 0] 25)) (w.heap.size + 1) 25 #[.int .i64 0, .int .i64 0, .slice none 0 0, .int .i64 0]) := mkHid (Blk.at _ _ _ (by simp))
  have KB : Hid (Below w.heap.size w ((w.alloc (.cells #[.int .i64 h, .int .i64 room, .slice A s.length c, .int .i64 n] 25)).alloc (.cells #[.int .i64 0, .int .i64 0, .slice none 0 0, .int .i64 0] 25))) := mkHid (((Below.refl _ _).alloc (Nat.le_refl _) _).alloc (by simp) _)
  have HA := mkHid (hA.below (((Below.refl _ _).alloc (Nat.le_refl _) (.cells #[.int .i64 h, .int .i64 room, .slice A s.length c, .int .i64 n] 25)).alloc (by simp) (.cells #[.int .i64 0, .int .i64 0, .slice none 0 0, .int .i64 0] 25)))
  clear hA
  have cZX := ZX.out.four
  have cZZ := ZZ.out.four
  have fZZ0 := ZZ.out.frozen 0
  have fZZ1 := ZZ.out.frozen 1
  have fZZ2 := ZZ.out.frozen 2
  have fZZ3 := ZZ.out.frozen 3
  have t0 : (r != (0 : Int)) = true := bne_iff_ne.2 hr
  go_enter Try.func21, Try.ntmps21
  go_wp2_with fail
  refine (sris e _ _ _ HA.out).mono ?_
  rintro e w1 ⟨rfl, hb1⟩
  replace ZX := mkHid (ZX.out.keep hb1)
  replace ZZ := mkHid (ZZ.out.keep hb1)
  replace KB := mkHid (KB.out.step hb1)
  replace HA := mkHid (HA.out.below hb1)
  clear cZX
  have cZX := ZX.out.four
  clear cZZ fZZ0 fZZ1 fZZ2 fZZ3
  have cZZ := ZZ.out.four
  have fZZ0 := ZZ.out.frozen 0
  have fZZ1 := ZZ.out.frozen 1
  have fZZ2 := ZZ.out.frozen 2
  have fZZ3 := ZZ.out.frozen 3
  clear hb1
  go_wp2_with fail
  have qR := (ZZ.out.fill4 (x := .int .i64 0) (y := .int .i64 0) (u := .slice none 0 0) (v := .int .i64 0)).four
  refine bodyPost_ret (v := .tuple #[.agg #[.int .i64 0, .int .i64 0, .slice none 0 0, .int .i64 0], .int .i64 r]) (by simp [results, Try.results21, go_sem, qR]) rfl ⟨_, rfl, RowOf.nil _ _, below_four KB.out (by omega) _ _ _ _⟩

set_option maxRecDepth 100000 in
set_option maxHeartbeats 4000000 in
theorem srein_is {h room n : Int} {s : List Nat} {t : Nat} (e : Hid (rollIs h room s n t = (false, 0)))  (A : Option Addr) (c : Nat) (w : World) (hA : Reads w A s) :
    Calls Try.prog 21 #[.agg #[.int .i64 h, .int .i64 room, .slice A s.length c, .int .i64 n], .int .u64 (t : Int)] w (RPost ⟨0, 0, [], 0⟩ 4 w) := by
  skip
  have ZX : Hid (Blk ((w.alloc (.cells #[.int .i64 h, .int .i64 room, .slice A s.length c, .int .i64 n] 25)).alloc (.cells #[.int .i64 0, .int .i64 0, .slice none 0 0, .int .i64 0] 25)) w.heap.size 25 #[.int .i64 h, .int .i64 room, .slice A s.length c, .int .i64 n]) := mkHid ((Blk.new _ _ _).alloc _)
  have ZZ : Hid (Blk ((w.alloc (.cells #[.int .i64 h, .int .i64 room, .slice A s.length c, .int .i64 n] 25)).alloc (.cells #[.int .i64 0, .int .i64 0, .slice none 0 0, .int .i64 0] 25)) (w.heap.size + 1) 25 #[.int .i64 0, .int .i64 0, .slice none 0 0, .int .i64 0]) := mkHid (Blk.at _ _ _ (by simp))
  have KB : Hid (Below w.heap.size w ((w.alloc (.cells #[.int .i64 h, .int .i64 room, .slice A s.length c, .int .i64 n] 25)).alloc (.cells #[.int .i64 0, .int .i64 0, .slice none 0 0, .int .i64 0] 25))) := mkHid (((Below.refl _ _).alloc (Nat.le_refl _) _).alloc (by simp) _)
  have HA := mkHid (hA.below (((Below.refl _ _).alloc (Nat.le_refl _) (.cells #[.int .i64 h, .int .i64 room, .slice A s.length c, .int .i64 n] 25)).alloc (by simp) (.cells #[.int .i64 0, .int .i64 0, .slice none 0 0, .int .i64 0] 25)))
  clear hA
  have cZX := ZX.out.four
  have cZZ := ZZ.out.four
  have fZZ0 := ZZ.out.frozen 0
  have fZZ1 := ZZ.out.frozen 1
  have fZZ2 := ZZ.out.frozen 2
  have fZZ3 := ZZ.out.frozen 3
  go_enter Try.func21, Try.ntmps21
  go_wp2_with fail
  refine (sris e _ _ _ HA.out).mono ?_
  rintro e w1 ⟨rfl, hb1⟩
  replace ZX := mkHid (ZX.out.keep hb1)
  replace ZZ := mkHid (ZZ.out.keep hb1)
  replace KB := mkHid (KB.out.step hb1)
  replace HA := mkHid (HA.out.below hb1)
  clear cZX
  have cZX := ZX.out.four
  clear cZZ fZZ0 fZZ1 fZZ2 fZZ3
  have cZZ := ZZ.out.four
  have fZZ0 := ZZ.out.frozen 0
  have fZZ1 := ZZ.out.frozen 1
  have fZZ2 := ZZ.out.frozen 2
  have fZZ3 := ZZ.out.frozen 3
  clear hb1
  go_wp2_with fail
  have qR := (ZZ.out.fill4 (x := .int .i64 0) (y := .int .i64 0) (u := .slice none 0 0) (v := .int .i64 0)).four
  refine bodyPost_ret (v := .tuple #[.agg #[.int .i64 0, .int .i64 0, .slice none 0 0, .int .i64 0], .int .i64 4]) (by simp [results, Try.results21, go_sem, qR]) rfl ⟨_, rfl, RowOf.nil _ _, below_four KB.out (by omega) _ _ _ _⟩

set_option maxRecDepth 100000 in
set_option maxHeartbeats 4000000 in
theorem srein_over {h room n : Int} {s : List Nat} {t : Nat} (e : Hid (rollIs h room s n t = (true, 0))) (hn : n = 1099511627776)  (A : Option Addr) (c : Nat) (w : World) (hA : Reads w A s) :
    Calls Try.prog 21 #[.agg #[.int .i64 h, .int .i64 room, .slice A s.length c, .int .i64 n], .int .u64 (t : Int)] w (RPost ⟨0, 0, [], 0⟩ 9 w) := by
  skip
  have ZX : Hid (Blk ((w.alloc (.cells #[.int .i64 h, .int .i64 room, .slice A s.length c, .int .i64 n] 25)).alloc (.cells #[.int .i64 0, .int .i64 0, .slice none 0 0, .int .i64 0] 25)) w.heap.size 25 #[.int .i64 h, .int .i64 room, .slice A s.length c, .int .i64 n]) := mkHid ((Blk.new _ _ _).alloc _)
  have ZZ : Hid (Blk ((w.alloc (.cells #[.int .i64 h, .int .i64 room, .slice A s.length c, .int .i64 n] 25)).alloc (.cells #[.int .i64 0, .int .i64 0, .slice none 0 0, .int .i64 0] 25)) (w.heap.size + 1) 25 #[.int .i64 0, .int .i64 0, .slice none 0 0, .int .i64 0]) := mkHid (Blk.at _ _ _ (by simp))
  have KB : Hid (Below w.heap.size w ((w.alloc (.cells #[.int .i64 h, .int .i64 room, .slice A s.length c, .int .i64 n] 25)).alloc (.cells #[.int .i64 0, .int .i64 0, .slice none 0 0, .int .i64 0] 25))) := mkHid (((Below.refl _ _).alloc (Nat.le_refl _) _).alloc (by simp) _)
  have HA := mkHid (hA.below (((Below.refl _ _).alloc (Nat.le_refl _) (.cells #[.int .i64 h, .int .i64 room, .slice A s.length c, .int .i64 n] 25)).alloc (by simp) (.cells #[.int .i64 0, .int .i64 0, .slice none 0 0, .int .i64 0] 25)))
  clear hA
  have cZX := ZX.out.four
  have cZZ := ZZ.out.four
  have fZZ0 := ZZ.out.frozen 0
  have fZZ1 := ZZ.out.frozen 1
  have fZZ2 := ZZ.out.frozen 2
  have fZZ3 := ZZ.out.frozen 3
  have t2 : (n == (1099511627776 : Int)) = true := beq_iff_eq.2 hn
  clear hn
  go_enter Try.func21, Try.ntmps21
  go_wp2_with fail
  refine (sris e _ _ _ HA.out).mono ?_
  rintro e w1 ⟨rfl, hb1⟩
  replace ZX := mkHid (ZX.out.keep hb1)
  replace ZZ := mkHid (ZZ.out.keep hb1)
  replace KB := mkHid (KB.out.step hb1)
  replace HA := mkHid (HA.out.below hb1)
  clear cZX
  have cZX := ZX.out.four
  clear cZZ fZZ0 fZZ1 fZZ2 fZZ3
  have cZZ := ZZ.out.four
  have fZZ0 := ZZ.out.frozen 0
  have fZZ1 := ZZ.out.frozen 1
  have fZZ2 := ZZ.out.frozen 2
  have fZZ3 := ZZ.out.frozen 3
  clear hb1
  go_wp2_with fail
  have qR := (ZZ.out.fill4 (x := .int .i64 0) (y := .int .i64 0) (u := .slice none 0 0) (v := .int .i64 0)).four
  refine bodyPost_ret (v := .tuple #[.agg #[.int .i64 0, .int .i64 0, .slice none 0 0, .int .i64 0], .int .i64 9]) (by simp [results, Try.results21, go_sem, qR]) rfl ⟨_, rfl, RowOf.nil _ _, below_four KB.out (by omega) _ _ _ _⟩

set_option maxRecDepth 100000 in
set_option maxHeartbeats 4000000 in
theorem srein_ok {h room n : Int} {s : List Nat} {t : Nat} (e : Hid (rollIs h room s n t = (true, 0))) (hn : n ≠ 1099511627776) (n0 : 0 ≤ n) (n1 : n ≤ 1099511627776) {L : List Nat} {q : Int} (f : Hid (withoutAll h s t = (L, q)))  (A : Option Addr) (c : Nat) (w : World) (hA : Reads w A s) :
    Calls Try.prog 21 #[.agg #[.int .i64 h, .int .i64 room, .slice A s.length c, .int .i64 n], .int .u64 (t : Int)] w (RPost ⟨h, room, L, n + 1⟩ 0 w) := by
  skip
  have ZX : Hid (Blk ((w.alloc (.cells #[.int .i64 h, .int .i64 room, .slice A s.length c, .int .i64 n] 25)).alloc (.cells #[.int .i64 0, .int .i64 0, .slice none 0 0, .int .i64 0] 25)) w.heap.size 25 #[.int .i64 h, .int .i64 room, .slice A s.length c, .int .i64 n]) := mkHid ((Blk.new _ _ _).alloc _)
  have ZZ : Hid (Blk ((w.alloc (.cells #[.int .i64 h, .int .i64 room, .slice A s.length c, .int .i64 n] 25)).alloc (.cells #[.int .i64 0, .int .i64 0, .slice none 0 0, .int .i64 0] 25)) (w.heap.size + 1) 25 #[.int .i64 0, .int .i64 0, .slice none 0 0, .int .i64 0]) := mkHid (Blk.at _ _ _ (by simp))
  have KB : Hid (Below w.heap.size w ((w.alloc (.cells #[.int .i64 h, .int .i64 room, .slice A s.length c, .int .i64 n] 25)).alloc (.cells #[.int .i64 0, .int .i64 0, .slice none 0 0, .int .i64 0] 25))) := mkHid (((Below.refl _ _).alloc (Nat.le_refl _) _).alloc (by simp) _)
  have HA := mkHid (hA.below (((Below.refl _ _).alloc (Nat.le_refl _) (.cells #[.int .i64 h, .int .i64 room, .slice A s.length c, .int .i64 n] 25)).alloc (by simp) (.cells #[.int .i64 0, .int .i64 0, .slice none 0 0, .int .i64 0] 25)))
  clear hA
  have cZX := ZX.out.four
  have cZZ := ZZ.out.four
  have fZZ0 := ZZ.out.frozen 0
  have fZZ1 := ZZ.out.frozen 1
  have fZZ2 := ZZ.out.frozen 2
  have fZZ3 := ZZ.out.frozen 3
  have t2 : (n == (1099511627776 : Int)) = false := beq_eq_false_iff_ne.2 hn
  clear hn
  go_enter Try.func21, Try.ntmps21
  go_wp2_with fail
  refine (sris e _ _ _ HA.out).mono ?_
  rintro e w1 ⟨rfl, hb1⟩
  replace ZX := mkHid (ZX.out.keep hb1)
  replace ZZ := mkHid (ZZ.out.keep hb1)
  replace KB := mkHid (KB.out.step hb1)
  replace HA := mkHid (HA.out.below hb1)
  clear cZX
  have cZX := ZX.out.four
  clear cZZ fZZ0 fZZ1 fZZ2 fZZ3
  have cZZ := ZZ.out.four
  have fZZ0 := ZZ.out.frozen 0
  have fZZ1 := ZZ.out.frozen 1
  have fZZ2 := ZZ.out.frozen 2
  have fZZ3 := ZZ.out.frozen 3
  clear hb1
  go_wp2_with fail
  refine (swithout_all h s t f _ _ _ HA.out).mono ?_
  rintro e w2 ⟨v, rfl, ho, hb2⟩
  have SZ : w.heap.size + 1 < w1.heap.size := ZZ.out.lt
  have RV := mkHid ho
  clear ho
  obtain ⟨va, vc, rfl⟩ := RV.out.len
  replace ZX := mkHid (ZX.out.keep hb2)
  replace ZZ := mkHid (ZZ.out.keep hb2)
  replace KB := mkHid (KB.out.step hb2)
  replace HA := mkHid (HA.out.below hb2)
  clear cZX
  have cZX := ZX.out.four
  clear cZZ fZZ0 fZZ1 fZZ2 fZZ3
  have cZZ := ZZ.out.four
  have fZZ0 := ZZ.out.frozen 0
  have fZZ1 := ZZ.out.frozen 1
  have fZZ2 := ZZ.out.frozen 2
  have fZZ3 := ZZ.out.frozen 3
  clear hb2
  go_wp2_with fail
  have qR := (ZZ.out.fill4 (x := .int .i64 h) (y := .int .i64 room) (u := .slice va L.length vc) (v := .int .i64 (n + 1))).four
  refine bodyPost_ret (v := .tuple #[.agg #[.int .i64 h, .int .i64 room, .slice va L.length vc, .int .i64 (n + 1)], .int .i64 0]) (by simp [results, Try.results21, go_sem, qR]) rfl ⟨_, rfl, RowOf.rebase (RowOf.past4 RV.out SZ _ _ _ _) (by omega), below_four KB.out (by omega) _ _ _ _⟩

/-- what Revoke and Reinstate answer -/
def rollAdd (h room : Int) (s : List Nat) (n : Int) (t : Nat) : RollA × Int :=
  if rollCheck h room s n = 0 ∧ (hasAll h s t).2 = 0 then
    if t ∈ s then (⟨0, 0, [], 0⟩, 5) else if (s.length : Int) = room then (⟨0, 0, [], 0⟩, 6) else if n = 1099511627776 then (⟨0, 0, [], 0⟩, 9) else (⟨h, room, addL s t, n + 1⟩, 0)
  else (⟨0, 0, [], 0⟩, 1)
def rollDel (h room : Int) (s : List Nat) (n : Int) (t : Nat) : RollA × Int :=
  if rollCheck h room s n = 0 ∧ (hasAll h s t).2 = 0 then
    if t ∉ s then (⟨0, 0, [], 0⟩, 4) else if n = 1099511627776 then (⟨0, 0, [], 0⟩, 9) else (⟨h, room, remL s t, n + 1⟩, 0)
  else (⟨0, 0, [], 0⟩, 1)
theorem hasAll_or (h : Int) (s : List Nat) (t : Nat) : hasAll h s t = (false, 1) ∨ ∃ k : Nat, h = (k : Int) ∧ 1 ≤ k ∧ k ≤ 32 ∧ SetOk k s ∧ t < 2 ^ k ∧ hasAll h s t = (decide (t ∈ s), 0) := by
  by_cases c : (1 ≤ h ∧ h ≤ 32) ∧ SetOk h.toNat s ∧ t < 2 ^ h.toNat
  · refine .inr ⟨h.toNat, by omega, by omega, by omega, c.2.1, c.2.2, ?_⟩
    unfold hasAll; rw [if_pos c]
  · refine .inl ?_
    unfold hasAll; rw [if_neg c]
theorem hasAll_no {h : Int} {s : List Nat} {t : Nat} (e : hasAll h s t = (false, 1)) : withAll h s t = ([], 1) ∧ withoutAll h s t = ([], 1) := by
  unfold hasAll at e
  unfold withAll withoutAll
  split at e
  · exact absurd (show (0 : Int) = 1 from congrArg Prod.snd e) (by decide)
  · rename_i c; rw [if_neg c, if_neg c]; exact ⟨rfl, rfl⟩
theorem withAll_there {n : Nat} {s : List Nat} {t : Nat} (h1 : 1 ≤ n) (h2 : n ≤ 32) (hs : SetOk n s) (ht : t < 2 ^ n) (hx : t ∈ s) : withAll (n : Int) s t = ([], 5) := by
  unfold withAll withAns
  rw [if_pos ⟨⟨by omega, by omega⟩, by rw [Int.toNat_natCast]; exact hs, by rw [Int.toNat_natCast]; exact ht⟩, if_pos hx]
theorem withAll_full {n : Nat} {s : List Nat} {t : Nat} (h1 : 1 ≤ n) (h2 : n ≤ 32) (hs : SetOk n s) (ht : t < 2 ^ n) (hx : t ∉ s) (hl : s.length = 1024) : withAll (n : Int) s t = ([], 6) := by
  unfold withAll withAns
  rw [if_pos ⟨⟨by omega, by omega⟩, by rw [Int.toNat_natCast]; exact hs, by rw [Int.toNat_natCast]; exact ht⟩, if_neg hx, if_pos hl]
theorem withoutAll_none {n : Nat} {s : List Nat} {t : Nat} (h1 : 1 ≤ n) (h2 : n ≤ 32) (hs : SetOk n s) (ht : t < 2 ^ n) (hx : t ∉ s) : withoutAll (n : Int) s t = ([], 4) := by
  unfold withoutAll withoutAns
  rw [if_pos ⟨⟨by omega, by omega⟩, by rw [Int.toNat_natCast]; exact hs, by rw [Int.toNat_natCast]; exact ht⟩, if_neg hx]
theorem chw_any {h room n : Int} {s : List Nat} {t : Nat} {R : RollA} {r : Int} (e : Hid (rollAdd h room s n t = (R, r))) (A : Option Addr) (c : Nat) (w : World) (hA : Reads w A s) :
    Calls Try.prog 40 #[.agg #[.int .i64 h, .int .i64 room, .slice A s.length c, .int .i64 n], .int .u64 (t : Int), .func (.func 41) #[] #[]] w (RPost R r w) := by
  have e' := e.out
  unfold rollAdd at e'
  rcases rollCheck_or h room s n with hc | hc
  · obtain ⟨k0, hk0, q1, q2, q3, q4, q5, q6, q7⟩ := rollCheck_ok hc
    rcases hasAll_or h s t with ha | ⟨k, hk, h1, h2, hs, ht, ha⟩
    · rw [if_neg (by rw [ha]; simp)] at e'
      cases e'
      have g : listWith h room s t = ([], 1) := by unfold listWith; rw [(hasAll_no ha).1, if_neg (by simp)]
      exact chw_err (mkHid hc) (mkHid g) (by decide) A c w hA
    · rw [if_pos ⟨hc, by rw [ha]⟩] at e'
      by_cases hx : t ∈ s
      · rw [if_pos hx] at e'
        cases e'
        have g : listWith h room s t = ([], 5) := by unfold listWith; rw [hk, withAll_there h1 h2 hs ht hx, if_neg (by simp)]
        exact chw_err (mkHid hc) (mkHid g) (by decide) A c w hA
      · rw [if_neg hx] at e'
        by_cases hl : (s.length : Int) = room
        · rw [if_pos hl] at e'
          cases e'
          by_cases h4 : s.length = 1024
          · have g : listWith h room s t = ([], 6) := by unfold listWith; rw [hk, withAll_full h1 h2 hs ht hx h4, if_neg (by simp)]
            exact chw_err (mkHid hc) (mkHid g) (by decide) A c w hA
          · have g : listWith h room s t = (addL s t, 6) := by unfold listWith; rw [hk, withAll_mk h1 h2 hs ht hx h4, if_pos ⟨rfl, by rw [addL_length hs hx]; omega⟩]
            exact chw_err (mkHid hc) (mkHid g) (by decide) A c w hA
        · rw [if_neg hl] at e'
          have g : listWith h room s t = (addL s t, 0) := by unfold listWith; rw [hk, withAll_mk h1 h2 hs ht hx (by omega), if_neg (by rw [addL_length hs hx]; omega)]
          by_cases hn : n = 1099511627776
          · rw [if_pos hn] at e'; cases e'; exact chw_over (mkHid hc) (mkHid g) hn A c w hA
          · rw [if_neg hn] at e'; cases e'; exact chw_ok (mkHid hc) (mkHid g) hn A c w hA
  · rw [if_neg (by rw [hc]; simp)] at e'
    cases e'
    exact chw_bad (mkHid hc) A c w hA
theorem cho_any {h room n : Int} {s : List Nat} {t : Nat} {R : RollA} {r : Int} (e : Hid (rollDel h room s n t = (R, r))) (A : Option Addr) (c : Nat) (w : World) (hA : Reads w A s) :
    Calls Try.prog 40 #[.agg #[.int .i64 h, .int .i64 room, .slice A s.length c, .int .i64 n], .int .u64 (t : Int), .func (.func 42) #[] #[]] w (RPost R r w) := by
  have e' := e.out
  unfold rollDel at e'
  rcases rollCheck_or h room s n with hc | hc
  · rcases hasAll_or h s t with ha | ⟨k, hk, h1, h2, hs, ht, ha⟩
    · rw [if_neg (by rw [ha]; simp)] at e'
      cases e'
      exact cho_err (mkHid hc) (mkHid (hasAll_no ha).2) (by decide) A c w hA
    · rw [if_pos ⟨hc, by rw [ha]⟩] at e'
      by_cases hx : t ∈ s
      · rw [if_neg (by simpa using hx)] at e'
        have g : withoutAll h s t = (remL s t, 0) := by rw [hk, withoutAll_mk h1 h2 hs ht hx]
        by_cases hn : n = 1099511627776
        · rw [if_pos hn] at e'; cases e'; exact cho_over (mkHid hc) (mkHid g) hn A c w hA
        · rw [if_neg hn] at e'; cases e'; exact cho_ok (mkHid hc) (mkHid g) hn A c w hA
      · rw [if_pos hx] at e'
        cases e'
        exact cho_err (mkHid hc) (mkHid (by rw [hk, withoutAll_none h1 h2 hs ht hx])) (by decide) A c w hA
  · rw [if_neg (by rw [hc]; simp)] at e'
    cases e'
    exact cho_bad (mkHid hc) A c w hA
theorem revoke_any {h room n : Int} {s : List Nat} {t : Nat} {R : RollA} {r : Int} (e : Hid (rollAdd h room s n t = (R, r))) (A : Option Addr) (c : Nat) (w : World) (hA : Reads w A s) :
    Calls Try.prog 14 #[.agg #[.int .i64 h, .int .i64 room, .slice A s.length c, .int .i64 n], .int .u64 (t : Int)] w (RPost R r w) := revoke_of (mkHid fun A c w hA => chw_any e A c w hA) A c w hA
theorem reinstate_any {h room n : Int} {s : List Nat} {t : Nat} {R : RollA} {r : Int} (e : Hid (rollDel h room s n t = (R, r))) (A : Option Addr) (c : Nat) (w : World) (hA : Reads w A s) :
    Calls Try.prog 15 #[.agg #[.int .i64 h, .int .i64 room, .slice A s.length c, .int .i64 n], .int .u64 (t : Int)] w (RPost R r w) := reinstate_of (mkHid fun A c w hA => cho_any e A c w hA) A c w hA
theorem srevoke_any {h room n : Int} {s : List Nat} {t : Nat} {R : RollA} {r : Int} (e : Hid (rollAdd h room s n t = (R, r))) (A : Option Addr) (c : Nat) (w : World) (hA : Reads w A s) :
    Calls Try.prog 20 #[.agg #[.int .i64 h, .int .i64 room, .slice A s.length c, .int .i64 n], .int .u64 (t : Int)] w (RPost R r w) := by
  have e' := e.out
  unfold rollAdd at e'
  rcases rollCheck_or h room s n with hc | hc
  · obtain ⟨k0, hk0, q1, q2, q3, q4, q5, q6, q7⟩ := rollCheck_ok hc
    rcases hasAll_or h s t with ha | ⟨k, hk, h1, h2, hs, ht, ha⟩
    · rw [if_neg (by rw [ha]; simp)] at e'
      cases e'
      exact srev_no (z := false) (mkHid (by unfold rollIs; rw [if_pos hc, ha])) (by decide) A c w hA
    · rw [if_pos ⟨hc, by rw [ha]⟩] at e'
      have hi : rollIs h room s n t = (decide (t ∈ s), 0) := by unfold rollIs; rw [if_pos hc, ha]
      by_cases hx : t ∈ s
      · rw [if_pos hx] at e'; cases e'
        rw [decide_eq_true hx] at hi
        exact srev_is (mkHid hi) A c w hA
      · rw [decide_eq_false hx] at hi
        rw [if_neg hx] at e'
        by_cases hl : (s.length : Int) = room
        · rw [if_pos hl] at e'; cases e'; exact srev_full (mkHid hi) hl A c w hA
        · rw [if_neg hl] at e'
          by_cases hn : n = 1099511627776
          · rw [if_pos hn] at e'; cases e'; exact srev_over (mkHid hi) hl hn A c w hA
          · rw [if_neg hn] at e'; cases e'
            exact srev_ok (mkHid hi) hl hn q6 q7 (mkHid (by rw [hk, withAll_mk h1 h2 hs ht hx (by omega)])) A c w hA
  · rw [if_neg (by rw [hc]; simp)] at e'
    cases e'
    exact srev_no (z := false) (mkHid (by unfold rollIs; rw [if_neg (by rw [hc]; decide)])) (by decide) A c w hA
theorem sreinstate_any {h room n : Int} {s : List Nat} {t : Nat} {R : RollA} {r : Int} (e : Hid (rollDel h room s n t = (R, r))) (A : Option Addr) (c : Nat) (w : World) (hA : Reads w A s) :
    Calls Try.prog 21 #[.agg #[.int .i64 h, .int .i64 room, .slice A s.length c, .int .i64 n], .int .u64 (t : Int)] w (RPost R r w) := by
  have e' := e.out
  unfold rollDel at e'
  rcases rollCheck_or h room s n with hc | hc
  · obtain ⟨k0, hk0, q1, q2, q3, q4, q5, q6, q7⟩ := rollCheck_ok hc
    rcases hasAll_or h s t with ha | ⟨k, hk, h1, h2, hs, ht, ha⟩
    · rw [if_neg (by rw [ha]; simp)] at e'
      cases e'
      exact srein_no (z := false) (mkHid (by unfold rollIs; rw [if_pos hc, ha])) (by decide) A c w hA
    · rw [if_pos ⟨hc, by rw [ha]⟩] at e'
      have hi : rollIs h room s n t = (decide (t ∈ s), 0) := by unfold rollIs; rw [if_pos hc, ha]
      by_cases hx : t ∈ s
      · rw [if_neg (by simpa using hx)] at e'
        rw [decide_eq_true hx] at hi
        by_cases hn : n = 1099511627776
        · rw [if_pos hn] at e'; cases e'; exact srein_over (mkHid hi) hn A c w hA
        · rw [if_neg hn] at e'; cases e'
          exact srein_ok (mkHid hi) hn q6 q7 (mkHid (by rw [hk, withoutAll_mk h1 h2 hs ht hx])) A c w hA
      · rw [if_pos hx] at e'; cases e'
        rw [decide_eq_false hx] at hi
        exact srein_is (mkHid hi) A c w hA
  · rw [if_neg (by rw [hc]; simp)] at e'
    cases e'
    exact srein_no (z := false) (mkHid (by unfold rollIs; rw [if_neg (by rw [hc]; decide)])) (by decide) A c w hA
end Go.Proofs.Ytmehbonjpmlmfaa

namespace Go.Proofs.Ytmehbonjpmlmfaa
open Go.RowKit

structure SentD where
  out : List Nat
  draw : Int
  p : BitVec 64 × BitVec 64
structure ModD where
  h : Int
  cap : Int
  l : List Nat
  n : Int
  draws : Int
  sent : List SentD
def SentAt (w : World) (b off : Nat) (i : Nat) (s : SentD) : Prop :=
  ∃ A c, w.cell? ⟨b, off + i * 4, none⟩ = some (.slice A s.out.length c) ∧ s.out.length ≤ c ∧ c ≤ maxLen ∧ Reads w A s.out ∧ (A = none → c = 0) ∧
    w.cell? ⟨b, off + i * 4 + 1, none⟩ = some (.int .i64 (s.draw : Int)) ∧ w.cell? ⟨b, off + i * 4 + 2, none⟩ = some (.int .u64 (s.p.1.toNat : Int)) ∧ w.cell? ⟨b, off + i * 4 + 3, none⟩ = some (.int .u64 (s.p.2.toNat : Int))
theorem SentAt.below {w w1 : World} {b off : Nat} {i : Nat} {s : SentD} (h : SentAt w b off i s) (hb : Below w.heap.size w w1) : SentAt w1 b off i s := by
  obtain ⟨A, c, h0, h1, h2, h3, h4, h5, h6, h7⟩ := h
  have k : ∀ {p : Addr} {v : Value}, w.cell? p = some v → w1.cell? p = some v := fun {p v} h => (hb.cell (World.block_lt_of_cell? w p h)).trans h
  exact ⟨A, c, k h0, h1, h2, h3.below hb, h4, k h5, k h6, k h7⟩
def SentIn (w : World) (A : Option Addr) (S : List SentD) : Prop := ∀ i (hi : i < S.length), ∃ b off, A = some ⟨b, off, none⟩ ∧ SentAt w b off i S[i]
theorem SentIn.below {w w1 : World} {A : Option Addr} {S : List SentD} (h : SentIn w A S) (hb : Below w.heap.size w w1) : SentIn w1 A S := fun i hi => by
  obtain ⟨b, off, e, h⟩ := h i hi
  exact ⟨b, off, e, h.below hb⟩
theorem SentIn.nil (w : World) (A : Option Addr) : SentIn w A [] := fun i hi => by simp at hi
def ModIn (w : World) (v : Value) (m : ModD) : Prop :=
  ∃ A c B d, v = .agg #[.int .i64 m.h, .int .i64 m.cap, .slice A m.l.length c, .int .i64 m.n, .int .i64 m.draws, .slice B m.sent.length d] ∧
    m.l.length ≤ c ∧ c ≤ maxLen ∧ Reads w A m.l ∧ (A = none → c = 0) ∧ m.sent.length ≤ d ∧ d ≤ maxLen ∧ SentIn w B m.sent ∧ (B = none → d = 0)
theorem ModIn.below {w w1 : World} {v : Value} {m : ModD} (h : ModIn w v m) (hb : Below w.heap.size w w1) : ModIn w1 v m := by
  obtain ⟨A, c, B, d, e, h1, h2, h3, h4, h5, h6, h7, h8⟩ := h
  exact ⟨A, c, B, d, e, h1, h2, h3.below hb, h4, h5, h6, h7.below hb, h8⟩
end Go.Proofs.Ytmehbonjpmlmfaa

namespace Go.Proofs.Ytmehbonjpmlmfaa
open Go.RowKit

set_option maxRecDepth 100000 in
set_option maxHeartbeats 1000000 in
theorem mset_long {h cap n dr : Int} {s : List Nat} (h0 : ¬ ((s.length : Int) ≤ cap)) (la sa : Option Addr) (ln lc sn sc : Nat) (A : Option Addr) (c : Nat) (w : World) (hA : Reads w A s) :
    Calls Try.prog 58 #[.agg #[.int .i64 h, .int .i64 cap, .slice la ln lc, .int .i64 n, .int .i64 dr, .slice sa sn sc], .slice A s.length c] w fun e w' => e = .returned (.bool false) ∧ Below w.heap.size w w' := by
  have _HA := mkHid (hA.below ((Below.refl _ _).alloc (Nat.le_refl _) (.cells #[.int .i64 h, .int .i64 cap, .slice la ln lc, .int .i64 n, .int .i64 dr, .slice sa sn sc] 45)))
  clear hA
  have t0 : decide ((s.length : Int) ≤ cap) = false := decide_eq_false (by omega)
  go_enter Try.func58, Try.ntmps58
  go_wp2_with fail
  go_ret
  exact ⟨rfl, (Below.refl _ _).alloc (Nat.le_refl _) _⟩
set_option maxRecDepth 100000 in
set_option maxHeartbeats 1000000 in
theorem mset_no {h cap n dr : Int} {s : List Nat} (h0 : (s.length : Int) ≤ cap) (e : Hid (checkAll h s = 1)) (la sa : Option Addr) (ln lc sn sc : Nat) (A : Option Addr) (c : Nat) (w : World) (hA : Reads w A s) :
    Calls Try.prog 58 #[.agg #[.int .i64 h, .int .i64 cap, .slice la ln lc, .int .i64 n, .int .i64 dr, .slice sa sn sc], .slice A s.length c] w fun e w' => e = .returned (.bool false) ∧ Below w.heap.size w w' := by
  have HA := mkHid (hA.below ((Below.refl _ _).alloc (Nat.le_refl _) (.cells #[.int .i64 h, .int .i64 cap, .slice la ln lc, .int .i64 n, .int .i64 dr, .slice sa sn sc] 45)))
  clear hA
  have t0 : decide ((s.length : Int) ≤ cap) = true := decide_eq_true (by omega)
  go_enter Try.func58, Try.ntmps58
  go_wp2_with (go_at_call 44; ((with_reducible refine (check_all h s e _ _ _ HA.out).mono ?_); rintro e w' ⟨rfl, hw'⟩; obtain rfl := hw'.symm))
  go_ret
  exact ⟨rfl, (Below.refl _ _).alloc (Nat.le_refl _) _⟩
set_option maxRecDepth 100000 in
set_option maxHeartbeats 1000000 in
theorem mset_yes {h cap n dr : Int} {s : List Nat} (h0 : (s.length : Int) ≤ cap) (e : Hid (checkAll h s = 0)) (la sa : Option Addr) (ln lc sn sc : Nat) (A : Option Addr) (c : Nat) (w : World) (hA : Reads w A s) :
    Calls Try.prog 58 #[.agg #[.int .i64 h, .int .i64 cap, .slice la ln lc, .int .i64 n, .int .i64 dr, .slice sa sn sc], .slice A s.length c] w fun e w' => e = .returned (.bool true) ∧ Below w.heap.size w w' := by
  have HA := mkHid (hA.below ((Below.refl _ _).alloc (Nat.le_refl _) (.cells #[.int .i64 h, .int .i64 cap, .slice la ln lc, .int .i64 n, .int .i64 dr, .slice sa sn sc] 45)))
  clear hA
  have t0 : decide ((s.length : Int) ≤ cap) = true := decide_eq_true (by omega)
  go_enter Try.func58, Try.ntmps58
  go_wp2_with (go_at_call 44; ((with_reducible refine (check_all h s e _ _ _ HA.out).mono ?_); rintro e w' ⟨rfl, hw'⟩; obtain rfl := hw'.symm))
  go_ret
  exact ⟨rfl, (Below.refl _ _).alloc (Nat.le_refl _) _⟩
def inRoom (h cap : Int) (s : List Nat) : Bool := decide ((s.length : Int) ≤ cap) && checkAll h s == 0
theorem mset {h cap n dr : Int} {s : List Nat} {z : Bool} (hz : Hid (inRoom h cap s = z)) (la sa : Option Addr) (ln lc sn sc : Nat) (A : Option Addr) (c : Nat) (w : World) (hA : Reads w A s) :
    Calls Try.prog 58 #[.agg #[.int .i64 h, .int .i64 cap, .slice la ln lc, .int .i64 n, .int .i64 dr, .slice sa sn sc], .slice A s.length c] w fun e w' => e = .returned (.bool z) ∧ Below w.heap.size w w' := by
  have e := hz.out
  unfold inRoom at e
  by_cases h0 : (s.length : Int) ≤ cap
  · rw [decide_eq_true h0, Bool.true_and] at e
    rcases checkAll_or h s with h1 | h1
    · rw [h1] at e
      subst e
      exact mset_yes h0 (mkHid h1) la sa ln lc sn sc A c w hA
    · rw [h1] at e
      subst e
      exact mset_no h0 (mkHid h1) la sa ln lc sn sc A c w hA
  · rw [decide_eq_false h0, Bool.false_and] at e
    subst e
    exact mset_long h0 la sa ln lc sn sc A c w hA
end Go.Proofs.Ytmehbonjpmlmfaa

namespace Go.Proofs.Ytmehbonjpmlmfaa
open Go.RowKit

def sentOk (h cap : Int) (S : List SentD) (k : Nat) : Bool := (List.range k).all fun i => match S[i]? with
  | some s => inRoom h cap s.out && decide (s.draw = (i : Int) + 1)
  | none => true
theorem sentOk_succ {h cap : Int} {S : List SentD} {k : Nat} (hk : k < S.length) : sentOk h cap S (k + 1) = (sentOk h cap S k && (inRoom h cap S[k].out && decide (S[k].draw = (k : Int) + 1))) := by
  unfold sentOk
  rw [List.range_succ, List.all_append]
  simp [List.getElem?_eq_getElem hk]
end Go.Proofs.Ytmehbonjpmlmfaa

namespace Go.Proofs.Ytmehbonjpmlmfaa
open Go.RowKit
set_option maxRecDepth 100000 in
set_option maxHeartbeats 1000000 in
theorem mchk_good {h cap n dr : Int} {l : List Nat} {S : List SentD} {r : Int} (hr : Hid ((if sentOk h cap S S.length = true then (0 : Int) else 1) = r)) (hz : Hid (inRoom h cap l = true)) (la sa : Option Addr) (lc sc : Nat) (w : World) (hA : Reads w la l) (hS : SentIn w sa S) (h0 : cap ≤ 1024) (h1 : 0 ≤ n) (h2 : n ≤ 1099511627776) (h3 : dr ≤ 4096) (h4 : (S.length : Int) < dr) :
    Calls Try.prog 37 #[.agg #[.int .i64 h, .int .i64 cap, .slice la l.length lc, .int .i64 n, .int .i64 dr, .slice sa S.length sc]] w fun e w' => e = .returned (.int .i64 r) ∧ Below w.heap.size w w' := by
  have t0 : decide (cap ≤ (1024 : Int)) = true := decide_eq_true h0
  have t1 : decide ((0 : Int) ≤ n) = true := decide_eq_true h1
  have t2 : decide (n ≤ (1099511627776 : Int)) = true := decide_eq_true h2
  have t3 : decide (dr ≤ (4096 : Int)) = true := decide_eq_true h3
  have t4 : decide ((S.length : Int) < dr) = true := decide_eq_true h4
  have ZM : Hid (Blk (w.alloc (.cells #[.int .i64 h, .int .i64 cap, .slice la l.length lc, .int .i64 n, .int .i64 dr, .slice sa S.length sc] 45)) w.heap.size 45 #[.int .i64 h, .int .i64 cap, .slice la l.length lc, .int .i64 n, .int .i64 dr, .slice sa S.length sc]) := mkHid (Blk.new _ _ _)
  have HS := mkHid hS
  clear hS
  go_enter Try.func37, Try.ntmps37
  go_wp2_with fail
  refine (mset hz _ _ _ _ _ _ _ _ _ (hA.below ((Below.refl _ _).alloc (Nat.le_refl _) _))).mono ?_
  rintro e w1 ⟨rfl, hb1⟩
  replace ZM := mkHid (ZM.out.keep hb1)
  have HB1 := mkHid (((Below.refl w.heap.size w).alloc (Nat.le_refl _) _).step hb1)
  clear hb1
  have c0 := ZM.out.cell 0
  have c1 := ZM.out.cell 1
  have c2 := ZM.out.cell 2
  have c3 := ZM.out.cell 3
  have c4 := ZM.out.cell 4
  have c5 := ZM.out.cell 5
  go_wp2_with fail
  clear c0 c1 c2 c3 c4 c5
  go_loopw [3, 41] (fun ok j wr => ∃ (i : Nat) (z : Bool), i ≤ S.length ∧ j = .int .i64 (i : Int) ∧ ok = .bool z ∧ Hid (sentOk h cap S i = z) ∧ Hid (Blk wr w.heap.size 45 #[.int .i64 h, .int .i64 cap, .slice la l.length lc, .int .i64 n, .int .i64 dr, .slice sa S.length sc]) ∧ Hid (Below w.heap.size w wr)) (fun _ j _ => S.length - (intOf j).toNat)
  case atStart => exact ⟨0, true, by omega, rfl, rfl, mkHid (by simp [sentOk]), ZM, HB1⟩
  case round =>
    clear ZM HB1
    obtain ⟨i, z, hi, rfl, rfl, hk, ZM, HB⟩ := hrel
    by_cases hlt : i < S.length
    · obtain ⟨b, off, rfl, A, c, e0, _, _, hR, _, e1, e2, e3⟩ := (HS.out.below HB.out) i hlt
      have HR := mkHid hR
      clear hR
      have lM := ZM.out.lt
      have cM0 : wr.cell? ⟨w.heap.size, 0, none⟩ = some (.int .i64 h) := ZM.out.cell 0
      have cM1 : wr.cell? ⟨w.heap.size, 1, none⟩ = some (.int .i64 cap) := ZM.out.cell 1
      have cM2 : wr.cell? ⟨w.heap.size, 2, none⟩ = some (.slice la l.length lc) := ZM.out.cell 2
      have cM3 : wr.cell? ⟨w.heap.size, 3, none⟩ = some (.int .i64 n) := ZM.out.cell 3
      have cM4 : wr.cell? ⟨w.heap.size, 4, none⟩ = some (.int .i64 dr) := ZM.out.cell 4
      have cM5 : wr.cell? ⟨w.heap.size, 5, none⟩ = some (.slice (some ⟨b, off, none⟩) S.length sc) := ZM.out.cell 5
      obtain ⟨q, hq⟩ : ∃ q, inRoom h cap S[i].out = q := ⟨_, rfl⟩
      have HQ := mkHid hq
      clear hq
      cases z
      · go_wp2_with fail
        go_roundw
        case rel => exact ⟨i + 1, false, by omega, by go_num, rfl, mkHid (by rw [sentOk_succ hlt, hk.out]; rfl), mkHid (ZM.out.alloc _), mkHid (HB.out.alloc HB.out.size _)⟩
        case measure => simp [intOf]; omega
      · go_wp2_with fail
        refine (mset HQ _ _ _ _ _ _ _ _ _ (HR.out.below ((Below.refl _ _).alloc (Nat.le_refl _) _))).mono ?_
        rintro e w2 ⟨rfl, hb2⟩
        have ZS := mkHid ((Blk.new wr 66 #[.slice A S[i].out.length c, .int .i64 (S[i].draw : Int), .int .u64 (S[i].p.1.toNat : Int), .int .u64 (S[i].p.2.toNat : Int)]).keep hb2)
        have ZM2 := mkHid ((ZM.out.alloc _).keep hb2)
        have HB2 := mkHid ((HB.out.alloc HB.out.size _).step hb2)
        have cS1 : w2.cell? ⟨wr.heap.size, 1, none⟩ = some (.int .i64 (S[i].draw : Int)) := ZS.out.cell 1
        clear hb2 ZS cM0 cM1 cM2 cM3 cM4 cM5 lM ZM HB e0 e1 e2 e3
        have hsk := mkHid (sentOk_succ (h := h) (cap := cap) hlt)
        cases q
        · go_wp2_with fail
          go_roundw
          case rel => exact ⟨i + 1, false, by omega, by go_num, rfl, mkHid (by rw [hsk.out, hk.out, HQ.out]; rfl), ZM2, HB2⟩
          case measure => simp [intOf]; omega
        · by_cases hd : S[i].draw = (i : Int) + 1
          · have td : ((S[i].draw : Int) == (i : Int) + 1) = true := beq_iff_eq.2 (by omega)
            have hsk2 : Hid (sentOk h cap S (i + 1) = true) := mkHid (by rw [hsk.out, hk.out, HQ.out, decide_eq_true hd]; rfl)
            clear hd
            generalize S[i].draw = dd at *
            go_wp2_with fail
            go_roundw
            case rel => exact ⟨i + 1, true, by omega, by go_num, rfl, hsk2, ZM2, HB2⟩
            case measure => simp [intOf]; omega
          · have td : ((S[i].draw : Int) == (i : Int) + 1) = false := beq_eq_false_iff_ne.2 (by omega)
            have hsk2 : Hid (sentOk h cap S (i + 1) = false) := mkHid (by rw [hsk.out, hk.out, HQ.out, decide_eq_false hd]; rfl)
            clear hd
            generalize S[i].draw = dd at *
            go_wp2_with fail
            go_roundw
            case rel => exact ⟨i + 1, false, by omega, by go_num, rfl, hsk2, ZM2, HB2⟩
            case measure => simp [intOf]; omega
    · have hi2 : i = S.length := by omega
      subst hi2
      cases z
      · have e : r = 1 := by rw [← hr.out, hk.out]; rfl
        subst e
        go_wp2_with fail
        go_ret
        exact ⟨rfl, HB.out⟩
      · have e : r = 0 := by rw [← hr.out, hk.out]; rfl
        subst e
        go_wp2_with fail
        go_ret
        exact ⟨rfl, HB.out⟩
end Go.Proofs.Ytmehbonjpmlmfaa

namespace Go.Proofs.Ytmehbonjpmlmfaa
open Go.RowKit

set_option maxRecDepth 100000 in
set_option maxHeartbeats 1000000 in
theorem mchk_bad0 {h cap n dr : Int} {l : List Nat} {S : List SentD} (la sa : Option Addr) (lc sc : Nat) (w : World) (_hA : Reads w la l) (hS : SentIn w sa S) (hn : S.length < 4611686018427387904) (h0 : ¬ (cap ≤ (1024 : Int))) :
    Calls Try.prog 37 #[.agg #[.int .i64 h, .int .i64 cap, .slice la l.length lc, .int .i64 n, .int .i64 dr, .slice sa S.length sc]] w fun e w' => e = .returned (.int .i64 1) ∧ Below w.heap.size w w' := by
  have ZM : Hid (Blk (w.alloc (.cells #[.int .i64 h, .int .i64 cap, .slice la l.length lc, .int .i64 n, .int .i64 dr, .slice sa S.length sc] 45)) w.heap.size 45 #[.int .i64 h, .int .i64 cap, .slice la l.length lc, .int .i64 n, .int .i64 dr, .slice sa S.length sc]) := mkHid (Blk.new _ _ _)
  have HB1 : Hid (Below w.heap.size w (w.alloc (.cells #[.int .i64 h, .int .i64 cap, .slice la l.length lc, .int .i64 n, .int .i64 dr, .slice sa S.length sc] 45))) := mkHid ((Below.refl w.heap.size w).alloc (Nat.le_refl _) _)
  have HS := mkHid hS
  clear hS
  have t0 : decide (cap ≤ (1024 : Int)) = false := decide_eq_false h0
  go_enter Try.func37, Try.ntmps37
  go_wp2_with fail
  go_loopw [3, 41] (fun ok j wr => ∃ (i : Nat), i ≤ S.length ∧ j = .int .i64 (i : Int) ∧ ok = .bool false ∧ Hid (Blk wr w.heap.size 45 #[.int .i64 h, .int .i64 cap, .slice la l.length lc, .int .i64 n, .int .i64 dr, .slice sa S.length sc]) ∧ Hid (Below w.heap.size w wr)) (fun _ j _ => S.length - (intOf j).toNat)
  case atStart => exact ⟨0, by omega, rfl, rfl, ZM, HB1⟩
  case round =>
    clear ZM HB1
    obtain ⟨i, hi, rfl, rfl, ZM, HB⟩ := hrel
    by_cases hlt : i < S.length
    · obtain ⟨b, off, rfl, A, c, e0, _, _, _, _, e1, e2, e3⟩ := (HS.out.below HB.out) i hlt
      have lM := ZM.out.lt
      have cM0 : wr.cell? ⟨w.heap.size, 0, none⟩ = some (.int .i64 h) := ZM.out.cell 0
      have cM1 : wr.cell? ⟨w.heap.size, 1, none⟩ = some (.int .i64 cap) := ZM.out.cell 1
      have cM2 : wr.cell? ⟨w.heap.size, 2, none⟩ = some (.slice la l.length lc) := ZM.out.cell 2
      have cM3 : wr.cell? ⟨w.heap.size, 3, none⟩ = some (.int .i64 n) := ZM.out.cell 3
      have cM4 : wr.cell? ⟨w.heap.size, 4, none⟩ = some (.int .i64 dr) := ZM.out.cell 4
      have cM5 : wr.cell? ⟨w.heap.size, 5, none⟩ = some (.slice (some ⟨b, off, none⟩) S.length sc) := ZM.out.cell 5
      go_wp2_with fail
      go_roundw
      case rel => exact ⟨i + 1, by omega, by go_num, rfl, mkHid (ZM.out.alloc _), mkHid (HB.out.alloc HB.out.size _)⟩
      case measure => simp [intOf]; omega
    · have hi2 : i = S.length := by omega
      subst hi2
      go_wp2_with fail
      go_ret
      exact ⟨rfl, HB.out⟩

set_option maxRecDepth 100000 in
set_option maxHeartbeats 1000000 in
theorem mchk_bad1 {h cap n dr : Int} {l : List Nat} {S : List SentD} (hz : Hid (inRoom h cap l = false)) (la sa : Option Addr) (lc sc : Nat) (w : World) (hA : Reads w la l) (hS : SentIn w sa S) (hn : S.length < 4611686018427387904) (h0 : (cap ≤ (1024 : Int))) :
    Calls Try.prog 37 #[.agg #[.int .i64 h, .int .i64 cap, .slice la l.length lc, .int .i64 n, .int .i64 dr, .slice sa S.length sc]] w fun e w' => e = .returned (.int .i64 1) ∧ Below w.heap.size w w' := by
  have ZM : Hid (Blk (w.alloc (.cells #[.int .i64 h, .int .i64 cap, .slice la l.length lc, .int .i64 n, .int .i64 dr, .slice sa S.length sc] 45)) w.heap.size 45 #[.int .i64 h, .int .i64 cap, .slice la l.length lc, .int .i64 n, .int .i64 dr, .slice sa S.length sc]) := mkHid (Blk.new _ _ _)
  have HB1 : Hid (Below w.heap.size w (w.alloc (.cells #[.int .i64 h, .int .i64 cap, .slice la l.length lc, .int .i64 n, .int .i64 dr, .slice sa S.length sc] 45))) := mkHid ((Below.refl w.heap.size w).alloc (Nat.le_refl _) _)
  have HS := mkHid hS
  clear hS
  have t0 : decide (cap ≤ (1024 : Int)) = true := decide_eq_true h0
  go_enter Try.func37, Try.ntmps37
  go_wp2_with fail
  refine (mset hz _ _ _ _ _ _ _ _ _ (hA.below ((Below.refl _ _).alloc (Nat.le_refl _) _))).mono ?_
  rintro e w1 ⟨rfl, hb1⟩
  replace ZM := mkHid (ZM.out.keep hb1)
  replace HB1 := mkHid (HB1.out.step hb1)
  clear hb1
  have c0 := ZM.out.cell 0
  have c1 := ZM.out.cell 1
  have c2 := ZM.out.cell 2
  have c3 := ZM.out.cell 3
  have c4 := ZM.out.cell 4
  have c5 := ZM.out.cell 5
  go_wp2_with fail
  clear c0 c1 c2 c3 c4 c5
  go_loopw [3, 41] (fun ok j wr => ∃ (i : Nat), i ≤ S.length ∧ j = .int .i64 (i : Int) ∧ ok = .bool false ∧ Hid (Blk wr w.heap.size 45 #[.int .i64 h, .int .i64 cap, .slice la l.length lc, .int .i64 n, .int .i64 dr, .slice sa S.length sc]) ∧ Hid (Below w.heap.size w wr)) (fun _ j _ => S.length - (intOf j).toNat)
  case atStart => exact ⟨0, by omega, rfl, rfl, ZM, HB1⟩
  case round =>
    clear ZM HB1
    obtain ⟨i, hi, rfl, rfl, ZM, HB⟩ := hrel
    by_cases hlt : i < S.length
    · obtain ⟨b, off, rfl, A, c, e0, _, _, _, _, e1, e2, e3⟩ := (HS.out.below HB.out) i hlt
      have lM := ZM.out.lt
      have cM0 : wr.cell? ⟨w.heap.size, 0, none⟩ = some (.int .i64 h) := ZM.out.cell 0
      have cM1 : wr.cell? ⟨w.heap.size, 1, none⟩ = some (.int .i64 cap) := ZM.out.cell 1
      have cM2 : wr.cell? ⟨w.heap.size, 2, none⟩ = some (.slice la l.length lc) := ZM.out.cell 2
      have cM3 : wr.cell? ⟨w.heap.size, 3, none⟩ = some (.int .i64 n) := ZM.out.cell 3
      have cM4 : wr.cell? ⟨w.heap.size, 4, none⟩ = some (.int .i64 dr) := ZM.out.cell 4
      have cM5 : wr.cell? ⟨w.heap.size, 5, none⟩ = some (.slice (some ⟨b, off, none⟩) S.length sc) := ZM.out.cell 5
      go_wp2_with fail
      go_roundw
      case rel => exact ⟨i + 1, by omega, by go_num, rfl, mkHid (ZM.out.alloc _), mkHid (HB.out.alloc HB.out.size _)⟩
      case measure => simp [intOf]; omega
    · have hi2 : i = S.length := by omega
      subst hi2
      go_wp2_with fail
      go_ret
      exact ⟨rfl, HB.out⟩

set_option maxRecDepth 100000 in
set_option maxHeartbeats 1000000 in
theorem mchk_bad2 {h cap n dr : Int} {l : List Nat} {S : List SentD} (hz : Hid (inRoom h cap l = true)) (la sa : Option Addr) (lc sc : Nat) (w : World) (hA : Reads w la l) (hS : SentIn w sa S) (hn : S.length < 4611686018427387904) (h0 : (cap ≤ (1024 : Int))) (h2 : ¬ ((0 : Int) ≤ n)) :
    Calls Try.prog 37 #[.agg #[.int .i64 h, .int .i64 cap, .slice la l.length lc, .int .i64 n, .int .i64 dr, .slice sa S.length sc]] w fun e w' => e = .returned (.int .i64 1) ∧ Below w.heap.size w w' := by
  have ZM : Hid (Blk (w.alloc (.cells #[.int .i64 h, .int .i64 cap, .slice la l.length lc, .int .i64 n, .int .i64 dr, .slice sa S.length sc] 45)) w.heap.size 45 #[.int .i64 h, .int .i64 cap, .slice la l.length lc, .int .i64 n, .int .i64 dr, .slice sa S.length sc]) := mkHid (Blk.new _ _ _)
  have HB1 : Hid (Below w.heap.size w (w.alloc (.cells #[.int .i64 h, .int .i64 cap, .slice la l.length lc, .int .i64 n, .int .i64 dr, .slice sa S.length sc] 45))) := mkHid ((Below.refl w.heap.size w).alloc (Nat.le_refl _) _)
  have HS := mkHid hS
  clear hS
  have t0 : decide (cap ≤ (1024 : Int)) = true := decide_eq_true h0
  have t1 : decide ((0 : Int) ≤ n) = false := decide_eq_false h2
  go_enter Try.func37, Try.ntmps37
  go_wp2_with fail
  refine (mset hz _ _ _ _ _ _ _ _ _ (hA.below ((Below.refl _ _).alloc (Nat.le_refl _) _))).mono ?_
  rintro e w1 ⟨rfl, hb1⟩
  replace ZM := mkHid (ZM.out.keep hb1)
  replace HB1 := mkHid (HB1.out.step hb1)
  clear hb1
  have c0 := ZM.out.cell 0
  have c1 := ZM.out.cell 1
  have c2 := ZM.out.cell 2
  have c3 := ZM.out.cell 3
  have c4 := ZM.out.cell 4
  have c5 := ZM.out.cell 5
  go_wp2_with fail
  clear c0 c1 c2 c3 c4 c5
  go_loopw [3, 41] (fun ok j wr => ∃ (i : Nat), i ≤ S.length ∧ j = .int .i64 (i : Int) ∧ ok = .bool false ∧ Hid (Blk wr w.heap.size 45 #[.int .i64 h, .int .i64 cap, .slice la l.length lc, .int .i64 n, .int .i64 dr, .slice sa S.length sc]) ∧ Hid (Below w.heap.size w wr)) (fun _ j _ => S.length - (intOf j).toNat)
  case atStart => exact ⟨0, by omega, rfl, rfl, ZM, HB1⟩
  case round =>
    clear ZM HB1
    obtain ⟨i, hi, rfl, rfl, ZM, HB⟩ := hrel
    by_cases hlt : i < S.length
    · obtain ⟨b, off, rfl, A, c, e0, _, _, _, _, e1, e2, e3⟩ := (HS.out.below HB.out) i hlt
      have lM := ZM.out.lt
      have cM0 : wr.cell? ⟨w.heap.size, 0, none⟩ = some (.int .i64 h) := ZM.out.cell 0
      have cM1 : wr.cell? ⟨w.heap.size, 1, none⟩ = some (.int .i64 cap) := ZM.out.cell 1
      have cM2 : wr.cell? ⟨w.heap.size, 2, none⟩ = some (.slice la l.length lc) := ZM.out.cell 2
      have cM3 : wr.cell? ⟨w.heap.size, 3, none⟩ = some (.int .i64 n) := ZM.out.cell 3
      have cM4 : wr.cell? ⟨w.heap.size, 4, none⟩ = some (.int .i64 dr) := ZM.out.cell 4
      have cM5 : wr.cell? ⟨w.heap.size, 5, none⟩ = some (.slice (some ⟨b, off, none⟩) S.length sc) := ZM.out.cell 5
      go_wp2_with fail
      go_roundw
      case rel => exact ⟨i + 1, by omega, by go_num, rfl, mkHid (ZM.out.alloc _), mkHid (HB.out.alloc HB.out.size _)⟩
      case measure => simp [intOf]; omega
    · have hi2 : i = S.length := by omega
      subst hi2
      go_wp2_with fail
      go_ret
      exact ⟨rfl, HB.out⟩

set_option maxRecDepth 100000 in
set_option maxHeartbeats 1000000 in
theorem mchk_bad3 {h cap n dr : Int} {l : List Nat} {S : List SentD} (hz : Hid (inRoom h cap l = true)) (la sa : Option Addr) (lc sc : Nat) (w : World) (hA : Reads w la l) (hS : SentIn w sa S) (hn : S.length < 4611686018427387904) (h0 : (cap ≤ (1024 : Int))) (h2 : ((0 : Int) ≤ n)) (h3 : ¬ (n ≤ (1099511627776 : Int))) :
    Calls Try.prog 37 #[.agg #[.int .i64 h, .int .i64 cap, .slice la l.length lc, .int .i64 n, .int .i64 dr, .slice sa S.length sc]] w fun e w' => e = .returned (.int .i64 1) ∧ Below w.heap.size w w' := by
  have ZM : Hid (Blk (w.alloc (.cells #[.int .i64 h, .int .i64 cap, .slice la l.length lc, .int .i64 n, .int .i64 dr, .slice sa S.length sc] 45)) w.heap.size 45 #[.int .i64 h, .int .i64 cap, .slice la l.length lc, .int .i64 n, .int .i64 dr, .slice sa S.length sc]) := mkHid (Blk.new _ _ _)
  have HB1 : Hid (Below w.heap.size w (w.alloc (.cells #[.int .i64 h, .int .i64 cap, .slice la l.length lc, .int .i64 n, .int .i64 dr, .slice sa S.length sc] 45))) := mkHid ((Below.refl w.heap.size w).alloc (Nat.le_refl _) _)
  have HS := mkHid hS
  clear hS
  have t0 : decide (cap ≤ (1024 : Int)) = true := decide_eq_true h0
  have t1 : decide ((0 : Int) ≤ n) = true := decide_eq_true h2
  have t2 : decide (n ≤ (1099511627776 : Int)) = false := decide_eq_false h3
  go_enter Try.func37, Try.ntmps37
  go_wp2_with fail
  refine (mset hz _ _ _ _ _ _ _ _ _ (hA.below ((Below.refl _ _).alloc (Nat.le_refl _) _))).mono ?_
  rintro e w1 ⟨rfl, hb1⟩
  replace ZM := mkHid (ZM.out.keep hb1)
  replace HB1 := mkHid (HB1.out.step hb1)
  clear hb1
  have c0 := ZM.out.cell 0
  have c1 := ZM.out.cell 1
  have c2 := ZM.out.cell 2
  have c3 := ZM.out.cell 3
  have c4 := ZM.out.cell 4
  have c5 := ZM.out.cell 5
  go_wp2_with fail
  clear c0 c1 c2 c3 c4 c5
  go_loopw [3, 41] (fun ok j wr => ∃ (i : Nat), i ≤ S.length ∧ j = .int .i64 (i : Int) ∧ ok = .bool false ∧ Hid (Blk wr w.heap.size 45 #[.int .i64 h, .int .i64 cap, .slice la l.length lc, .int .i64 n, .int .i64 dr, .slice sa S.length sc]) ∧ Hid (Below w.heap.size w wr)) (fun _ j _ => S.length - (intOf j).toNat)
  case atStart => exact ⟨0, by omega, rfl, rfl, ZM, HB1⟩
  case round =>
    clear ZM HB1
    obtain ⟨i, hi, rfl, rfl, ZM, HB⟩ := hrel
    by_cases hlt : i < S.length
    · obtain ⟨b, off, rfl, A, c, e0, _, _, _, _, e1, e2, e3⟩ := (HS.out.below HB.out) i hlt
      have lM := ZM.out.lt
      have cM0 : wr.cell? ⟨w.heap.size, 0, none⟩ = some (.int .i64 h) := ZM.out.cell 0
      have cM1 : wr.cell? ⟨w.heap.size, 1, none⟩ = some (.int .i64 cap) := ZM.out.cell 1
      have cM2 : wr.cell? ⟨w.heap.size, 2, none⟩ = some (.slice la l.length lc) := ZM.out.cell 2
      have cM3 : wr.cell? ⟨w.heap.size, 3, none⟩ = some (.int .i64 n) := ZM.out.cell 3
      have cM4 : wr.cell? ⟨w.heap.size, 4, none⟩ = some (.int .i64 dr) := ZM.out.cell 4
      have cM5 : wr.cell? ⟨w.heap.size, 5, none⟩ = some (.slice (some ⟨b, off, none⟩) S.length sc) := ZM.out.cell 5
      go_wp2_with fail
      go_roundw
      case rel => exact ⟨i + 1, by omega, by go_num, rfl, mkHid (ZM.out.alloc _), mkHid (HB.out.alloc HB.out.size _)⟩
      case measure => simp [intOf]; omega
    · have hi2 : i = S.length := by omega
      subst hi2
      go_wp2_with fail
      go_ret
      exact ⟨rfl, HB.out⟩

set_option maxRecDepth 100000 in
set_option maxHeartbeats 1000000 in
theorem mchk_bad4 {h cap n dr : Int} {l : List Nat} {S : List SentD} (hz : Hid (inRoom h cap l = true)) (la sa : Option Addr) (lc sc : Nat) (w : World) (hA : Reads w la l) (hS : SentIn w sa S) (hn : S.length < 4611686018427387904) (h0 : (cap ≤ (1024 : Int))) (h2 : ((0 : Int) ≤ n)) (h3 : (n ≤ (1099511627776 : Int))) (h4 : ¬ (dr ≤ (4096 : Int))) :
    Calls Try.prog 37 #[.agg #[.int .i64 h, .int .i64 cap, .slice la l.length lc, .int .i64 n, .int .i64 dr, .slice sa S.length sc]] w fun e w' => e = .returned (.int .i64 1) ∧ Below w.heap.size w w' := by
  have ZM : Hid (Blk (w.alloc (.cells #[.int .i64 h, .int .i64 cap, .slice la l.length lc, .int .i64 n, .int .i64 dr, .slice sa S.length sc] 45)) w.heap.size 45 #[.int .i64 h, .int .i64 cap, .slice la l.length lc, .int .i64 n, .int .i64 dr, .slice sa S.length sc]) := mkHid (Blk.new _ _ _)
  have HB1 : Hid (Below w.heap.size w (w.alloc (.cells #[.int .i64 h, .int .i64 cap, .slice la l.length lc, .int .i64 n, .int .i64 dr, .slice sa S.length sc] 45))) := mkHid ((Below.refl w.heap.size w).alloc (Nat.le_refl _) _)
  have HS := mkHid hS
  clear hS
  have t0 : decide (cap ≤ (1024 : Int)) = true := decide_eq_true h0
  have t1 : decide ((0 : Int) ≤ n) = true := decide_eq_true h2
  have t2 : decide (n ≤ (1099511627776 : Int)) = true := decide_eq_true h3
  have t3 : decide (dr ≤ (4096 : Int)) = false := decide_eq_false h4
  go_enter Try.func37, Try.ntmps37
  go_wp2_with fail
  refine (mset hz _ _ _ _ _ _ _ _ _ (hA.below ((Below.refl _ _).alloc (Nat.le_refl _) _))).mono ?_
  rintro e w1 ⟨rfl, hb1⟩
  replace ZM := mkHid (ZM.out.keep hb1)
  replace HB1 := mkHid (HB1.out.step hb1)
  clear hb1
  have c0 := ZM.out.cell 0
  have c1 := ZM.out.cell 1
  have c2 := ZM.out.cell 2
  have c3 := ZM.out.cell 3
  have c4 := ZM.out.cell 4
  have c5 := ZM.out.cell 5
  go_wp2_with fail
  clear c0 c1 c2 c3 c4 c5
  go_loopw [3, 41] (fun ok j wr => ∃ (i : Nat), i ≤ S.length ∧ j = .int .i64 (i : Int) ∧ ok = .bool false ∧ Hid (Blk wr w.heap.size 45 #[.int .i64 h, .int .i64 cap, .slice la l.length lc, .int .i64 n, .int .i64 dr, .slice sa S.length sc]) ∧ Hid (Below w.heap.size w wr)) (fun _ j _ => S.length - (intOf j).toNat)
  case atStart => exact ⟨0, by omega, rfl, rfl, ZM, HB1⟩
  case round =>
    clear ZM HB1
    obtain ⟨i, hi, rfl, rfl, ZM, HB⟩ := hrel
    by_cases hlt : i < S.length
    · obtain ⟨b, off, rfl, A, c, e0, _, _, _, _, e1, e2, e3⟩ := (HS.out.below HB.out) i hlt
      have lM := ZM.out.lt
      have cM0 : wr.cell? ⟨w.heap.size, 0, none⟩ = some (.int .i64 h) := ZM.out.cell 0
      have cM1 : wr.cell? ⟨w.heap.size, 1, none⟩ = some (.int .i64 cap) := ZM.out.cell 1
      have cM2 : wr.cell? ⟨w.heap.size, 2, none⟩ = some (.slice la l.length lc) := ZM.out.cell 2
      have cM3 : wr.cell? ⟨w.heap.size, 3, none⟩ = some (.int .i64 n) := ZM.out.cell 3
      have cM4 : wr.cell? ⟨w.heap.size, 4, none⟩ = some (.int .i64 dr) := ZM.out.cell 4
      have cM5 : wr.cell? ⟨w.heap.size, 5, none⟩ = some (.slice (some ⟨b, off, none⟩) S.length sc) := ZM.out.cell 5
      go_wp2_with fail
      go_roundw
      case rel => exact ⟨i + 1, by omega, by go_num, rfl, mkHid (ZM.out.alloc _), mkHid (HB.out.alloc HB.out.size _)⟩
      case measure => simp [intOf]; omega
    · have hi2 : i = S.length := by omega
      subst hi2
      go_wp2_with fail
      go_ret
      exact ⟨rfl, HB.out⟩

set_option maxRecDepth 100000 in
set_option maxHeartbeats 1000000 in
theorem mchk_bad5 {h cap n dr : Int} {l : List Nat} {S : List SentD} (hz : Hid (inRoom h cap l = true)) (la sa : Option Addr) (lc sc : Nat) (w : World) (hA : Reads w la l) (hS : SentIn w sa S) (hn : S.length < 4611686018427387904) (h0 : (cap ≤ (1024 : Int))) (h2 : ((0 : Int) ≤ n)) (h3 : (n ≤ (1099511627776 : Int))) (h4 : (dr ≤ (4096 : Int))) (h5 : ¬ ((S.length : Int) < dr)) :
    Calls Try.prog 37 #[.agg #[.int .i64 h, .int .i64 cap, .slice la l.length lc, .int .i64 n, .int .i64 dr, .slice sa S.length sc]] w fun e w' => e = .returned (.int .i64 1) ∧ Below w.heap.size w w' := by
  have ZM : Hid (Blk (w.alloc (.cells #[.int .i64 h, .int .i64 cap, .slice la l.length lc, .int .i64 n, .int .i64 dr, .slice sa S.length sc] 45)) w.heap.size 45 #[.int .i64 h, .int .i64 cap, .slice la l.length lc, .int .i64 n, .int .i64 dr, .slice sa S.length sc]) := mkHid (Blk.new _ _ _)
  have HB1 : Hid (Below w.heap.size w (w.alloc (.cells #[.int .i64 h, .int .i64 cap, .slice la l.length lc, .int .i64 n, .int .i64 dr, .slice sa S.length sc] 45))) := mkHid ((Below.refl w.heap.size w).alloc (Nat.le_refl _) _)
  have HS := mkHid hS
  clear hS
  have t0 : decide (cap ≤ (1024 : Int)) = true := decide_eq_true h0
  have t1 : decide ((0 : Int) ≤ n) = true := decide_eq_true h2
  have t2 : decide (n ≤ (1099511627776 : Int)) = true := decide_eq_true h3
  have t3 : decide (dr ≤ (4096 : Int)) = true := decide_eq_true h4
  have t4 : decide ((S.length : Int) < dr) = false := decide_eq_false h5
  go_enter Try.func37, Try.ntmps37
  go_wp2_with fail
  refine (mset hz _ _ _ _ _ _ _ _ _ (hA.below ((Below.refl _ _).alloc (Nat.le_refl _) _))).mono ?_
  rintro e w1 ⟨rfl, hb1⟩
  replace ZM := mkHid (ZM.out.keep hb1)
  replace HB1 := mkHid (HB1.out.step hb1)
  clear hb1
  have c0 := ZM.out.cell 0
  have c1 := ZM.out.cell 1
  have c2 := ZM.out.cell 2
  have c3 := ZM.out.cell 3
  have c4 := ZM.out.cell 4
  have c5 := ZM.out.cell 5
  go_wp2_with fail
  clear c0 c1 c2 c3 c4 c5
  go_loopw [3, 41] (fun ok j wr => ∃ (i : Nat), i ≤ S.length ∧ j = .int .i64 (i : Int) ∧ ok = .bool false ∧ Hid (Blk wr w.heap.size 45 #[.int .i64 h, .int .i64 cap, .slice la l.length lc, .int .i64 n, .int .i64 dr, .slice sa S.length sc]) ∧ Hid (Below w.heap.size w wr)) (fun _ j _ => S.length - (intOf j).toNat)
  case atStart => exact ⟨0, by omega, rfl, rfl, ZM, HB1⟩
  case round =>
    clear ZM HB1
    obtain ⟨i, hi, rfl, rfl, ZM, HB⟩ := hrel
    by_cases hlt : i < S.length
    · obtain ⟨b, off, rfl, A, c, e0, _, _, _, _, e1, e2, e3⟩ := (HS.out.below HB.out) i hlt
      have lM := ZM.out.lt
      have cM0 : wr.cell? ⟨w.heap.size, 0, none⟩ = some (.int .i64 h) := ZM.out.cell 0
      have cM1 : wr.cell? ⟨w.heap.size, 1, none⟩ = some (.int .i64 cap) := ZM.out.cell 1
      have cM2 : wr.cell? ⟨w.heap.size, 2, none⟩ = some (.slice la l.length lc) := ZM.out.cell 2
      have cM3 : wr.cell? ⟨w.heap.size, 3, none⟩ = some (.int .i64 n) := ZM.out.cell 3
      have cM4 : wr.cell? ⟨w.heap.size, 4, none⟩ = some (.int .i64 dr) := ZM.out.cell 4
      have cM5 : wr.cell? ⟨w.heap.size, 5, none⟩ = some (.slice (some ⟨b, off, none⟩) S.length sc) := ZM.out.cell 5
      go_wp2_with fail
      go_roundw
      case rel => exact ⟨i + 1, by omega, by go_num, rfl, mkHid (ZM.out.alloc _), mkHid (HB.out.alloc HB.out.size _)⟩
      case measure => simp [intOf]; omega
    · have hi2 : i = S.length := by omega
      subst hi2
      go_wp2_with fail
      go_ret
      exact ⟨rfl, HB.out⟩
end Go.Proofs.Ytmehbonjpmlmfaa

namespace Go.Proofs.Ytmehbonjpmlmfaa
open Go.RowKit

/-- a model may be -/
def okM (m : ModD) : Bool := decide (m.cap ≤ 1024) && inRoom m.h m.cap m.l && decide (0 ≤ m.n) && decide (m.n ≤ 1099511627776) && decide (m.draws ≤ 4096) && decide ((m.sent.length : Int) < m.draws) && sentOk m.h m.cap m.sent m.sent.length
/-- what lies behind a model's value -/
structure MemM (w : World) (A : Option Addr) (c : Nat) (B : Option Addr) (d : Nat) (m : ModD) : Prop where
  l1 : m.l.length ≤ c
  l2 : c ≤ maxLen
  reads : Reads w A m.l
  lnil : A = none → c = 0
  s1 : m.sent.length ≤ d
  s2 : d ≤ maxLen
  sents : SentIn w B m.sent
  snil : B = none → d = 0
  short : m.sent.length < 4611686018427387904 ∧ m.l.length < 4611686018427387904
theorem MemM.below {w w1 : World} {A B : Option Addr} {c d : Nat} {m : ModD} (h : MemM w A c B d m) (hb : Below w.heap.size w w1) : MemM w1 A c B d m := ⟨h.l1, h.l2, h.reads.below hb, h.lnil, h.s1, h.s2, h.sents.below hb, h.snil, h.short⟩
theorem mchk {m : ModD} {r : Int} (e : Hid ((if okM m then (0 : Int) else 1) = r)) (A : Option Addr) (c : Nat) (B : Option Addr) (d : Nat) (w : World) (hM : MemM w A c B d m) :
    Calls Try.prog 37 #[.agg #[.int .i64 m.h, .int .i64 m.cap, .slice A m.l.length c, .int .i64 m.n, .int .i64 m.draws, .slice B m.sent.length d]] w fun e w' => e = .returned (.int .i64 r) ∧ Below w.heap.size w w' := by
  obtain ⟨h, cap, l, n, dr, S⟩ := m
  have e' := e.out
  obtain ⟨hn, _⟩ := hM.short
  have hA := hM.reads
  have hS := hM.sents
  unfold okM at e'
  dsimp only at *
  by_cases h0 : cap ≤ (1024 : Int)
  · cases hz : inRoom h cap l
    · rw [hz, Bool.and_false] at e'
      simp only [Bool.false_and] at e'
      obtain rfl : (1 : Int) = r := by simpa using e'
      exact mchk_bad1 (mkHid hz) A B c d w hA hS hn h0
    · by_cases h1 : (0 : Int) ≤ n
      · by_cases h2 : n ≤ (1099511627776 : Int)
        · by_cases h3 : dr ≤ (4096 : Int)
          · by_cases h4 : (S.length : Int) < dr
            · rw [decide_eq_true h0, hz, decide_eq_true h1, decide_eq_true h2, decide_eq_true h3, decide_eq_true h4] at e'
              simp only [Bool.true_and] at e'
              exact mchk_good (mkHid e') (mkHid hz) A B c d w hA hS h0 h1 h2 h3 h4
            · rw [decide_eq_false h4] at e'
              obtain rfl : (1 : Int) = r := by simpa using e'
              exact mchk_bad5 (mkHid hz) A B c d w hA hS hn h0 h1 h2 h3 h4
          · rw [decide_eq_false h3] at e'
            obtain rfl : (1 : Int) = r := by simpa using e'
            exact mchk_bad4 (mkHid hz) A B c d w hA hS hn h0 h1 h2 h3
        · rw [decide_eq_false h2] at e'
          obtain rfl : (1 : Int) = r := by simpa using e'
          exact mchk_bad3 (mkHid hz) A B c d w hA hS hn h0 h1 h2
      · rw [decide_eq_false h1] at e'
        obtain rfl : (1 : Int) = r := by simpa using e'
        exact mchk_bad2 (mkHid hz) A B c d w hA hS hn h0 h1
  · rw [decide_eq_false h0] at e'
    obtain rfl : (1 : Int) = r := by simpa using e'
    exact mchk_bad0 A B c d w hA hS hn h0
end Go.Proofs.Ytmehbonjpmlmfaa

namespace Go.Proofs.Ytmehbonjpmlmfaa
open Go.RowKit

theorem Blk.fill6 {w : World} {n : Nat} {t : TypeId} {a0 a1 a2 a3 a4 a5 b0 b1 b2 b3 b4 b5 : Value} (h : Blk w n t #[a0, a1, a2, a3, a4, a5]) :
    Blk ((((((w.setCell ⟨n, 0, none⟩ b0).setCell ⟨n, 1, none⟩ b1).setCell ⟨n, 2, none⟩ b2).setCell ⟨n, 3, none⟩ b3).setCell ⟨n, 4, none⟩ b4).setCell ⟨n, 5, none⟩ b5) n t #[b0, b1, b2, b3, b4, b5] := (((((h.set 0 b0).set 1 b1).set 2 b2).set 3 b3).set 4 b4).set 5 b5
theorem Blk.six {w : World} {n : Nat} {t : TypeId} {a b c d e f : Value} (h : Blk w n t #[a, b, c, d, e, f]) :
    w.cell? ⟨n, 0, none⟩ = some a ∧ w.cell? ⟨n, 1, none⟩ = some b ∧ w.cell? ⟨n, 2, none⟩ = some c ∧ w.cell? ⟨n, 3, none⟩ = some d ∧ w.cell? ⟨n, 4, none⟩ = some e ∧ w.cell? ⟨n, 5, none⟩ = some f := ⟨h.cell 0, h.cell 1, h.cell 2, h.cell 3, h.cell 4, h.cell 5⟩
theorem below_six {w w1 : World} {b g : Nat} (h : Below b w w1) (hg : b ≤ g) (x0 x1 x2 x3 x4 x5 : Value) : Below b w ((((((w1.setCell ⟨g, 0, none⟩ x0).setCell ⟨g, 1, none⟩ x1).setCell ⟨g, 2, none⟩ x2).setCell ⟨g, 3, none⟩ x3).setCell ⟨g, 4, none⟩ x4).setCell ⟨g, 5, none⟩ x5) :=
  (((((h.setCell (p := ⟨g, 0, none⟩) hg _).setCell (p := ⟨g, 1, none⟩) hg _).setCell (p := ⟨g, 2, none⟩) hg _).setCell (p := ⟨g, 3, none⟩) hg _).setCell (p := ⟨g, 4, none⟩) hg _).setCell (p := ⟨g, 5, none⟩) hg _
def zeroM : ModD := ⟨0, 0, [], 0, 0, []⟩
def freshM (h room draws : Int) : ModD := ⟨h, room, [], 0, draws, []⟩
theorem MemM.fresh (w : World) (h room draws : Int) : MemM w none 0 none 0 (freshM h room draws) := ⟨Nat.le_refl _, Nat.zero_le _, Reads.nil _, fun _ => rfl, Nat.le_refl _, Nat.zero_le _, SentIn.nil _ _, fun _ => rfl, ⟨(by decide : (0 : Nat) < 4611686018427387904), (by decide : (0 : Nat) < 4611686018427387904)⟩⟩
theorem MemM.zero (w : World) : MemM w none 0 none 0 zeroM := ⟨Nat.le_refl _, Nat.zero_le _, Reads.nil _, fun _ => rfl, Nat.le_refl _, Nat.zero_le _, SentIn.nil _ _, fun _ => rfl, ⟨(by decide : (0 : Nat) < 4611686018427387904), (by decide : (0 : Nat) < 4611686018427387904)⟩⟩
/-- what New answers -/
def newM (h room draws : Int) : ModD × Int := if draws = 0 then (zeroM, 10) else if okM (freshM h room draws) then (freshM h room draws, 0) else (zeroM, 1)

set_option maxRecDepth 100000 in
set_option maxHeartbeats 4000000 in
theorem mnew_zero {h room draws : Int} (h0 : draws = 0) (w : World) :
    Calls Try.prog 28 #[.int .i64 h, .int .i64 room, .int .i64 draws] w fun e w' => e = .returned (.tuple #[.agg #[.int .i64 0, .int .i64 0, .slice none 0 0, .int .i64 0, .int .i64 0, .slice none 0 0], .int .i64 10]) ∧ Below w.heap.size w w' := by
  have t0 : (draws == (0 : Int)) = true := beq_iff_eq.2 h0
  clear h0
  have ZZ : Hid (Blk ((w.alloc (.cells #[.int .i64 0, .int .i64 0, .slice none 0 0, .int .i64 0, .int .i64 0, .slice none 0 0] 45)).alloc (.cells #[.int .i64 h, .int .i64 room, .slice none 0 0, .int .i64 0, .int .i64 draws, .slice none 0 0] 45)) w.heap.size 45 #[.int .i64 0, .int .i64 0, .slice none 0 0, .int .i64 0, .int .i64 0, .slice none 0 0]) := mkHid ((Blk.new _ _ _).alloc _)
  have ZX : Hid (Blk ((w.alloc (.cells #[.int .i64 0, .int .i64 0, .slice none 0 0, .int .i64 0, .int .i64 0, .slice none 0 0] 45)).alloc (.cells #[.int .i64 h, .int .i64 room, .slice none 0 0, .int .i64 0, .int .i64 draws, .slice none 0 0] 45)) (w.heap.size + 1) 45 #[.int .i64 h, .int .i64 room, .slice none 0 0, .int .i64 0, .int .i64 draws, .slice none 0 0]) := mkHid (Blk.at _ _ _ (by simp))
  have KB : Hid (Below w.heap.size w ((w.alloc (.cells #[.int .i64 0, .int .i64 0, .slice none 0 0, .int .i64 0, .int .i64 0, .slice none 0 0] 45)).alloc (.cells #[.int .i64 h, .int .i64 room, .slice none 0 0, .int .i64 0, .int .i64 draws, .slice none 0 0] 45))) := mkHid (((Below.refl _ _).alloc (Nat.le_refl _) _).alloc (by simp) _)
  have cZZ := ZZ.out.six
  have fZZ0 := ZZ.out.frozen 0
  have fZZ1 := ZZ.out.frozen 1
  have fZZ2 := ZZ.out.frozen 2
  have fZZ3 := ZZ.out.frozen 3
  have fZZ4 := ZZ.out.frozen 4
  have fZZ5 := ZZ.out.frozen 5
  have lZZ := ZZ.out.lt
  have cZX := ZX.out.six
  have lZX := ZX.out.lt
  go_enter Try.func28, Try.ntmps28
  go_wp2_with fail
  have qR := ZZ.out.six
  refine bodyPost_ret (v := .tuple #[.agg #[.int .i64 0, .int .i64 0, .slice none 0 0, .int .i64 0, .int .i64 0, .slice none 0 0], .int .i64 10]) (by simp [results, Try.results28, go_sem, qR]) rfl ⟨rfl, ?_⟩
  exact KB.out

set_option maxRecDepth 100000 in
set_option maxHeartbeats 4000000 in
theorem mnew_yes {h room draws : Int} (h0 : draws ≠ 0) (e : Hid ((if okM (freshM h room draws) then (0 : Int) else 1) = 0)) (w : World) :
    Calls Try.prog 28 #[.int .i64 h, .int .i64 room, .int .i64 draws] w fun e w' => e = .returned (.tuple #[.agg #[.int .i64 h, .int .i64 room, .slice none 0 0, .int .i64 0, .int .i64 draws, .slice none 0 0], .int .i64 0]) ∧ Below w.heap.size w w' := by
  have t0 : (draws == (0 : Int)) = false := beq_eq_false_iff_ne.2 h0
  have ZZ : Hid (Blk ((w.alloc (.cells #[.int .i64 0, .int .i64 0, .slice none 0 0, .int .i64 0, .int .i64 0, .slice none 0 0] 45)).alloc (.cells #[.int .i64 h, .int .i64 room, .slice none 0 0, .int .i64 0, .int .i64 draws, .slice none 0 0] 45)) w.heap.size 45 #[.int .i64 0, .int .i64 0, .slice none 0 0, .int .i64 0, .int .i64 0, .slice none 0 0]) := mkHid ((Blk.new _ _ _).alloc _)
  have ZX : Hid (Blk ((w.alloc (.cells #[.int .i64 0, .int .i64 0, .slice none 0 0, .int .i64 0, .int .i64 0, .slice none 0 0] 45)).alloc (.cells #[.int .i64 h, .int .i64 room, .slice none 0 0, .int .i64 0, .int .i64 draws, .slice none 0 0] 45)) (w.heap.size + 1) 45 #[.int .i64 h, .int .i64 room, .slice none 0 0, .int .i64 0, .int .i64 draws, .slice none 0 0]) := mkHid (Blk.at _ _ _ (by simp))
  have KB : Hid (Below w.heap.size w ((w.alloc (.cells #[.int .i64 0, .int .i64 0, .slice none 0 0, .int .i64 0, .int .i64 0, .slice none 0 0] 45)).alloc (.cells #[.int .i64 h, .int .i64 room, .slice none 0 0, .int .i64 0, .int .i64 draws, .slice none 0 0] 45))) := mkHid (((Below.refl _ _).alloc (Nat.le_refl _) _).alloc (by simp) _)
  have cZZ := ZZ.out.six
  have fZZ0 := ZZ.out.frozen 0
  have fZZ1 := ZZ.out.frozen 1
  have fZZ2 := ZZ.out.frozen 2
  have fZZ3 := ZZ.out.frozen 3
  have fZZ4 := ZZ.out.frozen 4
  have fZZ5 := ZZ.out.frozen 5
  have lZZ := ZZ.out.lt
  have cZX := ZX.out.six
  have lZX := ZX.out.lt
  go_enter Try.func28, Try.ntmps28
  go_wp2_with fail
  refine (mchk e none 0 none 0 _ (MemM.fresh _ _ _ _)).mono ?_
  rintro e w1 ⟨rfl, hb1⟩
  replace ZZ := mkHid (ZZ.out.keep hb1)
  replace ZX := mkHid (ZX.out.keep hb1)
  replace KB := mkHid (KB.out.step hb1)
  clear cZZ fZZ0 fZZ1 fZZ2 fZZ3 fZZ4 fZZ5 lZZ
  have cZZ := ZZ.out.six
  have fZZ0 := ZZ.out.frozen 0
  have fZZ1 := ZZ.out.frozen 1
  have fZZ2 := ZZ.out.frozen 2
  have fZZ3 := ZZ.out.frozen 3
  have fZZ4 := ZZ.out.frozen 4
  have fZZ5 := ZZ.out.frozen 5
  have lZZ := ZZ.out.lt
  clear cZX lZX
  have cZX := ZX.out.six
  have lZX := ZX.out.lt
  clear hb1
  go_wp2_with fail
  have qR := (ZZ.out.fill6 (b0 := .int .i64 h) (b1 := .int .i64 room) (b2 := .slice none 0 0) (b3 := .int .i64 0) (b4 := .int .i64 draws) (b5 := .slice none 0 0)).six
  refine bodyPost_ret (v := .tuple #[.agg #[.int .i64 h, .int .i64 room, .slice none 0 0, .int .i64 0, .int .i64 draws, .slice none 0 0], .int .i64 0]) (by simp [results, Try.results28, go_sem, qR]) rfl ⟨rfl, ?_⟩
  exact below_six KB.out (Nat.le_refl _) _ _ _ _ _ _

set_option maxRecDepth 100000 in
set_option maxHeartbeats 4000000 in
theorem mnew_no {h room draws : Int} (h0 : draws ≠ 0) (e : Hid ((if okM (freshM h room draws) then (0 : Int) else 1) = 1)) (w : World) :
    Calls Try.prog 28 #[.int .i64 h, .int .i64 room, .int .i64 draws] w fun e w' => e = .returned (.tuple #[.agg #[.int .i64 0, .int .i64 0, .slice none 0 0, .int .i64 0, .int .i64 0, .slice none 0 0], .int .i64 1]) ∧ Below w.heap.size w w' := by
  have t0 : (draws == (0 : Int)) = false := beq_eq_false_iff_ne.2 h0
  have ZZ : Hid (Blk ((w.alloc (.cells #[.int .i64 0, .int .i64 0, .slice none 0 0, .int .i64 0, .int .i64 0, .slice none 0 0] 45)).alloc (.cells #[.int .i64 h, .int .i64 room, .slice none 0 0, .int .i64 0, .int .i64 draws, .slice none 0 0] 45)) w.heap.size 45 #[.int .i64 0, .int .i64 0, .slice none 0 0, .int .i64 0, .int .i64 0, .slice none 0 0]) := mkHid ((Blk.new _ _ _).alloc _)
  have ZX : Hid (Blk ((w.alloc (.cells #[.int .i64 0, .int .i64 0, .slice none 0 0, .int .i64 0, .int .i64 0, .slice none 0 0] 45)).alloc (.cells #[.int .i64 h, .int .i64 room, .slice none 0 0, .int .i64 0, .int .i64 draws, .slice none 0 0] 45)) (w.heap.size + 1) 45 #[.int .i64 h, .int .i64 room, .slice none 0 0, .int .i64 0, .int .i64 draws, .slice none 0 0]) := mkHid (Blk.at _ _ _ (by simp))
  have KB : Hid (Below w.heap.size w ((w.alloc (.cells #[.int .i64 0, .int .i64 0, .slice none 0 0, .int .i64 0, .int .i64 0, .slice none 0 0] 45)).alloc (.cells #[.int .i64 h, .int .i64 room, .slice none 0 0, .int .i64 0, .int .i64 draws, .slice none 0 0] 45))) := mkHid (((Below.refl _ _).alloc (Nat.le_refl _) _).alloc (by simp) _)
  have cZZ := ZZ.out.six
  have fZZ0 := ZZ.out.frozen 0
  have fZZ1 := ZZ.out.frozen 1
  have fZZ2 := ZZ.out.frozen 2
  have fZZ3 := ZZ.out.frozen 3
  have fZZ4 := ZZ.out.frozen 4
  have fZZ5 := ZZ.out.frozen 5
  have lZZ := ZZ.out.lt
  have cZX := ZX.out.six
  have lZX := ZX.out.lt
  go_enter Try.func28, Try.ntmps28
  go_wp2_with fail
  refine (mchk e none 0 none 0 _ (MemM.fresh _ _ _ _)).mono ?_
  rintro e w1 ⟨rfl, hb1⟩
  replace ZZ := mkHid (ZZ.out.keep hb1)
  replace ZX := mkHid (ZX.out.keep hb1)
  replace KB := mkHid (KB.out.step hb1)
  clear cZZ fZZ0 fZZ1 fZZ2 fZZ3 fZZ4 fZZ5 lZZ
  have cZZ := ZZ.out.six
  have fZZ0 := ZZ.out.frozen 0
  have fZZ1 := ZZ.out.frozen 1
  have fZZ2 := ZZ.out.frozen 2
  have fZZ3 := ZZ.out.frozen 3
  have fZZ4 := ZZ.out.frozen 4
  have fZZ5 := ZZ.out.frozen 5
  have lZZ := ZZ.out.lt
  clear cZX lZX
  have cZX := ZX.out.six
  have lZX := ZX.out.lt
  clear hb1
  go_wp2_with fail
  have qR := (ZZ.out.fill6 (b0 := .int .i64 0) (b1 := .int .i64 0) (b2 := .slice none 0 0) (b3 := .int .i64 0) (b4 := .int .i64 0) (b5 := .slice none 0 0)).six
  refine bodyPost_ret (v := .tuple #[.agg #[.int .i64 0, .int .i64 0, .slice none 0 0, .int .i64 0, .int .i64 0, .slice none 0 0], .int .i64 1]) (by simp [results, Try.results28, go_sem, qR]) rfl ⟨rfl, ?_⟩
  exact below_six KB.out (Nat.le_refl _) _ _ _ _ _ _

theorem mnew {h room draws : Int} {m : ModD} {r : Int} (e : Hid (newM h room draws = (m, r))) (w : World) :
    Calls Try.prog 28 #[.int .i64 h, .int .i64 room, .int .i64 draws] w fun e w' => e = .returned (.tuple #[.agg #[.int .i64 m.h, .int .i64 m.cap, .slice none 0 0, .int .i64 m.n, .int .i64 m.draws, .slice none 0 0], .int .i64 r]) ∧ Below w.heap.size w w' := by
  have e' := e.out
  unfold newM at e'
  by_cases h0 : draws = 0
  · rw [if_pos h0] at e'; cases e'
    exact mnew_zero h0 w
  · rw [if_neg h0] at e'
    cases hk : okM (freshM h room draws)
    · rw [hk] at e'; cases e'
      exact mnew_no h0 (mkHid (by rw [hk]; rfl)) w
    · rw [hk, if_pos rfl] at e'; cases e'
      exact mnew_yes h0 (mkHid (by rw [hk]; rfl)) w

set_option maxRecDepth 100000 in
set_option maxHeartbeats 4000000 in
theorem mmay_bad {m : ModD} {i : Nat} {n : Int} (e : Hid ((if okM m then (0 : Int) else 1) = 1)) (A : Option Addr) (c : Nat) (B : Option Addr) (d : Nat) (w : World) (hM : MemM w A c B d m) :
    Calls Try.prog 30 #[.agg #[.int .i64 m.h, .int .i64 m.cap, .slice A m.l.length c, .int .i64 m.n, .int .i64 m.draws, .slice B m.sent.length d], .int .u64 (i : Int), .int .i64 n] w fun e w' => e = .returned (.tuple #[.bool false, .int .i64 1]) ∧ Below w.heap.size w w' := by
  skip
  have ZX : Hid (Blk (w.alloc (.cells #[.int .i64 m.h, .int .i64 m.cap, .slice A m.l.length c, .int .i64 m.n, .int .i64 m.draws, .slice B m.sent.length d] 45)) w.heap.size 45 #[.int .i64 m.h, .int .i64 m.cap, .slice A m.l.length c, .int .i64 m.n, .int .i64 m.draws, .slice B m.sent.length d]) := mkHid (Blk.new _ _ _)
  have KB : Hid (Below w.heap.size w (w.alloc (.cells #[.int .i64 m.h, .int .i64 m.cap, .slice A m.l.length c, .int .i64 m.n, .int .i64 m.draws, .slice B m.sent.length d] 45))) := mkHid ((Below.refl _ _).alloc (Nat.le_refl _) _)
  have HM := mkHid (hM.below ((Below.refl _ _).alloc (Nat.le_refl _) (.cells #[.int .i64 m.h, .int .i64 m.cap, .slice A m.l.length c, .int .i64 m.n, .int .i64 m.draws, .slice B m.sent.length d] 45)))
  clear hM
  have cZX := ZX.out.six
  have lZX := ZX.out.lt
  go_enter Try.func30, Try.ntmps30
  go_wp2_with fail
  refine (mchk e _ _ _ _ _ HM.out).mono ?_
  rintro e w1 ⟨rfl, hb1⟩
  replace ZX := mkHid (ZX.out.keep hb1)
  replace KB := mkHid (KB.out.step hb1)
  replace HM := mkHid (HM.out.below hb1)
  clear cZX lZX
  have cZX := ZX.out.six
  have lZX := ZX.out.lt
  clear hb1
  go_wp2_with fail
  go_ret2
  exact ⟨by simp, KB.out⟩

set_option maxRecDepth 100000 in
set_option maxHeartbeats 4000000 in
theorem mmay_low {m : ModD} {i : Nat} {n : Int} (e : Hid ((if okM m then (0 : Int) else 1) = 0)) (h0 : n < 1) (A : Option Addr) (c : Nat) (B : Option Addr) (d : Nat) (w : World) (hM : MemM w A c B d m) :
    Calls Try.prog 30 #[.agg #[.int .i64 m.h, .int .i64 m.cap, .slice A m.l.length c, .int .i64 m.n, .int .i64 m.draws, .slice B m.sent.length d], .int .u64 (i : Int), .int .i64 n] w fun e w' => e = .returned (.tuple #[.bool false, .int .i64 1]) ∧ Below w.heap.size w w' := by
  have t0 : decide (n < (1 : Int)) = true := decide_eq_true h0
  have ZX : Hid (Blk (w.alloc (.cells #[.int .i64 m.h, .int .i64 m.cap, .slice A m.l.length c, .int .i64 m.n, .int .i64 m.draws, .slice B m.sent.length d] 45)) w.heap.size 45 #[.int .i64 m.h, .int .i64 m.cap, .slice A m.l.length c, .int .i64 m.n, .int .i64 m.draws, .slice B m.sent.length d]) := mkHid (Blk.new _ _ _)
  have KB : Hid (Below w.heap.size w (w.alloc (.cells #[.int .i64 m.h, .int .i64 m.cap, .slice A m.l.length c, .int .i64 m.n, .int .i64 m.draws, .slice B m.sent.length d] 45))) := mkHid ((Below.refl _ _).alloc (Nat.le_refl _) _)
  have HM := mkHid (hM.below ((Below.refl _ _).alloc (Nat.le_refl _) (.cells #[.int .i64 m.h, .int .i64 m.cap, .slice A m.l.length c, .int .i64 m.n, .int .i64 m.draws, .slice B m.sent.length d] 45)))
  clear hM
  have cZX := ZX.out.six
  have lZX := ZX.out.lt
  go_enter Try.func30, Try.ntmps30
  go_wp2_with fail
  refine (mchk e _ _ _ _ _ HM.out).mono ?_
  rintro e w1 ⟨rfl, hb1⟩
  replace ZX := mkHid (ZX.out.keep hb1)
  replace KB := mkHid (KB.out.step hb1)
  replace HM := mkHid (HM.out.below hb1)
  clear cZX lZX
  have cZX := ZX.out.six
  have lZX := ZX.out.lt
  clear hb1
  go_wp2_with fail
  go_ret2
  exact ⟨by simp, KB.out⟩

set_option maxRecDepth 100000 in
set_option maxHeartbeats 4000000 in
theorem mmay_high {m : ModD} {i : Nat} {n : Int} (e : Hid ((if okM m then (0 : Int) else 1) = 0)) (h0 : ¬ n < 1) (h1 : (m.sent.length : Int) < n) (A : Option Addr) (c : Nat) (B : Option Addr) (d : Nat) (w : World) (hM : MemM w A c B d m) :
    Calls Try.prog 30 #[.agg #[.int .i64 m.h, .int .i64 m.cap, .slice A m.l.length c, .int .i64 m.n, .int .i64 m.draws, .slice B m.sent.length d], .int .u64 (i : Int), .int .i64 n] w fun e w' => e = .returned (.tuple #[.bool false, .int .i64 1]) ∧ Below w.heap.size w w' := by
  have t0 : decide (n < (1 : Int)) = false := decide_eq_false h0
  have t1 : decide ((m.sent.length : Int) < n) = true := decide_eq_true h1
  have ZX : Hid (Blk (w.alloc (.cells #[.int .i64 m.h, .int .i64 m.cap, .slice A m.l.length c, .int .i64 m.n, .int .i64 m.draws, .slice B m.sent.length d] 45)) w.heap.size 45 #[.int .i64 m.h, .int .i64 m.cap, .slice A m.l.length c, .int .i64 m.n, .int .i64 m.draws, .slice B m.sent.length d]) := mkHid (Blk.new _ _ _)
  have KB : Hid (Below w.heap.size w (w.alloc (.cells #[.int .i64 m.h, .int .i64 m.cap, .slice A m.l.length c, .int .i64 m.n, .int .i64 m.draws, .slice B m.sent.length d] 45))) := mkHid ((Below.refl _ _).alloc (Nat.le_refl _) _)
  have HM := mkHid (hM.below ((Below.refl _ _).alloc (Nat.le_refl _) (.cells #[.int .i64 m.h, .int .i64 m.cap, .slice A m.l.length c, .int .i64 m.n, .int .i64 m.draws, .slice B m.sent.length d] 45)))
  clear hM
  have cZX := ZX.out.six
  have lZX := ZX.out.lt
  go_enter Try.func30, Try.ntmps30
  go_wp2_with fail
  refine (mchk e _ _ _ _ _ HM.out).mono ?_
  rintro e w1 ⟨rfl, hb1⟩
  replace ZX := mkHid (ZX.out.keep hb1)
  replace KB := mkHid (KB.out.step hb1)
  replace HM := mkHid (HM.out.below hb1)
  clear cZX lZX
  have cZX := ZX.out.six
  have lZX := ZX.out.lt
  clear hb1
  go_wp2_with fail
  go_ret2
  exact ⟨by simp, KB.out⟩

set_option linter.unusedSimpArgs false in
set_option maxRecDepth 100000 in
set_option maxHeartbeats 4000000 in
theorem mmay_yes {m : ModD} {i j : Nat} (hj : j < m.sent.length) {z : Bool} (e : Hid ((if okM m then (0 : Int) else 1) = 0)) (f : Hid (hasAll m.h m.sent[j].out i = (z, 0))) (A : Option Addr) (c : Nat) (B : Option Addr) (d : Nat) (w : World) (hM : MemM w A c B d m) :
    Calls Try.prog 30 #[.agg #[.int .i64 m.h, .int .i64 m.cap, .slice A m.l.length c, .int .i64 m.n, .int .i64 m.draws, .slice B m.sent.length d], .int .u64 (i : Int), .int .i64 ((j : Int) + 1)] w fun e w' => e = .returned (.tuple #[.bool (!z), .int .i64 0]) ∧ Below w.heap.size w w' := by
  have t0 : decide ((j : Int) + 1 < (1 : Int)) = false := decide_eq_false (by omega)
  have t1 : decide ((m.sent.length : Int) < (j : Int) + 1) = false := decide_eq_false (by omega)
  obtain ⟨S, hS⟩ : ∃ S, m.sent[j] = S := ⟨_, rfl⟩
  rw [hS] at f
  have HS := mkHid hS
  clear hS
  have hwj : IntKind.i64.wrap (j : Int) = (j : Int) := by rw [IntKind.wrap_i64]; have := hM.short.1; omega
  have ZX : Hid (Blk (w.alloc (.cells #[.int .i64 m.h, .int .i64 m.cap, .slice A m.l.length c, .int .i64 m.n, .int .i64 m.draws, .slice B m.sent.length d] 45)) w.heap.size 45 #[.int .i64 m.h, .int .i64 m.cap, .slice A m.l.length c, .int .i64 m.n, .int .i64 m.draws, .slice B m.sent.length d]) := mkHid (Blk.new _ _ _)
  have KB : Hid (Below w.heap.size w (w.alloc (.cells #[.int .i64 m.h, .int .i64 m.cap, .slice A m.l.length c, .int .i64 m.n, .int .i64 m.draws, .slice B m.sent.length d] 45))) := mkHid ((Below.refl _ _).alloc (Nat.le_refl _) _)
  have HM := mkHid (hM.below ((Below.refl _ _).alloc (Nat.le_refl _) (.cells #[.int .i64 m.h, .int .i64 m.cap, .slice A m.l.length c, .int .i64 m.n, .int .i64 m.draws, .slice B m.sent.length d] 45)))
  clear hM
  have cZX := ZX.out.six
  have lZX := ZX.out.lt
  go_enter Try.func30, Try.ntmps30
  go_wp2_with fail
  refine (mchk e _ _ _ _ _ HM.out).mono ?_
  rintro e w1 ⟨rfl, hb1⟩
  replace ZX := mkHid (ZX.out.keep hb1)
  replace KB := mkHid (KB.out.step hb1)
  replace HM := mkHid (HM.out.below hb1)
  clear cZX lZX
  have cZX := ZX.out.six
  have lZX := ZX.out.lt
  clear hb1
  go_wp2_with fail
  obtain ⟨b, off, eB, A2, c2, e0, _, _, hR, _⟩ := HM.out.sents j hj
  rw [HS.out] at e0 hR
  subst eB
  have HR := mkHid hR
  clear hR
  have k0 := cZX.1
  have k5 := cZX.2.2.2.2.2
  clear cZX
  have HR' := HR.out.below (Below.drew (Below.refl _ w1))
  have KB' := KB.out.drew
  clear HR KB HM
  refine wp_region_held_drew (S := fun w' => Reads w' A2 S.out ∧ Below w.heap.size w w' ∧ w'.cell? ⟨w.heap.size, 0, none⟩ = some (.int .i64 m.h) ∧ w'.cell? ⟨w.heap.size, 5, none⟩ = some (.slice (some ⟨b, off, none⟩) m.sent.length d) ∧ w'.cell? ⟨b, off + j * 4, none⟩ = some (.slice A2 S.out.length c2)) (by kernel_rfl) ?_ (fun hHeld => ?_)
  · ((try dsimp only); (try go_split_ands); refine ⟨?_, ?_, ?_, ?_, ?_⟩ <;> assumption)
  refine wpAnyH_take (i := 0) (v := ?_) rfl (by kernel_rfl) (by kernel_rfl) (by kernel_rfl) (fun _ _ _ h => h) (Or.inl ⟨by rfl, ?_⟩) hHeld ?_
  rotate_left
  · intro w hSw
    (try dsimp only at hSw)
    go_simp
    all_goals with_reducible rfl
  try simp only [List.getElem_toArray, List.getElem_cons_succ, List.getElem_cons_zero, Act.put, List.setIfInBounds_toArray, List.set_cons_zero, List.set_cons_succ]
  refine wpAnyH_take (i := 1) (v := ?_) rfl (by kernel_rfl) (by kernel_rfl) (by kernel_rfl) (fun _ _ _ h => h) (Or.inl ⟨by rfl, ?_⟩) hHeld ?_
  rotate_left
  · intro w hSw
    (try dsimp only at hSw)
    go_simp
    all_goals with_reducible rfl
  try simp only [List.getElem_toArray, List.getElem_cons_succ, List.getElem_cons_zero, Act.put, List.setIfInBounds_toArray, List.set_cons_zero, List.set_cons_succ]
  refine wpAnyH_take (i := 2) (v := ?_) rfl (by kernel_rfl) (by kernel_rfl) (by kernel_rfl) (fun _ _ _ h => h) (Or.inl ⟨by rfl, ?_⟩) hHeld ?_
  rotate_left
  · intro w hSw
    (try dsimp only at hSw)
    go_simp
    all_goals with_reducible rfl
  try simp only [List.getElem_toArray, List.getElem_cons_succ, List.getElem_cons_zero, Act.put, List.setIfInBounds_toArray, List.set_cons_zero, List.set_cons_succ]
  refine wpAnyH_take (i := 3) (v := ?_) rfl (by kernel_rfl) (by kernel_rfl) (by kernel_rfl) (fun _ _ _ h => h) (Or.inl ⟨by rfl, ?_⟩) hHeld ?_
  rotate_left
  · intro w hSw
    (try dsimp only at hSw)
    go_simp
    all_goals with_reducible rfl
  try simp only [List.getElem_toArray, List.getElem_cons_succ, List.getElem_cons_zero, Act.put, List.setIfInBounds_toArray, List.set_cons_zero, List.set_cons_succ]
  refine wpAnyH_take (i := 4) (v := ?_) rfl (by kernel_rfl) (by kernel_rfl) (by kernel_rfl) (fun _ _ _ h => h) (Or.inl ⟨by rfl, ?_⟩) hHeld ?_
  rotate_left
  · intro w hSw
    (try dsimp only at hSw)
    go_simp
    all_goals with_reducible rfl
  try simp only [List.getElem_toArray, List.getElem_cons_succ, List.getElem_cons_zero, Act.put, List.setIfInBounds_toArray, List.set_cons_zero, List.set_cons_succ]
  refine wpAnyH_take (i := 5) (v := ?_) rfl (by kernel_rfl) (by kernel_rfl) (by kernel_rfl) (fun _ _ _ h => h) (Or.inl ⟨by rfl, ?_⟩) hHeld ?_
  rotate_left
  · intro w hSw
    (try dsimp only at hSw)
    go_simp
    all_goals with_reducible rfl
  try simp only [List.getElem_toArray, List.getElem_cons_succ, List.getElem_cons_zero, Act.put, List.setIfInBounds_toArray, List.set_cons_zero, List.set_cons_succ]
  refine wpAnyH_take (i := 6) (v := ?_) rfl (by kernel_rfl) (by kernel_rfl) (by kernel_rfl) (fun _ _ _ h => h) (Or.inl ⟨by rfl, ?_⟩) hHeld ?_
  rotate_left
  · intro w hSw
    (try dsimp only at hSw)
    go_simp
    all_goals with_reducible rfl
  try simp only [List.getElem_toArray, List.getElem_cons_succ, List.getElem_cons_zero, Act.put, List.setIfInBounds_toArray, List.set_cons_zero, List.set_cons_succ]
  refine wpAnyH_take (i := 7) (v := ?_) rfl (by kernel_rfl) (by kernel_rfl) (by kernel_rfl) (fun _ _ _ h => h) (Or.inl ⟨by rfl, ?_⟩) hHeld ?_
  rotate_left
  · intro w hSw
    (try dsimp only at hSw)
    go_simp
    all_goals with_reducible rfl
  try simp only [List.getElem_toArray, List.getElem_cons_succ, List.getElem_cons_zero, Act.put, List.setIfInBounds_toArray, List.set_cons_zero, List.set_cons_succ]
  refine wpAnyH_take (i := 8) (v := ?_) rfl (by kernel_rfl) (by kernel_rfl) (by kernel_rfl) (fun _ _ _ h => h) (Or.inl ⟨by rfl, ?_⟩) hHeld ?_
  rotate_left
  · intro w hSw
    (try dsimp only at hSw)
    go_simp
    all_goals with_reducible rfl
  try simp only [List.getElem_toArray, List.getElem_cons_succ, List.getElem_cons_zero, Act.put, List.setIfInBounds_toArray, List.set_cons_zero, List.set_cons_succ]
  refine wpAnyH_take (i := 9) (v := ?_) rfl (by kernel_rfl) (by kernel_rfl) (by kernel_rfl) (fun _ _ _ h => h) (Or.inl ⟨by rfl, ?_⟩) hHeld ?_
  rotate_left
  · intro w hSw
    (try dsimp only at hSw)
    go_simp
    all_goals with_reducible rfl
  try simp only [List.getElem_toArray, List.getElem_cons_succ, List.getElem_cons_zero, Act.put, List.setIfInBounds_toArray, List.set_cons_zero, List.set_cons_succ]
  refine wpAnyH_ready (rs := [10]) (by kernel_rfl) (by simp) ?_
  refine AllReadyH.cons rfl (fun K hK => ?_) AllReadyH.nil
  go_simp
  go_at_call 43
  (try go_split_ands)
  with_reducible refine (has_all m.h S.out i f _ _ _ (by assumption)).mono ?_
  rintro e w' ⟨rfl, hw'⟩
  obtain rfl := hw'.symm
  clear hw'
  go_wp2_with fail
  refine hK.out _ _ ?_ (fun hHeld => ?_)
  · ((try dsimp only); (try go_split_ands); refine ⟨?_, ?_, ?_, ?_, ?_⟩ <;> assumption)
  clear hK K
  try simp only [List.getElem_toArray, List.getElem_cons_succ, List.getElem_cons_zero, Act.put, List.setIfInBounds_toArray, List.set_cons_zero, List.set_cons_succ]
  refine wpAnyH_take (i := 11) (v := ?_) rfl (by kernel_rfl) (by kernel_rfl) (by kernel_rfl) (fun _ _ _ h => h) (Or.inl ⟨by rfl, ?_⟩) hHeld ?_
  rotate_left
  · intro w hSw
    (try dsimp only at hSw)
    go_simp
    all_goals with_reducible rfl
  try simp only [List.getElem_toArray, List.getElem_cons_succ, List.getElem_cons_zero, Act.put, List.setIfInBounds_toArray, List.set_cons_zero, List.set_cons_succ]
  refine wpAnyH_take (i := 12) (v := ?_) rfl (by kernel_rfl) (by kernel_rfl) (by kernel_rfl) (fun _ _ _ h => h) (Or.inl ⟨by rfl, ?_⟩) hHeld ?_
  rotate_left
  · intro w hSw
    (try dsimp only at hSw)
    go_simp
    all_goals with_reducible rfl
  try simp only [List.getElem_toArray, List.getElem_cons_succ, List.getElem_cons_zero, Act.put, List.setIfInBounds_toArray, List.set_cons_zero, List.set_cons_succ]
  refine wpAnyH_take (i := 13) (v := ?_) rfl (by kernel_rfl) (by kernel_rfl) (by kernel_rfl) (fun _ _ _ h => h) (Or.inl ⟨by rfl, ?_⟩) hHeld ?_
  rotate_left
  · intro w hSw
    (try dsimp only at hSw)
    go_simp
    all_goals with_reducible rfl
  try simp only [List.getElem_toArray, List.getElem_cons_succ, List.getElem_cons_zero, Act.put, List.setIfInBounds_toArray, List.set_cons_zero, List.set_cons_succ]
  refine wpAnyH_take (i := 14) (v := ?_) rfl (by kernel_rfl) (by kernel_rfl) (by kernel_rfl) (fun _ _ _ h => h) (Or.inl ⟨by rfl, ?_⟩) hHeld ?_
  rotate_left
  · intro w hSw
    (try dsimp only at hSw)
    go_simp
    all_goals with_reducible rfl
  try simp only [List.getElem_toArray, List.getElem_cons_succ, List.getElem_cons_zero, Act.put, List.setIfInBounds_toArray, List.set_cons_zero, List.set_cons_succ]
  refine wpAnyH_take (i := 15) (v := ?_) rfl (by kernel_rfl) (by kernel_rfl) (by kernel_rfl) (fun _ _ _ h => h) (Or.inl ⟨by rfl, ?_⟩) hHeld ?_
  rotate_left
  · intro w hSw
    (try dsimp only at hSw)
    go_simp
    all_goals with_reducible rfl
  try simp only [List.getElem_toArray, List.getElem_cons_succ, List.getElem_cons_zero, Act.put, List.setIfInBounds_toArray, List.set_cons_zero, List.set_cons_succ]
  refine wpAnyH_done (by kernel_rfl) ?_ _
  go_wp2_with fail
  go_ret2
  exact ⟨by simp, by assumption⟩

set_option linter.unusedSimpArgs false in
set_option maxRecDepth 100000 in
set_option maxHeartbeats 4000000 in
theorem mmay_no {m : ModD} {i j : Nat} (hj : j < m.sent.length) (e : Hid ((if okM m then (0 : Int) else 1) = 0)) (f : Hid (hasAll m.h m.sent[j].out i = (false, 1))) (A : Option Addr) (c : Nat) (B : Option Addr) (d : Nat) (w : World) (hM : MemM w A c B d m) :
    Calls Try.prog 30 #[.agg #[.int .i64 m.h, .int .i64 m.cap, .slice A m.l.length c, .int .i64 m.n, .int .i64 m.draws, .slice B m.sent.length d], .int .u64 (i : Int), .int .i64 ((j : Int) + 1)] w fun e w' => e = .returned (.tuple #[.bool false, .int .i64 1]) ∧ Below w.heap.size w w' := by
  have t0 : decide ((j : Int) + 1 < (1 : Int)) = false := decide_eq_false (by omega)
  have t1 : decide ((m.sent.length : Int) < (j : Int) + 1) = false := decide_eq_false (by omega)
  obtain ⟨S, hS⟩ : ∃ S, m.sent[j] = S := ⟨_, rfl⟩
  rw [hS] at f
  have HS := mkHid hS
  clear hS
  have hwj : IntKind.i64.wrap (j : Int) = (j : Int) := by rw [IntKind.wrap_i64]; have := hM.short.1; omega
  have ZX : Hid (Blk (w.alloc (.cells #[.int .i64 m.h, .int .i64 m.cap, .slice A m.l.length c, .int .i64 m.n, .int .i64 m.draws, .slice B m.sent.length d] 45)) w.heap.size 45 #[.int .i64 m.h, .int .i64 m.cap, .slice A m.l.length c, .int .i64 m.n, .int .i64 m.draws, .slice B m.sent.length d]) := mkHid (Blk.new _ _ _)
  have KB : Hid (Below w.heap.size w (w.alloc (.cells #[.int .i64 m.h, .int .i64 m.cap, .slice A m.l.length c, .int .i64 m.n, .int .i64 m.draws, .slice B m.sent.length d] 45))) := mkHid ((Below.refl _ _).alloc (Nat.le_refl _) _)
  have HM := mkHid (hM.below ((Below.refl _ _).alloc (Nat.le_refl _) (.cells #[.int .i64 m.h, .int .i64 m.cap, .slice A m.l.length c, .int .i64 m.n, .int .i64 m.draws, .slice B m.sent.length d] 45)))
  clear hM
  have cZX := ZX.out.six
  have lZX := ZX.out.lt
  go_enter Try.func30, Try.ntmps30
  go_wp2_with fail
  refine (mchk e _ _ _ _ _ HM.out).mono ?_
  rintro e w1 ⟨rfl, hb1⟩
  replace ZX := mkHid (ZX.out.keep hb1)
  replace KB := mkHid (KB.out.step hb1)
  replace HM := mkHid (HM.out.below hb1)
  clear cZX lZX
  have cZX := ZX.out.six
  have lZX := ZX.out.lt
  clear hb1
  go_wp2_with fail
  obtain ⟨b, off, eB, A2, c2, e0, _, _, hR, _⟩ := HM.out.sents j hj
  rw [HS.out] at e0 hR
  subst eB
  have HR := mkHid hR
  clear hR
  have k0 := cZX.1
  have k5 := cZX.2.2.2.2.2
  clear cZX
  have HR' := HR.out.below (Below.drew (Below.refl _ w1))
  have KB' := KB.out.drew
  clear HR KB HM
  refine wp_region_held_drew (S := fun w' => Reads w' A2 S.out ∧ Below w.heap.size w w' ∧ w'.cell? ⟨w.heap.size, 0, none⟩ = some (.int .i64 m.h) ∧ w'.cell? ⟨w.heap.size, 5, none⟩ = some (.slice (some ⟨b, off, none⟩) m.sent.length d) ∧ w'.cell? ⟨b, off + j * 4, none⟩ = some (.slice A2 S.out.length c2)) (by kernel_rfl) ?_ (fun hHeld => ?_)
  · ((try dsimp only); (try go_split_ands); refine ⟨?_, ?_, ?_, ?_, ?_⟩ <;> assumption)
  refine wpAnyH_take (i := 0) (v := ?_) rfl (by kernel_rfl) (by kernel_rfl) (by kernel_rfl) (fun _ _ _ h => h) (Or.inl ⟨by rfl, ?_⟩) hHeld ?_
  rotate_left
  · intro w hSw
    (try dsimp only at hSw)
    go_simp
    all_goals with_reducible rfl
  try simp only [List.getElem_toArray, List.getElem_cons_succ, List.getElem_cons_zero, Act.put, List.setIfInBounds_toArray, List.set_cons_zero, List.set_cons_succ]
  refine wpAnyH_take (i := 1) (v := ?_) rfl (by kernel_rfl) (by kernel_rfl) (by kernel_rfl) (fun _ _ _ h => h) (Or.inl ⟨by rfl, ?_⟩) hHeld ?_
  rotate_left
  · intro w hSw
    (try dsimp only at hSw)
    go_simp
    all_goals with_reducible rfl
  try simp only [List.getElem_toArray, List.getElem_cons_succ, List.getElem_cons_zero, Act.put, List.setIfInBounds_toArray, List.set_cons_zero, List.set_cons_succ]
  refine wpAnyH_take (i := 2) (v := ?_) rfl (by kernel_rfl) (by kernel_rfl) (by kernel_rfl) (fun _ _ _ h => h) (Or.inl ⟨by rfl, ?_⟩) hHeld ?_
  rotate_left
  · intro w hSw
    (try dsimp only at hSw)
    go_simp
    all_goals with_reducible rfl
  try simp only [List.getElem_toArray, List.getElem_cons_succ, List.getElem_cons_zero, Act.put, List.setIfInBounds_toArray, List.set_cons_zero, List.set_cons_succ]
  refine wpAnyH_take (i := 3) (v := ?_) rfl (by kernel_rfl) (by kernel_rfl) (by kernel_rfl) (fun _ _ _ h => h) (Or.inl ⟨by rfl, ?_⟩) hHeld ?_
  rotate_left
  · intro w hSw
    (try dsimp only at hSw)
    go_simp
    all_goals with_reducible rfl
  try simp only [List.getElem_toArray, List.getElem_cons_succ, List.getElem_cons_zero, Act.put, List.setIfInBounds_toArray, List.set_cons_zero, List.set_cons_succ]
  refine wpAnyH_take (i := 4) (v := ?_) rfl (by kernel_rfl) (by kernel_rfl) (by kernel_rfl) (fun _ _ _ h => h) (Or.inl ⟨by rfl, ?_⟩) hHeld ?_
  rotate_left
  · intro w hSw
    (try dsimp only at hSw)
    go_simp
    all_goals with_reducible rfl
  try simp only [List.getElem_toArray, List.getElem_cons_succ, List.getElem_cons_zero, Act.put, List.setIfInBounds_toArray, List.set_cons_zero, List.set_cons_succ]
  refine wpAnyH_take (i := 5) (v := ?_) rfl (by kernel_rfl) (by kernel_rfl) (by kernel_rfl) (fun _ _ _ h => h) (Or.inl ⟨by rfl, ?_⟩) hHeld ?_
  rotate_left
  · intro w hSw
    (try dsimp only at hSw)
    go_simp
    all_goals with_reducible rfl
  try simp only [List.getElem_toArray, List.getElem_cons_succ, List.getElem_cons_zero, Act.put, List.setIfInBounds_toArray, List.set_cons_zero, List.set_cons_succ]
  refine wpAnyH_take (i := 6) (v := ?_) rfl (by kernel_rfl) (by kernel_rfl) (by kernel_rfl) (fun _ _ _ h => h) (Or.inl ⟨by rfl, ?_⟩) hHeld ?_
  rotate_left
  · intro w hSw
    (try dsimp only at hSw)
    go_simp
    all_goals with_reducible rfl
  try simp only [List.getElem_toArray, List.getElem_cons_succ, List.getElem_cons_zero, Act.put, List.setIfInBounds_toArray, List.set_cons_zero, List.set_cons_succ]
  refine wpAnyH_take (i := 7) (v := ?_) rfl (by kernel_rfl) (by kernel_rfl) (by kernel_rfl) (fun _ _ _ h => h) (Or.inl ⟨by rfl, ?_⟩) hHeld ?_
  rotate_left
  · intro w hSw
    (try dsimp only at hSw)
    go_simp
    all_goals with_reducible rfl
  try simp only [List.getElem_toArray, List.getElem_cons_succ, List.getElem_cons_zero, Act.put, List.setIfInBounds_toArray, List.set_cons_zero, List.set_cons_succ]
  refine wpAnyH_take (i := 8) (v := ?_) rfl (by kernel_rfl) (by kernel_rfl) (by kernel_rfl) (fun _ _ _ h => h) (Or.inl ⟨by rfl, ?_⟩) hHeld ?_
  rotate_left
  · intro w hSw
    (try dsimp only at hSw)
    go_simp
    all_goals with_reducible rfl
  try simp only [List.getElem_toArray, List.getElem_cons_succ, List.getElem_cons_zero, Act.put, List.setIfInBounds_toArray, List.set_cons_zero, List.set_cons_succ]
  refine wpAnyH_take (i := 9) (v := ?_) rfl (by kernel_rfl) (by kernel_rfl) (by kernel_rfl) (fun _ _ _ h => h) (Or.inl ⟨by rfl, ?_⟩) hHeld ?_
  rotate_left
  · intro w hSw
    (try dsimp only at hSw)
    go_simp
    all_goals with_reducible rfl
  try simp only [List.getElem_toArray, List.getElem_cons_succ, List.getElem_cons_zero, Act.put, List.setIfInBounds_toArray, List.set_cons_zero, List.set_cons_succ]
  refine wpAnyH_ready (rs := [10]) (by kernel_rfl) (by simp) ?_
  refine AllReadyH.cons rfl (fun K hK => ?_) AllReadyH.nil
  go_simp
  go_at_call 43
  (try go_split_ands)
  with_reducible refine (has_all m.h S.out i f _ _ _ (by assumption)).mono ?_
  rintro e w' ⟨rfl, hw'⟩
  obtain rfl := hw'.symm
  clear hw'
  go_wp2_with fail
  refine hK.out _ _ ?_ (fun hHeld => ?_)
  · ((try dsimp only); (try go_split_ands); refine ⟨?_, ?_, ?_, ?_, ?_⟩ <;> assumption)
  clear hK K
  try simp only [List.getElem_toArray, List.getElem_cons_succ, List.getElem_cons_zero, Act.put, List.setIfInBounds_toArray, List.set_cons_zero, List.set_cons_succ]
  refine wpAnyH_take (i := 11) (v := ?_) rfl (by kernel_rfl) (by kernel_rfl) (by kernel_rfl) (fun _ _ _ h => h) (Or.inl ⟨by rfl, ?_⟩) hHeld ?_
  rotate_left
  · intro w hSw
    (try dsimp only at hSw)
    go_simp
    all_goals with_reducible rfl
  try simp only [List.getElem_toArray, List.getElem_cons_succ, List.getElem_cons_zero, Act.put, List.setIfInBounds_toArray, List.set_cons_zero, List.set_cons_succ]
  refine wpAnyH_take (i := 12) (v := ?_) rfl (by kernel_rfl) (by kernel_rfl) (by kernel_rfl) (fun _ _ _ h => h) (Or.inl ⟨by rfl, ?_⟩) hHeld ?_
  rotate_left
  · intro w hSw
    (try dsimp only at hSw)
    go_simp
    all_goals with_reducible rfl
  try simp only [List.getElem_toArray, List.getElem_cons_succ, List.getElem_cons_zero, Act.put, List.setIfInBounds_toArray, List.set_cons_zero, List.set_cons_succ]
  refine wpAnyH_take (i := 13) (v := ?_) rfl (by kernel_rfl) (by kernel_rfl) (by kernel_rfl) (fun _ _ _ h => h) (Or.inl ⟨by rfl, ?_⟩) hHeld ?_
  rotate_left
  · intro w hSw
    (try dsimp only at hSw)
    go_simp
    all_goals with_reducible rfl
  try simp only [List.getElem_toArray, List.getElem_cons_succ, List.getElem_cons_zero, Act.put, List.setIfInBounds_toArray, List.set_cons_zero, List.set_cons_succ]
  refine wpAnyH_take (i := 14) (v := ?_) rfl (by kernel_rfl) (by kernel_rfl) (by kernel_rfl) (fun _ _ _ h => h) (Or.inl ⟨by rfl, ?_⟩) hHeld ?_
  rotate_left
  · intro w hSw
    (try dsimp only at hSw)
    go_simp
    all_goals with_reducible rfl
  try simp only [List.getElem_toArray, List.getElem_cons_succ, List.getElem_cons_zero, Act.put, List.setIfInBounds_toArray, List.set_cons_zero, List.set_cons_succ]
  refine wpAnyH_take (i := 15) (v := ?_) rfl (by kernel_rfl) (by kernel_rfl) (by kernel_rfl) (fun _ _ _ h => h) (Or.inl ⟨by rfl, ?_⟩) hHeld ?_
  rotate_left
  · intro w hSw
    (try dsimp only at hSw)
    go_simp
    all_goals with_reducible rfl
  try simp only [List.getElem_toArray, List.getElem_cons_succ, List.getElem_cons_zero, Act.put, List.setIfInBounds_toArray, List.set_cons_zero, List.set_cons_succ]
  refine wpAnyH_done (by kernel_rfl) ?_ _
  go_wp2_with fail
  go_ret2
  exact ⟨by simp, by assumption⟩

/-- what May answers -/
def mayM (m : ModD) (i : Nat) (n : Int) : Bool × Int :=
  if okM m ∧ 1 ≤ n then match m.sent[(n - 1).toNat]? with
    | some s => (decide ((hasAll m.h s.out i).2 = 0) && !(hasAll m.h s.out i).1, (hasAll m.h s.out i).2)
    | none => (false, 1)
  else (false, 1)
theorem okM_or (m : ModD) : (if okM m then (0 : Int) else 1) = 0 ∨ (if okM m then (0 : Int) else 1) = 1 := by cases okM m <;> simp
theorem mmay {m : ModD} {i : Nat} {n : Int} {z : Bool} {r : Int} (e : Hid (mayM m i n = (z, r))) (A : Option Addr) (c : Nat) (B : Option Addr) (d : Nat) (w : World) (hM : MemM w A c B d m) :
    Calls Try.prog 30 #[.agg #[.int .i64 m.h, .int .i64 m.cap, .slice A m.l.length c, .int .i64 m.n, .int .i64 m.draws, .slice B m.sent.length d], .int .u64 (i : Int), .int .i64 n] w fun e w' => e = .returned (.tuple #[.bool z, .int .i64 r]) ∧ Below w.heap.size w w' := by
  have e' := e.out
  unfold mayM at e'
  cases hk : okM m
  · rw [hk, if_neg (by simp)] at e'
    cases e'
    exact mmay_bad (mkHid (by rw [hk]; rfl)) A c B d w hM
  · rw [hk] at e'
    have hk' : Hid ((if okM m then (0 : Int) else 1) = 0) := mkHid (by rw [hk]; rfl)
    by_cases h0 : n < 1
    · rw [if_neg (by omega)] at e'
      cases e'
      exact mmay_low hk' h0 A c B d w hM
    · rw [if_pos ⟨rfl, by omega⟩] at e'
      by_cases h1 : (m.sent.length : Int) < n
      · rw [List.getElem?_eq_none (by omega)] at e'
        cases e'
        exact mmay_high hk' h0 h1 A c B d w hM
      · obtain ⟨j, rfl⟩ : ∃ j : Nat, n = (j : Int) + 1 := ⟨(n - 1).toNat, by omega⟩
        have hj : j < m.sent.length := by omega
        rw [show ((j : Int) + 1 - 1).toNat = j by omega, List.getElem?_eq_getElem hj] at e'
        dsimp only at e'
        rcases hasAll_or m.h m.sent[j].out i with ha | ⟨k, _, _, _, _, _, ha⟩
        · rw [ha] at e'
          cases e'
          exact mmay_no hj hk' (mkHid ha) A c B d w hM
        · rw [ha] at e'
          cases e'
          exact mmay_yes hj hk' (mkHid ha) A c B d w hM
end Go.Proofs.Ytmehbonjpmlmfaa

namespace Go.Proofs.Ytmehbonjpmlmfaa
open Go.RowKit

/-- at the address there are these cells, one behind the other -/
def RowAt (w : World) (A : Option Addr) (cs : List Value) : Prop := ∀ j u, cs[j]? = some u → ∃ ad, A = some ad ∧ w.cell? (ad.add j) = some u
theorem RowAt.below {w w1 : World} {A : Option Addr} {cs : List Value} (h : RowAt w A cs) (hb : Below w.heap.size w w1) : RowAt w1 A cs := fun j u hj => by
  obtain ⟨ad, e, c⟩ := h j u hj
  exact ⟨ad, e, keeps hb c⟩
theorem RowAt.some {w : World} {ad : Addr} {cs : List Value} (h : RowAt w (some ad) cs) : ∀ j u, cs[j]? = Option.some u → w.cell? (ad.add j) = Option.some u := fun j u hj => by
  obtain ⟨ad', e, c⟩ := h j u hj
  cases e
  exact c
theorem RowAt.none_nil {w : World} {cs : List Value} (h : RowAt w none cs) : cs = [] := by
  cases cs with
  | nil => rfl
  | cons x l =>
    obtain ⟨ad, e, _⟩ := h 0 x rfl
    cases e
theorem RowAt.nil (w : World) (A : Option Addr) : RowAt w A [] := fun j u hj => by simp at hj
theorem RowAt.of_own {w : World} {base : Nat} {e : TypeId} {size n : Nat} {v : Value} {cs : List Value} (h : w.ownsRow base e size v n cs) : ∃ A c, v = .slice A n c ∧ n ≤ c ∧ c ≤ maxLen ∧ RowAt w A cs ∧ (A = none → c = 0) ∧ (∀ g, A = Option.some g → ∃ b, g = ⟨b, 0, none⟩ ∧ base ≤ b ∧ b < w.heap.size) := by
  rcases h.2 with ⟨rfl, h0⟩ | ⟨g, cap, cur, rfl, hb, hg, h1, h2, _⟩
  · subst h0
    have hl := h.1
    obtain rfl : cs = [] := List.length_eq_zero_iff.1 (by omega)
    exact ⟨none, 0, rfl, Nat.le_refl _, Nat.zero_le _, RowAt.nil _ _, fun _ => rfl, fun _ e => by cases e⟩
  · exact ⟨_, cap, rfl, h1, h2, fun j u hj => ⟨_, rfl, h.cells (g := g) rfl j u hj⟩, fun e => (by cases e), fun g' e => by cases e; exact ⟨g, rfl, hb, (Array.getElem?_eq_some_iff.1 hg).1⟩⟩
end Go.Proofs.Ytmehbonjpmlmfaa

namespace Go.Proofs.Ytmehbonjpmlmfaa
open Go.RowKit

/-- what was sent, with where its list lies -/
structure SX where
  a : Option Addr
  c : Nat
  s : SentD
def sxCells (x : SX) : List Value := [.slice x.a x.s.out.length x.c, .int .i64 (x.s.draw : Int), .int .u64 (x.s.p.1.toNat : Int), .int .u64 (x.s.p.2.toNat : Int)]
def sentCells (X : List SX) : List Value := X.flatMap sxCells
theorem sentCells_length (X : List SX) : (sentCells X).length = X.length * 4 := by
  induction X with
  | nil => rfl
  | cons x X ih =>
    have e : sentCells (x :: X) = sxCells x ++ sentCells X := rfl
    rw [e, List.length_append, ih, List.length_cons]
    have : (sxCells x).length = 4 := rfl
    omega
theorem sentCells_append (X Y : List SX) : sentCells (X ++ Y) = sentCells X ++ sentCells Y := by simp [sentCells]
theorem sentCells_one (X : List SX) : ∀ u ∈ sentCells X, u.oneCell' = true := by
  intro u hu
  obtain ⟨x, _, h⟩ := List.mem_flatMap.1 hu
  simp only [sxCells, List.mem_cons, List.not_mem_nil, or_false] at h
  rcases h with rfl | rfl | rfl | rfl <;> rfl
theorem sentCells_get (X : List SX) : ∀ i (hi : i < X.length) (k : Nat), k < 4 → (sentCells X)[i * 4 + k]? = (sxCells X[i])[k]? := by
  induction X with
  | nil => intro i hi; simp at hi
  | cons x X ih =>
    intro i hi k hk
    have e : sentCells (x :: X) = sxCells x ++ sentCells X := rfl
    have l : (sxCells x).length = 4 := rfl
    rw [e]
    cases i with
    | zero => rw [List.getElem?_append_left (by omega)]; simp
    | succ i =>
      rw [List.getElem?_append_right (by omega), l, show (i + 1) * 4 + k - 4 = i * 4 + k by omega]
      simpa using ih i (by simpa using hi) k hk
/-- what is known of the lists behind -/
structure SXok (w : World) (x : SX) : Prop where
  l1 : x.s.out.length ≤ x.c
  l2 : x.c ≤ maxLen
  reads : Reads w x.a x.s.out
  nil : x.a = none → x.c = 0
theorem SXok.below {w w1 : World} {x : SX} (h : SXok w x) (hb : Below w.heap.size w w1) : SXok w1 x := ⟨h.l1, h.l2, h.reads.below hb, h.nil⟩
theorem addr_add (b off j : Nat) : (⟨b, off, none⟩ : Addr).add j = ⟨b, off + j, none⟩ := by unfold Addr.add; split <;> simp_all
/-- rows out of what is known of each -/
theorem SentIn.rows {w : World} : ∀ {S : List SentD} {b off : Nat}, (∀ i (hi : i < S.length), SentAt w b off i S[i]) → ∃ X : List SX, X.map (·.s) = S ∧ (∀ x ∈ X, SXok w x) ∧ ∀ j u, (sentCells X)[j]? = some u → w.cell? ⟨b, off + j, none⟩ = some u
  | [], b, off, _ => ⟨[], rfl, fun x hx => by simp at hx, fun j u hj => by simp [sentCells] at hj⟩
  | s :: S, b, off, h => by
    obtain ⟨X, e, hX, hc⟩ := SentIn.rows (w := w) (S := S) (b := b) (off := off + 4) fun i hi => by
      have := h (i + 1) (by simpa using hi)
      simp only [List.getElem_cons_succ] at this
      obtain ⟨A, c, h0, h1, h2, h3, h4, h5, h6, h7⟩ := this
      refine ⟨A, c, ?_, h1, h2, h3, h4, ?_, ?_, ?_⟩
      · rw [show off + 4 + i * 4 = off + (i + 1) * 4 by omega]; exact h0
      · rw [show off + 4 + i * 4 = off + (i + 1) * 4 by omega]; exact h5
      · rw [show off + 4 + i * 4 = off + (i + 1) * 4 by omega]; exact h6
      · rw [show off + 4 + i * 4 = off + (i + 1) * 4 by omega]; exact h7
    obtain ⟨A, c, h0, h1, h2, h3, h4, h5, h6, h7⟩ := h 0 (by simp)
    simp only [List.getElem_cons_zero, Nat.zero_mul, Nat.add_zero] at h0 h1 h3 h5 h6 h7
    refine ⟨⟨A, c, s⟩ :: X, by rw [List.map_cons, e], ?_, ?_⟩
    · intro x hx
      rcases List.mem_cons.1 hx with rfl | hx
      · exact ⟨h1, h2, h3, h4⟩
      · exact hX x hx
    · intro j u hj
      have e2 : sentCells (⟨A, c, s⟩ :: X) = sxCells ⟨A, c, s⟩ ++ sentCells X := rfl
      have l : (sxCells ⟨A, c, s⟩).length = 4 := rfl
      rw [e2] at hj
      by_cases hj4 : j < 4
      · rw [List.getElem?_append_left (by omega)] at hj
        match j, hj4, hj with
        | 0, _, hj => simp only [sxCells, List.getElem?_cons_zero, Option.some.injEq] at hj; rw [← hj]; exact h0
        | 1, _, hj => simp only [sxCells, List.getElem?_cons_succ, List.getElem?_cons_zero, Option.some.injEq] at hj; rw [← hj]; exact h5
        | 2, _, hj => simp only [sxCells, List.getElem?_cons_succ, List.getElem?_cons_zero, Option.some.injEq] at hj; rw [← hj]; exact h6
        | 3, _, hj => simp only [sxCells, List.getElem?_cons_succ, List.getElem?_cons_zero, Option.some.injEq] at hj; rw [← hj]; exact h7
      · rw [List.getElem?_append_right (by omega), l] at hj
        have := hc _ _ hj
        rw [show off + 4 + (j - 4) = off + j by omega] at this
        exact this
theorem SentIn.toRows {w : World} {B : Option Addr} {S : List SentD} (h : SentIn w B S) : ∃ X : List SX, X.map (·.s) = S ∧ (∀ x ∈ X, SXok w x) ∧ RowAt w B (sentCells X) := by
  cases S with
  | nil => exact ⟨[], rfl, fun x hx => by simp at hx, RowAt.nil _ _⟩
  | cons s S =>
    obtain ⟨b, off, rfl, _⟩ := h 0 (by simp)
    obtain ⟨X, e, hX, hc⟩ := SentIn.rows (w := w) (S := s :: S) (b := b) (off := off) fun i hi => by
      obtain ⟨b', off', e, h'⟩ := h i hi
      cases e
      exact h'
    exact ⟨X, e, hX, fun j u hj => ⟨_, rfl, by rw [addr_add]; exact hc j u hj⟩⟩
/-- and back -/
theorem SentIn.ofRows {w : World} {X : List SX} {A : Option Addr} (hr : RowAt w A (sentCells X)) (hA : ∀ g, A = some g → g.spot = none) (hX : ∀ x ∈ X, SXok w x) : SentIn w A (X.map (·.s)) := fun i hi => by
  rw [List.length_map] at hi
  have g0 := sentCells_get X i hi 0 (by omega)
  have g1 := sentCells_get X i hi 1 (by omega)
  have g2 := sentCells_get X i hi 2 (by omega)
  have g3 := sentCells_get X i hi 3 (by omega)
  simp only [sxCells, List.getElem?_cons_succ, List.getElem?_cons_zero, Nat.add_zero] at g0 g1 g2 g3
  obtain ⟨ad, rfl, c0⟩ := hr _ _ g0
  have c1 := hr.some _ _ g1
  have c2 := hr.some _ _ g2
  have c3 := hr.some _ _ g3
  obtain ⟨b, off, sp⟩ := ad
  have : sp = none := hA _ rfl
  subst this
  rw [addr_add] at c0 c1 c2 c3
  have k := hX X[i] (List.getElem_mem hi)
  refine ⟨b, off, rfl, X[i].a, X[i].c, ?_, ?_, k.l2, ?_, k.nil, ?_, ?_, ?_⟩ <;> rw [List.getElem_map]
  · exact c0
  · exact k.l1
  · exact k.reads
  · exact c1
  · exact c2
  · exact c3

theorem info_csent : (Try.prog.info? 66).map (fun i => (i.zero, i.size, i.bytes)) = some (some (.agg #[.slice none 0 0, .int .i64 0, .int .u64 0, .int .u64 0]), 4, 48) := by kernel_rfl
set_option maxRecDepth 100000 in
set_option maxHeartbeats 2000000 in
theorem csent_some (ad : Addr) (n c : Nat) (cs : List Value) (hl : cs.length = n * 4) (hn : n ≤ 1048576) (h1 : ∀ u ∈ cs, u.oneCell' = true) (w : World) (hA : RowAt w (some ad) cs) :
    Calls Try.prog 67 #[.slice (some ad) n c] w fun e w' => ∃ v, e = .returned v ∧ w'.ownsRow w.heap.size 66 4 v n cs ∧ Below w.heap.size w w' := by
  obtain ⟨i0, hi, hz0, hz1, hz2⟩ := info_parts info_csent
  have HN := mkHid (fun wc hb => (hA.below (w1 := wc) hb).some)
  clear hA
  have q22 : ∀ (w : World) (a : Option Addr) (n c n' c' : Nat), (binOp .eql 43 (.slice a n c) (.slice none n' c')).run Try.prog w = .ok (.bool a.isNone) w := fun w a n c n' c' => Lib.run_eql_slice_nil w _ _ a n c n' c' Try.underlying43
  go_enter Try.func67, Try.ntmps67
  go_wp2_with (at_builtin; refine wpList_append_own _ rfl _ _ 43 rfl w.heap.size 66 i0 (.agg #[.slice none 0 0, .int .i64 0, .int .u64 0, .int .u64 0]) 4 48 Try.underlying43 hi hz0 hz1 hz2 rfl (by decide) _ _ _ rfl (World.ownsRow_made w #[] 0 (Nat.le_refl _) (Nat.zero_le _) rfl) ad n c cs rfl ?qc1 ?qc2 ?qc3 ?qc4 ?qc5 ?qc6 ?_)
  case qc1 => omega
  case qc2 => exact HN.out _ ((Below.refl _ w).alloc (Nat.le_refl _) _)
  case qc3 => exact h1
  case qc4 => unfold maxLen; omega
  case qc5 => omega
  case qc6 => simp
  intro v' w1 hown hgrow hnil
  go_wp2
  go_ret
  refine ⟨v', rfl, by simpa using hown, ?_⟩
  exact ((Below.refl _ w).alloc (Nat.le_refl _) _).grown hgrow (by simp) (by intro k hk; simp [Value.ownBlock] at hk; omega)
set_option maxHeartbeats 1000000 in
theorem csent_nil (n c : Nat) (w : World) :
    Calls Try.prog 67 #[.slice none n c] w fun e w' => e = .returned (.slice none 0 0) ∧ w' = w := by
  have q22 : ∀ (w : World) (a : Option Addr) (n c n' c' : Nat), (binOp .eql 43 (.slice a n c) (.slice none n' c')).run Try.prog w = .ok (.bool a.isNone) w := fun w a n c n' c' => Lib.run_eql_slice_nil w _ _ a n c n' c' Try.underlying43
  go_enter Try.func67, Try.ntmps67
  go_wp2
  go_ret
  exact ⟨rfl, rfl⟩
theorem csent_any (A : Option Addr) (n c : Nat) (cs : List Value) (hl : cs.length = n * 4) (hn : n ≤ 1048576) (h1 : ∀ u ∈ cs, u.oneCell' = true) (w : World) (hA : RowAt w A cs) :
    Calls Try.prog 67 #[.slice A n c] w fun e w' => ∃ v, e = .returned v ∧ w'.ownsRow w.heap.size 66 4 v n cs ∧ Below w.heap.size w w' := by
  cases A with
  | some ad => exact csent_some ad n c cs hl hn h1 w hA
  | none =>
    obtain rfl := hA.none_nil
    obtain rfl : n = 0 := by simp at hl; omega
    exact (csent_nil 0 c w).mono fun e w' ⟨h1, h2⟩ => ⟨_, h1, by subst h2; exact World.ownsRow_nil _ _ _ _, by subst h2; exact Below.refl _ _⟩
end Go.Proofs.Ytmehbonjpmlmfaa

namespace Go.Proofs.Ytmehbonjpmlmfaa
open Go.RowKit

section
variable {P : Program} {ops : Array Oper} {Q : Exit → Act → World → Prop} {md : Region.Mode} {S : World → Prop} {late : Nat → Bool}

/-- whatever comes up next; S holds behind what is not late -/
def Any (P : Program) (md : Region.Mode) (ops : Array Oper) (Q : Exit → Act → World → Prop) (late : Nat → Bool) (S : World → Prop) : Nat → Array Bool → Act → World → Prop
  | 0, done, a, w => Region.ready md ops done = [] ∧ Q .normal a w
  | n + 1, done, a, w => (Region.ready md ops done = [] → Q .normal a w) ∧
      ∀ k ∈ Region.ready md ops done, wpOp P ops Q k (fun b u => (late k = false → S u) ∧ Any P md ops Q late S n (done.setIfInBounds k true) b u) a w
theorem Any.plain : ∀ (n : Nat) (done : Array Bool) (a : Act) (w : World), Any P md ops Q late S n done a w → wpAny P md ops Q n done a w
  | 0, _, _, _, h => h
  | n + 1, _, _, _, h => ⟨h.1, fun k hk => wpOp_mono (fun b u q => Any.plain n _ b u q.2) (h.2 k hk)⟩
/-- all late ones that have not come up wait for number i -/
def Waits (md : Region.Mode) (ops : Array Oper) (late : Nat → Bool) (done : Array Bool) (i : Nat) : Bool :=
  (List.range ops.size).all fun k => !late k || k == i || done.getD k true || match ops[k]? with
    | some o => o.after.any fun e => Region.binds md e && e.on == i
    | none => true
theorem Waits.out {done : Array Bool} {i : Nat} (h : Waits md ops late done i = true) {k : Nat} {o : Oper} (hk : ops[k]? = some o) (hi : k ≠ i) (hd : done.getD k true = false) (hl : late k = true) :
    ∃ e ∈ o.after, Region.binds md e = true ∧ e.on = i := by
  unfold Waits at h
  rw [List.all_eq_true] at h
  have q := h k (List.mem_range.2 (Array.getElem?_eq_some_iff.1 hk).1)
  rw [hk, hl, hd] at q
  simp only [Bool.not_true, Bool.false_or, Bool.or_false, Bool.or_eq_true, beq_iff_eq, hi, false_or] at q
  obtain ⟨e, he, hb⟩ := Array.any_eq_true'.1 q
  rw [Bool.and_eq_true, beq_iff_eq] at hb
  exact ⟨e, he, hb.1, hb.2⟩
theorem Any.first {i : Nat} {x : Oper} {v : Value} (hx : ops[i]? = some x) (hsel : ∀ (j : Nat) (o : Oper) cs b, ops[j]? = some o → o.op ≠ .select cs b)
    (hQ : ∀ c a w, Q (.panic c) (a.put x.dst v) w → Q (.panic c) a w) (n : Nat) : ∀ (done : Array Bool) (a : Act) (w : World),
      (∀ k o, ops[k]? = some o → k ≠ i → done.getD k true = false → (∀ e ∈ o.after, Region.binds md e = true → e.on ≠ i) → x.apart ops o = true ∧ late k = false) →
      i ∈ Region.ready md ops done → YieldsIf P ops S x v a → S w →
      Any P md ops Q late S n (done.setIfInBounds i true) (a.put x.dst v) w → Any P md ops Q late S (n + 1) done a w := by
  induction n with
  | zero =>
    intro done a w _ hr hy hS H
    refine ⟨fun e => (by rw [e] at hr; cases hr), fun k hk => ?_⟩
    by_cases c : k = i
    · subst c; exact hy.wpOp hx hS ⟨fun _ => hS, H⟩
    · have q := ready_mono hk c
      rw [H.1] at q
      cases q
  | succ n ih =>
    intro done a w hfree hr hy hS H
    refine ⟨fun e => (by rw [e] at hr; cases hr), fun k hk => ?_⟩
    by_cases c : k = i
    · subst c; exact hy.wpOp hx hS ⟨fun _ => hS, H⟩
    · obtain ⟨hun, o, ho, hall⟩ := mem_ready.1 hk
      have hno : ∀ e ∈ o.after, Region.binds md e = true → e.on ≠ i := fun e he hb heq => by
        have q1 := hall e he hb
        have q0 := (mem_ready.1 hr).1
        rw [heq] at q1
        rcases Nat.lt_or_ge i done.size with l | l
        · simp [l] at q0 q1; rw [q0] at q1; cases q1
        · simp [Array.getElem?_eq_none l] at q1
      obtain ⟨hap, hlt⟩ := hfree k o ho c hun hno
      have hfree2 : ∀ j p, ops[j]? = some p → j ≠ i → (done.setIfInBounds k true).getD j true = false → (∀ e ∈ p.after, Region.binds md e = true → e.on ≠ i) → x.apart ops p = true ∧ late j = false := fun j p hj hji hu hn => by
        refine hfree j p hj hji ?_ hn
        by_cases cjk : k = j
        · subst cjk; exact hun
        · rw [getD_set_ne true cjk] at hu; exact hu
      refine wpOp_mono (fun b u q => ⟨q.2.1, ih (done.setIfInBounds k true) b u hfree2 (ready_mono hr (Ne.symm c)) q.1 (q.2.1 hlt) ?_⟩) (wpOp_putIf ho hap (fun cs b => hsel i x cs b hx) (fun cs b => hsel k o cs b ho) hQ hy (H.2 k (ready_mono hk c)))
      rw [Array.setIfInBounds_comm _ _ c]
      exact q.2.2
/-- number i is taken first -/
theorem Any.take {i : Nat} {x : Oper} {v : Value} {n : Nat} {done : Array Bool} {a : Act} {w : World} (hx : ops[i]? = some x)
    (hs : Region.noSelect ops = true) (hf : Region.free md ops done i = true) (hr : (Region.ready md ops done).contains i = true) (hw : Waits md ops late done i = true)
    (hQ : ∀ c a w, Q (.panic c) (a.put x.dst v) w → Q (.panic c) a w) (hy : YieldsIf P ops S x v a) (hS : S w)
    (h : Any P md ops Q late S n (done.setIfInBounds i true) (a.put x.dst v) w) : Any P md ops Q late S (n + 1) done a w :=
  Any.first hx (Region.noSelect_spec hs) hQ n done a w (fun k o hk hi hd hno => ⟨Region.free_spec hx hf k o hk hi hd hno, by
    cases hl : late k
    · rfl
    · obtain ⟨e, he, hb, e1⟩ := Waits.out hw hk hi hd hl
      exact absurd e1 (hno e he hb)⟩) (by simpa using hr) hy hS h
/-- each of those that may come up, and what is behind it -/
def AllAny (P : Program) (md : Region.Mode) (ops : Array Oper) (Q : Exit → Act → World → Prop) (late : Nat → Bool) (S : World → Prop) (n : Nat) (done : Array Bool) (a : Act) (w : World) (rs : List Nat) : Prop :=
  ∀ k ∈ rs, wpOp P ops Q k (fun b u => (late k = false → S u) ∧ Any P md ops Q late S n (done.setIfInBounds k true) b u) a w
theorem AllAny.nil {n : Nat} {done : Array Bool} {a : Act} {w : World} : AllAny P md ops Q late S n done a w [] := fun _ h => by cases h
theorem AllAny.cons {n : Nat} {done : Array Bool} {a : Act} {w : World} {i : Nat} {o : Oper} {rs : List Nat} (ho : ops[i]? = some o) (hl : late i = false)
    (h : ∀ K : Act → World → Prop, Shut (∀ b u, S u → (S u → Any P md ops Q late S n (done.setIfInBounds i true) b u) → K b u) → if Region.wanted o (yielded ops a.tmps) = true then Oper.wp P o a w K Q else K (a.put o.dst undef) w)
    (hs : AllAny P md ops Q late S n done a w rs) : AllAny P md ops Q late S n done a w (i :: rs) := fun j hj => by
  rcases List.mem_cons.1 hj with rfl | hj
  · exact wpOp_step ho (fun K hK => h K (fun b u hS hW => hK b u ⟨fun _ => hS, hW hS⟩))
  · exact hs j hj
theorem AllAny.lateCons {n : Nat} {done : Array Bool} {a : Act} {w : World} {i : Nat} {o : Oper} {rs : List Nat} (ho : ops[i]? = some o) (hl : late i = true)
    (h : ∀ K : Act → World → Prop, Shut (∀ b u, Any P md ops Q late S n (done.setIfInBounds i true) b u → K b u) → if Region.wanted o (yielded ops a.tmps) = true then Oper.wp P o a w K Q else K (a.put o.dst undef) w)
    (hs : AllAny P md ops Q late S n done a w rs) : AllAny P md ops Q late S n done a w (i :: rs) := fun j hj => by
  rcases List.mem_cons.1 hj with rfl | hj
  · exact wpOp_step ho (fun K hK => h K (fun b u hW => hK b u ⟨fun q => (by rw [hl] at q; cases q), hW⟩))
  · exact hs j hj
theorem Any.ready {rs : List Nat} {n : Nat} {done : Array Bool} {a : Act} {w : World} (hr : Region.ready md ops done = rs) (hne : rs ≠ []) (h : AllAny P md ops Q late S n done a w rs) : Any P md ops Q late S (n + 1) done a w :=
  ⟨fun e => absurd (hr ▸ e) hne, hr ▸ h⟩
theorem Any.done {done : Array Bool} {a : Act} {w : World} (hr : Region.ready md ops done = []) (h : Q .normal a w) : ∀ n, Any P md ops Q late S n done a w
  | 0 => ⟨hr, h⟩
  | _ + 1 => ⟨fun _ => h, by rw [hr]; simp⟩
theorem wp_region_late {id : Nat} {a : Act} {w : World} (late : Nat → Bool) (S : World → Prop) (hm : P.follows .mixedOrders = true) (hS : S w.drew)
    (h : S w.drew → Any P .any ops Q late S ops.size (Array.replicate ops.size false) a w.drew) : (Code.region id ops true).wp P Q a w :=
  wp_region_any hm (Any.plain _ _ _ _ (h hS))
end
end Go.Proofs.Ytmehbonjpmlmfaa
