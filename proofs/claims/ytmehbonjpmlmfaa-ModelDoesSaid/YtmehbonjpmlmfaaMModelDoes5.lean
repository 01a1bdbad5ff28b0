/- 'ModelDoes' returns true for every input, and each argument reads behind the call as it did before it: no condition (the proof's last part). -/
import Derived.Test.YtmehbonjpmlmfaaMModelDoes4
namespace Go.Proofs.Ytmehbonjpmlmfaa
open Go.RowKit

set_option maxRecDepth 100000 in
set_option maxHeartbeats 4000000 in
theorem rmsame_0 {h cap n dr h' cap' n' dr' : Int} {s t : List Nat} {S T : List SentD} (t0 : (h == h') = false)  (_hl : Hid (s.length < 4611686018427387904)) (A A' B B' : Option Addr) (c c' d d' : Nat) (w : World) (hA : Reads w A s) (hA' : Reads w A' t) (hS : SentIn w B S) (hT : SentIn w B' T) :
    Calls Try.prog 36 #[.agg #[.int .i64 h, .int .i64 cap, .slice A s.length c, .int .i64 n, .int .i64 dr, .slice B S.length d], .agg #[.int .i64 h', .int .i64 cap', .slice A' t.length c', .int .i64 n', .int .i64 dr', .slice B' T.length d']] w fun e w' => e = .returned (.bool false) ∧ Below w.heap.size w w' := by
  have u0 : (h != h') = true := by unfold bne; rw [t0]; rfl
  have KB : Hid (Below w.heap.size w ((w.alloc (.cells #[.int .i64 h, .int .i64 cap, .slice A s.length c, .int .i64 n, .int .i64 dr, .slice B S.length d] 45)).alloc (.cells #[.int .i64 h', .int .i64 cap', .slice A' t.length c', .int .i64 n', .int .i64 dr', .slice B' T.length d'] 45))) := mkHid (((Below.refl _ _).alloc (Nat.le_refl _) (.cells #[.int .i64 h, .int .i64 cap, .slice A s.length c, .int .i64 n, .int .i64 dr, .slice B S.length d] 45)).alloc (by simp) (.cells #[.int .i64 h', .int .i64 cap', .slice A' t.length c', .int .i64 n', .int .i64 dr', .slice B' T.length d'] 45))
  have HA := mkHid (hA.below (((Below.refl _ _).alloc (Nat.le_refl _) (.cells #[.int .i64 h, .int .i64 cap, .slice A s.length c, .int .i64 n, .int .i64 dr, .slice B S.length d] 45)).alloc (by simp) (.cells #[.int .i64 h', .int .i64 cap', .slice A' t.length c', .int .i64 n', .int .i64 dr', .slice B' T.length d'] 45)))
  have HB := mkHid (hA'.below (((Below.refl _ _).alloc (Nat.le_refl _) (.cells #[.int .i64 h, .int .i64 cap, .slice A s.length c, .int .i64 n, .int .i64 dr, .slice B S.length d] 45)).alloc (by simp) (.cells #[.int .i64 h', .int .i64 cap', .slice A' t.length c', .int .i64 n', .int .i64 dr', .slice B' T.length d'] 45)))
  have HS := mkHid (hS.below (((Below.refl _ _).alloc (Nat.le_refl _) (.cells #[.int .i64 h, .int .i64 cap, .slice A s.length c, .int .i64 n, .int .i64 dr, .slice B S.length d] 45)).alloc (by simp) (.cells #[.int .i64 h', .int .i64 cap', .slice A' t.length c', .int .i64 n', .int .i64 dr', .slice B' T.length d'] 45)))
  have HT := mkHid (hT.below (((Below.refl _ _).alloc (Nat.le_refl _) (.cells #[.int .i64 h, .int .i64 cap, .slice A s.length c, .int .i64 n, .int .i64 dr, .slice B S.length d] 45)).alloc (by simp) (.cells #[.int .i64 h', .int .i64 cap', .slice A' t.length c', .int .i64 n', .int .i64 dr', .slice B' T.length d'] 45)))
  have ZX : Hid (Blk ((w.alloc (.cells #[.int .i64 h, .int .i64 cap, .slice A s.length c, .int .i64 n, .int .i64 dr, .slice B S.length d] 45)).alloc (.cells #[.int .i64 h', .int .i64 cap', .slice A' t.length c', .int .i64 n', .int .i64 dr', .slice B' T.length d'] 45)) w.heap.size 45 #[.int .i64 h, .int .i64 cap, .slice A s.length c, .int .i64 n, .int .i64 dr, .slice B S.length d]) := mkHid ((Blk.new _ _ _).alloc _)
  have ZY : Hid (Blk ((w.alloc (.cells #[.int .i64 h, .int .i64 cap, .slice A s.length c, .int .i64 n, .int .i64 dr, .slice B S.length d] 45)).alloc (.cells #[.int .i64 h', .int .i64 cap', .slice A' t.length c', .int .i64 n', .int .i64 dr', .slice B' T.length d'] 45)) (w.heap.size + 1) 45 #[.int .i64 h', .int .i64 cap', .slice A' t.length c', .int .i64 n', .int .i64 dr', .slice B' T.length d']) := mkHid (Blk.at _ _ _ (by simp))
  clear hA hA' hS hT
  have cZX := ZX.out.six
  have lZX := ZX.out.lt
  have cZY := ZY.out.six
  have lZY := ZY.out.lt
  go_enter Try.func36, Try.ntmps36
  go_wp2_with fail
  go_ret
  exact ⟨rfl, KB.out⟩

set_option maxRecDepth 100000 in
set_option maxHeartbeats 4000000 in
theorem rmsame_1 {h cap n dr h' cap' n' dr' : Int} {s t : List Nat} {S T : List SentD} (t0 : (h == h') = true) (t1 : (cap == cap') = false)  (_hl : Hid (s.length < 4611686018427387904)) (A A' B B' : Option Addr) (c c' d d' : Nat) (w : World) (hA : Reads w A s) (hA' : Reads w A' t) (hS : SentIn w B S) (hT : SentIn w B' T) :
    Calls Try.prog 36 #[.agg #[.int .i64 h, .int .i64 cap, .slice A s.length c, .int .i64 n, .int .i64 dr, .slice B S.length d], .agg #[.int .i64 h', .int .i64 cap', .slice A' t.length c', .int .i64 n', .int .i64 dr', .slice B' T.length d']] w fun e w' => e = .returned (.bool false) ∧ Below w.heap.size w w' := by
  have u0 : (h != h') = false := by unfold bne; rw [t0]; rfl
  have u1 : (cap != cap') = true := by unfold bne; rw [t1]; rfl
  have KB : Hid (Below w.heap.size w ((w.alloc (.cells #[.int .i64 h, .int .i64 cap, .slice A s.length c, .int .i64 n, .int .i64 dr, .slice B S.length d] 45)).alloc (.cells #[.int .i64 h', .int .i64 cap', .slice A' t.length c', .int .i64 n', .int .i64 dr', .slice B' T.length d'] 45))) := mkHid (((Below.refl _ _).alloc (Nat.le_refl _) (.cells #[.int .i64 h, .int .i64 cap, .slice A s.length c, .int .i64 n, .int .i64 dr, .slice B S.length d] 45)).alloc (by simp) (.cells #[.int .i64 h', .int .i64 cap', .slice A' t.length c', .int .i64 n', .int .i64 dr', .slice B' T.length d'] 45))
  have HA := mkHid (hA.below (((Below.refl _ _).alloc (Nat.le_refl _) (.cells #[.int .i64 h, .int .i64 cap, .slice A s.length c, .int .i64 n, .int .i64 dr, .slice B S.length d] 45)).alloc (by simp) (.cells #[.int .i64 h', .int .i64 cap', .slice A' t.length c', .int .i64 n', .int .i64 dr', .slice B' T.length d'] 45)))
  have HB := mkHid (hA'.below (((Below.refl _ _).alloc (Nat.le_refl _) (.cells #[.int .i64 h, .int .i64 cap, .slice A s.length c, .int .i64 n, .int .i64 dr, .slice B S.length d] 45)).alloc (by simp) (.cells #[.int .i64 h', .int .i64 cap', .slice A' t.length c', .int .i64 n', .int .i64 dr', .slice B' T.length d'] 45)))
  have HS := mkHid (hS.below (((Below.refl _ _).alloc (Nat.le_refl _) (.cells #[.int .i64 h, .int .i64 cap, .slice A s.length c, .int .i64 n, .int .i64 dr, .slice B S.length d] 45)).alloc (by simp) (.cells #[.int .i64 h', .int .i64 cap', .slice A' t.length c', .int .i64 n', .int .i64 dr', .slice B' T.length d'] 45)))
  have HT := mkHid (hT.below (((Below.refl _ _).alloc (Nat.le_refl _) (.cells #[.int .i64 h, .int .i64 cap, .slice A s.length c, .int .i64 n, .int .i64 dr, .slice B S.length d] 45)).alloc (by simp) (.cells #[.int .i64 h', .int .i64 cap', .slice A' t.length c', .int .i64 n', .int .i64 dr', .slice B' T.length d'] 45)))
  have ZX : Hid (Blk ((w.alloc (.cells #[.int .i64 h, .int .i64 cap, .slice A s.length c, .int .i64 n, .int .i64 dr, .slice B S.length d] 45)).alloc (.cells #[.int .i64 h', .int .i64 cap', .slice A' t.length c', .int .i64 n', .int .i64 dr', .slice B' T.length d'] 45)) w.heap.size 45 #[.int .i64 h, .int .i64 cap, .slice A s.length c, .int .i64 n, .int .i64 dr, .slice B S.length d]) := mkHid ((Blk.new _ _ _).alloc _)
  have ZY : Hid (Blk ((w.alloc (.cells #[.int .i64 h, .int .i64 cap, .slice A s.length c, .int .i64 n, .int .i64 dr, .slice B S.length d] 45)).alloc (.cells #[.int .i64 h', .int .i64 cap', .slice A' t.length c', .int .i64 n', .int .i64 dr', .slice B' T.length d'] 45)) (w.heap.size + 1) 45 #[.int .i64 h', .int .i64 cap', .slice A' t.length c', .int .i64 n', .int .i64 dr', .slice B' T.length d']) := mkHid (Blk.at _ _ _ (by simp))
  clear hA hA' hS hT
  have cZX := ZX.out.six
  have lZX := ZX.out.lt
  have cZY := ZY.out.six
  have lZY := ZY.out.lt
  go_enter Try.func36, Try.ntmps36
  go_wp2_with fail
  go_ret
  exact ⟨rfl, KB.out⟩

set_option maxRecDepth 100000 in
set_option maxHeartbeats 4000000 in
theorem rmsame_2 {h cap n dr h' cap' n' dr' : Int} {s t : List Nat} {S T : List SentD} (t0 : (h == h') = true) (t1 : (cap == cap') = true) (ez : Hid (decide (s = t) = false))  (hl : Hid (s.length < 4611686018427387904)) (A A' B B' : Option Addr) (c c' d d' : Nat) (w : World) (hA : Reads w A s) (hA' : Reads w A' t) (hS : SentIn w B S) (hT : SentIn w B' T) :
    Calls Try.prog 36 #[.agg #[.int .i64 h, .int .i64 cap, .slice A s.length c, .int .i64 n, .int .i64 dr, .slice B S.length d], .agg #[.int .i64 h', .int .i64 cap', .slice A' t.length c', .int .i64 n', .int .i64 dr', .slice B' T.length d']] w fun e w' => e = .returned (.bool false) ∧ Below w.heap.size w w' := by
  have u0 : (h != h') = false := by unfold bne; rw [t0]; rfl
  have u1 : (cap != cap') = false := by unfold bne; rw [t1]; rfl
  have KB : Hid (Below w.heap.size w ((w.alloc (.cells #[.int .i64 h, .int .i64 cap, .slice A s.length c, .int .i64 n, .int .i64 dr, .slice B S.length d] 45)).alloc (.cells #[.int .i64 h', .int .i64 cap', .slice A' t.length c', .int .i64 n', .int .i64 dr', .slice B' T.length d'] 45))) := mkHid (((Below.refl _ _).alloc (Nat.le_refl _) (.cells #[.int .i64 h, .int .i64 cap, .slice A s.length c, .int .i64 n, .int .i64 dr, .slice B S.length d] 45)).alloc (by simp) (.cells #[.int .i64 h', .int .i64 cap', .slice A' t.length c', .int .i64 n', .int .i64 dr', .slice B' T.length d'] 45))
  have HA := mkHid (hA.below (((Below.refl _ _).alloc (Nat.le_refl _) (.cells #[.int .i64 h, .int .i64 cap, .slice A s.length c, .int .i64 n, .int .i64 dr, .slice B S.length d] 45)).alloc (by simp) (.cells #[.int .i64 h', .int .i64 cap', .slice A' t.length c', .int .i64 n', .int .i64 dr', .slice B' T.length d'] 45)))
  have HB := mkHid (hA'.below (((Below.refl _ _).alloc (Nat.le_refl _) (.cells #[.int .i64 h, .int .i64 cap, .slice A s.length c, .int .i64 n, .int .i64 dr, .slice B S.length d] 45)).alloc (by simp) (.cells #[.int .i64 h', .int .i64 cap', .slice A' t.length c', .int .i64 n', .int .i64 dr', .slice B' T.length d'] 45)))
  have HS := mkHid (hS.below (((Below.refl _ _).alloc (Nat.le_refl _) (.cells #[.int .i64 h, .int .i64 cap, .slice A s.length c, .int .i64 n, .int .i64 dr, .slice B S.length d] 45)).alloc (by simp) (.cells #[.int .i64 h', .int .i64 cap', .slice A' t.length c', .int .i64 n', .int .i64 dr', .slice B' T.length d'] 45)))
  have HT := mkHid (hT.below (((Below.refl _ _).alloc (Nat.le_refl _) (.cells #[.int .i64 h, .int .i64 cap, .slice A s.length c, .int .i64 n, .int .i64 dr, .slice B S.length d] 45)).alloc (by simp) (.cells #[.int .i64 h', .int .i64 cap', .slice A' t.length c', .int .i64 n', .int .i64 dr', .slice B' T.length d'] 45)))
  have ZX : Hid (Blk ((w.alloc (.cells #[.int .i64 h, .int .i64 cap, .slice A s.length c, .int .i64 n, .int .i64 dr, .slice B S.length d] 45)).alloc (.cells #[.int .i64 h', .int .i64 cap', .slice A' t.length c', .int .i64 n', .int .i64 dr', .slice B' T.length d'] 45)) w.heap.size 45 #[.int .i64 h, .int .i64 cap, .slice A s.length c, .int .i64 n, .int .i64 dr, .slice B S.length d]) := mkHid ((Blk.new _ _ _).alloc _)
  have ZY : Hid (Blk ((w.alloc (.cells #[.int .i64 h, .int .i64 cap, .slice A s.length c, .int .i64 n, .int .i64 dr, .slice B S.length d] 45)).alloc (.cells #[.int .i64 h', .int .i64 cap', .slice A' t.length c', .int .i64 n', .int .i64 dr', .slice B' T.length d'] 45)) (w.heap.size + 1) 45 #[.int .i64 h', .int .i64 cap', .slice A' t.length c', .int .i64 n', .int .i64 dr', .slice B' T.length d']) := mkHid (Blk.at _ _ _ (by simp))
  clear hA hA' hS hT
  have cZX := ZX.out.six
  have lZX := ZX.out.lt
  have cZY := ZY.out.six
  have lZY := ZY.out.lt
  go_enter Try.func36, Try.ntmps36
  go_wp2_with fail
  refine (ssame_any ez hl.out _ _ _ _ _ HA.out HB.out).mono ?_
  rintro e w1 ⟨rfl, hb1⟩
  replace ZX := mkHid (ZX.out.keep hb1)
  replace ZY := mkHid (ZY.out.keep hb1)
  replace KB := mkHid (KB.out.step hb1)
  replace HA := mkHid (HA.out.below hb1)
  replace HB := mkHid (HB.out.below hb1)
  replace HS := mkHid (HS.out.below hb1)
  replace HT := mkHid (HT.out.below hb1)
  clear cZX lZX
  have cZX := ZX.out.six
  have lZX := ZX.out.lt
  clear cZY lZY
  have cZY := ZY.out.six
  have lZY := ZY.out.lt
  clear hb1
  go_wp2_with fail
  go_ret
  exact ⟨rfl, KB.out⟩

set_option maxRecDepth 100000 in
set_option maxHeartbeats 4000000 in
theorem rmsame_3 {h cap n dr h' cap' n' dr' : Int} {s t : List Nat} {S T : List SentD} (t0 : (h == h') = true) (t1 : (cap == cap') = true) (ez : Hid (decide (s = t) = true)) (t3 : (n == n') = false)  (hl : Hid (s.length < 4611686018427387904)) (A A' B B' : Option Addr) (c c' d d' : Nat) (w : World) (hA : Reads w A s) (hA' : Reads w A' t) (hS : SentIn w B S) (hT : SentIn w B' T) :
    Calls Try.prog 36 #[.agg #[.int .i64 h, .int .i64 cap, .slice A s.length c, .int .i64 n, .int .i64 dr, .slice B S.length d], .agg #[.int .i64 h', .int .i64 cap', .slice A' t.length c', .int .i64 n', .int .i64 dr', .slice B' T.length d']] w fun e w' => e = .returned (.bool false) ∧ Below w.heap.size w w' := by
  have u0 : (h != h') = false := by unfold bne; rw [t0]; rfl
  have u1 : (cap != cap') = false := by unfold bne; rw [t1]; rfl
  have u3 : (n != n') = true := by unfold bne; rw [t3]; rfl
  have KB : Hid (Below w.heap.size w ((w.alloc (.cells #[.int .i64 h, .int .i64 cap, .slice A s.length c, .int .i64 n, .int .i64 dr, .slice B S.length d] 45)).alloc (.cells #[.int .i64 h', .int .i64 cap', .slice A' t.length c', .int .i64 n', .int .i64 dr', .slice B' T.length d'] 45))) := mkHid (((Below.refl _ _).alloc (Nat.le_refl _) (.cells #[.int .i64 h, .int .i64 cap, .slice A s.length c, .int .i64 n, .int .i64 dr, .slice B S.length d] 45)).alloc (by simp) (.cells #[.int .i64 h', .int .i64 cap', .slice A' t.length c', .int .i64 n', .int .i64 dr', .slice B' T.length d'] 45))
  have HA := mkHid (hA.below (((Below.refl _ _).alloc (Nat.le_refl _) (.cells #[.int .i64 h, .int .i64 cap, .slice A s.length c, .int .i64 n, .int .i64 dr, .slice B S.length d] 45)).alloc (by simp) (.cells #[.int .i64 h', .int .i64 cap', .slice A' t.length c', .int .i64 n', .int .i64 dr', .slice B' T.length d'] 45)))
  have HB := mkHid (hA'.below (((Below.refl _ _).alloc (Nat.le_refl _) (.cells #[.int .i64 h, .int .i64 cap, .slice A s.length c, .int .i64 n, .int .i64 dr, .slice B S.length d] 45)).alloc (by simp) (.cells #[.int .i64 h', .int .i64 cap', .slice A' t.length c', .int .i64 n', .int .i64 dr', .slice B' T.length d'] 45)))
  have HS := mkHid (hS.below (((Below.refl _ _).alloc (Nat.le_refl _) (.cells #[.int .i64 h, .int .i64 cap, .slice A s.length c, .int .i64 n, .int .i64 dr, .slice B S.length d] 45)).alloc (by simp) (.cells #[.int .i64 h', .int .i64 cap', .slice A' t.length c', .int .i64 n', .int .i64 dr', .slice B' T.length d'] 45)))
  have HT := mkHid (hT.below (((Below.refl _ _).alloc (Nat.le_refl _) (.cells #[.int .i64 h, .int .i64 cap, .slice A s.length c, .int .i64 n, .int .i64 dr, .slice B S.length d] 45)).alloc (by simp) (.cells #[.int .i64 h', .int .i64 cap', .slice A' t.length c', .int .i64 n', .int .i64 dr', .slice B' T.length d'] 45)))
  have ZX : Hid (Blk ((w.alloc (.cells #[.int .i64 h, .int .i64 cap, .slice A s.length c, .int .i64 n, .int .i64 dr, .slice B S.length d] 45)).alloc (.cells #[.int .i64 h', .int .i64 cap', .slice A' t.length c', .int .i64 n', .int .i64 dr', .slice B' T.length d'] 45)) w.heap.size 45 #[.int .i64 h, .int .i64 cap, .slice A s.length c, .int .i64 n, .int .i64 dr, .slice B S.length d]) := mkHid ((Blk.new _ _ _).alloc _)
  have ZY : Hid (Blk ((w.alloc (.cells #[.int .i64 h, .int .i64 cap, .slice A s.length c, .int .i64 n, .int .i64 dr, .slice B S.length d] 45)).alloc (.cells #[.int .i64 h', .int .i64 cap', .slice A' t.length c', .int .i64 n', .int .i64 dr', .slice B' T.length d'] 45)) (w.heap.size + 1) 45 #[.int .i64 h', .int .i64 cap', .slice A' t.length c', .int .i64 n', .int .i64 dr', .slice B' T.length d']) := mkHid (Blk.at _ _ _ (by simp))
  clear hA hA' hS hT
  have cZX := ZX.out.six
  have lZX := ZX.out.lt
  have cZY := ZY.out.six
  have lZY := ZY.out.lt
  go_enter Try.func36, Try.ntmps36
  go_wp2_with fail
  refine (ssame_any ez hl.out _ _ _ _ _ HA.out HB.out).mono ?_
  rintro e w1 ⟨rfl, hb1⟩
  replace ZX := mkHid (ZX.out.keep hb1)
  replace ZY := mkHid (ZY.out.keep hb1)
  replace KB := mkHid (KB.out.step hb1)
  replace HA := mkHid (HA.out.below hb1)
  replace HB := mkHid (HB.out.below hb1)
  replace HS := mkHid (HS.out.below hb1)
  replace HT := mkHid (HT.out.below hb1)
  clear cZX lZX
  have cZX := ZX.out.six
  have lZX := ZX.out.lt
  clear cZY lZY
  have cZY := ZY.out.six
  have lZY := ZY.out.lt
  clear hb1
  go_wp2_with fail
  go_ret
  exact ⟨rfl, KB.out⟩

set_option maxRecDepth 100000 in
set_option maxHeartbeats 4000000 in
theorem rmsame_4 {h cap n dr h' cap' n' dr' : Int} {s t : List Nat} {S T : List SentD} (t0 : (h == h') = true) (t1 : (cap == cap') = true) (ez : Hid (decide (s = t) = true)) (t3 : (n == n') = true) (t4 : (dr == dr') = false)  (hl : Hid (s.length < 4611686018427387904)) (A A' B B' : Option Addr) (c c' d d' : Nat) (w : World) (hA : Reads w A s) (hA' : Reads w A' t) (hS : SentIn w B S) (hT : SentIn w B' T) :
    Calls Try.prog 36 #[.agg #[.int .i64 h, .int .i64 cap, .slice A s.length c, .int .i64 n, .int .i64 dr, .slice B S.length d], .agg #[.int .i64 h', .int .i64 cap', .slice A' t.length c', .int .i64 n', .int .i64 dr', .slice B' T.length d']] w fun e w' => e = .returned (.bool false) ∧ Below w.heap.size w w' := by
  have u0 : (h != h') = false := by unfold bne; rw [t0]; rfl
  have u1 : (cap != cap') = false := by unfold bne; rw [t1]; rfl
  have u3 : (n != n') = false := by unfold bne; rw [t3]; rfl
  have u4 : (dr != dr') = true := by unfold bne; rw [t4]; rfl
  have KB : Hid (Below w.heap.size w ((w.alloc (.cells #[.int .i64 h, .int .i64 cap, .slice A s.length c, .int .i64 n, .int .i64 dr, .slice B S.length d] 45)).alloc (.cells #[.int .i64 h', .int .i64 cap', .slice A' t.length c', .int .i64 n', .int .i64 dr', .slice B' T.length d'] 45))) := mkHid (((Below.refl _ _).alloc (Nat.le_refl _) (.cells #[.int .i64 h, .int .i64 cap, .slice A s.length c, .int .i64 n, .int .i64 dr, .slice B S.length d] 45)).alloc (by simp) (.cells #[.int .i64 h', .int .i64 cap', .slice A' t.length c', .int .i64 n', .int .i64 dr', .slice B' T.length d'] 45))
  have HA := mkHid (hA.below (((Below.refl _ _).alloc (Nat.le_refl _) (.cells #[.int .i64 h, .int .i64 cap, .slice A s.length c, .int .i64 n, .int .i64 dr, .slice B S.length d] 45)).alloc (by simp) (.cells #[.int .i64 h', .int .i64 cap', .slice A' t.length c', .int .i64 n', .int .i64 dr', .slice B' T.length d'] 45)))
  have HB := mkHid (hA'.below (((Below.refl _ _).alloc (Nat.le_refl _) (.cells #[.int .i64 h, .int .i64 cap, .slice A s.length c, .int .i64 n, .int .i64 dr, .slice B S.length d] 45)).alloc (by simp) (.cells #[.int .i64 h', .int .i64 cap', .slice A' t.length c', .int .i64 n', .int .i64 dr', .slice B' T.length d'] 45)))
  have HS := mkHid (hS.below (((Below.refl _ _).alloc (Nat.le_refl _) (.cells #[.int .i64 h, .int .i64 cap, .slice A s.length c, .int .i64 n, .int .i64 dr, .slice B S.length d] 45)).alloc (by simp) (.cells #[.int .i64 h', .int .i64 cap', .slice A' t.length c', .int .i64 n', .int .i64 dr', .slice B' T.length d'] 45)))
  have HT := mkHid (hT.below (((Below.refl _ _).alloc (Nat.le_refl _) (.cells #[.int .i64 h, .int .i64 cap, .slice A s.length c, .int .i64 n, .int .i64 dr, .slice B S.length d] 45)).alloc (by simp) (.cells #[.int .i64 h', .int .i64 cap', .slice A' t.length c', .int .i64 n', .int .i64 dr', .slice B' T.length d'] 45)))
  have ZX : Hid (Blk ((w.alloc (.cells #[.int .i64 h, .int .i64 cap, .slice A s.length c, .int .i64 n, .int .i64 dr, .slice B S.length d] 45)).alloc (.cells #[.int .i64 h', .int .i64 cap', .slice A' t.length c', .int .i64 n', .int .i64 dr', .slice B' T.length d'] 45)) w.heap.size 45 #[.int .i64 h, .int .i64 cap, .slice A s.length c, .int .i64 n, .int .i64 dr, .slice B S.length d]) := mkHid ((Blk.new _ _ _).alloc _)
  have ZY : Hid (Blk ((w.alloc (.cells #[.int .i64 h, .int .i64 cap, .slice A s.length c, .int .i64 n, .int .i64 dr, .slice B S.length d] 45)).alloc (.cells #[.int .i64 h', .int .i64 cap', .slice A' t.length c', .int .i64 n', .int .i64 dr', .slice B' T.length d'] 45)) (w.heap.size + 1) 45 #[.int .i64 h', .int .i64 cap', .slice A' t.length c', .int .i64 n', .int .i64 dr', .slice B' T.length d']) := mkHid (Blk.at _ _ _ (by simp))
  clear hA hA' hS hT
  have cZX := ZX.out.six
  have lZX := ZX.out.lt
  have cZY := ZY.out.six
  have lZY := ZY.out.lt
  go_enter Try.func36, Try.ntmps36
  go_wp2_with fail
  refine (ssame_any ez hl.out _ _ _ _ _ HA.out HB.out).mono ?_
  rintro e w1 ⟨rfl, hb1⟩
  replace ZX := mkHid (ZX.out.keep hb1)
  replace ZY := mkHid (ZY.out.keep hb1)
  replace KB := mkHid (KB.out.step hb1)
  replace HA := mkHid (HA.out.below hb1)
  replace HB := mkHid (HB.out.below hb1)
  replace HS := mkHid (HS.out.below hb1)
  replace HT := mkHid (HT.out.below hb1)
  clear cZX lZX
  have cZX := ZX.out.six
  have lZX := ZX.out.lt
  clear cZY lZY
  have cZY := ZY.out.six
  have lZY := ZY.out.lt
  clear hb1
  go_wp2_with fail
  go_ret
  exact ⟨rfl, KB.out⟩

set_option maxRecDepth 100000 in
set_option maxHeartbeats 4000000 in
theorem rmsame_5 {h cap n dr h' cap' n' dr' : Int} {s t : List Nat} {S T : List SentD} (t0 : (h == h') = true) (t1 : (cap == cap') = true) (ez : Hid (decide (s = t) = true)) (t3 : (n == n') = true) (t4 : (dr == dr') = true) (ef : Hid (S.length ≠ T.length))  (hl : Hid (s.length < 4611686018427387904)) (A A' B B' : Option Addr) (c c' d d' : Nat) (w : World) (hA : Reads w A s) (hA' : Reads w A' t) (hS : SentIn w B S) (hT : SentIn w B' T) :
    Calls Try.prog 36 #[.agg #[.int .i64 h, .int .i64 cap, .slice A s.length c, .int .i64 n, .int .i64 dr, .slice B S.length d], .agg #[.int .i64 h', .int .i64 cap', .slice A' t.length c', .int .i64 n', .int .i64 dr', .slice B' T.length d']] w fun e w' => e = .returned (.bool false) ∧ Below w.heap.size w w' := by
  have u0 : (h != h') = false := by unfold bne; rw [t0]; rfl
  have u1 : (cap != cap') = false := by unfold bne; rw [t1]; rfl
  have u3 : (n != n') = false := by unfold bne; rw [t3]; rfl
  have u4 : (dr != dr') = false := by unfold bne; rw [t4]; rfl
  have u5 : ((S.length : Int) != (T.length : Int)) = true := bne_iff_ne.2 (by have := ef.out; omega)
  have KB : Hid (Below w.heap.size w ((w.alloc (.cells #[.int .i64 h, .int .i64 cap, .slice A s.length c, .int .i64 n, .int .i64 dr, .slice B S.length d] 45)).alloc (.cells #[.int .i64 h', .int .i64 cap', .slice A' t.length c', .int .i64 n', .int .i64 dr', .slice B' T.length d'] 45))) := mkHid (((Below.refl _ _).alloc (Nat.le_refl _) (.cells #[.int .i64 h, .int .i64 cap, .slice A s.length c, .int .i64 n, .int .i64 dr, .slice B S.length d] 45)).alloc (by simp) (.cells #[.int .i64 h', .int .i64 cap', .slice A' t.length c', .int .i64 n', .int .i64 dr', .slice B' T.length d'] 45))
  have HA := mkHid (hA.below (((Below.refl _ _).alloc (Nat.le_refl _) (.cells #[.int .i64 h, .int .i64 cap, .slice A s.length c, .int .i64 n, .int .i64 dr, .slice B S.length d] 45)).alloc (by simp) (.cells #[.int .i64 h', .int .i64 cap', .slice A' t.length c', .int .i64 n', .int .i64 dr', .slice B' T.length d'] 45)))
  have HB := mkHid (hA'.below (((Below.refl _ _).alloc (Nat.le_refl _) (.cells #[.int .i64 h, .int .i64 cap, .slice A s.length c, .int .i64 n, .int .i64 dr, .slice B S.length d] 45)).alloc (by simp) (.cells #[.int .i64 h', .int .i64 cap', .slice A' t.length c', .int .i64 n', .int .i64 dr', .slice B' T.length d'] 45)))
  have HS := mkHid (hS.below (((Below.refl _ _).alloc (Nat.le_refl _) (.cells #[.int .i64 h, .int .i64 cap, .slice A s.length c, .int .i64 n, .int .i64 dr, .slice B S.length d] 45)).alloc (by simp) (.cells #[.int .i64 h', .int .i64 cap', .slice A' t.length c', .int .i64 n', .int .i64 dr', .slice B' T.length d'] 45)))
  have HT := mkHid (hT.below (((Below.refl _ _).alloc (Nat.le_refl _) (.cells #[.int .i64 h, .int .i64 cap, .slice A s.length c, .int .i64 n, .int .i64 dr, .slice B S.length d] 45)).alloc (by simp) (.cells #[.int .i64 h', .int .i64 cap', .slice A' t.length c', .int .i64 n', .int .i64 dr', .slice B' T.length d'] 45)))
  have ZX : Hid (Blk ((w.alloc (.cells #[.int .i64 h, .int .i64 cap, .slice A s.length c, .int .i64 n, .int .i64 dr, .slice B S.length d] 45)).alloc (.cells #[.int .i64 h', .int .i64 cap', .slice A' t.length c', .int .i64 n', .int .i64 dr', .slice B' T.length d'] 45)) w.heap.size 45 #[.int .i64 h, .int .i64 cap, .slice A s.length c, .int .i64 n, .int .i64 dr, .slice B S.length d]) := mkHid ((Blk.new _ _ _).alloc _)
  have ZY : Hid (Blk ((w.alloc (.cells #[.int .i64 h, .int .i64 cap, .slice A s.length c, .int .i64 n, .int .i64 dr, .slice B S.length d] 45)).alloc (.cells #[.int .i64 h', .int .i64 cap', .slice A' t.length c', .int .i64 n', .int .i64 dr', .slice B' T.length d'] 45)) (w.heap.size + 1) 45 #[.int .i64 h', .int .i64 cap', .slice A' t.length c', .int .i64 n', .int .i64 dr', .slice B' T.length d']) := mkHid (Blk.at _ _ _ (by simp))
  clear hA hA' hS hT
  have cZX := ZX.out.six
  have lZX := ZX.out.lt
  have cZY := ZY.out.six
  have lZY := ZY.out.lt
  go_enter Try.func36, Try.ntmps36
  go_wp2_with fail
  refine (ssame_any ez hl.out _ _ _ _ _ HA.out HB.out).mono ?_
  rintro e w1 ⟨rfl, hb1⟩
  replace ZX := mkHid (ZX.out.keep hb1)
  replace ZY := mkHid (ZY.out.keep hb1)
  replace KB := mkHid (KB.out.step hb1)
  replace HA := mkHid (HA.out.below hb1)
  replace HB := mkHid (HB.out.below hb1)
  replace HS := mkHid (HS.out.below hb1)
  replace HT := mkHid (HT.out.below hb1)
  clear cZX lZX
  have cZX := ZX.out.six
  have lZX := ZX.out.lt
  clear cZY lZY
  have cZY := ZY.out.six
  have lZY := ZY.out.lt
  clear hb1
  go_wp2_with fail
  go_ret
  exact ⟨rfl, KB.out⟩

set_option linter.unusedSimpArgs false in
set_option maxRecDepth 100000 in
set_option maxHeartbeats 4000000 in
theorem rmsame_loop {h cap n dr h' cap' n' dr' : Int} {s t : List Nat} {S T : List SentD} (t0 : (h == h') = true) (t1 : (cap == cap') = true) (ez : Hid (decide (s = t) = true)) (t3 : (n == n') = true) (t4 : (dr == dr') = true) (ef : Hid (S.length = T.length)) {z : Bool} (hz : Hid (sameTo S T S.length = z)) (hs : Hid (S.length < 4611686018427387904 ∧ ∀ s ∈ S, s.out.length < 4611686018427387904))  (hl : Hid (s.length < 4611686018427387904)) (A A' B B' : Option Addr) (c c' d d' : Nat) (w : World) (hA : Reads w A s) (hA' : Reads w A' t) (hS : SentIn w B S) (hT : SentIn w B' T) :
    Calls Try.prog 36 #[.agg #[.int .i64 h, .int .i64 cap, .slice A s.length c, .int .i64 n, .int .i64 dr, .slice B S.length d], .agg #[.int .i64 h', .int .i64 cap', .slice A' t.length c', .int .i64 n', .int .i64 dr', .slice B' T.length d']] w fun e w' => e = .returned (.bool z) ∧ Below w.heap.size w w' := by
  have u0 : (h != h') = false := by unfold bne; rw [t0]; rfl
  have u1 : (cap != cap') = false := by unfold bne; rw [t1]; rfl
  have u3 : (n != n') = false := by unfold bne; rw [t3]; rfl
  have u4 : (dr != dr') = false := by unfold bne; rw [t4]; rfl
  have u5 : ((S.length : Int) != (T.length : Int)) = false := bne_eq_false_iff_eq.2 (by have := ef.out; omega)
  have KB : Hid (Below w.heap.size w ((w.alloc (.cells #[.int .i64 h, .int .i64 cap, .slice A s.length c, .int .i64 n, .int .i64 dr, .slice B S.length d] 45)).alloc (.cells #[.int .i64 h', .int .i64 cap', .slice A' t.length c', .int .i64 n', .int .i64 dr', .slice B' T.length d'] 45))) := mkHid (((Below.refl _ _).alloc (Nat.le_refl _) (.cells #[.int .i64 h, .int .i64 cap, .slice A s.length c, .int .i64 n, .int .i64 dr, .slice B S.length d] 45)).alloc (by simp) (.cells #[.int .i64 h', .int .i64 cap', .slice A' t.length c', .int .i64 n', .int .i64 dr', .slice B' T.length d'] 45))
  have HA := mkHid (hA.below (((Below.refl _ _).alloc (Nat.le_refl _) (.cells #[.int .i64 h, .int .i64 cap, .slice A s.length c, .int .i64 n, .int .i64 dr, .slice B S.length d] 45)).alloc (by simp) (.cells #[.int .i64 h', .int .i64 cap', .slice A' t.length c', .int .i64 n', .int .i64 dr', .slice B' T.length d'] 45)))
  have HB := mkHid (hA'.below (((Below.refl _ _).alloc (Nat.le_refl _) (.cells #[.int .i64 h, .int .i64 cap, .slice A s.length c, .int .i64 n, .int .i64 dr, .slice B S.length d] 45)).alloc (by simp) (.cells #[.int .i64 h', .int .i64 cap', .slice A' t.length c', .int .i64 n', .int .i64 dr', .slice B' T.length d'] 45)))
  have HS := mkHid (hS.below (((Below.refl _ _).alloc (Nat.le_refl _) (.cells #[.int .i64 h, .int .i64 cap, .slice A s.length c, .int .i64 n, .int .i64 dr, .slice B S.length d] 45)).alloc (by simp) (.cells #[.int .i64 h', .int .i64 cap', .slice A' t.length c', .int .i64 n', .int .i64 dr', .slice B' T.length d'] 45)))
  have HT := mkHid (hT.below (((Below.refl _ _).alloc (Nat.le_refl _) (.cells #[.int .i64 h, .int .i64 cap, .slice A s.length c, .int .i64 n, .int .i64 dr, .slice B S.length d] 45)).alloc (by simp) (.cells #[.int .i64 h', .int .i64 cap', .slice A' t.length c', .int .i64 n', .int .i64 dr', .slice B' T.length d'] 45)))
  have ZX : Hid (Blk ((w.alloc (.cells #[.int .i64 h, .int .i64 cap, .slice A s.length c, .int .i64 n, .int .i64 dr, .slice B S.length d] 45)).alloc (.cells #[.int .i64 h', .int .i64 cap', .slice A' t.length c', .int .i64 n', .int .i64 dr', .slice B' T.length d'] 45)) w.heap.size 45 #[.int .i64 h, .int .i64 cap, .slice A s.length c, .int .i64 n, .int .i64 dr, .slice B S.length d]) := mkHid ((Blk.new _ _ _).alloc _)
  have ZY : Hid (Blk ((w.alloc (.cells #[.int .i64 h, .int .i64 cap, .slice A s.length c, .int .i64 n, .int .i64 dr, .slice B S.length d] 45)).alloc (.cells #[.int .i64 h', .int .i64 cap', .slice A' t.length c', .int .i64 n', .int .i64 dr', .slice B' T.length d'] 45)) (w.heap.size + 1) 45 #[.int .i64 h', .int .i64 cap', .slice A' t.length c', .int .i64 n', .int .i64 dr', .slice B' T.length d']) := mkHid (Blk.at _ _ _ (by simp))
  clear hA hA' hS hT
  have cZX := ZX.out.six
  have lZX := ZX.out.lt
  have cZY := ZY.out.six
  have lZY := ZY.out.lt
  go_enter Try.func36, Try.ntmps36
  go_wp2_with fail
  refine (ssame_any ez hl.out _ _ _ _ _ HA.out HB.out).mono ?_
  rintro e w1 ⟨rfl, hb1⟩
  replace ZX := mkHid (ZX.out.keep hb1)
  replace ZY := mkHid (ZY.out.keep hb1)
  replace KB := mkHid (KB.out.step hb1)
  replace HA := mkHid (HA.out.below hb1)
  replace HB := mkHid (HB.out.below hb1)
  replace HS := mkHid (HS.out.below hb1)
  replace HT := mkHid (HT.out.below hb1)
  clear cZX lZX
  have cZX := ZX.out.six
  have lZX := ZX.out.lt
  clear cZY lZY
  have cZY := ZY.out.six
  have lZY := ZY.out.lt
  clear hb1
  have hbn : S.length < 4611686018427387904 := hs.out.1
  go_wp2_with fail
  clear cZX lZX cZY lZY u0 u1 u3 u4 u5
  rw [← ef.out] at ZY
  generalize hn0 : S.length = n0 at *
  have hS1 := mkHid hn0
  have hT1 : Hid (T.length = n0) := mkHid ef.out.symm
  clear hn0 ef t0 t1 t3 t4
  have cX := ZX.out.six
  have cY := ZY.out.six
  have lX := ZX.out.lt
  have lY := ZY.out.lt
  clear cX cY lX lY
  go_loopw [52] (fun j wr => ∃ i : Nat, i ≤ n0 ∧ j = .int .i64 (i : Int) ∧ Hid (sameTo S T i = true) ∧ Hid (Below w1.heap.size w1 wr)) (fun j _ => n0 - (intOf j).toNat)
  case atStart => exact ⟨0, Nat.zero_le _, rfl, mkHid rfl, mkHid (Below.refl _ _)⟩
  case round =>
    obtain ⟨i, hi, rfl, hk, HR⟩ := hrel
    have KB2 := mkHid (KB.out.step HR.out)
    replace ZX := mkHid (ZX.out.keep HR.out)
    replace ZY := mkHid (ZY.out.keep HR.out)
    by_cases hlt : i < n0
    · have hiS : i < S.length := by rw [hS1.out]; exact hlt
      have hiT : i < T.length := by rw [hT1.out]; exact hlt
      have gS : S[i]? = some S[i] := List.getElem?_eq_getElem hiS
      have gT : T[i]? = some T[i] := List.getElem?_eq_getElem hiT
      have hlen := hs.out.2 S[i] (List.getElem_mem hiS)
      have aS := (HS.out.below HR.out) i hiS
      have aT := (HT.out.below HR.out) i hiT
      generalize S[i] = s0 at *
      generalize T[i] = t0 at *
      obtain ⟨so, sd, sp1, sp2⟩ := s0
      obtain ⟨t1, td, tp1, tp2⟩ := t0
      have hsk := mkHid (sameTo_succ gS gT)
      clear gS gT hiS hiT
      obtain ⟨b1, off1, rfl, A1, c1, e0, _, _, hR1, _, e1, e2, e3⟩ := aS
      obtain ⟨b2, off2, rfl, A2, c2, k0, _, _, hR2, _, k1, k2, k3⟩ := aT
      dsimp only at *
      have HR1 := mkHid (hR1.below (Below.drew (Below.refl _ wr)))
      have HR2 := mkHid (hR2.below (Below.drew (Below.refl _ wr)))
      clear hR1 hR2
      have x5 : wr.cell? ⟨w.heap.size, 5, none⟩ = some (.slice (some ⟨b1, off1, none⟩) n0 d) := ZX.out.cell 5
      have y5 : wr.cell? ⟨w.heap.size + 1, 5, none⟩ = some (.slice (some ⟨b2, off2, none⟩) n0 d') := ZY.out.cell 5
      have hq := eq_blocks
      obtain ⟨zq, ezq⟩ : ∃ q, Hid (decide (so = t1) = q) := ⟨_, mkHid rfl⟩
      unfold sentEq at hsk
      rw [ezq.out] at hsk
      go_upto_region 6 with fail
      replace e0 : wr.drew.cell? _ = _ := e0
      replace e1 : wr.drew.cell? _ = _ := e1
      replace e2 : wr.drew.cell? _ = _ := e2
      replace e3 : wr.drew.cell? _ = _ := e3
      replace k0 : wr.drew.cell? _ = _ := k0
      replace k1 : wr.drew.cell? _ = _ := k1
      replace k2 : wr.drew.cell? _ = _ := k2
      replace k3 : wr.drew.cell? _ = _ := k3
      replace x5 : wr.drew.cell? _ = _ := x5
      replace y5 : wr.drew.cell? _ = _ := y5
      have KD : Hid (Below w.heap.size w wr.drew) := mkHid KB2.out.drew
      have KR : Hid (Below w1.heap.size w1 wr.drew) := mkHid HR.out.drew
      clear KB2 HR ZX ZY
      cases zq
      · refine wp_region_late (late := fun _ => false) (S := fun w' => w'.cell? ⟨w.heap.size, 5, none⟩ = some (.slice (some ⟨b1, off1, none⟩) n0 d) ∧ w'.cell? ⟨w.heap.size + 1, 5, none⟩ = some (.slice (some ⟨b2, off2, none⟩) n0 d') ∧ w'.cell? ⟨b1, off1 + i * 4, none⟩ = some (.slice A1 so.length c1) ∧ w'.cell? ⟨b1, off1 + i * 4 + 1, none⟩ = some (.int .i64 sd) ∧ w'.cell? ⟨b1, off1 + i * 4 + 2, none⟩ = some (.int .u64 (sp1.toNat : Int)) ∧ w'.cell? ⟨b1, off1 + i * 4 + 3, none⟩ = some (.int .u64 (sp2.toNat : Int)) ∧ w'.cell? ⟨b2, off2 + i * 4, none⟩ = some (.slice A2 t1.length c2) ∧ w'.cell? ⟨b2, off2 + i * 4 + 1, none⟩ = some (.int .i64 td) ∧ w'.cell? ⟨b2, off2 + i * 4 + 2, none⟩ = some (.int .u64 (tp1.toNat : Int)) ∧ w'.cell? ⟨b2, off2 + i * 4 + 3, none⟩ = some (.int .u64 (tp2.toNat : Int))) (by kernel_rfl) ?_ (fun hHeld => ?_)
        · ((try dsimp only); (try go_split_ands); refine ⟨?_, ?_, ?_, ?_, ?_, ?_, ?_, ?_, ?_, ?_⟩ <;> with_reducible assumption)
        generalize wr.drew = wd at *
        refine Any.take (i := 0) (v := ?_) rfl (by kernel_rfl) (by kernel_rfl) (by kernel_rfl) (by kernel_rfl) (fun _ _ _ h => h) (Or.inl ⟨by rfl, ?_⟩) hHeld ?_
        rotate_left
        · intro w hSw
          (try dsimp only at hSw)
          go_simp
          all_goals with_reducible rfl
        try simp only [List.getElem_toArray, List.getElem_cons_succ, List.getElem_cons_zero, Act.put, List.setIfInBounds_toArray, List.set_cons_zero, List.set_cons_succ]
        refine Any.take (i := 1) (v := ?_) rfl (by kernel_rfl) (by kernel_rfl) (by kernel_rfl) (by kernel_rfl) (fun _ _ _ h => h) (Or.inl ⟨by rfl, ?_⟩) hHeld ?_
        rotate_left
        · intro w hSw
          (try dsimp only at hSw)
          go_simp
          all_goals with_reducible rfl
        try simp only [List.getElem_toArray, List.getElem_cons_succ, List.getElem_cons_zero, Act.put, List.setIfInBounds_toArray, List.set_cons_zero, List.set_cons_succ]
        refine Any.take (i := 2) (v := ?_) rfl (by kernel_rfl) (by kernel_rfl) (by kernel_rfl) (by kernel_rfl) (fun _ _ _ h => h) (Or.inl ⟨by rfl, ?_⟩) hHeld ?_
        rotate_left
        · intro w hSw
          (try dsimp only at hSw)
          go_simp
          all_goals with_reducible rfl
        try simp only [List.getElem_toArray, List.getElem_cons_succ, List.getElem_cons_zero, Act.put, List.setIfInBounds_toArray, List.set_cons_zero, List.set_cons_succ]
        refine Any.take (i := 3) (v := ?_) rfl (by kernel_rfl) (by kernel_rfl) (by kernel_rfl) (by kernel_rfl) (fun _ _ _ h => h) (Or.inl ⟨by rfl, ?_⟩) hHeld ?_
        rotate_left
        · intro w hSw
          (try dsimp only at hSw)
          go_simp
          all_goals with_reducible rfl
        try simp only [List.getElem_toArray, List.getElem_cons_succ, List.getElem_cons_zero, Act.put, List.setIfInBounds_toArray, List.set_cons_zero, List.set_cons_succ]
        refine Any.take (i := 4) (v := ?_) rfl (by kernel_rfl) (by kernel_rfl) (by kernel_rfl) (by kernel_rfl) (fun _ _ _ h => h) (Or.inl ⟨by rfl, ?_⟩) hHeld ?_
        rotate_left
        · intro w hSw
          (try dsimp only at hSw)
          go_simp
          all_goals with_reducible rfl
        try simp only [List.getElem_toArray, List.getElem_cons_succ, List.getElem_cons_zero, Act.put, List.setIfInBounds_toArray, List.set_cons_zero, List.set_cons_succ]
        refine Any.take (i := 5) (v := ?_) rfl (by kernel_rfl) (by kernel_rfl) (by kernel_rfl) (by kernel_rfl) (fun _ _ _ h => h) (Or.inl ⟨by rfl, ?_⟩) hHeld ?_
        rotate_left
        · intro w hSw
          (try dsimp only at hSw)
          go_simp
          all_goals with_reducible rfl
        try simp only [List.getElem_toArray, List.getElem_cons_succ, List.getElem_cons_zero, Act.put, List.setIfInBounds_toArray, List.set_cons_zero, List.set_cons_succ]
        refine Any.take (i := 6) (v := ?_) rfl (by kernel_rfl) (by kernel_rfl) (by kernel_rfl) (by kernel_rfl) (fun _ _ _ h => h) (Or.inl ⟨by rfl, ?_⟩) hHeld ?_
        rotate_left
        · intro w hSw
          (try dsimp only at hSw)
          go_simp
          all_goals with_reducible rfl
        try simp only [List.getElem_toArray, List.getElem_cons_succ, List.getElem_cons_zero, Act.put, List.setIfInBounds_toArray, List.set_cons_zero, List.set_cons_succ]
        refine Any.take (i := 7) (v := ?_) rfl (by kernel_rfl) (by kernel_rfl) (by kernel_rfl) (by kernel_rfl) (fun _ _ _ h => h) (Or.inl ⟨by rfl, ?_⟩) hHeld ?_
        rotate_left
        · intro w hSw
          (try dsimp only at hSw)
          go_simp
          all_goals with_reducible rfl
        try simp only [List.getElem_toArray, List.getElem_cons_succ, List.getElem_cons_zero, Act.put, List.setIfInBounds_toArray, List.set_cons_zero, List.set_cons_succ]
        refine Any.take (i := 8) (v := ?_) rfl (by kernel_rfl) (by kernel_rfl) (by kernel_rfl) (by kernel_rfl) (fun _ _ _ h => h) (Or.inl ⟨by rfl, ?_⟩) hHeld ?_
        rotate_left
        · intro w hSw
          (try dsimp only at hSw)
          go_simp
          all_goals with_reducible rfl
        try simp only [List.getElem_toArray, List.getElem_cons_succ, List.getElem_cons_zero, Act.put, List.setIfInBounds_toArray, List.set_cons_zero, List.set_cons_succ]
        refine Any.take (i := 9) (v := ?_) rfl (by kernel_rfl) (by kernel_rfl) (by kernel_rfl) (by kernel_rfl) (fun _ _ _ h => h) (Or.inl ⟨by rfl, ?_⟩) hHeld ?_
        rotate_left
        · intro w hSw
          (try dsimp only at hSw)
          go_simp
          all_goals with_reducible rfl
        try simp only [List.getElem_toArray, List.getElem_cons_succ, List.getElem_cons_zero, Act.put, List.setIfInBounds_toArray, List.set_cons_zero, List.set_cons_succ]
        refine Any.take (i := 10) (v := ?_) rfl (by kernel_rfl) (by kernel_rfl) (by kernel_rfl) (by kernel_rfl) (fun _ _ _ h => h) (Or.inl ⟨by rfl, ?_⟩) hHeld ?_
        rotate_left
        · intro w hSw
          (try dsimp only at hSw)
          go_simp
          all_goals with_reducible rfl
        try simp only [List.getElem_toArray, List.getElem_cons_succ, List.getElem_cons_zero, Act.put, List.setIfInBounds_toArray, List.set_cons_zero, List.set_cons_succ]
        refine Any.take (i := 11) (v := ?_) rfl (by kernel_rfl) (by kernel_rfl) (by kernel_rfl) (by kernel_rfl) (fun _ _ _ h => h) (Or.inl ⟨by rfl, ?_⟩) hHeld ?_
        rotate_left
        · intro w hSw
          (try dsimp only at hSw)
          go_simp
          all_goals with_reducible rfl
        try simp only [List.getElem_toArray, List.getElem_cons_succ, List.getElem_cons_zero, Act.put, List.setIfInBounds_toArray, List.set_cons_zero, List.set_cons_succ]
        refine Any.ready (rs := [12]) (by kernel_rfl) (by simp) ?_
        refine AllAny.cons rfl rfl (fun K hK => ?_) AllAny.nil
        go_simp
        go_at_call 26
        with_reducible refine (ssame_any ezq hlen _ _ _ _ _ HR1.out HR2.out).mono ?_
        (try go_split_ands)
        rintro e wa ⟨rfl, hba⟩
        go_wp2_with fail
        replace e0 := keeps hba e0
        replace e1 := keeps hba e1
        replace e2 := keeps hba e2
        replace e3 := keeps hba e3
        replace k0 := keeps hba k0
        replace k1 := keeps hba k1
        replace k2 := keeps hba k2
        replace k3 := keeps hba k3
        replace x5 := keeps hba x5
        replace y5 := keeps hba y5
        replace KD := mkHid (KD.out.step hba)
        replace KR := mkHid (KR.out.step hba)
        clear hba
        refine hK.out _ _ ?_ (fun hHeld => ?_)
        · ((try dsimp only); (try go_split_ands); refine ⟨?_, ?_, ?_, ?_, ?_, ?_, ?_, ?_, ?_, ?_⟩ <;> with_reducible assumption)
        clear hK K
        try simp only [List.getElem_toArray, List.getElem_cons_succ, List.getElem_cons_zero, Act.put, List.setIfInBounds_toArray, List.set_cons_zero, List.set_cons_succ]
        refine Any.take (i := 13) (v := ?_) rfl (by kernel_rfl) (by kernel_rfl) (by kernel_rfl) (by kernel_rfl) (fun _ _ _ h => h) (Or.inl ⟨by rfl, ?_⟩) hHeld ?_
        rotate_left
        · intro w hSw
          (try dsimp only at hSw)
          go_simp
          all_goals with_reducible rfl
        try simp only [List.getElem_toArray, List.getElem_cons_succ, List.getElem_cons_zero, Act.put, List.setIfInBounds_toArray, List.set_cons_zero, List.set_cons_succ]
        refine Any.take (i := 14) (v := ?_) rfl (by kernel_rfl) (by kernel_rfl) (by kernel_rfl) (by kernel_rfl) (fun _ _ _ h => h) (Or.inl ⟨by rfl, ?_⟩) hHeld ?_
        rotate_left
        · intro w hSw
          (try dsimp only at hSw)
          go_simp
          all_goals with_reducible rfl
        try simp only [List.getElem_toArray, List.getElem_cons_succ, List.getElem_cons_zero, Act.put, List.setIfInBounds_toArray, List.set_cons_zero, List.set_cons_succ]
        refine Any.take (i := 15) (v := undef) rfl (by kernel_rfl) (by kernel_rfl) (by kernel_rfl) (by kernel_rfl) (fun _ _ _ h => h) (Or.inr ⟨by rfl, rfl⟩) hHeld ?_
        try simp only [List.getElem_toArray, List.getElem_cons_succ, List.getElem_cons_zero, Act.put, List.setIfInBounds_toArray, List.set_cons_zero, List.set_cons_succ]
        refine Any.take (i := 16) (v := undef) rfl (by kernel_rfl) (by kernel_rfl) (by kernel_rfl) (by kernel_rfl) (fun _ _ _ h => h) (Or.inr ⟨by rfl, rfl⟩) hHeld ?_
        try simp only [List.getElem_toArray, List.getElem_cons_succ, List.getElem_cons_zero, Act.put, List.setIfInBounds_toArray, List.set_cons_zero, List.set_cons_succ]
        refine Any.take (i := 17) (v := undef) rfl (by kernel_rfl) (by kernel_rfl) (by kernel_rfl) (by kernel_rfl) (fun _ _ _ h => h) (Or.inr ⟨by rfl, rfl⟩) hHeld ?_
        try simp only [List.getElem_toArray, List.getElem_cons_succ, List.getElem_cons_zero, Act.put, List.setIfInBounds_toArray, List.set_cons_zero, List.set_cons_succ]
        refine Any.take (i := 18) (v := undef) rfl (by kernel_rfl) (by kernel_rfl) (by kernel_rfl) (by kernel_rfl) (fun _ _ _ h => h) (Or.inr ⟨by rfl, rfl⟩) hHeld ?_
        try simp only [List.getElem_toArray, List.getElem_cons_succ, List.getElem_cons_zero, Act.put, List.setIfInBounds_toArray, List.set_cons_zero, List.set_cons_succ]
        refine Any.take (i := 19) (v := undef) rfl (by kernel_rfl) (by kernel_rfl) (by kernel_rfl) (by kernel_rfl) (fun _ _ _ h => h) (Or.inr ⟨by rfl, rfl⟩) hHeld ?_
        try simp only [List.getElem_toArray, List.getElem_cons_succ, List.getElem_cons_zero, Act.put, List.setIfInBounds_toArray, List.set_cons_zero, List.set_cons_succ]
        refine Any.take (i := 20) (v := undef) rfl (by kernel_rfl) (by kernel_rfl) (by kernel_rfl) (by kernel_rfl) (fun _ _ _ h => h) (Or.inr ⟨by rfl, rfl⟩) hHeld ?_
        try simp only [List.getElem_toArray, List.getElem_cons_succ, List.getElem_cons_zero, Act.put, List.setIfInBounds_toArray, List.set_cons_zero, List.set_cons_succ]
        refine Any.take (i := 21) (v := undef) rfl (by kernel_rfl) (by kernel_rfl) (by kernel_rfl) (by kernel_rfl) (fun _ _ _ h => h) (Or.inr ⟨by rfl, rfl⟩) hHeld ?_
        try simp only [List.getElem_toArray, List.getElem_cons_succ, List.getElem_cons_zero, Act.put, List.setIfInBounds_toArray, List.set_cons_zero, List.set_cons_succ]
        refine Any.take (i := 22) (v := undef) rfl (by kernel_rfl) (by kernel_rfl) (by kernel_rfl) (by kernel_rfl) (fun _ _ _ h => h) (Or.inr ⟨by rfl, rfl⟩) hHeld ?_
        try simp only [List.getElem_toArray, List.getElem_cons_succ, List.getElem_cons_zero, Act.put, List.setIfInBounds_toArray, List.set_cons_zero, List.set_cons_succ]
        refine Any.take (i := 23) (v := undef) rfl (by kernel_rfl) (by kernel_rfl) (by kernel_rfl) (by kernel_rfl) (fun _ _ _ h => h) (Or.inr ⟨by rfl, rfl⟩) hHeld ?_
        try simp only [List.getElem_toArray, List.getElem_cons_succ, List.getElem_cons_zero, Act.put, List.setIfInBounds_toArray, List.set_cons_zero, List.set_cons_succ]
        refine Any.take (i := 24) (v := undef) rfl (by kernel_rfl) (by kernel_rfl) (by kernel_rfl) (by kernel_rfl) (fun _ _ _ h => h) (Or.inr ⟨by rfl, rfl⟩) hHeld ?_
        try simp only [List.getElem_toArray, List.getElem_cons_succ, List.getElem_cons_zero, Act.put, List.setIfInBounds_toArray, List.set_cons_zero, List.set_cons_succ]
        refine Any.take (i := 25) (v := undef) rfl (by kernel_rfl) (by kernel_rfl) (by kernel_rfl) (by kernel_rfl) (fun _ _ _ h => h) (Or.inr ⟨by rfl, rfl⟩) hHeld ?_
        try simp only [List.getElem_toArray, List.getElem_cons_succ, List.getElem_cons_zero, Act.put, List.setIfInBounds_toArray, List.set_cons_zero, List.set_cons_succ]
        refine Any.take (i := 26) (v := undef) rfl (by kernel_rfl) (by kernel_rfl) (by kernel_rfl) (by kernel_rfl) (fun _ _ _ h => h) (Or.inr ⟨by rfl, rfl⟩) hHeld ?_
        try simp only [List.getElem_toArray, List.getElem_cons_succ, List.getElem_cons_zero, Act.put, List.setIfInBounds_toArray, List.set_cons_zero, List.set_cons_succ]
        refine Any.take (i := 27) (v := undef) rfl (by kernel_rfl) (by kernel_rfl) (by kernel_rfl) (by kernel_rfl) (fun _ _ _ h => h) (Or.inr ⟨by rfl, rfl⟩) hHeld ?_
        try simp only [List.getElem_toArray, List.getElem_cons_succ, List.getElem_cons_zero, Act.put, List.setIfInBounds_toArray, List.set_cons_zero, List.set_cons_succ]
        refine Any.take (i := 28) (v := ?_) rfl (by kernel_rfl) (by kernel_rfl) (by kernel_rfl) (by kernel_rfl) (fun _ _ _ h => h) (Or.inl ⟨by rfl, ?_⟩) hHeld ?_
        rotate_left
        · intro w hSw
          (try dsimp only at hSw)
          go_simp
          all_goals with_reducible rfl
        try simp only [List.getElem_toArray, List.getElem_cons_succ, List.getElem_cons_zero, Act.put, List.setIfInBounds_toArray, List.set_cons_zero, List.set_cons_succ]
        refine Any.take (i := 29) (v := ?_) rfl (by kernel_rfl) (by kernel_rfl) (by kernel_rfl) (by kernel_rfl) (fun _ _ _ h => h) (Or.inl ⟨by rfl, ?_⟩) hHeld ?_
        rotate_left
        · intro w hSw
          (try dsimp only at hSw)
          go_simp
          all_goals with_reducible rfl
        try simp only [List.getElem_toArray, List.getElem_cons_succ, List.getElem_cons_zero, Act.put, List.setIfInBounds_toArray, List.set_cons_zero, List.set_cons_succ]
        refine Any.take (i := 30) (v := undef) rfl (by kernel_rfl) (by kernel_rfl) (by kernel_rfl) (by kernel_rfl) (fun _ _ _ h => h) (Or.inr ⟨by rfl, rfl⟩) hHeld ?_
        try simp only [List.getElem_toArray, List.getElem_cons_succ, List.getElem_cons_zero, Act.put, List.setIfInBounds_toArray, List.set_cons_zero, List.set_cons_succ]
        refine Any.take (i := 31) (v := undef) rfl (by kernel_rfl) (by kernel_rfl) (by kernel_rfl) (by kernel_rfl) (fun _ _ _ h => h) (Or.inr ⟨by rfl, rfl⟩) hHeld ?_
        try simp only [List.getElem_toArray, List.getElem_cons_succ, List.getElem_cons_zero, Act.put, List.setIfInBounds_toArray, List.set_cons_zero, List.set_cons_succ]
        refine Any.take (i := 32) (v := undef) rfl (by kernel_rfl) (by kernel_rfl) (by kernel_rfl) (by kernel_rfl) (fun _ _ _ h => h) (Or.inr ⟨by rfl, rfl⟩) hHeld ?_
        try simp only [List.getElem_toArray, List.getElem_cons_succ, List.getElem_cons_zero, Act.put, List.setIfInBounds_toArray, List.set_cons_zero, List.set_cons_succ]
        refine Any.take (i := 33) (v := undef) rfl (by kernel_rfl) (by kernel_rfl) (by kernel_rfl) (by kernel_rfl) (fun _ _ _ h => h) (Or.inr ⟨by rfl, rfl⟩) hHeld ?_
        try simp only [List.getElem_toArray, List.getElem_cons_succ, List.getElem_cons_zero, Act.put, List.setIfInBounds_toArray, List.set_cons_zero, List.set_cons_succ]
        refine Any.take (i := 34) (v := undef) rfl (by kernel_rfl) (by kernel_rfl) (by kernel_rfl) (by kernel_rfl) (fun _ _ _ h => h) (Or.inr ⟨by rfl, rfl⟩) hHeld ?_
        try simp only [List.getElem_toArray, List.getElem_cons_succ, List.getElem_cons_zero, Act.put, List.setIfInBounds_toArray, List.set_cons_zero, List.set_cons_succ]
        refine Any.take (i := 35) (v := undef) rfl (by kernel_rfl) (by kernel_rfl) (by kernel_rfl) (by kernel_rfl) (fun _ _ _ h => h) (Or.inr ⟨by rfl, rfl⟩) hHeld ?_
        try simp only [List.getElem_toArray, List.getElem_cons_succ, List.getElem_cons_zero, Act.put, List.setIfInBounds_toArray, List.set_cons_zero, List.set_cons_succ]
        refine Any.take (i := 36) (v := undef) rfl (by kernel_rfl) (by kernel_rfl) (by kernel_rfl) (by kernel_rfl) (fun _ _ _ h => h) (Or.inr ⟨by rfl, rfl⟩) hHeld ?_
        try simp only [List.getElem_toArray, List.getElem_cons_succ, List.getElem_cons_zero, Act.put, List.setIfInBounds_toArray, List.set_cons_zero, List.set_cons_succ]
        refine Any.take (i := 37) (v := undef) rfl (by kernel_rfl) (by kernel_rfl) (by kernel_rfl) (by kernel_rfl) (fun _ _ _ h => h) (Or.inr ⟨by rfl, rfl⟩) hHeld ?_
        try simp only [List.getElem_toArray, List.getElem_cons_succ, List.getElem_cons_zero, Act.put, List.setIfInBounds_toArray, List.set_cons_zero, List.set_cons_succ]
        refine Any.take (i := 38) (v := undef) rfl (by kernel_rfl) (by kernel_rfl) (by kernel_rfl) (by kernel_rfl) (fun _ _ _ h => h) (Or.inr ⟨by rfl, rfl⟩) hHeld ?_
        try simp only [List.getElem_toArray, List.getElem_cons_succ, List.getElem_cons_zero, Act.put, List.setIfInBounds_toArray, List.set_cons_zero, List.set_cons_succ]
        refine Any.take (i := 39) (v := undef) rfl (by kernel_rfl) (by kernel_rfl) (by kernel_rfl) (by kernel_rfl) (fun _ _ _ h => h) (Or.inr ⟨by rfl, rfl⟩) hHeld ?_
        try simp only [List.getElem_toArray, List.getElem_cons_succ, List.getElem_cons_zero, Act.put, List.setIfInBounds_toArray, List.set_cons_zero, List.set_cons_succ]
        refine Any.take (i := 40) (v := undef) rfl (by kernel_rfl) (by kernel_rfl) (by kernel_rfl) (by kernel_rfl) (fun _ _ _ h => h) (Or.inr ⟨by rfl, rfl⟩) hHeld ?_
        try simp only [List.getElem_toArray, List.getElem_cons_succ, List.getElem_cons_zero, Act.put, List.setIfInBounds_toArray, List.set_cons_zero, List.set_cons_succ]
        refine Any.take (i := 41) (v := undef) rfl (by kernel_rfl) (by kernel_rfl) (by kernel_rfl) (by kernel_rfl) (fun _ _ _ h => h) (Or.inr ⟨by rfl, rfl⟩) hHeld ?_
        try simp only [List.getElem_toArray, List.getElem_cons_succ, List.getElem_cons_zero, Act.put, List.setIfInBounds_toArray, List.set_cons_zero, List.set_cons_succ]
        refine Any.take (i := 42) (v := undef) rfl (by kernel_rfl) (by kernel_rfl) (by kernel_rfl) (by kernel_rfl) (fun _ _ _ h => h) (Or.inr ⟨by rfl, rfl⟩) hHeld ?_
        try simp only [List.getElem_toArray, List.getElem_cons_succ, List.getElem_cons_zero, Act.put, List.setIfInBounds_toArray, List.set_cons_zero, List.set_cons_succ]
        refine Any.take (i := 43) (v := ?_) rfl (by kernel_rfl) (by kernel_rfl) (by kernel_rfl) (by kernel_rfl) (fun _ _ _ h => h) (Or.inl ⟨by rfl, ?_⟩) hHeld ?_
        rotate_left
        · intro w hSw
          (try dsimp only at hSw)
          go_simp
          all_goals with_reducible rfl
        try simp only [List.getElem_toArray, List.getElem_cons_succ, List.getElem_cons_zero, Act.put, List.setIfInBounds_toArray, List.set_cons_zero, List.set_cons_succ]
        refine Any.done (by kernel_rfl) ?_ _
        obtain rfl : z = false := by rw [← hz.out]; exact sameTo_false (Nat.succ_le_of_lt hlt) (by rw [hsk.out, hk.out]; simp)
        go_wp2_with fail
        go_ret
        exact ⟨rfl, KD.out⟩
      · cases t3 : (sd == td)
        · have u3 : (sd != td) = true := by unfold bne; rw [t3]; rfl
          refine wp_region_late (late := fun _ => false) (S := fun w' => w'.cell? ⟨w.heap.size, 5, none⟩ = some (.slice (some ⟨b1, off1, none⟩) n0 d) ∧ w'.cell? ⟨w.heap.size + 1, 5, none⟩ = some (.slice (some ⟨b2, off2, none⟩) n0 d') ∧ w'.cell? ⟨b1, off1 + i * 4, none⟩ = some (.slice A1 so.length c1) ∧ w'.cell? ⟨b1, off1 + i * 4 + 1, none⟩ = some (.int .i64 sd) ∧ w'.cell? ⟨b1, off1 + i * 4 + 2, none⟩ = some (.int .u64 (sp1.toNat : Int)) ∧ w'.cell? ⟨b1, off1 + i * 4 + 3, none⟩ = some (.int .u64 (sp2.toNat : Int)) ∧ w'.cell? ⟨b2, off2 + i * 4, none⟩ = some (.slice A2 t1.length c2) ∧ w'.cell? ⟨b2, off2 + i * 4 + 1, none⟩ = some (.int .i64 td) ∧ w'.cell? ⟨b2, off2 + i * 4 + 2, none⟩ = some (.int .u64 (tp1.toNat : Int)) ∧ w'.cell? ⟨b2, off2 + i * 4 + 3, none⟩ = some (.int .u64 (tp2.toNat : Int))) (by kernel_rfl) ?_ (fun hHeld => ?_)
          · ((try dsimp only); (try go_split_ands); refine ⟨?_, ?_, ?_, ?_, ?_, ?_, ?_, ?_, ?_, ?_⟩ <;> with_reducible assumption)
          generalize wr.drew = wd at *
          refine Any.take (i := 0) (v := ?_) rfl (by kernel_rfl) (by kernel_rfl) (by kernel_rfl) (by kernel_rfl) (fun _ _ _ h => h) (Or.inl ⟨by rfl, ?_⟩) hHeld ?_
          rotate_left
          · intro w hSw
            (try dsimp only at hSw)
            go_simp
            all_goals with_reducible rfl
          try simp only [List.getElem_toArray, List.getElem_cons_succ, List.getElem_cons_zero, Act.put, List.setIfInBounds_toArray, List.set_cons_zero, List.set_cons_succ]
          refine Any.take (i := 1) (v := ?_) rfl (by kernel_rfl) (by kernel_rfl) (by kernel_rfl) (by kernel_rfl) (fun _ _ _ h => h) (Or.inl ⟨by rfl, ?_⟩) hHeld ?_
          rotate_left
          · intro w hSw
            (try dsimp only at hSw)
            go_simp
            all_goals with_reducible rfl
          try simp only [List.getElem_toArray, List.getElem_cons_succ, List.getElem_cons_zero, Act.put, List.setIfInBounds_toArray, List.set_cons_zero, List.set_cons_succ]
          refine Any.take (i := 2) (v := ?_) rfl (by kernel_rfl) (by kernel_rfl) (by kernel_rfl) (by kernel_rfl) (fun _ _ _ h => h) (Or.inl ⟨by rfl, ?_⟩) hHeld ?_
          rotate_left
          · intro w hSw
            (try dsimp only at hSw)
            go_simp
            all_goals with_reducible rfl
          try simp only [List.getElem_toArray, List.getElem_cons_succ, List.getElem_cons_zero, Act.put, List.setIfInBounds_toArray, List.set_cons_zero, List.set_cons_succ]
          refine Any.take (i := 3) (v := ?_) rfl (by kernel_rfl) (by kernel_rfl) (by kernel_rfl) (by kernel_rfl) (fun _ _ _ h => h) (Or.inl ⟨by rfl, ?_⟩) hHeld ?_
          rotate_left
          · intro w hSw
            (try dsimp only at hSw)
            go_simp
            all_goals with_reducible rfl
          try simp only [List.getElem_toArray, List.getElem_cons_succ, List.getElem_cons_zero, Act.put, List.setIfInBounds_toArray, List.set_cons_zero, List.set_cons_succ]
          refine Any.take (i := 4) (v := ?_) rfl (by kernel_rfl) (by kernel_rfl) (by kernel_rfl) (by kernel_rfl) (fun _ _ _ h => h) (Or.inl ⟨by rfl, ?_⟩) hHeld ?_
          rotate_left
          · intro w hSw
            (try dsimp only at hSw)
            go_simp
            all_goals with_reducible rfl
          try simp only [List.getElem_toArray, List.getElem_cons_succ, List.getElem_cons_zero, Act.put, List.setIfInBounds_toArray, List.set_cons_zero, List.set_cons_succ]
          refine Any.take (i := 5) (v := ?_) rfl (by kernel_rfl) (by kernel_rfl) (by kernel_rfl) (by kernel_rfl) (fun _ _ _ h => h) (Or.inl ⟨by rfl, ?_⟩) hHeld ?_
          rotate_left
          · intro w hSw
            (try dsimp only at hSw)
            go_simp
            all_goals with_reducible rfl
          try simp only [List.getElem_toArray, List.getElem_cons_succ, List.getElem_cons_zero, Act.put, List.setIfInBounds_toArray, List.set_cons_zero, List.set_cons_succ]
          refine Any.take (i := 6) (v := ?_) rfl (by kernel_rfl) (by kernel_rfl) (by kernel_rfl) (by kernel_rfl) (fun _ _ _ h => h) (Or.inl ⟨by rfl, ?_⟩) hHeld ?_
          rotate_left
          · intro w hSw
            (try dsimp only at hSw)
            go_simp
            all_goals with_reducible rfl
          try simp only [List.getElem_toArray, List.getElem_cons_succ, List.getElem_cons_zero, Act.put, List.setIfInBounds_toArray, List.set_cons_zero, List.set_cons_succ]
          refine Any.take (i := 7) (v := ?_) rfl (by kernel_rfl) (by kernel_rfl) (by kernel_rfl) (by kernel_rfl) (fun _ _ _ h => h) (Or.inl ⟨by rfl, ?_⟩) hHeld ?_
          rotate_left
          · intro w hSw
            (try dsimp only at hSw)
            go_simp
            all_goals with_reducible rfl
          try simp only [List.getElem_toArray, List.getElem_cons_succ, List.getElem_cons_zero, Act.put, List.setIfInBounds_toArray, List.set_cons_zero, List.set_cons_succ]
          refine Any.take (i := 8) (v := ?_) rfl (by kernel_rfl) (by kernel_rfl) (by kernel_rfl) (by kernel_rfl) (fun _ _ _ h => h) (Or.inl ⟨by rfl, ?_⟩) hHeld ?_
          rotate_left
          · intro w hSw
            (try dsimp only at hSw)
            go_simp
            all_goals with_reducible rfl
          try simp only [List.getElem_toArray, List.getElem_cons_succ, List.getElem_cons_zero, Act.put, List.setIfInBounds_toArray, List.set_cons_zero, List.set_cons_succ]
          refine Any.take (i := 9) (v := ?_) rfl (by kernel_rfl) (by kernel_rfl) (by kernel_rfl) (by kernel_rfl) (fun _ _ _ h => h) (Or.inl ⟨by rfl, ?_⟩) hHeld ?_
          rotate_left
          · intro w hSw
            (try dsimp only at hSw)
            go_simp
            all_goals with_reducible rfl
          try simp only [List.getElem_toArray, List.getElem_cons_succ, List.getElem_cons_zero, Act.put, List.setIfInBounds_toArray, List.set_cons_zero, List.set_cons_succ]
          refine Any.take (i := 10) (v := ?_) rfl (by kernel_rfl) (by kernel_rfl) (by kernel_rfl) (by kernel_rfl) (fun _ _ _ h => h) (Or.inl ⟨by rfl, ?_⟩) hHeld ?_
          rotate_left
          · intro w hSw
            (try dsimp only at hSw)
            go_simp
            all_goals with_reducible rfl
          try simp only [List.getElem_toArray, List.getElem_cons_succ, List.getElem_cons_zero, Act.put, List.setIfInBounds_toArray, List.set_cons_zero, List.set_cons_succ]
          refine Any.take (i := 11) (v := ?_) rfl (by kernel_rfl) (by kernel_rfl) (by kernel_rfl) (by kernel_rfl) (fun _ _ _ h => h) (Or.inl ⟨by rfl, ?_⟩) hHeld ?_
          rotate_left
          · intro w hSw
            (try dsimp only at hSw)
            go_simp
            all_goals with_reducible rfl
          try simp only [List.getElem_toArray, List.getElem_cons_succ, List.getElem_cons_zero, Act.put, List.setIfInBounds_toArray, List.set_cons_zero, List.set_cons_succ]
          refine Any.ready (rs := [12]) (by kernel_rfl) (by simp) ?_
          refine AllAny.cons rfl rfl (fun K hK => ?_) AllAny.nil
          go_simp
          go_at_call 26
          with_reducible refine (ssame_any ezq hlen _ _ _ _ _ HR1.out HR2.out).mono ?_
          (try go_split_ands)
          rintro e wa ⟨rfl, hba⟩
          go_wp2_with fail
          replace e0 := keeps hba e0
          replace e1 := keeps hba e1
          replace e2 := keeps hba e2
          replace e3 := keeps hba e3
          replace k0 := keeps hba k0
          replace k1 := keeps hba k1
          replace k2 := keeps hba k2
          replace k3 := keeps hba k3
          replace x5 := keeps hba x5
          replace y5 := keeps hba y5
          replace KD := mkHid (KD.out.step hba)
          replace KR := mkHid (KR.out.step hba)
          clear hba
          refine hK.out _ _ ?_ (fun hHeld => ?_)
          · ((try dsimp only); (try go_split_ands); refine ⟨?_, ?_, ?_, ?_, ?_, ?_, ?_, ?_, ?_, ?_⟩ <;> with_reducible assumption)
          clear hK K
          try simp only [List.getElem_toArray, List.getElem_cons_succ, List.getElem_cons_zero, Act.put, List.setIfInBounds_toArray, List.set_cons_zero, List.set_cons_succ]
          refine Any.take (i := 13) (v := ?_) rfl (by kernel_rfl) (by kernel_rfl) (by kernel_rfl) (by kernel_rfl) (fun _ _ _ h => h) (Or.inl ⟨by rfl, ?_⟩) hHeld ?_
          rotate_left
          · intro w hSw
            (try dsimp only at hSw)
            go_simp
            all_goals with_reducible rfl
          try simp only [List.getElem_toArray, List.getElem_cons_succ, List.getElem_cons_zero, Act.put, List.setIfInBounds_toArray, List.set_cons_zero, List.set_cons_succ]
          refine Any.take (i := 14) (v := ?_) rfl (by kernel_rfl) (by kernel_rfl) (by kernel_rfl) (by kernel_rfl) (fun _ _ _ h => h) (Or.inl ⟨by rfl, ?_⟩) hHeld ?_
          rotate_left
          · intro w hSw
            (try dsimp only at hSw)
            go_simp
            all_goals with_reducible rfl
          try simp only [List.getElem_toArray, List.getElem_cons_succ, List.getElem_cons_zero, Act.put, List.setIfInBounds_toArray, List.set_cons_zero, List.set_cons_succ]
          refine Any.take (i := 15) (v := ?_) rfl (by kernel_rfl) (by kernel_rfl) (by kernel_rfl) (by kernel_rfl) (fun _ _ _ h => h) (Or.inl ⟨by rfl, ?_⟩) hHeld ?_
          rotate_left
          · intro w hSw
            (try dsimp only at hSw)
            go_simp
            all_goals with_reducible rfl
          try simp only [List.getElem_toArray, List.getElem_cons_succ, List.getElem_cons_zero, Act.put, List.setIfInBounds_toArray, List.set_cons_zero, List.set_cons_succ]
          refine Any.take (i := 16) (v := ?_) rfl (by kernel_rfl) (by kernel_rfl) (by kernel_rfl) (by kernel_rfl) (fun _ _ _ h => h) (Or.inl ⟨by rfl, ?_⟩) hHeld ?_
          rotate_left
          · intro w hSw
            (try dsimp only at hSw)
            go_simp
            all_goals with_reducible rfl
          try simp only [List.getElem_toArray, List.getElem_cons_succ, List.getElem_cons_zero, Act.put, List.setIfInBounds_toArray, List.set_cons_zero, List.set_cons_succ]
          refine Any.take (i := 17) (v := ?_) rfl (by kernel_rfl) (by kernel_rfl) (by kernel_rfl) (by kernel_rfl) (fun _ _ _ h => h) (Or.inl ⟨by rfl, ?_⟩) hHeld ?_
          rotate_left
          · intro w hSw
            (try dsimp only at hSw)
            go_simp
            all_goals with_reducible rfl
          try simp only [List.getElem_toArray, List.getElem_cons_succ, List.getElem_cons_zero, Act.put, List.setIfInBounds_toArray, List.set_cons_zero, List.set_cons_succ]
          refine Any.take (i := 18) (v := ?_) rfl (by kernel_rfl) (by kernel_rfl) (by kernel_rfl) (by kernel_rfl) (fun _ _ _ h => h) (Or.inl ⟨by rfl, ?_⟩) hHeld ?_
          rotate_left
          · intro w hSw
            (try dsimp only at hSw)
            go_simp
            all_goals with_reducible rfl
          try simp only [List.getElem_toArray, List.getElem_cons_succ, List.getElem_cons_zero, Act.put, List.setIfInBounds_toArray, List.set_cons_zero, List.set_cons_succ]
          refine Any.take (i := 19) (v := ?_) rfl (by kernel_rfl) (by kernel_rfl) (by kernel_rfl) (by kernel_rfl) (fun _ _ _ h => h) (Or.inl ⟨by rfl, ?_⟩) hHeld ?_
          rotate_left
          · intro w hSw
            (try dsimp only at hSw)
            go_simp
            all_goals with_reducible rfl
          try simp only [List.getElem_toArray, List.getElem_cons_succ, List.getElem_cons_zero, Act.put, List.setIfInBounds_toArray, List.set_cons_zero, List.set_cons_succ]
          refine Any.take (i := 20) (v := ?_) rfl (by kernel_rfl) (by kernel_rfl) (by kernel_rfl) (by kernel_rfl) (fun _ _ _ h => h) (Or.inl ⟨by rfl, ?_⟩) hHeld ?_
          rotate_left
          · intro w hSw
            (try dsimp only at hSw)
            go_simp
            all_goals with_reducible rfl
          try simp only [List.getElem_toArray, List.getElem_cons_succ, List.getElem_cons_zero, Act.put, List.setIfInBounds_toArray, List.set_cons_zero, List.set_cons_succ]
          refine Any.take (i := 21) (v := ?_) rfl (by kernel_rfl) (by kernel_rfl) (by kernel_rfl) (by kernel_rfl) (fun _ _ _ h => h) (Or.inl ⟨by rfl, ?_⟩) hHeld ?_
          rotate_left
          · intro w hSw
            (try dsimp only at hSw)
            go_simp
            all_goals with_reducible rfl
          try simp only [List.getElem_toArray, List.getElem_cons_succ, List.getElem_cons_zero, Act.put, List.setIfInBounds_toArray, List.set_cons_zero, List.set_cons_succ]
          refine Any.take (i := 22) (v := ?_) rfl (by kernel_rfl) (by kernel_rfl) (by kernel_rfl) (by kernel_rfl) (fun _ _ _ h => h) (Or.inl ⟨by rfl, ?_⟩) hHeld ?_
          rotate_left
          · intro w hSw
            (try dsimp only at hSw)
            go_simp
            all_goals with_reducible rfl
          try simp only [List.getElem_toArray, List.getElem_cons_succ, List.getElem_cons_zero, Act.put, List.setIfInBounds_toArray, List.set_cons_zero, List.set_cons_succ]
          refine Any.take (i := 23) (v := ?_) rfl (by kernel_rfl) (by kernel_rfl) (by kernel_rfl) (by kernel_rfl) (fun _ _ _ h => h) (Or.inl ⟨by rfl, ?_⟩) hHeld ?_
          rotate_left
          · intro w hSw
            (try dsimp only at hSw)
            go_simp
            all_goals with_reducible rfl
          try simp only [List.getElem_toArray, List.getElem_cons_succ, List.getElem_cons_zero, Act.put, List.setIfInBounds_toArray, List.set_cons_zero, List.set_cons_succ]
          refine Any.take (i := 24) (v := ?_) rfl (by kernel_rfl) (by kernel_rfl) (by kernel_rfl) (by kernel_rfl) (fun _ _ _ h => h) (Or.inl ⟨by rfl, ?_⟩) hHeld ?_
          rotate_left
          · intro w hSw
            (try dsimp only at hSw)
            go_simp
            all_goals with_reducible rfl
          try simp only [List.getElem_toArray, List.getElem_cons_succ, List.getElem_cons_zero, Act.put, List.setIfInBounds_toArray, List.set_cons_zero, List.set_cons_succ]
          refine Any.take (i := 25) (v := ?_) rfl (by kernel_rfl) (by kernel_rfl) (by kernel_rfl) (by kernel_rfl) (fun _ _ _ h => h) (Or.inl ⟨by rfl, ?_⟩) hHeld ?_
          rotate_left
          · intro w hSw
            (try dsimp only at hSw)
            go_simp
            all_goals with_reducible rfl
          try simp only [List.getElem_toArray, List.getElem_cons_succ, List.getElem_cons_zero, Act.put, List.setIfInBounds_toArray, List.set_cons_zero, List.set_cons_succ]
          refine Any.take (i := 26) (v := ?_) rfl (by kernel_rfl) (by kernel_rfl) (by kernel_rfl) (by kernel_rfl) (fun _ _ _ h => h) (Or.inl ⟨by rfl, ?_⟩) hHeld ?_
          rotate_left
          · intro w hSw
            (try dsimp only at hSw)
            go_simp
            all_goals with_reducible rfl
          try simp only [List.getElem_toArray, List.getElem_cons_succ, List.getElem_cons_zero, Act.put, List.setIfInBounds_toArray, List.set_cons_zero, List.set_cons_succ]
          refine Any.take (i := 27) (v := ?_) rfl (by kernel_rfl) (by kernel_rfl) (by kernel_rfl) (by kernel_rfl) (fun _ _ _ h => h) (Or.inl ⟨by rfl, ?_⟩) hHeld ?_
          rotate_left
          · intro w hSw
            (try dsimp only at hSw)
            go_simp
            all_goals with_reducible rfl
          try simp only [List.getElem_toArray, List.getElem_cons_succ, List.getElem_cons_zero, Act.put, List.setIfInBounds_toArray, List.set_cons_zero, List.set_cons_succ]
          refine Any.take (i := 28) (v := ?_) rfl (by kernel_rfl) (by kernel_rfl) (by kernel_rfl) (by kernel_rfl) (fun _ _ _ h => h) (Or.inl ⟨by rfl, ?_⟩) hHeld ?_
          rotate_left
          · intro w hSw
            (try dsimp only at hSw)
            go_simp
            all_goals with_reducible rfl
          try simp only [List.getElem_toArray, List.getElem_cons_succ, List.getElem_cons_zero, Act.put, List.setIfInBounds_toArray, List.set_cons_zero, List.set_cons_succ]
          refine Any.take (i := 29) (v := ?_) rfl (by kernel_rfl) (by kernel_rfl) (by kernel_rfl) (by kernel_rfl) (fun _ _ _ h => h) (Or.inl ⟨by rfl, ?_⟩) hHeld ?_
          rotate_left
          · intro w hSw
            (try dsimp only at hSw)
            go_simp
            all_goals with_reducible rfl
          try simp only [List.getElem_toArray, List.getElem_cons_succ, List.getElem_cons_zero, Act.put, List.setIfInBounds_toArray, List.set_cons_zero, List.set_cons_succ]
          refine Any.take (i := 30) (v := undef) rfl (by kernel_rfl) (by kernel_rfl) (by kernel_rfl) (by kernel_rfl) (fun _ _ _ h => h) (Or.inr ⟨by rfl, rfl⟩) hHeld ?_
          try simp only [List.getElem_toArray, List.getElem_cons_succ, List.getElem_cons_zero, Act.put, List.setIfInBounds_toArray, List.set_cons_zero, List.set_cons_succ]
          refine Any.take (i := 31) (v := undef) rfl (by kernel_rfl) (by kernel_rfl) (by kernel_rfl) (by kernel_rfl) (fun _ _ _ h => h) (Or.inr ⟨by rfl, rfl⟩) hHeld ?_
          try simp only [List.getElem_toArray, List.getElem_cons_succ, List.getElem_cons_zero, Act.put, List.setIfInBounds_toArray, List.set_cons_zero, List.set_cons_succ]
          refine Any.take (i := 32) (v := undef) rfl (by kernel_rfl) (by kernel_rfl) (by kernel_rfl) (by kernel_rfl) (fun _ _ _ h => h) (Or.inr ⟨by rfl, rfl⟩) hHeld ?_
          try simp only [List.getElem_toArray, List.getElem_cons_succ, List.getElem_cons_zero, Act.put, List.setIfInBounds_toArray, List.set_cons_zero, List.set_cons_succ]
          refine Any.take (i := 33) (v := undef) rfl (by kernel_rfl) (by kernel_rfl) (by kernel_rfl) (by kernel_rfl) (fun _ _ _ h => h) (Or.inr ⟨by rfl, rfl⟩) hHeld ?_
          try simp only [List.getElem_toArray, List.getElem_cons_succ, List.getElem_cons_zero, Act.put, List.setIfInBounds_toArray, List.set_cons_zero, List.set_cons_succ]
          refine Any.take (i := 34) (v := undef) rfl (by kernel_rfl) (by kernel_rfl) (by kernel_rfl) (by kernel_rfl) (fun _ _ _ h => h) (Or.inr ⟨by rfl, rfl⟩) hHeld ?_
          try simp only [List.getElem_toArray, List.getElem_cons_succ, List.getElem_cons_zero, Act.put, List.setIfInBounds_toArray, List.set_cons_zero, List.set_cons_succ]
          refine Any.take (i := 35) (v := undef) rfl (by kernel_rfl) (by kernel_rfl) (by kernel_rfl) (by kernel_rfl) (fun _ _ _ h => h) (Or.inr ⟨by rfl, rfl⟩) hHeld ?_
          try simp only [List.getElem_toArray, List.getElem_cons_succ, List.getElem_cons_zero, Act.put, List.setIfInBounds_toArray, List.set_cons_zero, List.set_cons_succ]
          refine Any.take (i := 36) (v := undef) rfl (by kernel_rfl) (by kernel_rfl) (by kernel_rfl) (by kernel_rfl) (fun _ _ _ h => h) (Or.inr ⟨by rfl, rfl⟩) hHeld ?_
          try simp only [List.getElem_toArray, List.getElem_cons_succ, List.getElem_cons_zero, Act.put, List.setIfInBounds_toArray, List.set_cons_zero, List.set_cons_succ]
          refine Any.take (i := 37) (v := undef) rfl (by kernel_rfl) (by kernel_rfl) (by kernel_rfl) (by kernel_rfl) (fun _ _ _ h => h) (Or.inr ⟨by rfl, rfl⟩) hHeld ?_
          try simp only [List.getElem_toArray, List.getElem_cons_succ, List.getElem_cons_zero, Act.put, List.setIfInBounds_toArray, List.set_cons_zero, List.set_cons_succ]
          refine Any.take (i := 38) (v := undef) rfl (by kernel_rfl) (by kernel_rfl) (by kernel_rfl) (by kernel_rfl) (fun _ _ _ h => h) (Or.inr ⟨by rfl, rfl⟩) hHeld ?_
          try simp only [List.getElem_toArray, List.getElem_cons_succ, List.getElem_cons_zero, Act.put, List.setIfInBounds_toArray, List.set_cons_zero, List.set_cons_succ]
          refine Any.take (i := 39) (v := undef) rfl (by kernel_rfl) (by kernel_rfl) (by kernel_rfl) (by kernel_rfl) (fun _ _ _ h => h) (Or.inr ⟨by rfl, rfl⟩) hHeld ?_
          try simp only [List.getElem_toArray, List.getElem_cons_succ, List.getElem_cons_zero, Act.put, List.setIfInBounds_toArray, List.set_cons_zero, List.set_cons_succ]
          refine Any.take (i := 40) (v := undef) rfl (by kernel_rfl) (by kernel_rfl) (by kernel_rfl) (by kernel_rfl) (fun _ _ _ h => h) (Or.inr ⟨by rfl, rfl⟩) hHeld ?_
          try simp only [List.getElem_toArray, List.getElem_cons_succ, List.getElem_cons_zero, Act.put, List.setIfInBounds_toArray, List.set_cons_zero, List.set_cons_succ]
          refine Any.take (i := 41) (v := undef) rfl (by kernel_rfl) (by kernel_rfl) (by kernel_rfl) (by kernel_rfl) (fun _ _ _ h => h) (Or.inr ⟨by rfl, rfl⟩) hHeld ?_
          try simp only [List.getElem_toArray, List.getElem_cons_succ, List.getElem_cons_zero, Act.put, List.setIfInBounds_toArray, List.set_cons_zero, List.set_cons_succ]
          refine Any.take (i := 42) (v := undef) rfl (by kernel_rfl) (by kernel_rfl) (by kernel_rfl) (by kernel_rfl) (fun _ _ _ h => h) (Or.inr ⟨by rfl, rfl⟩) hHeld ?_
          try simp only [List.getElem_toArray, List.getElem_cons_succ, List.getElem_cons_zero, Act.put, List.setIfInBounds_toArray, List.set_cons_zero, List.set_cons_succ]
          refine Any.take (i := 43) (v := ?_) rfl (by kernel_rfl) (by kernel_rfl) (by kernel_rfl) (by kernel_rfl) (fun _ _ _ h => h) (Or.inl ⟨by rfl, ?_⟩) hHeld ?_
          rotate_left
          · intro w hSw
            (try dsimp only at hSw)
            go_simp
            all_goals with_reducible rfl
          try simp only [List.getElem_toArray, List.getElem_cons_succ, List.getElem_cons_zero, Act.put, List.setIfInBounds_toArray, List.set_cons_zero, List.set_cons_succ]
          refine Any.done (by kernel_rfl) ?_ _
          obtain rfl : z = false := by rw [← hz.out]; exact sameTo_false (Nat.succ_le_of_lt hlt) (by rw [hsk.out, hk.out]; rw [t3]; simp)
          go_wp2_with fail
          go_ret
          exact ⟨rfl, KD.out⟩
        · have u3 : (sd != td) = false := by unfold bne; rw [t3]; rfl
          cases tq : ((sp1.toNat : Int) == (tp1.toNat : Int) && (sp2.toNat : Int) == (tp2.toNat : Int))
          · refine wp_region_late (late := fun _ => false) (S := fun w' => w'.cell? ⟨w.heap.size, 5, none⟩ = some (.slice (some ⟨b1, off1, none⟩) n0 d) ∧ w'.cell? ⟨w.heap.size + 1, 5, none⟩ = some (.slice (some ⟨b2, off2, none⟩) n0 d') ∧ w'.cell? ⟨b1, off1 + i * 4, none⟩ = some (.slice A1 so.length c1) ∧ w'.cell? ⟨b1, off1 + i * 4 + 1, none⟩ = some (.int .i64 sd) ∧ w'.cell? ⟨b1, off1 + i * 4 + 2, none⟩ = some (.int .u64 (sp1.toNat : Int)) ∧ w'.cell? ⟨b1, off1 + i * 4 + 3, none⟩ = some (.int .u64 (sp2.toNat : Int)) ∧ w'.cell? ⟨b2, off2 + i * 4, none⟩ = some (.slice A2 t1.length c2) ∧ w'.cell? ⟨b2, off2 + i * 4 + 1, none⟩ = some (.int .i64 td) ∧ w'.cell? ⟨b2, off2 + i * 4 + 2, none⟩ = some (.int .u64 (tp1.toNat : Int)) ∧ w'.cell? ⟨b2, off2 + i * 4 + 3, none⟩ = some (.int .u64 (tp2.toNat : Int))) (by kernel_rfl) ?_ (fun hHeld => ?_)
            · ((try dsimp only); (try go_split_ands); refine ⟨?_, ?_, ?_, ?_, ?_, ?_, ?_, ?_, ?_, ?_⟩ <;> with_reducible assumption)
            generalize wr.drew = wd at *
            refine Any.take (i := 0) (v := ?_) rfl (by kernel_rfl) (by kernel_rfl) (by kernel_rfl) (by kernel_rfl) (fun _ _ _ h => h) (Or.inl ⟨by rfl, ?_⟩) hHeld ?_
            rotate_left
            · intro w hSw
              (try dsimp only at hSw)
              go_simp
              all_goals with_reducible rfl
            try simp only [List.getElem_toArray, List.getElem_cons_succ, List.getElem_cons_zero, Act.put, List.setIfInBounds_toArray, List.set_cons_zero, List.set_cons_succ]
            refine Any.take (i := 1) (v := ?_) rfl (by kernel_rfl) (by kernel_rfl) (by kernel_rfl) (by kernel_rfl) (fun _ _ _ h => h) (Or.inl ⟨by rfl, ?_⟩) hHeld ?_
            rotate_left
            · intro w hSw
              (try dsimp only at hSw)
              go_simp
              all_goals with_reducible rfl
            try simp only [List.getElem_toArray, List.getElem_cons_succ, List.getElem_cons_zero, Act.put, List.setIfInBounds_toArray, List.set_cons_zero, List.set_cons_succ]
            refine Any.take (i := 2) (v := ?_) rfl (by kernel_rfl) (by kernel_rfl) (by kernel_rfl) (by kernel_rfl) (fun _ _ _ h => h) (Or.inl ⟨by rfl, ?_⟩) hHeld ?_
            rotate_left
            · intro w hSw
              (try dsimp only at hSw)
              go_simp
              all_goals with_reducible rfl
            try simp only [List.getElem_toArray, List.getElem_cons_succ, List.getElem_cons_zero, Act.put, List.setIfInBounds_toArray, List.set_cons_zero, List.set_cons_succ]
            refine Any.take (i := 3) (v := ?_) rfl (by kernel_rfl) (by kernel_rfl) (by kernel_rfl) (by kernel_rfl) (fun _ _ _ h => h) (Or.inl ⟨by rfl, ?_⟩) hHeld ?_
            rotate_left
            · intro w hSw
              (try dsimp only at hSw)
              go_simp
              all_goals with_reducible rfl
            try simp only [List.getElem_toArray, List.getElem_cons_succ, List.getElem_cons_zero, Act.put, List.setIfInBounds_toArray, List.set_cons_zero, List.set_cons_succ]
            refine Any.take (i := 4) (v := ?_) rfl (by kernel_rfl) (by kernel_rfl) (by kernel_rfl) (by kernel_rfl) (fun _ _ _ h => h) (Or.inl ⟨by rfl, ?_⟩) hHeld ?_
            rotate_left
            · intro w hSw
              (try dsimp only at hSw)
              go_simp
              all_goals with_reducible rfl
            try simp only [List.getElem_toArray, List.getElem_cons_succ, List.getElem_cons_zero, Act.put, List.setIfInBounds_toArray, List.set_cons_zero, List.set_cons_succ]
            refine Any.take (i := 5) (v := ?_) rfl (by kernel_rfl) (by kernel_rfl) (by kernel_rfl) (by kernel_rfl) (fun _ _ _ h => h) (Or.inl ⟨by rfl, ?_⟩) hHeld ?_
            rotate_left
            · intro w hSw
              (try dsimp only at hSw)
              go_simp
              all_goals with_reducible rfl
            try simp only [List.getElem_toArray, List.getElem_cons_succ, List.getElem_cons_zero, Act.put, List.setIfInBounds_toArray, List.set_cons_zero, List.set_cons_succ]
            refine Any.take (i := 6) (v := ?_) rfl (by kernel_rfl) (by kernel_rfl) (by kernel_rfl) (by kernel_rfl) (fun _ _ _ h => h) (Or.inl ⟨by rfl, ?_⟩) hHeld ?_
            rotate_left
            · intro w hSw
              (try dsimp only at hSw)
              go_simp
              all_goals with_reducible rfl
            try simp only [List.getElem_toArray, List.getElem_cons_succ, List.getElem_cons_zero, Act.put, List.setIfInBounds_toArray, List.set_cons_zero, List.set_cons_succ]
            refine Any.take (i := 7) (v := ?_) rfl (by kernel_rfl) (by kernel_rfl) (by kernel_rfl) (by kernel_rfl) (fun _ _ _ h => h) (Or.inl ⟨by rfl, ?_⟩) hHeld ?_
            rotate_left
            · intro w hSw
              (try dsimp only at hSw)
              go_simp
              all_goals with_reducible rfl
            try simp only [List.getElem_toArray, List.getElem_cons_succ, List.getElem_cons_zero, Act.put, List.setIfInBounds_toArray, List.set_cons_zero, List.set_cons_succ]
            refine Any.take (i := 8) (v := ?_) rfl (by kernel_rfl) (by kernel_rfl) (by kernel_rfl) (by kernel_rfl) (fun _ _ _ h => h) (Or.inl ⟨by rfl, ?_⟩) hHeld ?_
            rotate_left
            · intro w hSw
              (try dsimp only at hSw)
              go_simp
              all_goals with_reducible rfl
            try simp only [List.getElem_toArray, List.getElem_cons_succ, List.getElem_cons_zero, Act.put, List.setIfInBounds_toArray, List.set_cons_zero, List.set_cons_succ]
            refine Any.take (i := 9) (v := ?_) rfl (by kernel_rfl) (by kernel_rfl) (by kernel_rfl) (by kernel_rfl) (fun _ _ _ h => h) (Or.inl ⟨by rfl, ?_⟩) hHeld ?_
            rotate_left
            · intro w hSw
              (try dsimp only at hSw)
              go_simp
              all_goals with_reducible rfl
            try simp only [List.getElem_toArray, List.getElem_cons_succ, List.getElem_cons_zero, Act.put, List.setIfInBounds_toArray, List.set_cons_zero, List.set_cons_succ]
            refine Any.take (i := 10) (v := ?_) rfl (by kernel_rfl) (by kernel_rfl) (by kernel_rfl) (by kernel_rfl) (fun _ _ _ h => h) (Or.inl ⟨by rfl, ?_⟩) hHeld ?_
            rotate_left
            · intro w hSw
              (try dsimp only at hSw)
              go_simp
              all_goals with_reducible rfl
            try simp only [List.getElem_toArray, List.getElem_cons_succ, List.getElem_cons_zero, Act.put, List.setIfInBounds_toArray, List.set_cons_zero, List.set_cons_succ]
            refine Any.take (i := 11) (v := ?_) rfl (by kernel_rfl) (by kernel_rfl) (by kernel_rfl) (by kernel_rfl) (fun _ _ _ h => h) (Or.inl ⟨by rfl, ?_⟩) hHeld ?_
            rotate_left
            · intro w hSw
              (try dsimp only at hSw)
              go_simp
              all_goals with_reducible rfl
            try simp only [List.getElem_toArray, List.getElem_cons_succ, List.getElem_cons_zero, Act.put, List.setIfInBounds_toArray, List.set_cons_zero, List.set_cons_succ]
            refine Any.ready (rs := [12]) (by kernel_rfl) (by simp) ?_
            refine AllAny.cons rfl rfl (fun K hK => ?_) AllAny.nil
            go_simp
            go_at_call 26
            with_reducible refine (ssame_any ezq hlen _ _ _ _ _ HR1.out HR2.out).mono ?_
            (try go_split_ands)
            rintro e wa ⟨rfl, hba⟩
            go_wp2_with fail
            replace e0 := keeps hba e0
            replace e1 := keeps hba e1
            replace e2 := keeps hba e2
            replace e3 := keeps hba e3
            replace k0 := keeps hba k0
            replace k1 := keeps hba k1
            replace k2 := keeps hba k2
            replace k3 := keeps hba k3
            replace x5 := keeps hba x5
            replace y5 := keeps hba y5
            replace KD := mkHid (KD.out.step hba)
            replace KR := mkHid (KR.out.step hba)
            clear hba
            refine hK.out _ _ ?_ (fun hHeld => ?_)
            · ((try dsimp only); (try go_split_ands); refine ⟨?_, ?_, ?_, ?_, ?_, ?_, ?_, ?_, ?_, ?_⟩ <;> with_reducible assumption)
            clear hK K
            try simp only [List.getElem_toArray, List.getElem_cons_succ, List.getElem_cons_zero, Act.put, List.setIfInBounds_toArray, List.set_cons_zero, List.set_cons_succ]
            refine Any.take (i := 13) (v := ?_) rfl (by kernel_rfl) (by kernel_rfl) (by kernel_rfl) (by kernel_rfl) (fun _ _ _ h => h) (Or.inl ⟨by rfl, ?_⟩) hHeld ?_
            rotate_left
            · intro w hSw
              (try dsimp only at hSw)
              go_simp
              all_goals with_reducible rfl
            try simp only [List.getElem_toArray, List.getElem_cons_succ, List.getElem_cons_zero, Act.put, List.setIfInBounds_toArray, List.set_cons_zero, List.set_cons_succ]
            refine Any.take (i := 14) (v := ?_) rfl (by kernel_rfl) (by kernel_rfl) (by kernel_rfl) (by kernel_rfl) (fun _ _ _ h => h) (Or.inl ⟨by rfl, ?_⟩) hHeld ?_
            rotate_left
            · intro w hSw
              (try dsimp only at hSw)
              go_simp
              all_goals with_reducible rfl
            try simp only [List.getElem_toArray, List.getElem_cons_succ, List.getElem_cons_zero, Act.put, List.setIfInBounds_toArray, List.set_cons_zero, List.set_cons_succ]
            refine Any.take (i := 15) (v := ?_) rfl (by kernel_rfl) (by kernel_rfl) (by kernel_rfl) (by kernel_rfl) (fun _ _ _ h => h) (Or.inl ⟨by rfl, ?_⟩) hHeld ?_
            rotate_left
            · intro w hSw
              (try dsimp only at hSw)
              go_simp
              all_goals with_reducible rfl
            try simp only [List.getElem_toArray, List.getElem_cons_succ, List.getElem_cons_zero, Act.put, List.setIfInBounds_toArray, List.set_cons_zero, List.set_cons_succ]
            refine Any.take (i := 16) (v := ?_) rfl (by kernel_rfl) (by kernel_rfl) (by kernel_rfl) (by kernel_rfl) (fun _ _ _ h => h) (Or.inl ⟨by rfl, ?_⟩) hHeld ?_
            rotate_left
            · intro w hSw
              (try dsimp only at hSw)
              go_simp
              all_goals with_reducible rfl
            try simp only [List.getElem_toArray, List.getElem_cons_succ, List.getElem_cons_zero, Act.put, List.setIfInBounds_toArray, List.set_cons_zero, List.set_cons_succ]
            refine Any.take (i := 17) (v := ?_) rfl (by kernel_rfl) (by kernel_rfl) (by kernel_rfl) (by kernel_rfl) (fun _ _ _ h => h) (Or.inl ⟨by rfl, ?_⟩) hHeld ?_
            rotate_left
            · intro w hSw
              (try dsimp only at hSw)
              go_simp
              all_goals with_reducible rfl
            try simp only [List.getElem_toArray, List.getElem_cons_succ, List.getElem_cons_zero, Act.put, List.setIfInBounds_toArray, List.set_cons_zero, List.set_cons_succ]
            refine Any.take (i := 18) (v := ?_) rfl (by kernel_rfl) (by kernel_rfl) (by kernel_rfl) (by kernel_rfl) (fun _ _ _ h => h) (Or.inl ⟨by rfl, ?_⟩) hHeld ?_
            rotate_left
            · intro w hSw
              (try dsimp only at hSw)
              go_simp
              all_goals with_reducible rfl
            try simp only [List.getElem_toArray, List.getElem_cons_succ, List.getElem_cons_zero, Act.put, List.setIfInBounds_toArray, List.set_cons_zero, List.set_cons_succ]
            refine Any.take (i := 19) (v := ?_) rfl (by kernel_rfl) (by kernel_rfl) (by kernel_rfl) (by kernel_rfl) (fun _ _ _ h => h) (Or.inl ⟨by rfl, ?_⟩) hHeld ?_
            rotate_left
            · intro w hSw
              (try dsimp only at hSw)
              go_simp
              all_goals with_reducible rfl
            try simp only [List.getElem_toArray, List.getElem_cons_succ, List.getElem_cons_zero, Act.put, List.setIfInBounds_toArray, List.set_cons_zero, List.set_cons_succ]
            refine Any.take (i := 20) (v := ?_) rfl (by kernel_rfl) (by kernel_rfl) (by kernel_rfl) (by kernel_rfl) (fun _ _ _ h => h) (Or.inl ⟨by rfl, ?_⟩) hHeld ?_
            rotate_left
            · intro w hSw
              (try dsimp only at hSw)
              go_simp
              all_goals with_reducible rfl
            try simp only [List.getElem_toArray, List.getElem_cons_succ, List.getElem_cons_zero, Act.put, List.setIfInBounds_toArray, List.set_cons_zero, List.set_cons_succ]
            refine Any.take (i := 21) (v := ?_) rfl (by kernel_rfl) (by kernel_rfl) (by kernel_rfl) (by kernel_rfl) (fun _ _ _ h => h) (Or.inl ⟨by rfl, ?_⟩) hHeld ?_
            rotate_left
            · intro w hSw
              (try dsimp only at hSw)
              go_simp
              all_goals with_reducible rfl
            try simp only [List.getElem_toArray, List.getElem_cons_succ, List.getElem_cons_zero, Act.put, List.setIfInBounds_toArray, List.set_cons_zero, List.set_cons_succ]
            refine Any.take (i := 22) (v := ?_) rfl (by kernel_rfl) (by kernel_rfl) (by kernel_rfl) (by kernel_rfl) (fun _ _ _ h => h) (Or.inl ⟨by rfl, ?_⟩) hHeld ?_
            rotate_left
            · intro w hSw
              (try dsimp only at hSw)
              go_simp
              all_goals with_reducible rfl
            try simp only [List.getElem_toArray, List.getElem_cons_succ, List.getElem_cons_zero, Act.put, List.setIfInBounds_toArray, List.set_cons_zero, List.set_cons_succ]
            refine Any.take (i := 23) (v := ?_) rfl (by kernel_rfl) (by kernel_rfl) (by kernel_rfl) (by kernel_rfl) (fun _ _ _ h => h) (Or.inl ⟨by rfl, ?_⟩) hHeld ?_
            rotate_left
            · intro w hSw
              (try dsimp only at hSw)
              go_simp
              all_goals with_reducible rfl
            try simp only [List.getElem_toArray, List.getElem_cons_succ, List.getElem_cons_zero, Act.put, List.setIfInBounds_toArray, List.set_cons_zero, List.set_cons_succ]
            refine Any.take (i := 24) (v := ?_) rfl (by kernel_rfl) (by kernel_rfl) (by kernel_rfl) (by kernel_rfl) (fun _ _ _ h => h) (Or.inl ⟨by rfl, ?_⟩) hHeld ?_
            rotate_left
            · intro w hSw
              (try dsimp only at hSw)
              go_simp
              all_goals with_reducible rfl
            try simp only [List.getElem_toArray, List.getElem_cons_succ, List.getElem_cons_zero, Act.put, List.setIfInBounds_toArray, List.set_cons_zero, List.set_cons_succ]
            refine Any.take (i := 25) (v := ?_) rfl (by kernel_rfl) (by kernel_rfl) (by kernel_rfl) (by kernel_rfl) (fun _ _ _ h => h) (Or.inl ⟨by rfl, ?_⟩) hHeld ?_
            rotate_left
            · intro w hSw
              (try dsimp only at hSw)
              go_simp
              all_goals with_reducible rfl
            try simp only [List.getElem_toArray, List.getElem_cons_succ, List.getElem_cons_zero, Act.put, List.setIfInBounds_toArray, List.set_cons_zero, List.set_cons_succ]
            refine Any.take (i := 26) (v := ?_) rfl (by kernel_rfl) (by kernel_rfl) (by kernel_rfl) (by kernel_rfl) (fun _ _ _ h => h) (Or.inl ⟨by rfl, ?_⟩) hHeld ?_
            rotate_left
            · intro w hSw
              (try dsimp only at hSw)
              go_simp
              all_goals with_reducible rfl
            try simp only [List.getElem_toArray, List.getElem_cons_succ, List.getElem_cons_zero, Act.put, List.setIfInBounds_toArray, List.set_cons_zero, List.set_cons_succ]
            refine Any.take (i := 27) (v := ?_) rfl (by kernel_rfl) (by kernel_rfl) (by kernel_rfl) (by kernel_rfl) (fun _ _ _ h => h) (Or.inl ⟨by rfl, ?_⟩) hHeld ?_
            rotate_left
            · intro w hSw
              (try dsimp only at hSw)
              go_simp
              all_goals with_reducible rfl
            try simp only [List.getElem_toArray, List.getElem_cons_succ, List.getElem_cons_zero, Act.put, List.setIfInBounds_toArray, List.set_cons_zero, List.set_cons_succ]
            refine Any.take (i := 28) (v := ?_) rfl (by kernel_rfl) (by kernel_rfl) (by kernel_rfl) (by kernel_rfl) (fun _ _ _ h => h) (Or.inl ⟨by rfl, ?_⟩) hHeld ?_
            rotate_left
            · intro w hSw
              (try dsimp only at hSw)
              go_simp
              all_goals with_reducible rfl
            try simp only [List.getElem_toArray, List.getElem_cons_succ, List.getElem_cons_zero, Act.put, List.setIfInBounds_toArray, List.set_cons_zero, List.set_cons_succ]
            refine Any.take (i := 29) (v := ?_) rfl (by kernel_rfl) (by kernel_rfl) (by kernel_rfl) (by kernel_rfl) (fun _ _ _ h => h) (Or.inl ⟨by rfl, ?_⟩) hHeld ?_
            rotate_left
            · intro w hSw
              (try dsimp only at hSw)
              go_simp
              all_goals with_reducible rfl
            try simp only [List.getElem_toArray, List.getElem_cons_succ, List.getElem_cons_zero, Act.put, List.setIfInBounds_toArray, List.set_cons_zero, List.set_cons_succ]
            refine Any.take (i := 30) (v := ?_) rfl (by kernel_rfl) (by kernel_rfl) (by kernel_rfl) (by kernel_rfl) (fun _ _ _ h => h) (Or.inl ⟨by rfl, ?_⟩) hHeld ?_
            rotate_left
            · intro w hSw
              (try dsimp only at hSw)
              go_simp
              all_goals with_reducible rfl
            try simp only [List.getElem_toArray, List.getElem_cons_succ, List.getElem_cons_zero, Act.put, List.setIfInBounds_toArray, List.set_cons_zero, List.set_cons_succ]
            refine Any.take (i := 31) (v := ?_) rfl (by kernel_rfl) (by kernel_rfl) (by kernel_rfl) (by kernel_rfl) (fun _ _ _ h => h) (Or.inl ⟨by rfl, ?_⟩) hHeld ?_
            rotate_left
            · intro w hSw
              (try dsimp only at hSw)
              go_simp
              all_goals with_reducible rfl
            try simp only [List.getElem_toArray, List.getElem_cons_succ, List.getElem_cons_zero, Act.put, List.setIfInBounds_toArray, List.set_cons_zero, List.set_cons_succ]
            refine Any.take (i := 32) (v := ?_) rfl (by kernel_rfl) (by kernel_rfl) (by kernel_rfl) (by kernel_rfl) (fun _ _ _ h => h) (Or.inl ⟨by rfl, ?_⟩) hHeld ?_
            rotate_left
            · intro w hSw
              (try dsimp only at hSw)
              go_simp
              all_goals with_reducible rfl
            try simp only [List.getElem_toArray, List.getElem_cons_succ, List.getElem_cons_zero, Act.put, List.setIfInBounds_toArray, List.set_cons_zero, List.set_cons_succ]
            refine Any.take (i := 33) (v := ?_) rfl (by kernel_rfl) (by kernel_rfl) (by kernel_rfl) (by kernel_rfl) (fun _ _ _ h => h) (Or.inl ⟨by rfl, ?_⟩) hHeld ?_
            rotate_left
            · intro w hSw
              (try dsimp only at hSw)
              go_simp
              all_goals with_reducible rfl
            try simp only [List.getElem_toArray, List.getElem_cons_succ, List.getElem_cons_zero, Act.put, List.setIfInBounds_toArray, List.set_cons_zero, List.set_cons_succ]
            refine Any.take (i := 34) (v := ?_) rfl (by kernel_rfl) (by kernel_rfl) (by kernel_rfl) (by kernel_rfl) (fun _ _ _ h => h) (Or.inl ⟨by rfl, ?_⟩) hHeld ?_
            rotate_left
            · intro w hSw
              (try dsimp only at hSw)
              go_simp
              all_goals with_reducible rfl
            try simp only [List.getElem_toArray, List.getElem_cons_succ, List.getElem_cons_zero, Act.put, List.setIfInBounds_toArray, List.set_cons_zero, List.set_cons_succ]
            refine Any.take (i := 35) (v := ?_) rfl (by kernel_rfl) (by kernel_rfl) (by kernel_rfl) (by kernel_rfl) (fun _ _ _ h => h) (Or.inl ⟨by rfl, ?_⟩) hHeld ?_
            rotate_left
            · intro w hSw
              (try dsimp only at hSw)
              go_simp
              all_goals with_reducible rfl
            try simp only [List.getElem_toArray, List.getElem_cons_succ, List.getElem_cons_zero, Act.put, List.setIfInBounds_toArray, List.set_cons_zero, List.set_cons_succ]
            refine Any.take (i := 36) (v := ?_) rfl (by kernel_rfl) (by kernel_rfl) (by kernel_rfl) (by kernel_rfl) (fun _ _ _ h => h) (Or.inl ⟨by rfl, ?_⟩) hHeld ?_
            rotate_left
            · intro w hSw
              (try dsimp only at hSw)
              go_simp
              all_goals with_reducible rfl
            try simp only [List.getElem_toArray, List.getElem_cons_succ, List.getElem_cons_zero, Act.put, List.setIfInBounds_toArray, List.set_cons_zero, List.set_cons_succ]
            refine Any.take (i := 37) (v := ?_) rfl (by kernel_rfl) (by kernel_rfl) (by kernel_rfl) (by kernel_rfl) (fun _ _ _ h => h) (Or.inl ⟨by rfl, ?_⟩) hHeld ?_
            rotate_left
            · intro w hSw
              (try dsimp only at hSw)
              go_simp
              all_goals with_reducible rfl
            try simp only [List.getElem_toArray, List.getElem_cons_succ, List.getElem_cons_zero, Act.put, List.setIfInBounds_toArray, List.set_cons_zero, List.set_cons_succ]
            refine Any.take (i := 38) (v := ?_) rfl (by kernel_rfl) (by kernel_rfl) (by kernel_rfl) (by kernel_rfl) (fun _ _ _ h => h) (Or.inl ⟨by rfl, ?_⟩) hHeld ?_
            rotate_left
            · intro w hSw
              (try dsimp only at hSw)
              go_simp
              all_goals with_reducible rfl
            try simp only [List.getElem_toArray, List.getElem_cons_succ, List.getElem_cons_zero, Act.put, List.setIfInBounds_toArray, List.set_cons_zero, List.set_cons_succ]
            refine Any.take (i := 39) (v := ?_) rfl (by kernel_rfl) (by kernel_rfl) (by kernel_rfl) (by kernel_rfl) (fun _ _ _ h => h) (Or.inl ⟨by rfl, ?_⟩) hHeld ?_
            rotate_left
            · intro w hSw
              (try dsimp only at hSw)
              go_simp
              all_goals with_reducible rfl
            try simp only [List.getElem_toArray, List.getElem_cons_succ, List.getElem_cons_zero, Act.put, List.setIfInBounds_toArray, List.set_cons_zero, List.set_cons_succ]
            refine Any.take (i := 40) (v := ?_) rfl (by kernel_rfl) (by kernel_rfl) (by kernel_rfl) (by kernel_rfl) (fun _ _ _ h => h) (Or.inl ⟨by rfl, ?_⟩) hHeld ?_
            rotate_left
            · intro w hSw
              (try dsimp only at hSw)
              go_simp
              all_goals with_reducible rfl
            try simp only [List.getElem_toArray, List.getElem_cons_succ, List.getElem_cons_zero, Act.put, List.setIfInBounds_toArray, List.set_cons_zero, List.set_cons_succ]
            refine Any.take (i := 41) (v := ?_) rfl (by kernel_rfl) (by kernel_rfl) (by kernel_rfl) (by kernel_rfl) (fun _ _ _ h => h) (Or.inl ⟨by rfl, ?_⟩) hHeld ?_
            rotate_left
            · intro w hSw
              (try dsimp only at hSw)
              go_simp
              all_goals with_reducible rfl
            try simp only [List.getElem_toArray, List.getElem_cons_succ, List.getElem_cons_zero, Act.put, List.setIfInBounds_toArray, List.set_cons_zero, List.set_cons_succ]
            refine Any.take (i := 42) (v := ?_) rfl (by kernel_rfl) (by kernel_rfl) (by kernel_rfl) (by kernel_rfl) (fun _ _ _ h => h) (Or.inl ⟨by rfl, ?_⟩) hHeld ?_
            rotate_left
            · intro w hSw
              (try dsimp only at hSw)
              go_simp
              all_goals with_reducible rfl
            try simp only [List.getElem_toArray, List.getElem_cons_succ, List.getElem_cons_zero, Act.put, List.setIfInBounds_toArray, List.set_cons_zero, List.set_cons_succ]
            refine Any.take (i := 43) (v := ?_) rfl (by kernel_rfl) (by kernel_rfl) (by kernel_rfl) (by kernel_rfl) (fun _ _ _ h => h) (Or.inl ⟨by rfl, ?_⟩) hHeld ?_
            rotate_left
            · intro w hSw
              (try dsimp only at hSw)
              go_simp
              all_goals with_reducible rfl
            try simp only [List.getElem_toArray, List.getElem_cons_succ, List.getElem_cons_zero, Act.put, List.setIfInBounds_toArray, List.set_cons_zero, List.set_cons_succ]
            refine Any.done (by kernel_rfl) ?_ _
            obtain rfl : z = false := by rw [← hz.out]; exact sameTo_false (Nat.succ_le_of_lt hlt) (by rw [hsk.out, hk.out]; rw [t3, tq]; simp)
            go_wp2_with fail
            go_ret
            exact ⟨rfl, KD.out⟩
          · obtain ⟨tp1', tp2'⟩ := Bool.and_eq_true_iff.1 tq
            refine wp_region_late (late := fun _ => false) (S := fun w' => w'.cell? ⟨w.heap.size, 5, none⟩ = some (.slice (some ⟨b1, off1, none⟩) n0 d) ∧ w'.cell? ⟨w.heap.size + 1, 5, none⟩ = some (.slice (some ⟨b2, off2, none⟩) n0 d') ∧ w'.cell? ⟨b1, off1 + i * 4, none⟩ = some (.slice A1 so.length c1) ∧ w'.cell? ⟨b1, off1 + i * 4 + 1, none⟩ = some (.int .i64 sd) ∧ w'.cell? ⟨b1, off1 + i * 4 + 2, none⟩ = some (.int .u64 (sp1.toNat : Int)) ∧ w'.cell? ⟨b1, off1 + i * 4 + 3, none⟩ = some (.int .u64 (sp2.toNat : Int)) ∧ w'.cell? ⟨b2, off2 + i * 4, none⟩ = some (.slice A2 t1.length c2) ∧ w'.cell? ⟨b2, off2 + i * 4 + 1, none⟩ = some (.int .i64 td) ∧ w'.cell? ⟨b2, off2 + i * 4 + 2, none⟩ = some (.int .u64 (tp1.toNat : Int)) ∧ w'.cell? ⟨b2, off2 + i * 4 + 3, none⟩ = some (.int .u64 (tp2.toNat : Int))) (by kernel_rfl) ?_ (fun hHeld => ?_)
            · ((try dsimp only); (try go_split_ands); refine ⟨?_, ?_, ?_, ?_, ?_, ?_, ?_, ?_, ?_, ?_⟩ <;> with_reducible assumption)
            generalize wr.drew = wd at *
            refine Any.take (i := 0) (v := ?_) rfl (by kernel_rfl) (by kernel_rfl) (by kernel_rfl) (by kernel_rfl) (fun _ _ _ h => h) (Or.inl ⟨by rfl, ?_⟩) hHeld ?_
            rotate_left
            · intro w hSw
              (try dsimp only at hSw)
              go_simp
              all_goals with_reducible rfl
            try simp only [List.getElem_toArray, List.getElem_cons_succ, List.getElem_cons_zero, Act.put, List.setIfInBounds_toArray, List.set_cons_zero, List.set_cons_succ]
            refine Any.take (i := 1) (v := ?_) rfl (by kernel_rfl) (by kernel_rfl) (by kernel_rfl) (by kernel_rfl) (fun _ _ _ h => h) (Or.inl ⟨by rfl, ?_⟩) hHeld ?_
            rotate_left
            · intro w hSw
              (try dsimp only at hSw)
              go_simp
              all_goals with_reducible rfl
            try simp only [List.getElem_toArray, List.getElem_cons_succ, List.getElem_cons_zero, Act.put, List.setIfInBounds_toArray, List.set_cons_zero, List.set_cons_succ]
            refine Any.take (i := 2) (v := ?_) rfl (by kernel_rfl) (by kernel_rfl) (by kernel_rfl) (by kernel_rfl) (fun _ _ _ h => h) (Or.inl ⟨by rfl, ?_⟩) hHeld ?_
            rotate_left
            · intro w hSw
              (try dsimp only at hSw)
              go_simp
              all_goals with_reducible rfl
            try simp only [List.getElem_toArray, List.getElem_cons_succ, List.getElem_cons_zero, Act.put, List.setIfInBounds_toArray, List.set_cons_zero, List.set_cons_succ]
            refine Any.take (i := 3) (v := ?_) rfl (by kernel_rfl) (by kernel_rfl) (by kernel_rfl) (by kernel_rfl) (fun _ _ _ h => h) (Or.inl ⟨by rfl, ?_⟩) hHeld ?_
            rotate_left
            · intro w hSw
              (try dsimp only at hSw)
              go_simp
              all_goals with_reducible rfl
            try simp only [List.getElem_toArray, List.getElem_cons_succ, List.getElem_cons_zero, Act.put, List.setIfInBounds_toArray, List.set_cons_zero, List.set_cons_succ]
            refine Any.take (i := 4) (v := ?_) rfl (by kernel_rfl) (by kernel_rfl) (by kernel_rfl) (by kernel_rfl) (fun _ _ _ h => h) (Or.inl ⟨by rfl, ?_⟩) hHeld ?_
            rotate_left
            · intro w hSw
              (try dsimp only at hSw)
              go_simp
              all_goals with_reducible rfl
            try simp only [List.getElem_toArray, List.getElem_cons_succ, List.getElem_cons_zero, Act.put, List.setIfInBounds_toArray, List.set_cons_zero, List.set_cons_succ]
            refine Any.take (i := 5) (v := ?_) rfl (by kernel_rfl) (by kernel_rfl) (by kernel_rfl) (by kernel_rfl) (fun _ _ _ h => h) (Or.inl ⟨by rfl, ?_⟩) hHeld ?_
            rotate_left
            · intro w hSw
              (try dsimp only at hSw)
              go_simp
              all_goals with_reducible rfl
            try simp only [List.getElem_toArray, List.getElem_cons_succ, List.getElem_cons_zero, Act.put, List.setIfInBounds_toArray, List.set_cons_zero, List.set_cons_succ]
            refine Any.take (i := 6) (v := ?_) rfl (by kernel_rfl) (by kernel_rfl) (by kernel_rfl) (by kernel_rfl) (fun _ _ _ h => h) (Or.inl ⟨by rfl, ?_⟩) hHeld ?_
            rotate_left
            · intro w hSw
              (try dsimp only at hSw)
              go_simp
              all_goals with_reducible rfl
            try simp only [List.getElem_toArray, List.getElem_cons_succ, List.getElem_cons_zero, Act.put, List.setIfInBounds_toArray, List.set_cons_zero, List.set_cons_succ]
            refine Any.take (i := 7) (v := ?_) rfl (by kernel_rfl) (by kernel_rfl) (by kernel_rfl) (by kernel_rfl) (fun _ _ _ h => h) (Or.inl ⟨by rfl, ?_⟩) hHeld ?_
            rotate_left
            · intro w hSw
              (try dsimp only at hSw)
              go_simp
              all_goals with_reducible rfl
            try simp only [List.getElem_toArray, List.getElem_cons_succ, List.getElem_cons_zero, Act.put, List.setIfInBounds_toArray, List.set_cons_zero, List.set_cons_succ]
            refine Any.take (i := 8) (v := ?_) rfl (by kernel_rfl) (by kernel_rfl) (by kernel_rfl) (by kernel_rfl) (fun _ _ _ h => h) (Or.inl ⟨by rfl, ?_⟩) hHeld ?_
            rotate_left
            · intro w hSw
              (try dsimp only at hSw)
              go_simp
              all_goals with_reducible rfl
            try simp only [List.getElem_toArray, List.getElem_cons_succ, List.getElem_cons_zero, Act.put, List.setIfInBounds_toArray, List.set_cons_zero, List.set_cons_succ]
            refine Any.take (i := 9) (v := ?_) rfl (by kernel_rfl) (by kernel_rfl) (by kernel_rfl) (by kernel_rfl) (fun _ _ _ h => h) (Or.inl ⟨by rfl, ?_⟩) hHeld ?_
            rotate_left
            · intro w hSw
              (try dsimp only at hSw)
              go_simp
              all_goals with_reducible rfl
            try simp only [List.getElem_toArray, List.getElem_cons_succ, List.getElem_cons_zero, Act.put, List.setIfInBounds_toArray, List.set_cons_zero, List.set_cons_succ]
            refine Any.take (i := 10) (v := ?_) rfl (by kernel_rfl) (by kernel_rfl) (by kernel_rfl) (by kernel_rfl) (fun _ _ _ h => h) (Or.inl ⟨by rfl, ?_⟩) hHeld ?_
            rotate_left
            · intro w hSw
              (try dsimp only at hSw)
              go_simp
              all_goals with_reducible rfl
            try simp only [List.getElem_toArray, List.getElem_cons_succ, List.getElem_cons_zero, Act.put, List.setIfInBounds_toArray, List.set_cons_zero, List.set_cons_succ]
            refine Any.take (i := 11) (v := ?_) rfl (by kernel_rfl) (by kernel_rfl) (by kernel_rfl) (by kernel_rfl) (fun _ _ _ h => h) (Or.inl ⟨by rfl, ?_⟩) hHeld ?_
            rotate_left
            · intro w hSw
              (try dsimp only at hSw)
              go_simp
              all_goals with_reducible rfl
            try simp only [List.getElem_toArray, List.getElem_cons_succ, List.getElem_cons_zero, Act.put, List.setIfInBounds_toArray, List.set_cons_zero, List.set_cons_succ]
            refine Any.ready (rs := [12]) (by kernel_rfl) (by simp) ?_
            refine AllAny.cons rfl rfl (fun K hK => ?_) AllAny.nil
            go_simp
            go_at_call 26
            with_reducible refine (ssame_any ezq hlen _ _ _ _ _ HR1.out HR2.out).mono ?_
            (try go_split_ands)
            rintro e wa ⟨rfl, hba⟩
            go_wp2_with fail
            replace e0 := keeps hba e0
            replace e1 := keeps hba e1
            replace e2 := keeps hba e2
            replace e3 := keeps hba e3
            replace k0 := keeps hba k0
            replace k1 := keeps hba k1
            replace k2 := keeps hba k2
            replace k3 := keeps hba k3
            replace x5 := keeps hba x5
            replace y5 := keeps hba y5
            replace KD := mkHid (KD.out.step hba)
            replace KR := mkHid (KR.out.step hba)
            clear hba
            refine hK.out _ _ ?_ (fun hHeld => ?_)
            · ((try dsimp only); (try go_split_ands); refine ⟨?_, ?_, ?_, ?_, ?_, ?_, ?_, ?_, ?_, ?_⟩ <;> with_reducible assumption)
            clear hK K
            try simp only [List.getElem_toArray, List.getElem_cons_succ, List.getElem_cons_zero, Act.put, List.setIfInBounds_toArray, List.set_cons_zero, List.set_cons_succ]
            refine Any.take (i := 13) (v := ?_) rfl (by kernel_rfl) (by kernel_rfl) (by kernel_rfl) (by kernel_rfl) (fun _ _ _ h => h) (Or.inl ⟨by rfl, ?_⟩) hHeld ?_
            rotate_left
            · intro w hSw
              (try dsimp only at hSw)
              go_simp
              all_goals with_reducible rfl
            try simp only [List.getElem_toArray, List.getElem_cons_succ, List.getElem_cons_zero, Act.put, List.setIfInBounds_toArray, List.set_cons_zero, List.set_cons_succ]
            refine Any.take (i := 14) (v := ?_) rfl (by kernel_rfl) (by kernel_rfl) (by kernel_rfl) (by kernel_rfl) (fun _ _ _ h => h) (Or.inl ⟨by rfl, ?_⟩) hHeld ?_
            rotate_left
            · intro w hSw
              (try dsimp only at hSw)
              go_simp
              all_goals with_reducible rfl
            try simp only [List.getElem_toArray, List.getElem_cons_succ, List.getElem_cons_zero, Act.put, List.setIfInBounds_toArray, List.set_cons_zero, List.set_cons_succ]
            refine Any.take (i := 15) (v := ?_) rfl (by kernel_rfl) (by kernel_rfl) (by kernel_rfl) (by kernel_rfl) (fun _ _ _ h => h) (Or.inl ⟨by rfl, ?_⟩) hHeld ?_
            rotate_left
            · intro w hSw
              (try dsimp only at hSw)
              go_simp
              all_goals with_reducible rfl
            try simp only [List.getElem_toArray, List.getElem_cons_succ, List.getElem_cons_zero, Act.put, List.setIfInBounds_toArray, List.set_cons_zero, List.set_cons_succ]
            refine Any.take (i := 16) (v := ?_) rfl (by kernel_rfl) (by kernel_rfl) (by kernel_rfl) (by kernel_rfl) (fun _ _ _ h => h) (Or.inl ⟨by rfl, ?_⟩) hHeld ?_
            rotate_left
            · intro w hSw
              (try dsimp only at hSw)
              go_simp
              all_goals with_reducible rfl
            try simp only [List.getElem_toArray, List.getElem_cons_succ, List.getElem_cons_zero, Act.put, List.setIfInBounds_toArray, List.set_cons_zero, List.set_cons_succ]
            refine Any.take (i := 17) (v := ?_) rfl (by kernel_rfl) (by kernel_rfl) (by kernel_rfl) (by kernel_rfl) (fun _ _ _ h => h) (Or.inl ⟨by rfl, ?_⟩) hHeld ?_
            rotate_left
            · intro w hSw
              (try dsimp only at hSw)
              go_simp
              all_goals with_reducible rfl
            try simp only [List.getElem_toArray, List.getElem_cons_succ, List.getElem_cons_zero, Act.put, List.setIfInBounds_toArray, List.set_cons_zero, List.set_cons_succ]
            refine Any.take (i := 18) (v := ?_) rfl (by kernel_rfl) (by kernel_rfl) (by kernel_rfl) (by kernel_rfl) (fun _ _ _ h => h) (Or.inl ⟨by rfl, ?_⟩) hHeld ?_
            rotate_left
            · intro w hSw
              (try dsimp only at hSw)
              go_simp
              all_goals with_reducible rfl
            try simp only [List.getElem_toArray, List.getElem_cons_succ, List.getElem_cons_zero, Act.put, List.setIfInBounds_toArray, List.set_cons_zero, List.set_cons_succ]
            refine Any.take (i := 19) (v := ?_) rfl (by kernel_rfl) (by kernel_rfl) (by kernel_rfl) (by kernel_rfl) (fun _ _ _ h => h) (Or.inl ⟨by rfl, ?_⟩) hHeld ?_
            rotate_left
            · intro w hSw
              (try dsimp only at hSw)
              go_simp
              all_goals with_reducible rfl
            try simp only [List.getElem_toArray, List.getElem_cons_succ, List.getElem_cons_zero, Act.put, List.setIfInBounds_toArray, List.set_cons_zero, List.set_cons_succ]
            refine Any.take (i := 20) (v := ?_) rfl (by kernel_rfl) (by kernel_rfl) (by kernel_rfl) (by kernel_rfl) (fun _ _ _ h => h) (Or.inl ⟨by rfl, ?_⟩) hHeld ?_
            rotate_left
            · intro w hSw
              (try dsimp only at hSw)
              go_simp
              all_goals with_reducible rfl
            try simp only [List.getElem_toArray, List.getElem_cons_succ, List.getElem_cons_zero, Act.put, List.setIfInBounds_toArray, List.set_cons_zero, List.set_cons_succ]
            refine Any.take (i := 21) (v := ?_) rfl (by kernel_rfl) (by kernel_rfl) (by kernel_rfl) (by kernel_rfl) (fun _ _ _ h => h) (Or.inl ⟨by rfl, ?_⟩) hHeld ?_
            rotate_left
            · intro w hSw
              (try dsimp only at hSw)
              go_simp
              all_goals with_reducible rfl
            try simp only [List.getElem_toArray, List.getElem_cons_succ, List.getElem_cons_zero, Act.put, List.setIfInBounds_toArray, List.set_cons_zero, List.set_cons_succ]
            refine Any.take (i := 22) (v := ?_) rfl (by kernel_rfl) (by kernel_rfl) (by kernel_rfl) (by kernel_rfl) (fun _ _ _ h => h) (Or.inl ⟨by rfl, ?_⟩) hHeld ?_
            rotate_left
            · intro w hSw
              (try dsimp only at hSw)
              go_simp
              all_goals with_reducible rfl
            try simp only [List.getElem_toArray, List.getElem_cons_succ, List.getElem_cons_zero, Act.put, List.setIfInBounds_toArray, List.set_cons_zero, List.set_cons_succ]
            refine Any.take (i := 23) (v := ?_) rfl (by kernel_rfl) (by kernel_rfl) (by kernel_rfl) (by kernel_rfl) (fun _ _ _ h => h) (Or.inl ⟨by rfl, ?_⟩) hHeld ?_
            rotate_left
            · intro w hSw
              (try dsimp only at hSw)
              go_simp
              all_goals with_reducible rfl
            try simp only [List.getElem_toArray, List.getElem_cons_succ, List.getElem_cons_zero, Act.put, List.setIfInBounds_toArray, List.set_cons_zero, List.set_cons_succ]
            refine Any.take (i := 24) (v := ?_) rfl (by kernel_rfl) (by kernel_rfl) (by kernel_rfl) (by kernel_rfl) (fun _ _ _ h => h) (Or.inl ⟨by rfl, ?_⟩) hHeld ?_
            rotate_left
            · intro w hSw
              (try dsimp only at hSw)
              go_simp
              all_goals with_reducible rfl
            try simp only [List.getElem_toArray, List.getElem_cons_succ, List.getElem_cons_zero, Act.put, List.setIfInBounds_toArray, List.set_cons_zero, List.set_cons_succ]
            refine Any.take (i := 25) (v := ?_) rfl (by kernel_rfl) (by kernel_rfl) (by kernel_rfl) (by kernel_rfl) (fun _ _ _ h => h) (Or.inl ⟨by rfl, ?_⟩) hHeld ?_
            rotate_left
            · intro w hSw
              (try dsimp only at hSw)
              go_simp
              all_goals with_reducible rfl
            try simp only [List.getElem_toArray, List.getElem_cons_succ, List.getElem_cons_zero, Act.put, List.setIfInBounds_toArray, List.set_cons_zero, List.set_cons_succ]
            refine Any.take (i := 26) (v := ?_) rfl (by kernel_rfl) (by kernel_rfl) (by kernel_rfl) (by kernel_rfl) (fun _ _ _ h => h) (Or.inl ⟨by rfl, ?_⟩) hHeld ?_
            rotate_left
            · intro w hSw
              (try dsimp only at hSw)
              go_simp
              all_goals with_reducible rfl
            try simp only [List.getElem_toArray, List.getElem_cons_succ, List.getElem_cons_zero, Act.put, List.setIfInBounds_toArray, List.set_cons_zero, List.set_cons_succ]
            refine Any.take (i := 27) (v := ?_) rfl (by kernel_rfl) (by kernel_rfl) (by kernel_rfl) (by kernel_rfl) (fun _ _ _ h => h) (Or.inl ⟨by rfl, ?_⟩) hHeld ?_
            rotate_left
            · intro w hSw
              (try dsimp only at hSw)
              go_simp
              all_goals with_reducible rfl
            try simp only [List.getElem_toArray, List.getElem_cons_succ, List.getElem_cons_zero, Act.put, List.setIfInBounds_toArray, List.set_cons_zero, List.set_cons_succ]
            refine Any.take (i := 28) (v := ?_) rfl (by kernel_rfl) (by kernel_rfl) (by kernel_rfl) (by kernel_rfl) (fun _ _ _ h => h) (Or.inl ⟨by rfl, ?_⟩) hHeld ?_
            rotate_left
            · intro w hSw
              (try dsimp only at hSw)
              go_simp
              all_goals with_reducible rfl
            try simp only [List.getElem_toArray, List.getElem_cons_succ, List.getElem_cons_zero, Act.put, List.setIfInBounds_toArray, List.set_cons_zero, List.set_cons_succ]
            refine Any.take (i := 29) (v := ?_) rfl (by kernel_rfl) (by kernel_rfl) (by kernel_rfl) (by kernel_rfl) (fun _ _ _ h => h) (Or.inl ⟨by rfl, ?_⟩) hHeld ?_
            rotate_left
            · intro w hSw
              (try dsimp only at hSw)
              go_simp
              all_goals with_reducible rfl
            try simp only [List.getElem_toArray, List.getElem_cons_succ, List.getElem_cons_zero, Act.put, List.setIfInBounds_toArray, List.set_cons_zero, List.set_cons_succ]
            refine Any.take (i := 30) (v := ?_) rfl (by kernel_rfl) (by kernel_rfl) (by kernel_rfl) (by kernel_rfl) (fun _ _ _ h => h) (Or.inl ⟨by rfl, ?_⟩) hHeld ?_
            rotate_left
            · intro w hSw
              (try dsimp only at hSw)
              go_simp
              all_goals with_reducible rfl
            try simp only [List.getElem_toArray, List.getElem_cons_succ, List.getElem_cons_zero, Act.put, List.setIfInBounds_toArray, List.set_cons_zero, List.set_cons_succ]
            refine Any.take (i := 31) (v := ?_) rfl (by kernel_rfl) (by kernel_rfl) (by kernel_rfl) (by kernel_rfl) (fun _ _ _ h => h) (Or.inl ⟨by rfl, ?_⟩) hHeld ?_
            rotate_left
            · intro w hSw
              (try dsimp only at hSw)
              go_simp
              all_goals with_reducible rfl
            try simp only [List.getElem_toArray, List.getElem_cons_succ, List.getElem_cons_zero, Act.put, List.setIfInBounds_toArray, List.set_cons_zero, List.set_cons_succ]
            refine Any.take (i := 32) (v := ?_) rfl (by kernel_rfl) (by kernel_rfl) (by kernel_rfl) (by kernel_rfl) (fun _ _ _ h => h) (Or.inl ⟨by rfl, ?_⟩) hHeld ?_
            rotate_left
            · intro w hSw
              (try dsimp only at hSw)
              go_simp
              all_goals with_reducible rfl
            try simp only [List.getElem_toArray, List.getElem_cons_succ, List.getElem_cons_zero, Act.put, List.setIfInBounds_toArray, List.set_cons_zero, List.set_cons_succ]
            refine Any.take (i := 33) (v := ?_) rfl (by kernel_rfl) (by kernel_rfl) (by kernel_rfl) (by kernel_rfl) (fun _ _ _ h => h) (Or.inl ⟨by rfl, ?_⟩) hHeld ?_
            rotate_left
            · intro w hSw
              (try dsimp only at hSw)
              go_simp
              all_goals with_reducible rfl
            try simp only [List.getElem_toArray, List.getElem_cons_succ, List.getElem_cons_zero, Act.put, List.setIfInBounds_toArray, List.set_cons_zero, List.set_cons_succ]
            refine Any.take (i := 34) (v := ?_) rfl (by kernel_rfl) (by kernel_rfl) (by kernel_rfl) (by kernel_rfl) (fun _ _ _ h => h) (Or.inl ⟨by rfl, ?_⟩) hHeld ?_
            rotate_left
            · intro w hSw
              (try dsimp only at hSw)
              go_simp
              all_goals with_reducible rfl
            try simp only [List.getElem_toArray, List.getElem_cons_succ, List.getElem_cons_zero, Act.put, List.setIfInBounds_toArray, List.set_cons_zero, List.set_cons_succ]
            refine Any.take (i := 35) (v := ?_) rfl (by kernel_rfl) (by kernel_rfl) (by kernel_rfl) (by kernel_rfl) (fun _ _ _ h => h) (Or.inl ⟨by rfl, ?_⟩) hHeld ?_
            rotate_left
            · intro w hSw
              (try dsimp only at hSw)
              go_simp
              all_goals with_reducible rfl
            try simp only [List.getElem_toArray, List.getElem_cons_succ, List.getElem_cons_zero, Act.put, List.setIfInBounds_toArray, List.set_cons_zero, List.set_cons_succ]
            refine Any.take (i := 36) (v := ?_) rfl (by kernel_rfl) (by kernel_rfl) (by kernel_rfl) (by kernel_rfl) (fun _ _ _ h => h) (Or.inl ⟨by rfl, ?_⟩) hHeld ?_
            rotate_left
            · intro w hSw
              (try dsimp only at hSw)
              go_simp
              all_goals with_reducible rfl
            try simp only [List.getElem_toArray, List.getElem_cons_succ, List.getElem_cons_zero, Act.put, List.setIfInBounds_toArray, List.set_cons_zero, List.set_cons_succ]
            refine Any.take (i := 37) (v := ?_) rfl (by kernel_rfl) (by kernel_rfl) (by kernel_rfl) (by kernel_rfl) (fun _ _ _ h => h) (Or.inl ⟨by rfl, ?_⟩) hHeld ?_
            rotate_left
            · intro w hSw
              (try dsimp only at hSw)
              go_simp
              all_goals with_reducible rfl
            try simp only [List.getElem_toArray, List.getElem_cons_succ, List.getElem_cons_zero, Act.put, List.setIfInBounds_toArray, List.set_cons_zero, List.set_cons_succ]
            refine Any.take (i := 38) (v := ?_) rfl (by kernel_rfl) (by kernel_rfl) (by kernel_rfl) (by kernel_rfl) (fun _ _ _ h => h) (Or.inl ⟨by rfl, ?_⟩) hHeld ?_
            rotate_left
            · intro w hSw
              (try dsimp only at hSw)
              go_simp
              all_goals with_reducible rfl
            try simp only [List.getElem_toArray, List.getElem_cons_succ, List.getElem_cons_zero, Act.put, List.setIfInBounds_toArray, List.set_cons_zero, List.set_cons_succ]
            refine Any.take (i := 39) (v := ?_) rfl (by kernel_rfl) (by kernel_rfl) (by kernel_rfl) (by kernel_rfl) (fun _ _ _ h => h) (Or.inl ⟨by rfl, ?_⟩) hHeld ?_
            rotate_left
            · intro w hSw
              (try dsimp only at hSw)
              go_simp
              all_goals with_reducible rfl
            try simp only [List.getElem_toArray, List.getElem_cons_succ, List.getElem_cons_zero, Act.put, List.setIfInBounds_toArray, List.set_cons_zero, List.set_cons_succ]
            refine Any.take (i := 40) (v := ?_) rfl (by kernel_rfl) (by kernel_rfl) (by kernel_rfl) (by kernel_rfl) (fun _ _ _ h => h) (Or.inl ⟨by rfl, ?_⟩) hHeld ?_
            rotate_left
            · intro w hSw
              (try dsimp only at hSw)
              go_simp
              all_goals with_reducible rfl
            try simp only [List.getElem_toArray, List.getElem_cons_succ, List.getElem_cons_zero, Act.put, List.setIfInBounds_toArray, List.set_cons_zero, List.set_cons_succ]
            refine Any.take (i := 41) (v := ?_) rfl (by kernel_rfl) (by kernel_rfl) (by kernel_rfl) (by kernel_rfl) (fun _ _ _ h => h) (Or.inl ⟨by rfl, ?_⟩) hHeld ?_
            rotate_left
            · intro w hSw
              (try dsimp only at hSw)
              go_simp
              all_goals with_reducible rfl
            try simp only [List.getElem_toArray, List.getElem_cons_succ, List.getElem_cons_zero, Act.put, List.setIfInBounds_toArray, List.set_cons_zero, List.set_cons_succ]
            refine Any.take (i := 42) (v := ?_) rfl (by kernel_rfl) (by kernel_rfl) (by kernel_rfl) (by kernel_rfl) (fun _ _ _ h => h) (Or.inl ⟨by rfl, ?_⟩) hHeld ?_
            rotate_left
            · intro w hSw
              (try dsimp only at hSw)
              go_simp
              all_goals with_reducible rfl
            try simp only [List.getElem_toArray, List.getElem_cons_succ, List.getElem_cons_zero, Act.put, List.setIfInBounds_toArray, List.set_cons_zero, List.set_cons_succ]
            refine Any.take (i := 43) (v := ?_) rfl (by kernel_rfl) (by kernel_rfl) (by kernel_rfl) (by kernel_rfl) (fun _ _ _ h => h) (Or.inl ⟨by rfl, ?_⟩) hHeld ?_
            rotate_left
            · intro w hSw
              (try dsimp only at hSw)
              go_simp
              all_goals with_reducible rfl
            try simp only [List.getElem_toArray, List.getElem_cons_succ, List.getElem_cons_zero, Act.put, List.setIfInBounds_toArray, List.set_cons_zero, List.set_cons_succ]
            refine Any.done (by kernel_rfl) ?_ _
            have hk2 : Hid (sameTo S T (i + 1) = true) := mkHid (by rw [hsk.out, hk.out, t3, tp1', tp2']; simp)
            go_wp2_with fail
            go_roundw
            case rel => exact ⟨i + 1, by omega, by go_num, hk2, KR⟩
            case measure => simp [intOf]; omega
    · obtain rfl : i = n0 := by omega
      obtain rfl : z = true := by rw [← hz.out]; exact hk.out
      go_wp2_with fail
      go_ret
      exact ⟨rfl, KB2.out⟩

theorem rmsame {m o : ModD} {z : Bool} (e : Hid (sameM m o = z)) (hl : Hid (m.l.length < 4611686018427387904)) (hs : Hid (m.sent.length < 4611686018427387904 ∧ ∀ s ∈ m.sent, s.out.length < 4611686018427387904)) (A A' B B' : Option Addr) (c c' d d' : Nat) (w : World) (hA : Reads w A m.l) (hA' : Reads w A' o.l) (hS : SentIn w B m.sent) (hT : SentIn w B' o.sent) :
    Calls Try.prog 36 #[.agg #[.int .i64 m.h, .int .i64 m.cap, .slice A m.l.length c, .int .i64 m.n, .int .i64 m.draws, .slice B m.sent.length d], .agg #[.int .i64 o.h, .int .i64 o.cap, .slice A' o.l.length c', .int .i64 o.n, .int .i64 o.draws, .slice B' o.sent.length d']] w fun e w' => e = .returned (.bool z) ∧ Below w.heap.size w w' := by
  have e' := e.out
  unfold sameM at e'
  cases t0 : (m.h == o.h)
  · rw [t0, Bool.false_and] at e'
    subst e'
    exact rmsame_0 t0 hl A A' B B' c c' d d' w hA hA' hS hT
  · rw [t0, Bool.true_and] at e'
    cases t1 : (m.cap == o.cap)
    · rw [t1, Bool.false_and] at e'
      subst e'
      exact rmsame_1 t0 t1 hl A A' B B' c c' d d' w hA hA' hS hT
    · rw [t1, Bool.true_and] at e'
      cases ez : decide (m.l = o.l)
      · rw [ez, Bool.false_and] at e'
        subst e'
        exact rmsame_2 t0 t1 (mkHid ez) hl A A' B B' c c' d d' w hA hA' hS hT
      · rw [ez, Bool.true_and] at e'
        cases t3 : (m.n == o.n)
        · rw [t3, Bool.false_and] at e'
          subst e'
          exact rmsame_3 t0 t1 (mkHid ez) t3 hl A A' B B' c c' d d' w hA hA' hS hT
        · rw [t3, Bool.true_and] at e'
          cases t4 : (m.draws == o.draws)
          · rw [t4, Bool.false_and] at e'
            subst e'
            exact rmsame_4 t0 t1 (mkHid ez) t3 t4 hl A A' B B' c c' d d' w hA hA' hS hT
          · rw [t4, Bool.true_and] at e'
            unfold sameS at e'
            by_cases h : m.sent.length = o.sent.length
            · rw [decide_eq_true h, Bool.true_and] at e'
              exact rmsame_loop t0 t1 (mkHid ez) t3 t4 (mkHid h) (mkHid e') hs hl A A' B B' c c' d d' w hA hA' hS hT
            · rw [decide_eq_false h, Bool.false_and] at e'
              subst e'
              exact rmsame_5 t0 t1 (mkHid ez) t3 t4 (mkHid h) hl A A' B B' c c' d d' w hA hA' hS hT
end Go.Proofs.Ytmehbonjpmlmfaa

namespace Go.Proofs.Ytmehbonjpmlmfaa
open Go.RowKit

theorem doM_bad {m : ModD} {o : OpD} (h : okM m = false) : doM m o = (zeroM, ansE 0, 1) := by
  unfold doM
  rw [if_neg (by rw [h]; simp)]
end Go.Proofs.Ytmehbonjpmlmfaa

namespace Go.Proofs.Ytmehbonjpmlmfaa
open Go.RowKit

theorem doM_sizes {m m' : ModD} {o : OpD} {a : AnsD} {r : Int} (e : doM m o = (m', a, r)) : m'.l.length ≤ 1024 ∧ m'.sent.length ≤ 4096 ∧ ∀ s ∈ m'.sent, s.out.length ≤ 1024 := by
  cases hok : okM m
  · rw [doM_bad hok] at e
    cases e
    exact ⟨by decide, by decide, fun s hs => by simp [zeroM] at hs⟩
  · rcases doM_step hok e with ⟨_, _, h3, _⟩ | ⟨_, _, _, _, hok'⟩
    · subst h3
      exact ⟨by decide, by decide, fun s hs => by simp [zeroM] at hs⟩
    · exact okM_sizes hok'
/-- so many whole numbers that may be written, in blocks from lo to hi -/
def W64 (w : World) (lo hi : Nat) (A : Option Addr) (n : Nat) : Prop := ∀ j, j < n → ∃ b off, A = some ⟨b, off, none⟩ ∧ lo ≤ b ∧ b < hi ∧ (∃ v : Int, w.cell? ⟨b, off + j, none⟩ = some (.int .u64 v)) ∧ w.frozen? ⟨b, off + j, none⟩ = false
theorem W64.set {w : World} {lo hi : Nat} {A : Option Addr} {n : Nat} (h : W64 w lo hi A n) {b o : Nat} {x y : Int} (hc : w.cell? ⟨b, o, none⟩ = some (.int .u64 x)) : W64 (w.setCell ⟨b, o, none⟩ (.int .u64 y)) lo hi A n := fun j hj => by
  obtain ⟨b', off, e, h1, h2, ⟨v, h3⟩, h4⟩ := h j hj
  refine ⟨b', off, e, h1, h2, ?_, by rw [World.frozen?_setCell]; exact h4⟩
  by_cases q : (⟨b, o, none⟩ : Addr) = ⟨b', off + j, none⟩
  · rw [← q]
    exact ⟨y, World.cell?_setCell_same (u := .int .u64 x) _ _ _ hc⟩
  · exact ⟨v, by rw [World.cell?_setCell_other w _ _ _ q]; exact h3⟩
/-- what an answered model may be written into -/
structure AInv (w : World) (lo hi : Nat) (A : Option Addr) (n : Nat) (B : Option Addr) (Y : List (Option Addr × Nat × Nat)) : Prop where
  row : W64 w lo hi A n
  sents : ∀ i (hi : i < Y.length), ∃ b off, B = some ⟨b, off, none⟩ ∧ w.cell? ⟨b, off + i * 4, none⟩ = some (.slice Y[i].1 Y[i].2.1 Y[i].2.2)
  each : ∀ y ∈ Y, W64 w lo hi y.1 y.2.1
theorem AInv.set {w : World} {lo hi : Nat} {A B : Option Addr} {n : Nat} {Y : List (Option Addr × Nat × Nat)} (h : AInv w lo hi A n B Y) {b o : Nat} {x : Int} (hc : w.cell? ⟨b, o, none⟩ = some (.int .u64 x)) (y : Int) : AInv (w.setCell ⟨b, o, none⟩ (.int .u64 y)) lo hi A n B Y :=
  ⟨h.row.set hc, fun i hi => by
    obtain ⟨b', off, e, h1⟩ := h.sents i hi
    refine ⟨b', off, e, ?_⟩
    rw [World.cell?_setCell_other w _ _ _ (fun q => by rw [q] at hc; rw [hc] at h1; cases h1)]
    exact h1, fun y hy => (h.each y hy).set hc⟩
theorem W64.below {w w1 : World} {lo hi : Nat} {A : Option Addr} {n : Nat} (h : W64 w lo hi A n) (hb : Below w.heap.size w w1) : W64 w1 lo hi A n := fun j hj => by
  obtain ⟨b', off, e, h1, h2, ⟨v, h3⟩, h4⟩ := h j hj
  exact ⟨b', off, e, h1, h2, ⟨v, keeps hb h3⟩, keepsF hb h3 h4⟩
theorem AInv.below {w w1 : World} {lo hi : Nat} {A B : Option Addr} {n : Nat} {Y : List (Option Addr × Nat × Nat)} (h : AInv w lo hi A n B Y) (hb : Below w.heap.size w w1) : AInv w1 lo hi A n B Y :=
  ⟨h.row.below hb, fun i hi => by
    obtain ⟨b', off, e, h1⟩ := h.sents i hi
    exact ⟨b', off, e, keeps hb h1⟩, fun y hy => (h.each y hy).below hb⟩
theorem own_frozen {w : World} {base : Nat} {e : TypeId} {size n c : Nat} {A : Option Addr} {cs : List Value} (h : w.ownsRow base e size (.slice A n c) n cs) {j : Nat} (hj : j < cs.length) : ∃ b, A = some ⟨b, 0, none⟩ ∧ base ≤ b ∧ b < w.heap.size ∧ w.cell? ⟨b, 0 + j, none⟩ = cs[j]? ∧ w.frozen? ⟨b, 0 + j, none⟩ = false := by
  obtain ⟨hl, h2⟩ := h
  rcases h2 with ⟨q, q0⟩ | ⟨g, cap, cur, q, q2, q3, q4, q5, q6⟩
  · subst q0
    rw [hl] at hj
    simp at hj
  · obtain ⟨q, _, _⟩ := Value.slice.inj q
    subst q
    have hh : w.ownsRow base e size (.slice (some ⟨g, 0, none⟩) n cap) n cs := ⟨hl, .inr ⟨g, cap, cur, rfl, q2, q3, q4, q5, q6⟩⟩
    have hlt := (Array.getElem?_eq_some_iff.1 q3).1
    refine ⟨g, rfl, q2, hlt, ?_, ?_⟩
    · have := hh.cells (g := g) rfl j cs[j] (List.getElem?_eq_getElem hj)
      rw [addr_add] at this
      rw [this, List.getElem?_eq_getElem hj]
    · simp [World.frozen?, q3]
theorem W64.of_row {w : World} {base n c : Nat} {A : Option Addr} {s : List Nat} (h : RowOf w base (.slice A s.length c) s) (hn : n = s.length) : W64 w base w.heap.size A n := fun j hj => by
  subst hn
  obtain ⟨b, e, h1, h2, h3, h4⟩ := own_frozen h (j := j) (by rw [natCells_length]; exact hj)
  refine ⟨b, 0, e, h1, h2, ?_, h4⟩
  have hjl : j < (natCells s).length := by rw [natCells_length]; exact hj
  obtain ⟨v, hv⟩ : ∃ v : Int, (natCells s)[j]? = some (.int .u64 v) := by
    unfold natCells
    rw [List.getElem?_map, List.getElem?_eq_getElem hj]
    exact ⟨_, rfl⟩
  exact ⟨v, by rw [h3, hv]⟩
theorem AInv.of_own {w : World} {base : Nat} {A B : Option Addr} {c d : Nat} {X : List SX} {m : ModD} (h : OwnM w base A c B d X m) : AInv w base w.heap.size A m.l.length B (X.map fun x => (x.a, x.s.out.length, x.c)) :=
  ⟨W64.of_row h.row rfl, fun i hi => by
    have hx : i < X.length := by simpa using hi
    have hm : m.sent.length = X.length := by rw [← h.eq, List.length_map]
    obtain ⟨b, e, h1, h2, h3, h4⟩ := own_frozen h.sents (j := i * 4) (by rw [sentCells_length]; omega)
    refine ⟨b, 0, e, ?_⟩
    have := sentCells_get X i hx 0 (by omega)
    rw [Nat.add_zero] at this
    rw [h3, this]
    simp [sxCells], fun y hy => by
    obtain ⟨x, hx, rfl⟩ := List.mem_map.1 hy
    exact W64.of_row (h.each x hx) rfl⟩

set_option maxRecDepth 100000 in
set_option maxHeartbeats 8000000 in
theorem mdoes_many {h cap n dr h' cap' n' dr' k q x0 x1 x2 : Int} {l l' : List Nat} {S S' : List SentD} {i : Nat} {p1 p2 : BitVec 64} (hf : Hid (fewM ⟨h, cap, l, n, dr, S⟩ = false))  (A : Option Addr) (c : Nat) (B : Option Addr) (d : Nat) (A' : Option Addr) (c' : Nat) (B' : Option Addr) (d' : Nat) (w : World) (hM : RawM w A c B d ⟨h, cap, l, n, dr, S⟩) (hO : RawM w A' c' B' d' ⟨h', cap', l', n', dr', S'⟩) :
    Calls Try.prog 9 #[.agg #[.int .i64 h, .int .i64 cap, .slice A l.length c, .int .i64 n, .int .i64 dr, .slice B S.length d], .agg #[.int .i64 h', .int .i64 cap', .slice A' l'.length c', .int .i64 n', .int .i64 dr', .slice B' S'.length d'], .agg #[.int .i64 k, .int .u64 (i : Int), .int .i64 q, .int .u64 (p1.toNat : Int), .int .u64 (p2.toNat : Int)], .int .i64 x0, .int .i64 x1, .int .i64 x2] w fun e w' => e = .returned (.bool true) ∧ Below w.heap.size w w' := by
  skip
  have KB : Hid (Below w.heap.size w (((w.alloc (.cells #[.int .i64 h, .int .i64 cap, .slice A l.length c, .int .i64 n, .int .i64 dr, .slice B S.length d] 45)).alloc (.cells #[.int .i64 h', .int .i64 cap', .slice A' l'.length c', .int .i64 n', .int .i64 dr', .slice B' S'.length d'] 45)).alloc (.cells #[.int .i64 k, .int .u64 (i : Int), .int .i64 q, .int .u64 (p1.toNat : Int), .int .u64 (p2.toNat : Int)] 53))) := mkHid ((((Below.refl _ _).alloc (Nat.le_refl _) (.cells #[.int .i64 h, .int .i64 cap, .slice A l.length c, .int .i64 n, .int .i64 dr, .slice B S.length d] 45)).alloc (by simp) (.cells #[.int .i64 h', .int .i64 cap', .slice A' l'.length c', .int .i64 n', .int .i64 dr', .slice B' S'.length d'] 45)).alloc (by simp; omega) (.cells #[.int .i64 k, .int .u64 (i : Int), .int .i64 q, .int .u64 (p1.toNat : Int), .int .u64 (p2.toNat : Int)] 53))
  have HM := mkHid (hM.below ((((Below.refl _ _).alloc (Nat.le_refl _) (.cells #[.int .i64 h, .int .i64 cap, .slice A l.length c, .int .i64 n, .int .i64 dr, .slice B S.length d] 45)).alloc (by simp) (.cells #[.int .i64 h', .int .i64 cap', .slice A' l'.length c', .int .i64 n', .int .i64 dr', .slice B' S'.length d'] 45)).alloc (by simp; omega) (.cells #[.int .i64 k, .int .u64 (i : Int), .int .i64 q, .int .u64 (p1.toNat : Int), .int .u64 (p2.toNat : Int)] 53)))
  have HO := mkHid (hO.below ((((Below.refl _ _).alloc (Nat.le_refl _) (.cells #[.int .i64 h, .int .i64 cap, .slice A l.length c, .int .i64 n, .int .i64 dr, .slice B S.length d] 45)).alloc (by simp) (.cells #[.int .i64 h', .int .i64 cap', .slice A' l'.length c', .int .i64 n', .int .i64 dr', .slice B' S'.length d'] 45)).alloc (by simp; omega) (.cells #[.int .i64 k, .int .u64 (i : Int), .int .i64 q, .int .u64 (p1.toNat : Int), .int .u64 (p2.toNat : Int)] 53)))
  have ZM : Hid (Blk (((w.alloc (.cells #[.int .i64 h, .int .i64 cap, .slice A l.length c, .int .i64 n, .int .i64 dr, .slice B S.length d] 45)).alloc (.cells #[.int .i64 h', .int .i64 cap', .slice A' l'.length c', .int .i64 n', .int .i64 dr', .slice B' S'.length d'] 45)).alloc (.cells #[.int .i64 k, .int .u64 (i : Int), .int .i64 q, .int .u64 (p1.toNat : Int), .int .u64 (p2.toNat : Int)] 53)) w.heap.size 45 #[.int .i64 h, .int .i64 cap, .slice A l.length c, .int .i64 n, .int .i64 dr, .slice B S.length d]) := mkHid (((Blk.new _ _ _).alloc _).alloc _)
  have ZO : Hid (Blk (((w.alloc (.cells #[.int .i64 h, .int .i64 cap, .slice A l.length c, .int .i64 n, .int .i64 dr, .slice B S.length d] 45)).alloc (.cells #[.int .i64 h', .int .i64 cap', .slice A' l'.length c', .int .i64 n', .int .i64 dr', .slice B' S'.length d'] 45)).alloc (.cells #[.int .i64 k, .int .u64 (i : Int), .int .i64 q, .int .u64 (p1.toNat : Int), .int .u64 (p2.toNat : Int)] 53)) (w.heap.size + 1) 45 #[.int .i64 h', .int .i64 cap', .slice A' l'.length c', .int .i64 n', .int .i64 dr', .slice B' S'.length d']) := mkHid ((Blk.at _ _ _ (by simp)).alloc _)
  have ZP : Hid (Blk (((w.alloc (.cells #[.int .i64 h, .int .i64 cap, .slice A l.length c, .int .i64 n, .int .i64 dr, .slice B S.length d] 45)).alloc (.cells #[.int .i64 h', .int .i64 cap', .slice A' l'.length c', .int .i64 n', .int .i64 dr', .slice B' S'.length d'] 45)).alloc (.cells #[.int .i64 k, .int .u64 (i : Int), .int .i64 q, .int .u64 (p1.toNat : Int), .int .u64 (p2.toNat : Int)] 53)) (w.heap.size + 2) 53 #[.int .i64 k, .int .u64 (i : Int), .int .i64 q, .int .u64 (p1.toNat : Int), .int .u64 (p2.toNat : Int)]) := mkHid (Blk.at _ _ _ (by simp))
  clear hM hO
  have cZM := ZM.out.six
  have lZM := ZM.out.lt
  have cZO := ZO.out.six
  have lZO := ZO.out.lt
  have cZP := ZP.out.five
  have lZP := ZP.out.lt
  go_enter Try.func9, Try.ntmps9
  go_wp2_with fail
  refine (live22 _).mono ?_
  rintro e w1 ⟨rfl, hb1⟩
  replace ZM := mkHid (ZM.out.keep hb1)
  replace ZO := mkHid (ZO.out.keep hb1)
  replace ZP := mkHid (ZP.out.keep hb1)
  replace KB := mkHid (KB.out.step hb1)
  replace HM := mkHid (HM.out.below hb1)
  replace HO := mkHid (HO.out.below hb1)
  clear cZM lZM
  have cZM := ZM.out.six
  have lZM := ZM.out.lt
  clear cZO lZO
  have cZO := ZO.out.six
  have lZO := ZO.out.lt
  clear cZP lZP
  have cZP := ZP.out.five
  have lZP := ZP.out.lt
  clear hb1
  go_wp2_with fail
  refine (few_walk (m := ⟨h, cap, l, n, dr, S⟩) hf (Nat.le_trans HM.out.s1 HM.out.s2) _ _ _ _ _ HM.out.sents).mono ?_
  rintro e w2 ⟨rfl, hb2⟩
  replace ZM := mkHid (ZM.out.keep hb2)
  replace ZO := mkHid (ZO.out.keep hb2)
  replace ZP := mkHid (ZP.out.keep hb2)
  replace KB := mkHid (KB.out.step hb2)
  replace HM := mkHid (HM.out.below hb2)
  replace HO := mkHid (HO.out.below hb2)
  clear cZM lZM
  have cZM := ZM.out.six
  have lZM := ZM.out.lt
  clear cZO lZO
  have cZO := ZO.out.six
  have lZO := ZO.out.lt
  clear cZP lZP
  have cZP := ZP.out.five
  have lZP := ZP.out.lt
  clear hb2
  go_wp2_with fail
  go_ret
  exact ⟨rfl, KB.out⟩

set_option maxRecDepth 100000 in
set_option maxHeartbeats 8000000 in
theorem mdoes_many2 {h cap n dr h' cap' n' dr' k q x0 x1 x2 : Int} {l l' : List Nat} {S S' : List SentD} {i : Nat} {p1 p2 : BitVec 64} (hf : Hid (fewM ⟨h, cap, l, n, dr, S⟩ = true)) (hf2 : Hid (fewM ⟨h', cap', l', n', dr', S'⟩ = false))  (A : Option Addr) (c : Nat) (B : Option Addr) (d : Nat) (A' : Option Addr) (c' : Nat) (B' : Option Addr) (d' : Nat) (w : World) (hM : RawM w A c B d ⟨h, cap, l, n, dr, S⟩) (hO : RawM w A' c' B' d' ⟨h', cap', l', n', dr', S'⟩) :
    Calls Try.prog 9 #[.agg #[.int .i64 h, .int .i64 cap, .slice A l.length c, .int .i64 n, .int .i64 dr, .slice B S.length d], .agg #[.int .i64 h', .int .i64 cap', .slice A' l'.length c', .int .i64 n', .int .i64 dr', .slice B' S'.length d'], .agg #[.int .i64 k, .int .u64 (i : Int), .int .i64 q, .int .u64 (p1.toNat : Int), .int .u64 (p2.toNat : Int)], .int .i64 x0, .int .i64 x1, .int .i64 x2] w fun e w' => e = .returned (.bool true) ∧ Below w.heap.size w w' := by
  skip
  have KB : Hid (Below w.heap.size w (((w.alloc (.cells #[.int .i64 h, .int .i64 cap, .slice A l.length c, .int .i64 n, .int .i64 dr, .slice B S.length d] 45)).alloc (.cells #[.int .i64 h', .int .i64 cap', .slice A' l'.length c', .int .i64 n', .int .i64 dr', .slice B' S'.length d'] 45)).alloc (.cells #[.int .i64 k, .int .u64 (i : Int), .int .i64 q, .int .u64 (p1.toNat : Int), .int .u64 (p2.toNat : Int)] 53))) := mkHid ((((Below.refl _ _).alloc (Nat.le_refl _) (.cells #[.int .i64 h, .int .i64 cap, .slice A l.length c, .int .i64 n, .int .i64 dr, .slice B S.length d] 45)).alloc (by simp) (.cells #[.int .i64 h', .int .i64 cap', .slice A' l'.length c', .int .i64 n', .int .i64 dr', .slice B' S'.length d'] 45)).alloc (by simp; omega) (.cells #[.int .i64 k, .int .u64 (i : Int), .int .i64 q, .int .u64 (p1.toNat : Int), .int .u64 (p2.toNat : Int)] 53))
  have HM := mkHid (hM.below ((((Below.refl _ _).alloc (Nat.le_refl _) (.cells #[.int .i64 h, .int .i64 cap, .slice A l.length c, .int .i64 n, .int .i64 dr, .slice B S.length d] 45)).alloc (by simp) (.cells #[.int .i64 h', .int .i64 cap', .slice A' l'.length c', .int .i64 n', .int .i64 dr', .slice B' S'.length d'] 45)).alloc (by simp; omega) (.cells #[.int .i64 k, .int .u64 (i : Int), .int .i64 q, .int .u64 (p1.toNat : Int), .int .u64 (p2.toNat : Int)] 53)))
  have HO := mkHid (hO.below ((((Below.refl _ _).alloc (Nat.le_refl _) (.cells #[.int .i64 h, .int .i64 cap, .slice A l.length c, .int .i64 n, .int .i64 dr, .slice B S.length d] 45)).alloc (by simp) (.cells #[.int .i64 h', .int .i64 cap', .slice A' l'.length c', .int .i64 n', .int .i64 dr', .slice B' S'.length d'] 45)).alloc (by simp; omega) (.cells #[.int .i64 k, .int .u64 (i : Int), .int .i64 q, .int .u64 (p1.toNat : Int), .int .u64 (p2.toNat : Int)] 53)))
  have ZM : Hid (Blk (((w.alloc (.cells #[.int .i64 h, .int .i64 cap, .slice A l.length c, .int .i64 n, .int .i64 dr, .slice B S.length d] 45)).alloc (.cells #[.int .i64 h', .int .i64 cap', .slice A' l'.length c', .int .i64 n', .int .i64 dr', .slice B' S'.length d'] 45)).alloc (.cells #[.int .i64 k, .int .u64 (i : Int), .int .i64 q, .int .u64 (p1.toNat : Int), .int .u64 (p2.toNat : Int)] 53)) w.heap.size 45 #[.int .i64 h, .int .i64 cap, .slice A l.length c, .int .i64 n, .int .i64 dr, .slice B S.length d]) := mkHid (((Blk.new _ _ _).alloc _).alloc _)
  have ZO : Hid (Blk (((w.alloc (.cells #[.int .i64 h, .int .i64 cap, .slice A l.length c, .int .i64 n, .int .i64 dr, .slice B S.length d] 45)).alloc (.cells #[.int .i64 h', .int .i64 cap', .slice A' l'.length c', .int .i64 n', .int .i64 dr', .slice B' S'.length d'] 45)).alloc (.cells #[.int .i64 k, .int .u64 (i : Int), .int .i64 q, .int .u64 (p1.toNat : Int), .int .u64 (p2.toNat : Int)] 53)) (w.heap.size + 1) 45 #[.int .i64 h', .int .i64 cap', .slice A' l'.length c', .int .i64 n', .int .i64 dr', .slice B' S'.length d']) := mkHid ((Blk.at _ _ _ (by simp)).alloc _)
  have ZP : Hid (Blk (((w.alloc (.cells #[.int .i64 h, .int .i64 cap, .slice A l.length c, .int .i64 n, .int .i64 dr, .slice B S.length d] 45)).alloc (.cells #[.int .i64 h', .int .i64 cap', .slice A' l'.length c', .int .i64 n', .int .i64 dr', .slice B' S'.length d'] 45)).alloc (.cells #[.int .i64 k, .int .u64 (i : Int), .int .i64 q, .int .u64 (p1.toNat : Int), .int .u64 (p2.toNat : Int)] 53)) (w.heap.size + 2) 53 #[.int .i64 k, .int .u64 (i : Int), .int .i64 q, .int .u64 (p1.toNat : Int), .int .u64 (p2.toNat : Int)]) := mkHid (Blk.at _ _ _ (by simp))
  clear hM hO
  have cZM := ZM.out.six
  have lZM := ZM.out.lt
  have cZO := ZO.out.six
  have lZO := ZO.out.lt
  have cZP := ZP.out.five
  have lZP := ZP.out.lt
  go_enter Try.func9, Try.ntmps9
  go_wp2_with fail
  refine (live22 _).mono ?_
  rintro e w1 ⟨rfl, hb1⟩
  replace ZM := mkHid (ZM.out.keep hb1)
  replace ZO := mkHid (ZO.out.keep hb1)
  replace ZP := mkHid (ZP.out.keep hb1)
  replace KB := mkHid (KB.out.step hb1)
  replace HM := mkHid (HM.out.below hb1)
  replace HO := mkHid (HO.out.below hb1)
  clear cZM lZM
  have cZM := ZM.out.six
  have lZM := ZM.out.lt
  clear cZO lZO
  have cZO := ZO.out.six
  have lZO := ZO.out.lt
  clear cZP lZP
  have cZP := ZP.out.five
  have lZP := ZP.out.lt
  clear hb1
  go_wp2_with fail
  refine (few_walk (m := ⟨h, cap, l, n, dr, S⟩) hf (Nat.le_trans HM.out.s1 HM.out.s2) _ _ _ _ _ HM.out.sents).mono ?_
  rintro e w2 ⟨rfl, hb2⟩
  replace ZM := mkHid (ZM.out.keep hb2)
  replace ZO := mkHid (ZO.out.keep hb2)
  replace ZP := mkHid (ZP.out.keep hb2)
  replace KB := mkHid (KB.out.step hb2)
  replace HM := mkHid (HM.out.below hb2)
  replace HO := mkHid (HO.out.below hb2)
  clear cZM lZM
  have cZM := ZM.out.six
  have lZM := ZM.out.lt
  clear cZO lZO
  have cZO := ZO.out.six
  have lZO := ZO.out.lt
  clear cZP lZP
  have cZP := ZP.out.five
  have lZP := ZP.out.lt
  clear hb2
  go_wp2_with fail
  refine (few_walk (m := ⟨h', cap', l', n', dr', S'⟩) hf2 (Nat.le_trans HO.out.s1 HO.out.s2) _ _ _ _ _ HO.out.sents).mono ?_
  rintro e w3 ⟨rfl, hb3⟩
  replace ZM := mkHid (ZM.out.keep hb3)
  replace ZO := mkHid (ZO.out.keep hb3)
  replace ZP := mkHid (ZP.out.keep hb3)
  replace KB := mkHid (KB.out.step hb3)
  replace HM := mkHid (HM.out.below hb3)
  replace HO := mkHid (HO.out.below hb3)
  clear cZM lZM
  have cZM := ZM.out.six
  have lZM := ZM.out.lt
  clear cZO lZO
  have cZO := ZO.out.six
  have lZO := ZO.out.lt
  clear cZP lZP
  have cZP := ZP.out.five
  have lZP := ZP.out.lt
  clear hb3
  go_wp2_with fail
  go_ret
  exact ⟨rfl, KB.out⟩

theorem rmsame_new {a b c d : Int} (w : World) : Calls Try.prog 36 #[.agg #[.int .i64 a, .int .i64 b, .slice none 0 0, .int .i64 c, .int .i64 d, .slice none 0 0], .agg #[.int .i64 a, .int .i64 b, .slice none 0 0, .int .i64 c, .int .i64 d, .slice none 0 0]] w fun e w' => e = .returned (.bool true) ∧ Below w.heap.size w w' :=
  rmsame (m := ⟨a, b, [], c, d, []⟩) (o := ⟨a, b, [], c, d, []⟩) (mkHid (sameM_self _)) (mkHid (by show (0 : Nat) < _; decide)) (mkHid ⟨by show (0 : Nat) < _; decide, fun s hs => by simp at hs⟩) none none none none 0 0 0 0 w (Reads.nil _) (Reads.nil _) (SentIn.nil _ _) (SentIn.nil _ _)

set_option linter.unusedSimpArgs false in
set_option maxRecDepth 100000 in
set_option maxHeartbeats 8000000 in
theorem mdoes_walk {h cap n dr h' cap' n' dr' k q x0 x1 x2 : Int} {l l' : List Nat} {S S' : List SentD} {i : Nat} {p1 p2 : BitVec 64} (hf : Hid (fewM ⟨h, cap, l, n, dr, S⟩ = true)) (hf2 : Hid (fewM ⟨h', cap', l', n', dr', S'⟩ = true)) {m' m0 : ModD} {a : AnsD} {r r0 y1 : Int} {y0 zs : Bool} (e1 : Hid (doM ⟨h, cap, l, n, dr, S⟩ ⟨k, i, q, (p1, p2)⟩ = (m', a, r))) (e2 : Hid (newM x0 x1 x2 = (m0, r0))) (e3 : Hid (mayM ⟨h, cap, l, n, dr, S⟩ i q = (y0, y1))) (e4 : Hid (sameM ⟨h, cap, l, n, dr, S⟩ ⟨h', cap', l', n', dr', S'⟩ = zs)) {ck : Int} (e5 : Hid ((if okM ⟨h, cap, l, n, dr, S⟩ then (0 : Int) else 1) = ck))  (A : Option Addr) (c : Nat) (B : Option Addr) (d : Nat) (A' : Option Addr) (c' : Nat) (B' : Option Addr) (d' : Nat) (w : World) (hM : RawM w A c B d ⟨h, cap, l, n, dr, S⟩) (hO : RawM w A' c' B' d' ⟨h', cap', l', n', dr', S'⟩) :
    Calls Try.prog 9 #[.agg #[.int .i64 h, .int .i64 cap, .slice A l.length c, .int .i64 n, .int .i64 dr, .slice B S.length d], .agg #[.int .i64 h', .int .i64 cap', .slice A' l'.length c', .int .i64 n', .int .i64 dr', .slice B' S'.length d'], .agg #[.int .i64 k, .int .u64 (i : Int), .int .i64 q, .int .u64 (p1.toNat : Int), .int .u64 (p2.toNat : Int)], .int .i64 x0, .int .i64 x1, .int .i64 x2] w fun e w' => e = .returned (.bool true) ∧ Below w.heap.size w w' := by
  have hs := fewM_sizes hf.out
  have hs2 := fewM_sizes hf2.out
  have HS := mkHid (show S.length ≤ 30 ∧ l.length ≤ 30 from ⟨hs.1, hs.2.1⟩)
  have SZ : Hid (l.length ≤ 1024 ∧ S.length ≤ 4096) := mkHid ⟨by have := hs.2.1; dsimp only at this; omega, by have := hs.1; dsimp only at this; omega⟩
  have SZS : Hid (∀ s ∈ S, s.out.length ≤ 1024) := mkHid (fun s q => by have := hs.2.2 s q; omega)
  have HL : Hid (l.length < 4611686018427387904) := mkHid (by have := hs.2.1; dsimp only at this; omega)
  have HSS : Hid (S.length < 4611686018427387904 ∧ ∀ s ∈ S, s.out.length < 4611686018427387904) := mkHid ⟨by have := hs.1; dsimp only at this; omega, fun s q => by have := hs.2.2 s q; omega⟩
  have MZ := mkHid (doM_sizes e1.out)
  have ML : Hid (m'.l.length < 4611686018427387904) := mkHid (by have := MZ.out.1; omega)
  have MS : Hid (m'.sent.length < 4611686018427387904 ∧ ∀ s ∈ m'.sent, s.out.length < 4611686018427387904) := mkHid ⟨by have := MZ.out.2.1; omega, fun s q => by have := MZ.out.2.2 s q; omega⟩
  clear hs hs2
  have hq := eq_answers
  have hqs := ansEq_self
  have KB : Hid (Below w.heap.size w (((w.alloc (.cells #[.int .i64 h, .int .i64 cap, .slice A l.length c, .int .i64 n, .int .i64 dr, .slice B S.length d] 45)).alloc (.cells #[.int .i64 h', .int .i64 cap', .slice A' l'.length c', .int .i64 n', .int .i64 dr', .slice B' S'.length d'] 45)).alloc (.cells #[.int .i64 k, .int .u64 (i : Int), .int .i64 q, .int .u64 (p1.toNat : Int), .int .u64 (p2.toNat : Int)] 53))) := mkHid ((((Below.refl _ _).alloc (Nat.le_refl _) (.cells #[.int .i64 h, .int .i64 cap, .slice A l.length c, .int .i64 n, .int .i64 dr, .slice B S.length d] 45)).alloc (by simp) (.cells #[.int .i64 h', .int .i64 cap', .slice A' l'.length c', .int .i64 n', .int .i64 dr', .slice B' S'.length d'] 45)).alloc (by simp; omega) (.cells #[.int .i64 k, .int .u64 (i : Int), .int .i64 q, .int .u64 (p1.toNat : Int), .int .u64 (p2.toNat : Int)] 53))
  have HM := mkHid (hM.below ((((Below.refl _ _).alloc (Nat.le_refl _) (.cells #[.int .i64 h, .int .i64 cap, .slice A l.length c, .int .i64 n, .int .i64 dr, .slice B S.length d] 45)).alloc (by simp) (.cells #[.int .i64 h', .int .i64 cap', .slice A' l'.length c', .int .i64 n', .int .i64 dr', .slice B' S'.length d'] 45)).alloc (by simp; omega) (.cells #[.int .i64 k, .int .u64 (i : Int), .int .i64 q, .int .u64 (p1.toNat : Int), .int .u64 (p2.toNat : Int)] 53)))
  have HO := mkHid (hO.below ((((Below.refl _ _).alloc (Nat.le_refl _) (.cells #[.int .i64 h, .int .i64 cap, .slice A l.length c, .int .i64 n, .int .i64 dr, .slice B S.length d] 45)).alloc (by simp) (.cells #[.int .i64 h', .int .i64 cap', .slice A' l'.length c', .int .i64 n', .int .i64 dr', .slice B' S'.length d'] 45)).alloc (by simp; omega) (.cells #[.int .i64 k, .int .u64 (i : Int), .int .i64 q, .int .u64 (p1.toNat : Int), .int .u64 (p2.toNat : Int)] 53)))
  have ZM : Hid (Blk (((w.alloc (.cells #[.int .i64 h, .int .i64 cap, .slice A l.length c, .int .i64 n, .int .i64 dr, .slice B S.length d] 45)).alloc (.cells #[.int .i64 h', .int .i64 cap', .slice A' l'.length c', .int .i64 n', .int .i64 dr', .slice B' S'.length d'] 45)).alloc (.cells #[.int .i64 k, .int .u64 (i : Int), .int .i64 q, .int .u64 (p1.toNat : Int), .int .u64 (p2.toNat : Int)] 53)) w.heap.size 45 #[.int .i64 h, .int .i64 cap, .slice A l.length c, .int .i64 n, .int .i64 dr, .slice B S.length d]) := mkHid (((Blk.new _ _ _).alloc _).alloc _)
  have ZO : Hid (Blk (((w.alloc (.cells #[.int .i64 h, .int .i64 cap, .slice A l.length c, .int .i64 n, .int .i64 dr, .slice B S.length d] 45)).alloc (.cells #[.int .i64 h', .int .i64 cap', .slice A' l'.length c', .int .i64 n', .int .i64 dr', .slice B' S'.length d'] 45)).alloc (.cells #[.int .i64 k, .int .u64 (i : Int), .int .i64 q, .int .u64 (p1.toNat : Int), .int .u64 (p2.toNat : Int)] 53)) (w.heap.size + 1) 45 #[.int .i64 h', .int .i64 cap', .slice A' l'.length c', .int .i64 n', .int .i64 dr', .slice B' S'.length d']) := mkHid ((Blk.at _ _ _ (by simp)).alloc _)
  have ZP : Hid (Blk (((w.alloc (.cells #[.int .i64 h, .int .i64 cap, .slice A l.length c, .int .i64 n, .int .i64 dr, .slice B S.length d] 45)).alloc (.cells #[.int .i64 h', .int .i64 cap', .slice A' l'.length c', .int .i64 n', .int .i64 dr', .slice B' S'.length d'] 45)).alloc (.cells #[.int .i64 k, .int .u64 (i : Int), .int .i64 q, .int .u64 (p1.toNat : Int), .int .u64 (p2.toNat : Int)] 53)) (w.heap.size + 2) 53 #[.int .i64 k, .int .u64 (i : Int), .int .i64 q, .int .u64 (p1.toNat : Int), .int .u64 (p2.toNat : Int)]) := mkHid (Blk.at _ _ _ (by simp))
  clear hM hO
  have cZM := ZM.out.six
  have lZM := ZM.out.lt
  have cZO := ZO.out.six
  have lZO := ZO.out.lt
  have cZP := ZP.out.five
  have lZP := ZP.out.lt
  go_enter Try.func9, Try.ntmps9
  go_wp2_with fail
  refine (live22 _).mono ?_
  rintro e w1 ⟨rfl, hb1⟩
  replace ZM := mkHid (ZM.out.keep hb1)
  replace ZO := mkHid (ZO.out.keep hb1)
  replace ZP := mkHid (ZP.out.keep hb1)
  replace KB := mkHid (KB.out.step hb1)
  replace HM := mkHid (HM.out.below hb1)
  replace HO := mkHid (HO.out.below hb1)
  clear cZM lZM
  have cZM := ZM.out.six
  have lZM := ZM.out.lt
  clear cZO lZO
  have cZO := ZO.out.six
  have lZO := ZO.out.lt
  clear cZP lZP
  have cZP := ZP.out.five
  have lZP := ZP.out.lt
  clear hb1
  go_wp2_with fail
  refine (few_walk (m := ⟨h, cap, l, n, dr, S⟩) hf (Nat.le_trans HM.out.s1 HM.out.s2) _ _ _ _ _ HM.out.sents).mono ?_
  rintro e w2 ⟨rfl, hb2⟩
  replace ZM := mkHid (ZM.out.keep hb2)
  replace ZO := mkHid (ZO.out.keep hb2)
  replace ZP := mkHid (ZP.out.keep hb2)
  replace KB := mkHid (KB.out.step hb2)
  replace HM := mkHid (HM.out.below hb2)
  replace HO := mkHid (HO.out.below hb2)
  clear cZM lZM
  have cZM := ZM.out.six
  have lZM := ZM.out.lt
  clear cZO lZO
  have cZO := ZO.out.six
  have lZO := ZO.out.lt
  clear cZP lZP
  have cZP := ZP.out.five
  have lZP := ZP.out.lt
  clear hb2
  go_wp2_with fail
  refine (few_walk (m := ⟨h', cap', l', n', dr', S'⟩) hf2 (Nat.le_trans HO.out.s1 HO.out.s2) _ _ _ _ _ HO.out.sents).mono ?_
  rintro e w3 ⟨rfl, hb3⟩
  replace ZM := mkHid (ZM.out.keep hb3)
  replace ZO := mkHid (ZO.out.keep hb3)
  replace ZP := mkHid (ZP.out.keep hb3)
  replace KB := mkHid (KB.out.step hb3)
  replace HM := mkHid (HM.out.below hb3)
  replace HO := mkHid (HO.out.below hb3)
  clear cZM lZM
  have cZM := ZM.out.six
  have lZM := ZM.out.lt
  clear cZO lZO
  have cZO := ZO.out.six
  have lZO := ZO.out.lt
  clear cZP lZP
  have cZP := ZP.out.five
  have lZP := ZP.out.lt
  clear hb3
  go_wp2_with fail
  refine (rmcopy SZ SZS _ _ _ _ _ (HM.out.mem HS.out)).mono ?_
  rintro e w4 ⟨AW, cW, BW, dW, XW, rfl, ho, hb4⟩
  replace ZM := mkHid (ZM.out.keep hb4)
  replace ZO := mkHid (ZO.out.keep hb4)
  replace ZP := mkHid (ZP.out.keep hb4)
  replace KB := mkHid (KB.out.step hb4)
  replace HM := mkHid (HM.out.below hb4)
  replace HO := mkHid (HO.out.below hb4)
  clear cZM lZM
  have cZM := ZM.out.six
  have lZM := ZM.out.lt
  clear cZO lZO
  have cZO := ZO.out.six
  have lZO := ZO.out.lt
  clear cZP lZP
  have cZP := ZP.out.five
  have lZP := ZP.out.lt
  have HW := mkHid ho
  clear ho hb4
  go_upto_region 5 with fail
  have E4 : Below w4.heap.size w4 (w4.alloc (.cells #[.int .i64 h, .int .i64 cap, .slice AW l.length cW, .int .i64 n, .int .i64 dr, .slice BW S.length dW] 45)) := ((Below.refl w4.heap.size w4).alloc (Nat.le_refl _) (.cells #[.int .i64 h, .int .i64 cap, .slice AW l.length cW, .int .i64 n, .int .i64 dr, .slice BW S.length dW] 45))
  obtain ⟨GW, hG4⟩ : ∃ G, G = w4.heap.size := ⟨_, rfl⟩
  have ZW : Hid (Blk (w4.alloc (.cells #[.int .i64 h, .int .i64 cap, .slice AW l.length cW, .int .i64 n, .int .i64 dr, .slice BW S.length dW] 45)) (w4.heap.size) 45 #[.int .i64 h, .int .i64 cap, .slice AW l.length cW, .int .i64 n, .int .i64 dr, .slice BW S.length dW]) := mkHid (Blk.new _ _ _)
  replace ZM := mkHid (ZM.out.keep E4)
  replace ZO := mkHid (ZO.out.keep E4)
  replace ZP := mkHid (ZP.out.keep E4)
  replace KB := mkHid (KB.out.step E4)
  replace HM := mkHid (HM.out.below E4)
  replace HO := mkHid (HO.out.below E4)
  replace HW := mkHid (HW.out.below E4)
  clear cZM lZM
  have cZM := ZM.out.six
  have lZM := ZM.out.lt
  clear cZO lZO
  have cZO := ZO.out.six
  have lZO := ZO.out.lt
  clear cZP lZP
  have cZP := ZP.out.five
  have lZP := ZP.out.lt
  have sz4 : w4.heap.size < (w4.alloc (.cells #[.int .i64 h, .int .i64 cap, .slice AW l.length cW, .int .i64 n, .int .i64 dr, .slice BW S.length dW] 45)).heap.size := by simp
  generalize (w4.alloc (.cells #[.int .i64 h, .int .i64 cap, .slice AW l.length cW, .int .i64 n, .int .i64 dr, .slice BW S.length dW] 45)) = u4 at *
  rw [← hG4] at ZW sz4
  rw [← hG4]
  clear hG4 E4
  have cZW := ZW.out.six
  have lZW := ZW.out.lt
  go_wp2_with fail
  refine (mdo e1 _ _ _ _ _ (HM.out.mem HS.out)).mono ?_
  rintro e w5 ⟨A1, c1, B1, d1, X1, rfl, ho, hb5⟩
  obtain ⟨wD, hwD⟩ : ∃ W, W = u4 := ⟨_, rfl⟩
  have KD : Hid (Below wD.heap.size wD u4) := mkHid (by rw [hwD]; exact Below.refl _ _)
  have HWD := mkHid (hwD ▸ HW.out)
  have HMD := mkHid (hwD ▸ HM.out)
  have ZMD := mkHid (hwD ▸ ZM.out)
  have ZWD := mkHid (hwD ▸ ZW.out)
  have KBD := mkHid (hwD ▸ KB.out)
  replace ZM := mkHid (ZM.out.keep hb5)
  replace ZO := mkHid (ZO.out.keep hb5)
  replace ZP := mkHid (ZP.out.keep hb5)
  replace KB := mkHid (KB.out.step hb5)
  replace HM := mkHid (HM.out.below hb5)
  replace HO := mkHid (HO.out.below hb5)
  replace HW := mkHid (HW.out.below hb5)
  replace ZW := mkHid (ZW.out.keep hb5)
  replace KD := mkHid (KD.out.step hb5)
  clear cZM lZM
  have cZM := ZM.out.six
  have lZM := ZM.out.lt
  clear cZO lZO
  have cZO := ZO.out.six
  have lZO := ZO.out.lt
  clear cZP lZP
  have cZP := ZP.out.five
  have lZP := ZP.out.lt
  clear cZW lZW
  have cZW := ZW.out.six
  have lZW := ZW.out.lt
  have HA1 := mkHid (hwD ▸ ho)
  have SA : wD.heap.size ≤ w5.heap.size := by rw [hwD]; exact hb5.size
  obtain ⟨hiA, hhi⟩ : ∃ hi, hi = w5.heap.size := ⟨_, rfl⟩
  have HV := mkHid (AInv.of_own HA1.out)
  rw [← hhi] at HV
  clear hwD ho hb5
  go_upto_region 6 with fail
  have E5 : Below w5.heap.size w5 ((w5.alloc (.cells #[.int .i64 m'.h, .int .i64 m'.cap, .slice A1 m'.l.length c1, .int .i64 m'.n, .int .i64 m'.draws, .slice B1 m'.sent.length d1] 45)).alloc (.cells #[.int .i64 a.e, .int .i64 a.epoch, .int .i64 a.draw, .int .u64 (a.p.1.toNat : Int), .int .u64 (a.p.2.toNat : Int)] 55)) := (((Below.refl w5.heap.size w5).alloc (Nat.le_refl _) (.cells #[.int .i64 m'.h, .int .i64 m'.cap, .slice A1 m'.l.length c1, .int .i64 m'.n, .int .i64 m'.draws, .slice B1 m'.sent.length d1] 45)).alloc (by simp) (.cells #[.int .i64 a.e, .int .i64 a.epoch, .int .i64 a.draw, .int .u64 (a.p.1.toNat : Int), .int .u64 (a.p.2.toNat : Int)] 55))
  obtain ⟨Ga, hG5⟩ : ∃ G, G = w5.heap.size := ⟨_, rfl⟩
  obtain rfl : hiA = Ga := hhi.trans hG5.symm
  clear hhi
  have Za : Hid (Blk ((w5.alloc (.cells #[.int .i64 m'.h, .int .i64 m'.cap, .slice A1 m'.l.length c1, .int .i64 m'.n, .int .i64 m'.draws, .slice B1 m'.sent.length d1] 45)).alloc (.cells #[.int .i64 a.e, .int .i64 a.epoch, .int .i64 a.draw, .int .u64 (a.p.1.toNat : Int), .int .u64 (a.p.2.toNat : Int)] 55)) (w5.heap.size) 45 #[.int .i64 m'.h, .int .i64 m'.cap, .slice A1 m'.l.length c1, .int .i64 m'.n, .int .i64 m'.draws, .slice B1 m'.sent.length d1]) := mkHid ((Blk.new _ _ _).alloc _)
  have Zr : Hid (Blk ((w5.alloc (.cells #[.int .i64 m'.h, .int .i64 m'.cap, .slice A1 m'.l.length c1, .int .i64 m'.n, .int .i64 m'.draws, .slice B1 m'.sent.length d1] 45)).alloc (.cells #[.int .i64 a.e, .int .i64 a.epoch, .int .i64 a.draw, .int .u64 (a.p.1.toNat : Int), .int .u64 (a.p.2.toNat : Int)] 55)) (w5.heap.size + 1) 55 #[.int .i64 a.e, .int .i64 a.epoch, .int .i64 a.draw, .int .u64 (a.p.1.toNat : Int), .int .u64 (a.p.2.toNat : Int)]) := mkHid (Blk.at _ _ _ (by simp))
  replace ZM := mkHid (ZM.out.keep E5)
  replace ZO := mkHid (ZO.out.keep E5)
  replace ZP := mkHid (ZP.out.keep E5)
  replace KB := mkHid (KB.out.step E5)
  replace HM := mkHid (HM.out.below E5)
  replace HO := mkHid (HO.out.below E5)
  replace HW := mkHid (HW.out.below E5)
  replace ZW := mkHid (ZW.out.keep E5)
  replace KD := mkHid (KD.out.step E5)
  replace HA1 := mkHid (HA1.out.below E5)
  replace HV := mkHid (HV.out.below E5)
  clear cZM lZM
  have cZM := ZM.out.six
  have lZM := ZM.out.lt
  clear cZO lZO
  have cZO := ZO.out.six
  have lZO := ZO.out.lt
  clear cZP lZP
  have cZP := ZP.out.five
  have lZP := ZP.out.lt
  clear cZW lZW
  have cZW := ZW.out.six
  have lZW := ZW.out.lt
  have sz5 : w5.heap.size < ((w5.alloc (.cells #[.int .i64 m'.h, .int .i64 m'.cap, .slice A1 m'.l.length c1, .int .i64 m'.n, .int .i64 m'.draws, .slice B1 m'.sent.length d1] 45)).alloc (.cells #[.int .i64 a.e, .int .i64 a.epoch, .int .i64 a.draw, .int .u64 (a.p.1.toNat : Int), .int .u64 (a.p.2.toNat : Int)] 55)).heap.size := by simp; omega
  generalize ((w5.alloc (.cells #[.int .i64 m'.h, .int .i64 m'.cap, .slice A1 m'.l.length c1, .int .i64 m'.n, .int .i64 m'.draws, .slice B1 m'.sent.length d1] 45)).alloc (.cells #[.int .i64 a.e, .int .i64 a.epoch, .int .i64 a.draw, .int .u64 (a.p.1.toNat : Int), .int .u64 (a.p.2.toNat : Int)] 55)) = u5 at *
  rw [← hG5] at Za Zr sz5
  rw [← hG5]
  clear hG5 E5
  have cZa := Za.out.six
  have lZa := Za.out.lt
  have cZr := Zr.out.five
  have lZr := Zr.out.lt
  go_wp2_with fail
  refine (rmdo e1 _ _ _ _ _ (HM.out.mem HS.out)).mono ?_
  rintro e w6 ⟨A2, c2, B2, d2, X2, rfl, ho, hb6⟩
  replace ZM := mkHid (ZM.out.keep hb6)
  replace ZO := mkHid (ZO.out.keep hb6)
  replace ZP := mkHid (ZP.out.keep hb6)
  replace KB := mkHid (KB.out.step hb6)
  replace HM := mkHid (HM.out.below hb6)
  replace HO := mkHid (HO.out.below hb6)
  replace HW := mkHid (HW.out.below hb6)
  replace ZW := mkHid (ZW.out.keep hb6)
  replace KD := mkHid (KD.out.step hb6)
  replace HA1 := mkHid (HA1.out.below hb6)
  replace HV := mkHid (HV.out.below hb6)
  replace Za := mkHid (Za.out.keep hb6)
  replace Zr := mkHid (Zr.out.keep hb6)
  clear cZM lZM
  have cZM := ZM.out.six
  have lZM := ZM.out.lt
  clear cZO lZO
  have cZO := ZO.out.six
  have lZO := ZO.out.lt
  clear cZP lZP
  have cZP := ZP.out.five
  have lZP := ZP.out.lt
  clear cZW lZW
  have cZW := ZW.out.six
  have lZW := ZW.out.lt
  clear cZa lZa
  have cZa := Za.out.six
  have lZa := Za.out.lt
  clear cZr lZr
  have cZr := Zr.out.five
  have lZr := Zr.out.lt
  have HA2 := mkHid ho
  clear ho hb6
  go_upto_region 7 with fail
  have E6 : Below w6.heap.size w6 ((w6.alloc (.cells #[.int .i64 m'.h, .int .i64 m'.cap, .slice A2 m'.l.length c2, .int .i64 m'.n, .int .i64 m'.draws, .slice B2 m'.sent.length d2] 45)).alloc (.cells #[.int .i64 a.e, .int .i64 a.epoch, .int .i64 a.draw, .int .u64 (a.p.1.toNat : Int), .int .u64 (a.p.2.toNat : Int)] 55)) := (((Below.refl w6.heap.size w6).alloc (Nat.le_refl _) (.cells #[.int .i64 m'.h, .int .i64 m'.cap, .slice A2 m'.l.length c2, .int .i64 m'.n, .int .i64 m'.draws, .slice B2 m'.sent.length d2] 45)).alloc (by simp) (.cells #[.int .i64 a.e, .int .i64 a.epoch, .int .i64 a.draw, .int .u64 (a.p.1.toNat : Int), .int .u64 (a.p.2.toNat : Int)] 55))
  obtain ⟨Gb, hG6⟩ : ∃ G, G = w6.heap.size := ⟨_, rfl⟩
  have Zb : Hid (Blk ((w6.alloc (.cells #[.int .i64 m'.h, .int .i64 m'.cap, .slice A2 m'.l.length c2, .int .i64 m'.n, .int .i64 m'.draws, .slice B2 m'.sent.length d2] 45)).alloc (.cells #[.int .i64 a.e, .int .i64 a.epoch, .int .i64 a.draw, .int .u64 (a.p.1.toNat : Int), .int .u64 (a.p.2.toNat : Int)] 55)) (w6.heap.size) 45 #[.int .i64 m'.h, .int .i64 m'.cap, .slice A2 m'.l.length c2, .int .i64 m'.n, .int .i64 m'.draws, .slice B2 m'.sent.length d2]) := mkHid ((Blk.new _ _ _).alloc _)
  have Zs : Hid (Blk ((w6.alloc (.cells #[.int .i64 m'.h, .int .i64 m'.cap, .slice A2 m'.l.length c2, .int .i64 m'.n, .int .i64 m'.draws, .slice B2 m'.sent.length d2] 45)).alloc (.cells #[.int .i64 a.e, .int .i64 a.epoch, .int .i64 a.draw, .int .u64 (a.p.1.toNat : Int), .int .u64 (a.p.2.toNat : Int)] 55)) (w6.heap.size + 1) 55 #[.int .i64 a.e, .int .i64 a.epoch, .int .i64 a.draw, .int .u64 (a.p.1.toNat : Int), .int .u64 (a.p.2.toNat : Int)]) := mkHid (Blk.at _ _ _ (by simp))
  replace ZM := mkHid (ZM.out.keep E6)
  replace ZO := mkHid (ZO.out.keep E6)
  replace ZP := mkHid (ZP.out.keep E6)
  replace KB := mkHid (KB.out.step E6)
  replace HM := mkHid (HM.out.below E6)
  replace HO := mkHid (HO.out.below E6)
  replace HW := mkHid (HW.out.below E6)
  replace ZW := mkHid (ZW.out.keep E6)
  replace KD := mkHid (KD.out.step E6)
  replace HA1 := mkHid (HA1.out.below E6)
  replace HV := mkHid (HV.out.below E6)
  replace Za := mkHid (Za.out.keep E6)
  replace Zr := mkHid (Zr.out.keep E6)
  replace HA2 := mkHid (HA2.out.below E6)
  clear cZM lZM
  have cZM := ZM.out.six
  have lZM := ZM.out.lt
  clear cZO lZO
  have cZO := ZO.out.six
  have lZO := ZO.out.lt
  clear cZP lZP
  have cZP := ZP.out.five
  have lZP := ZP.out.lt
  clear cZW lZW
  have cZW := ZW.out.six
  have lZW := ZW.out.lt
  clear cZa lZa
  have cZa := Za.out.six
  have lZa := Za.out.lt
  clear cZr lZr
  have cZr := Zr.out.five
  have lZr := Zr.out.lt
  have sz6 : w6.heap.size < ((w6.alloc (.cells #[.int .i64 m'.h, .int .i64 m'.cap, .slice A2 m'.l.length c2, .int .i64 m'.n, .int .i64 m'.draws, .slice B2 m'.sent.length d2] 45)).alloc (.cells #[.int .i64 a.e, .int .i64 a.epoch, .int .i64 a.draw, .int .u64 (a.p.1.toNat : Int), .int .u64 (a.p.2.toNat : Int)] 55)).heap.size := by simp; omega
  generalize ((w6.alloc (.cells #[.int .i64 m'.h, .int .i64 m'.cap, .slice A2 m'.l.length c2, .int .i64 m'.n, .int .i64 m'.draws, .slice B2 m'.sent.length d2] 45)).alloc (.cells #[.int .i64 a.e, .int .i64 a.epoch, .int .i64 a.draw, .int .u64 (a.p.1.toNat : Int), .int .u64 (a.p.2.toNat : Int)] 55)) = u6 at *
  rw [← hG6] at Zb Zs sz6
  rw [← hG6]
  clear hG6 E6
  have cZb := Zb.out.six
  have lZb := Zb.out.lt
  have cZs := Zs.out.five
  have lZs := Zs.out.lt
  go_wp2_with fail
  refine (mnew e2 _).mono ?_
  rintro e w7 ⟨rfl, hb7⟩
  replace ZM := mkHid (ZM.out.keep hb7)
  replace ZO := mkHid (ZO.out.keep hb7)
  replace ZP := mkHid (ZP.out.keep hb7)
  replace KB := mkHid (KB.out.step hb7)
  replace HM := mkHid (HM.out.below hb7)
  replace HO := mkHid (HO.out.below hb7)
  replace HW := mkHid (HW.out.below hb7)
  replace ZW := mkHid (ZW.out.keep hb7)
  replace KD := mkHid (KD.out.step hb7)
  replace HA1 := mkHid (HA1.out.below hb7)
  replace HV := mkHid (HV.out.below hb7)
  replace Za := mkHid (Za.out.keep hb7)
  replace Zr := mkHid (Zr.out.keep hb7)
  replace HA2 := mkHid (HA2.out.below hb7)
  replace Zb := mkHid (Zb.out.keep hb7)
  replace Zs := mkHid (Zs.out.keep hb7)
  clear cZM lZM
  have cZM := ZM.out.six
  have lZM := ZM.out.lt
  clear cZO lZO
  have cZO := ZO.out.six
  have lZO := ZO.out.lt
  clear cZP lZP
  have cZP := ZP.out.five
  have lZP := ZP.out.lt
  clear cZW lZW
  have cZW := ZW.out.six
  have lZW := ZW.out.lt
  clear cZa lZa
  have cZa := Za.out.six
  have lZa := Za.out.lt
  clear cZr lZr
  have cZr := Zr.out.five
  have lZr := Zr.out.lt
  clear cZb lZb
  have cZb := Zb.out.six
  have lZb := Zb.out.lt
  clear cZs lZs
  have cZs := Zs.out.five
  have lZs := Zs.out.lt
  clear hb7
  go_upto_region 8 with fail
  have E7 : Below w7.heap.size w7 (w7.alloc (.cells #[.int .i64 m0.h, .int .i64 m0.cap, .slice none 0 0, .int .i64 m0.n, .int .i64 m0.draws, .slice none 0 0] 45)) := ((Below.refl w7.heap.size w7).alloc (Nat.le_refl _) (.cells #[.int .i64 m0.h, .int .i64 m0.cap, .slice none 0 0, .int .i64 m0.n, .int .i64 m0.draws, .slice none 0 0] 45))
  obtain ⟨Gp, hG7⟩ : ∃ G, G = w7.heap.size := ⟨_, rfl⟩
  have Zp : Hid (Blk (w7.alloc (.cells #[.int .i64 m0.h, .int .i64 m0.cap, .slice none 0 0, .int .i64 m0.n, .int .i64 m0.draws, .slice none 0 0] 45)) (w7.heap.size) 45 #[.int .i64 m0.h, .int .i64 m0.cap, .slice none 0 0, .int .i64 m0.n, .int .i64 m0.draws, .slice none 0 0]) := mkHid (Blk.new _ _ _)
  replace ZM := mkHid (ZM.out.keep E7)
  replace ZO := mkHid (ZO.out.keep E7)
  replace ZP := mkHid (ZP.out.keep E7)
  replace KB := mkHid (KB.out.step E7)
  replace HM := mkHid (HM.out.below E7)
  replace HO := mkHid (HO.out.below E7)
  replace HW := mkHid (HW.out.below E7)
  replace ZW := mkHid (ZW.out.keep E7)
  replace KD := mkHid (KD.out.step E7)
  replace HA1 := mkHid (HA1.out.below E7)
  replace HV := mkHid (HV.out.below E7)
  replace Za := mkHid (Za.out.keep E7)
  replace Zr := mkHid (Zr.out.keep E7)
  replace HA2 := mkHid (HA2.out.below E7)
  replace Zb := mkHid (Zb.out.keep E7)
  replace Zs := mkHid (Zs.out.keep E7)
  clear cZM lZM
  have cZM := ZM.out.six
  have lZM := ZM.out.lt
  clear cZO lZO
  have cZO := ZO.out.six
  have lZO := ZO.out.lt
  clear cZP lZP
  have cZP := ZP.out.five
  have lZP := ZP.out.lt
  clear cZW lZW
  have cZW := ZW.out.six
  have lZW := ZW.out.lt
  clear cZa lZa
  have cZa := Za.out.six
  have lZa := Za.out.lt
  clear cZr lZr
  have cZr := Zr.out.five
  have lZr := Zr.out.lt
  clear cZb lZb
  have cZb := Zb.out.six
  have lZb := Zb.out.lt
  clear cZs lZs
  have cZs := Zs.out.five
  have lZs := Zs.out.lt
  have sz7 : w7.heap.size < (w7.alloc (.cells #[.int .i64 m0.h, .int .i64 m0.cap, .slice none 0 0, .int .i64 m0.n, .int .i64 m0.draws, .slice none 0 0] 45)).heap.size := by simp
  generalize (w7.alloc (.cells #[.int .i64 m0.h, .int .i64 m0.cap, .slice none 0 0, .int .i64 m0.n, .int .i64 m0.draws, .slice none 0 0] 45)) = u7 at *
  rw [← hG7] at Zp sz7
  rw [← hG7]
  clear hG7 E7
  have cZp := Zp.out.six
  have lZp := Zp.out.lt
  go_wp2_with fail
  refine (rmnew e2 _).mono ?_
  rintro e w8 ⟨rfl, hb8⟩
  replace ZM := mkHid (ZM.out.keep hb8)
  replace ZO := mkHid (ZO.out.keep hb8)
  replace ZP := mkHid (ZP.out.keep hb8)
  replace KB := mkHid (KB.out.step hb8)
  replace HM := mkHid (HM.out.below hb8)
  replace HO := mkHid (HO.out.below hb8)
  replace HW := mkHid (HW.out.below hb8)
  replace ZW := mkHid (ZW.out.keep hb8)
  replace KD := mkHid (KD.out.step hb8)
  replace HA1 := mkHid (HA1.out.below hb8)
  replace HV := mkHid (HV.out.below hb8)
  replace Za := mkHid (Za.out.keep hb8)
  replace Zr := mkHid (Zr.out.keep hb8)
  replace HA2 := mkHid (HA2.out.below hb8)
  replace Zb := mkHid (Zb.out.keep hb8)
  replace Zs := mkHid (Zs.out.keep hb8)
  replace Zp := mkHid (Zp.out.keep hb8)
  clear cZM lZM
  have cZM := ZM.out.six
  have lZM := ZM.out.lt
  clear cZO lZO
  have cZO := ZO.out.six
  have lZO := ZO.out.lt
  clear cZP lZP
  have cZP := ZP.out.five
  have lZP := ZP.out.lt
  clear cZW lZW
  have cZW := ZW.out.six
  have lZW := ZW.out.lt
  clear cZa lZa
  have cZa := Za.out.six
  have lZa := Za.out.lt
  clear cZr lZr
  have cZr := Zr.out.five
  have lZr := Zr.out.lt
  clear cZb lZb
  have cZb := Zb.out.six
  have lZb := Zb.out.lt
  clear cZs lZs
  have cZs := Zs.out.five
  have lZs := Zs.out.lt
  clear cZp lZp
  have cZp := Zp.out.six
  have lZp := Zp.out.lt
  clear hb8
  go_upto_region 9 with fail
  have E8 : Below w8.heap.size w8 (w8.alloc (.cells #[.int .i64 m0.h, .int .i64 m0.cap, .slice none 0 0, .int .i64 m0.n, .int .i64 m0.draws, .slice none 0 0] 45)) := ((Below.refl w8.heap.size w8).alloc (Nat.le_refl _) (.cells #[.int .i64 m0.h, .int .i64 m0.cap, .slice none 0 0, .int .i64 m0.n, .int .i64 m0.draws, .slice none 0 0] 45))
  obtain ⟨Gq, hG8⟩ : ∃ G, G = w8.heap.size := ⟨_, rfl⟩
  have Zq : Hid (Blk (w8.alloc (.cells #[.int .i64 m0.h, .int .i64 m0.cap, .slice none 0 0, .int .i64 m0.n, .int .i64 m0.draws, .slice none 0 0] 45)) (w8.heap.size) 45 #[.int .i64 m0.h, .int .i64 m0.cap, .slice none 0 0, .int .i64 m0.n, .int .i64 m0.draws, .slice none 0 0]) := mkHid (Blk.new _ _ _)
  replace ZM := mkHid (ZM.out.keep E8)
  replace ZO := mkHid (ZO.out.keep E8)
  replace ZP := mkHid (ZP.out.keep E8)
  replace KB := mkHid (KB.out.step E8)
  replace HM := mkHid (HM.out.below E8)
  replace HO := mkHid (HO.out.below E8)
  replace HW := mkHid (HW.out.below E8)
  replace ZW := mkHid (ZW.out.keep E8)
  replace KD := mkHid (KD.out.step E8)
  replace HA1 := mkHid (HA1.out.below E8)
  replace HV := mkHid (HV.out.below E8)
  replace Za := mkHid (Za.out.keep E8)
  replace Zr := mkHid (Zr.out.keep E8)
  replace HA2 := mkHid (HA2.out.below E8)
  replace Zb := mkHid (Zb.out.keep E8)
  replace Zs := mkHid (Zs.out.keep E8)
  replace Zp := mkHid (Zp.out.keep E8)
  clear cZM lZM
  have cZM := ZM.out.six
  have lZM := ZM.out.lt
  clear cZO lZO
  have cZO := ZO.out.six
  have lZO := ZO.out.lt
  clear cZP lZP
  have cZP := ZP.out.five
  have lZP := ZP.out.lt
  clear cZW lZW
  have cZW := ZW.out.six
  have lZW := ZW.out.lt
  clear cZa lZa
  have cZa := Za.out.six
  have lZa := Za.out.lt
  clear cZr lZr
  have cZr := Zr.out.five
  have lZr := Zr.out.lt
  clear cZb lZb
  have cZb := Zb.out.six
  have lZb := Zb.out.lt
  clear cZs lZs
  have cZs := Zs.out.five
  have lZs := Zs.out.lt
  clear cZp lZp
  have cZp := Zp.out.six
  have lZp := Zp.out.lt
  have sz8 : w8.heap.size < (w8.alloc (.cells #[.int .i64 m0.h, .int .i64 m0.cap, .slice none 0 0, .int .i64 m0.n, .int .i64 m0.draws, .slice none 0 0] 45)).heap.size := by simp
  generalize (w8.alloc (.cells #[.int .i64 m0.h, .int .i64 m0.cap, .slice none 0 0, .int .i64 m0.n, .int .i64 m0.draws, .slice none 0 0] 45)) = u8 at *
  rw [← hG8] at Zq sz8
  rw [← hG8]
  clear hG8 E8
  have cZq := Zq.out.six
  have lZq := Zq.out.lt
  go_wp2_with fail
  refine (mmay (m := ⟨h, cap, l, n, dr, S⟩) e3 _ _ _ _ _ (HM.out.mem HS.out)).mono ?_
  rintro e w9 ⟨rfl, hb9⟩
  replace ZM := mkHid (ZM.out.keep hb9)
  replace ZO := mkHid (ZO.out.keep hb9)
  replace ZP := mkHid (ZP.out.keep hb9)
  replace KB := mkHid (KB.out.step hb9)
  replace HM := mkHid (HM.out.below hb9)
  replace HO := mkHid (HO.out.below hb9)
  replace HW := mkHid (HW.out.below hb9)
  replace ZW := mkHid (ZW.out.keep hb9)
  replace KD := mkHid (KD.out.step hb9)
  replace HA1 := mkHid (HA1.out.below hb9)
  replace HV := mkHid (HV.out.below hb9)
  replace Za := mkHid (Za.out.keep hb9)
  replace Zr := mkHid (Zr.out.keep hb9)
  replace HA2 := mkHid (HA2.out.below hb9)
  replace Zb := mkHid (Zb.out.keep hb9)
  replace Zs := mkHid (Zs.out.keep hb9)
  replace Zp := mkHid (Zp.out.keep hb9)
  replace Zq := mkHid (Zq.out.keep hb9)
  clear cZM lZM
  have cZM := ZM.out.six
  have lZM := ZM.out.lt
  clear cZO lZO
  have cZO := ZO.out.six
  have lZO := ZO.out.lt
  clear cZP lZP
  have cZP := ZP.out.five
  have lZP := ZP.out.lt
  clear cZW lZW
  have cZW := ZW.out.six
  have lZW := ZW.out.lt
  clear cZa lZa
  have cZa := Za.out.six
  have lZa := Za.out.lt
  clear cZr lZr
  have cZr := Zr.out.five
  have lZr := Zr.out.lt
  clear cZb lZb
  have cZb := Zb.out.six
  have lZb := Zb.out.lt
  clear cZs lZs
  have cZs := Zs.out.five
  have lZs := Zs.out.lt
  clear cZp lZp
  have cZp := Zp.out.six
  have lZp := Zp.out.lt
  clear cZq lZq
  have cZq := Zq.out.six
  have lZq := Zq.out.lt
  clear hb9
  go_wp2_with fail
  refine (rmmay (m := ⟨h, cap, l, n, dr, S⟩) e3 _ _ _ _ _ (HM.out.mem HS.out)).mono ?_
  rintro e w10 ⟨rfl, hb10⟩
  replace ZM := mkHid (ZM.out.keep hb10)
  replace ZO := mkHid (ZO.out.keep hb10)
  replace ZP := mkHid (ZP.out.keep hb10)
  replace KB := mkHid (KB.out.step hb10)
  replace HM := mkHid (HM.out.below hb10)
  replace HO := mkHid (HO.out.below hb10)
  replace HW := mkHid (HW.out.below hb10)
  replace ZW := mkHid (ZW.out.keep hb10)
  replace KD := mkHid (KD.out.step hb10)
  replace HA1 := mkHid (HA1.out.below hb10)
  replace HV := mkHid (HV.out.below hb10)
  replace Za := mkHid (Za.out.keep hb10)
  replace Zr := mkHid (Zr.out.keep hb10)
  replace HA2 := mkHid (HA2.out.below hb10)
  replace Zb := mkHid (Zb.out.keep hb10)
  replace Zs := mkHid (Zs.out.keep hb10)
  replace Zp := mkHid (Zp.out.keep hb10)
  replace Zq := mkHid (Zq.out.keep hb10)
  clear cZM lZM
  have cZM := ZM.out.six
  have lZM := ZM.out.lt
  clear cZO lZO
  have cZO := ZO.out.six
  have lZO := ZO.out.lt
  clear cZP lZP
  have cZP := ZP.out.five
  have lZP := ZP.out.lt
  clear cZW lZW
  have cZW := ZW.out.six
  have lZW := ZW.out.lt
  clear cZa lZa
  have cZa := Za.out.six
  have lZa := Za.out.lt
  clear cZr lZr
  have cZr := Zr.out.five
  have lZr := Zr.out.lt
  clear cZb lZb
  have cZb := Zb.out.six
  have lZb := Zb.out.lt
  clear cZs lZs
  have cZs := Zs.out.five
  have lZs := Zs.out.lt
  clear cZp lZp
  have cZp := Zp.out.six
  have lZp := Zp.out.lt
  clear cZq lZq
  have cZq := Zq.out.six
  have lZq := Zq.out.lt
  clear hb10
  go_upto_region 11 with fail
  clear cZM lZM
  clear cZO lZO
  clear cZP lZP
  clear cZW lZW
  clear cZa lZa
  clear cZr lZr
  clear cZb lZb
  clear cZs lZs
  clear cZp lZp
  clear cZq lZq
  clear ZP ZW HW
  replace Za : Hid (Blk w10.drew _ _ _) := mkHid Za.out.drew
  replace Zr : Hid (Blk w10.drew _ _ _) := mkHid Zr.out.drew
  replace Zb : Hid (Blk w10.drew _ _ _) := mkHid Zb.out.drew
  replace Zs : Hid (Blk w10.drew _ _ _) := mkHid Zs.out.drew
  replace Zp : Hid (Blk w10.drew _ _ _) := mkHid Zp.out.drew
  replace Zq : Hid (Blk w10.drew _ _ _) := mkHid Zq.out.drew
  replace ZM : Hid (Blk w10.drew _ _ _) := mkHid ZM.out.drew
  replace ZO : Hid (Blk w10.drew _ _ _) := mkHid ZO.out.drew
  replace KB := mkHid KB.out.drew
  replace KD := mkHid KD.out.drew
  replace HA1 := mkHid (HA1.out.below (Below.drew (Below.refl _ w10)))
  replace HA2 := mkHid (HA2.out.below (Below.drew (Below.refl _ w10)))
  replace HM := mkHid (HM.out.below (Below.drew (Below.refl _ w10)))
  replace HO := mkHid (HO.out.below (Below.drew (Below.refl _ w10)))
  replace HV := mkHid (HV.out.below (Below.drew (Below.refl _ w10)))
  replace KB : Hid (Below w.heap.size w w10.drew) := KB
  replace KD : Hid (Below wD.heap.size wD w10.drew) := KD
  refine wp_region_late (late := fun _ => false) (S := fun w' => Hid (Blk w' hiA 45 #[.int .i64 m'.h, .int .i64 m'.cap, .slice A1 m'.l.length c1, .int .i64 m'.n, .int .i64 m'.draws, .slice B1 m'.sent.length d1]) ∧ Hid (Blk w' (hiA + 1) 55 #[.int .i64 a.e, .int .i64 a.epoch, .int .i64 a.draw, .int .u64 (a.p.1.toNat : Int), .int .u64 (a.p.2.toNat : Int)]) ∧ Hid (Blk w' Gb 45 #[.int .i64 m'.h, .int .i64 m'.cap, .slice A2 m'.l.length c2, .int .i64 m'.n, .int .i64 m'.draws, .slice B2 m'.sent.length d2]) ∧ Hid (Blk w' (Gb + 1) 55 #[.int .i64 a.e, .int .i64 a.epoch, .int .i64 a.draw, .int .u64 (a.p.1.toNat : Int), .int .u64 (a.p.2.toNat : Int)]) ∧ Hid (Blk w' Gp 45 #[.int .i64 m0.h, .int .i64 m0.cap, .slice none 0 0, .int .i64 m0.n, .int .i64 m0.draws, .slice none 0 0]) ∧ Hid (Blk w' Gq 45 #[.int .i64 m0.h, .int .i64 m0.cap, .slice none 0 0, .int .i64 m0.n, .int .i64 m0.draws, .slice none 0 0]) ∧ Hid (Blk w' w.heap.size 45 #[.int .i64 h, .int .i64 cap, .slice A l.length c, .int .i64 n, .int .i64 dr, .slice B S.length d]) ∧ Hid (Blk w' (w.heap.size + 1) 45 #[.int .i64 h', .int .i64 cap', .slice A' l'.length c', .int .i64 n', .int .i64 dr', .slice B' S'.length d'])) (by kernel_rfl) ?_ (fun hHeld => ?_)
  · ((try dsimp only); (try go_split_ands); refine ⟨?_, ?_, ?_, ?_, ?_, ?_, ?_, ?_⟩ <;> with_reducible assumption)
  generalize w10.drew = u0 at *
  refine Any.take (i := 0) (v := ?_) rfl (by kernel_rfl) (by kernel_rfl) (by kernel_rfl) (by kernel_rfl) (fun _ _ _ h => h) (Or.inl ⟨by rfl, ?_⟩) hHeld ?_
  rotate_left
  · intro w hSw
    (try dsimp only at hSw)
    have q := hSw.1.out.six
    clear hSw
    go_simp
    all_goals with_reducible rfl
  try simp only [List.getElem_toArray, List.getElem_cons_succ, List.getElem_cons_zero, Act.put, List.setIfInBounds_toArray, List.set_cons_zero, List.set_cons_succ]
  refine Any.take (i := 1) (v := ?_) rfl (by kernel_rfl) (by kernel_rfl) (by kernel_rfl) (by kernel_rfl) (fun _ _ _ h => h) (Or.inl ⟨by rfl, ?_⟩) hHeld ?_
  rotate_left
  · intro w hSw
    (try dsimp only at hSw)
    have q := hSw.2.2.1.out.six
    clear hSw
    go_simp
    all_goals with_reducible rfl
  try simp only [List.getElem_toArray, List.getElem_cons_succ, List.getElem_cons_zero, Act.put, List.setIfInBounds_toArray, List.set_cons_zero, List.set_cons_succ]
  refine Any.ready (rs := [2]) (by kernel_rfl) (by simp) ?_
  refine AllAny.cons rfl rfl (fun K hK => ?_) AllAny.nil
  go_simp
  go_at_call 36
  refine (rmsame (m := m') (o := m') (mkHid (sameM_self m')) ML MS _ _ _ _ _ _ _ _ _ HA1.out.reads HA2.out.reads (HA1.out.mem (by have := MZ.out; omega)).sents (HA2.out.mem (by have := MZ.out; omega)).sents).mono ?_
  (try go_split_ands)
  rintro e wa ⟨rfl, hba⟩
  go_wp2_with fail
  replace Za := mkHid (Za.out.keep hba)
  replace Zr := mkHid (Zr.out.keep hba)
  replace Zb := mkHid (Zb.out.keep hba)
  replace Zs := mkHid (Zs.out.keep hba)
  replace Zp := mkHid (Zp.out.keep hba)
  replace Zq := mkHid (Zq.out.keep hba)
  replace ZM := mkHid (ZM.out.keep hba)
  replace ZO := mkHid (ZO.out.keep hba)
  replace KB := mkHid (KB.out.step hba)
  replace KD := mkHid (KD.out.step hba)
  replace HA1 := mkHid (HA1.out.below hba)
  replace HA2 := mkHid (HA2.out.below hba)
  replace HM := mkHid (HM.out.below hba)
  replace HO := mkHid (HO.out.below hba)
  replace HV := mkHid (HV.out.below hba)
  clear hba
  refine hK.out _ _ ?_ (fun hHeld => ?_)
  · ((try dsimp only); (try go_split_ands); refine ⟨?_, ?_, ?_, ?_, ?_, ?_, ?_, ?_⟩ <;> with_reducible assumption)
  clear hK K
  try simp only [List.getElem_toArray, List.getElem_cons_succ, List.getElem_cons_zero, Act.put, List.setIfInBounds_toArray, List.set_cons_zero, List.set_cons_succ]
  refine Any.take (i := 3) (v := ?_) rfl (by kernel_rfl) (by kernel_rfl) (by kernel_rfl) (by kernel_rfl) (fun _ _ _ h => h) (Or.inl ⟨by rfl, ?_⟩) hHeld ?_
  rotate_left
  · intro w hSw
    (try dsimp only at hSw)
    go_simp
    all_goals with_reducible rfl
  try simp only [List.getElem_toArray, List.getElem_cons_succ, List.getElem_cons_zero, Act.put, List.setIfInBounds_toArray, List.set_cons_zero, List.set_cons_succ]
  refine Any.take (i := 4) (v := ?_) rfl (by kernel_rfl) (by kernel_rfl) (by kernel_rfl) (by kernel_rfl) (fun _ _ _ h => h) (Or.inl ⟨by rfl, ?_⟩) hHeld ?_
  rotate_left
  · intro w hSw
    (try dsimp only at hSw)
    have q := hSw.2.1.out.five
    clear hSw
    go_simp
    all_goals with_reducible rfl
  try simp only [List.getElem_toArray, List.getElem_cons_succ, List.getElem_cons_zero, Act.put, List.setIfInBounds_toArray, List.set_cons_zero, List.set_cons_succ]
  refine Any.take (i := 5) (v := ?_) rfl (by kernel_rfl) (by kernel_rfl) (by kernel_rfl) (by kernel_rfl) (fun _ _ _ h => h) (Or.inl ⟨by rfl, ?_⟩) hHeld ?_
  rotate_left
  · intro w hSw
    (try dsimp only at hSw)
    have q := hSw.2.2.2.1.out.five
    clear hSw
    go_simp
    all_goals with_reducible rfl
  try simp only [List.getElem_toArray, List.getElem_cons_succ, List.getElem_cons_zero, Act.put, List.setIfInBounds_toArray, List.set_cons_zero, List.set_cons_succ]
  refine Any.take (i := 6) (v := ?_) rfl (by kernel_rfl) (by kernel_rfl) (by kernel_rfl) (by kernel_rfl) (fun _ _ _ h => h) (Or.inl ⟨by rfl, ?_⟩) hHeld ?_
  rotate_left
  · intro w hSw
    (try dsimp only at hSw)
    go_simp
    all_goals with_reducible rfl
  try simp only [List.getElem_toArray, List.getElem_cons_succ, List.getElem_cons_zero, Act.put, List.setIfInBounds_toArray, List.set_cons_zero, List.set_cons_succ]
  refine Any.take (i := 7) (v := ?_) rfl (by kernel_rfl) (by kernel_rfl) (by kernel_rfl) (by kernel_rfl) (fun _ _ _ h => h) (Or.inl ⟨by rfl, ?_⟩) hHeld ?_
  rotate_left
  · intro w hSw
    (try dsimp only at hSw)
    go_simp
    all_goals with_reducible rfl
  try simp only [List.getElem_toArray, List.getElem_cons_succ, List.getElem_cons_zero, Act.put, List.setIfInBounds_toArray, List.set_cons_zero, List.set_cons_succ]
  refine Any.take (i := 8) (v := ?_) rfl (by kernel_rfl) (by kernel_rfl) (by kernel_rfl) (by kernel_rfl) (fun _ _ _ h => h) (Or.inl ⟨by rfl, ?_⟩) hHeld ?_
  rotate_left
  · intro w hSw
    (try dsimp only at hSw)
    go_simp
    all_goals with_reducible rfl
  try simp only [List.getElem_toArray, List.getElem_cons_succ, List.getElem_cons_zero, Act.put, List.setIfInBounds_toArray, List.set_cons_zero, List.set_cons_succ]
  refine Any.take (i := 9) (v := ?_) rfl (by kernel_rfl) (by kernel_rfl) (by kernel_rfl) (by kernel_rfl) (fun _ _ _ h => h) (Or.inl ⟨by rfl, ?_⟩) hHeld ?_
  rotate_left
  · intro w hSw
    (try dsimp only at hSw)
    go_simp
    all_goals with_reducible rfl
  try simp only [List.getElem_toArray, List.getElem_cons_succ, List.getElem_cons_zero, Act.put, List.setIfInBounds_toArray, List.set_cons_zero, List.set_cons_succ]
  refine Any.take (i := 10) (v := ?_) rfl (by kernel_rfl) (by kernel_rfl) (by kernel_rfl) (by kernel_rfl) (fun _ _ _ h => h) (Or.inl ⟨by rfl, ?_⟩) hHeld ?_
  rotate_left
  · intro w hSw
    (try dsimp only at hSw)
    go_simp
    all_goals with_reducible rfl
  try simp only [List.getElem_toArray, List.getElem_cons_succ, List.getElem_cons_zero, Act.put, List.setIfInBounds_toArray, List.set_cons_zero, List.set_cons_succ]
  refine Any.take (i := 11) (v := ?_) rfl (by kernel_rfl) (by kernel_rfl) (by kernel_rfl) (by kernel_rfl) (fun _ _ _ h => h) (Or.inl ⟨by rfl, ?_⟩) hHeld ?_
  rotate_left
  · intro w hSw
    (try dsimp only at hSw)
    go_simp
    all_goals with_reducible rfl
  try simp only [List.getElem_toArray, List.getElem_cons_succ, List.getElem_cons_zero, Act.put, List.setIfInBounds_toArray, List.set_cons_zero, List.set_cons_succ]
  refine Any.take (i := 12) (v := ?_) rfl (by kernel_rfl) (by kernel_rfl) (by kernel_rfl) (by kernel_rfl) (fun _ _ _ h => h) (Or.inl ⟨by rfl, ?_⟩) hHeld ?_
  rotate_left
  · intro w hSw
    (try dsimp only at hSw)
    go_simp
    all_goals with_reducible rfl
  try simp only [List.getElem_toArray, List.getElem_cons_succ, List.getElem_cons_zero, Act.put, List.setIfInBounds_toArray, List.set_cons_zero, List.set_cons_succ]
  refine Any.take (i := 13) (v := ?_) rfl (by kernel_rfl) (by kernel_rfl) (by kernel_rfl) (by kernel_rfl) (fun _ _ _ h => h) (Or.inl ⟨by rfl, ?_⟩) hHeld ?_
  rotate_left
  · intro w hSw
    (try dsimp only at hSw)
    go_simp
    all_goals with_reducible rfl
  try simp only [List.getElem_toArray, List.getElem_cons_succ, List.getElem_cons_zero, Act.put, List.setIfInBounds_toArray, List.set_cons_zero, List.set_cons_succ]
  refine Any.take (i := 14) (v := ?_) rfl (by kernel_rfl) (by kernel_rfl) (by kernel_rfl) (by kernel_rfl) (fun _ _ _ h => h) (Or.inl ⟨by rfl, ?_⟩) hHeld ?_
  rotate_left
  · intro w hSw
    (try dsimp only at hSw)
    have q := hSw.2.2.2.2.1.out.six
    clear hSw
    go_simp
    all_goals with_reducible rfl
  try simp only [List.getElem_toArray, List.getElem_cons_succ, List.getElem_cons_zero, Act.put, List.setIfInBounds_toArray, List.set_cons_zero, List.set_cons_succ]
  refine Any.take (i := 15) (v := ?_) rfl (by kernel_rfl) (by kernel_rfl) (by kernel_rfl) (by kernel_rfl) (fun _ _ _ h => h) (Or.inl ⟨by rfl, ?_⟩) hHeld ?_
  rotate_left
  · intro w hSw
    (try dsimp only at hSw)
    have q := hSw.2.2.2.2.2.1.out.six
    clear hSw
    go_simp
    all_goals with_reducible rfl
  try simp only [List.getElem_toArray, List.getElem_cons_succ, List.getElem_cons_zero, Act.put, List.setIfInBounds_toArray, List.set_cons_zero, List.set_cons_succ]
  refine Any.ready (rs := [16]) (by kernel_rfl) (by simp) ?_
  refine AllAny.cons rfl rfl (fun K hK => ?_) AllAny.nil
  go_simp
  go_at_call 36
  refine (rmsame_new _).mono ?_
  (try go_split_ands)
  rintro e wa ⟨rfl, hba⟩
  go_wp2_with fail
  replace Za := mkHid (Za.out.keep hba)
  replace Zr := mkHid (Zr.out.keep hba)
  replace Zb := mkHid (Zb.out.keep hba)
  replace Zs := mkHid (Zs.out.keep hba)
  replace Zp := mkHid (Zp.out.keep hba)
  replace Zq := mkHid (Zq.out.keep hba)
  replace ZM := mkHid (ZM.out.keep hba)
  replace ZO := mkHid (ZO.out.keep hba)
  replace KB := mkHid (KB.out.step hba)
  replace KD := mkHid (KD.out.step hba)
  replace HA1 := mkHid (HA1.out.below hba)
  replace HA2 := mkHid (HA2.out.below hba)
  replace HM := mkHid (HM.out.below hba)
  replace HO := mkHid (HO.out.below hba)
  replace HV := mkHid (HV.out.below hba)
  clear hba
  refine hK.out _ _ ?_ (fun hHeld => ?_)
  · ((try dsimp only); (try go_split_ands); refine ⟨?_, ?_, ?_, ?_, ?_, ?_, ?_, ?_⟩ <;> with_reducible assumption)
  clear hK K
  try simp only [List.getElem_toArray, List.getElem_cons_succ, List.getElem_cons_zero, Act.put, List.setIfInBounds_toArray, List.set_cons_zero, List.set_cons_succ]
  refine Any.take (i := 17) (v := ?_) rfl (by kernel_rfl) (by kernel_rfl) (by kernel_rfl) (by kernel_rfl) (fun _ _ _ h => h) (Or.inl ⟨by rfl, ?_⟩) hHeld ?_
  rotate_left
  · intro w hSw
    (try dsimp only at hSw)
    go_simp
    all_goals with_reducible rfl
  try simp only [List.getElem_toArray, List.getElem_cons_succ, List.getElem_cons_zero, Act.put, List.setIfInBounds_toArray, List.set_cons_zero, List.set_cons_succ]
  refine Any.take (i := 18) (v := ?_) rfl (by kernel_rfl) (by kernel_rfl) (by kernel_rfl) (by kernel_rfl) (fun _ _ _ h => h) (Or.inl ⟨by rfl, ?_⟩) hHeld ?_
  rotate_left
  · intro w hSw
    (try dsimp only at hSw)
    go_simp
    all_goals with_reducible rfl
  try simp only [List.getElem_toArray, List.getElem_cons_succ, List.getElem_cons_zero, Act.put, List.setIfInBounds_toArray, List.set_cons_zero, List.set_cons_succ]
  refine Any.take (i := 19) (v := ?_) rfl (by kernel_rfl) (by kernel_rfl) (by kernel_rfl) (by kernel_rfl) (fun _ _ _ h => h) (Or.inl ⟨by rfl, ?_⟩) hHeld ?_
  rotate_left
  · intro w hSw
    (try dsimp only at hSw)
    go_simp
    all_goals with_reducible rfl
  try simp only [List.getElem_toArray, List.getElem_cons_succ, List.getElem_cons_zero, Act.put, List.setIfInBounds_toArray, List.set_cons_zero, List.set_cons_succ]
  refine Any.take (i := 20) (v := ?_) rfl (by kernel_rfl) (by kernel_rfl) (by kernel_rfl) (by kernel_rfl) (fun _ _ _ h => h) (Or.inl ⟨by rfl, ?_⟩) hHeld ?_
  rotate_left
  · intro w hSw
    (try dsimp only at hSw)
    go_simp
    all_goals with_reducible rfl
  try simp only [List.getElem_toArray, List.getElem_cons_succ, List.getElem_cons_zero, Act.put, List.setIfInBounds_toArray, List.set_cons_zero, List.set_cons_succ]
  refine Any.take (i := 21) (v := ?_) rfl (by kernel_rfl) (by kernel_rfl) (by kernel_rfl) (by kernel_rfl) (fun _ _ _ h => h) (Or.inl ⟨by rfl, ?_⟩) hHeld ?_
  rotate_left
  · intro w hSw
    (try dsimp only at hSw)
    go_simp
    all_goals with_reducible rfl
  try simp only [List.getElem_toArray, List.getElem_cons_succ, List.getElem_cons_zero, Act.put, List.setIfInBounds_toArray, List.set_cons_zero, List.set_cons_succ]
  refine Any.take (i := 22) (v := ?_) rfl (by kernel_rfl) (by kernel_rfl) (by kernel_rfl) (by kernel_rfl) (fun _ _ _ h => h) (Or.inl ⟨by rfl, ?_⟩) hHeld ?_
  rotate_left
  · intro w hSw
    (try dsimp only at hSw)
    go_simp
    all_goals with_reducible rfl
  try simp only [List.getElem_toArray, List.getElem_cons_succ, List.getElem_cons_zero, Act.put, List.setIfInBounds_toArray, List.set_cons_zero, List.set_cons_succ]
  refine Any.take (i := 23) (v := ?_) rfl (by kernel_rfl) (by kernel_rfl) (by kernel_rfl) (by kernel_rfl) (fun _ _ _ h => h) (Or.inl ⟨by rfl, ?_⟩) hHeld ?_
  rotate_left
  · intro w hSw
    (try dsimp only at hSw)
    go_simp
    all_goals with_reducible rfl
  try simp only [List.getElem_toArray, List.getElem_cons_succ, List.getElem_cons_zero, Act.put, List.setIfInBounds_toArray, List.set_cons_zero, List.set_cons_succ]
  refine Any.take (i := 24) (v := ?_) rfl (by kernel_rfl) (by kernel_rfl) (by kernel_rfl) (by kernel_rfl) (fun _ _ _ h => h) (Or.inl ⟨by rfl, ?_⟩) hHeld ?_
  rotate_left
  · intro w hSw
    (try dsimp only at hSw)
    go_simp
    all_goals with_reducible rfl
  try simp only [List.getElem_toArray, List.getElem_cons_succ, List.getElem_cons_zero, Act.put, List.setIfInBounds_toArray, List.set_cons_zero, List.set_cons_succ]
  refine Any.take (i := 25) (v := ?_) rfl (by kernel_rfl) (by kernel_rfl) (by kernel_rfl) (by kernel_rfl) (fun _ _ _ h => h) (Or.inl ⟨by rfl, ?_⟩) hHeld ?_
  rotate_left
  · intro w hSw
    (try dsimp only at hSw)
    go_simp
    all_goals with_reducible rfl
  try simp only [List.getElem_toArray, List.getElem_cons_succ, List.getElem_cons_zero, Act.put, List.setIfInBounds_toArray, List.set_cons_zero, List.set_cons_succ]
  refine Any.take (i := 26) (v := ?_) rfl (by kernel_rfl) (by kernel_rfl) (by kernel_rfl) (by kernel_rfl) (fun _ _ _ h => h) (Or.inl ⟨by rfl, ?_⟩) hHeld ?_
  rotate_left
  · intro w hSw
    (try dsimp only at hSw)
    go_simp
    all_goals with_reducible rfl
  try simp only [List.getElem_toArray, List.getElem_cons_succ, List.getElem_cons_zero, Act.put, List.setIfInBounds_toArray, List.set_cons_zero, List.set_cons_succ]
  refine Any.take (i := 27) (v := ?_) rfl (by kernel_rfl) (by kernel_rfl) (by kernel_rfl) (by kernel_rfl) (fun _ _ _ h => h) (Or.inl ⟨by rfl, ?_⟩) hHeld ?_
  rotate_left
  · intro w hSw
    (try dsimp only at hSw)
    go_simp
    all_goals with_reducible rfl
  try simp only [List.getElem_toArray, List.getElem_cons_succ, List.getElem_cons_zero, Act.put, List.setIfInBounds_toArray, List.set_cons_zero, List.set_cons_succ]
  refine Any.take (i := 28) (v := ?_) rfl (by kernel_rfl) (by kernel_rfl) (by kernel_rfl) (by kernel_rfl) (fun _ _ _ h => h) (Or.inl ⟨by rfl, ?_⟩) hHeld ?_
  rotate_left
  · intro w hSw
    (try dsimp only at hSw)
    go_simp
    all_goals with_reducible rfl
  try simp only [List.getElem_toArray, List.getElem_cons_succ, List.getElem_cons_zero, Act.put, List.setIfInBounds_toArray, List.set_cons_zero, List.set_cons_succ]
  refine Any.take (i := 29) (v := ?_) rfl (by kernel_rfl) (by kernel_rfl) (by kernel_rfl) (by kernel_rfl) (fun _ _ _ h => h) (Or.inl ⟨by rfl, ?_⟩) hHeld ?_
  rotate_left
  · intro w hSw
    (try dsimp only at hSw)
    go_simp
    all_goals with_reducible rfl
  try simp only [List.getElem_toArray, List.getElem_cons_succ, List.getElem_cons_zero, Act.put, List.setIfInBounds_toArray, List.set_cons_zero, List.set_cons_succ]
  refine Any.take (i := 30) (v := ?_) rfl (by kernel_rfl) (by kernel_rfl) (by kernel_rfl) (by kernel_rfl) (fun _ _ _ h => h) (Or.inl ⟨by rfl, ?_⟩) hHeld ?_
  rotate_left
  · intro w hSw
    (try dsimp only at hSw)
    go_simp
    all_goals with_reducible rfl
  try simp only [List.getElem_toArray, List.getElem_cons_succ, List.getElem_cons_zero, Act.put, List.setIfInBounds_toArray, List.set_cons_zero, List.set_cons_succ]
  refine Any.take (i := 31) (v := ?_) rfl (by kernel_rfl) (by kernel_rfl) (by kernel_rfl) (by kernel_rfl) (fun _ _ _ h => h) (Or.inl ⟨by rfl, ?_⟩) hHeld ?_
  rotate_left
  · intro w hSw
    (try dsimp only at hSw)
    go_simp
    all_goals with_reducible rfl
  try simp only [List.getElem_toArray, List.getElem_cons_succ, List.getElem_cons_zero, Act.put, List.setIfInBounds_toArray, List.set_cons_zero, List.set_cons_succ]
  refine Any.take (i := 32) (v := ?_) rfl (by kernel_rfl) (by kernel_rfl) (by kernel_rfl) (by kernel_rfl) (fun _ _ _ h => h) (Or.inl ⟨by rfl, ?_⟩) hHeld ?_
  rotate_left
  · intro w hSw
    (try dsimp only at hSw)
    go_simp
    all_goals with_reducible rfl
  try simp only [List.getElem_toArray, List.getElem_cons_succ, List.getElem_cons_zero, Act.put, List.setIfInBounds_toArray, List.set_cons_zero, List.set_cons_succ]
  refine Any.take (i := 33) (v := ?_) rfl (by kernel_rfl) (by kernel_rfl) (by kernel_rfl) (by kernel_rfl) (fun _ _ _ h => h) (Or.inl ⟨by rfl, ?_⟩) hHeld ?_
  rotate_left
  · intro w hSw
    (try dsimp only at hSw)
    go_simp
    all_goals with_reducible rfl
  try simp only [List.getElem_toArray, List.getElem_cons_succ, List.getElem_cons_zero, Act.put, List.setIfInBounds_toArray, List.set_cons_zero, List.set_cons_succ]
  refine Any.take (i := 34) (v := ?_) rfl (by kernel_rfl) (by kernel_rfl) (by kernel_rfl) (by kernel_rfl) (fun _ _ _ h => h) (Or.inl ⟨by rfl, ?_⟩) hHeld ?_
  rotate_left
  · intro w hSw
    (try dsimp only at hSw)
    have q := hSw.2.2.2.2.2.2.1.out.six
    clear hSw
    go_simp
    all_goals with_reducible rfl
  try simp only [List.getElem_toArray, List.getElem_cons_succ, List.getElem_cons_zero, Act.put, List.setIfInBounds_toArray, List.set_cons_zero, List.set_cons_succ]
  refine Any.take (i := 36) (v := ?_) rfl (by kernel_rfl) (by kernel_rfl) (by kernel_rfl) (by kernel_rfl) (fun _ _ _ h => h) (Or.inl ⟨by rfl, ?_⟩) hHeld ?_
  rotate_left
  · intro w hSw
    (try dsimp only at hSw)
    have q := hSw.2.2.2.2.2.2.1.out.six
    clear hSw
    go_simp
    all_goals with_reducible rfl
  try simp only [List.getElem_toArray, List.getElem_cons_succ, List.getElem_cons_zero, Act.put, List.setIfInBounds_toArray, List.set_cons_zero, List.set_cons_succ]
  refine Any.ready (rs := [35]) (by kernel_rfl) (by simp) ?_
  refine AllAny.cons rfl rfl (fun K hK => ?_) AllAny.nil
  go_simp
  go_at_call 37
  refine (mchk (m := ⟨h, cap, l, n, dr, S⟩) e5 _ _ _ _ _ (HM.out.mem HS.out)).mono ?_
  (try go_split_ands)
  rintro e wa ⟨rfl, hba⟩
  go_wp2_with fail
  replace Za := mkHid (Za.out.keep hba)
  replace Zr := mkHid (Zr.out.keep hba)
  replace Zb := mkHid (Zb.out.keep hba)
  replace Zs := mkHid (Zs.out.keep hba)
  replace Zp := mkHid (Zp.out.keep hba)
  replace Zq := mkHid (Zq.out.keep hba)
  replace ZM := mkHid (ZM.out.keep hba)
  replace ZO := mkHid (ZO.out.keep hba)
  replace KB := mkHid (KB.out.step hba)
  replace KD := mkHid (KD.out.step hba)
  replace HA1 := mkHid (HA1.out.below hba)
  replace HA2 := mkHid (HA2.out.below hba)
  replace HM := mkHid (HM.out.below hba)
  replace HO := mkHid (HO.out.below hba)
  replace HV := mkHid (HV.out.below hba)
  clear hba
  refine hK.out _ _ ?_ (fun hHeld => ?_)
  · ((try dsimp only); (try go_split_ands); refine ⟨?_, ?_, ?_, ?_, ?_, ?_, ?_, ?_⟩ <;> with_reducible assumption)
  clear hK K
  try simp only [List.getElem_toArray, List.getElem_cons_succ, List.getElem_cons_zero, Act.put, List.setIfInBounds_toArray, List.set_cons_zero, List.set_cons_succ]
  refine Any.ready (rs := [37]) (by kernel_rfl) (by simp) ?_
  refine AllAny.cons rfl rfl (fun K hK => ?_) AllAny.nil
  go_simp
  go_at_call 38
  refine (rmchk (m := ⟨h, cap, l, n, dr, S⟩) e5 _ _ _ _ _ HM.out.reads HM.out.sents).mono ?_
  (try go_split_ands)
  rintro e wa ⟨rfl, hba⟩
  go_wp2_with fail
  replace Za := mkHid (Za.out.keep hba)
  replace Zr := mkHid (Zr.out.keep hba)
  replace Zb := mkHid (Zb.out.keep hba)
  replace Zs := mkHid (Zs.out.keep hba)
  replace Zp := mkHid (Zp.out.keep hba)
  replace Zq := mkHid (Zq.out.keep hba)
  replace ZM := mkHid (ZM.out.keep hba)
  replace ZO := mkHid (ZO.out.keep hba)
  replace KB := mkHid (KB.out.step hba)
  replace KD := mkHid (KD.out.step hba)
  replace HA1 := mkHid (HA1.out.below hba)
  replace HA2 := mkHid (HA2.out.below hba)
  replace HM := mkHid (HM.out.below hba)
  replace HO := mkHid (HO.out.below hba)
  replace HV := mkHid (HV.out.below hba)
  clear hba
  refine hK.out _ _ ?_ (fun hHeld => ?_)
  · ((try dsimp only); (try go_split_ands); refine ⟨?_, ?_, ?_, ?_, ?_, ?_, ?_, ?_⟩ <;> with_reducible assumption)
  clear hK K
  try simp only [List.getElem_toArray, List.getElem_cons_succ, List.getElem_cons_zero, Act.put, List.setIfInBounds_toArray, List.set_cons_zero, List.set_cons_succ]
  refine Any.take (i := 38) (v := ?_) rfl (by kernel_rfl) (by kernel_rfl) (by kernel_rfl) (by kernel_rfl) (fun _ _ _ h => h) (Or.inl ⟨by rfl, ?_⟩) hHeld ?_
  rotate_left
  · intro w hSw
    (try dsimp only at hSw)
    go_simp
    all_goals with_reducible rfl
  try simp only [List.getElem_toArray, List.getElem_cons_succ, List.getElem_cons_zero, Act.put, List.setIfInBounds_toArray, List.set_cons_zero, List.set_cons_succ]
  refine Any.take (i := 39) (v := ?_) rfl (by kernel_rfl) (by kernel_rfl) (by kernel_rfl) (by kernel_rfl) (fun _ _ _ h => h) (Or.inl ⟨by rfl, ?_⟩) hHeld ?_
  rotate_left
  · intro w hSw
    (try dsimp only at hSw)
    go_simp
    all_goals with_reducible rfl
  try simp only [List.getElem_toArray, List.getElem_cons_succ, List.getElem_cons_zero, Act.put, List.setIfInBounds_toArray, List.set_cons_zero, List.set_cons_succ]
  refine Any.take (i := 40) (v := ?_) rfl (by kernel_rfl) (by kernel_rfl) (by kernel_rfl) (by kernel_rfl) (fun _ _ _ h => h) (Or.inl ⟨by rfl, ?_⟩) hHeld ?_
  rotate_left
  · intro w hSw
    (try dsimp only at hSw)
    go_simp
    all_goals with_reducible rfl
  try simp only [List.getElem_toArray, List.getElem_cons_succ, List.getElem_cons_zero, Act.put, List.setIfInBounds_toArray, List.set_cons_zero, List.set_cons_succ]
  refine Any.take (i := 41) (v := ?_) rfl (by kernel_rfl) (by kernel_rfl) (by kernel_rfl) (by kernel_rfl) (fun _ _ _ h => h) (Or.inl ⟨by rfl, ?_⟩) hHeld ?_
  rotate_left
  · intro w hSw
    (try dsimp only at hSw)
    have q := hSw.2.2.2.2.2.2.1.out.six
    clear hSw
    go_simp
    all_goals with_reducible rfl
  try simp only [List.getElem_toArray, List.getElem_cons_succ, List.getElem_cons_zero, Act.put, List.setIfInBounds_toArray, List.set_cons_zero, List.set_cons_succ]
  refine Any.take (i := 42) (v := ?_) rfl (by kernel_rfl) (by kernel_rfl) (by kernel_rfl) (by kernel_rfl) (fun _ _ _ h => h) (Or.inl ⟨by rfl, ?_⟩) hHeld ?_
  rotate_left
  · intro w hSw
    (try dsimp only at hSw)
    have q := hSw.2.2.2.2.2.2.2.out.six
    clear hSw
    go_simp
    all_goals with_reducible rfl
  try simp only [List.getElem_toArray, List.getElem_cons_succ, List.getElem_cons_zero, Act.put, List.setIfInBounds_toArray, List.set_cons_zero, List.set_cons_succ]
  refine Any.take (i := 44) (v := ?_) rfl (by kernel_rfl) (by kernel_rfl) (by kernel_rfl) (by kernel_rfl) (fun _ _ _ h => h) (Or.inl ⟨by rfl, ?_⟩) hHeld ?_
  rotate_left
  · intro w hSw
    (try dsimp only at hSw)
    have q := hSw.2.2.2.2.2.2.1.out.six
    clear hSw
    go_simp
    all_goals with_reducible rfl
  try simp only [List.getElem_toArray, List.getElem_cons_succ, List.getElem_cons_zero, Act.put, List.setIfInBounds_toArray, List.set_cons_zero, List.set_cons_succ]
  refine Any.take (i := 45) (v := ?_) rfl (by kernel_rfl) (by kernel_rfl) (by kernel_rfl) (by kernel_rfl) (fun _ _ _ h => h) (Or.inl ⟨by rfl, ?_⟩) hHeld ?_
  rotate_left
  · intro w hSw
    (try dsimp only at hSw)
    have q := hSw.2.2.2.2.2.2.2.out.six
    clear hSw
    go_simp
    all_goals with_reducible rfl
  try simp only [List.getElem_toArray, List.getElem_cons_succ, List.getElem_cons_zero, Act.put, List.setIfInBounds_toArray, List.set_cons_zero, List.set_cons_succ]
  refine Any.ready (rs := [43]) (by kernel_rfl) (by simp) ?_
  refine AllAny.cons rfl rfl (fun K hK => ?_) AllAny.nil
  go_simp
  go_at_call 39
  refine (msame (m := ⟨h, cap, l, n, dr, S⟩) (o := ⟨h', cap', l', n', dr', S'⟩) e4 HL HSS _ _ _ _ _ _ _ _ _ HM.out.reads HO.out.reads HM.out.sents HO.out.sents).mono ?_
  (try go_split_ands)
  rintro e wa ⟨rfl, hba⟩
  go_wp2_with fail
  replace Za := mkHid (Za.out.keep hba)
  replace Zr := mkHid (Zr.out.keep hba)
  replace Zb := mkHid (Zb.out.keep hba)
  replace Zs := mkHid (Zs.out.keep hba)
  replace Zp := mkHid (Zp.out.keep hba)
  replace Zq := mkHid (Zq.out.keep hba)
  replace ZM := mkHid (ZM.out.keep hba)
  replace ZO := mkHid (ZO.out.keep hba)
  replace KB := mkHid (KB.out.step hba)
  replace KD := mkHid (KD.out.step hba)
  replace HA1 := mkHid (HA1.out.below hba)
  replace HA2 := mkHid (HA2.out.below hba)
  replace HM := mkHid (HM.out.below hba)
  replace HO := mkHid (HO.out.below hba)
  replace HV := mkHid (HV.out.below hba)
  clear hba
  refine hK.out _ _ ?_ (fun hHeld => ?_)
  · ((try dsimp only); (try go_split_ands); refine ⟨?_, ?_, ?_, ?_, ?_, ?_, ?_, ?_⟩ <;> with_reducible assumption)
  clear hK K
  try simp only [List.getElem_toArray, List.getElem_cons_succ, List.getElem_cons_zero, Act.put, List.setIfInBounds_toArray, List.set_cons_zero, List.set_cons_succ]
  refine Any.ready (rs := [46]) (by kernel_rfl) (by simp) ?_
  refine AllAny.cons rfl rfl (fun K hK => ?_) AllAny.nil
  go_simp
  go_at_call 36
  refine (rmsame (m := ⟨h, cap, l, n, dr, S⟩) (o := ⟨h', cap', l', n', dr', S'⟩) e4 HL HSS _ _ _ _ _ _ _ _ _ HM.out.reads HO.out.reads HM.out.sents HO.out.sents).mono ?_
  (try go_split_ands)
  rintro e wa ⟨rfl, hba⟩
  go_wp2_with fail
  replace Za := mkHid (Za.out.keep hba)
  replace Zr := mkHid (Zr.out.keep hba)
  replace Zb := mkHid (Zb.out.keep hba)
  replace Zs := mkHid (Zs.out.keep hba)
  replace Zp := mkHid (Zp.out.keep hba)
  replace Zq := mkHid (Zq.out.keep hba)
  replace ZM := mkHid (ZM.out.keep hba)
  replace ZO := mkHid (ZO.out.keep hba)
  replace KB := mkHid (KB.out.step hba)
  replace KD := mkHid (KD.out.step hba)
  replace HA1 := mkHid (HA1.out.below hba)
  replace HA2 := mkHid (HA2.out.below hba)
  replace HM := mkHid (HM.out.below hba)
  replace HO := mkHid (HO.out.below hba)
  replace HV := mkHid (HV.out.below hba)
  clear hba
  refine hK.out _ _ ?_ (fun hHeld => ?_)
  · ((try dsimp only); (try go_split_ands); refine ⟨?_, ?_, ?_, ?_, ?_, ?_, ?_, ?_⟩ <;> with_reducible assumption)
  clear hK K
  try simp only [List.getElem_toArray, List.getElem_cons_succ, List.getElem_cons_zero, Act.put, List.setIfInBounds_toArray, List.set_cons_zero, List.set_cons_succ]
  refine Any.take (i := 47) (v := ?_) rfl (by kernel_rfl) (by kernel_rfl) (by kernel_rfl) (by kernel_rfl) (fun _ _ _ h => h) (Or.inl ⟨by rfl, ?_⟩) hHeld ?_
  rotate_left
  · intro w hSw
    (try dsimp only at hSw)
    go_simp
    all_goals with_reducible rfl
  try simp only [List.getElem_toArray, List.getElem_cons_succ, List.getElem_cons_zero, Act.put, List.setIfInBounds_toArray, List.set_cons_zero, List.set_cons_succ]
  refine Any.take (i := 48) (v := ?_) rfl (by kernel_rfl) (by kernel_rfl) (by kernel_rfl) (by kernel_rfl) (fun _ _ _ h => h) (Or.inl ⟨by rfl, ?_⟩) hHeld ?_
  rotate_left
  · intro w hSw
    (try dsimp only at hSw)
    go_simp
    all_goals with_reducible rfl
  try simp only [List.getElem_toArray, List.getElem_cons_succ, List.getElem_cons_zero, Act.put, List.setIfInBounds_toArray, List.set_cons_zero, List.set_cons_succ]
  refine Any.take (i := 49) (v := ?_) rfl (by kernel_rfl) (by kernel_rfl) (by kernel_rfl) (by kernel_rfl) (fun _ _ _ h => h) (Or.inl ⟨by rfl, ?_⟩) hHeld ?_
  rotate_left
  · intro w hSw
    (try dsimp only at hSw)
    go_simp
    all_goals with_reducible rfl
  try simp only [List.getElem_toArray, List.getElem_cons_succ, List.getElem_cons_zero, Act.put, List.setIfInBounds_toArray, List.set_cons_zero, List.set_cons_succ]
  refine Any.done (by kernel_rfl) ?_ _
  have hYl : Hid ((X1.map fun x => (x.a, x.s.out.length, x.c)).length = m'.sent.length) := mkHid (by rw [List.length_map, ← HA1.out.eq, List.length_map])
  have hYs : Hid (∀ y ∈ (X1.map fun x => (x.a, x.s.out.length, x.c)), y.2.1 ≤ 1024) := mkHid (fun y hy => by
    obtain ⟨x, hx, rfl⟩ := List.mem_map.1 hy
    exact MZ.out.2.2 x.s (by rw [← HA1.out.eq]; exact List.mem_map.2 ⟨x, hx, rfl⟩))
  generalize (X1.map fun x => (x.a, x.s.out.length, x.c)) = Y at *
  clear Zr Zb Zs Zp Zq ZM ZO HA1 HA2 HM HO KB hq hqs
  generalize hnl : m'.l.length = nl at *
  generalize hns : m'.sent.length = ns at *
  have bl : nl ≤ 1024 := by have := MZ.out.1; omega
  have bs : ns ≤ 4096 := by have := MZ.out.2.1; omega
  clear hnl hns ML MS MZ e1
  have ca := Za.out.six
  have la := Za.out.lt
  go_wp2_with fail
  clear ca la
  go_loopw [143] (fun j wr => ∃ i : Nat, i ≤ nl ∧ j = .int .i64 (i : Int) ∧ Hid (AInv wr wD.heap.size hiA A1 nl B1 Y) ∧ Hid (Blk wr hiA 45 #[.int .i64 m'.h, .int .i64 m'.cap, .slice A1 nl c1, .int .i64 m'.n, .int .i64 m'.draws, .slice B1 ns d1]) ∧ Hid (Below wD.heap.size wD wr)) (fun j _ => nl - (intOf j).toNat)
  case atStart => exact ⟨0, Nat.zero_le _, rfl, HV, Za, KD⟩
  case round =>
    clear HV Za KD
    obtain ⟨i1, hi1, rfl, HV, Za, KD⟩ := hrel
    have ca := Za.out.six
    have la := Za.out.lt
    by_cases hlt : i1 < nl
    · obtain ⟨b0, off0, rfl, lo0, hi0, ⟨v0, cv⟩, fz⟩ := HV.out.row i1 hlt
      go_wp2_with fail
      go_roundw
      case rel => exact ⟨i1 + 1, by omega, by go_num, mkHid (HV.out.set cv _), mkHid (Za.out.other _ (by omega)), mkHid (KD.out.setCell (p := ⟨b0, off0 + i1, none⟩) lo0 _)⟩
      case measure => simp [intOf]; omega
    · obtain rfl : i1 = nl := by omega
      go_wp2_with fail
      go_loopw [157] (fun j wr => ∃ i2 : Nat, i2 ≤ ns ∧ j = .int .i64 (i2 : Int) ∧ Hid (AInv wr wD.heap.size hiA A1 i1 B1 Y) ∧ Hid (Blk wr hiA 45 #[.int .i64 m'.h, .int .i64 m'.cap, .slice A1 i1 c1, .int .i64 m'.n, .int .i64 m'.draws, .slice B1 ns d1]) ∧ Hid (Below wD.heap.size wD wr)) (fun j _ => ns - (intOf j).toNat)
      case atStart => exact ⟨0, Nat.zero_le _, rfl, HV, Za, KD⟩
      case round =>
        clear HV Za KD ca la
        obtain ⟨i2, hi2, rfl, HV, Za, KD⟩ := hrel
        have ca := Za.out.six
        have la := Za.out.lt
        by_cases hlt2 : i2 < ns
        · have hiY : i2 < Y.length := by rw [hYl.out]; exact hlt2
          obtain ⟨b2, off2, rfl, cs⟩ := HV.out.sents i2 hiY
          have hmem := List.getElem_mem hiY
          have hby := hYs.out Y[i2] hmem
          obtain ⟨⟨ay, ny, cy⟩, hY2⟩ : ∃ y, Y[i2] = y := ⟨_, rfl⟩
          rw [hY2] at cs hmem hby
          have HY2 := mkHid hY2
          have HMEM := mkHid hmem
          clear hY2 hmem
          dsimp only at cs hby
          go_wp2_with fail
          clear cs ca la
          go_loopw [167] (fun j wr => ∃ i3 : Nat, i3 ≤ ny ∧ j = .int .i64 (i3 : Int) ∧ Hid (AInv wr wD.heap.size hiA A1 i1 (some ⟨b2, off2, none⟩) Y) ∧ Hid (Blk wr hiA 45 #[.int .i64 m'.h, .int .i64 m'.cap, .slice A1 i1 c1, .int .i64 m'.n, .int .i64 m'.draws, .slice (some ⟨b2, off2, none⟩) ns d1]) ∧ Hid (Below wD.heap.size wD wr)) (fun j _ => ny - (intOf j).toNat)
          case atStart => exact ⟨0, Nat.zero_le _, rfl, HV, Za, KD⟩
          case round =>
            clear HV Za KD
            obtain ⟨i3, hi3, rfl, HV, Za, KD⟩ := hrel
            have ca := Za.out.six
            have la := Za.out.lt
            by_cases hlt3 : i3 < ny
            · obtain ⟨b2', off2', e2, cs⟩ := HV.out.sents i2 hiY
              cases e2
              rw [HY2.out] at cs
              dsimp only at cs
              obtain ⟨b3, off3, e3, lo3, hi3', ⟨v3, cv⟩, fz⟩ := HV.out.each _ HMEM.out i3 hlt3
              dsimp only at e3
              subst e3
              go_wp2_with fail
              go_roundw
              case rel => exact ⟨i3 + 1, by omega, by go_num, mkHid (HV.out.set cv _), mkHid (Za.out.other _ (by omega)), mkHid (KD.out.setCell (p := ⟨b3, off3 + i3, none⟩) lo3 _)⟩
              case measure => simp [intOf]; omega
            · obtain rfl : i3 = ny := by omega
              go_wp2_with fail
              go_roundw
              case rel => exact ⟨i2 + 1, by omega, by go_num, HV, Za, KD⟩
              case measure => simp [intOf]; omega
        · obtain rfl : i2 = ns := by omega
          have ZM := mkHid (ZMD.out.keep KD.out)
          have ZW := mkHid (ZWD.out.keep KD.out)
          have HM := mkHid (HMD.out.below KD.out)
          have HW := mkHid (HWD.out.below KD.out)
          have KB := mkHid (KBD.out.step KD.out)
          clear ca la ZMD ZWD HMD HWD KBD KD
          have cM := ZM.out.six
          have cW := ZW.out.six
          go_wp2_with fail
          refine (rmsame (m := ⟨h, cap, l, n, dr, S⟩) (o := ⟨h, cap, l, n, dr, S⟩) (mkHid (sameM_self _)) HL HSS _ _ _ _ _ _ _ _ _ HM.out.reads HW.out.reads HM.out.sents (HW.out.mem (by have := HS.out; dsimp only; omega)).sents).mono ?_
          rintro e wz ⟨rfl, hbz⟩
          go_wp2_with fail
          go_ret
          exact ⟨rfl, KB.out.step hbz⟩

theorem walk_ModelDoes {w : World} (m : ModD) (A : Option Addr) (c : Nat) (B : Option Addr) (d : Nat) (hM : RawM w A c B d m) (o : ModD) (A' : Option Addr) (c' : Nat) (B' : Option Addr) (d' : Nat) (hO : RawM w A' c' B' d' o) (x : OpD) (x0 : Int) (_w0 : (Lit.int .i64 x0).wf = true) (x1 : Int) (_w1 : (Lit.int .i64 x1).wf = true) (x2 : Int) (_w2 : (Lit.int .i64 x2).wf = true) :
    Calls Try.prog 9 #[.agg #[.int .i64 m.h, .int .i64 m.cap, .slice A m.l.length c, .int .i64 m.n, .int .i64 m.draws, .slice B m.sent.length d], .agg #[.int .i64 o.h, .int .i64 o.cap, .slice A' o.l.length c', .int .i64 o.n, .int .i64 o.draws, .slice B' o.sent.length d'], .agg #[.int .i64 x.kind, .int .u64 (x.i : Int), .int .i64 x.n, .int .u64 (x.p.1.toNat : Int), .int .u64 (x.p.2.toNat : Int)], .int .i64 x0, .int .i64 x1, .int .i64 x2] w fun e w' => e = .returned (.bool true) ∧ Below w.heap.size w w' := by
  obtain ⟨h, cap, l, n, dr, S⟩ := m
  obtain ⟨h', cap', l', n', dr', S'⟩ := o
  obtain ⟨k, i, q, p1, p2⟩ := x
  cases hf : fewM ⟨h, cap, l, n, dr, S⟩
  · exact mdoes_many (mkHid hf) A c B d A' c' B' d' w hM hO
  · cases hf2 : fewM ⟨h', cap', l', n', dr', S'⟩
    · exact mdoes_many2 (mkHid hf) (mkHid hf2) A c B d A' c' B' d' w hM hO
    · obtain ⟨m', a, r, e1⟩ : ∃ m' ra r, doM ⟨h, cap, l, n, dr, S⟩ ⟨k, i, q, (p1, p2)⟩ = (m', ra, r) := ⟨_, _, _, rfl⟩
      obtain ⟨m0, r0, e2⟩ : ∃ m' r, newM x0 x1 x2 = (m', r) := ⟨_, _, rfl⟩
      obtain ⟨y0, y1, e3⟩ : ∃ m' r, mayM ⟨h, cap, l, n, dr, S⟩ i q = (m', r) := ⟨_, _, rfl⟩
      exact mdoes_walk (mkHid hf) (mkHid hf2) (mkHid e1) (mkHid e2) (mkHid e3) (mkHid rfl) (mkHid rfl) A c B d A' c' B' d' w hM hO
end Go.Proofs.Ytmehbonjpmlmfaa

namespace Go.Proofs.Ytmehbonjpmlmfaa
open Go.ChangeShapes Go.WideShapes Go.ChangeAt Go.RowKit

set_option maxRecDepth 100000 in
theorem ModelDoes_lifted (os : Os) (started : os.Started) (H : Type) (enc : TypeId × Value → H) :
    ReturnsInHanded {} Try.checked os 9 .any (Rows.modelDoesSpec.pre6 enc Try.prog Try.f9 Rows.modelDoesRow.domain false) (Rows.modelDoesSpec.post enc Try.prog Try.f9 false true false false) := by
  refine returnsInHanded_of_change (C := Try.checked) own started (by kernel_rfl) Try.func9
    (ChangeSpec.witness6 (enc := enc) (C := Try.checked) false ⟨#[], #[.agg #[.int .i64 0, .int .i64 0, .slice none 0 0, .int .i64 0, .int .i64 0, .slice none 0 0], .agg #[.int .i64 0, .int .i64 0, .slice none 0 0, .int .i64 0, .int .i64 0, .slice none 0 0], .agg #[.int .i64 0, .int .u64 0, .int .i64 0, .int .u64 0, .int .u64 0], .int .i64 0, .int .i64 0, .int .i64 0], []⟩ 8 (by kernel_rfl) (by kernel_rfl) (by kernel_rfl) (by kernel_rfl)) ?_
  intro W base args ds gs before hval0 hW hcnd _
  have hval : ∀ (j : Nat) t v, Try.f9.params[j]? = some t → args[j]? = some v → Value.okWide Try.prog W .any base t v := hval0
  have hW' := hW
  obtain ⟨p, q, hA0, hV, rfl, hfz, hnd⟩ := hW
  have hA : DataW.TrodAll enc Try.prog W 0 (fun _ => true) true Try.f9.params.toList args.toList ds p := hA0
  rw [Try.params9] at hA hval
  obtain ⟨v0, vs0, d0, ds0, p0, q0, hargs, rfl, rfl, h0, r0⟩ := trodAll_cons hA
  obtain ⟨v1, vs1, d1, ds1, p1, q1, rfl, rfl, rfl, h1, r1⟩ := trodAll_cons r0
  obtain ⟨v2, vs2, d2, ds2, p2, q2, rfl, rfl, rfl, h2, r2⟩ := trodAll_cons r1
  obtain ⟨v3, vs3, d3, ds3, p3, q3, rfl, rfl, rfl, h3, r3⟩ := trodAll_cons r2
  obtain ⟨v4, vs4, d4, ds4, p4, q4, rfl, rfl, rfl, h4, r4⟩ := trodAll_cons r3
  obtain ⟨v5, vs5, d5, ds5, p5, q5, rfl, rfl, rfl, h5, r5⟩ := trodAll_cons r4
  obtain ⟨rfl, rfl, rfl⟩ := trodAll_nil r5
  obtain rfl : args = #[v0, v1, v2, v3, v4, v5] := by cases args; simp_all
  obtain ⟨rfl, rfl⟩ := trodVars_none hV
  have k0 := h0
  have lt0 : ∀ x ∈ p0, x.block < W.heap.size := by obtain ⟨m, hm⟩ := k0; exact DataW.trod_lt m _ _ _ hm
  have k1 := h1
  have lt1 : ∀ x ∈ p1, x.block < W.heap.size := by obtain ⟨m, hm⟩ := k1; exact DataW.trod_lt m _ _ _ hm
  have k2 := h2
  have lt2 : ∀ x ∈ p2, x.block < W.heap.size := by obtain ⟨m, hm⟩ := k2; exact DataW.trod_lt m _ _ _ hm
  have k3 := h3
  have lt3 : ∀ x ∈ p3, x.block < W.heap.size := by obtain ⟨m, hm⟩ := k3; exact DataW.trod_lt m _ _ _ hm
  have k4 := h4
  have lt4 : ∀ x ∈ p4, x.block < W.heap.size := by obtain ⟨m, hm⟩ := k4; exact DataW.trod_lt m _ _ _ hm
  have k5 := h5
  have lt5 : ∀ x ∈ p5, x.block < W.heap.size := by obtain ⟨m, hm⟩ := k5; exact DataW.trod_lt m _ _ _ hm
  obtain ⟨a0, c0, b0, e0, m0, rfl, M0⟩ := open_model (hval 0 45 v0 rfl rfl) h0
  obtain ⟨a1, c1, b1, e1, m1, rfl, M1⟩ := open_model (hval 1 45 v1 rfl rfl) h1
  obtain ⟨o2, rfl, W2⟩ := open_op (hval 2 53 v2 rfl rfl) h2
  obtain ⟨x3, rfl, _, _, wx3⟩ := open_int Try.underlying3 (hval 3 3 v3 rfl rfl) h3
  obtain ⟨x4, rfl, _, _, wx4⟩ := open_int Try.underlying3 (hval 4 3 v4 rfl rfl) h4
  obtain ⟨x5, rfl, _, _, wx5⟩ := open_int Try.underlying3 (hval 5 3 v5 rfl rfl) h5
  clear hA0 hval0
  refine (walk_ModelDoes (w := W) m0 a0 c0 b0 e0 M0 m1 a1 c1 b1 e1 M1 o2 x3 wx3 x4 wx4 x5 wx5).mono fun e W' ⟨he, bel⟩ => ?_
  subst he
  exact ⟨_, rfl, _, _, _, [], _, [], hW', trodAll_mk1 (shut_bool Try.underlying4 _), (trodAll_cons_mk (Below.trod laidOut (by kernel_rfl) (of_decide_eq_true (by kernel_rfl)) k0 bel lt0) (trodAll_cons_mk (Below.trod laidOut (by kernel_rfl) (of_decide_eq_true (by kernel_rfl)) k1 bel lt1) (trodAll_cons_mk (Below.trod laidOut (by kernel_rfl) (of_decide_eq_true (by kernel_rfl)) k2 bel lt2) (trodAll_cons_mk (Below.trod laidOut (by kernel_rfl) (of_decide_eq_true (by kernel_rfl)) k3 bel lt3) (trodAll_cons_mk (Below.trod laidOut (by kernel_rfl) (of_decide_eq_true (by kernel_rfl)) k4 bel lt4) (trodAll_cons_mk (Below.trod laidOut (by kernel_rfl) (of_decide_eq_true (by kernel_rfl)) k5 bel lt5) trodAll_mk0)))))), rfl, bel.frame _, fun h => by cases h⟩

theorem ModelDoes_over : Rows.modelDoesRow.holds Try.pinned (OpenSpec.ofChange Rows.modelDoesSpec) :=
  OpenClaim.holds_of_wide 9 Try.f9 rfl rfl rfl rfl rfl rfl rfl ⟨rfl, rfl, rfl, rfl, rfl⟩ rfl rfl rfl rfl rfl (by kernel_rfl) Try.func9 (by kernel_rfl)
    (of_decide_eq_true (by kernel_rfl)) (by unfold Func.isWrapper; first | (rw [if_pos (by decide +kernel)]; kernel_rfl) | (rw [if_neg (by decide +kernel)]; exact ⟨rfl, rfl⟩))
    (fun os started H enc _ => ModelDoes_lifted os started H enc)

/-- the statement -/
theorem ModelDoes_holds : Rows.ModelDoesSaid := ModelDoes_over
#print axioms ModelDoes_holds
end Go.Proofs.Ytmehbonjpmlmfaa
