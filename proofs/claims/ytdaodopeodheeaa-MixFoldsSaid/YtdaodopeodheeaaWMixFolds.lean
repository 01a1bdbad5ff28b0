/- The walk of MixFolds: the Go text answers true and writes nothing that was there. -/
import Derived.Test.YtdaodopeodheeaaRefF
import Derived.Test.YtdaodopeodheeaaMixD
namespace Go.Proofs.Ytdaodopeodheeaa
open Go.RowKit

set_option maxRecDepth 100000 in
set_option maxHeartbeats 4000000 in
theorem mfolds_mid (a0 a1 : BitVec 64) (a : Option Addr) (l : List (BitVec 8)) (cap : Nat) (h5 : 500 < l.length ∧ l.length ≤ 65536)  (w : World) (hL : Bytes w a l) :
    Calls Try.prog 5 #[.agg #[.int .u64 (U a0), .int .u64 (U a1)], .slice a l.length cap] w fun e w' => e = .returned (.bool true) ∧ Below w.heap.size w w' := by
  have hq := eq_blocks
  have t1 : decide ((500 : Int) < (l.length : Int)) = true := decide_eq_true (by omega)
  have t2 : decide ((l.length : Int) ≤ 65536) = true := decide_eq_true (by omega)
  have t2n : decide (l.length ≤ 65536) = true := decide_eq_true (by omega)
  have ZA : Hid (Blk (w.alloc (.cells #[.int .u64 (U a0), .int .u64 (U a1)] 24)) w.heap.size 24 #[.int .u64 (U a0), .int .u64 (U a1)]) := mkHid (Blk.new _ _ _)
  have KB : Hid (Below w.heap.size w (w.alloc (.cells #[.int .u64 (U a0), .int .u64 (U a1)] 24))) := mkHid ((Below.refl _ _).alloc (Nat.le_refl _) _)
  have HL := mkHid (hL.below ((Below.refl _ _).alloc (Nat.le_refl _) (.cells #[.int .u64 (U a0), .int .u64 (U a1)] 24)))
  clear hL
  have cZA := ZA.out.two
  have lZA := ZA.out.lt
  go_enter Try.func5, Try.ntmps5
  go_wp2_with fail
  refine (live03 _).mono ?_
  rintro e w1 ⟨rfl, hb1⟩
  replace ZA := mkHid (ZA.out.keep hb1)
  replace KB := mkHid (KB.out.step hb1)
  replace HL := mkHid (HL.out.below hb1)
  clear cZA lZA
  have cZA := ZA.out.two
  have lZA := ZA.out.lt
  clear hb1
  go_wp2_with fail
  go_ret
  exact ⟨rfl, KB.out⟩

set_option maxRecDepth 100000 in
set_option maxHeartbeats 4000000 in
theorem mfolds_great (a0 a1 : BitVec 64) (a : Option Addr) (l : List (BitVec 8)) (cap : Nat) (h5 : 70000 < l.length)  (w : World) (hL : Bytes w a l) :
    Calls Try.prog 5 #[.agg #[.int .u64 (U a0), .int .u64 (U a1)], .slice a l.length cap] w fun e w' => e = .returned (.bool true) ∧ Below w.heap.size w w' := by
  have hq := eq_blocks
  have t1 : decide ((500 : Int) < (l.length : Int)) = true := decide_eq_true (by omega)
  have t2 : decide ((l.length : Int) ≤ 65536) = false := decide_eq_false (by omega)
  have t2n : decide (l.length ≤ 65536) = false := decide_eq_false (by omega)
  have t3 : decide ((70000 : Int) < (l.length : Int)) = true := decide_eq_true (by omega)
  have ZA : Hid (Blk (w.alloc (.cells #[.int .u64 (U a0), .int .u64 (U a1)] 24)) w.heap.size 24 #[.int .u64 (U a0), .int .u64 (U a1)]) := mkHid (Blk.new _ _ _)
  have KB : Hid (Below w.heap.size w (w.alloc (.cells #[.int .u64 (U a0), .int .u64 (U a1)] 24))) := mkHid ((Below.refl _ _).alloc (Nat.le_refl _) _)
  have HL := mkHid (hL.below ((Below.refl _ _).alloc (Nat.le_refl _) (.cells #[.int .u64 (U a0), .int .u64 (U a1)] 24)))
  clear hL
  have cZA := ZA.out.two
  have lZA := ZA.out.lt
  go_enter Try.func5, Try.ntmps5
  go_wp2_with fail
  refine (live03 _).mono ?_
  rintro e w1 ⟨rfl, hb1⟩
  replace ZA := mkHid (ZA.out.keep hb1)
  replace KB := mkHid (KB.out.step hb1)
  replace HL := mkHid (HL.out.below hb1)
  clear cZA lZA
  have cZA := ZA.out.two
  have lZA := ZA.out.lt
  clear hb1
  go_wp2_with fail
  go_ret
  exact ⟨rfl, KB.out⟩

set_option maxRecDepth 100000 in
set_option maxHeartbeats 4000000 in
theorem mfolds_sixteen (a0 a1 : BitVec 64) (a : Option Addr) (l : List (BitVec 8)) (cap : Nat) (h16 : l.length = 16) {z0 z1 p0 p1 : BitVec 64} (e1 : Hid (foldB l (a0, a1) = (z0, z1))) (e2 : Hid (blockOf l = (p0, p1))) (hcap : l.length ≤ cap)  (w : World) (hL : Bytes w a l) :
    Calls Try.prog 5 #[.agg #[.int .u64 (U a0), .int .u64 (U a1)], .slice a 16 cap] w fun e w' => e = .returned (.bool true) ∧ Below w.heap.size w w' := by
  have hq := eq_blocks
  have L16 : Hid (16 = l.length) := mkHid h16.symm
  have hcap' : 16 ≤ cap := by omega
  have hl : Hid (l.length ≤ 65536) := mkHid (by omega)
  have H16 := mkHid h16
  clear h16 hcap
  have ZA : Hid (Blk (w.alloc (.cells #[.int .u64 (U a0), .int .u64 (U a1)] 24)) w.heap.size 24 #[.int .u64 (U a0), .int .u64 (U a1)]) := mkHid (Blk.new _ _ _)
  have KB : Hid (Below w.heap.size w (w.alloc (.cells #[.int .u64 (U a0), .int .u64 (U a1)] 24))) := mkHid ((Below.refl _ _).alloc (Nat.le_refl _) _)
  have HL := mkHid (hL.below ((Below.refl _ _).alloc (Nat.le_refl _) (.cells #[.int .u64 (U a0), .int .u64 (U a1)] 24)))
  clear hL
  have cZA := ZA.out.two
  have lZA := ZA.out.lt
  go_enter Try.func5, Try.ntmps5
  go_wp2_with fail
  refine (live03 _).mono ?_
  rintro e w1 ⟨rfl, hb1⟩
  replace ZA := mkHid (ZA.out.keep hb1)
  replace KB := mkHid (KB.out.step hb1)
  replace HL := mkHid (HL.out.below hb1)
  clear cZA lZA
  have cZA := ZA.out.two
  have lZA := ZA.out.lt
  clear hb1
  have cv : ∀ {W : World}, Bytes W a l → (convert 25 9 (.slice a 16 cap)).run Try.prog W = .ok (.string (strOf l)) W := fun h => str_conv L16.out cap h
  have c1 := cv HL.out
  go_wp2_with fail
  refine (fold_eq e1 L16.out rfl rfl a cap _ hl.out hcap' HL.out).mono ?_
  rintro e w2 ⟨rfl, hb2⟩
  replace ZA := mkHid (ZA.out.keep hb2)
  replace KB := mkHid (KB.out.step hb2)
  replace HL := mkHid (HL.out.below hb2)
  clear cZA lZA
  have cZA := ZA.out.two
  have lZA := ZA.out.lt
  clear hb2
  have Sw2 : w.heap.size ≤ w2.heap.size := KB.out.size
  clear c1
  go_wp2_with fail
  replace ZA := mkHid (ZA.out.alloc (.cells #[.int .u64 (U z0), .int .u64 (U z1)] 24))
  replace KB := mkHid (KB.out.alloc KB.out.size (.cells #[.int .u64 (U z0), .int .u64 (U z1)] 24))
  replace HL := mkHid (HL.out.below ((Below.refl _ _).alloc (Nat.le_refl _) (.cells #[.int .u64 (U z0), .int .u64 (U z1)] 24)))
  clear cZA lZA
  have cZA := ZA.out.two
  have lZA := ZA.out.lt
  have ZX : Hid (Blk (w2.alloc (.cells #[.int .u64 (U z0), .int .u64 (U z1)] 24)) w2.heap.size 24 #[.int .u64 (U z0), .int .u64 (U z1)]) := mkHid (Blk.new _ _ _)
  have cZX := ZX.out.two
  have lZX := ZX.out.lt
  refine (rfold_eq e1 L16.out a cap _ hl.out hcap' HL.out).mono ?_
  rintro e w3 ⟨rfl, hb3⟩
  replace ZA := mkHid (ZA.out.keep hb3)
  replace KB := mkHid (KB.out.step hb3)
  replace HL := mkHid (HL.out.below hb3)
  replace ZX := mkHid (ZX.out.keep hb3)
  clear cZA lZA
  have cZA := ZA.out.two
  have lZA := ZA.out.lt
  clear cZX lZX
  have cZX := ZX.out.two
  have lZX := ZX.out.lt
  clear hb3
  have Sw3 : w.heap.size ≤ w3.heap.size := KB.out.size
  go_wp2_with fail
  replace ZA := mkHid (ZA.out.alloc (.cells #[.int .u64 (U z0), .int .u64 (U z1)] 24))
  replace KB := mkHid (KB.out.alloc KB.out.size (.cells #[.int .u64 (U z0), .int .u64 (U z1)] 24))
  replace HL := mkHid (HL.out.below ((Below.refl _ _).alloc (Nat.le_refl _) (.cells #[.int .u64 (U z0), .int .u64 (U z1)] 24)))
  replace ZX := mkHid (ZX.out.alloc (.cells #[.int .u64 (U z0), .int .u64 (U z1)] 24))
  clear cZA lZA
  have cZA := ZA.out.two
  have lZA := ZA.out.lt
  clear cZX lZX
  have cZX := ZX.out.two
  have lZX := ZX.out.lt
  have ZY : Hid (Blk (w3.alloc (.cells #[.int .u64 (U z0), .int .u64 (U z1)] 24)) w3.heap.size 24 #[.int .u64 (U z0), .int .u64 (U z1)]) := mkHid (Blk.new _ _ _)
  have cZY := ZY.out.two
  have lZY := ZY.out.lt
  refine (of_eq e2 H16.out rfl a cap _ HL.out).mono ?_
  rintro e w4 ⟨rfl, hb4⟩
  replace ZA := mkHid (ZA.out.keep hb4)
  replace KB := mkHid (KB.out.step hb4)
  replace HL := mkHid (HL.out.below hb4)
  replace ZX := mkHid (ZX.out.keep hb4)
  replace ZY := mkHid (ZY.out.keep hb4)
  clear cZA lZA
  have cZA := ZA.out.two
  have lZA := ZA.out.lt
  clear cZX lZX
  have cZX := ZX.out.two
  have lZX := ZX.out.lt
  clear cZY lZY
  have cZY := ZY.out.two
  have lZY := ZY.out.lt
  clear hb4
  have Sw4 : w.heap.size ≤ w4.heap.size := KB.out.size
  go_wp2_with fail
  replace ZA := mkHid (ZA.out.alloc (.cells #[.int .u64 (U p0), .int .u64 (U p1)] 24))
  replace KB := mkHid (KB.out.alloc KB.out.size (.cells #[.int .u64 (U p0), .int .u64 (U p1)] 24))
  replace HL := mkHid (HL.out.below ((Below.refl _ _).alloc (Nat.le_refl _) (.cells #[.int .u64 (U p0), .int .u64 (U p1)] 24)))
  replace ZX := mkHid (ZX.out.alloc (.cells #[.int .u64 (U p0), .int .u64 (U p1)] 24))
  replace ZY := mkHid (ZY.out.alloc (.cells #[.int .u64 (U p0), .int .u64 (U p1)] 24))
  clear cZA lZA
  have cZA := ZA.out.two
  have lZA := ZA.out.lt
  clear cZX lZX
  have cZX := ZX.out.two
  have lZX := ZX.out.lt
  clear cZY lZY
  have cZY := ZY.out.two
  have lZY := ZY.out.lt
  have ZP : Hid (Blk (w4.alloc (.cells #[.int .u64 (U p0), .int .u64 (U p1)] 24)) w4.heap.size 24 #[.int .u64 (U p0), .int .u64 (U p1)]) := mkHid (Blk.new _ _ _)
  have cZP := ZP.out.two
  have lZP := ZP.out.lt
  refine (rof_yes e2 H16.out rfl a cap hcap' _ HL.out).mono ?_
  rintro e w5 ⟨rfl, hb5⟩
  replace ZA := mkHid (ZA.out.keep hb5)
  replace KB := mkHid (KB.out.step hb5)
  replace HL := mkHid (HL.out.below hb5)
  replace ZX := mkHid (ZX.out.keep hb5)
  replace ZY := mkHid (ZY.out.keep hb5)
  replace ZP := mkHid (ZP.out.keep hb5)
  clear cZA lZA
  have cZA := ZA.out.two
  have lZA := ZA.out.lt
  clear cZX lZX
  have cZX := ZX.out.two
  have lZX := ZX.out.lt
  clear cZY lZY
  have cZY := ZY.out.two
  have lZY := ZY.out.lt
  clear cZP lZP
  have cZP := ZP.out.two
  have lZP := ZP.out.lt
  clear hb5
  have Sw5 : w.heap.size ≤ w5.heap.size := KB.out.size
  have c2 := cv (HL.out.below ((Below.refl _ _).alloc (Nat.le_refl _) (.cells #[.int .u64 (U p0), .int .u64 (U p1)] 24)))
  go_wp2_with fail
  have KE := KB.out.alloc Sw5 (.cells #[.int .u64 (U p0), .int .u64 (U p1)] 24)
  go_ret
  exact ⟨rfl, KE⟩

set_option maxRecDepth 100000 in
set_option maxHeartbeats 4000000 in
theorem mfolds_short (a0 a1 : BitVec 64) (a : Option Addr) (l : List (BitVec 8)) (cap : Nat) (h5 : l.length ≤ 500) (h16 : ¬ l.length = 16) {z0 z1 : BitVec 64} (e1 : Hid (foldB l (a0, a1) = (z0, z1))) (hcap : l.length ≤ cap)  (w : World) (hL : Bytes w a l) :
    Calls Try.prog 5 #[.agg #[.int .u64 (U a0), .int .u64 (U a1)], .slice a l.length cap] w fun e w' => e = .returned (.bool true) ∧ Below w.heap.size w w' := by
  have hq := eq_blocks
  have t1 : decide ((500 : Int) < (l.length : Int)) = false := decide_eq_false (by omega)
  have t3 : decide ((70000 : Int) < (l.length : Int)) = false := decide_eq_false (by omega)
  have hl : Hid (l.length ≤ 65536) := mkHid (by omega)
  have hn2 : ((l.length : Int) != 16) = true := bne_iff_ne.2 (by omega)
  have hn3 : (l.length != 16) = true := bne_iff_ne.2 h16
  clear h16
  have ZA : Hid (Blk (w.alloc (.cells #[.int .u64 (U a0), .int .u64 (U a1)] 24)) w.heap.size 24 #[.int .u64 (U a0), .int .u64 (U a1)]) := mkHid (Blk.new _ _ _)
  have KB : Hid (Below w.heap.size w (w.alloc (.cells #[.int .u64 (U a0), .int .u64 (U a1)] 24))) := mkHid ((Below.refl _ _).alloc (Nat.le_refl _) _)
  have HL := mkHid (hL.below ((Below.refl _ _).alloc (Nat.le_refl _) (.cells #[.int .u64 (U a0), .int .u64 (U a1)] 24)))
  clear hL
  have cZA := ZA.out.two
  have lZA := ZA.out.lt
  go_enter Try.func5, Try.ntmps5
  go_wp2_with fail
  refine (live03 _).mono ?_
  rintro e w1 ⟨rfl, hb1⟩
  replace ZA := mkHid (ZA.out.keep hb1)
  replace KB := mkHid (KB.out.step hb1)
  replace HL := mkHid (HL.out.below hb1)
  clear cZA lZA
  have cZA := ZA.out.two
  have lZA := ZA.out.lt
  clear hb1
  have cv : ∀ {W : World}, Bytes W a l → (convert 25 9 (.slice a l.length cap)).run Try.prog W = .ok (.string (strOf l)) W := fun h => str_conv rfl cap h
  have c1 := cv HL.out
  go_wp2_with fail
  refine (fold_eq e1 rfl rfl rfl a cap _ hl.out hcap HL.out).mono ?_
  rintro e w2 ⟨rfl, hb2⟩
  replace ZA := mkHid (ZA.out.keep hb2)
  replace KB := mkHid (KB.out.step hb2)
  replace HL := mkHid (HL.out.below hb2)
  clear cZA lZA
  have cZA := ZA.out.two
  have lZA := ZA.out.lt
  clear hb2
  have Sw2 : w.heap.size ≤ w2.heap.size := KB.out.size
  clear c1
  go_wp2_with fail
  replace ZA := mkHid (ZA.out.alloc (.cells #[.int .u64 (U z0), .int .u64 (U z1)] 24))
  replace KB := mkHid (KB.out.alloc KB.out.size (.cells #[.int .u64 (U z0), .int .u64 (U z1)] 24))
  replace HL := mkHid (HL.out.below ((Below.refl _ _).alloc (Nat.le_refl _) (.cells #[.int .u64 (U z0), .int .u64 (U z1)] 24)))
  clear cZA lZA
  have cZA := ZA.out.two
  have lZA := ZA.out.lt
  have ZX : Hid (Blk (w2.alloc (.cells #[.int .u64 (U z0), .int .u64 (U z1)] 24)) w2.heap.size 24 #[.int .u64 (U z0), .int .u64 (U z1)]) := mkHid (Blk.new _ _ _)
  have cZX := ZX.out.two
  have lZX := ZX.out.lt
  refine (rfold_eq e1 rfl a cap _ hl.out hcap HL.out).mono ?_
  rintro e w3 ⟨rfl, hb3⟩
  replace ZA := mkHid (ZA.out.keep hb3)
  replace KB := mkHid (KB.out.step hb3)
  replace HL := mkHid (HL.out.below hb3)
  replace ZX := mkHid (ZX.out.keep hb3)
  clear cZA lZA
  have cZA := ZA.out.two
  have lZA := ZA.out.lt
  clear cZX lZX
  have cZX := ZX.out.two
  have lZX := ZX.out.lt
  clear hb3
  have Sw3 : w.heap.size ≤ w3.heap.size := KB.out.size
  go_wp2_with fail
  replace ZA := mkHid (ZA.out.alloc (.cells #[.int .u64 (U z0), .int .u64 (U z1)] 24))
  replace KB := mkHid (KB.out.alloc KB.out.size (.cells #[.int .u64 (U z0), .int .u64 (U z1)] 24))
  replace HL := mkHid (HL.out.below ((Below.refl _ _).alloc (Nat.le_refl _) (.cells #[.int .u64 (U z0), .int .u64 (U z1)] 24)))
  replace ZX := mkHid (ZX.out.alloc (.cells #[.int .u64 (U z0), .int .u64 (U z1)] 24))
  clear cZA lZA
  have cZA := ZA.out.two
  have lZA := ZA.out.lt
  clear cZX lZX
  have cZX := ZX.out.two
  have lZX := ZX.out.lt
  have ZY : Hid (Blk (w3.alloc (.cells #[.int .u64 (U z0), .int .u64 (U z1)] 24)) w3.heap.size 24 #[.int .u64 (U z0), .int .u64 (U z1)]) := mkHid (Blk.new _ _ _)
  have cZY := ZY.out.two
  have lZY := ZY.out.lt
  refine (of_not a _ cap _ hn2).mono ?_
  rintro e w4 ⟨rfl, hb4⟩
  replace ZA := mkHid (ZA.out.keep hb4)
  replace KB := mkHid (KB.out.step hb4)
  replace HL := mkHid (HL.out.below hb4)
  replace ZX := mkHid (ZX.out.keep hb4)
  replace ZY := mkHid (ZY.out.keep hb4)
  clear cZA lZA
  have cZA := ZA.out.two
  have lZA := ZA.out.lt
  clear cZX lZX
  have cZX := ZX.out.two
  have lZX := ZX.out.lt
  clear cZY lZY
  have cZY := ZY.out.two
  have lZY := ZY.out.lt
  clear hb4
  have Sw4 : w.heap.size ≤ w4.heap.size := KB.out.size
  go_wp2_with fail
  replace ZA := mkHid (ZA.out.alloc (.cells #[.int .u64 (0), .int .u64 (0)] 24))
  replace KB := mkHid (KB.out.alloc KB.out.size (.cells #[.int .u64 (0), .int .u64 (0)] 24))
  replace HL := mkHid (HL.out.below ((Below.refl _ _).alloc (Nat.le_refl _) (.cells #[.int .u64 (0), .int .u64 (0)] 24)))
  replace ZX := mkHid (ZX.out.alloc (.cells #[.int .u64 (0), .int .u64 (0)] 24))
  replace ZY := mkHid (ZY.out.alloc (.cells #[.int .u64 (0), .int .u64 (0)] 24))
  clear cZA lZA
  have cZA := ZA.out.two
  have lZA := ZA.out.lt
  clear cZX lZX
  have cZX := ZX.out.two
  have lZX := ZX.out.lt
  clear cZY lZY
  have cZY := ZY.out.two
  have lZY := ZY.out.lt
  have ZP : Hid (Blk (w4.alloc (.cells #[.int .u64 (0), .int .u64 (0)] 24)) w4.heap.size 24 #[.int .u64 (0), .int .u64 (0)]) := mkHid (Blk.new _ _ _)
  have cZP := ZP.out.two
  have lZP := ZP.out.lt
  refine (rof_not a _ cap _ hn2).mono ?_
  rintro e w5 ⟨rfl, hb5⟩
  replace ZA := mkHid (ZA.out.keep hb5)
  replace KB := mkHid (KB.out.step hb5)
  replace HL := mkHid (HL.out.below hb5)
  replace ZX := mkHid (ZX.out.keep hb5)
  replace ZY := mkHid (ZY.out.keep hb5)
  replace ZP := mkHid (ZP.out.keep hb5)
  clear cZA lZA
  have cZA := ZA.out.two
  have lZA := ZA.out.lt
  clear cZX lZX
  have cZX := ZX.out.two
  have lZX := ZX.out.lt
  clear cZY lZY
  have cZY := ZY.out.two
  have lZY := ZY.out.lt
  clear cZP lZP
  have cZP := ZP.out.two
  have lZP := ZP.out.lt
  clear hb5
  have Sw5 : w.heap.size ≤ w5.heap.size := KB.out.size
  have c2 := cv (HL.out.below ((Below.refl _ _).alloc (Nat.le_refl _) (.cells #[.int .u64 (0), .int .u64 (0)] 24)))
  go_wp2_with fail
  have KE := KB.out.alloc Sw5 (.cells #[.int .u64 (0), .int .u64 (0)] 24)
  go_ret
  exact ⟨rfl, KE⟩

set_option maxRecDepth 100000 in
set_option maxHeartbeats 4000000 in
theorem mfolds_long (a0 a1 : BitVec 64) (a : Option Addr) (l : List (BitVec 8)) (cap : Nat) (h5 : 65536 < l.length) (h7 : l.length ≤ 70000) (h16 : ¬ l.length = 16) (_hcap : l.length ≤ cap)  (w : World) (hL : Bytes w a l) :
    Calls Try.prog 5 #[.agg #[.int .u64 (U a0), .int .u64 (U a1)], .slice a l.length cap] w fun e w' => e = .returned (.bool true) ∧ Below w.heap.size w w' := by
  have hq := eq_blocks
  have t1 : decide ((500 : Int) < (l.length : Int)) = true := decide_eq_true (by omega)
  have t2 : decide ((l.length : Int) ≤ 65536) = false := decide_eq_false (by omega)
  have t2n : decide (l.length ≤ 65536) = false := decide_eq_false (by omega)
  have t3 : decide ((70000 : Int) < (l.length : Int)) = false := decide_eq_false (by omega)
  have hn2 : ((l.length : Int) != 16) = true := bne_iff_ne.2 (by omega)
  have hn3 : (l.length != 16) = true := bne_iff_ne.2 h16
  clear h16
  have ZA : Hid (Blk (w.alloc (.cells #[.int .u64 (U a0), .int .u64 (U a1)] 24)) w.heap.size 24 #[.int .u64 (U a0), .int .u64 (U a1)]) := mkHid (Blk.new _ _ _)
  have KB : Hid (Below w.heap.size w (w.alloc (.cells #[.int .u64 (U a0), .int .u64 (U a1)] 24))) := mkHid ((Below.refl _ _).alloc (Nat.le_refl _) _)
  have HL := mkHid (hL.below ((Below.refl _ _).alloc (Nat.le_refl _) (.cells #[.int .u64 (U a0), .int .u64 (U a1)] 24)))
  clear hL
  have cZA := ZA.out.two
  have lZA := ZA.out.lt
  go_enter Try.func5, Try.ntmps5
  go_wp2_with fail
  refine (live03 _).mono ?_
  rintro e w1 ⟨rfl, hb1⟩
  replace ZA := mkHid (ZA.out.keep hb1)
  replace KB := mkHid (KB.out.step hb1)
  replace HL := mkHid (HL.out.below hb1)
  clear cZA lZA
  have cZA := ZA.out.two
  have lZA := ZA.out.lt
  clear hb1
  have cv : ∀ {W : World}, Bytes W a l → (convert 25 9 (.slice a l.length cap)).run Try.prog W = .ok (.string (strOf l)) W := fun h => str_conv rfl cap h
  have c1 := cv HL.out
  go_wp2_with fail
  refine (fold_long _ _ a _ cap _ h5).mono ?_
  rintro e w2 ⟨rfl, hb2⟩
  replace ZA := mkHid (ZA.out.keep hb2)
  replace KB := mkHid (KB.out.step hb2)
  replace HL := mkHid (HL.out.below hb2)
  clear cZA lZA
  have cZA := ZA.out.two
  have lZA := ZA.out.lt
  clear hb2
  have Sw2 : w.heap.size ≤ w2.heap.size := KB.out.size
  clear c1
  go_wp2_with fail
  replace ZA := mkHid (ZA.out.alloc (.cells #[.int .u64 (0), .int .u64 (0)] 24))
  replace KB := mkHid (KB.out.alloc KB.out.size (.cells #[.int .u64 (0), .int .u64 (0)] 24))
  replace HL := mkHid (HL.out.below ((Below.refl _ _).alloc (Nat.le_refl _) (.cells #[.int .u64 (0), .int .u64 (0)] 24)))
  clear cZA lZA
  have cZA := ZA.out.two
  have lZA := ZA.out.lt
  have ZX : Hid (Blk (w2.alloc (.cells #[.int .u64 (0), .int .u64 (0)] 24)) w2.heap.size 24 #[.int .u64 (0), .int .u64 (0)]) := mkHid (Blk.new _ _ _)
  have cZX := ZX.out.two
  have lZX := ZX.out.lt
  refine (rfold_long _ _ a _ cap _ h5).mono ?_
  rintro e w3 ⟨rfl, hb3⟩
  replace ZA := mkHid (ZA.out.keep hb3)
  replace KB := mkHid (KB.out.step hb3)
  replace HL := mkHid (HL.out.below hb3)
  replace ZX := mkHid (ZX.out.keep hb3)
  clear cZA lZA
  have cZA := ZA.out.two
  have lZA := ZA.out.lt
  clear cZX lZX
  have cZX := ZX.out.two
  have lZX := ZX.out.lt
  clear hb3
  have Sw3 : w.heap.size ≤ w3.heap.size := KB.out.size
  go_wp2_with fail
  replace ZA := mkHid (ZA.out.alloc (.cells #[.int .u64 (0), .int .u64 (0)] 24))
  replace KB := mkHid (KB.out.alloc KB.out.size (.cells #[.int .u64 (0), .int .u64 (0)] 24))
  replace HL := mkHid (HL.out.below ((Below.refl _ _).alloc (Nat.le_refl _) (.cells #[.int .u64 (0), .int .u64 (0)] 24)))
  replace ZX := mkHid (ZX.out.alloc (.cells #[.int .u64 (0), .int .u64 (0)] 24))
  clear cZA lZA
  have cZA := ZA.out.two
  have lZA := ZA.out.lt
  clear cZX lZX
  have cZX := ZX.out.two
  have lZX := ZX.out.lt
  have ZY : Hid (Blk (w3.alloc (.cells #[.int .u64 (0), .int .u64 (0)] 24)) w3.heap.size 24 #[.int .u64 (0), .int .u64 (0)]) := mkHid (Blk.new _ _ _)
  have cZY := ZY.out.two
  have lZY := ZY.out.lt
  refine (of_not a _ cap _ hn2).mono ?_
  rintro e w4 ⟨rfl, hb4⟩
  replace ZA := mkHid (ZA.out.keep hb4)
  replace KB := mkHid (KB.out.step hb4)
  replace HL := mkHid (HL.out.below hb4)
  replace ZX := mkHid (ZX.out.keep hb4)
  replace ZY := mkHid (ZY.out.keep hb4)
  clear cZA lZA
  have cZA := ZA.out.two
  have lZA := ZA.out.lt
  clear cZX lZX
  have cZX := ZX.out.two
  have lZX := ZX.out.lt
  clear cZY lZY
  have cZY := ZY.out.two
  have lZY := ZY.out.lt
  clear hb4
  have Sw4 : w.heap.size ≤ w4.heap.size := KB.out.size
  go_wp2_with fail
  replace ZA := mkHid (ZA.out.alloc (.cells #[.int .u64 (0), .int .u64 (0)] 24))
  replace KB := mkHid (KB.out.alloc KB.out.size (.cells #[.int .u64 (0), .int .u64 (0)] 24))
  replace HL := mkHid (HL.out.below ((Below.refl _ _).alloc (Nat.le_refl _) (.cells #[.int .u64 (0), .int .u64 (0)] 24)))
  replace ZX := mkHid (ZX.out.alloc (.cells #[.int .u64 (0), .int .u64 (0)] 24))
  replace ZY := mkHid (ZY.out.alloc (.cells #[.int .u64 (0), .int .u64 (0)] 24))
  clear cZA lZA
  have cZA := ZA.out.two
  have lZA := ZA.out.lt
  clear cZX lZX
  have cZX := ZX.out.two
  have lZX := ZX.out.lt
  clear cZY lZY
  have cZY := ZY.out.two
  have lZY := ZY.out.lt
  have ZP : Hid (Blk (w4.alloc (.cells #[.int .u64 (0), .int .u64 (0)] 24)) w4.heap.size 24 #[.int .u64 (0), .int .u64 (0)]) := mkHid (Blk.new _ _ _)
  have cZP := ZP.out.two
  have lZP := ZP.out.lt
  refine (rof_not a _ cap _ hn2).mono ?_
  rintro e w5 ⟨rfl, hb5⟩
  replace ZA := mkHid (ZA.out.keep hb5)
  replace KB := mkHid (KB.out.step hb5)
  replace HL := mkHid (HL.out.below hb5)
  replace ZX := mkHid (ZX.out.keep hb5)
  replace ZY := mkHid (ZY.out.keep hb5)
  replace ZP := mkHid (ZP.out.keep hb5)
  clear cZA lZA
  have cZA := ZA.out.two
  have lZA := ZA.out.lt
  clear cZX lZX
  have cZX := ZX.out.two
  have lZX := ZX.out.lt
  clear cZY lZY
  have cZY := ZY.out.two
  have lZY := ZY.out.lt
  clear cZP lZP
  have cZP := ZP.out.two
  have lZP := ZP.out.lt
  clear hb5
  have Sw5 : w.heap.size ≤ w5.heap.size := KB.out.size
  have c2 := cv (HL.out.below ((Below.refl _ _).alloc (Nat.le_refl _) (.cells #[.int .u64 (0), .int .u64 (0)] 24)))
  go_wp2_with fail
  have KE := KB.out.alloc Sw5 (.cells #[.int .u64 (0), .int .u64 (0)] 24)
  go_ret
  exact ⟨rfl, KE⟩
theorem walk_MixFolds (a0 a1 : BitVec 64) (a : Option Addr) (l : List (BitVec 8)) (cap : Nat) (hcap : l.length ≤ cap) (_hm : cap ≤ maxLen) (w : World) (hL : Bytes w a l) (_nz : a = none → cap = 0) :
    Calls Try.prog 5 #[.agg #[.int .u64 (U a0), .int .u64 (U a1)], .slice a l.length cap] w fun e w' => e = .returned (.bool true) ∧ Below w.heap.size w w' := by
  obtain ⟨z0, z1, e1⟩ := pair_ex (foldB l (a0, a1))
  by_cases h : l.length = 16
  · obtain ⟨p0, p1, e2⟩ := pair_ex (blockOf l)
    have c := mfolds_sixteen a0 a1 a l cap h (mkHid e1) (mkHid e2) hcap w hL
    rw [← h] at c
    exact c
  · by_cases h5 : l.length ≤ 500
    · exact mfolds_short a0 a1 a l cap h5 h (mkHid e1) hcap w hL
    · by_cases h6 : l.length ≤ 65536
      · exact mfolds_mid a0 a1 a l cap ⟨by omega, h6⟩ w hL
      · by_cases h7 : l.length ≤ 70000
        · exact mfolds_long a0 a1 a l cap (by omega) h7 h hcap w hL
        · exact mfolds_great a0 a1 a l cap (by omega) w hL
end Go.Proofs.Ytdaodopeodheeaa
